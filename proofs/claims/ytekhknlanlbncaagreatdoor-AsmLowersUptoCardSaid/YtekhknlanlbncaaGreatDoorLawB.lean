/-
  DERIVED. The Lean functions answer as the laws say. Conditions: as each theorem says.
-/
import Derived.Test.YtekhknlanlbncaaGreatDoorLawA
set_option linter.unusedVariables false
set_option linter.unusedSimpArgs false
set_option linter.unusedSectionVars false
namespace Lift.AA
open Go Go.RowKit Lift Go.IntWalk Lift.Fn
set_option linter.unusedVariables false
set_option linter.unusedSimpArgs false
def isDig (c:UInt8):Bool:=decide (48≤c.toNat)&&decide (c.toNat≤57)
def valF (a:Nat) (t:List UInt8):Nat:=t.foldl (fun a c=>a*10+(c.toNat-48)) a
def canon (t:List UInt8):Bool:=t.all isDig&&match t with
 |[]=>false
 |[_]=>true
 |c::_::_=>!(c==48)
theorem zacu {c:UInt8}:isDig c=true↔48≤c.toNat∧c.toNat≤57:=by simp[isDig]
theorem zakl (a:Nat) (t:List UInt8) (c:UInt8):valF a (t++[c])=valF a t*10+(c.toNat-48):=by simp[valF]
theorem zasw:∀ (t:List UInt8) (a:Nat),a≤valF a t
 |[],a=>Nat.le_refl _
 |c::t,a=>by
  have:=zasw t (a*10+(c.toNat-48));show a≤valF (a*10+(c.toNat-48)) t;omega
theorem zaj6 {c:UInt8} (h:isDig c=true):UInt8.ofNat (48+(c.toNat-48))=c:=by
 have:=zacu.1 h;rw[show 48+(c.toNat-48)=c.toNat by omega];exact UInt8.ofNat_toNat
theorem zany {u:Nat} (h:10≤u):Lib.decDigits u=Lib.decDigits (u / 10)++[UInt8.ofNat (48+u % 10)]:=by
 conv=>lhs; rw[Lib.decDigits]
 rw[dif_neg (by omega)]
theorem zaw9:∀ (n:Nat) (t:List UInt8),t.length=n→t≠[]→t.all isDig=true→t.head?≠some 48→1≤valF 0 t∧Lib.decDigits (valF 0 t)=t:=by
 intro n;induction n with
 |zero=>intro t h hn; exact absurd (List.eq_nil_of_length_eq_zero h) hn
 |succ n ih=>
  intro t h hn ha hh;rcases List.eq_nil_or_concat t with rfl|⟨L,c,rfl⟩
  ·exact absurd rfl hn
  rw[List.concat_eq_append] at *;rw[List.all_append,Bool.and_eq_true] at ha;have hc:isDig c=true:=by simpa using ha.2
  have hc':=zacu.1 hc;rw[zakl];by_cases hL:L=[]
  ·subst hL;have hne:c≠48:=fun e=>hh (by simp[e])
   have hv:valF 0 []=0:=rfl;have:c.toNat≠48:=fun e=>hne (by apply UInt8.toNat_inj.1; rw[e]; rfl)
   rw[hv,Nat.zero_mul,Nat.zero_add];refine ⟨by omega,?_⟩;rw[Lib.decDigits_one (by omega),zaj6 hc];rfl
  ·have hl:L.length=n:=by simp at h; exact h
   have hh':L.head?≠some 48:=by
    cases L with
    |nil=>exact absurd rfl hL
    |cons a L=>simpa using hh
   obtain ⟨i1,i2⟩:=ih L hl hL ha.1 hh';refine ⟨by omega,?_⟩;rw[zany (by omega),show (valF 0 L*10+(c.toNat-48)) / 10=valF 0 L by omega,show (valF 0 L*10+(c.toNat-48)) % 10=c.toNat-48 by omega,i2,zaj6 hc]
theorem zans {t:List UInt8} (h:canon t=true):Lib.decDigits (valF 0 t)=t:=by
 unfold canon at h;rw[Bool.and_eq_true] at h;obtain ⟨h1,h2⟩:=h;match t,h1,h2 with
 |[c],h1,_=>
  have hc:isDig c=true:=by simpa using h1
  have hc':=zacu.1 hc;have e:valF 0 [c]=c.toNat-48:=by simp[valF]
  rw[e,Lib.decDigits_one (by omega),zaj6 hc]
 |c::d::r,h1,h2=>
  refine (zaw9 _ (c::d::r) rfl (by simp) h1 (fun e=>?_)).2;have:c=48:=by simpa using e
  subst this;simp at h2
theorem zadn:∀ (n:Nat),valF 0 (Lib.decDigits n)=n∧(Lib.decDigits n).all isDig=true∧Lib.decDigits n≠[]∧((Lib.decDigits n).head? = some 48→n=0):=by
 intro n;induction n using Nat.strongRecOn with
 |_ n ih=>
  by_cases h:n<10
  ·rw[Lib.decDigits_one h];have ht:(UInt8.ofNat (48+n)).toNat=48+n:=by rw[UInt8.toNat_ofNat']; omega
   refine ⟨by simp only[valF,List.foldl_cons,List.foldl_nil,ht]; omega,?_,by simp,fun e=>?_⟩
   ·simp only[List.all_cons,List.all_nil,Bool.and_true];exact zacu.2 (by omega)
   ·have e':UInt8.ofNat (48+n)=48:=by simpa using e
    have:=congrArg UInt8.toNat e';rw[ht] at this;have h48:(48:UInt8).toNat=48:=rfl;omega
  ·obtain ⟨i1,i2,i3,i4⟩:=ih (n / 10) (by omega);have ht:(UInt8.ofNat (48+n % 10)).toNat=48+n % 10:=by rw[UInt8.toNat_ofNat']; omega
   rw[zany (by omega)];refine ⟨?_,?_,by simp,fun e=>?_⟩
   ·rw[zakl,i1,ht]; omega
   ·rw[List.all_append,i2,Bool.true_and];simp only[List.all_cons,List.all_nil,Bool.and_true];exact zacu.2 (by omega)
   ·rw[List.head?_append] at e;cases hq:(Lib.decDigits (n / 10)).head? with
    |none=>exact absurd (List.head?_eq_none_iff.1 hq) i3
    |some c=>
     rw[hq] at e;have:c=48:=by simpa using e
     subst this;have:=i4 hq;omega
theorem zay7:∀ (k n:Nat),1≤k→n<10 ^ k→(Lib.decDigits n).length≤k:=by
 intro k;induction k with
 |zero=>intro n h; omega
 |succ k ih=>
  intro n _ hn;by_cases h:n<10
  ·rw[Lib.decDigits_one h]; simp
  ·have h1:1≤k:=by
    cases k with
    |zero=>simp at hn; omega
    |succ k=>omega
   rw[zany (by omega),List.length_append];have:=ih (n / 10) h1 (by rw[Nat.pow_succ] at hn; omega);simp only[List.length_singleton];omega
theorem zaog (n:Nat):canon (Lib.decDigits n)=true:=by
 obtain ⟨h1,h2,h3,h4⟩:=zadn n;unfold canon;rw[h2,Bool.true_and];match hq:Lib.decDigits n,h3,h4 with
 |[],h3,_=>exact absurd rfl h3
 |[c],_,_=>rfl
 |c::d::r,_,h4=>
  simp only;by_cases e:c=48
  ·subst e;have:=h4 rfl;subst this;rw[Lib.decDigits_one (by decide)] at hq;simp at hq
  ·simpa using e
theorem zaus:∀ (n:Nat) (t:List UInt8),t.length=n→t.all isDig=true→valF 0 t<10 ^ n:=by
 intro n;induction n with
 |zero=>
  intro t h _;have:t=[]:=List.eq_nil_of_length_eq_zero h;subst this;decide
 |succ n ih=>
  intro t h ha;rcases List.eq_nil_or_concat t with rfl|⟨L,c,rfl⟩
  ·cases h
  rw[List.concat_eq_append] at *;rw[List.all_append,Bool.and_eq_true] at ha;have hc:=zacu.1 (show isDig c=true by simpa using ha.2);have:=ih L (by simpa using h) ha.1;rw[zakl,Nat.pow_succ];omega
theorem zar9 (s:List UInt8):bytesOf (ofStr s)=s:=by
 unfold bytesOf ofStr;rw[List.map_map];have:(fun n:Int=>UInt8.ofNat n.toNat)∘(fun b:UInt8=>((b.toNat:Nat):Int))=id:=by
  funext b;simp
 rw[this,List.map_id]
theorem zadz (s:List UInt8):(ofStr s).length=s.length:=by simp[ofStr]
theorem zac4 (a b:List UInt8):ofStr (a++b)=ofStr a++ofStr b:=by unfold ofStr; rw[List.map_append]
def numO:List UInt8→Option Int
 |[]=>none
 | c :: r => bif c == 45 then (bif canon r && decide (r.length ≤ 10) && !(r == [48]) then some (-((valF 0 r : Nat) : Int)) else none)
  else bif canon (c::r)&&decide ((c::r).length≤10) then some ((valF 0 (c::r):Nat):Int) else none
theorem zakh (c:UInt8) (r:List UInt8):numO (c::r)=bif c==45 then (bif canon r&&decide (r.length≤10)&&!(r==[48]) then some (-((valF 0 r:Nat):Int)) else none)
  else bif canon (c::r)&&decide ((c::r).length≤10) then some ((valF 0 (c::r):Nat):Int) else none:=rfl
theorem zapz (n:Nat):∃ c r,Lib.decDigits n=c::r∧(c==45)=false:=by
 obtain ⟨h1,h2,h3,_⟩:=zadn n;match hq:Lib.decDigits n,h3,h2 with
 |[],h3,_=>exact absurd rfl h3
 |c::r,_,h2=>
  rw[List.all_cons,Bool.and_eq_true] at h2;have hc:=zacu.1 h2.1;refine ⟨c,r,rfl,?_⟩;rw[beq_eq_false_iff_ne];intro e;subst e;have:(45:UInt8).toNat=45:=rfl;omega
theorem zaj4 {s:List UInt8} {v:Int} (h:numO s=some v):s=Lib.itoa v∧-9999999999≤v∧v≤9999999999:=by
 have h10:(10:Nat) ^ 10=10000000000:=by decide
 have bnd:∀ t:List UInt8,canon t=true→t.length≤10→valF 0 t≤9999999999:=by
  intro t hc hl;have hc2:=hc;unfold canon at hc2;rw[Bool.and_eq_true] at hc2;have:=zaus _ t rfl hc2.1;have:(10:Nat) ^ t.length≤10 ^ 10:=Nat.pow_le_pow_right (by decide) hl;omega
 cases s with
 |nil=>cases h
 |cons c r=>
  rw[zakh] at h;cases hc:c==45 with
  |true=>
   rw[hc,cond_true] at h;cases hq:canon r&&decide (r.length≤10)&&!(r==[48]) with
   |false=>rw[hq] at h; cases h
   |true=>
    rw[hq] at h;cases h;simp only[Bool.and_eq_true,decide_eq_true_eq,Bool.not_eq_true',beq_eq_false_iff_ne] at hq;obtain ⟨⟨h1,h2⟩,h3⟩:=hq;have hb:=bnd r h1 h2;have hv:1≤valF 0 r:=by
     rcases Nat.eq_zero_or_pos (valF 0 r) with h0|h0
     ·have:=zans h1;rw[h0,Lib.decDigits_one (by decide)] at this;exact absurd this.symm h3
     ·exact h0
    rw[Lib.itoa_neg _ hv,zans h1];have:c=45:=by simpa using hc
    subst this;exact ⟨rfl,by omega,by omega⟩
  |false=>
   rw[hc,cond_false] at h;cases hq:canon (c::r)&&decide ((c::r).length≤10) with
   |false=>rw[hq] at h; cases h
   |true=>
    rw[hq] at h;cases h;simp only[Bool.and_eq_true,decide_eq_true_eq] at hq;have hb:=bnd _ hq.1 hq.2;rw[Lib.itoa_nonneg,zans hq.1];exact ⟨rfl,by omega,by omega⟩
theorem zahw {n:Nat} (h:n≤9999999999):(Lib.decDigits n).length≤10:=by
 have h10:(10:Nat) ^ 10=10000000000:=by decide
 exact zay7 10 n (by decide) (by omega)
theorem zaoz {n:Nat} (h:(Lib.decDigits n).length≤10):n≤9999999999:=by
 have h10:(10:Nat) ^ 10=10000000000:=by decide
 obtain ⟨h1,h2,h3,_⟩:=zadn n;have:=zaus _ (Lib.decDigits n) rfl h2;have:(10:Nat) ^ (Lib.decDigits n).length≤10 ^ 10:=Nat.pow_le_pow_right (by decide) h;omega
theorem zan7 {n:Int} (h0:-9999999999≤n) (h1:n≤9999999999):numO (Lib.itoa n)=some n:=by
 by_cases hn:0≤n
 ·obtain ⟨m,rfl⟩:=Int.eq_ofNat_of_zero_le hn;rw[Lib.itoa_nonneg];obtain ⟨c,r,e,hc⟩:=zapz m;have hcan:=zaog m;have hlen:=zahw (n:=m) (by omega);have hv:=(zadn m).1;rw[e] at hcan hlen hv ⊢;rw[zakh];rw[hc,cond_false,hcan,decide_eq_true hlen,hv];rfl
 ·obtain ⟨m,hm⟩:∃ m:Nat,n=-(m:Int):=⟨n.natAbs,by omega⟩;subst hm;rw[Lib.itoa_neg m (by omega)];rw[zakh];have h48:(Lib.decDigits m==[48])=false:=by
   rw[beq_eq_false_iff_ne];intro e;have:=(zadn m).1;rw[e] at this;have:valF 0 [48]=0:=rfl;omega
  rw[show ((45:UInt8)==45)=true from rfl,cond_true,zaog,decide_eq_true (zahw (n:=m) (by omega)),h48,(zadn m).1];rfl
theorem zaoi:∀ (l:List UInt8) (acc:Nat),l.all isDig=true→valF acc l≤9999999999→Lib.parseUint10 acc l=.ok (valF acc l)
 |[],acc,_,_=>rfl
 |c::l,acc,ha,hv=>by
  rw[List.all_cons,Bool.and_eq_true] at ha;have hc:=zacu.1 ha.1;have hv':valF (acc*10+(c.toNat-48)) l≤9999999999:=hv;have hg:=zasw l (acc*10+(c.toNat-48));show (if 48≤c.toNat∧c.toNat≤57 then _ else _)=_;rw[if_pos hc,if_neg (by omega),if_neg (by omega),zaoi l _ ha.2 hv'];rfl
theorem zas8 {n:Nat} (h:n≤9999999999):Lib.parseMag (Lib.decDigits n)=.ok n:=by
 obtain ⟨h1,h2,h3,_⟩:=zadn n;unfold Lib.parseMag;rw[if_neg h3,zaoi _ 0 h2 (by omega),h1]
theorem zaoo {n:Int} (h0:-9999999999≤n) (h1:n≤9999999999):Lib.atoiAll (Lib.itoa n)=.ok n:=by
 by_cases hn:0≤n
 ·obtain ⟨m,rfl⟩:=Int.eq_ofNat_of_zero_le hn;rw[Lib.itoa_nonneg];have hp:=zas8 (n:=m) (by omega);obtain ⟨_,h2,h3,_⟩:=zadn m;match hq:Lib.decDigits m,h3,h2,hp with
  |[],h3,_,_=>exact absurd rfl h3
  |c::r,_,h2,hp=>
   rw[List.all_cons,Bool.and_eq_true] at h2;have hc:=zacu.1 h2.1;rw[Lib.atoiAll_plain c r (by omega) (by omega),hp];unfold Lib.signless;simp only;rw[if_neg (by omega)]
 ·obtain ⟨m,hm⟩:∃ m:Nat,n=-(m:Int):=⟨n.natAbs,by omega⟩;subst hm;rw[Lib.itoa_neg m (by omega),Lib.atoiAll_minus,zas8 (by omega)];unfold Lib.signed;simp only;rw[if_neg (by omega)]
def zail (s:List UInt8):List UInt8:=match s with
 |[]=>[]
 |c::r=>bif c==45 then r else c::r
theorem zau7 (s:List UInt8):qbq s [45]=some (zail s):=by
 rw[qbq,zaaa];unfold qbq_f;rw[qaD,zaaa];unfold qaD_f;rw[qaC,zaaa];unfold qaC_f;cases s with
 |nil=>rfl
 |cons c r=>
  have e1:(((c::r).length:Nat):Int)≥(([45]:List UInt8).length:Int):=by simp only[List.length_cons,List.length_nil]; omega
  have e2:(0:Int)≤(([45]:List UInt8).length:Int):=by decide
  rw[decide_eq_true e1,cond_true,decide_eq_true e2,decide_eq_true (show (((c::r).length:Nat):Int)≤(((c::r).length:Nat):Int) from Int.le_refl _)];have e3:(List.drop 0 (List.take (Int.toNat (([45]:List UInt8).length:Int)) (c::r))==[45])=(c==45):=by
   show ([c]==[45])=_;cases h:c==45<;>simp at h<;>simp[h]
  rw[e3];show (bif c==45 then some (List.drop 1 (List.take (Int.toNat (((c::r).length:Nat):Int)) (c::r))) else some (c::r)).bind (fun y=>some y)=some (bif c==45 then r else c::r);rw[Int.toNat_natCast,List.take_length];cases c==45<;>rfl
theorem zaor {v:Int}:(zail (Lib.itoa v)).length≤10↔(-9999999999≤v∧v≤9999999999):=by
 by_cases hn:0≤v
 ·obtain ⟨m,rfl⟩:=Int.eq_ofNat_of_zero_le hn;rw[Lib.itoa_nonneg];obtain ⟨c,r,e,hc⟩:=zapz m;have:zail (Lib.decDigits m)=Lib.decDigits m:=by rw[e]; show (bif c==45 then r else c::r)=c::r; rw[hc]; rfl
  rw[this];refine ⟨fun h=>?_,fun h=>zahw (by omega)⟩;have:=zaoz h;omega
 ·obtain ⟨m,hm⟩:∃ m:Nat,v=-(m:Int):=⟨v.natAbs,by omega⟩;subst hm;rw[Lib.itoa_neg m (by omega)];show (Lib.decDigits m).length≤10↔_;refine ⟨fun h=>?_,fun h=>zahw (by omega)⟩;have:=zaoz h;omega
theorem zas3 {v:Int} (h0:-9223372036854775808≤v) (h1:v≤9223372036854775807):zaco v=some (Lib.itoa v):=by
 rw[zaco,zaaa];unfold zaez;rw[decide_eq_true ⟨h0,h1⟩,cond_true]
theorem zav3 (s:List UInt8) (hl:s.length≤10000000):∃ v b,qaq s=some (v,b)∧(bif b then some v else none)=numO s:=by
 have ha:zabx s=some (zaa8 s):=by
  rw[zabx,zaaa];unfold zad9;rw[decide_eq_true (by omega)];rfl
 rw[qaq,zaaa];unfold qaq_f;rw[ha,Option.bind_some,zau7];simp only[Option.bind_some];cases hA:Lib.atoiAll s with
 |ok v=>
  obtain ⟨b1,b2⟩:=Lib.atoiAll_bounds hA;have e:zaa8 s=(v,false):=by unfold zaa8; rw[hA]
  rw[e];simp only[Bool.not_false,cond_true,Option.bind_some];rw[zas3 b1 b2];simp only[Option.bind_some];refine ⟨v,decide ((((zail s).length:Nat):Int)≤10)&&(Lib.itoa v==s),?_,?_⟩
  ·cases decide ((((zail s).length:Nat):Int)≤10)<;>rfl
  ·by_cases hs:Lib.itoa v=s
   ·rw[show (Lib.itoa v==s)=true by simpa using hs,Bool.and_true,← hs];by_cases ht:(zail (Lib.itoa v)).length≤10
    ·have:=zaor.1 ht;rw[decide_eq_true (by omega),cond_true,zan7 this.1 this.2]
    ·rw[decide_eq_false (by omega),cond_false];cases hq:numO (Lib.itoa v) with
     |none=>rfl
     |some u=>
      obtain ⟨e1,e2,e3⟩:=zaj4 hq;rw[e1] at ht;exact absurd (zaor.2 ⟨e2,e3⟩) ht
   ·rw[show (Lib.itoa v==s)=false by simpa using hs,Bool.and_false,cond_false];cases hq:numO s with
    |none=>rfl
    |some u=>
     obtain ⟨e1,e2,e3⟩:=zaj4 hq;subst e1;rw[zaoo e2 e3] at hA;cases hA;exact absurd rfl hs
 |_=>
  have e:(zaa8 s).2=true:=by unfold zaa8; rw[hA]
  rw[e];refine ⟨(zaa8 s).1,false,rfl,?_⟩;cases hq:numO s with
  |none=>rfl
  |some u=>
   obtain ⟨e1,e2,e3⟩:=zaj4 hq;subst e1;rw[zaoo e2 e3] at hA;cases hA
end Lift.AA
namespace Lift.AA
open Go Go.RowKit Lift Go.IntWalk Lift.Fn
set_option linter.unusedVariables false
set_option linter.unusedSimpArgs false
theorem zaje {α σ ρ:Type} (l:List α) (body:α→σ→Option σ) (out:σ→ρ) (L:Nat→Int→σ→Option ρ)
  (h0:∀ n i s,0≤i→¬ i<(l.length:Int)→L (n+1) i s=some (out s))
  (h1:∀ n i s (x:α),0≤i→i<(l.length:Int)→l[i.toNat]? = some x→L (n+1) i s=(body x s).bind fun s'=>L n (i+1) s') :
  ∀ (k n:Nat) (i:Int) (s:σ),0≤i→l.length-i.toNat≤k→k<n→L n i s=((l.drop i.toNat).foldlM (fun s x=>body x s) s).bind fun s=>some (out s):=by
 intro k;induction k with
 |zero=>
  intro n i s hi hk hn;obtain ⟨n,rfl⟩:∃ q,n=q+1:=⟨n-1,by omega⟩;rw[h0 n i s hi (by omega),List.drop_eq_nil_of_le (by omega)];rfl
 |succ k ih=>
  intro n i s hi hk hn;obtain ⟨n,rfl⟩:∃ q,n=q+1:=⟨n-1,by omega⟩;by_cases c:i<(l.length:Int)
  ·have hlt:i.toNat<l.length:=by omega
   rw[h1 n i s l[i.toNat] hi c (List.getElem?_eq_getElem hlt),List.drop_eq_getElem_cons hlt,List.foldlM_cons];show _=Option.bind (Option.bind _ _) _;rw[Option.bind_assoc];congr 1;funext s';rw[ih n (i+1) s' (by omega) (by omega) (by omega)];congr 3;omega
  ·rw[h0 n i s hi c,List.drop_eq_nil_of_le (by omega)];rfl
def okN (n:Int):Prop:=-2147483647≤n∧n≤2147483647
theorem zai9 {α:Type} (f:α→List UInt8) (body:α→List Int→Option (List Int)) (K:Nat):∀ (l:List α) (B:Nat) (acc:List Int),
  (∀ x∈l,(f x).length≤K∧∀ s:List Int,s.length≤B→body x s=some (s++ofStr (f x)))→acc.length+l.length*K≤B →
  l.foldlM (fun s x=>body x s) acc=some (acc++ofStr (l.flatMap f))
 |[],B,acc,_,_=>by show some acc=_; simp[ofStr]
 |x::l,B,acc,h,hb=>by
  obtain ⟨hx1,hx2⟩:=h x (by simp);rw[List.length_cons,Nat.add_mul] at hb;rw[List.foldlM_cons,hx2 acc (by omega)];show l.foldlM _ _=_;rw[zai9 f body K l B _ (fun y hy=>h y (by simp[hy])) (by rw[List.length_append,zadz]; omega),List.flatMap_cons,zac4,List.append_assoc]
theorem flat_len {α:Type} (f:α→List UInt8) (K:Nat):∀ l:List α,(∀ x∈l,(f x).length≤K)→(l.flatMap f).length≤l.length*K
 |[],_=>by simp
 |x::l,h=>by
  have:=flat_len f K l (fun y hy=>h y (by simp[hy]));have:=h x (by simp);rw[List.flatMap_cons,List.length_append,List.length_cons,Nat.add_mul];omega
theorem ws_ok (w:List UInt8) (acc:List Int) (h:acc.length+w.length≤100000000000000):qbp w acc=some ((w.length:Int),false,acc++ofStr w):=by
 rw[qbp,zaaa];unfold qbp_f;rw[decide_eq_true (by omega),cond_true]
theorem wb_ok (n:Int) (acc:List Int) (h:acc.length≤100000000000000):qbo n acc=some (false,acc++[n]):=by
 rw[qbo,zaaa];unfold qbo_f;rw[decide_eq_true (by simp only[List.length_cons,List.length_nil]; omega),cond_true]
def oneS (n:Int):List UInt8:=32::Lib.itoa n
def lineS (word:List UInt8) (l:List Int):List UInt8:=word++l.flatMap oneS++[10]
theorem zaid {n:Int} (h:okN n):(oneS n).length≤22:=by
 have:=Lib.itoa_length_le n (by have:=h.1; omega) (by have:=h.2; omega);unfold oneS;rw[List.length_cons];omega
theorem zafc {word:List UInt8} {l:List Int} (hl:∀ n∈l,okN n):(lineS word l).length≤word.length+l.length*22+1:=by
 have:=flat_len oneS 22 l (fun n h=>zaid (hl n h));unfold lineS;rw[List.length_append,List.length_append,List.length_singleton];omega
theorem zakz (word:List UInt8) (l:List Int) (acc:List Int) (hw:word.length≤100) (hl:l.length≤100) (hn:∀ n∈l,okN n) (ha:acc.length≤10000000000) :
  qap word l acc=some (acc++ofStr (lineS word l)):=by
 rw[qap,zaaa];unfold qap_f;rw[ws_ok _ _ (by omega),Option.bind_some]
 have := zaje l (fun x s => (qbp (oneS x) s).bind fun y => some y.2.2) id (fun n i s => qap_i2 n l (l.length : Int) i s)
  (fun n i s h0 h=>by simp only[qap_i2,qap_t2,decide_eq_false h,cond_false,id])
  (fun n i s x h0 h hx=>by
   have hok:=hn x (List.mem_of_getElem? hx);have h1:=zaid hok;have hlen:(Lib.itoa x).length≤21:=by unfold oneS at h1; rw[List.length_cons] at h1; omega
   simp only[qap_i2,qap_t2,decide_eq_true h,decide_eq_true h0,cond_true,hx,Option.bind_some,i64_in (i+1) (by omega)];rw[zas3 (by have:=hok.1; omega) (by have:=hok.2; omega),Option.bind_some,decide_eq_true (by omega),cond_true,Option.bind_assoc];rfl)
  l.length fuel 0 (acc++ofStr word) (by omega) (by omega) (by unfold fuel; omega)
 rw[qap_l2,zaaa];simp only;rw[this];rw[show (0:Int).toNat=0 from rfl,List.drop_zero,zai9 oneS _ 22 l 20000000000 (acc++ofStr word) (fun x hx=>⟨zaid (hn x hx),fun s hs=>by rw[ws_ok _ _ (by have:=zaid (hn x hx); omega)]; rfl⟩) (by rw[List.length_append,zadz]; omega)];show Option.bind (qbo 10 _) _=_;have hf:=flat_len oneS 22 l (fun n h=>zaid (hn n h));rw[wb_ok _ _ (by rw[id,List.length_append,List.length_append,zadz,zadz]; omega)];unfold lineS;rw[zac4,zac4];simp only[List.append_assoc,Option.bind_some,id];rfl
def wordS (a:Instr):List UInt8:=match opsL[a.op.toNat]? with
 |some o=>o.word
 |none=>[]
def numsS (a:Instr):List Int:=match opsL[a.op.toNat]? with
 |some o=>[a.a,a.b,a.c].take o.numbers.length
 |none=>[]
def zafr (a:Instr):List UInt8:=lineS (wordS a) (numsS a)
def zac1 (c:ACode):List UInt8:=lineS [116,104,114,101,97,100] [c.regs]++c.instrs.flatMap zafr
def zafw (x:Image):List UInt8:=(lineS [99,101,108,108,115] x.cells++lineS [109,117,116,101,120,101,115] [x.mutexes])++x.threads.flatMap zac1
structure OkI (a:Instr):Prop where
 op1:1≤a.op
 op2:a.op≤29
 na:okN a.a
 nb:okN a.b
 nc:okN a.c
structure OkC (c:ACode):Prop where
 regs:0≤c.regs∧c.regs≤64
 len:c.instrs.length≤4000
 all:∀ a∈c.instrs,OkI a
structure OkX (x:Image):Prop where
 th:x.threads.length≤8
 th1:1≤x.threads.length
 ce:x.cells.length≤8
 mu:0≤x.mutexes∧x.mutexes≤8
 cells:∀ n∈x.cells,okN n
 all:∀ c∈x.threads,OkC c
theorem zakr {n k a b c d e:Int} (h:fitK n k a b c d e=true) (ha:a≤4000) (hb:b≤4000) (hc:c≤4000) (hd:d≤4000) (he:e≤4000):okN n:=by
 unfold fitK at h;unfold okN;cases h1:k==78 with
 |true=>rw[h1] at h; simp only[cond_true,Bool.and_eq_true,decide_eq_true_eq] at h; omega
 |false=>
 cases h2:k==82 with
 |true=>rw[h1,h2] at h; simp only[cond_false,cond_true,Bool.and_eq_true,decide_eq_true_eq] at h; omega
 |false=>
 cases h3:k==73 with
 |true=>rw[h1,h2,h3] at h; simp only[cond_false,cond_true,Bool.and_eq_true,decide_eq_true_eq] at h; omega
 |false=>
 cases h4:k==99 with
 |true=>rw[h1,h2,h3,h4] at h; simp only[cond_false,cond_true,Bool.and_eq_true,decide_eq_true_eq] at h; omega
 |false=>
 cases h5:k==109 with
 |true=>rw[h1,h2,h3,h4,h5] at h; simp only[cond_false,cond_true,Bool.and_eq_true,decide_eq_true_eq] at h; omega
 |false=>
 cases h6:k==116 with
 |true=>rw[h1,h2,h3,h4,h5,h6] at h; simp only[cond_false,cond_true,Bool.and_eq_true,decide_eq_true_eq] at h; omega
 |false=>rw[h1,h2,h3,h4,h5,h6] at h; simp only[cond_false,cond_true,Bool.and_eq_true,decide_eq_true_eq] at h; omega
theorem zahh {x:Image} (h:zacd x=true):OkX x:=by
 unfold zacd headS at h;simp only[Bool.and_eq_true,decide_eq_true_eq,List.all_eq_true] at h;obtain ⟨⟨⟨⟨⟨h1,h2⟩,h3⟩,h4⟩,h5⟩,h6,h7⟩:=h;refine ⟨h2,h1,h3,⟨h4,h5⟩,fun n hn=>?_,fun c hc=>?_⟩
 ·have:=h6 n hn;unfold numS at this;simp only[Bool.and_eq_true,decide_eq_true_eq] at this;exact ⟨this.1,this.2⟩
 ·have:=h7 c hc;unfold codeS at this;simp only[Bool.and_eq_true,decide_eq_true_eq,List.all_eq_true] at this;obtain ⟨⟨⟨⟨g1,g2⟩,g3⟩,g4⟩,g5,g6⟩:=this;refine ⟨⟨g1,g2⟩,g4,fun a ha=>?_⟩;have:=g6 a ha;unfold fitsS at this;simp only[Bool.and_eq_true,decide_eq_true_eq] at this;obtain ⟨⟨o1,o2⟩,o3⟩:=this;obtain ⟨o,ho,_⟩:=zaem o1 o2;rw[ho] at o3;simp only[Bool.and_eq_true] at o3;unfold fitX at o3;exact ⟨o1,o2,zakr o3.1 (by omega) (by omega) (by omega) (by omega) (by omega),zakr o3.2.1 (by omega) (by omega) (by omega) (by omega) (by omega),zakr o3.2.2 (by omega) (by omega) (by omega) (by omega) (by omega)⟩
theorem zaxa {op:Int} {o:Operation} (h1:1≤op) (h2:op≤29) (h:opsL[op.toNat]? = some o):o.word.length≤10:=by
 have hall:opsL.all (fun o=>decide (o.word.length≤10))=true:=by decide
 have:=List.all_eq_true.1 hall o (List.mem_of_getElem? h);simpa using this
theorem zanq {a:Instr} (h:OkI a):(∀ n∈numsS a,okN n)∧(numsS a).length≤3∧(wordS a).length≤10:=by
 obtain ⟨o,ho,_,_,hn⟩:=zaem h.op1 h.op2;have hw:=zaxa h.op1 h.op2 ho;unfold numsS wordS;rw[ho];refine ⟨fun n hn=>?_,?_,hw⟩
 ·have:=List.mem_of_mem_take hn;simp only[List.mem_cons,List.not_mem_nil,or_false] at this;rcases this with rfl|rfl|rfl
  ·exact h.na
  ·exact h.nb
  ·exact h.nc
 ·simp only[List.length_take,List.length_cons,List.length_nil]; omega
theorem zan6 {a:Instr} (h:OkI a):(zafr a).length≤100:=by
 obtain ⟨h1,h2,h3⟩:=zanq h;have:=zafc (word:=wordS a) h1;unfold zafr;omega
theorem zam7 {c:ACode} (h:OkC c):(zac1 c).length≤500000:=by
 have h1:=flat_len zafr 100 c.instrs (fun a ha=>zan6 (h.all a ha));have h2:=zafc (word:=[116,104,114,101,97,100]) (l:=[c.regs]) (fun n hn=>by simp only[List.mem_singleton] at hn; subst hn; have:=h.regs; unfold okN; omega);have:=h.len;unfold zac1;rw[List.length_append];simp only[List.length_cons,List.length_nil] at h2;omega
noncomputable def pI (l:List Instr) (s:List Int):Option (List Int):=l.foldlM (fun s a=>qap (wordS a) (numsS a) s) s
theorem pI_ok (l:List Instr) (acc:List Int) (hl:l.length≤4000) (ha:acc.length≤5000000) (hok:∀ a∈l,OkI a):pI l acc=some (acc++ofStr (l.flatMap zafr)):=
 zai9 zafr _ 100 l 100000000 acc (fun a h=>⟨zan6 (hok a h),fun s hs=>by
  obtain ⟨h1,h2,h3⟩:=zanq (hok a h);exact zakz _ _ _ (by omega) (by omega) h1 (by omega)⟩) (by omega)
theorem zaru (p:List ACode) (q r:Int) (l:List Instr) (acc:List Int) (hl:l.length≤4000) (hok:∀ a∈l,OkI a) :
  qal_l12 p q r l (l.length:Int) 0 opsL acc=(pI l acc).bind fun s=>some (p,q,r,opsL,s):=by
 rw[qal_l12,zaaa]
 have := zaje l (fun a s => qap (wordS a) (numsS a) s) (fun s => (p, q, r, opsL, s)) (fun n i s => qal_i12 n p q r l (l.length : Int) i opsL s)
  (fun n i s h0 h=>by simp only[qal_i12,qal_t12,decide_eq_false h,cond_false])
  (fun n i s a h0 h hx=>by
   have ok:=hok a (List.mem_of_getElem? hx);obtain ⟨o,ho,_,_,hn⟩:=zaem ok.op1 ok.op2;have e1:wordS a=o.word:=by unfold wordS; rw[ho]
   have e2:numsS a=[a.a,a.b,a.c].take o.numbers.length:=by unfold numsS; rw[ho]
   have b1:=ok.op1;have b2:=ok.op2;simp only[qal_i12,qal_t12,decide_eq_true h,decide_eq_true h0,cond_true,hx,Option.bind_some,i64_in (i+1) (by omega)];rw[decide_eq_true (show (0:Int)≤a.op by omega),decide_eq_true (show a.op<((opsL.length:Nat):Int) by rw[zaig]; omega),Bool.and_self,cond_true,ho,Option.bind_some];rw[decide_eq_true (show (0:Int)≤0 by omega),decide_eq_true (show (0:Int)≤((o.numbers.length:Nat):Int) by omega),decide_eq_true (show ((o.numbers.length:Nat):Int)≤((([a.a,a.b,a.c]:List Int).length:Nat):Int) by simp only[List.length_cons,List.length_nil]; omega),Bool.and_self,Bool.and_self,cond_true,Int.toNat_natCast,List.drop_zero,e1,e2])
  l.length fuel 0 acc (by omega) (by omega) (by unfold fuel; omega)
 exact this
theorem zay2 {c:ACode} (h:OkC c):∀ n∈[c.regs],okN n:=fun n hn=>by
 simp only[List.mem_singleton] at hn;subst hn;have:=h.regs;unfold okN;omega
theorem zapi (l:List ACode) (acc:List Int) (hl:l.length≤8) (ha:acc.length≤1000) (hok:∀ c∈l,OkC c) :
  qal_l8 l (l.length:Int) 0 opsL acc=some (acc++ofStr (l.flatMap zac1)):=by
 rw[qal_l8,zaaa]
 have := zaje l (fun c s => (qap [116, 104, 114, 101, 97, 100] [c.regs] s).bind fun y1 => pI c.instrs y1) id (fun n i s => qal_i8 n l (l.length : Int) i opsL s)
  (fun n i s h0 h=>by simp only[qal_i8,qal_t8,decide_eq_false h,cond_false,id])
  (fun n i s c h0 h hx=>by
   have ok:=hok c (List.mem_of_getElem? hx);simp only[qal_i8,qal_t8,decide_eq_true h,decide_eq_true h0,cond_true,hx,Option.bind_some];rw[Option.bind_assoc];congr 1;funext y1;rw[zaru _ _ _ _ _ ok.len ok.all,Option.bind_assoc];simp only[Option.bind_some,i64_in (i+1) (by omega)])
  l.length fuel 0 acc (by omega) (by omega) (by unfold fuel; omega)
 rw[this,show (0:Int).toNat=0 from rfl,List.drop_zero,zai9 zac1 _ 500000 l 4500000 acc (fun c h=>⟨zam7 (hok c h),fun s hs=>by
  have ok:=hok c h;have hr:=zay2 ok;have h2:=zafc (word:=[116,104,114,101,97,100]) hr;simp only[List.length_cons,List.length_nil] at h2;rw[zakz _ _ _ (by decide) (by simp) hr (by omega),Option.bind_some,pI_ok _ _ ok.len (by rw[List.length_append,zadz]; omega) ok.all];unfold zac1;rw[zac4,List.append_assoc]⟩) (by omega)]
 rfl
theorem zaux (s:List UInt8):(ofStr s).all (fun n=>decide (0≤n∧n<256))=true:=by
 rw[List.all_eq_true];intro n hn;unfold ofStr at hn;rw[List.mem_map] at hn;obtain ⟨b,_,rfl⟩:=hn;have:=b.toNat_lt;exact decide_eq_true (by omega)
theorem zavl (s:List UInt8):zabp (ofStr s)=some s:=by
 rw[zabp,zaaa];unfold zaci;rw[zaux,cond_true,zar9]
theorem zaq8 {x:Image} (h:OkX x):∀ n∈[x.mutexes],okN n:=fun n hn=>by
 simp only[List.mem_singleton] at hn;subst hn;have:=h.mu;unfold okN;omega
theorem zaqv {x:Image} (h:OkX x):(lineS [99,101,108,108,115] x.cells++lineS [109,117,116,101,120,101,115] [x.mutexes]).length≤1000:=by
 have h1:=zafc (word:=[99,101,108,108,115]) h.cells;have h2:=zafc (word:=[109,117,116,101,120,101,115]) (zaq8 h);have:=h.ce;simp only[List.length_cons,List.length_nil] at h1 h2;rw[List.length_append];omega
theorem zapu (x:Image):qal x=some (bif zacd x then (zafw x,0) else ([],100)):=by
 rw[qal,zaaa];unfold qal_f;rw[zajh,Option.bind_some];cases hr:zacd x with
 |false=>rfl
 |true=>
  have ok:=zahh hr;have hc:=ok.ce;have hh:=zaqv ok;rw[Bool.not_true,cond_false,cond_true,zaf7,Option.bind_some,zakz _ _ _ (by decide) (by omega) ok.cells (by decide),Option.bind_some,List.nil_append];have h1:=zafc (word:=[99,101,108,108,115]) ok.cells;simp only[List.length_cons,List.length_nil] at h1;rw[zakz _ _ _ (by decide) (by simp) (zaq8 ok) (by rw[zadz]; omega),Option.bind_some,← zac4,zapi _ _ ok.th (by rw[zadz]; exact hh) ok.all,Option.bind_some,← zac4,zavl];rfl
end Lift.AA
namespace Lift.AA
open Go Go.RowKit Lift Go.IntWalk Lift.Fn
set_option linter.unusedVariables false
set_option linter.unusedSimpArgs false
theorem zan9 (c:UInt8) (s:List UInt8):pieces c s≠[]:=by
 cases s with
 |nil=>simp[Lift.pieces]
 |cons x s=>
  unfold Lift.pieces;cases x==c with
  |true=>simp
  |false=>
   simp only[cond_false];split<;>simp
theorem zakc (c:UInt8):∀ r:List UInt8,(Lib.indexByte r c=-1∧pieces c r=[r])∨∃ k:Nat,k<r.length∧Lib.indexByte r c=(k:Int)∧pieces c r=r.take k::pieces c (r.drop (k+1))
 |[]=>.inl ⟨rfl,rfl⟩
 |x::r=>by
  have ih:=zakc c r;have e:pieces c (x::r)=bif x==c then []::pieces c r else match pieces c r with
   |p::ps=>(x::p)::ps
   |[]=>[[x]]:=rfl
  rw[e];unfold Lib.indexByte;cases hx:x==c with
  |true=>
   right;refine ⟨0,by simp,?_,by simp⟩;simp[hx]
  |false=>
   rcases ih with ⟨h1,h2⟩|⟨k,h1,h2,h3⟩
   ·left;refine ⟨?_,?_⟩
    ·simp[hx,h1]
    ·rw[h2]; rfl
   ·right;refine ⟨k+1,by simp; omega,?_,?_⟩
    ·simp[hx,h2]
    ·rw[h3]; simp
theorem zarh (r:List UInt8) (k:Nat):(⟨r.toArray⟩:ByteArray).extract k (⟨r.toArray⟩:ByteArray).size=⟨(r.drop k).toArray⟩:=by
 apply ByteArray.ext;rw[ByteArray.data_extract];apply Array.ext';simp only[Array.toList_extract,List.extract_eq_take_drop];rw[List.take_of_length_le (by simp[ByteArray.size])]
theorem zaqt (r:List UInt8) (k:Nat):(⟨r.toArray⟩:ByteArray).extract 0 k=⟨(r.take k).toArray⟩:=by
 apply ByteArray.ext;rw[ByteArray.data_extract];apply Array.ext';simp only[Array.toList_extract,List.extract_eq_take_drop];simp
theorem zajp (s:List UInt8) (c:UInt8):Lib.indexB ⟨s.toArray⟩ ⟨#[c]⟩=Lib.indexByte s c:=by
 unfold Lib.indexB;exact Lib.index_one s c
theorem zapx (c:UInt8):∀ (n:Nat) (s:List UInt8),s.length≤n→zaey s [c]=pieces c s:=by
 intro n;induction n with
 |zero=>
  intro s hs;have:s=[]:=List.eq_nil_of_length_eq_zero (by omega);subst this;have hm:Lib.indexB ⟨([]:List UInt8).toArray⟩ ⟨#[c]⟩=-1:=by rw[zajp]; rfl
  unfold zaey;rw[show (⟨[c].toArray⟩:ByteArray)=⟨#[c]⟩ from rfl,Lib.countB_miss _ _ hm,Lib.splitB_zero];rfl
 |succ n ih=>
  intro s hs;unfold zaey;rw[show (⟨[c].toArray⟩:ByteArray)=⟨#[c]⟩ from rfl];rcases zakc c s with ⟨h1,h2⟩|⟨k,hk,h1,h2⟩
  ·have hm:Lib.indexB ⟨s.toArray⟩ ⟨#[c]⟩=-1:=by rw[zajp]; exact h1
   rw[Lib.countB_miss _ _ hm,Lib.splitB_zero,h2];rfl
  ·have hm:Lib.indexB ⟨s.toArray⟩ ⟨#[c]⟩=(k:Int):=by rw[zajp]; exact h1
   have h1':(⟨#[c]⟩:ByteArray).size=1:=rfl;rw[Lib.countB_hit _ _ k (by rw[h1']; exact Nat.le_refl _) hm,Nat.add_comm 1,Lib.splitB_hit _ _ _ _ k hm,h2,List.map_cons];have i1:=ih (s.drop (k+1)) (by rw[List.length_drop]; omega);unfold zaey at i1;rw[show (⟨[c].toArray⟩:ByteArray)=⟨#[c]⟩ from rfl] at i1;rw[h1',zarh,i1,Nat.add_zero,zaqt]
theorem zayn (s:List UInt8) (c:UInt8):Lib.cut s [c]=if 0≤Lib.indexByte s c then (s.take (Lib.indexByte s c).toNat,s.drop ((Lib.indexByte s c).toNat+1),true) else (s,[],false):=by
 unfold Lib.cut;rw[Lib.index_one];rfl
theorem zakg (c:UInt8):∀ s:List UInt8,(pieces c s).length≤s.length+1∧∀ p∈pieces c s,p.length≤s.length
 |[]=>⟨by simp[pieces],fun p hp=>by simp[pieces] at hp; subst hp; exact Nat.le_refl _⟩
 |x::s=>by
  obtain ⟨h1,h2⟩:=zakg c s;have e:pieces c (x::s)=bif x==c then []::pieces c s else match pieces c s with
   |p::ps=>(x::p)::ps
   |[]=>[[x]]:=rfl
  rw[e];cases x==c with
  |true=>
   rw[cond_true];refine ⟨by simp only[List.length_cons]; omega,fun p hp=>?_⟩;rcases List.mem_cons.1 hp with rfl|hp
   ·simp
   ·have:=h2 p hp; simp only[List.length_cons]; omega
  |false=>
   rw[cond_false];match hq:pieces c s,h1,h2 with
   |[],_,_=>exact ⟨by simp,fun p hp=>by simp only[List.mem_singleton] at hp; subst hp; simp⟩
   |q::ps,h1,h2=>
    refine ⟨by simp only[List.length_cons] at h1 ⊢; omega,fun p hp=>?_⟩;rcases List.mem_cons.1 hp with rfl|hp
    ·have:=h2 q (by simp); simp only[List.length_cons]; omega
    ·have:=h2 p (by simp[hp]); simp only[List.length_cons]; omega
def numsO:List (List UInt8)→Option (List Int)
 |[]=>some []
 |f::fs=>(numO f).bind fun n=>(numsO fs).map fun l=>n::l
def zagx (s:List UInt8):Option (List UInt8×List Int):=match pieces 32 s with
 |[]=>none
 |w::fs=>(numsO fs).map fun l=>(w,l)
theorem zaw5 (s:List UInt8) (h:s.length≤10000000):strings_Split s [32]=some (pieces 32 s):=by
 rw[strings_Split,zaaa];unfold zae0;rw[decide_eq_true ⟨by omega,by decide⟩,cond_true,zapx 32 _ s (Nat.le_refl _)]
theorem zaud (a0 fs:List (List UInt8)) (hl:fs.length≤10000000) (hf:∀ f∈fs,f.length≤10000000):∀ (k n i:Nat) (acc:List Int),fs.length-i≤k→k<n→acc.length≤i→i≤fs.length →
  qat_i4 n a0 fs (fs.length:Int) (i:Int) acc=some (match numsO (fs.drop i) with
   |some l=>.inr (a0,acc++l)
   |none=>.inl ([],false)):=by
 intro k;induction k with
 |zero=>
  intro n i acc hk hn ha hi;obtain ⟨n,rfl⟩:∃ q,n=q+1:=⟨n-1,by omega⟩;unfold qat_i4 qat_t4;rw[decide_eq_false (by omega),cond_false,List.drop_eq_nil_of_le (by omega)];simp[numsO]
 |succ k ih=>
  intro n i acc hk hn ha hi;obtain ⟨n,rfl⟩:∃ q,n=q+1:=⟨n-1,by omega⟩;unfold qat_i4 qat_t4;by_cases c:i<fs.length
  ·have hg:fs[Int.toNat (i:Int)]? = some fs[i]:=by rw[Int.toNat_natCast]; exact List.getElem?_eq_getElem c
   obtain ⟨v,b,h1,h2⟩:=zav3 fs[i] (hf _ (List.getElem_mem c));rw[decide_eq_true (show (i:Int)<(fs.length:Int) by omega),cond_true,decide_eq_true (show (0:Int)≤(i:Int) by omega),cond_true,hg,Option.bind_some,h1,Option.bind_some,List.drop_eq_getElem_cons c];unfold numsO;rw[← h2];cases b with
   |false=>rfl
   |true=>
    simp only[Bool.not_true,cond_false,cond_true,Option.bind_some];rw[decide_eq_true (by simp only[List.length_cons,List.length_nil]; omega),cond_true,i64_in _ (by omega)];have:=ih n (i+1) (acc++[v]) (by omega) (by omega) (by simp only[List.length_append,List.length_cons,List.length_nil]; omega) (by omega);rw[show ((i+1:Nat):Int)=(i:Int)+1 by omega] at this;rw[this];cases numsO (fs.drop (i+1)) with
    |none=>rfl
    |some l=>simp
  ·rw[decide_eq_false (by omega),cond_false,List.drop_eq_nil_of_le (by omega)];simp[numsO]
theorem zaxd (s:List UInt8) (h:s.length≤5000000):qat s=some (match zagx s with
  |some q=>(q.1,true,q.2)
  |none=>([],false,[])):=by
 obtain ⟨h1,h2⟩:=zakg 32 s;rw[qat,zaaa];unfold qat_f;rw[zaw5 s (by omega),Option.bind_some];unfold zagx;match hq:pieces 32 s,zan9 32 s,h1,h2 with
 |[],hne,_,_=>exact absurd rfl hne
 |w::fs,_,h1,h2=>
  simp only[List.length_cons] at h1;have e:List.drop 1 (List.take (Int.toNat (((w::fs).length:Nat):Int)) (w::fs))=fs:=by rw[Int.toNat_natCast,List.take_length]; rfl
  rw[decide_eq_true (show (0:Int)≤1 by omega),decide_eq_true (show (1:Int)≤(((w::fs).length:Nat):Int) by simp only[List.length_cons]; omega),decide_eq_true (show (((w::fs).length:Nat):Int)≤(((w::fs).length:Nat):Int) by omega),Bool.and_self,Bool.and_self,cond_true,e];have:=zaud (w::fs) fs (by omega) (fun f hf=>by have:=h2 f (by simp[hf]); omega) fs.length fuel 0 [] (by omega) (by unfold fuel; omega) (by simp) (by omega);rw[qat_l4,zaaa,show (0:Int)=((0:Nat):Int) from rfl,this,Option.bind_some,List.drop_zero];cases hn:numsO fs with
  |none=>simp only[hn]; rfl
  |some l=>simp only[hn]; rfl
def opP (w:List UInt8) (l:List Int) (o:Operation):Bool:=(o.word==w)&&(((o.numbers.length:Nat):Int)==((l.length:Nat):Int))
def zaj5 (w:List UInt8) (l:List Int):Option Instr:=match opsL.findIdx? (opP w l) with
 |some j=>bif decide (1≤j) then some (Instr.mk (j:Int) (l[0]?.getD 0) (l[1]?.getD 0) (l[2]?.getD 0)) else none
 |none=>none
theorem zaxl (o:Operation) (w:List UInt8) (l:List Int):qav o w l=some (opP w l o,w,l):=by
 rw[qav,zaaa];unfold qav_f opP;rw[zaly]
theorem zawa (w:List UInt8) (l:List Int):∀ (k n i:Nat),opsL.length-i≤k→k<n →
  qbm_i2 n opsL (opsL.length:Int) (i:Int) w l=some (match (opsL.drop i).findIdx? (opP w l) with
   |some j=>.inl (((i+j:Nat):Int),w,l)
   |none=>.inr (w,l)):=by
 intro k;induction k with
 |zero=>
  intro n i hk hn;obtain ⟨n,rfl⟩:∃ q,n=q+1:=⟨n-1,by omega⟩;unfold qbm_i2 qbm_t2;rw[decide_eq_false (by omega),cond_false,List.drop_eq_nil_of_le (by omega)];rfl
 |succ k ih=>
  intro n i hk hn;obtain ⟨n,rfl⟩:∃ q,n=q+1:=⟨n-1,by omega⟩;unfold qbm_i2 qbm_t2;by_cases c:i<opsL.length
  ·have hg:opsL[Int.toNat (i:Int)]? = some opsL[i]:=by rw[Int.toNat_natCast]; exact List.getElem?_eq_getElem c
   have hl:=zaig;rw[decide_eq_true (show (i:Int)<(opsL.length:Int) by omega),cond_true,decide_eq_true (show (0:Int)≤(i:Int) by omega),cond_true,hg,Option.bind_some,zaxl,Option.bind_some,List.drop_eq_getElem_cons c,List.findIdx?_cons];cases opP w l opsL[i] with
   |true=>rfl
   |false=>
    simp only[cond_false];rw[i64_in _ (by omega)];have:=ih n (i+1) (by omega) (by omega);rw[show ((i+1:Nat):Int)=(i:Int)+1 by omega] at this;rw[this];cases (opsL.drop (i+1)).findIdx? (opP w l) with
    |none=>rfl
    |some j=>simp; omega
  ·rw[decide_eq_false (by omega),cond_false,List.drop_eq_nil_of_le (by omega)];rfl
theorem zayc (w:List UInt8) (l:List Int):qbm opsL w l=some (match opsL.findIdx? (opP w l) with
  |some j=>((j:Int),w,l)
  |none=>(-1,w,l)):=by
 rw[qbm,zaaa];unfold qbm_f;have:=zawa w l opsL.length fuel 0 (by omega) (by have:=zaig; unfold fuel; omega);rw[qbm_l2,zaaa,show (0:Int)=((0:Nat):Int) from rfl,this,Option.bind_some,List.drop_zero];cases opsL.findIdx? (opP w l) with
 |none=>rfl
 |some j=>simp
def addI (ts:List ACode) (x:Instr):Option (List ACode):=match ts[ts.length-1]? with
 |some c=>some (ts.set (ts.length-1) (ACode.mk c.regs (c.instrs++[x])))
 |none=>none
def oneO:List Int→Option Int
 |[n]=>bif decide (n≥0) then some n else none
 |_=>none
theorem zai5 (n:Int):oneO [n]=bif decide (n≥0) then some n else none:=rfl
abbrev St:=Int×List Int×List ACode
def takeS (many:Int) (s:List UInt8) (st:St):Option St:=
 (zagx s).bind fun q=>
  bif many==0 then (bif q.1==[99,101,108,108,115] then some (st.1,q.2,st.2.2) else none)
  else bif many==1 then (bif q.1==[109,117,116,101,120,101,115] then (oneO q.2).map fun n=>(n,st.2.1,st.2.2) else none)
  else bif q.1==[116,104,114,101,97,100] then (oneO q.2).map fun n=>(st.1,st.2.1,st.2.2++[ACode.mk n []])
  else bif many==2 then none
  else (zaj5 q.1 q.2).bind fun x=>(addI st.2.2 x).map fun ts=>(st.1,st.2.1,ts)
structure OkS (many:Int) (st:St):Prop where
 m0:0≤many
 len:st.2.2.length≤10000000
 ins:∀ c∈st.2.2,c.instrs.length≤10000000
 ne:3≤many→1≤st.2.2.length
theorem zaw0 {β:Type} (l:List Int):(Option.bind (α:=Bool) (bif ((l.length:Nat):Int)==1 then (bif decide ((0:Int)≤0)&&decide ((0:Int)<((l.length:Nat):Int)) then Option.bind (l[(0:Nat)]?) fun y1=>some (decide (y1≥0)) else none) else some false):(Bool→Option β)→Option β)=fun f=>f (oneO l).isSome:=by
 funext f;match l with
 |[]=>rfl
 |[n]=>
  show f (decide (n≥0))=_;rw[zai5];cases decide (n≥0)<;>rfl
 |a::b::r=>
  have:((((a::b::r).length:Nat):Int)==1)=false:=by simp only[List.length_cons]; simp; omega
  rw[this];rfl
theorem zayp (l:List Int):qbh l=some l:=by
 rw[qbh,zaaa];unfold qbh_f;rw[decide_eq_true rfl];rfl
theorem zaqd {l:List Int} {n:Int} (h:oneO l=some n):l=[n]∧n≥0:=by
 match l,h with
 |[m],h=>
  rw[zai5] at h;by_cases hm:m≥0
  ·rw[decide_eq_true hm] at h; cases h; exact ⟨rfl,hm⟩
  ·rw[decide_eq_false hm] at h; cases h
theorem zay4 (many:Int) (s:List UInt8) (st:St) (hs:s.length≤5000000) (ok:OkS many st) :
  ∃ b st',qau many s st.1 st.2.1 st.2.2=some (b,st')∧(bif b then some st' else none)=takeS many s st:=by
 obtain ⟨m,cs,ts⟩:=st;rw[qau,zaaa];unfold qau_f takeS;rw[zaxd s hs,Option.bind_some];simp only[zaw0];cases hp:zagx s with
 |none=>exact ⟨false,(m,cs,ts),rfl,rfl⟩
 |some q=>
  obtain ⟨w,l⟩:=q;simp only[Bool.not_true,cond_false,Option.bind_some,zayp];cases h0:many==0 with
  |true=>
   refine ⟨w==[99,101,108,108,115],(m,l,ts),rfl,?_⟩;cases w==[99,101,108,108,115]<;>rfl
  |false=>
  simp only[cond_false];cases h1:many==1 with
  |true=>
   simp only[cond_true];cases hone:oneO l with
   |none=>
    simp only[Option.isSome_none,cond_false];refine ⟨false,(m,cs,ts),?_,?_⟩
    ·cases w==[109,117,116,101,120,101,115]<;>rfl
    ·cases w==[109,117,116,101,120,101,115]<;>rfl
   |some n=>
    obtain ⟨rfl,_⟩:=zaqd hone;simp only[Option.isSome_some,cond_true];refine ⟨w==[109,117,116,101,120,101,115],(n,cs,ts),?_,?_⟩
    ·cases w==[109,117,116,101,120,101,115]<;>rfl
    ·cases w==[109,117,116,101,120,101,115]<;>rfl
  |false=>
  simp only[cond_false];cases h2:w==[116,104,114,101,97,100] with
  |true=>
   simp only[cond_true];cases hone:oneO l with
   |none=>exact ⟨false,(m,cs,ts),rfl,rfl⟩
   |some n=>
    obtain ⟨rfl,_⟩:=zaqd hone;have hlen:ts.length≤10000000:=ok.len;simp only[Option.isSome_some,cond_true];refine ⟨true,(m,cs,ts++[ACode.mk n []]),?_,rfl⟩;rw[show (([n]:List Int)[(0:Nat)]?)=some n from rfl,Option.bind_some,decide_eq_true (show (ts.length+[ACode.mk n []].length)*32≤140737488355328∧_ by simp only[List.length_cons,List.length_nil]; omega)];rfl
  |false=>
  simp only[cond_false];cases h3:many==2 with
  |true=>exact ⟨false,(m,cs,ts),rfl,rfl⟩
  |false=>
  simp only[cond_false,zaf7,Option.bind_some,zayc];have hm:3≤many:=by
   have:=ok.m0;have a0:many≠0:=by simpa using h0
   have a1:many≠1:=by simpa using h1
   have a2:many≠2:=by simpa using h3
   omega
  have hne:1≤ts.length:=ok.ne hm;have hlen:ts.length≤10000000:=ok.len;have hw:IntKind.wrap IntKind.i64 ((ts.length:Int)-1)=((ts.length-1:Nat):Int):=by rw[i64_in _ (by omega)]; omega
  have hlt:ts.length-1<ts.length:=by omega
  have hg:ts[ts.length-1]? = some ts[ts.length-1]:=List.getElem?_eq_getElem hlt;have hins:ts[ts.length-1].instrs.length≤10000000:=ok.ins _ (List.getElem_mem hlt);have w1:IntKind.wrap IntKind.i64 ((0:Int)+1)=1:=rfl;have w2:IntKind.wrap IntKind.i64 (1+1)=2:=rfl;unfold zaj5 addI;rw[hg];cases hf:opsL.findIdx? (opP w l) with
  |none=>exact ⟨false,(m,cs,ts),rfl,rfl⟩
  |some j=>
   simp only;by_cases hj:1≤j
   ·have hx:∀ x:Instr,decide ((ts[ts.length-1].instrs.length+[x].length)*32≤140737488355328∧ts[ts.length-1].instrs.length+[x].length≤9223372036854775807)=true:=fun x=>decide_eq_true (by simp only[List.length_cons,List.length_nil]; omega)
    have hb:Nat.beq (ts.length-1) (ts.length-1)=true:=by simp
    have d1:decide ((0:Int)≤((ts.length-1:Nat):Int))=true:=decide_eq_true (by omega);have d2:decide (((ts.length-1:Nat):Int)<(ts.length:Int))=true:=decide_eq_true (by omega);rw[decide_eq_true hj,cond_true,decide_eq_false (show ¬ (j:Int)<1 by omega),cond_false];refine ⟨true,(m,cs,ts.set (ts.length-1) (ACode.mk ts[ts.length-1].regs (ts[ts.length-1].instrs++[Instr.mk (j:Int) (l[0]?.getD 0) (l[1]?.getD 0) (l[2]?.getD 0)]))),?_,rfl⟩;simp only[w1,w2,hw,d1,d2,Bool.and_self,Int.toNat_natCast,hg,Option.bind_some,hx,hb,cond_true];match l with
    |[]=>rfl
    |[a]=>rfl
    |[a,b]=>rfl
    |a::b::c::r=>
     have e0:decide ((0:Int)<(((a::b::c::r).length:Nat):Int))=true:=decide_eq_true (by simp only[List.length_cons]; omega);have e1:decide ((1:Int)<(((a::b::c::r).length:Nat):Int))=true:=decide_eq_true (by simp only[List.length_cons]; omega);have e2:decide ((2:Int)<(((a::b::c::r).length:Nat):Int))=true:=decide_eq_true (by simp only[List.length_cons]; omega);rw[e0,e1,e2];rfl
   ·rw[decide_eq_false hj,cond_false,decide_eq_true (show (j:Int)<1 by omega),cond_true];exact ⟨false,(m,cs,ts),rfl,rfl⟩
end Lift.AA
namespace Lift.AA
open Go Go.RowKit Lift Go.IntWalk Lift.Fn
set_option linter.unusedVariables false
set_option linter.unusedSimpArgs false
def zach:List (List UInt8)→Int→Int→St→Int⊕(Int×Int×St)
 |[],at_,many,st=>.inr (at_,many,st)
 |[z],at_,many,st=>bif z==[] then .inr (at_,many,st) else .inl at_
 |l::m::ls,at_,many,st=>match takeS many l st with
  |none=>.inl at_
  |some st'=>zach (m::ls) (at_+((l.length:Int)+1)) (many+1) st'
structure OkQ (many:Int) (st:St):Prop where
 m0:0≤many
 len:(st.2.2.length:Int)≤many
 ins:∀ c∈st.2.2,(c.instrs.length:Int)≤many
 ne:3≤many→1≤st.2.2.length
theorem OkQ.toS {many:Int} {st:St} (h:OkQ many st) (hm:many≤10000000):OkS many st:=
 ⟨h.m0,by have:=h.len; omega,fun c hc=>by have:=h.ins c hc; omega,h.ne⟩
theorem zauq {many:Int} {s:List UInt8} {st st':St} (h:takeS many s st=some st') (ok:OkQ many st):OkQ (many+1) st':=by
 obtain ⟨m,cs,ts⟩:=st;have hm:=ok.m0;have hl:(ts.length:Int)≤many:=ok.len;have hi:∀ c∈ts,(c.instrs.length:Int)≤many:=ok.ins;have hne:3≤many→1≤ts.length:=ok.ne;unfold takeS at h;cases hp:zagx s with
 |none=>rw[hp] at h; cases h
 |some q=>
  rw[hp,Option.bind_some] at h;cases h0:many==0 with
  |true=>
   have a0:many=0:=by simpa using h0
   rw[h0,cond_true] at h;cases hw:q.1==[99,101,108,108,115] with
   |false=>rw[hw] at h; cases h
   |true=>
    rw[hw] at h;cases h;exact ⟨by omega,by simp only; omega,fun c hc=>by have:=hi c hc; omega,by omega⟩
  |false=>
  rw[h0,cond_false] at h;cases h1:many==1 with
  |true=>
   have a1:many=1:=by simpa using h1
   rw[h1,cond_true] at h;cases hw:q.1==[109,117,116,101,120,101,115] with
   |false=>rw[hw] at h; cases h
   |true=>
    rw[hw,cond_true] at h;cases ho:oneO q.2 with
    |none=>rw[ho] at h; cases h
    |some n=>
     rw[ho] at h;cases h;exact ⟨by omega,by simp only; omega,fun c hc=>by have:=hi c hc; omega,by omega⟩
  |false=>
  rw[h1,cond_false] at h;cases hw:q.1==[116,104,114,101,97,100] with
  |true=>
   rw[hw,cond_true] at h;cases ho:oneO q.2 with
   |none=>rw[ho] at h; cases h
   |some n=>
    rw[ho] at h;cases h;refine ⟨by omega,by simp only[List.length_append,List.length_cons,List.length_nil]; omega,fun c hc=>?_,fun _=>by simp⟩;rcases List.mem_append.1 hc with hc|hc
    ·have:=hi c hc; omega
    ·simp only[List.mem_singleton] at hc; subst hc; simp only[List.length_nil]; omega
  |false=>
  rw[hw,cond_false] at h;cases h2:many==2 with
  |true=>rw[h2] at h; cases h
  |false=>
  rw[h2,cond_false] at h;cases hin:zaj5 q.1 q.2 with
  |none=>rw[hin] at h; cases h
  |some x=>
   rw[hin,Option.bind_some] at h;have a0:many≠0:=by simpa using h0
   have a1:many≠1:=by simpa using h1
   have a2:many≠2:=by simpa using h2
   have hne:=hne (by omega);have hg:ts[ts.length-1]? = some ts[ts.length-1]:=List.getElem?_eq_getElem (by omega);unfold addI at h;simp only[hg] at h;cases h;refine ⟨by omega,by simp only[List.length_set]; omega,fun c hc=>?_,fun _=>by simp only[List.length_set]; omega⟩;rcases List.mem_or_eq_of_mem_set hc with hc|rfl
   ·have:=hi c hc; omega
   ·have:=hi _ (List.getElem_mem (show ts.length-1<ts.length by omega));simp only[List.length_append,List.length_cons,List.length_nil];omega
theorem zazp (s:List UInt8) (h:s.length≤10000000):strings_Cut s [10]=some (if 0≤Lib.indexByte s 10 then (s.take (Lib.indexByte s 10).toNat,s.drop ((Lib.indexByte s 10).toNat+1),true) else (s,[],false)):=by
 rw[strings_Cut,zaaa];unfold zaf9;rw[decide_eq_true (by omega),cond_true,zayn]
theorem zauz (text:List UInt8) (hl:text.length≤5000000) (a3 a4 a5:Int) (a6:List UInt8):∀ (k n i:Nat) (many:Int) (st:St),text.length-i≤k→k<n→i≤text.length→many≤i→OkQ many st →
  qam_i3 n text (i:Int) many a3 a4 a5 a6 st.1 st.2.1 st.2.2=some (match zach (pieces 10 (text.drop i)) (i:Int) many st with
   |.inl p=>.inl (0,101,p,[])
   |.inr q=>.inr (q.1,q.2.1,a3,a4,a5,a6,q.2.2.1,q.2.2.2.1,q.2.2.2.2)):=by
 intro k;induction k with
 |zero=>
  intro n i many st hk hn hi hm ok;obtain ⟨n,rfl⟩:∃ q,n=q+1:=⟨n-1,by omega⟩;unfold qam_i3 qam_t3;rw[decide_eq_false (by omega),cond_false,List.drop_eq_nil_of_le (by omega)];rfl
 |succ k ih=>
  intro n i many st hk hn hi hm ok;obtain ⟨n,rfl⟩:∃ q,n=q+1:=⟨n-1,by omega⟩;unfold qam_i3 qam_t3;by_cases c:i<text.length
  ·have hlen:(text.drop i).length=text.length-i:=List.length_drop;have e:List.drop (Int.toNat (i:Int)) (List.take (Int.toNat ((text.length:Nat):Int)) text)=text.drop i:=by rw[Int.toNat_natCast,Int.toNat_natCast,List.take_length]
   rw[decide_eq_true (show (i:Int)<(text.length:Int) by omega),cond_true,decide_eq_true (show (0:Int)≤(i:Int) by omega),decide_eq_true (show (i:Int)≤(text.length:Int) by omega),decide_eq_true (show ((text.length:Nat):Int)≤(text.length:Int) by omega),Bool.and_self,Bool.and_self,cond_true,e,zazp _ (by omega),Option.bind_some];rcases zakc 10 (text.drop i) with ⟨h1,h2⟩|⟨j,hj,h1,h2⟩
   ·rw[h1,h2,if_neg (by decide)];have:(text.drop i==[])=false:=by
     rw[beq_eq_false_iff_ne];intro e0;rw[e0] at hlen;simp at hlen;omega
    simp only[zach,this];rfl
   ·rw[h1,h2,if_pos (by omega),Int.toNat_natCast];have hline:((text.drop i).take j).length=j:=by rw[List.length_take]; omega
    obtain ⟨b,st',t1,t2⟩:=zay4 many ((text.drop i).take j) st (by omega) (ok.toS (by omega));simp only[Bool.not_true,cond_false];rw[t1,Option.bind_some];have hnx:zach ((text.drop i).take j::pieces 10 ((text.drop i).drop (j+1))) (i:Int) many st=match takeS many ((text.drop i).take j) st with
      |none=>.inl (i:Int)
      |some st'=>zach (pieces 10 ((text.drop i).drop (j+1))) ((i:Int)+((((text.drop i).take j).length:Int)+1)) (many+1) st':=by
     cases hq:pieces 10 ((text.drop i).drop (j+1)) with
     |nil=>exact absurd hq (zan9 _ _)
     |cons m ls=>rfl
    rw[hnx,← t2];cases b with
    |false=>rfl
    |true=>
     simp only[Bool.not_true,cond_false,cond_true];have ok':OkQ (many+1) st':=zauq (by rw[← t2]; rfl) ok;have hm0:=ok.m0;rw[hline,List.drop_drop,i64_in ((j:Int)+1) (by omega),i64_in _ (by omega),i64_in (many+1) (by omega)];have:=ih n (i+(j+1)) (many+1) st' (by omega) (by omega) (by omega) (by omega) ok';rw[show ((i+(j+1):Nat):Int)=(i:Int)+((j:Int)+1) by omega] at this;exact this
  ·rw[decide_eq_false (by omega),cond_false,List.drop_eq_nil_of_le (by omega)];rfl
def imgOf (s:St):Image:=Image.mk s.2.1 s.1 s.2.2
def readS (text:List UInt8):Image×Int×Int:=match zach (pieces 10 text) 0 0 (0,[],[]) with
 |.inl p=>(Image.mk [] 0 [],101,p)
 | .inr q => bif decide (q.2.1 < 3) then (Image.mk [] 0 [], 101, q.1) else
  bif zacd (imgOf q.2.2) then (imgOf q.2.2,0,0) else (Image.mk [] 0 [],100,0)
theorem okQ0:OkQ 0 (0,[],[]):=⟨by decide,by decide,(fun c hc=>by cases hc),by decide⟩
theorem zanx (text:List UInt8) (hl:text.length≤5000000):qam text=some ((readS text).1.mutexes,Fault.mk (readS text).2.1 (readS text).2.2 [],(readS text).1.cells,(readS text).1.threads):=by
 rw[qam,zaaa];unfold qam_f;have:=zauz text hl 0 0 0 [] text.length fuel 0 0 (0,[],[]) (by omega) (by unfold fuel; omega) (by omega) (by decide) okQ0;rw[qam_l3,zaaa];simp only[Int.ofNat_zero,List.drop_zero] at this;rw[this,Option.bind_some];unfold readS;cases zach (pieces 10 text) 0 0 (0,[],[]) with
 |inl p=>rfl
 |inr q=>
  simp only[zajh,Option.bind_some];cases decide (q.2.1<3) with
  |true=>rfl
  |false=>
   simp only[cond_false];have e:zacd (Image.mk q.2.2.2.1 q.2.2.1 q.2.2.2.2)=zacd (imgOf q.2.2):=rfl;rw[e];cases zacd (imgOf q.2.2)<;>rfl
def exI:Image:=Image.mk [(-3:Int)] (0:Int) [ACode.mk (1:Int) [Instr.mk (21:Int) (0:Int) (0:Int) (0:Int),Instr.mk (29:Int) (0:Int) (0:Int) (0:Int)]]
def exT:List UInt8:=[99,101,108,108,115,32,45,51,10,109,117,116,101,120,101,115,32,48,10,116,104,114,101,97,100,32,49,10,114,101,97,100,32,48,32,48,10,101,110,100,10]
theorem zap5:zacd exI=true:=by decide +kernel
theorem zaxh:zafw exI=exT:=by
 have e1:Lib.itoa (-3)=[45,51]:=by
  have:=Lib.itoa_neg 3 (by decide);rw[Lib.decDigits_one (by decide)] at this;exact this
 have e2:Lib.itoa 0=[48]:=by
  have:=Lib.itoa_nonneg 0;rw[Lib.decDigits_one (by decide)] at this;exact this
 have e3:Lib.itoa 1=[49]:=by
  have:=Lib.itoa_nonneg 1;rw[Lib.decDigits_one (by decide)] at this;exact this
 have d1:zafr (Instr.mk 21 0 0 0)=lineS [114,101,97,100] [0,0]:=rfl;have d2:zafr (Instr.mk 29 0 0 0)=lineS [101,110,100] []:=rfl;unfold zafw exI zac1;simp only[List.flatMap_cons,List.flatMap_nil,d1,d2];unfold lineS oneS;simp only[List.flatMap_cons,List.flatMap_nil,e1,e2,e3];rfl
theorem zax2:readS exT=(exI,0,0):=by rfl
theorem zaxg:readS (List.drop 0 (List.take 40 exT))=(Image.mk [] 0 [],101,37):=by rfl
end Lift.AA
namespace Lift.AA
open Go Go.RowKit Lift Go.IntWalk Lift.Fn
set_option linter.unusedVariables false
set_option linter.unusedSimpArgs false
theorem zasq (j:Int) (a1:List Int) (a2:Int) (a3:List ACode) (a4:List Int) (a5:Int) (a6:List ACode) (g:Int) (l:List Instr) (hl:l.length≤10000000) :
  qa9_l16 j 0 a1 a2 a3 a4 a5 a6 g l g l=some (.inr (j,a1,a2,a3,a4,a5,a6)):=by
 rw[qa9_l16,zaaa]
 have := loop_all l (fun _ => some true) (j, a1, a2, a3, a4, a5, a6) (fun n i => qa9_i16 n j i a1 a2 a3 a4 a5 a6 g l g l)
  (fun n i h0 h=>by simp only[qa9_i16,qa9_t16,decide_eq_false h,cond_false])
  (fun n i x h0 h hx=>by
   simp only[qa9_i16,qa9_t16,decide_eq_true h,decide_eq_true h0,cond_true,hx,Option.bind_some,i64_in (i+1) (by omega),decide_true,Bool.not_true,cond_false])
  (fun _=>true) (fun _ _=>rfl) l.length fuel 0 (by omega) (by omega) (by unfold fuel; omega)
 rw[this];have:(List.drop (Int.toNat 0) l).all (fun _=>true)=true:=by simp
 rw[this];rfl
theorem zao5 (x:Image) (hc:x.cells.length≤10000000) (ht:x.threads.length≤10000000) (hi:∀ c∈x.threads,c.instrs.length≤10000000):qa9 x x=some true:=by
 rw[qa9,zaaa];unfold qa9_f;have b1:∀ a:Int,(a != a)=false:=fun a=>by simp
 simp only[zago,b1,Bool.or_self,cond_false]
 have h1 := loop_all x.cells (fun _ => some true) (x.cells, x.mutexes, x.threads, x.cells, x.mutexes, x.threads) (fun n i => qa9_i4 n i x.cells x.mutexes x.threads x.cells x.mutexes x.threads)
  (fun n i h0 h=>by simp only[qa9_i4,qa9_t4,decide_eq_false h,cond_false])
  (fun n i y h0 h hx=>by
   simp only[qa9_i4,qa9_t4,decide_eq_true h,decide_eq_true h0,cond_true,hx,Option.bind_some,i64_in (i+1) (by omega),b1,cond_false])
  (fun _=>true) (fun _ _=>rfl) x.cells.length fuel 0 (by omega) (by omega) (by unfold fuel; omega)
 have h2 := loop_all x.threads (fun _ => some true) () (fun n i => qa9_i9 n i x.cells x.mutexes x.threads x.cells x.mutexes x.threads)
  (fun n i h0 h=>by simp only[qa9_i9,qa9_t9,decide_eq_false h,cond_false])
  (fun n i c h0 h hx=>by
   have hm:=hi c (List.mem_of_getElem? hx);simp only[qa9_i9,qa9_t9,decide_eq_true h,decide_eq_true h0,cond_true,hx,Option.bind_some,b1,zago,Bool.or_self,cond_false];rw[zasq _ _ _ _ _ _ _ _ _ hm,Option.bind_some];simp only[i64_in (i+1) (by omega)])
  (fun _=>true) (fun _ _=>rfl) x.threads.length fuel 0 (by omega) (by omega) (by unfold fuel; omega)
 have a1:(List.drop (Int.toNat 0) x.cells).all (fun _=>true)=true:=by simp
 have a2:(List.drop (Int.toNat 0) x.threads).all (fun _=>true)=true:=by simp
 rw[a1,cond_true] at h1;rw[a2,cond_true] at h2;rw[qa9_l4,zaaa,h1,Option.bind_some];show (bif false||false then some false else _)=_;rw[Bool.or_self,cond_false,Option.bind_some];rw[qa9_l9,zaaa];simp only[h2];rfl
theorem zaxx:qaT=some true:=by
 rw[qaT,zaaa];unfold qaT_f;have e1:qan exI=some true:=by rw[zajh,zap5]
 have e2:qal exI=some (exT,0):=by rw[zapu,zap5,zaxh]; rfl
 have e3:qam exT=some ((0:Int),Fault.mk 0 0 [],[(-3:Int)],exI.threads):=by rw[zanx exT (by decide),zax2]; rfl
 have e4:qam (List.drop 0 (List.take 40 exT))=some ((0:Int),Fault.mk 101 37 [],[],[]):=by rw[zanx _ (by decide),zaxg]
 have e5:qa9 exI exI=some true:=zao5 exI (by decide) (by decide) (by decide);unfold exI at e1 e2 e3 e5;unfold exT at e2 e3 e4;rw[e1,Option.bind_some,e2,Option.bind_some,e3,Option.bind_some];simp only;rw[e5,Option.bind_some,e4];decide +kernel
end Lift.AA
namespace Lift.AA
open Go Go.RowKit Lift Go.IntWalk Lift.Fn
set_option linter.unusedVariables false
set_option linter.unusedSimpArgs false
end Lift.AA
namespace Lift.AA
open Go Go.RowKit Lift Go.IntWalk Lift.Fn
set_option linter.unusedVariables false
set_option linter.unusedSimpArgs false
end Lift.AA
namespace Lift.AA
open Go Go.RowKit Lift Go.IntWalk Lift.Fn
set_option linter.unusedVariables false
set_option linter.unusedSimpArgs false
theorem zaty:∀ i j:Nat,i<30→j<30→∀ a b,opsL[i]? = some a→opsL[j]? = some b→a.word=b.word→i=j:=by
 have h:(List.range 30).all (fun i=>(List.range 30).all fun j=>(decide (i=j))||!((opsL[i]?.map (·.word))==(opsL[j]?.map (·.word))))=true:=by decide +kernel
 intro i j hi hj a b ha hb e;have h1:=List.all_eq_true.1 h i (List.mem_range.2 hi);have h2:=List.all_eq_true.1 h1 j (List.mem_range.2 hj);rw[ha,hb] at h2;simp only[Option.map_some,e] at h2;simpa using h2
end Lift.AA
namespace Lift.AA
open Go Go.RowKit Lift Go.IntWalk Lift.Fn
set_option linter.unusedVariables false
set_option linter.unusedSimpArgs false
theorem zak6 (c:UInt8):∀ s:List UInt8,c∉s→pieces c s=[s]
 |[],_=>rfl
 |x::s,h=>by
  have hx:(x==c)=false:=by
   have:x≠c:=fun e=>h (by simp[e])
   simpa using this
  have ih:=zak6 c s (fun hm=>h (by simp[hm]));unfold pieces;rw[hx,cond_false,ih]
theorem zah1 (c:UInt8):∀ (w s:List UInt8),c∉w→pieces c (w++c::s)=w::pieces c s
 |[],s,_=>by
  show pieces c (c::s)=_;unfold pieces;simp;cases s<;>rfl
 |x::w,s,h=>by
  have hx:(x==c)=false:=by
   have:x≠c:=fun e=>h (by simp[e])
   simpa using this
  have ih:=zah1 c w s (fun hm=>h (by simp[hm]));show pieces c (x::(w++c::s))=_;have e:pieces c (x::(w++c::s))=bif x==c then []::pieces c (w++c::s) else match pieces c (w++c::s) with
   |p::ps=>(x::p)::ps
   |[]=>[[x]]:=rfl
  rw[e,hx,cond_false,ih]
end Lift.AA
namespace Lift.AA
open Go Go.RowKit Lift Go.IntWalk Lift.Fn
set_option linter.unusedVariables false
set_option linter.unusedSimpArgs false
end Lift.AA
namespace Lift.AA
open Go Go.RowKit Lift Go.IntWalk Lift.Fn
set_option linter.unusedVariables false
set_option linter.unusedSimpArgs false
theorem zaxc {n:Int} {c:UInt8} (h:c∈Lib.itoa n):c=45∨isDig c=true:=by
 by_cases hn:0≤n
 ·obtain ⟨m,rfl⟩:=Int.eq_ofNat_of_zero_le hn;rw[Lib.itoa_nonneg] at h;exact .inr (List.all_eq_true.1 (zadn m).2.1 c h)
 ·obtain ⟨m,hm⟩:∃ m:Nat,n=-(m:Int):=⟨n.natAbs,by omega⟩;subst hm;rw[Lib.itoa_neg m (by omega)] at h;rcases List.mem_cons.1 h with h|h
  ·exact .inl h
  ·exact .inr (List.all_eq_true.1 (zadn m).2.1 c h)
theorem zasy {n:Int} {c:UInt8} (h1:c≠45) (h2:isDig c=false):c∉Lib.itoa n:=fun h=>by
 rcases zaxc h with h|h
 ·exact h1 h
 ·rw[h2] at h; cases h
theorem zar2 (w:List UInt8) (l:List Int) (h:(32:UInt8)∉w):pieces 32 (w++l.flatMap oneS)=w::l.map Lib.itoa:=by
 induction l generalizing w with
 |nil=>rw[List.flatMap_nil,List.append_nil]; exact zak6 32 w h
 |cons n l ih=>
  rw[List.flatMap_cons,show w++(oneS n++l.flatMap oneS)=w++32::(Lib.itoa n++l.flatMap oneS) by unfold oneS; simp,zah1 32 w _ h,ih _ (zasy (by decide) (by decide)),List.map_cons]
theorem zaop:∀ l:List Int,(∀ n∈l,okN n)→numsO (l.map Lib.itoa)=some l
 |[],_=>rfl
 |n::l,h=>by
  have hn:=h n (by simp);rw[List.map_cons];unfold numsO;rw[zan7 (by have:=hn.1; omega) (by have:=hn.2; omega),Option.bind_some,zaop l (fun m hm=>h m (by simp[hm]))];rfl
def bodyS (w:List UInt8) (l:List Int):List UInt8:=w++l.flatMap oneS
theorem zagf (w:List UInt8) (l:List Int) (h:(32:UInt8)∉w) (hn:∀ n∈l,okN n):zagx (bodyS w l)=some (w,l):=by
 unfold zagx bodyS;rw[zar2 w l h];simp only;rw[zaop l hn];rfl
theorem zak1 {w:List UInt8} {l:List Int} (h:(10:UInt8)∉w):(10:UInt8)∉bodyS w l:=by
 unfold bodyS;simp only[List.mem_append,List.mem_flatMap];rintro (h1|⟨n,_,h1⟩)
 ·exact h h1
 ·unfold oneS at h1;rcases List.mem_cons.1 h1 with h1|h1
  ·exact absurd h1 (by decide)
  ·exact zasy (by decide) (by decide) h1
theorem zake : ∀ ls : List (List UInt8), (∀ l ∈ ls, (10 : UInt8) ∉ l) → pieces 10 (ls.flatMap fun l => l ++ [10]) = ls ++ [[]]
 |[],_=>rfl
 |l::ls,h=>by
  rw[List.flatMap_cons,show (l++[10])++ls.flatMap (fun l=>l++[10])=l++10::ls.flatMap (fun l=>l++[10]) by simp,zah1 10 l _ (h l (by simp)),zake ls (fun m hm=>h m (by simp[hm]))];rfl
def foldT:Int→List (List UInt8)→St→Option St
 |_,[],st=>some st
 |many,l::ls,st=>(takeS many l st).bind fun st'=>foldT (many+1) ls st'
theorem zakj:∀ (ls:List (List UInt8)) (at_ many:Int) (st st':St),foldT many ls st=some st'→∃ p,zach (ls++[[]]) at_ many st=.inr (p,many+ls.length,st')
 |[],at_,many,st,st',h=>by
  cases h;exact ⟨at_,by simp[zach]⟩
 |l::ls,at_,many,st,st',h=>by
  unfold foldT at h;cases ht:takeS many l st with
  |none=>rw[ht] at h; cases h
  |some s1=>
   rw[ht,Option.bind_some] at h;obtain ⟨p,hp⟩:=zakj ls (at_+((l.length:Int)+1)) (many+1) s1 st' h;refine ⟨p,?_⟩;have:zach (l::ls++[[]]) at_ many st=zach (ls++[[]]) (at_+((l.length:Int)+1)) (many+1) s1:=by
    cases hq:ls++[[]] with
    |nil=>simp at hq
    |cons m ms=>
     show zach (l::(ls++[[]])) at_ many st=_;rw[hq];simp only[zach,ht]
   rw[this,hp];simp only[List.length_cons];congr 3;omega
theorem zaoh:∀ (a b:List (List UInt8)) (many:Int) (st st1:St),foldT many a st=some st1→foldT many (a++b) st=foldT (many+a.length) b st1
 |[],b,many,st,st1,h=>by cases h; simp
 |l::a,b,many,st,st1,h=>by
  unfold foldT at h;cases ht:takeS many l st with
  |none=>rw[ht] at h; cases h
  |some s1=>
   rw[ht,Option.bind_some] at h;have:=zaoh a b (many+1) s1 st1 h;show (takeS many l st).bind (fun st'=>foldT (many+1) (a++b) st')=_;rw[ht,Option.bind_some,this];congr 1;simp only[List.length_cons];omega
def bodyI (a:Instr):List UInt8:=bodyS (wordS a) (numsS a)
def zad7 (c:ACode):List (List UInt8):=bodyS [116,104,114,101,97,100] [c.regs]::c.instrs.map bodyI
def zaei (x:Image):List (List UInt8):=bodyS [99,101,108,108,115] x.cells::bodyS [109,117,116,101,120,101,115] [x.mutexes]::x.threads.flatMap zad7
theorem zaqp (x:Image):zafw x=(zaei x).flatMap fun l=>l++[10]:=by
 have h:∀ c:ACode,zac1 c=(zad7 c).flatMap fun l=>l++[10]:=by
  intro c;unfold zac1 zad7;rw[List.flatMap_cons,List.flatMap_map];rfl
 have h2:x.threads.flatMap zac1=(x.threads.flatMap zad7).flatMap fun l=>l++[10]:=by
  rw[List.flatMap_assoc];congr 1;funext c;exact h c
 unfold zafw zaei;rw[List.flatMap_cons,List.flatMap_cons,h2,List.append_assoc];rfl
theorem zatv:opsL.all (fun o=>o.word.all (fun c=>decide (c≠32∧c≠10))&&decide (o.word≠[116,104,114,101,97,100]))=true:=by decide +kernel
theorem zao7 {a:Instr} (h:OkI a):(32:UInt8)∉wordS a∧(10:UInt8)∉wordS a∧wordS a≠[116,104,114,101,97,100]:=by
 obtain ⟨o,ho,_,_,_⟩:=zaem h.op1 h.op2;have e:wordS a=o.word:=by unfold wordS; rw[ho]
 have:=List.all_eq_true.1 zatv o (List.mem_of_getElem? ho);rw[Bool.and_eq_true,List.all_eq_true,decide_eq_true_eq] at this;rw[e];refine ⟨fun hm=>?_,fun hm=>?_,this.2⟩
 ·have:=of_decide_eq_true (this.1 32 hm); exact this.1 rfl
 ·have:=of_decide_eq_true (this.1 10 hm); exact this.2 rfl
theorem zaen {n a b c d e:Int} (h:fitK n 32 a b c d e=true):n=0:=by
 unfold fitK at h;simp at h;omega
theorem zatm {x:Image} {c:ACode} {a:Instr} (h:OkI a) (hf:fitsS x c a=true):zaj5 (wordS a) (numsS a)=some a:=by
 obtain ⟨o,ho,_,_,hn⟩:=zaem h.op1 h.op2;have b1:=h.op1;have b2:=h.op2;have h30:=zaig;have hlt:a.op.toNat<opsL.length:=by omega
 have hoe:opsL[a.op.toNat]=o:=by
  have:=List.getElem?_eq_getElem hlt;rw[ho] at this;exact (Option.some.inj this).symm
 have e1:wordS a=o.word:=by unfold wordS; rw[ho]
 have e2:numsS a=[a.a,a.b,a.c].take o.numbers.length:=by unfold numsS; rw[ho]
 have hlen:(numsS a).length=o.numbers.length:=by rw[e2]; simp only[List.length_take,List.length_cons,List.length_nil]; omega
 have hfound:opsL.findIdx? (opP (wordS a) (numsS a))=some a.op.toNat:=by
  rw[List.findIdx?_eq_some_iff_getElem];refine ⟨hlt,?_,fun q hq hqp=>?_⟩
  ·rw[hoe];unfold opP;rw[e1,hlen];simp
  ·unfold opP at hqp;rw[Bool.and_eq_true] at hqp;have hw:(opsL[q]'(by omega)).word=wordS a:=by simpa using hqp.1
   have:=zaty q a.op.toNat (by omega) (by omega) _ _ (List.getElem?_eq_getElem (by omega)) ho (by rw[hw,e1]);omega
 unfold zaj5;rw[hfound];simp only;rw[decide_eq_true (show 1≤a.op.toNat by omega),cond_true];unfold fitsS at hf;rw[ho] at hf;simp only[Bool.and_eq_true] at hf;obtain ⟨_,f0,f1,f2⟩:=hf;unfold fitX at f0 f1 f2;obtain ⟨op,p,q,r⟩:=a;have hop:((op.toNat:Nat):Int)=op:=by simp only at b1; omega
 rw[e2];simp only at f0 f1 f2 hop ⊢;rw[hop];match hk:o.numbers,hn with
 |[],_=>
  rw[hk] at f0 f1 f2;have z0:=zaen f0;have z1:=zaen f1;have z2:=zaen f2;subst z0; subst z1; subst z2;rfl
 |[k],_=>
  rw[hk] at f1 f2;have z1:=zaen f1;have z2:=zaen f2;subst z1; subst z2;rfl
 |[k,k2],_=>
  rw[hk] at f2;have z2:=zaen f2;subst z2;rfl
 |[k,k2,k3],_=>rfl
 |k::k2::k3::k4::ks,hn=>simp at hn
end Lift.AA
namespace Lift.AA
open Go Go.RowKit Lift Go.IntWalk Lift.Fn
set_option linter.unusedVariables false
set_option linter.unusedSimpArgs false
theorem zaw1 (ts:List ACode) (r:Int) (acc:List Instr) (a:Instr):addI (ts++[ACode.mk r acc]) a=some (ts++[ACode.mk r (acc++[a])]):=by
 have hl:(ts++[ACode.mk r acc]).length-1=ts.length:=by simp
 unfold addI;rw[hl];have:(ts++[ACode.mk r acc])[ts.length]? = some (ACode.mk r acc):=by simp
 rw[this];simp
theorem zaub {x:Image} {c:ACode} {a:Instr} {many:Int} (hm:3≤many) (h:OkI a) (hf:fitsS x c a=true) (m:Int) (cs:List Int) (ts:List ACode) (r:Int) (acc:List Instr) :
  takeS many (bodyI a) (m,cs,ts++[ACode.mk r acc])=some (m,cs,ts++[ACode.mk r (acc++[a])]):=by
 obtain ⟨w1,w2,w3⟩:=zao7 h;unfold takeS bodyI;rw[zagf _ _ w1 (zanq h).1,Option.bind_some];have c0:(many==0)=false:=by simp; omega
 have c1:(many==1)=false:=by simp; omega
 have c2:(many==2)=false:=by simp; omega
 have c3:(wordS a==[116,104,114,101,97,100])=false:=by simpa using w3
 simp only[c0,c1,c2,c3,cond_false,zatm h hf,Option.bind_some,zaw1,Option.map_some]
theorem zalu {x:Image} {c:ACode}:∀ (l:List Instr) (many:Int) (m:Int) (cs:List Int) (ts:List ACode) (r:Int) (acc:List Instr),3≤many→(∀ a∈l,OkI a∧fitsS x c a=true) →
  foldT many (l.map bodyI) (m,cs,ts++[ACode.mk r acc])=some (m,cs,ts++[ACode.mk r (acc++l)])
 |[],many,m,cs,ts,r,acc,_,_=>by simp[foldT]
 |a::l,many,m,cs,ts,r,acc,hm,h=>by
  obtain ⟨h1,h2⟩:=h a (by simp);rw[List.map_cons];unfold foldT;rw[zaub hm h1 h2,Option.bind_some,zalu l (many+1) m cs ts r (acc++[a]) (by omega) (fun b hb=>h b (by simp[hb]))];simp
theorem zarw {n:Int} {many:Int} (hm:2≤many) (h0:0≤n) (h1:n≤64) (m:Int) (cs:List Int) (ts:List ACode) :
  takeS many (bodyS [116,104,114,101,97,100] [n]) (m,cs,ts)=some (m,cs,ts++[ACode.mk n []]):=by
 unfold takeS;rw[zagf _ _ (by decide) (fun k hk=>by simp only[List.mem_singleton] at hk; subst hk; unfold okN; omega),Option.bind_some];have c0:(many==0)=false:=by simp; omega
 have c1:(many==1)=false:=by simp; omega
 simp only[c0,c1,cond_false];rw[show (([116,104,114,101,97,100]:List UInt8)==[116,104,114,101,97,100])=true from rfl,cond_true,zai5,decide_eq_true (show n≥0 by omega)];rfl
theorem zakf {x:Image}:∀ (l:List ACode) (many:Int) (m:Int) (cs:List Int) (ts:List ACode),2≤many→(∀ c∈l,OkC c∧∀ a∈c.instrs,fitsS x c a=true) →
  foldT many (l.flatMap zad7) (m,cs,ts)=some (m,cs,ts++l)
 |[],many,m,cs,ts,_,_=>by simp[foldT]
 |c::l,many,m,cs,ts,hm,h=>by
  obtain ⟨h1,h2⟩:=h c (by simp);have hr:=h1.regs;have e:foldT many (zad7 c) (m,cs,ts)=some (m,cs,ts++[c]):=by
   unfold zad7 foldT;rw[zarw hm hr.1 hr.2,Option.bind_some,zalu (x:=x) (c:=c) c.instrs (many+1) m cs ts c.regs [] (by omega) (fun a ha=>⟨h1.all a ha,h2 a ha⟩)];simp
  rw[List.flatMap_cons,zaoh _ _ _ _ _ e,zakf l _ m cs (ts++[c]) (by omega) (fun d hd=>h d (by simp[hd]))];simp
theorem zaum {x:Image} (hr:zacd x=true):foldT 0 (zaei x) (0,[],[])=some (x.mutexes,x.cells,x.threads):=by
 have ok:=zahh hr;have hmu:=ok.mu;have hc:takeS 0 (bodyS [99,101,108,108,115] x.cells) (0,[],[])=some (0,x.cells,[]):=by
  unfold takeS;rw[zagf _ _ (by decide) ok.cells,Option.bind_some];rfl
 have hm:takeS 1 (bodyS [109,117,116,101,120,101,115] [x.mutexes]) (0,x.cells,[])=some (x.mutexes,x.cells,[]):=by
  unfold takeS;rw[zagf _ _ (by decide) (zaq8 ok),Option.bind_some];have:oneO [x.mutexes]=some x.mutexes:=by rw[zai5,decide_eq_true (show x.mutexes≥0 from hmu.1)]; rfl
  simp only[this];rfl
 have hall:∀ c∈x.threads,OkC c∧∀ a∈c.instrs,fitsS x c a=true:=by
  intro c hcm;refine ⟨ok.all c hcm,fun a ha=>?_⟩;unfold zacd at hr;rw[Bool.and_eq_true,Bool.and_eq_true] at hr;have h1:=List.all_eq_true.1 hr.2.2 c hcm;unfold codeS at h1;rw[Bool.and_eq_true] at h1;obtain ⟨_,h1⟩:=h1;rw[Bool.and_eq_true] at h1;exact List.all_eq_true.1 h1.2 a ha
 unfold zaei;show (takeS 0 _ _).bind (fun st'=>foldT 1 _ st')=_;rw[hc,Option.bind_some];show (takeS 1 _ _).bind (fun st'=>foldT 2 _ st')=_;rw[hm,Option.bind_some,zakf (x:=x) x.threads 2 x.mutexes x.cells [] (by omega) hall];simp
theorem zaw4 {x:Image} (ok:OkX x):∀ l∈zaei x,(10:UInt8)∉l:=by
 intro l hl;unfold zaei at hl;rcases List.mem_cons.1 hl with rfl|hl
 ·exact zak1 (by decide)
 rcases List.mem_cons.1 hl with rfl|hl
 ·exact zak1 (by decide)
 rw[List.mem_flatMap] at hl;obtain ⟨c,hc,hl⟩:=hl;unfold zad7 at hl;rcases List.mem_cons.1 hl with rfl|hl
 ·exact zak1 (by decide)
 rw[List.mem_map] at hl;obtain ⟨a,ha,rfl⟩:=hl;exact zak1 (zao7 ((ok.all c hc).all a ha)).2.1
theorem zau1 {x:Image} (ok:OkX x):3≤(zaei x).length:=by
 have h1:=ok.th1;unfold zaei;cases hq:x.threads with
 |nil=>rw[hq] at h1; simp at h1
 |cons c l=>
  rw[List.flatMap_cons];unfold zad7;simp only[List.length_cons,List.length_append];omega
theorem zati {x:Image} (hr:zacd x=true):readS (zafw x)=(x,0,0):=by
 have ok:=zahh hr;unfold readS;rw[zaqp,zake _ (zaw4 ok)];obtain ⟨p,hp⟩:=zakj _ 0 0 _ _ (zaum hr);rw[hp];have h3:=zau1 ok;simp only;rw[decide_eq_false (by omega),cond_false];have e:imgOf (x.mutexes,x.cells,x.threads)=x:=rfl;rw[e,hr];rfl
theorem zavd {x:Image} (ok:OkX x):(zafw x).length≤5000000:=by
 have h1:=zaqv ok;have h2:=flat_len zac1 500000 x.threads (fun c hc=>zam7 (ok.all c hc));have:=ok.th;unfold zafw;rw[List.length_append];omega
end Lift.AA
namespace Lift.A9
open Go Go.RowKit Lift Go.IntWalk Lift.Fn Lift.A3
set_option linter.unusedVariables false
set_option linter.unusedSimpArgs false
def gI (C M T N:Int) (i:Instr):Prop:=
 (i.op=1∧-2147483647≤i.b∧i.b≤2147483647∧i.c=0)∨(2≤i.op∧i.op≤4∧i.c=0)∨(5≤i.op∧i.op≤17)∨(i.op=18∧0≤i.a∧i.a<N∧i.b=0∧i.c=0) ∨
 (19≤i.op∧i.op≤20∧0≤i.b∧i.b<N∧i.c=0)∨(i.op=21∧0≤i.b∧i.b<C∧i.c=0)∨(i.op=22∧0≤i.a∧i.a<C∧i.c=0)∨(i.op=23∧0≤i.b∧i.b<C) ∨
 (24≤i.op∧i.op≤25∧0≤i.a∧i.a<M∧i.b=0∧i.c=0)∨(26≤i.op∧i.op≤27∧0≤i.a∧i.a<T∧i.b=0∧i.c=0)∨(i.op=28∧i.b=0∧i.c=0)∨(i.op=29∧i.a=0∧i.b=0∧i.c=0)
def gL (C M T N:Int) (l:List Instr):Prop:=∀ i∈l,gI C M T N i
theorem zamq {C M T N:Int}:gL C M T N []:=fun i h=>by cases h
theorem zaiz {C M T N:Int} {x:Instr} {l:List Instr} (h:gI C M T N x) (h2:gL C M T N l):gL C M T N (x::l):=fun i hi=>by
 cases hi with
 |head=>exact h
 |tail _ hi=>exact h2 i hi
theorem zafq {C M T N:Int} {a b:List Instr} (h:gL C M T N a) (h2:gL C M T N b):gL C M T N (a++b):=fun i hi=>(List.mem_append.1 hi).elim (h i) (h2 i)
theorem zacm {C M T N:Int} {x:Instr} (h:gI C M T N x):gL C M T N [x]:=zaiz h zamq
theorem xC_G (u:TUnit) (r:Int) (C M T N:Int):∀ (q:Nat) (x:TExpr) (k:Int),nE x≤q→eF (nX (nmU u r) x)=true→wX x=true→gL C M T N (xC k x):=by
 intro q;induction q with
 |zero=>intro x k h; have:=nE_eq x; omega
 |succ q ih=>
  intro x k hq h hw;rw[eF_eq,zaqi,zae8,List.all_map,Bool.and_eq_true] at h;obtain ⟨h,ha⟩:=h;rw[List.all_eq_true] at ha;have hn:=nE_eq x;obtain ⟨kd,m,s,l⟩:=x;rcases zai3 hw with ⟨h1,h2⟩|⟨h1,h2,h3,h4⟩|⟨h1,a,h2,h3⟩|⟨h1,h1',a,b,h2,h3,h4⟩
  ·simp only at h1 h2;subst h1;subst h2;have q1:((1:Int)==1)=true:=rfl;simp only[q1,cond_true,Bool.and_eq_true,decide_eq_true_eq] at h;rw[xC];exact zacm (Or.inl ⟨rfl,by show -2147483647≤m; omega,by show m≤2147483647; omega,rfl⟩)
  ·simp only at h1 h2;subst h1;subst h2;rw[xC];exact zacm (Or.inr (Or.inl ⟨by show (2:Int)≤2; omega,by show (2:Int)≤4; omega,rfl⟩))
  ·simp only at h1 h2;subst h2;have hna:nE a≤q:=by simp only[nEs] at hn; omega
   rw[xC];refine zafq (ih a k hna (ha a (by simp)) h3) (zacm (Or.inr (Or.inl ?_)));show 2≤kd∧kd≤4∧(0:Int)=0;omega
  ·simp only at h1 h1' h2;subst h2;have hna:nE a≤q∧nE b≤q:=by simp only[nEs] at hn; omega
   rw[xC];refine zafq (ih a k hna.1 (ha a (by simp)) h3) (zafq (ih b (k+1) hna.2 (ha b (by simp)) h4) (zacm (Or.inr (Or.inr (Or.inl ?_)))));exact ⟨h1,h1'⟩
end Lift.A9
namespace Lift.A9
open Go Go.RowKit Lift Go.IntWalk Lift.Fn Lift.A3
set_option linter.unusedVariables false
set_option linter.unusedSimpArgs false
theorem zayg (u:TUnit) (r:Int) (x:TAct) (h:sOk (nSt (nmU u r) x)=true) :
  inR x.kind=true∧stK x=x.kind∧(hasR x.kind=true→0≤x.reg∧x.reg<r)∧(needK x.kind≠0→0≤x.obj∧x.obj<thN u x.kind)∧((shp x.kind).expr=true→x.expr.kind≠0)∧((shp x.kind).expr=false→none_ x.expr=true):=by
 rw[zaec] at h;unfold sOk at h;simp only[Bool.and_eq_true] at h;obtain ⟨⟨⟨⟨⟨⟨h1,h2⟩,h3⟩,h4⟩,_⟩,_⟩,_⟩:=h;have hk:stK x=x.kind∧((!hasR x.kind&&x.reg != 0)||(needK x.kind==0&&x.obj != 0))=false:=by
  unfold stK at h1 ⊢;cases hc:((!hasR x.kind&&x.reg != 0)||(needK x.kind==0&&x.obj != 0)) with
  |true=>rw[hc,cond_true] at h1; exact absurd h1 (by decide)
  |false=>exact ⟨rfl,rfl⟩
 obtain ⟨hk,hc⟩:=hk;rw[Bool.or_eq_false_iff] at hc;rw[hk] at h1 h2 h3 h4;rw[zaqe u r x hc.1 h1,zakw h1] at h2;rw[zavc u r x hc.2 h1,zal5 h1] at h3;refine ⟨h1,hk,?_,?_,?_,?_⟩
 ·intro hr;rw[hr] at h2;simp only[Bool.true_and,Bool.not_true,Bool.false_and,Bool.or_false,Bool.not_eq_true',Bool.or_eq_false_iff,decide_eq_false_iff_not] at h2;omega
 ·intro hn;have:(needK x.kind != 0)=true:=by simpa [bne] using hn
  rw[this] at h3;simp only[Bool.true_and,Bool.not_true,Bool.false_and,Bool.or_false,Bool.not_eq_true',Bool.or_eq_false_iff,decide_eq_false_iff_not] at h3;omega
 ·intro he;rw[he,zafj] at h4;simp only[Bool.true_and,Bool.not_true,Bool.false_and,Bool.or_false,bne,Bool.not_eq_true',beq_eq_false_iff_ne] at h4;exact h4
 ·intro he;rw[he,zan1] at h4;simpa using h4
theorem eC_G (u:TUnit) (r:Int) (hr:0≤r) (hr8:r≤8) (C M T N:Int) (k:Int) (x:TAct) (h:(if zaak (nX (nmU u r) x.expr) then eF (nX (nmU u r) x.expr) else true)=true):gL C M T N (eC k x.expr):=by
 have w:=(sExpr u r hr hr8 x h).1;unfold eC;cases h0:x.expr.kind==0 with
 |true=>exact zamq
 |false=>
  rw[h0,Bool.false_or] at w;have ht:zaak (nX (nmU u r) x.expr)=true:=by
   rw[zag3,zaak,bne,h0];rfl
  rw[if_pos ht] at h;exact xC_G u r C M T N _ x.expr k (Nat.le_refl _) h w
theorem thN_1 {u:TUnit} {k:Int} (h:k=2∨k=3∨k=4):thN u k=u.cells.length:=by rcases h with rfl|rfl|rfl<;>rfl
theorem thN_2 {u:TUnit} {k:Int} (h:k=5∨k=6):thN u k=u.mutexes:=by rcases h with rfl|rfl<;>rfl
theorem thN_3 {u:TUnit} {k:Int} (h:k=7∨k=8):thN u k=u.threads.length:=by rcases h with rfl|rfl<;>rfl
mutual
theorem aC_G (u:TUnit) (r:Int) (hr:0≤r) (hr8:r≤8) (N:Int):∀ (x:TAct) (d:Int) (p:Nat),sF (nSt (nmU u r) x)=true→((p+(aC r d p x).length:Nat):Int)<N→gL u.cells.length u.mutexes u.threads.length N (aC r d p x)
 |⟨k,rg,ob,x,c,t,e⟩,d,p,h,hN=>by
  have h0:=h;rw[sF_eq,Bool.and_eq_true,Bool.and_eq_true,Bool.and_eq_true] at h;obtain ⟨h1,h2,h3,h4⟩:=h;have f:=zanw u r _ h1;obtain ⟨hk,_,_,hob,_,_⟩:=zayg u r _ h1;rw[zaec] at h2 h3 h4;have hX:=eC_G u r hr hr8 u.cells.length u.mutexes u.threads.length N (r+d) ⟨k,rg,ob,x,c,t,e⟩ h2;have jt:=fun d p=>aCs_G u r hr hr8 N t d p h3
  have je:=fun d p=>aCs_G u r hr hr8 N e d p h4
  rw[aC_eq] at hN ⊢;rw[List.length_append] at hN;simp only at f hk hob hX hN ⊢;refine zafq hX ?_;have hN:((p+(eC (r+d) x).length+(aTl r d (p+(eC (r+d) x).length) ⟨k,rg,ob,x,c,t,e⟩).length:Nat):Int)<N:=by
   rw[Nat.add_assoc]; exact hN
  clear hX;generalize p+(eC (r+d) x).length=q at hN ⊢;revert hN;unfold aTl;rcases zacr hk with h|h|h|h|h|h|h|h|h|h|h<;>subst h<;>simp only[Int.reduceBEq,cond_true,cond_false]
  ·intro _; exact zacm (Or.inr (Or.inl ⟨by show (2:Int)≤2; omega,by show (2:Int)≤4; omega,rfl⟩))
  ·intro _;have:=hob (by decide);rw[thN_1 (by simp)] at this;exact zacm (Or.inr (Or.inr (Or.inr (Or.inr (Or.inr (Or.inl ⟨rfl,this.1,this.2,rfl⟩))))))
  ·intro _;have:=hob (by decide);rw[thN_1 (by simp)] at this;exact zacm (Or.inr (Or.inr (Or.inr (Or.inr (Or.inr (Or.inr (Or.inl ⟨rfl,this.1,this.2,rfl⟩)))))))
  ·intro _;have:=hob (by decide);rw[thN_1 (by simp)] at this;exact zacm (Or.inr (Or.inr (Or.inr (Or.inr (Or.inr (Or.inr (Or.inr (Or.inl ⟨rfl,this.1,this.2⟩))))))))
  ·intro _;have:=hob (by decide);rw[thN_2 (by simp)] at this;exact zacm (Or.inr (Or.inr (Or.inr (Or.inr (Or.inr (Or.inr (Or.inr (Or.inr (Or.inl ⟨by show (24:Int)≤24; omega,by show (24:Int)≤25; omega,this.1,this.2,rfl,rfl⟩)))))))))
  ·intro _;have:=hob (by decide);rw[thN_2 (by simp)] at this;exact zacm (Or.inr (Or.inr (Or.inr (Or.inr (Or.inr (Or.inr (Or.inr (Or.inr (Or.inl ⟨by show (24:Int)≤25; omega,by show (25:Int)≤25; omega,this.1,this.2,rfl,rfl⟩)))))))))
  ·intro _;have:=hob (by decide);rw[thN_3 (by simp)] at this;exact zacm (Or.inr (Or.inr (Or.inr (Or.inr (Or.inr (Or.inr (Or.inr (Or.inr (Or.inr (Or.inl ⟨by show (26:Int)≤26; omega,by show (26:Int)≤27; omega,this.1,this.2,rfl,rfl⟩))))))))))
  ·intro _;have:=hob (by decide);rw[thN_3 (by simp)] at this;exact zacm (Or.inr (Or.inr (Or.inr (Or.inr (Or.inr (Or.inr (Or.inr (Or.inr (Or.inr (Or.inl ⟨by show (26:Int)≤27; omega,by show (27:Int)≤27; omega,this.1,this.2,rfl,rfl⟩))))))))))
  ·intro _;exact zacm (Or.inr (Or.inr (Or.inr (Or.inr (Or.inr (Or.inr (Or.inr (Or.inr (Or.inr (Or.inr (Or.inl ⟨rfl,rfl,rfl⟩)))))))))))
  ·cases hz:e.isEmpty with
   |true=>
    rw[cond_true];intro hN;simp only[List.length_cons] at hN;refine zaiz (Or.inr (Or.inr (Or.inr (Or.inr (Or.inl ⟨by show (19:Int)≤19; omega,by show (19:Int)≤20; omega,?_,?_,rfl⟩))))) (jt _ _ (by omega))
    ·show (0:Int)≤((q+1+(aCs r d (q+1) t).length:Nat):Int); omega
    ·show ((q+1+(aCs r d (q+1) t).length:Nat):Int)<N; omega
   |false=>
    rw[cond_false];intro hN;simp only[List.length_cons,List.length_append] at hN;refine zaiz (Or.inr (Or.inr (Or.inr (Or.inr (Or.inl ⟨by show (19:Int)≤19; omega,by show (19:Int)≤20; omega,?_,?_,rfl⟩))))) (zafq (jt _ _ (by omega)) (zaiz (Or.inr (Or.inr (Or.inr (Or.inl ⟨rfl,?_,?_,rfl,rfl⟩)))) (je _ _ (by omega))))
    ·show (0:Int)≤((q+1+(aCs r d (q+1) t).length+1:Nat):Int); omega
    ·show ((q+1+(aCs r d (q+1) t).length+1:Nat):Int)<N; omega
    ·show (0:Int)≤((q+1+(aCs r d (q+1) t).length+1+(aCs r d (q+1+(aCs r d (q+1) t).length+1) e).length:Nat):Int); omega
    ·show ((q+1+(aCs r d (q+1) t).length+1+(aCs r d (q+1+(aCs r d (q+1) t).length+1) e).length:Nat):Int)<N; omega
  ·cases hz:c==0 with
   |true=>intro _; exact zamq
   |false=>
    rw[cond_false];intro hN;simp only[List.length_cons,List.length_append,List.length_nil] at hN;refine zaiz (Or.inl ⟨rfl,?_,?_,rfl⟩) (zafq (jt _ _ (by omega)) (zacm (Or.inr (Or.inr (Or.inr (Or.inr (Or.inl ⟨by show (19:Int)≤20; omega,by show (20:Int)≤20; omega,?_,?_,rfl⟩)))))))
    ·show -2147483647≤c; omega
    ·show c≤2147483647; omega
    ·show (0:Int)≤((q+1:Nat):Int); omega
    ·show ((q+1:Nat):Int)<N; omega
theorem aCs_G (u:TUnit) (r:Int) (hr:0≤r) (hr8:r≤8) (N:Int):∀ (l:List TAct) (d:Int) (p:Nat),sFs (nSts (nmU u r) l)=true→((p+(aCs r d p l).length:Nat):Int)<N→gL u.cells.length u.mutexes u.threads.length N (aCs r d p l)
 |[],d,p,_,_=>by rw[aCs]; exact zamq
 |x::l,d,p,h,hN=>by
  rw[nSts,sFs,Bool.and_eq_true] at h;rw[aCs,List.length_append] at hN;rw[aCs];exact zafq (aC_G u r hr hr8 N x d p h.1 (by omega)) (aCs_G u r hr hr8 N l d _ h.2 (by omega))
end
end Lift.A9
namespace Lift.A9
open Go Go.RowKit Lift Go.IntWalk Lift.Fn Lift.A3
set_option linter.unusedVariables false
set_option linter.unusedSimpArgs false
theorem zawq:∀ (l:List Instr) (m:Int) (i:Instr),i∈l→((usesS i.op).1=true→i.a<fm l m)∧((usesS i.op).2.1=true→i.b<fm l m)∧((usesS i.op).2.2=true→i.c<fm l m)
 |x::l,m,i,h=>by
  rw[zaay];cases h with
  |head=>
   have g:=fm_ge l (um x m);have e:um x m=um x m:=rfl;unfold um at e;refine ⟨fun q=>?_,fun q=>?_,fun q=>?_⟩
   ·have:x.a+1≤um x m:=by
     unfold um;rw[q];cases (usesS x.op).2.1<;>cases (usesS x.op).2.2<;>simp<;>omega
    omega
   ·have:x.b+1≤um x m:=by
     unfold um;rw[q];cases (usesS x.op).1<;>cases (usesS x.op).2.2<;>simp<;>omega
    omega
   ·have:x.c+1≤um x m:=by
     unfold um;rw[q];cases (usesS x.op).1<;>cases (usesS x.op).2.1<;>simp<;>omega
    omega
  |tail _ h=>exact zawq l (um x m) i h
open Lift.AA in
theorem zays (x:Image) (c:ACode) (a:Instr) (h:gI x.cells.length x.mutexes x.threads.length c.instrs.length a) (hu:U a)
  (h1:(usesS a.op).1=true→a.a<c.regs) (h2:(usesS a.op).2.1=true→a.b<c.regs) (h3:(usesS a.op).2.2=true→a.c<c.regs):fitsS x c a=true:=by
 obtain ⟨op,p,q,s⟩:=a;unfold gI at h;unfold U at hu;simp only at h hu h1 h2 h3;obtain ⟨u1,u2,u3⟩:=hu;have:op=1∨op=2∨op=3∨op=4∨op=5∨op=6∨op=7∨op=8∨op=9∨op=10∨op=11∨op=12∨op=13∨op=14∨op=15∨op=16∨op=17∨op=18∨op=19∨op=20∨op=21∨op=22∨op=23∨op=24∨op=25∨op=26∨op=27∨op=28∨op=29:=by omega
 rcases this with rfl|rfl|rfl|rfl|rfl|rfl|rfl|rfl|rfl|rfl|rfl|rfl|rfl|rfl|rfl|rfl|rfl|rfl|rfl|rfl|rfl|rfl|rfl|rfl|rfl|rfl|rfl|rfl|rfl <;>
  simp[usesS] at u1 u2 u3 h1 h2 h3<;>simp[fitsS,opsL,fitX,zade,fitK]<;>omega
theorem zauo (u:TUnit) (hr:zac3 u=true):∀ t∈u.threads,(zab6 t).length≤1001:=by
 intro t ht;obtain ⟨r1,r2,r3,r4,rt⟩:=zal9 u hr;obtain ⟨t1,t2,t3,t4⟩:=rt t ht;have hw:=zaic u t.regs t1 t2 t.acts t3;have hl:=zai0 t.regs t.acts 0 0 hw;have hc:cSs (plAs t.acts)≤500:=by
  unfold zac3 at hr;cases hb:zac2 u with
  |true=>rw[hb] at hr; cases hr
  |false=>
   rw[hb,cond_false] at hr;cases ha:u.threads.all (fun t=>!zabj t) with
   |false=>rw[ha] at hr; cases hr
   |true=>
    rw[ha,cond_true] at hr;have h:=eq_of_beq hr;unfold zagw at h;cases hp:pOk (zaa3 u (nmsU u)) with
    |false=>rw[hp] at h; simp at h
    |true=>
     rw[hp,Bool.not_true,cond_false] at h;by_cases hm:maxEv (evP (zaa3 u (nmsU u))) 0>16
     ·rw[decide_eq_true hm,cond_true] at h; cases h
     ·rw[decide_eq_false hm,cond_false] at h;by_cases hn:(cT (zaa3 u (nmsU u)).threads:Int)>500
      ·rw[decide_eq_true hn,cond_true] at h; cases h
      ·have hx:∀ n,(xs n).length=n:=by intro n; simp[xs]
       have key:∀ (l:List TBody) (m:List ((List UInt8)×List (List UInt8))),m.length=l.length→t∈l→cSs (plAs t.acts)≤cT ((l.zip m).map fun z=>TThread.mk z.2.1 (nSts ⟨xs u.cells.length,xs u.mutexes.toNat,xs u.threads.length,z.2.2⟩ z.1.acts)):=by
        intro l;induction l with
        |nil=>intro m _ h; cases h
        |cons a l ih=>
         intro m hm ht;cases m with
         |nil=>cases hm
         |cons b m=>
          simp only[List.zip_cons_cons,List.map_cons,cT];rcases List.mem_cons.1 ht with rfl|ht
          ·have e1:=lenSs (nSts ⟨xs u.cells.length,xs u.mutexes.toNat,xs u.threads.length,b.2⟩ t.acts) 1;have e2:=lenSs (plAs t.acts) 1;have e3:=zatc (zahb ⟨xs u.cells.length,xs u.mutexes.toNat,xs u.threads.length,b.2⟩ t.acts 1);omega
          ·have:=ih m (by simpa using hm) ht;omega
       have:=key u.threads ((xs u.threads.length).zip (u.threads.map fun t=>xs t.regs.toNat)) (by simp[hx]) ht;have e:(zaa3 u (nmsU u)).threads=(u.threads.zip ((xs u.threads.length).zip (u.threads.map fun t=>xs t.regs.toNat))).map fun z=>TThread.mk z.2.1 (nSts ⟨xs u.cells.length,xs u.mutexes.toNat,xs u.threads.length,z.2.2⟩ z.1.acts):=rfl
       rw[e] at hn;omega
 unfold zab6;simp only[List.length_append,List.length_cons,List.length_nil];omega
def imgU (u:TUnit):Image:=⟨u.cells,u.mutexes,u.threads.map acOf⟩
open Lift.AA in
theorem zavr (u:TUnit) (hr:zac3 u=true):zacd (imgU u)=true:=by
 have hlen:=zauo u hr;obtain ⟨r1,r2,r3,r4,rt⟩:=zal9 u hr;have h1:1≤u.threads.length∧u.cells.all (fun c=>!(decide (c < -2147483647)||decide (c>2147483647)))=true:=by
  unfold zac3 at hr;cases hb:zac2 u with
  |true=>rw[hb] at hr; cases hr
  |false=>
   rw[hb,cond_false] at hr;unfold zac2 at hb;simp only[Bool.or_eq_false_iff,decide_eq_false_iff_not] at hb;refine ⟨by omega,?_⟩;cases ha:u.threads.all (fun t=>!zabj t) with
   |false=>rw[ha] at hr; cases hr
   |true=>
    rw[ha,cond_true] at hr;have h:=eq_of_beq hr;unfold zagw at h;cases hp:pOk (zaa3 u (nmsU u)) with
    |false=>rw[hp] at h; simp at h
    |true=>
     unfold pOk at hp;simp only[Bool.and_eq_true] at hp;have hc:=hp.1;have e:(zaa3 u (nmsU u)).cells=(u.cells.zip (xs u.cells.length)).map fun z=>TCell.mk z.2 z.1:=rfl
     rw[e] at hc;have key:∀ l:List Int,((l.zip (xs l.length)).map fun z=>TCell.mk z.2 z.1).all cOk=true→l.all (fun c=>!(decide (c < -2147483647)||decide (c>2147483647)))=true:=by
      intro l;induction l with
      |nil=>intro _; rfl
      |cons a l ih=>
       have e:xs (a::l).length=[120]::xs l.length:=by simp[xs,List.replicate_succ]
       rw[e];simp only[List.zip_cons_cons,List.map_cons,List.all_cons,Bool.and_eq_true];rintro ⟨a1,a2⟩
       unfold cOk at a1;simp only[Bool.and_eq_true,decide_eq_true_eq] at a1;refine ⟨?_,ih a2⟩;rw[decide_eq_false (by omega:¬ a < -2147483647),decide_eq_false (by omega:¬ a>2147483647)];rfl
     exact key u.cells hc
 unfold zacd headS imgU;simp only[List.length_map,Bool.and_eq_true,decide_eq_true_eq];refine ⟨⟨⟨⟨⟨by omega,by omega⟩,by omega⟩,by omega⟩,by omega⟩,?_,?_⟩
 ·rw[List.all_eq_true];intro c hc;have:=List.all_eq_true.1 h1.2 c hc;simp only[Bool.not_eq_true',Bool.or_eq_false_iff,decide_eq_false_iff_not] at this;unfold numS;rw[decide_eq_true (by omega:c≥-2147483647),decide_eq_true (by omega:c≤2147483647)];rfl
 ·rw[List.all_map,List.all_eq_true];intro t ht;obtain ⟨t1,t2,t3,t4⟩:=rt t ht;have hl:=hlen t ht;have hw:=zaic u t.regs t1 t2 t.acts t3;have hu:Us (zab6 t):=zafy (aCs_U t.regs t1 t.acts 0 0 hw (Int.le_refl _)) (zack (U_no rfl));have hlen0:(zab6 t).length=(aCs t.regs 0 0 t.acts).length+1:=by unfold zab6; simp
  have hg:gL u.cells.length u.mutexes u.threads.length (zab6 t).length (zab6 t):=by
   have a:=aCs_G u t.regs t1 t2 (zab6 t).length t.acts 0 0 t3 (by rw[hlen0]; omega);refine zafq a (zacm ?_);exact Or.inr (Or.inr (Or.inr (Or.inr (Or.inr (Or.inr (Or.inr (Or.inr (Or.inr (Or.inr (Or.inr ⟨rfl,rfl,rfl,rfl⟩))))))))))
  have hfm:fm (zab6 t) t.regs≤41:=by
   have a:=zanj u t.regs t1 t2 t.acts 1 0 0 t.regs t3 t4 (Int.le_refl _) (by omega);have e:fm (zab6 t) t.regs=fm (aCs t.regs 0 0 t.acts) t.regs:=by
    unfold zab6;rw[zacc];rfl
   rw[e];omega
  have hge:=fm_ge (zab6 t) t.regs;show codeS _ (acOf t)=true;unfold codeS acOf;simp only[Bool.and_eq_true,decide_eq_true_eq];refine ⟨⟨⟨⟨by omega,by omega⟩,by omega⟩,by omega⟩,?_,?_⟩
  ·unfold lastS zab6;simp
  ·rw[List.all_eq_true];intro i hi;have us:=zawq (zab6 t) t.regs i hi;refine zays _ _ i ?_ (hu i hi) us.1 us.2.1 us.2.2;simp only[List.length_map];exact hg i hi
end Lift.A9
namespace Lift.A9
open Go Go.RowKit Lift Go.IntWalk Lift.Fn Lift.A3
set_option linter.unusedVariables false
set_option linter.unusedSimpArgs false
open Lift.AA in
theorem zapc (u:TUnit) (h:nB u.threads≤100000000) (hc:u.cells.length≤100000000):qaS u=some true:=by
 rw[qaS,zaaa];unfold qaS_f;rw[zaxx,show TUnit.mk u.cells u.mutexes u.threads=u from rfl,zavk u h hc,zazk u h hc];simp only[Option.bind_some];unfold lowV;cases hr:zac3 u with
 |false=>rfl
 |true=>
  have hR:=zavr u hr;have ok:=zahh hR;simp only[cond_true,Bool.not_true,cond_false,Option.bind_some];have e:Image.mk u.cells u.mutexes (u.threads.map acOf)=imgU u:=rfl;rw[e,zajh,zapu,hR];simp only[Option.bind_some,cond_true];rw[zanx _ (zavd ok),zati hR];simp only[Option.bind_some];have es:qa9 (imgU u) (imgU u)=some true:=zao5 (imgU u) (by have:=ok.ce; omega) (by have:=ok.th; omega) (fun c hc=>by have:=(ok.all c hc).len; omega);have es':qa9 (imgU u) (Image.mk (imgU u).cells (imgU u).mutexes (imgU u).threads)=some true:=es;rw[es'];rfl
theorem zaa4 {u:Uni} {c:TV u.U} {cs:List (TV u.U)} {N:Nat} (h:SizedL u (c::cs) N):∃ a b,Sized u c a∧SizedL u cs b∧a+b+1≤N:=by
 cases h with
 |cons _ _ a b _ h1 h2 h3=>exact ⟨a,b,h1,h2,h3⟩
mutual
theorem szE:∀ (x:TExpr) (N:Nat),Sized H2.kk.u ⟨.st 87,x⟩ N→nE x≤N
 |⟨k,n,m,l⟩,N,h=>by
  have h1:SizedL H2.kk.u [⟨.int .i64,k⟩,⟨.int .i64,n⟩,⟨.str,m⟩,⟨.slc (.st 87),l⟩] N:=h.st_inv;obtain ⟨a1,b1,_,h1,e1⟩:=zaa4 h1;obtain ⟨a2,b2,_,h2,e2⟩:=zaa4 h1;obtain ⟨a3,b3,_,h3,e3⟩:=zaa4 h2;obtain ⟨a4,b4,s4,h4,e4⟩:=zaa4 h3;have:=szEs l a4 s4.slc_inv;rw[nE];omega
theorem szEs:∀ (l:List TExpr) (N:Nat),SizedL H2.kk.u (l.map (TV.mk (.st 87))) N→nEs l≤N
 |[],N,h=>by simp[nEs]
 |x::l,N,h=>by
  obtain ⟨a,b,h1,h2,e⟩:=zaa4 h;have:=szE x a h1;have:=szEs l b h2;rw[nEs];omega
end
mutual
theorem szA:∀ (x:TAct) (N:Nat),Sized H2.kk.u ⟨.st 89,x⟩ N→nA x≤N
 |⟨k,r,ob,⟨k',n',m',l'⟩,c,t,o⟩,N,h=>by
  have h1:SizedL H2.kk.u [⟨.int .i64,k⟩,⟨.int .i64,r⟩,⟨.int .i64,ob⟩,⟨.int .i64,k'⟩,⟨.int .i64,n'⟩,⟨.str,m'⟩,⟨.slc (.st 87),l'⟩,⟨.int .i64,c⟩,⟨.slc (.st 89),t⟩,⟨.slc (.st 89),o⟩] N:=h.st_inv;obtain ⟨a1,b1,_,h1,e1⟩:=zaa4 h1;obtain ⟨a2,b2,_,h2,e2⟩:=zaa4 h1;obtain ⟨a3,b3,_,h3,e3⟩:=zaa4 h2;obtain ⟨a4,b4,_,h4,e4⟩:=zaa4 h3;obtain ⟨a5,b5,_,h5,e5⟩:=zaa4 h4;obtain ⟨a6,b6,_,h6,e6⟩:=zaa4 h5;obtain ⟨a7,b7,s7,h7,e7⟩:=zaa4 h6;obtain ⟨a8,b8,_,h8,e8⟩:=zaa4 h7;obtain ⟨a9,b9,s9,h9,e9⟩:=zaa4 h8;obtain ⟨a10,b10,s10,h10,e10⟩:=zaa4 h9;have:=szEs l' a7 s7.slc_inv;have:=szAs t a9 s9.slc_inv;have:=szAs o a10 s10.slc_inv;rw[nA,nE];omega
theorem szAs:∀ (l:List TAct) (N:Nat),SizedL H2.kk.u (l.map (TV.mk (.st 89))) N→nAs l≤N
 |[],N,h=>by simp[nAs]
 |x::l,N,h=>by
  obtain ⟨a,b,h1,h2,e⟩:=zaa4 h;have:=szA x a h1;have:=szAs l b h2;rw[nAs];omega
end
theorem szB:∀ (l:List TBody) (N:Nat),SizedL H2.kk.u (l.map (TV.mk (.st 54))) N→nB l≤N
 |[],N,h=>by simp[nB]
 |⟨m,t⟩::l,N,h=>by
  obtain ⟨a,b,h1,h2,e⟩:=zaa4 h;have h3:SizedL H2.kk.u [⟨.int .i64,m⟩,⟨.slc (.st 89),t⟩] a:=h1.st_inv;obtain ⟨a1,b1,_,h3,e1⟩:=zaa4 h3;obtain ⟨a2,b2,s2,h4,e2⟩:=zaa4 h3;have:=szAs t a2 s2.slc_inv;have:=szB l b h2;rw[nB];show 1+nAs t+nB l≤N;omega
structure Small (y:TUnit):Prop where
 t:nB y.threads≤100000000
 c:y.cells.length≤100000000
theorem small (y:TUnit) (h:Sized H2.kk.u ⟨.st 25,y⟩ 1048576):Small y:=by
 obtain ⟨c,m,t⟩:=y;have h1:SizedL H2.kk.u [⟨.slc (.int .i64),c⟩,⟨.int .i64,m⟩,⟨.slc (.st 54),t⟩] 1048576:=h.st_inv;obtain ⟨a1,b1,s1,h1,e1⟩:=zaa4 h1;obtain ⟨a2,b2,s2,h2,e2⟩:=zaa4 h1;obtain ⟨a3,b3,s3,h3,e3⟩:=zaa4 h2;have:=szB t a3 s3.slc_inv;have q1:c.length≤a1:=s1.slc_len;exact ⟨by show nB t≤_; omega,by show c.length≤_; omega⟩
theorem asmLowers2 (u:TUnit) (h:Small u):qaS u=some true:=zapc u h.t h.c
end Lift.A9
