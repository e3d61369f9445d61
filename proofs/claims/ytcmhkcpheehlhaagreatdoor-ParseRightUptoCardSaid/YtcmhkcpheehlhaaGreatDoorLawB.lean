/-
  DERIVED. The Lean functions answer as the laws say. Conditions: as each theorem says.
-/
import Derived.Test.YtcmhkcpheehlhaaGreatDoorLawA
set_option linter.unusedVariables false
set_option linter.unusedSimpArgs false
set_option linter.unusedSectionVars false
namespace Lift.A1P
open Go Go.RowKit Lift Go.IntWalk Lift.Fn
theorem zavh (r:Int):qaP r=some (Sp.digit r):=by
 rw[<-zaqx,qaP,qby,zaaa,zaaa];rfl
theorem zatr (r:Int):qaR r=some (Sp.letter r):=by
 rw[qaR,zaaa];unfold qaR_f;simp only[cond_eq_ite,zatv,qa];repeat' split
 all_goals refine zahw ?_
 all_goals simp only[Sp.letter,Sp.isRune,beq_iff_eq,qd,qj,ya,xg,false_iff,true_iff,Bool.not_eq_true] at *
 all_goals omega
theorem zahc (ds:List Int) (r:Int) (es:List Int):∃ s,((put (ds++r::es) s0).1)[ds.length]? = some s/\s.rune=r/\s.at_=((encs ds).length:Int):=by
 have hl:ds.length<(put (ds++r::es) s0).1.length:=by rw[zatw,qc,qe]; omega
 refine ⟨_,xp hl,?_,?_⟩
 ·have h:=congrArg (fun l=>l[ds.length]?) (zams (ds++r::es) s0);simp only[List.getElem?_map,xp hl,Option.map_some] at h;rw[List.getElem?_append_right (qz _)] at h;simpa using h
 ·have h:=zat4 (ds++r::es) s0 ds.length _ (xp hl);rw[h,List.take_left];simp[s0]
theorem zad2 (rs:List Int):(put rs s0).1.length=rs.length:=zatw rs s0
theorem runL:∀ (es ds:List Int) (n:Nat),es.length<n->(ds++es).length<=9000000 ->
  qa1_i2 n (put (ds++es) s0).1 (ds.length:Int)=some ((ds.length:Int)+((es.takeWhile goesR).length:Int))
 |[],ds,n,hn,hl=>by
  obtain ⟨n,rfl⟩:∃ q,n=q+1:=⟨n-1,by simp at hn; omega⟩;simp only[qa1_i2,qa1_t2,zad2,xj];rw[qn (by omega),qf];simp
 |r::es,ds,n,hn,hl=>by
  obtain ⟨n,rfl⟩:∃ q,n=q+1:=⟨n-1,by simp at hn; omega⟩;obtain ⟨s,h1,h2,_⟩:=zahc ds r es;simp only[qa1_i2,qa1_t2,zad2];rw[qm (by rw[qc,qe]; omega),qg,qm (by omega),qg,xt,h1,qa,zatr,qa,h2];simp only[qa,zavh,h2,qg];rw[qc,qe] at hl;have ih:=runL es (ds++[r]) n (by simp at hn; omega) (by rw[qq,List.singleton_append,qc,qe]; omega);rw[qq,List.singleton_append,qc,qe,qr] at ih;rw[i64_in ((ds.length:Int)+1) (by omega)];rw[show ((ds.length+(0+1):Nat):Int)=(ds.length:Int)+1 by omega] at ih;rw[List.takeWhile_cons];unfold goesR at ih ⊢;cases hL:Sp.letter r with
  |true=>
   simp only[xf,qf,ih,Bool.true_or,if_true,qe];congr 1;omega
  |false=>
   cases hD:Sp.digit r with
   |true=>
    simp only[xf,xd,qg,qf,ih,Bool.or_true,if_true,qe];congr 1;omega
   |false=>
    simp only[xd,qg,Bool.or_self,xg,if_false,qr];congr 1
theorem zaze (es ds:List Int) (hl:(ds++es).length<=9000000):qa1 (put (ds++es) s0).1 (ds.length:Int)=some ((ds.length:Int)+((es.takeWhile goesR).length:Int)):=by
 rw[qa1,zaaa];unfold qa1_f;rw[qa1_l2,zaaa,runL es ds fuel (by rw[qc] at hl; unfold fuel; omega) hl];rfl
theorem part1 (ds w es:List Int) (hw:w≠[]):qa0 (put (ds++(w++es)) s0).1 (encs (ds++(w++es))) (ds.length:Int) ((ds.length:Int)+(w.length:Int))=some (encs w):=by
 obtain ⟨a,w',rfl⟩:∃ a w',w=a::w':=by
  cases w with
  |nil=>exact absurd rfl hw
  |cons a w=>exact ⟨a,w,rfl⟩
 obtain ⟨s,h1,_,h3⟩:=zahc ds a (w'++es);have hlen:(encs (ds++(a::w'++es))).length=(encs ds).length+((encs (a::w')).length+(encs es).length):=by
  rw[zaaj,zaaj,qc,qc]
 rw[qa0,zaaa];unfold qa0_f;rw[zad2];have htake:(encs (ds++(a::w'++es))).drop (encs ds).length=encs (a::w')++encs es:=by
  rw[zaaj,List.drop_left,zaaj]
 cases es with
 |nil=>
  rw[qn (by rw[xj,qc]; omega),qf,qm (by omega),qg,xt];rw[qp,h1,qa,h3];rw[qp] at hlen htake;rw[show (decide ((0:Int)<=((encs ds).length:Int))&&(decide (((encs ds).length:Int)<=((encs (ds++a::(w'++[]))).length:Int))&&decide (((encs (ds++a::(w'++[]))).length:Int)<=((encs (ds++a::(w'++[]))).length:Int))))=true by
   simp only[qd,qj]; omega]
  rw[qg,xt,xt,List.take_length,htake];simp[encs]
 |cons b es=>
  obtain ⟨s2,g1,_,g3⟩:=zahc (ds++(a::w')) b es;rw[qq,qc] at g1;rw[qm (by simp only[qc,qe]; omega),qg,qm (by omega),qg];rw[show ((ds.length:Int)+((a::w').length:Int)).toNat=ds.length+(a::w').length by omega,g1,qa,qm (by omega),qg,xt];rw[qp,h1,qa,h3,g3,zaaj ds (a::w'),qc];rw[qp] at hlen htake;rw[show (decide ((0:Int)<=((encs ds).length:Int))&&(decide (((encs ds).length:Int)<=(((encs ds).length+(encs (a::w')).length:Nat):Int))&&decide ((((encs ds).length+(encs (a::w')).length:Nat):Int)<=((encs (ds++a::(w'++b::es))).length:Int))))=true by
   simp only[qd,qj]; omega]
  rw[qg,xt,xt,List.drop_take,htake,show (encs ds).length+(encs (a::w')).length-(encs ds).length=(encs (a::w')).length by omega,List.take_left]
theorem inL (l:List (List UInt8)) (x:List UInt8) (hl:l.length<=4000):∀ (k n:Nat) (i:Int),0<=i->l.length-i.toNat<=k->k<n ->
  qaW_i2 n l x i=some (if (l.drop i.toNat).contains x then .inl true else .inr ()):=by
 intro k;have fin:∀ (n:Nat) (i:Int),0<=i->¬ i<l.length->qaW_i2 (n+1) l x i=some (if (l.drop i.toNat).contains x then .inl true else .inr ()):=by
  intro n i h0 c;rw[List.drop_eq_nil_of_le (by omega)];simp only[qaW_i2,qaW_t2,c,decide_false,qf,List.contains_nil,xg,if_false]
 induction k with
 |zero=>
  intro n i h0 hk hn;obtain ⟨n,rfl⟩:∃ q,n=q+1:=⟨n-1,by omega⟩;exact fin n i h0 (by omega)
 |succ k ih=>
  intro n i h0 hk hn;obtain ⟨n,rfl⟩:∃ q,n=q+1:=⟨n-1,by omega⟩;by_cases c:i<l.length
  ·have ha:i.toNat<l.length:=by omega
   rw[List.drop_eq_getElem_cons ha];simp only[qaW_i2,qaW_t2,c,h0,decide_true,qg,xp ha,qa,List.contains_cons];rw[i64_in (i+1) (by omega)];cases hx:(l[i.toNat]==x) with
   |true=>
    have:(x==l[i.toNat])=true:=by rw[beq_iff_eq] at hx ⊢; exact hx.symm
    rw[qg,this,Bool.true_or,if_pos rfl]
   |false=>
    have:(x==l[i.toNat])=false:=by rw[beq_eq_false_iff_ne] at hx ⊢; exact fun h=>hx h.symm
    rw[qf,this,Bool.false_or,ih n (i+1) (by omega) (by omega) (by omega),show (i+1).toNat=i.toNat+1 by omega]
  ·exact fin n i h0 c
theorem in1 (l:List (List UInt8)) (x:List UInt8) (hl:l.length<=4000):qaW l x=some (l.contains x):=by
 rw[qaW,zaaa];unfold qaW_f;rw[qaW_l2,zaaa,inL l x hl l.length fuel 0 (by omega) (by omega) (by unfold fuel; omega),Int.toNat_zero,List.drop_zero];cases l.contains x<;>rfl
def signs:List (List UInt8):=twos++ones.map (fun b=>[b])
theorem za03 (text:List UInt8) (at_:Nat) (ha:at_<=text.length) (ht:text.length<=9000000):∀ (k n:Nat) (i:Int),0<=i->signs.length-i.toNat<=k->k<n ->
  qa2_i3 n text at_ i signs=some (match (signs.drop i.toNat).find? (fun s=>decide (s.length<=(text.drop at_).length)&&((text.drop at_).take s.length==s)) with|some s=>.inl s|none=>.inr ()):=by
 have hs:signs.length=22:=rfl;intro k;have fin:∀ (n:Nat) (i:Int),0<=i->¬ i<signs.length->qa2_i3 (n+1) text at_ i signs=some (match (signs.drop i.toNat).find? (fun s=>decide (s.length<=(text.drop at_).length)&&((text.drop at_).take s.length==s)) with|some s=>.inl s|none=>.inr ()):=by
  intro n i h0 c;have hd:signs.drop i.toNat=[]:=List.drop_eq_nil_of_le (by omega);rw[hd];simp only[qa2_i3,qa2_t3,c,decide_false,qf,List.find?_nil]
 induction k with
 |zero=>
  intro n i h0 hk hn;obtain ⟨n,rfl⟩:∃ q,n=q+1:=⟨n-1,by omega⟩;exact fin n i h0 (by omega)
 |succ k ih=>
  intro n i h0 hk hn;obtain ⟨n,rfl⟩:∃ q,n=q+1:=⟨n-1,by omega⟩;by_cases c:i<signs.length
  ·have hi:i.toNat<signs.length:=by omega
   have hsl:∀ s∈signs,s.length<=2:=by decide
   have h2:=hsl signs[i.toNat] (List.getElem_mem hi);rw[List.drop_eq_getElem_cons hi,List.find?_cons,List.length_drop];simp only[qa2_i3,qa2_t3,c,h0,decide_true,qg,Bool.and_self,xp hi,qa];rw[i64_in ((text.length:Int)-(at_:Int)) (by omega),i64_in ((at_:Int)+(signs[i.toNat].length:Int)) (by omega),i64_in (i+1) (by omega)];have ih':=ih n (i+1) (by omega) (by omega) (by omega);rw[show (i+1).toNat=i.toNat+1 by omega,List.length_drop] at ih';by_cases hle:signs[i.toNat].length<=text.length-at_
   ·rw[qm (show (text.length:Int)-(at_:Int)>=(signs[i.toNat].length:Int) by omega),qg,qm hle,Bool.true_and];have b1:(decide ((0:Int)<=(at_:Int))&&(decide ((at_:Int)<=(at_:Int)+(signs[i.toNat].length:Int))&&decide ((at_:Int)+(signs[i.toNat].length:Int)<=(text.length:Int))))=true:=by
     simp only[qd,qj]; omega
    have hd:List.drop (Int.toNat (at_:Int)) (List.take (Int.toNat ((at_:Int)+(signs[i.toNat].length:Int))) text)=(text.drop at_).take signs[i.toNat].length:=by
     rw[xt,show ((at_:Int)+(signs[i.toNat].length:Int)).toNat=at_+signs[i.toNat].length by omega,List.drop_take,show at_+signs[i.toNat].length-at_=signs[i.toNat].length by omega]
    rw[b1,qg,hd];cases hq:((text.drop at_).take signs[i.toNat].length==signs[i.toNat]) with
    |true=>simp only[qg]
    |false=>simp only[qf]; exact ih'
   ·rw[qn (show ¬ (text.length:Int)-(at_:Int)>=(signs[i.toNat].length:Int) by omega),qf,qn hle,Bool.false_and];exact ih'
  ·exact fin n i h0 c
theorem zaqp (L:List (List UInt8)) (m:Nat) (hL:∀ s∈L,s.length=m) (d:List UInt8):L.find? (fun s=>decide (s.length<=d.length)&&(d.take s.length==s))=if m<=d.length/\L.contains (d.take m)=true then some (d.take m) else none:=by
 induction L with
 |nil=>simp
 |cons s L ih=>
  have hs:=hL s (by simp);have ih':=ih (fun x hx=>hL x (by simp[hx]));rw[List.find?_cons,hs,ih',List.contains_cons];by_cases hm:m<=d.length
  ·rw[qm hm,Bool.true_and];cases hq:(d.take m==s) with
   |true=>
    have:d.take m=s:=by simpa using hq
    rw[this];exact (if_pos ⟨hm,rfl⟩).symm
   |false=>simp only[Bool.false_or]
  ·rw[qn hm,Bool.false_and,if_neg (fun h=>hm h.1),if_neg (fun h=>hm h.1)]
theorem zayo (b:UInt8):(ones.map (fun b=>[b])).contains [b]=ones.contains b:=by
 simp only[ones,xn,List.map_nil,List.contains_cons,List.contains_nil];have:∀ c:UInt8,([b]==[c])=(b==c):=fun c=>by
  rw[Bool.eq_iff_iff];simp
 simp only[this]
theorem zayp (d:List UInt8):signs.find? (fun s=>decide (s.length<=d.length)&&(d.take s.length==s))=if sgn d=[] then none else some (sgn d):=by
 unfold signs;rw[List.find?_append,zaqp twos 2 (fun s hs=>(zajc s hs).1),zaqp (ones.map fun b=>[b]) 1 (by intro s hs; obtain ⟨b,_,rfl⟩:=List.mem_map.1 hs; rfl)];unfold sgn;by_cases h1:1<d.length/\twos.contains (d.take 2)=true
 ·have hne:d.take 2≠[]:=by
   intro h;have:=congrArg List.length h;rw[xy,qr] at this;omega
  rw[if_pos (show 2<=d.length/\twos.contains (d.take 2)=true from ⟨by omega,h1.2⟩),if_pos h1,if_neg hne];rfl
 ·rw[if_neg (show ¬ (2<=d.length/\twos.contains (d.take 2)=true) from fun h=>h1 ⟨by omega,h.2⟩),if_neg h1];cases d with
  |nil=>
   rw[if_neg (by simp)];have:ones.contains (([]:List UInt8).headD 0)=false:=by decide
   rw[this]; rfl
  |cons b d=>
   have ht:(b::d).take 1=[b]:=rfl;rw[ht,zayo,List.headD_cons];cases ones.contains b with
   |true=>rw[if_pos ⟨by simp,rfl⟩]; rfl
   |false=>rw[if_neg (by simp)]; rfl
theorem sign2 (text:List UInt8) (at_:Nat) (ha:at_<=text.length) (ht:text.length<=9000000):qa2 text at_=some (sgn (text.drop at_)):=by
 rw[qa2,zaaa];unfold qa2_f;have hs:qa3=some signs:=by rw[qa3,zaaa]; rfl
 have hsl:signs.length=22:=rfl;rw[hs,qa,qa2_l3,zaaa,za03 text at_ ha ht 22 fuel 0 (by omega) (by omega) (by unfold fuel; omega),Int.toNat_zero,List.drop_zero,zayp];by_cases h:sgn (text.drop at_)=[]
 ·rw[if_pos h,h]; rfl
 ·rw[if_neg h]; rfl
def dig (c:UInt8):Bool:=decide (48<=c.toNat/\c.toNat<=57)
theorem zaxo:∀ i:Fin 256,tens.contains (UInt8.ofNat i.val)=dig (UInt8.ofNat i.val):=by decide +kernel
theorem zayn (c:UInt8):tens.contains c=dig c:=by
 have:=zaxo ⟨c.toNat,c.toNat_lt⟩;simpa using this
theorem zaez {α:Type} {p:α->Bool}:∀ {l:List α},l.dropWhile p=[]↔l.all p=true
 |[]=>by simp
 |a::l=>by
  rw[List.dropWhile_cons,xv];cases p a with
  |true=>simp only[if_true,Bool.true_and]; exact zaez
  |false=>simp
theorem zajf {α:Type} {p:α->Bool}:∀ {l:List α} {a:α} {r:List α},l.dropWhile p=a::r->p a=false
 |[],_,_,h=>by simp at h
 |b::l,a,r,h=>by
  rw[List.dropWhile_cons] at h;cases hb:p b with
  |true=>rw[hb,if_pos rfl] at h; exact zajf h
  |false=>
   rw[hb,if_neg (by decide)] at h;cases h;exact hb
theorem zaqv (t:List UInt8):Lib.trimS t tens=[]↔t.all dig=true:=by
 have hp:(fun c=>tens.contains c)=dig:=funext zayn;unfold Lib.trimS Lib.trimLeftS Lib.trimRightS;rw[hp];constructor
 ·intro h;rw[zaez] at h;cases hm:t.reverse.dropWhile dig with
  |nil=>
   rw[zaez] at hm;simpa using hm
  |cons a r=>
   have ha:=zajf hm;rw[hm,qy] at h;have:=h a (by simp);rw[ha] at this;cases this
 ·intro h;have:t.reverse.dropWhile dig=[]:=zaez.2 (by simpa using h);rw[this];rfl
def dvl:Nat->List UInt8->Nat
 |acc,[]=>acc
 |acc,c::r=>dvl (acc*10+(c.toNat-48)) r
theorem zal0:∀ (l:List UInt8) (acc k:Nat),l.all dig=true->acc<10 ^ k->k+l.length<=18->Lib.parseUint10 acc l=.ok (dvl acc l)/\dvl acc l<10 ^ (k+l.length)
 |[],acc,k,_,h,_=>⟨rfl,by rw[qr,Nat.add_zero]; exact h⟩
 |c::r,acc,k,ha,h,hk=>by
  simp only[xv,qd] at ha;have hc:48<=c.toNat/\c.toNat<=57:=by simpa [dig] using ha.1
  simp only[qe] at hk;have hacc:acc<100000000000000000:=Nat.lt_of_lt_of_le h (Nat.le_trans (Nat.pow_le_pow_right (by decide) (show k<=17 by omega)) (by decide));have h1:acc*10+(c.toNat-48)<10 ^ (k+1):=by rw[Nat.pow_succ]; omega
  clear h;obtain ⟨q1,q2⟩:=zal0 r (acc*10+(c.toNat-48)) (k+1) ha.2 h1 (by omega);refine ⟨?_,?_⟩
  ·simp only[Lib.parseUint10];rw[if_pos hc,if_neg (by omega),if_neg (by omega),q1];rfl
  ·rw[qe,show k+(r.length+1)=k+1+r.length by omega];exact q2
theorem zatj (t:List UInt8) (ht:t.length<=10):∀ (k n:Nat) (i:Int) (acc:Nat),0<=i->i<=t.length->t.length-i.toNat<=k->k<n->acc<10 ^ i.toNat ->
  qaZ_i5 n t (acc:Int) i=some (if (t.drop i.toNat).all dig then .inr ((dvl acc (t.drop i.toNat):Nat):Int) else .inl (0,false)):=by
 intro k;have fin:∀ (n:Nat) (i:Int) (acc:Nat),0<=i->¬ i<t.length->qaZ_i5 (n+1) t (acc:Int) i=some (if (t.drop i.toNat).all dig then .inr ((dvl acc (t.drop i.toNat):Nat):Int) else .inl (0,false)):=by
  intro n i acc h0 c;have hd:t.drop i.toNat=[]:=List.drop_eq_nil_of_le (by omega);rw[hd,List.all_nil,if_pos rfl];simp only[qaZ_i5,qaZ_t5,c,decide_false,qf];rfl
 induction k with
 |zero=>
  intro n i acc h0 hi hk hn ha;obtain ⟨n,rfl⟩:∃ q,n=q+1:=⟨n-1,by omega⟩;exact fin n i acc h0 (by omega)
 |succ k ih=>
  intro n i acc h0 hi hk hn ha;obtain ⟨n,rfl⟩:∃ q,n=q+1:=⟨n-1,by omega⟩;by_cases c:i<t.length
  ·have hx:i.toNat<t.length:=by omega
   rw[List.drop_eq_getElem_cons hx,xv];simp only[qaZ_i5,qaZ_t5,c,h0,decide_true,qg,xp hx,qa];generalize t[i.toNat]=b;have hb:=b.toNat_lt;by_cases hd:48<=b.toNat/\b.toNat<=57
   ·have e1:dig b=true:=by simp[dig,hd]
    have hacc:acc<1000000000:=Nat.lt_of_lt_of_le ha (Nat.le_trans (Nat.pow_le_pow_right (by decide) (show i.toNat<=9 by omega)) (by decide));have ha':acc*10+(b.toNat-48)<10 ^ (i.toNat+1):=by rw[Nat.pow_succ]; omega
    clear ha;rw[qn (show ¬ ((b.toNat:Nat):Int)<48 by omega),qf,qn (show ¬ ((b.toNat:Nat):Int)>57 by omega),qf,e1,Bool.true_and];rw[i64_in ((b.toNat:Nat):Int) (by omega),i64_in (10*(acc:Int)) (by omega),i64_in (10*(acc:Int)+((b.toNat:Nat):Int)) (by omega),i64_in (10*(acc:Int)+((b.toNat:Nat):Int)-48) (by omega),i64_in (i+1) (by omega)];have:=ih n (i+1) (acc*10+(b.toNat-48)) (by omega) (by omega) (by omega) (by omega) (by rw[show (i+1).toNat=i.toNat+1 by omega]; exact ha');rw[show ((acc*10+(b.toNat-48):Nat):Int)=10*(acc:Int)+((b.toNat:Nat):Int)-48 by omega,show (i+1).toNat=i.toNat+1 by omega] at this;rw[this];rfl
   ·have e1:dig b=false:=by simp only[dig,ya]; exact hd
    rw[e1,Bool.false_and,if_neg (by decide)];by_cases h48:b.toNat<48
    ·rw[qm (by omega),qg]
    ·rw[qn (by omega),qf,qm (by omega),qg]
  ·exact fin n i acc h0 c
theorem zay3 (c:UInt8) (r:List UInt8) (hc:48<=c.toNat/\c.toNat<=57) (hl:(c::r).length<=9000000):∃ n,qaZ (c::r)=some (n,(numS (c::r)).2)/\((numS (c::r)).2=true->n=(numS (c::r)).1):=by
 have main:¬ (1<(c::r).length/\c.toNat=48)->∃ n,(bif decide ((↑(List.length (c::r)):Int)>(10:Int)) then
     some (((0:Int)),(false))
    else
     bif (↑(List.length (c::r)):Int)==(0:Int) then
      some (((0:Int)),(false))
     else
      Option.bind (qaZ_l5 (c::r) (0:Int) (0:Int)) fun y1=>
      match y1 with
      |.inl y2=>
       some ((Prod.fst y2),(Prod.snd y2))
      |.inr y2=>
       some ((y2),(decide (y2<=(2147483647:Int)))))=some (n,(numS (c::r)).2)/\((numS (c::r)).2=true->n=(numS (c::r)).1):=by
  intro hA;have hN:numS (c::r)=if Lib.trimS (c::r) tens≠[] then (0,false) else if (zaa9 (c::r)).2=true then ((zaa9 (c::r)).1,false) else ((zaa9 (c::r)).1,decide ((zaa9 (c::r)).1<=2147483647)):=by
   conv=>lhs; unfold numS
   rw[if_neg (show ¬ (1<(c::r).length/\((c::r).headD 0).toNat=48) from hA)]
  rw[hN];have e0:(((c::r).length:Int)==0)=false:=by rw[beq_eq_false_iff_ne,qe]; omega
  cases hall:(c::r).all dig with
  |false=>
   have ht:Lib.trimS (c::r) tens≠[]:=fun h=>by rw[(zaqv _).1 h] at hall; cases hall
   rw[if_pos ht];refine ⟨0,?_,fun h=>by cases h⟩;by_cases h10:(c::r).length<=10
   ·rw[qn (by omega),qf,e0,qf,qaZ_l5,zaaa];have:=zatj (c::r) h10 (c::r).length fuel 0 0 (by omega) (by omega) (by omega) (by unfold fuel; omega) (by simp);rw[Int.toNat_zero,List.drop_zero,hall,if_neg (by decide)] at this;rw[show ((0:Nat):Int)=0 from rfl] at this;rw[this];rfl
   ·rw[qm (by omega),qg]
  |true=>
   have ht:¬ Lib.trimS (c::r) tens≠[]:=fun h=>h ((zaqv _).2 hall)
   rw[if_neg ht];have hpm:¬ (c.toNat=43\/c.toNat=45):=by omega
   by_cases h10:(c::r).length<=10
   ·obtain ⟨p1,p2⟩:=zal0 (c::r) 0 0 hall (by simp) (by omega);have hb:dvl 0 (c::r)<10 ^ 10:=Nat.lt_of_lt_of_le p2 (Nat.pow_le_pow_right (by omega) (by omega));have e10:(10:Nat) ^ 10=10000000000:=by decide
    have ha:zaa9 (c::r)=(((dvl 0 (c::r):Nat):Int),false):=by
     unfold zaa9 Lib.atoiAll;simp only;rw[if_neg hpm];unfold Lib.parseMag;rw[if_neg (List.cons_ne_nil _ _),p1];simp only;rw[if_neg (by omega),if_neg (by omega),if_neg (by omega)]
    rw[ha];refine ⟨((dvl 0 (c::r):Nat):Int),?_,fun _=>rfl⟩;rw[qn (by omega),qf,e0,qf,qaZ_l5,zaaa];have:=zatj (c::r) h10 (c::r).length fuel 0 0 (by omega) (by omega) (by omega) (by unfold fuel; omega) (by simp);rw[Int.toNat_zero,List.drop_zero,hall,if_pos rfl] at this;rw[show ((0:Nat):Int)=0 from rfl] at this;rw[this];rfl
   ·
    rw[qm (by omega),qg];have hf:(if (zaa9 (c::r)).2=true then ((zaa9 (c::r)).1,false) else ((zaa9 (c::r)).1,decide ((zaa9 (c::r)).1<=2147483647))).2=false:=by
     cases ho:(zaa9 (c::r)).2 with
     |true=>rfl
     |false=>
      rw[if_neg (by decide)];unfold zaa9 at ho ⊢;cases hq:Lib.atoiAll (c::r) with
      |ok v=>
       unfold Lib.atoiAll at hq;simp only at hq;rw[if_neg hpm] at hq;cases hp:Lib.parseMag (c::r) with
       |ok u=>
        rw[hp] at hq;simp only at hq;rw[if_neg (show ¬ (c.toNat=45/\9223372036854775808<u) by omega)] at hq;split at hq
        ·cases hq
        ·rw[if_neg (show ¬ c.toNat=45 by omega)] at hq;cases hq;have hu:=hp;unfold Lib.parseMag at hu;rw[if_neg (List.cons_ne_nil _ _)] at hu;simp only[Lib.parseUint10] at hu;rw[if_pos hc] at hu;split at hu
         ·cases hu
         ·split at hu
          ·cases hu
          ·have h3:=zars r _ u hu;have h4:10 ^ 10<=10 ^ r.length:=Nat.pow_le_pow_right (by omega) (by simp only[qe] at h10; omega);have h48:c.toNat≠48:=fun hh=>hA ⟨by omega,hh⟩
           have h5:1*10 ^ r.length<=(0*10+(c.toNat-48))*10 ^ r.length:=xz _ (by omega);have h6:(10000000000:Nat)=10 ^ 10:=by decide
           simp only;rw[ya];omega
       |range=>rw[hp] at hq; cases hq
       |_=>rw[hp] at hq; cases hq
      |range=>rw[hq] at ho; cases ho
      |_=>rw[hq] at ho; cases ho
    rw[hf];exact ⟨0,rfl,fun h=>by cases h⟩
 rw[qaZ,zaaa];unfold qaZ_f;by_cases h1:1<(c::r).length
 ·rw[qm (by omega),qg,List.getElem?_cons_zero,qa];by_cases h2:c.toNat=48
  ·have e:(((c.toNat:Nat):Int)==48)=true:=by rw[beq_iff_eq]; omega
   rw[e,qg];have hN:numS (c::r)=(0,false):=by
    unfold numS;rw[if_pos (show 1<(c::r).length/\((c::r).headD 0).toNat=48 from ⟨h1,h2⟩)]
   rw[hN];exact ⟨0,rfl,fun h=>by cases h⟩
  ·have e:(((c.toNat:Nat):Int)==48)=false:=by rw[beq_eq_false_iff_ne]; omega
   rw[e,qf];exact main (fun h=>h2 h.2)
 ·rw[qn (by omega),qf];exact main (fun h=>h1 h.1)
theorem zae5:∀ (k k':Nat) (p:Int) (rs:List Int),rs.all Sp.isRune=true->rs.length<=k->rs.length<=k'->toks k p rs=toks k' p rs
 |k,k',p,[],_,_,_=>by
  have e:∀ k p,toks k p []=.inr []:=fun k p=>by cases k<;>rfl
  rw[e,e]
 |0,_,_,r::rs,_,hk,_=>by simp at hk
 |_+1,0,_,r::rs,_,_,hk=>by simp at hk
 |k+1,k'+1,p,r::rs,ha,hk,hk'=>by
  simp only[toks];cases hc:((tokR (r::rs)).2 != 0) with
  |true=>rfl
  |false=>
   have h0:(tokR (r::rs)).2=0:=by simpa using hc
   obtain ⟨w,hw,hsp⟩:=alone r rs ha h0;have hR:(restR (r::rs)).all Sp.isRune=true:=zabg (ds:=w) (by rw[<-hsp]; exact ha);have hwl:0<w.length:=List.length_pos_iff.2 hw.1;have hl:=congrArg List.length hsp;rw[qc,qe] at hl;obtain ⟨fs,hfs⟩:=zaa4 (restR (r::rs)) false;have hsl:(skip false (restR (r::rs))).length<=(restR (r::rs)).length:=by
    have:=congrArg List.length hfs;rw[qc] at this;omega
   simp only[qe] at hk hk';have hS:(skip false (restR (r::rs))).all Sp.isRune=true:=zabg (ds:=fs) (by rw[<-hfs]; exact hR);rw[zae5 k k' _ _ hS (by omega) (by omega)]
theorem za0s (ds:List Int) (r:Int) (es:List Int) (ha:(ds++r::es).all Sp.isRune=true) (hl:(encs (ds++r::es)).length<=4000) :
  ∃ (T:Token) (i:Int),qa4 (put (ds++r::es) s0).1 (encs (ds++r::es)) (ds.length:Int)=some (T,i,(tokR (r::es)).2)/\T.at_=((encs ds).length:Int) /\
   ((tokR (r::es)).2=0->T=⟨(tokR (r::es)).1.kind,(tokR (r::es)).1.text,(tokR (r::es)).1.num,((encs ds).length:Int)⟩/\∃ w,w≠[]/\r::es=w++restR (r::es)/\i=(ds.length:Int)+(w.length:Int)):=by
 have har:=zabg ha;have har':=har;simp only[xv,qd] at har';obtain ⟨s,h1,h2,h3⟩:=zahc ds r es;have hlr:=zabl (ds++r::es);have hlen:(encs (ds++r::es)).length=(encs ds).length+(encs (r::es)).length:=by rw[zaaj,qc]
 have hwl:=zap6 goesR (r::es);rw[qa4,zaaa];unfold qa4_f;rw[qm (show (0:Int)<=(ds.length:Int) by omega),qg,xt,h1,qa,zatr,qa,zavh,qa,h2,qg];simp only[qa,h3];cases hg:goesR r with
 |true=>
  have hw:(r::es).takeWhile goesR≠[]:=by rw[List.takeWhile_cons,if_pos hg]; exact List.cons_ne_nil _ _
  have hrun:=zaze (r::es) ds (by omega);have hpart:=part1 ds ((r::es).takeWhile goesR) ((r::es).dropWhile goesR) hw;rw[List.takeWhile_append_dropWhile] at hpart;have hin:=in1 words (encs ((r::es).takeWhile goesR)) (by decide +kernel);have hwrap:IntKind.wrap IntKind.i64 ((ds.length:Int)+(((r::es).takeWhile goesR).length:Int)-(ds.length:Int))=(((r::es).takeWhile goesR).length:Int):=by
   have:=zabl ((r::es).takeWhile goesR);rw[i64_in _ (by omega)];omega
  have split:r::es=(r::es).takeWhile goesR++restR (r::es):=by
   unfold restR;rw[List.headD_cons,hg,qg,List.takeWhile_append_dropWhile]
  -- both ways to it are one
  have both:∀ (b:Bool),b=Sp.digit r->∃ (T:Token) (i:Int),(Option.bind (qa1 (put (ds++r::es) s0).1 (ds.length:Int)) fun y4=>
     Option.bind (qa0 (put (ds++r::es) s0).1 (encs (ds++r::es)) (ds.length:Int) y4) fun y5=>
     Option.bind (qaY) fun y6=>
     Option.bind (qaW y6 y5) fun y7=>
     bif b then
      Option.bind (qaZ y5) fun y8=>
      bif !Prod.snd y8 then
       some ((Token.mk (0:Int) y5 (0:Int) ((encs ds).length:Int)),((ds.length:Int)),((22:Int)))
      else
       some ((Token.mk (2:Int) y5 (Prod.fst y8) ((encs ds).length:Int)),(y4),((0:Int)))
     else
      bif y7 then
       some ((Token.mk (4:Int) y5 (0:Int) ((encs ds).length:Int)),(y4),((0:Int)))
      else
       bif decide (IntKind.wrap IntKind.i64 (y4-(ds.length:Int))>(16:Int)) then
        some ((Token.mk (0:Int) y5 (0:Int) ((encs ds).length:Int)),((ds.length:Int)),((21:Int)))
       else
        some ((Token.mk (1:Int) y5 (0:Int) ((encs ds).length:Int)),(y4),((0:Int))))=some (T,i,(tokR (r::es)).2)/\T.at_=((encs ds).length:Int) /\
   ((tokR (r::es)).2=0->T=⟨(tokR (r::es)).1.kind,(tokR (r::es)).1.text,(tokR (r::es)).1.num,((encs ds).length:Int)⟩/\∃ w,w≠[]/\r::es=w++restR (r::es)/\i=(ds.length:Int)+(w.length:Int)):=by
   intro b hb;subst hb;rw[hrun,qa,hpart,qa,zax1,qa,hin,qa,hwrap];unfold tokR;rw[List.headD_cons,hg,qg];cases hd:Sp.digit r with
   |true=>
    rw[qg,qg];have hda:48<=r/\r<=57:=by simpa [Sp.digit] using hd
    have ht:(r::es).takeWhile goesR=r::es.takeWhile goesR:=by rw[List.takeWhile_cons,if_pos hg]
    have he:encs ((r::es).takeWhile goesR)=UInt8.ofNat r.toNat::encs (es.takeWhile goesR):=by
     rw[ht,zaa0];have:r<128:=by omega
     simp[encB,bytesOf,Sp.enc,this]
    obtain ⟨n,hn1,hn2⟩:=zay3 (UInt8.ofNat r.toNat) (encs (es.takeWhile goesR)) (by rw[zabr _ (by omega)]; omega) (by rw[<-he]; omega);rw[<-he] at hn1 hn2;rw[hn1,qa];cases hq:(numS (encs ((r::es).takeWhile goesR))).2 with
    |false=>exact ⟨_,_,rfl,rfl,fun h=>absurd (show (22:Int)=0 from h) (by decide)⟩
    |true=>
     rw[hn2 hq];exact ⟨_,_,rfl,rfl,fun _=>⟨rfl,_,hw,split,rfl⟩⟩
   |false=>
    rw[qf,qf];cases words.contains (encs ((r::es).takeWhile goesR)) with
    |true=>exact ⟨_,_,rfl,rfl,fun _=>⟨rfl,_,hw,split,rfl⟩⟩
    |false=>
     rw[qf,qf];have:decide ((((r::es).takeWhile goesR).length:Int)>16)=decide (16<((r::es).takeWhile goesR).length):=by
      rw[Bool.eq_iff_iff,qj,qj]; omega
     rw[this];cases decide (16<((r::es).takeWhile goesR).length) with
     |true=>exact ⟨_,_,rfl,rfl,fun h=>absurd (show (21:Int)=0 from h) (by decide)⟩
     |false=>exact ⟨_,_,rfl,rfl,fun _=>⟨rfl,_,hw,split,rfl⟩⟩
  cases hL:Sp.letter r with
  |true=>rw[qg]; exact both _ rfl
  |false=>
   have hd:Sp.digit r=true:=by unfold goesR at hg; rw[hL,Bool.false_or] at hg; exact hg
   have:=both _ rfl;rw[hd] at this ⊢;rw[qf,qg];exact this
 |false=>
  have hL:Sp.letter r=false:=by unfold goesR at hg; exact (Bool.or_eq_false_iff.1 hg).1
  have hD:Sp.digit r=false:=by unfold goesR at hg; exact (Bool.or_eq_false_iff.1 hg).2
  rw[hL,hD,qf,qf];have hsg:=sign2 (encs (ds++r::es)) (encs ds).length (by omega) (by omega);rw[zafc] at hsg;rw[hsg,qa];unfold tokR;rw[List.headD_cons,hg,qf];cases hc:(sgn (encs (r::es))==[]) with
  |true=>exact ⟨_,_,rfl,rfl,fun h=>absurd (show (20:Int)=0 from h) (by decide)⟩
  |false=>
   have hne:sgn (encs (r::es))≠[]:=by simpa using hc
   obtain ⟨q1,q2⟩:=zaih r es har hne;have hsl:(sgn (encs (r::es))).length<=2:=by
    unfold sgn;split
    ·rw[xy]; omega
    ·split
     ·rw[xy]; omega
     ·simp
   have hle:(sgn (encs (r::es))).length<=(r::es).length:=by
    have:=congrArg List.length q1;have h9:=zabl ((r::es).take (sgn (encs (r::es))).length);rcases Nat.lt_or_ge (r::es).length (sgn (encs (r::es))).length with hlt|hge
    ·
     exfalso;have h1:(r::es).length=1:=by simp only[qe] at hlt ⊢; omega
     have h2:(sgn (encs (r::es))).length=2:=by simp only[qe] at hlt; omega
     have hes:es=[]:=by simp only[qe] at h1; exact qt (by omega)
     subst hes;rw[h2] at q1;have q3:encs [r]=sgn (encs [r]):=q1;obtain ⟨b,u,hb⟩:=zakn r [];have hbb:b.toNat<128:=by
      unfold sgn at q3 h2;by_cases k1:1<(encs [r]).length/\twos.contains ((encs [r]).take 2)=true
      ·have hm:(encs [r]).take 2∈twos:=by simpa using k1.2
       have:=(zajc _ hm).2;rw[hb] at this;cases u with
       |nil=>simp only[List.take_succ_cons,List.take_nil,xv,List.all_nil,Bool.and_true,qj] at this; exact this
       |cons c u=>simp only[List.take_succ_cons,List.take_zero,xv,qd,qj] at this; exact this.1
      ·rw[if_neg k1] at h2;by_cases k2:ones.contains ((encs [r]).headD 0)=true
       ·rw[if_pos k2,xy] at h2; omega
       ·rw[if_neg k2] at h2; simp at h2
     obtain ⟨e1,e2⟩:=zaep har'.1 hb hbb;rw[<-q3,zaa0,e1] at h2;simp[encs] at h2
    ·exact hge
   have hwrap:IntKind.wrap IntKind.i64 ((ds.length:Int)+((sgn (encs (r::es))).length:Int))=(ds.length:Int)+((sgn (encs (r::es))).length:Int):=by
    rw[qc] at hlr;rw[i64_in _ (by omega)]
   rw[hwrap];refine ⟨_,_,rfl,rfl,fun _=>⟨rfl,(r::es).take (sgn (encs (r::es))).length,?_,?_,?_⟩⟩
   ·intro hh;have:=congrArg List.length hh;rw[xy,qe,qr] at this;omega
   ·unfold restR;rw[List.headD_cons,hg,qf,List.take_append_drop]
   ·rw[xy];omega
theorem zavg:∀ x∈twos,x.headD 0≠35/\x.headD 0≠9/\x.headD 0≠10/\x.headD 0≠13/\x.headD 0≠32:=by decide
theorem zawz:∀ b∈ones,b≠35/\b≠9/\b≠10/\b≠13/\b≠32:=by decide
theorem zay6 {w:List Int} {t:Token} (h:whole w t) (r:List Int):skip false (w++r)=w++r:=by
 obtain ⟨h1,h2,h3,h4⟩:=h;match w,h1 with
 |a::w,_=>
  simp only[xv,qd] at h2;have key:a≠35/\Sp.blank a=false:=by
   cases hg:goesR a with
   |true=>
    unfold goesR Sp.letter Sp.digit at hg;simp only[Bool.or_eq_true,qd,qj] at hg;constructor
    ·omega
    ·simp only[Sp.blank,ya]; omega
   |false=>
    obtain ⟨b,u,hb⟩:=zakn a w;unfold tokR at h3;simp only[List.headD_cons,hg,qf] at h3;cases hc:(sgn (encs (a::w))==[]) with
    |true=>rw[hc] at h3; simp at h3
    |false=>
     have hne:sgn (encs (a::w))≠[]:=by simpa using hc
     have hbb:b.toNat<128/\b≠35/\b≠9/\b≠10/\b≠13/\b≠32:=by
      unfold sgn at hne;by_cases k1:1<(encs (a::w)).length/\twos.contains ((encs (a::w)).take 2)=true
      ·have hm:(encs (a::w)).take 2∈twos:=by simpa using k1.2
       have q1:=(zajc _ hm).2;have q2:=zavg _ hm;rw[hb] at q1 q2;simp only[List.take_succ_cons,xv,qd,qj,List.headD_cons] at q1 q2;exact ⟨q1.1,q2⟩
      ·rw[if_neg k1] at hne;by_cases k2:ones.contains ((encs (a::w)).headD 0)=true
       ·rw[hb] at k2;have hm:b∈ones:=by simpa using k2
        exact ⟨zaoe b hm,zawz b hm⟩
       ·rw[if_neg k2] at hne;exact absurd rfl hne
     obtain ⟨e1,_⟩:=zaep h2.1 hb hbb.1;have hr:=zafy h2.1;have hlen:=congrArg List.length e1;rw[zacq] at hlen;have ha:a<128:=by
      unfold Sp.long at hlen;by_cases k:a<128
      ·exact k
      ·rw[if_neg k] at hlen;split at hlen
       ·simp at hlen
       ·split at hlen<;>simp at hlen
     have e2:UInt8.ofNat a.toNat=b:=by
      have:encB a=[UInt8.ofNat a.toNat]:=by simp[encB,bytesOf,Sp.enc,ha]
      rw[this] at e1;exact (List.cons.inj e1).1
     have e3:b.toNat=a.toNat:=by rw[<-e2,zabr _ (by omega)]
     obtain ⟨_,n1,n2,n3,n4,n5⟩:=hbb;have no:∀ c:UInt8,b≠c->b.toNat≠c.toNat:=fun c hc hh=>hc (UInt8.toNat_inj.1 hh)
     have m1:=no 35 n1;have m2:=no 9 n2;have m3:=no 10 n3;have m4:=no 13 n4;have m5:=no 32 n5;simp only[show (35:UInt8).toNat=35 from rfl,show (9:UInt8).toNat=9 from rfl,show (10:UInt8).toNat=10 from rfl,show (13:UInt8).toNat=13 from rfl,show (32:UInt8).toNat=32 from rfl] at m1 m2 m3 m4 m5;constructor
     ·omega
     ·simp only[Sp.blank,ya]; omega
  simp only[qp,skip];rw[if_neg key.1,key.2];rfl
theorem zauy {w:List Int} {t:Token} (h:whole w t):restR w=[]:=by
 obtain ⟨h1,h2,h3,h4⟩:=h;match w,h1 with
 |a::w,_=>
  obtain ⟨ds,_,q2,q3⟩:=zag0 a w h2 (by rw[h3]);have:encs (ds++restR (a::w))=encs ds:=by
   rw[<-q2,q3,h3];exact h4.symm
  exact zank this
def jr:List (List Int)->List Int
 |[]=>[]
 |[w]=>w
 |w::v::ws=>w++32::jr (v::ws)
end Lift.A1P
namespace Lift.A4
open Go Go.RowKit Lift Go.IntWalk Lift.Fn Lift.A1P
theorem zazg (c:Int):1<=(encB c).length:=by
 rw[zacq];have:=zadi c;omega
theorem zamm (c:Bool) (l:List Int):(skip c l).length<=l.length:=by
 obtain ⟨ds,h⟩:=zaa4 l c;have:=congrArg List.length h;rw[qc] at this;omega
noncomputable def T (p:Int) (rs:List Int):(Int×Int)⊕List Token:=toks rs.length p rs
theorem T_nil (p:Int):T p []=.inr []:=rfl
theorem zah3 {r:Int} {rs:List Int} (ha:(r::rs).all Sp.isRune=true) (h0:(tokR (r::rs)).2=0):(skip false (restR (r::rs))).all Sp.isRune=true/\(skip false (restR (r::rs))).length<=rs.length:=by
 obtain ⟨ds,h1,h2,_⟩:=zag0 r rs ha h0;obtain ⟨es,h3⟩:=zaa4 (restR (r::rs)) false;have h4:r::rs=(ds++es)++skip false (restR (r::rs)):=by rw[qq,<-h3,<-h2]
 refine ⟨zabg (ds:=ds++es) (by rw[<-h4]; exact ha),?_⟩;have:=congrArg List.length h2;have q:=zamm false (restR (r::rs));have q2:0<ds.length:=List.length_pos_iff.2 h1;simp only[qe,qc] at this;omega
theorem zai9 (p:Int) (r:Int) (rs:List Int) (ha:(r::rs).all Sp.isRune=true):T p (r::rs)=bif (tokR (r::rs)).2 != 0 then .inl ((tokR (r::rs)).2,p) else
   match T (p+(encs (r::rs)).length-(encs (skip false (restR (r::rs)))).length) (skip false (restR (r::rs))) with
   |.inl e=>.inl e
   |.inr l=>.inr (⟨(tokR (r::rs)).1.kind,(tokR (r::rs)).1.text,(tokR (r::rs)).1.num,p⟩::l):=by
 show toks (rs.length+1) p (r::rs)=_;rw[toks];by_cases h0:(tokR (r::rs)).2=0
 ·obtain ⟨q1,q2⟩:=zah3 ha h0;have e:((tokR (r::rs)).2 != 0)=false:=by simp[h0]
  rw[e,qf,qf];unfold T;rw[zae5 rs.length (skip false (restR (r::rs))).length _ _ q1 q2 (qz _)];all_goals (cases toks (skip false (restR (r::rs))).length (p+(encs (r::rs)).length-(encs (skip false (restR (r::rs)))).length) (skip false (restR (r::rs)))<;>rfl)
 ·have e:((tokR (r::rs)).2 != 0)=true:=by simp[h0]
  rw[e,qg,qg]
theorem zap9 (a b:List Int):((encs (a++b)).length:Int)=(encs a).length+(encs b).length:=by rw[zaaj,qc]; omega
end Lift.A4
namespace Lift.A1P
open Go Go.RowKit Lift Go.IntWalk Lift.Fn
theorem noteR (text:List UInt8) (a3 a4:Int) (a5:List UInt8) (a6:List Token):∀ (es ds:List Int) (n:Nat),es.length<n->(ds++es).length<=9000000 ->
  qaX_i11 n text (put (ds++es) s0).1 (ds.length:Int) a3 a4 a5 a6=some (text,(put (ds++es) s0).1,(ds.length:Int)+((es.takeWhile (fun r=>r != 10)).length:Int),a3,a4,a5,a6)
 |[],ds,n,hn,hl=>by
  obtain ⟨n,rfl⟩:∃ q,n=q+1:=⟨n-1,by simp at hn; omega⟩;simp only[qaX_i11,qaX_t11,zad2,xj];rw[qn (by omega),qf];simp
 |r::es,ds,n,hn,hl=>by
  obtain ⟨n,rfl⟩:∃ q,n=q+1:=⟨n-1,by simp at hn; omega⟩;obtain ⟨s,h1,h2,_⟩:=zahc ds r es;simp only[qaX_i11,qaX_t11,zad2];rw[qm (by rw[qc,qe]; omega),qg,qm (by omega),qg,xt,h1,qa,h2,List.takeWhile_cons];cases hr:(r != 10) with
  |true=>
   rw[qc,qe] at hl;have ih:=noteR text a3 a4 a5 a6 es (ds++[r]) n (by simp at hn; omega) (by rw[qq,List.singleton_append,qc,qe]; omega);rw[qq,List.singleton_append,qc,qe,qr] at ih;rw[qg,i64_in ((ds.length:Int)+1) (by omega)];rw[show ((ds.length+(0+1):Nat):Int)=(ds.length:Int)+1 by omega] at ih;rw[ih,if_pos rfl,qe];congr 4;omega
  |false=>
   rw[qf,if_neg (by decide)];simp
theorem zav0 (l:List Int):skip true l=skip false (l.dropWhile (fun r=>r != 10)):=by
 induction l with
 |nil=>rfl
 |cons r l ih=>
  rw[List.dropWhile_cons];simp only[skip];cases hr:(r != 10) with
  |true=>rw[if_pos rfl]; exact ih
  |false=>
   have:r=10:=by simpa using hr
   subst this;rw[if_neg (by decide)];simp only[skip];rw[if_neg (by decide),if_pos (by decide)]
theorem zaz3 (a3 a4:Int) (a5:List UInt8):∀ (k n:Nat) (es ds:List Int) (out:List Token),es.length<=k->k<n->(ds++es).all Sp.isRune=true->(encs (ds++es)).length<=4000->out.length<=ds.length ->
  qaX_i6 n (encs (ds++es)) (put (ds++es) s0).1 (ds.length:Int) a3 a4 a5 out =
   some (match toks es.length (((encs ds).length:Int)+((encs es).length:Int)-((encs (skip false es)).length:Int)) (skip false es) with|.inl e=>.inl (e.1,e.2,[])|.inr l=>.inr (encs (ds++es),a3,a4,a5,out++l)):=by
 intro k
 have fin:∀ (n:Nat) (ds:List Int) (out:List Token),qaX_i6 (n+1) (encs (ds++[])) (put (ds++[]) s0).1 (ds.length:Int) a3 a4 a5 out =
   some (match toks ([]:List Int).length (((encs ds).length:Int)+((encs []).length:Int)-((encs (skip false [])).length:Int)) (skip false []) with|.inl e=>.inl (e.1,e.2,[])|.inr l=>.inr (encs (ds++[]),a3,a4,a5,out++l)):=by
  intro n ds out;simp only[qaX_i6,qaX_t6,zad2,xj];rw[qn (by omega),qf];simp only[skip,qr,toks,xj]
 induction k with
 |zero=>
  intro n es ds out hk hn ha hl ho;obtain ⟨n,rfl⟩:∃ q,n=q+1:=⟨n-1,by omega⟩;match es,hk with
  |[],_=>exact fin n ds out
 |succ k ih=>
  intro n es ds out hk hn ha hl ho;obtain ⟨n,rfl⟩:∃ q,n=q+1:=⟨n-1,by omega⟩;match es,hk,ha,hl with
  |[],_,_,_=>exact fin n ds out
  |r::es,hk,ha,hl=>
   have har:=zabg ha;have har':=har;simp only[xv,qd] at har';obtain ⟨s,h1,h2,h3⟩:=zahc ds r es;have hlr:=zabl (ds++r::es);rw[qc,qe] at hlr;have hlen:(encs (ds++r::es)).length=(encs ds).length+(encs (r::es)).length:=by rw[zaaj,qc]
   have hone:(encs (r::es)).length=(encB r).length+(encs es).length:=by rw[zaa0,qc]
   have hds1:(encs (ds++[r])).length=(encs ds).length+(encB r).length:=by rw[zaaj,qc,zaa0,qc]; simp[encs]
   simp only[qe] at hk;simp only[qaX_i6,qaX_t6,zad2];rw[qm (by rw[qc,qe]; omega),qg,qm (by omega),qg,xt,h1,qa,h2,za09,qa];simp only[qa,h2,qg];cases hb:Sp.blank r with
   |true=>
    have h35:r≠35:=by intro h; subst h; exact absurd hb (by decide)
    have hsk:skip false (r::es)=skip false es:=by simp only[skip]; rw[if_neg h35,if_pos hb]
    have i1:=ih n es (ds++[r]) out (by omega) (by omega) (by rw[qq,List.singleton_append]; exact ha) (by rw[qq,List.singleton_append]; exact hl) (by rw[qc]; omega);rw[qq,List.singleton_append,qc,qe,qr] at i1;rw[qg,i64_in ((ds.length:Int)+1) (by omega),hsk];rw[show ((ds.length+(0+1):Nat):Int)=(ds.length:Int)+1 by omega,hds1] at i1;rw[i1,hone,qe];have hS:(skip false es).all Sp.isRune=true:=by
     obtain ⟨fs,hfs⟩:=zaa4 es false;exact zabg (ds:=fs) (by rw[<-hfs]; exact har'.2)
    have hsl:(skip false es).length<=es.length:=by
     obtain ⟨fs,hfs⟩:=zaa4 es false;have:=congrArg List.length hfs;rw[qc] at this;omega
    rw[zae5 (es.length+1) es.length _ _ hS (by omega) hsl];rw[show (((encs ds).length+(encB r).length:Nat):Int)+((encs es).length:Int)-((encs (skip false es)).length:Int)=((encs ds).length:Int)+(((encB r).length+(encs es).length:Nat):Int)-((encs (skip false es)).length:Int) by omega]
   |false=>
    rw[qf];by_cases h35:r=35
    ·subst h35;have e35:((35:Int)==35)=true:=by decide
     rw[e35,qg,qaX_l11,zaaa,noteR (encs (ds++35::es)) a3 a4 a5 out (35::es) ds fuel (by simp only[qe]; unfold fuel; omega) (by rw[qc,qe]; omega),qa];simp only;have htd:=List.takeWhile_append_dropWhile (p:=fun r:Int=>r != 10) (l:=35::es);have ht1:0<((35::es).takeWhile (fun r:Int=>r != 10)).length:=by
      rw[List.takeWhile_cons,if_pos (by decide)]; simp
     have hll:=congrArg List.length htd;rw[qc,qe] at hll;have hdd:(ds++(35::es).takeWhile (fun r:Int=>r != 10))++(35::es).dropWhile (fun r:Int=>r != 10)=ds++35::es:=by rw[qq,htd]
     have i1:=ih n ((35::es).dropWhile (fun r:Int=>r != 10)) (ds++(35::es).takeWhile (fun r:Int=>r != 10)) out (by omega) (by omega) (by rw[hdd]; exact ha) (by rw[hdd]; exact hl) (by rw[qc]; omega);rw[hdd,qc] at i1;rw[show ((ds.length+((35::es).takeWhile (fun r:Int=>r != 10)).length:Nat):Int)=(ds.length:Int)+(((35::es).takeWhile (fun r:Int=>r != 10)).length:Int) by omega] at i1;rw[i1];have hsk:skip false (35::es)=skip false ((35::es).dropWhile (fun r:Int=>r != 10)):=by
      rw[<-zav0];simp only[skip];rw[if_pos trivial];have:((35:Int) != 10)=true:=by decide
      rw[this]
     have hle:(encs (35::es)).length=(encs ((35::es).takeWhile (fun r:Int=>r != 10))).length+(encs ((35::es).dropWhile (fun r:Int=>r != 10))).length:=by
      conv=>lhs; rw[<-htd]
      rw[zaaj,qc]
     have hde:(encs (ds++(35::es).takeWhile (fun r:Int=>r != 10))).length=(encs ds).length+(encs ((35::es).takeWhile (fun r:Int=>r != 10))).length:=by rw[zaaj,qc]
     have hD:((35::es).dropWhile (fun r:Int=>r != 10)).all Sp.isRune=true:=zabg (ds:=(35::es).takeWhile (fun r:Int=>r != 10)) (by rw[htd]; exact har);have hS:(skip false ((35::es).dropWhile (fun r:Int=>r != 10))).all Sp.isRune=true:=by
      obtain ⟨fs,hfs⟩:=zaa4 ((35::es).dropWhile (fun r:Int=>r != 10)) false;exact zabg (ds:=fs) (by rw[<-hfs]; exact hD)
     have hsl:(skip false ((35::es).dropWhile (fun r:Int=>r != 10))).length<=((35::es).dropWhile (fun r:Int=>r != 10)).length:=by
      obtain ⟨fs,hfs⟩:=zaa4 ((35::es).dropWhile (fun r:Int=>r != 10)) false;have:=congrArg List.length hfs;rw[qc] at this;omega
     rw[hsk,hde,hle,zae5 (35::es).length ((35::es).dropWhile (fun r:Int=>r != 10)).length _ _ hS (by simp only[qe]; omega) hsl];rw[show (((encs ds).length+(encs ((35::es).takeWhile (fun r:Int=>r != 10))).length:Nat):Int)+((encs ((35::es).dropWhile (fun r:Int=>r != 10))).length:Int)=((encs ds).length:Int)+(((encs ((35::es).takeWhile (fun r:Int=>r != 10))).length+(encs ((35::es).dropWhile (fun r:Int=>r != 10))).length:Nat):Int) by omega]
    ·have e35:(r==35)=false:=by simp[h35]
     have hsk:skip false (r::es)=r::es:=by simp[skip,h35,hb]
     obtain ⟨T,i,t1,t2,t3⟩:=za0s ds r es ha hl;rw[e35,qf,t1,qa,hsk,show (r::es).length=es.length+1 from rfl];simp only[toks];cases hc:((tokR (r::es)).2 != 0) with
     |true=>
      have e:((encs ds).length:Int)+((encs (r::es)).length:Int)-((encs (r::es)).length:Int)=((encs ds).length:Int):=by omega
      rw[qg,qg,t2,e]
     |false=>
      have h0:(tokR (r::es)).2=0:=by simpa using hc
      obtain ⟨t4,w,hw,hsp,t5⟩:=t3 h0;rw[qf,qf,qm (by simp only[qe,qr]; omega),qg];have hll:=congrArg List.length hsp;rw[qc,qe] at hll;have hwl:0<w.length:=List.length_pos_iff.2 hw;have hww:w.length<=es.length+1:=by omega
      have hde:(encs (ds++w)).length=(encs ds).length+(encs w).length:=by rw[zaaj,qc]
      have hle:(encs (r::es)).length=(encs w).length+(encs (restR (r::es))).length:=by
       conv=>lhs; rw[hsp]
       rw[zaaj,qc]
      have hdd:(ds++w)++restR (r::es)=ds++r::es:=by rw[qq,<-hsp]
      have i1:=ih n (restR (r::es)) (ds++w) (out++[⟨T.kind,T.text,T.num,T.at_⟩]) (by omega) (by omega) (by rw[hdd]; exact ha) (by rw[hdd]; exact hl) (by simp only[qc,qe,qr]; omega);rw[hdd,qc] at i1;rw[show ((ds.length+w.length:Nat):Int)=i by rw[t5]; omega] at i1;rw[i1];have hR:(restR (r::es)).all Sp.isRune=true:=zabg (ds:=w) (by rw[<-hsp]; exact har);have hS:(skip false (restR (r::es))).all Sp.isRune=true:=by
       obtain ⟨fs,hfs⟩:=zaa4 (restR (r::es)) false;exact zabg (ds:=fs) (by rw[<-hfs]; exact hR)
      have hsl:(skip false (restR (r::es))).length<=(restR (r::es)).length:=by
       obtain ⟨fs,hfs⟩:=zaa4 (restR (r::es)) false;have:=congrArg List.length hfs;rw[qc] at this;omega
      rw[zae5 (restR (r::es)).length es.length _ _ hS hsl (by omega),hde]
      rw[show (((encs ds).length+(encs w).length:Nat):Int)+((encs (restR (r::es))).length:Int)-((encs (skip false (restR (r::es)))).length:Int) =
       ((encs ds).length:Int)+((encs (r::es)).length:Int)-((encs (r::es)).length:Int)+((encs (r::es)).length:Int)-((encs (skip false (restR (r::es)))).length:Int) by omega]
      rw[show ((encs ds).length:Int)+((encs (r::es)).length:Int)-((encs (r::es)).length:Int)=((encs ds).length:Int) by omega];cases toks es.length (((encs ds).length:Int)+((encs (r::es)).length:Int)-((encs (skip false (restR (r::es)))).length:Int)) (skip false (restR (r::es))) with
      |inl e=>rfl
      |inr l=>simp only[qq,List.singleton_append]; rw[t4]
theorem zayy (t:List UInt8):qaX t=(qaj t).map (fun p=>(p.2,p.1)):=by
 rcases zaim t with ⟨h1,h2⟩|⟨h0,rs,rest,_,_,_,_,h1,h2⟩|⟨h0,rs,rfl,ha,h1,h2⟩
 ·rw[zaeq t (by rw[h2]; decide),qaX,zaaa];unfold qaX_f;rw[zaoo,qa,h2];rfl
 ·rw[zaeq t (by rw[h2]; show (11:Int)≠0; decide),qaX,zaaa];unfold qaX_f;rw[zaoo,qa,h2];rfl
 ·obtain ⟨q1,q2⟩:=zamp rs ha h0;have hlr:=zabl rs;have hR:=zaz3 0 0 [] rs.length fuel rs [] [] (qz _) (by unfold fuel; omega) ha h0 (by simp);simp only[qu,qr] at hR;rw[zahh rs ha h0,qaX,zaaa];unfold qaX_f;rw[zaoo,qa,q1,q2];simp only[bne_self_eq_false,qf];rw[qaX_l6,zaaa];rw[show ((0:Nat):Int)=0 from rfl] at hR;rw[hR,qa];have e:((encs ([]:List Int)).length:Int)+((encs rs).length:Int)-((encs (skip false rs)).length:Int)=((encs rs).length:Int)-((encs (skip false rs)).length:Int):=by simp[encs]
  rw[e];have hS:(skip false rs).all Sp.isRune=true:=by
   obtain ⟨fs,hfs⟩:=zaa4 rs false;exact zabg (ds:=fs) (by rw[<-hfs]; exact ha)
  have hsl:(skip false rs).length<=rs.length:=by
   obtain ⟨fs,hfs⟩:=zaa4 rs false;have:=congrArg List.length hfs;rw[qc] at this;omega
  cases ht:toks rs.length (((encs rs).length:Int)-((encs (skip false rs)).length:Int)) (skip false rs) with
  |inl e=>rfl
  |inr l=>
   have:=toks_len _ _ _ hS l ht;simp only;rw[qm (by simp only[qe,qr]; omega),qg];rfl
theorem tokens_any (t:List UInt8):∃ f l,qaj t=some (l,f)/\l.length<=4001:=by
 rcases zaim t with ⟨h1,h2⟩|⟨h0,rs,rest,_,_,_,_,h1,h2⟩|⟨h0,rs,rfl,ha,h1,h2⟩
 ·rw[zaeq t (by rw[h2]; decide)]; exact ⟨_,_,rfl,by simp⟩
 ·rw[zaeq t (by rw[h2]; show (11:Int)≠0; decide)]; exact ⟨_,_,rfl,by simp⟩
 ·rw[zahh rs ha h0];have hlr:=zabl rs;have hS:(skip false rs).all Sp.isRune=true:=by
   obtain ⟨fs,hfs⟩:=zaa4 rs false;exact zabg (ds:=fs) (by rw[<-hfs]; exact ha)
  have hsl:(skip false rs).length<=rs.length:=by
   obtain ⟨fs,hfs⟩:=zaa4 rs false;have:=congrArg List.length hfs;rw[qc] at this;omega
  cases ht:toks rs.length (((encs rs).length:Int)-((encs (skip false rs)).length:Int)) (skip false rs) with
  |inl e=>exact ⟨_,_,rfl,by simp⟩
  |inr l=>
   have:=toks_len _ _ _ hS l ht;exact ⟨_,_,rfl,by rw[qc,qe,qr]; omega⟩
end Lift.A1P
namespace Lift.A4
open Go Go.RowKit Lift Go.IntWalk Lift.Fn Lift.A1P
theorem zar4 (rs:List Int):(tokR rs).1.kind≠5/\(tokR rs).2≠40:=by
 unfold tokR;cases goesR (rs.headD 0) with
 |true=>
  rw[qg];cases Sp.digit (rs.headD 0) with
  |true=>
   rw[qg];cases (numS (encs (rs.takeWhile goesR))).2<;>constructor<;>simp
  |false=>
   rw[qf];cases words.contains (encs (rs.takeWhile goesR)) with
   |true=>constructor<;>simp
   |false=>
    rw[qf];cases decide (16<(rs.takeWhile goesR).length)<;>constructor<;>simp
 |false=>
  rw[qf];cases (sgn (encs rs)==[])<;>constructor<;>simp
theorem T_bad:∀ (n:Nat) (rs:List Int) (p:Int) (e:Int×Int),rs.length<=n->rs.all Sp.isRune=true->T p rs=.inl e->e.1≠0/\e.1≠40:=by
 intro n;induction n with
 |zero=>
  intro rs p e hn ha h;have:rs=[]:=qt (by omega);subst this;cases h
 |succ n ih=>
  intro rs p e hn ha h;cases rs with
  |nil=>cases h
  |cons r rs=>
   simp only[qe] at hn;rw[zai9 p r rs ha] at h;by_cases h0:(tokR (r::rs)).2=0
   ·have e1:((tokR (r::rs)).2 != 0)=false:=by simp[h0]
    rw[e1,qf] at h;obtain ⟨q1,q2⟩:=zah3 ha h0;cases hT:T (p+(encs (r::rs)).length-(encs (skip false (restR (r::rs)))).length) (skip false (restR (r::rs))) with
    |inl e2=>
     rw[hT] at h;simp only[Sum.inl.injEq] at h;rw[<-h];exact ih _ _ _ (by omega) q1 hT
    |inr l'=>rw[hT] at h; cases h
   ·have e1:((tokR (r::rs)).2 != 0)=true:=by simp[h0]
    rw[e1,qg,Sum.inl.injEq] at h;rw[<-h];exact ⟨h0,(zar4 _).2⟩
theorem T_ok:∀ (n:Nat) (rs:List Int) (p:Int) (l:List Token),rs.length<=n->rs.all Sp.isRune=true->T p rs=.inr l ->
  (∀ x∈l,p<=x.at_/\x.at_<p+(encs rs).length/\x.kind≠5/\∃ w t,whole w t/\core x=core t)/\l.Pairwise (fun x y=>x.at_<y.at_):=by
 intro n;induction n with
 |zero=>
  intro rs p l hn ha h;have:rs=[]:=qt (by omega);subst this;rw[T_nil,Sum.inr.injEq] at h;subst h;exact ⟨fun x hx=>(by cases hx),.nil⟩
 |succ n ih=>
  intro rs p l hn ha h;cases rs with
  |nil=>
   rw[T_nil,Sum.inr.injEq] at h;subst h;exact ⟨fun x hx=>(by cases hx),.nil⟩
  |cons r rs=>
   simp only[qe] at hn;rw[zai9 p r rs ha] at h;by_cases h0:(tokR (r::rs)).2=0
   ·have e1:((tokR (r::rs)).2 != 0)=false:=by simp[h0]
    rw[e1,qf] at h;obtain ⟨q1,q2⟩:=zah3 ha h0;obtain ⟨w,hw,hsp⟩:=alone r rs ha h0;obtain ⟨sep,hsep⟩:=zaa4 (restR (r::rs)) false;have hlen:((encs (r::rs)).length:Int)=(encs w).length+(encs sep).length+(encs (skip false (restR (r::rs)))).length:=by
     have h1:=congrArg (fun l=>((encs l).length:Int)) hsp;have h2:=congrArg (fun l=>((encs l).length:Int)) hsep;rw[zap9] at h1 h2;omega
    have hwl:0<(encs w).length:=by
     have:=zabl w;have:0<w.length:=List.length_pos_iff.2 hw.1;omega
    cases hT:T (p+(encs (r::rs)).length-(encs (skip false (restR (r::rs)))).length) (skip false (restR (r::rs))) with
    |inl e2=>rw[hT] at h; cases h
    |inr l'=>
     rw[hT] at h;simp only[Sum.inr.injEq] at h;obtain ⟨i1,i2⟩:=ih _ _ _ (by omega) q1 hT;subst h;constructor
     ·intro x hx;simp only[List.mem_cons] at hx;rcases hx with rfl|hx
      ·exact ⟨Int.le_refl _,by show p<_; omega,(zar4 _).1,w,_,hw,rfl⟩
      ·obtain ⟨a1,a2,a3,a4⟩:=i1 x hx;exact ⟨by omega,by omega,a3,a4⟩
     ·refine List.Pairwise.cons (fun x hx=>?_) i2;obtain ⟨a1,a2,a3,a4⟩:=i1 x hx;show p<x.at_;omega
   ·have e1:((tokR (r::rs)).2 != 0)=true:=by simp[h0]
    rw[e1,qg] at h;cases h
noncomputable def p0 (rs:List Int):Int:=((encs rs).length:Int)-(encs (skip false rs)).length
theorem zae4 {rs:List Int} (ha:rs.all Sp.isRune=true):(skip false rs).all Sp.isRune=true:=by
 obtain ⟨ds,h⟩:=zaa4 rs false;exact zabg (ds:=ds) (by rw[<-h]; exact ha)
theorem zavf (rs:List Int) (ha:rs.all Sp.isRune=true):toks rs.length (p0 rs) (skip false rs)=T (p0 rs) (skip false rs):=by
 unfold T;exact zae5 _ _ _ _ (zae4 ha) (zamm _ _) (qz _)
theorem zak4 (t:List UInt8):(∃ f,qaj t=some ([],f)/\f.code≠0/\f.code≠40) \/
  (∃ rs l,t=encs rs/\rs.all Sp.isRune=true/\t.length<=4000/\T (p0 rs) (skip false rs)=.inr l/\qaj t=some (l++[⟨5,[],0,(t.length:Int)⟩],⟨0,0,[]⟩)):=by
 rcases zaim t with ⟨h1,h2⟩|⟨h0,rs,rest,_,_,_,_,h1,h2⟩|⟨h0,rs,rfl,ha,h1,h2⟩
 ·refine .inl ⟨_,zaeq t (by rw[h2]; decide),?_,?_⟩<;>· rw[h2]; decide
 ·refine .inl ⟨_,zaeq t (by rw[h2]; show (11:Int)≠0; decide),?_,?_⟩
  ·rw[h2]; show (11:Int)≠0; decide
  ·rw[h2]; show (11:Int)≠40; decide
 ·have h:=zahh rs ha h0;have e:=zavf rs ha;unfold p0 at e;rw[e] at h;cases hT:T (((encs rs).length:Int)-(encs (skip false rs)).length) (skip false rs) with
  |inl e2=>
   rw[hT] at h;obtain ⟨b1,b2⟩:=T_bad _ _ _ _ (qz _) (zae4 ha) hT;exact .inl ⟨_,h,b1,b2⟩
  |inr l=>
   rw[hT] at h;exact .inr ⟨rs,l,rfl,ha,h0,hT,h⟩
theorem zapf {c:Int} (hc:goesR c=false) {w r:List Int} (h:w.takeWhile goesR=w):(w++c::r).takeWhile goesR=w:=by
 have hall:∀ x∈w,goesR x=true:=fun x hx=>by
  rw[<-h] at hx;exact qy.1 (List.all_takeWhile) x hx
 rw[List.takeWhile_append_of_pos hall,List.takeWhile_cons,hc];simp
theorem zavk {c:Int} (hc:goesR c=false) {w r:List Int} (h:w.takeWhile goesR=w):(w++c::r).dropWhile goesR=c::r:=by
 have h1:=zapf (r:=r) hc h;have h2:=List.takeWhile_append_dropWhile (p:=goesR) (l:=w++c::r);rw[h1] at h2;exact List.append_cancel_left h2
theorem zaxe {c:Int} {w:List Int} {r:List Int} (h0:encs w≠[]) (h:sgn (encs w)=encs w) (hc:∀ b∈ones,encs w=[b]->twos.contains [b,(encB c).headD 0]=false):sgn (encs (w++c::r))=encs w:=by
 rw[zaaj,zaa0];unfold sgn at h;by_cases h1:1<(encs w).length/\twos.contains ((encs w).take 2)=true
 ·rw[if_pos h1] at h;have hl:(encs w).length=2:=by
   have:=congrArg List.length h;rw[xy] at this;omega
  have ht:(encs w++(encB c++encs r)).take 2=encs w:=by rw[<-hl,List.take_left]
  unfold sgn;rw[if_pos ⟨by rw[qc]; omega,by rw[ht]; rw[h] at h1; exact h1.2⟩,ht]
 ·rw[if_neg h1] at h;by_cases h2:ones.contains ((encs w).headD 0)=true
  ·rw[if_pos h2] at h;match hw:encs w,h0 with
   |b::t,_=>
    rw[hw] at h h2 hc;have ht:t=[]:=by
     have:=congrArg List.length h;simp only[List.take_succ_cons,List.take_zero,qe,qr] at this;exact qt (by omega)
    subst ht;have hb:b∈ones:=by simpa using h2
    have h3:=hc b hb rfl;have h4:=zazg c;cases hk:encB c with
    |nil=>rw[hk] at h4; simp at h4
    |cons k ks=>
     rw[hk] at h3;unfold sgn;refine (if_neg fun hh=>?_).trans ((if_pos ?_).trans rfl)
     ·have h9:twos.contains [b,k]=true:=hh.2;rw[show ([b,(k::ks).headD 0]:List UInt8)=[b,k] from rfl,h9] at h3;cases h3
     ·exact h2
  ·rw[if_neg h2] at h;exact absurd h.symm h0
theorem zay7 {w:List Int} {t:Token} (h:whole w t) (c:Int) (r:List Int) (hg:goesR (w.headD 0)=true->goesR c=false) (hs:goesR (w.headD 0)=false->∀ b∈ones,encs w=[b]->twos.contains [b,(encB c).headD 0]=false) :
  tokR (w++c::r)=(t,0)/\restR (w++c::r)=c::r:=by
 obtain ⟨h1,h2,h3,h4⟩:=h;have hh:=zayr h1 (c::r);cases hg2:goesR (w.headD 0) with
 |true=>
  have hc:=hg hg2;have hw:=zajt ⟨h1,h2,h3,h4⟩ hg2;have ht:=zapf (r:=r) hc hw;constructor
  ·rw[<-h3];unfold tokR;rw[hh,hg2,ht,hw];rfl
  ·unfold restR;rw[hh,hg2,qg,zavk hc hw]
 |false=>
  have h0:encs w≠[]:=by
   match w,h1 with
   |a::w,_=>obtain ⟨b,u,hb⟩:=zakn a w; rw[hb]; exact List.cons_ne_nil _ _
  have hsg:sgn (encs w)=encs w:=by
   have h5:=h3;unfold tokR at h5;rw[hg2,qf] at h5;cases hc:(sgn (encs w)==[]) with
   |true=>rw[hc] at h5; simp at h5
   |false=>
    rw[hc,qf] at h5;have:=congrArg (fun x=>x.1.text) h5;simp only at this;rw[this,h4]
  have ha:=zaxe (c:=c) (r:=r) h0 hsg (hs hg2);constructor
  ·rw[<-h3];unfold tokR;rw[hh,hg2,ha,hsg];rfl
  ·unfold restR;rw[hh,hg2,qf,ha];have hlen:(encs w).length=w.length:=by
    match w,h1 with
    |a::w,_=>
     obtain ⟨q1,q2⟩:=zaih a w h2 (by rw[hsg]; exact h0);rw[hsg] at q1;have q3:encs ((a::w).take (encs (a::w)).length++(a::w).drop (encs (a::w)).length)=encs ((a::w).take (encs (a::w)).length):=by rw[List.take_append_drop,q1]
     have q5:=zabl (a::w);have q6:(sgn (encs (a::w))).length<=2:=by
      unfold sgn;split
      ·rw[xy]; omega
      ·split
       ·rw[xy]; omega
       ·simp
     rw[hsg] at q6;have q7:=zabl w;have q8:(encs (a::w)).length=(encB a).length+(encs w).length:=by rw[zaa0,qc]
     have q9:=zacq a;have q10:=zadi a;by_cases hz:w.length=0
     ·have hwn:w=[]:=qt hz;subst hwn;obtain ⟨b,u,hb⟩:=zakn a [];simp only[xv,qd] at h2;have hbn:b.toNat<128:=by
       unfold sgn at hsg;by_cases k1:1<(encs [a]).length/\twos.contains ((encs [a]).take 2)=true
       ·have hm:(encs [a]).take 2∈twos:=by simpa using k1.2
        have:=(zajc _ hm).2;rw[hb] at this;cases u with
        |nil=>simp only[List.take_succ_cons,List.take_nil,xv,List.all_nil,Bool.and_true,qj] at this; exact this
        |cons c u=>simp only[List.take_succ_cons,List.take_zero,xv,qd,qj] at this; exact this.1
       ·rw[if_neg k1] at hsg;by_cases k2:ones.contains ((encs [a]).headD 0)=true
        ·rw[hb] at k2;exact zaoe b (by simpa using k2)
        ·rw[if_neg k2] at hsg;exact absurd hsg.symm h0
      obtain ⟨e1,_⟩:=zaep h2.1 hb hbn;rw[zaa0,e1];rfl
     ·simp only[qe];omega
   rw[hlen,List.drop_left]
theorem zay0:∀ (n:Nat) (rs:List Int) (p q:Int) (l:List Token),rs.length<=n->rs.all Sp.isRune=true->T p rs=.inr l->∃ m,T q rs=.inr m/\m.map core=l.map core:=by
 intro n;induction n with
 |zero=>
  intro rs p q l hn ha h;have:rs=[]:=qt (by omega);subst this;rw[T_nil,Sum.inr.injEq] at h;subst h;exact ⟨[],T_nil q,rfl⟩
 |succ n ih=>
  intro rs p q l hn ha h;cases rs with
  |nil=>
   rw[T_nil,Sum.inr.injEq] at h;subst h;exact ⟨[],T_nil q,rfl⟩
  |cons r rs=>
   simp only[qe] at hn;rw[zai9 p r rs ha] at h;rw[zai9 q r rs ha];by_cases h0:(tokR (r::rs)).2=0
   ·have e1:((tokR (r::rs)).2 != 0)=false:=by simp[h0]
    rw[e1,qf] at h ⊢;obtain ⟨q1,q2⟩:=zah3 ha h0;cases hT:T (p+(encs (r::rs)).length-(encs (skip false (restR (r::rs)))).length) (skip false (restR (r::rs))) with
    |inl e2=>rw[hT] at h; cases h
    |inr l'=>
     rw[hT] at h;simp only[Sum.inr.injEq] at h;obtain ⟨m,i1,i2⟩:=ih _ _ (q+(encs (r::rs)).length-(encs (skip false (restR (r::rs)))).length) _ (by omega) q1 hT;refine ⟨_,by rw[i1],?_⟩;subst h;simp only[xn,i2];rfl
   ·have e1:((tokR (r::rs)).2 != 0)=true:=by simp[h0]
    rw[e1,qg] at h;cases h
theorem zax5 {rs:List Int} (ha:rs.all Sp.isRune=true) (h0:(encs rs).length<=4000) {p:Int} {l:List Token} (hT:T p (skip false rs)=.inr l):∃ m,qaj (encs rs)=some (m++[⟨5,[],0,((encs rs).length:Int)⟩],⟨0,0,[]⟩)/\m.map core=l.map core/\∀ t∈m,t.kind≠5:=by
 obtain ⟨m,h1,h2⟩:=zay0 _ _ p (p0 rs) l (qz _) (zae4 ha) hT;have h:=zahh rs ha h0;have e:=zavf rs ha;unfold p0 at e h1;rw[e,h1] at h;exact ⟨m,h,h2,fun t ht=>((T_ok _ _ _ _ (qz _) (zae4 ha) h1).1 t ht).2.2.1⟩
theorem T_len:∀ (n:Nat) (rs:List Int) (p:Int) (l:List Token),rs.length<=n->rs.all Sp.isRune=true->T p rs=.inr l->l.length<=rs.length:=by
 intro n;induction n with
 |zero=>
  intro rs p l hn ha h;have:rs=[]:=qt (by omega);subst this;rw[T_nil,Sum.inr.injEq] at h;subst h;exact qz _
 |succ n ih=>
  intro rs p l hn ha h;cases rs with
  |nil=>
   rw[T_nil,Sum.inr.injEq] at h;subst h;exact qz _
  |cons r rs=>
   simp only[qe] at hn;rw[zai9 p r rs ha] at h;by_cases h0:(tokR (r::rs)).2=0
   ·have e1:((tokR (r::rs)).2 != 0)=false:=by simp[h0]
    rw[e1,qf] at h;obtain ⟨q1,q2⟩:=zah3 ha h0;cases hT:T (p+(encs (r::rs)).length-(encs (skip false (restR (r::rs)))).length) (skip false (restR (r::rs))) with
    |inl e2=>rw[hT] at h; cases h
    |inr l'=>
     rw[hT] at h;simp only[Sum.inr.injEq] at h;have:=ih _ _ _ (by omega) q1 hT;subst h;simp only[qe];omega
   ·have e1:((tokR (r::rs)).2 != 0)=true:=by simp[h0]
    rw[e1,qg] at h;cases h
theorem zazz {rs:List Int} (ha:rs.all Sp.isRune=true) {p:Int} {l:List Token} (h:T p (skip false rs)=.inr l):l.length<=rs.length:=
 Nat.le_trans (T_len _ _ _ _ (qz _) (zae4 ha) h) (zamm _ _)
end Lift.A4
namespace Lift.A3
open Go Go.RowKit Lift Go.IntWalk Lift.Fn
theorem wE : WalksE (fun (x : TExpr) (d : Int) (s : Bool) => qbP x d s) (fun (n : Nat) (x : TExpr) (d : Int) (s : Bool) => qac_i n x d s) where
 step:=by
  intro n x d s hd1 hd2 hl;show qac_f (qac_i n) x d s=_;unfold qac_f;rw[zaaw];congr 1;funext y0
  have hL := zaco (σ := Bool) x.args (fun y s => qac_i n y (d + 1) s) (fun m i s => qac_i3 (qac_i n) m d x.args (x.args.length : Int) i s)
   (fun m i s h0 h=>by simp only[qac_i3,qac_t3,qn h,qf])
   (fun m i s y h0 h hy=>by
    simp only[qac_i3,qac_t3,qm h,qm h0,qg,hy,qa,zaaw];rw[i64_in (i+1) (by omega),i64_in (d+1) (by omega)])
   x.args.length fuel 0 y0 (by omega) (by omega) (by unfold fuel; omega)
  try simp only at hL
  rw[qac_l3,zaaa,hL];simp[zac2]
theorem wEx (x:TExpr) (s:Bool) (hx:nE x<=100000000000000000):qac x 1 s=(evE x 1).foldlM (atEv (fun (x:TStmt) (d:Int) (s:Bool)=>qbO x d s) (fun (x:TExpr) (d:Int) (s:Bool)=>qbP x d s)) s:=by
 rw[qac,zaaa];exact zarr (g:=(fun (x:TStmt) (d:Int) (s:Bool)=>qbO x d s)) wE (nE x) fuel x 1 s (qz _) (by unfold fuel; omega) (by omega) (by omega)
theorem wS : WalksS (fun (x : TStmt) (d : Int) (s : Bool) => qbO x d s) (fun (x : TExpr) (d : Int) (s : Bool) => qac x d s) (fun (n : Nat) (l : List TStmt) (d : Int) (s : Bool) => qai_i n l d s) where
 step:=by
  intro n l d s hd1 hd2 hl;show qai_f (qai_i n) l d s=_;unfold qai_f
  have hL := zaco (σ := Bool) l (fun x s => (qbO x d s).bind fun s1 => (if zaa8 x.expr then qac x.expr 1 s1 else some s1).bind fun s2 => (qai_i n x.then_ (d + 1) s2).bind fun s3 => qai_i n x.else_ (d + 1) s3)
   (fun m i s=>qai_i2 (qai_i n) m d l (l.length:Int) i s)
   (fun m i s h0 h=>by simp only[qai_i2,qai_t2,qn h,qf])
   (fun m i s y h0 h hy=>by
    have e:(bif TExpr.kind (TStmt.expr y) != (0:Int) then some true else some (decide ((↑(List.length (TExpr.args (TStmt.expr y))):Int)>(0:Int))))=some (zaa8 y.expr):=by
     unfold zaa8;cases (y.expr.kind != 0)
     ·simp
     ·rfl
    simp only[qai_i2,qai_t2,qm h,qm h0,qg,hy,qa,zaaw,zajs,e];rw[i64_in (i+1) (by omega),i64_in (d+1) (by omega)];cases zaa8 y.expr<;>simp[qw])
   l.length fuel 0 s (by omega) (by omega) (by unfold fuel; omega)
  try simp only at hL
  rw[qai_l2,zaaa,hL];simp[zac2]
theorem wSt (l:List TStmt) (s:Bool) (hl:nSs l<=10000000000000000):qai l 1 s=(evSs l 1).foldlM (atEv (fun (x:TStmt) (d:Int) (s:Bool)=>qbO x d s) (fun (x:TExpr) (d:Int) (s:Bool)=>qbP x d s)) s:=by
 rw[qai,zaaa];exact zaqr (g:=(fun (x:TStmt) (d:Int) (s:Bool)=>qbO x d s)) (h:=(fun (x:TExpr) (d:Int) (s:Bool)=>qbP x d s)) (fun x s hx=>wEx x s hx) wS (nSs l) fuel l 1 s (qz _) (by unfold fuel; omega) (by omega) (by omega)
theorem wP (p:TProg) (s:Bool) (hl:nT p.threads<=10000000000000000):qaf p s=(evP p).foldlM (atEv (fun (x:TStmt) (d:Int) (s:Bool)=>qbO x d s) (fun (x:TExpr) (d:Int) (s:Bool)=>qbP x d s)) s:=by
 rw[qaf,zaaa];unfold qaf_f;have hn:=zafk p.threads
 have hL := zaco (σ := Bool) p.threads (fun t s => qai t.body 1 s) (fun m i s => qaf_i2 m p.threads (p.threads.length : Int) i s)
  (fun m i s h0 h=>by simp only[qaf_i2,qaf_t2,qn h,qf])
  (fun m i s y h0 h hy=>by
   simp only[qaf_i2,qaf_t2,qm h,qm h0,qg,hy,qa];rw[i64_in (i+1) (by omega)])
  p.threads.length fuel 0 s (by omega) (by omega) (by unfold fuel; omega)
 try simp only at hL
 rw[qaf_l2,zaaa,hL];unfold evP;rw[zadq];have:∀ (l:List TThread) (s:Bool),(∀ t∈l,nSs t.body<=10000000000000000)->l.foldlM (fun s t=>qai t.body 1 s) s=l.foldlM (fun s t=>(evSs t.body 1).foldlM (atEv (fun (x:TStmt) (d:Int) (s:Bool)=>qbO x d s) (fun (x:TExpr) (d:Int) (s:Bool)=>qbP x d s)) s) s:=by
  intro l;induction l with
  |nil=>intro s _; rfl
  |cons t l ih=>
   intro s ht;rw[List.foldlM_cons,List.foldlM_cons,wSt t.body s (ht t (by simp))];congr 1;funext s';exact ih s' (fun z hz=>ht z (by simp[hz]))
 rw[Int.toNat_zero,List.drop_zero,this _ _ (fun t ht=>by have:=zafn ht; omega)];simp[zac2]
theorem wE_1 : WalksE (fun (x : TExpr) (d : Int) (s : Int) => qbK x d s) (fun (n : Nat) (x : TExpr) (d : Int) (s : Int) => qaa_i n x d s) where
 step:=by
  intro n x d s hd1 hd2 hl;show qaa_f (qaa_i n) x d s=_;unfold qaa_f;rw[zaaw];congr 1;funext y0
  have hL := zaco (σ := Int) x.args (fun y s => qaa_i n y (d + 1) s) (fun m i s => qaa_i3 (qaa_i n) m d x.args (x.args.length : Int) i s)
   (fun m i s h0 h=>by simp only[qaa_i3,qaa_t3,qn h,qf])
   (fun m i s y h0 h hy=>by
    simp only[qaa_i3,qaa_t3,qm h,qm h0,qg,hy,qa,zaaw];rw[i64_in (i+1) (by omega),i64_in (d+1) (by omega)])
   x.args.length fuel 0 y0 (by omega) (by omega) (by unfold fuel; omega)
  try simp only at hL
  rw[qaa_l3,zaaa,hL];simp[zac2]
theorem wEx_1 (x:TExpr) (s:Int) (hx:nE x<=100000000000000000):qaa x 1 s=(evE x 1).foldlM (atEv (fun (x:TStmt) (d:Int) (s:Int)=>qbJ x d s) (fun (x:TExpr) (d:Int) (s:Int)=>qbK x d s)) s:=by
 rw[qaa,zaaa];exact zarr (g:=(fun (x:TStmt) (d:Int) (s:Int)=>qbJ x d s)) wE_1 (nE x) fuel x 1 s (qz _) (by unfold fuel; omega) (by omega) (by omega)
theorem wS_1 : WalksS (fun (x : TStmt) (d : Int) (s : Int) => qbJ x d s) (fun (x : TExpr) (d : Int) (s : Int) => qaa x d s) (fun (n : Nat) (l : List TStmt) (d : Int) (s : Int) => qag_i n l d s) where
 step:=by
  intro n l d s hd1 hd2 hl;show qag_f (qag_i n) l d s=_;unfold qag_f
  have hL := zaco (σ := Int) l (fun x s => (qbJ x d s).bind fun s1 => (if zaa8 x.expr then qaa x.expr 1 s1 else some s1).bind fun s2 => (qag_i n x.then_ (d + 1) s2).bind fun s3 => qag_i n x.else_ (d + 1) s3)
   (fun m i s=>qag_i2 (qag_i n) m d l (l.length:Int) i s)
   (fun m i s h0 h=>by simp only[qag_i2,qag_t2,qn h,qf])
   (fun m i s y h0 h hy=>by
    have e:(bif TExpr.kind (TStmt.expr y) != (0:Int) then some true else some (decide ((↑(List.length (TExpr.args (TStmt.expr y))):Int)>(0:Int))))=some (zaa8 y.expr):=by
     unfold zaa8;cases (y.expr.kind != 0)
     ·simp
     ·rfl
    simp only[qag_i2,qag_t2,qm h,qm h0,qg,hy,qa,zaaw,zajs,e];rw[i64_in (i+1) (by omega),i64_in (d+1) (by omega)];cases zaa8 y.expr<;>simp[qw])
   l.length fuel 0 s (by omega) (by omega) (by unfold fuel; omega)
  try simp only at hL
  rw[qag_l2,zaaa,hL];simp[zac2]
theorem wSt_1 (l:List TStmt) (s:Int) (hl:nSs l<=10000000000000000):qag l 1 s=(evSs l 1).foldlM (atEv (fun (x:TStmt) (d:Int) (s:Int)=>qbJ x d s) (fun (x:TExpr) (d:Int) (s:Int)=>qbK x d s)) s:=by
 rw[qag,zaaa];exact zaqr (g:=(fun (x:TStmt) (d:Int) (s:Int)=>qbJ x d s)) (h:=(fun (x:TExpr) (d:Int) (s:Int)=>qbK x d s)) (fun x s hx=>wEx_1 x s hx) wS_1 (nSs l) fuel l 1 s (qz _) (by unfold fuel; omega) (by omega) (by omega)
theorem wP_1 (p:TProg) (s:Int) (hl:nT p.threads<=10000000000000000):qad p s=(evP p).foldlM (atEv (fun (x:TStmt) (d:Int) (s:Int)=>qbJ x d s) (fun (x:TExpr) (d:Int) (s:Int)=>qbK x d s)) s:=by
 rw[qad,zaaa];unfold qad_f;have hn:=zafk p.threads
 have hL := zaco (σ := Int) p.threads (fun t s => qag t.body 1 s) (fun m i s => qad_i2 m p.threads (p.threads.length : Int) i s)
  (fun m i s h0 h=>by simp only[qad_i2,qad_t2,qn h,qf])
  (fun m i s y h0 h hy=>by
   simp only[qad_i2,qad_t2,qm h,qm h0,qg,hy,qa];rw[i64_in (i+1) (by omega)])
  p.threads.length fuel 0 s (by omega) (by omega) (by unfold fuel; omega)
 try simp only at hL
 rw[qad_l2,zaaa,hL];unfold evP;rw[zadq];have:∀ (l:List TThread) (s:Int),(∀ t∈l,nSs t.body<=10000000000000000)->l.foldlM (fun s t=>qag t.body 1 s) s=l.foldlM (fun s t=>(evSs t.body 1).foldlM (atEv (fun (x:TStmt) (d:Int) (s:Int)=>qbJ x d s) (fun (x:TExpr) (d:Int) (s:Int)=>qbK x d s)) s) s:=by
  intro l;induction l with
  |nil=>intro s _; rfl
  |cons t l ih=>
   intro s ht;rw[List.foldlM_cons,List.foldlM_cons,wSt_1 t.body s (ht t (by simp))];congr 1;funext s';exact ih s' (fun z hz=>ht z (by simp[hz]))
 rw[Int.toNat_zero,List.drop_zero,this _ _ (fun t ht=>by have:=zafn ht; omega)];simp[zac2]
theorem wE_2 : WalksE (fun (x : TExpr) (d : Int) (s : Int) => qbH x d s) (fun (n : Nat) (x : TExpr) (d : Int) (s : Int) => qab_i n x d s) where
 step:=by
  intro n x d s hd1 hd2 hl;show qab_f (qab_i n) x d s=_;unfold qab_f;rw[zaaw];congr 1;funext y0
  have hL := zaco (σ := Int) x.args (fun y s => qab_i n y (d + 1) s) (fun m i s => qab_i3 (qab_i n) m d x.args (x.args.length : Int) i s)
   (fun m i s h0 h=>by simp only[qab_i3,qab_t3,qn h,qf])
   (fun m i s y h0 h hy=>by
    simp only[qab_i3,qab_t3,qm h,qm h0,qg,hy,qa,zaaw];rw[i64_in (i+1) (by omega),i64_in (d+1) (by omega)])
   x.args.length fuel 0 y0 (by omega) (by omega) (by unfold fuel; omega)
  try simp only at hL
  rw[qab_l3,zaaa,hL];simp[zac2]
theorem wEx_2 (x:TExpr) (s:Int) (hx:nE x<=100000000000000000):qab x 1 s=(evE x 1).foldlM (atEv (fun (x:TStmt) (d:Int) (s:Int)=>qbG x d s) (fun (x:TExpr) (d:Int) (s:Int)=>qbH x d s)) s:=by
 rw[qab,zaaa];exact zarr (g:=(fun (x:TStmt) (d:Int) (s:Int)=>qbG x d s)) wE_2 (nE x) fuel x 1 s (qz _) (by unfold fuel; omega) (by omega) (by omega)
theorem wS_2 : WalksS (fun (x : TStmt) (d : Int) (s : Int) => qbG x d s) (fun (x : TExpr) (d : Int) (s : Int) => qab x d s) (fun (n : Nat) (l : List TStmt) (d : Int) (s : Int) => qah_i n l d s) where
 step:=by
  intro n l d s hd1 hd2 hl;show qah_f (qah_i n) l d s=_;unfold qah_f
  have hL := zaco (σ := Int) l (fun x s => (qbG x d s).bind fun s1 => (if zaa8 x.expr then qab x.expr 1 s1 else some s1).bind fun s2 => (qah_i n x.then_ (d + 1) s2).bind fun s3 => qah_i n x.else_ (d + 1) s3)
   (fun m i s=>qah_i2 (qah_i n) m d l (l.length:Int) i s)
   (fun m i s h0 h=>by simp only[qah_i2,qah_t2,qn h,qf])
   (fun m i s y h0 h hy=>by
    have e:(bif TExpr.kind (TStmt.expr y) != (0:Int) then some true else some (decide ((↑(List.length (TExpr.args (TStmt.expr y))):Int)>(0:Int))))=some (zaa8 y.expr):=by
     unfold zaa8;cases (y.expr.kind != 0)
     ·simp
     ·rfl
    simp only[qah_i2,qah_t2,qm h,qm h0,qg,hy,qa,zaaw,zajs,e];rw[i64_in (i+1) (by omega),i64_in (d+1) (by omega)];cases zaa8 y.expr<;>simp[qw])
   l.length fuel 0 s (by omega) (by omega) (by unfold fuel; omega)
  try simp only at hL
  rw[qah_l2,zaaa,hL];simp[zac2]
theorem wSt_2 (l:List TStmt) (s:Int) (hl:nSs l<=10000000000000000):qah l 1 s=(evSs l 1).foldlM (atEv (fun (x:TStmt) (d:Int) (s:Int)=>qbG x d s) (fun (x:TExpr) (d:Int) (s:Int)=>qbH x d s)) s:=by
 rw[qah,zaaa];exact zaqr (g:=(fun (x:TStmt) (d:Int) (s:Int)=>qbG x d s)) (h:=(fun (x:TExpr) (d:Int) (s:Int)=>qbH x d s)) (fun x s hx=>wEx_2 x s hx) wS_2 (nSs l) fuel l 1 s (qz _) (by unfold fuel; omega) (by omega) (by omega)
theorem wP_2 (p:TProg) (s:Int) (hl:nT p.threads<=10000000000000000):qae p s=(evP p).foldlM (atEv (fun (x:TStmt) (d:Int) (s:Int)=>qbG x d s) (fun (x:TExpr) (d:Int) (s:Int)=>qbH x d s)) s:=by
 rw[qae,zaaa];unfold qae_f;have hn:=zafk p.threads
 have hL := zaco (σ := Int) p.threads (fun t s => qah t.body 1 s) (fun m i s => qae_i2 m p.threads (p.threads.length : Int) i s)
  (fun m i s h0 h=>by simp only[qae_i2,qae_t2,qn h,qf])
  (fun m i s y h0 h hy=>by
   simp only[qae_i2,qae_t2,qm h,qm h0,qg,hy,qa];rw[i64_in (i+1) (by omega)])
  p.threads.length fuel 0 s (by omega) (by omega) (by unfold fuel; omega)
 try simp only at hL
 rw[qae_l2,zaaa,hL];unfold evP;rw[zadq];have:∀ (l:List TThread) (s:Int),(∀ t∈l,nSs t.body<=10000000000000000)->l.foldlM (fun s t=>qah t.body 1 s) s=l.foldlM (fun s t=>(evSs t.body 1).foldlM (atEv (fun (x:TStmt) (d:Int) (s:Int)=>qbG x d s) (fun (x:TExpr) (d:Int) (s:Int)=>qbH x d s)) s) s:=by
  intro l;induction l with
  |nil=>intro s _; rfl
  |cons t l ih=>
   intro s ht;rw[List.foldlM_cons,List.foldlM_cons,wSt_2 t.body s (ht t (by simp))];congr 1;funext s';exact ih s' (fun z hz=>ht z (by simp[hz]))
 rw[Int.toNat_zero,List.drop_zero,this _ _ (fun t ht=>by have:=zafn ht; omega)];simp[zac2]
theorem za0j {α σ ρ:Type} (l:List α) (I:List α->σ->Prop) (P:List α->σ->ρ) (L:Nat->Int->σ->Option ρ)
  (h0:∀ n i s,0<=i->¬ i<(l.length:Int)->I [] s->L (n+1) i s=some (P [] s))
  (h1:∀ n i s x r,0<=i->i<(l.length:Int)->l[i.toNat]? = some x->x∈l->I (x::r) s->(∃ s',I r s'/\L (n+1) i s=L n (i+1) s'/\P (x::r) s=P r s')\/L (n+1) i s=some (P (x::r) s)) :
  ∀ (k n:Nat) (i:Int) (s:σ),0<=i->l.length-i.toNat<=k->k<n->I (l.drop i.toNat) s->L n i s=some (P (l.drop i.toNat) s):=by
 intro k;induction k with
 |zero=>
  intro n i s hi hk hn hI;obtain ⟨n,rfl⟩:∃ q,n=q+1:=⟨n-1,by omega⟩;rw[List.drop_eq_nil_of_le (by omega)] at hI ⊢;exact h0 n i s hi (by omega) hI
 |succ k ih=>
  intro n i s hi hk hn hI;obtain ⟨n,rfl⟩:∃ q,n=q+1:=⟨n-1,by omega⟩;by_cases c:i<(l.length:Int)
  ·have hlt:i.toNat<l.length:=by omega
   rw[List.drop_eq_getElem_cons hlt] at hI ⊢;rcases h1 n i s l[i.toNat] _ hi c (xp hlt) (List.getElem_mem hlt) hI with ⟨s',i1,e1,e2⟩|e
   ·have e:(i+1).toNat=i.toNat+1:=by omega
    rw[e1,ih n (i+1) s' (by omega) (by omega) (by omega) (by rw[e]; exact i1),e2,e]
   ·exact e
  ·rw[List.drop_eq_nil_of_le (by omega)] at hI ⊢;exact h0 n i s hi c hI
theorem zacs {α σ ρ:Type} (l:List α) (I:List α->σ->Prop) (P:List α->σ->ρ) (L:Nat->Int->σ->Option ρ)
  (h0:∀ n i s,0<=i->¬ i<(l.length:Int)->I [] s->L (n+1) i s=some (P [] s))
  (h1:∀ n i s x r,0<=i->i<(l.length:Int)->l[i.toNat]? = some x->x∈l->I (x::r) s->(∃ s',I r s'/\L (n+1) i s=L n (i+1) s'/\P (x::r) s=P r s')\/L (n+1) i s=some (P (x::r) s))
  (n:Nat) (s:σ) (hn:l.length<n) (hI:I l s):L n 0 s=some (P l s):=by
 have:=za0j l I P L h0 h1 l.length n 0 s (by omega) (by omega) hn;rw[Int.toNat_zero,List.drop_zero] at this;exact this hI
mutual
theorem lenE:∀ (x:TExpr) (d:Int),(evE x d).length=nE x
 |⟨k,n,m,l⟩,d=>by simp[evE,nE,lenEs l (d+1)]; omega
theorem lenEs:∀ (l:List TExpr) (d:Int),(evEs l d).length=nEs l
 |[],d=>by simp[evEs,nEs]
 |x::l,d=>by simp[evEs,nEs,lenE x d,lenEs l d]
end
mutual
def cS:TStmt->Nat
 |⟨_,_,_,x,_,t,o⟩=>1+(if zaa8 x then nE x else 0)+cSs t+cSs o
def cSs:List TStmt->Nat
 |[]=>0
 |x::l=>cS x+cSs l
end
def cT:List TThread->Nat
 |[]=>0
 |t::l=>cSs t.body+cT l
theorem cS_eq (x:TStmt):cS x=1+(if zaa8 x.expr then nE x.expr else 0)+cSs x.then_+cSs x.else_:=by cases x; simp[cS]
mutual
theorem lenS:∀ (x:TStmt) (d:Int),(evS x d).length=cS x
 |⟨k,r,m,x,c,t,o⟩,d=>by
  have h1:=lenSs t (d+1);have h2:=lenSs o (d+1);have h3:=lenE x 1;simp only[evS,cS,qe,qc,h1,h2];split<;>simp[h3]<;>omega
theorem lenSs:∀ (l:List TStmt) (d:Int),(evSs l d).length=cSs l
 |[],d=>by simp[evSs,cSs]
 |x::l,d=>by simp[evSs,cSs,lenS x d,lenSs l d]
end
mutual
theorem cS_le:∀ x:TStmt,cS x<=nS x
 |⟨k,r,m,x,c,t,o⟩=>by
  have h1:=zahm t;have h2:=zahm o;simp only[cS,nS];split<;>omega
theorem zahm:∀ l:List TStmt,cSs l<=nSs l
 |[]=>by simp[cSs]
 |x::l=>by have:=cS_le x; have:=zahm l; simp only[cSs,nSs]; omega
end
theorem cT_le:∀ l:List TThread,cT l<=nT l
 |[]=>by simp[cT]
 |x::l=>by have:=zahm x.body; have:=cT_le l; simp only[cT,nT]; omega
theorem lenP : ∀ (l : List TThread), (l.flatMap fun t => evSs t.body 1).length = cT l
 |[]=>rfl
 |t::l=>by simp only[List.flatMap_cons,qc,lenSs,lenP l,cT]
theorem zant:∀ (l:List Ev) (s:Int),0<=s->s+l.length<=1000000000000000000 ->
  l.foldlM (atEv (fun (x:TStmt) (d:Int) (s:Int)=>qbG x d s) (fun (x:TExpr) (d:Int) (s:Int)=>qbH x d s)) s=some (s+l.length)
 |[],s,_,_=>by simp
 |e::l,s,h0,h=>by
  simp only[qe] at h;have e1:atEv (fun (x:TStmt) (d:Int) (s:Int)=>qbG x d s) (fun (x:TExpr) (d:Int) (s:Int)=>qbH x d s) s e=some (s+1):=by
   cases e with
   |s x d=>show qbG x d s=_; rw[qbG,zaaa]; unfold qbG_f; rw[i64_in (s+1) (by omega)]
   |e x d=>show qbH x d s=_; rw[qbH,zaaa]; unfold qbH_f; rw[i64_in (s+1) (by omega)]
  rw[List.foldlM_cons,e1];show List.foldlM _ (s+1) l=_;rw[zant l (s+1) (by omega) (by omega),qe];congr 1;omega
theorem zaoz (p:TProg) (h:nT p.threads<=10000000000000000):qbF p=some (cT p.threads:Int):=by
 rw[qbF,zaaa];unfold qbF_f;have hc:=cT_le p.threads;have hl:=lenP p.threads;rw[zafd,wP_2 p 0 h,zant _ 0 (by omega) (by unfold evP; rw[hl]; omega),qa];unfold evP;rw[hl];simp
theorem zarw (x:TExpr):qbh x=some (zaa8 x):=by
 rw[qbh,zaaa];unfold qbh_f zaa8;cases (x.kind != 0)
 ·simp
 ·rfl
theorem zaw2:∀ (k n:Nat) (x:TExpr),nE x<=k->k<n->k<=100000000000000000->qba_i n x=some (nE x:Int):=by
 intro k;induction k with
 |zero=>intro n x h; have:=nE_eq x; omega
 |succ k ih=>
  intro n x h hn hb;obtain ⟨n,rfl⟩:∃ q,n=q+1:=⟨n-1,by omega⟩;have hx:=nE_eq x;have hl:=zafa x.args;show qba_f (qba_i n) x=_;unfold qba_f
  have hL := zaco (σ := Int) x.args (fun y s => (qba_i n y).bind fun c => some (IntKind.i64.wrap (s + c)))
   (fun m i s=>qba_i3 (qba_i n) m s i x.kind x.num x.name x.args)
   (fun m i s h0 h=>by simp only[qba_i3,qba_t3,qn h,qf])
   (fun m i s y h0 h hy=>by
    simp only[qba_i3,qba_t3,qm h,qm h0,qg,hy,qa,qw];rw[i64_in (i+1) (by omega)])
   x.args.length fuel 0 1 (by omega) (by omega) (by unfold fuel; omega)
  rw[qba_l3,zaaa,hL,Int.toNat_zero,List.drop_zero];have:∀ (l:List TExpr) (s:Int),0<=s->s+nEs l<=1000000000000000000->(∀ y∈l,nE y<=k)->l.foldlM (fun s y=>(qba_i n y).bind fun c=>some (IntKind.i64.wrap (s+c))) s=some (s+nEs l):=by
   intro l;induction l with
   |nil=>intro s _ _ _; simp[nEs]
   |cons y l ihl=>
    intro s h0 hs hy;simp only[nEs] at hs;rw[List.foldlM_cons,ih n y (hy y (by simp)) (by omega) (by omega),qa,i64_in (s+nE y) (by omega)];show List.foldlM _ (s+(nE y:Int)) l=_;rw[ihl (s+nE y) (by omega) (by omega) (fun z hz=>hy z (by simp[hz]))];simp only[nEs];congr 1;omega
  rw[this x.args 1 (by omega) (by omega) (fun y hy=>by have:=zae8 hy; omega),qa,hx];simp
theorem zarv (x:TExpr) (h:nE x<=10000000000000000):qba x=some (nE x:Int):=by
 rw[qba,zaaa];exact zaw2 (nE x) fuel x (qz _) (by unfold fuel; omega) (by omega)
theorem zaw4:∀ (k n:Nat) (l:List TStmt),nSs l<=k->k<n->k<=10000000000000000->qbe_i n l=some (cSs l:Int):=by
 intro k;induction k with
 |zero=>
  intro n l h hn _;obtain ⟨n,rfl⟩:∃ q,n=q+1:=⟨n-1,by omega⟩;have hl:=zacj l;obtain rfl:l=[]:=qt (by omega);show qbe_f (qbe_i n) []=_;unfold qbe_f;rw[qbe_l3,zaaa];rfl
 |succ k ih=>
  intro n l h hn hb;obtain ⟨n,rfl⟩:∃ q,n=q+1:=⟨n-1,by omega⟩;have hl:=zacj l;have hcl:=zahm l;show qbe_f (qbe_i n) l=_;unfold qbe_f
  have hL := zacs (σ := Int) l (fun r s => 0 <= s /\ s + cSs r <= 1000000000000000000) (fun r s => s + (cSs r : Int))
   (fun m i s=>qbe_i3 (qbe_i n) m l s i)
   (fun m i s h0 h hI=>by
    simp only[qbe_i3,qbe_t3,qn h,qf,cSs];congr 1;omega)
   (fun m i s y r h0 h hy hm hI=>by
    have hy1:=zaed hm;have hy2:=nS_eq y;have hy3:=cS_eq y;have t1:=zahm y.then_;have t2:=zahm y.else_;obtain ⟨c1,c2⟩:=hI;simp only[cSs] at c2;refine Or.inl ⟨s+cS y,⟨by omega,by omega⟩,?_,by simp only[cSs]; omega⟩;simp only[qbe_i3,qbe_t3,qm h,qm h0,hy,qa,zaaw,zarw,qg];rw[ih n y.then_ (by omega) (by omega) (by omega),ih n y.else_ (by omega) (by omega) (by omega),zarv y.expr (by omega)];simp only[qa];cases hb2:zaa8 y.expr with
    |true=>
     rw[hb2,if_pos rfl] at hy3;rw[qg,i64_in (s+1) (by omega),i64_in (s+1+nE y.expr) (by omega),i64_in (s+1+nE y.expr+cSs y.then_) (by omega),i64_in (s+1+nE y.expr+cSs y.then_+cSs y.else_) (by omega),i64_in (i+1) (by omega)];congr 1;omega
    |false=>
     rw[hb2,if_neg (by simp)] at hy3;rw[qf,i64_in (s+1) (by omega),i64_in (s+1+cSs y.then_) (by omega),i64_in (s+1+cSs y.then_+cSs y.else_) (by omega),i64_in (i+1) (by omega)];congr 1;omega)
   fuel 0 (by unfold fuel; omega) ⟨by omega,by omega⟩
  rw[qbe_l3,zaaa,hL];simp
theorem zayj (p:TProg) (h:nT p.threads<=10000000000000000):qa8 p=some (cT p.threads:Int):=by
 rw[qa8,zaaa];unfold qa8_f;have hl:=zafk p.threads;have hc:=cT_le p.threads
 have hL := zacs (σ := Int) p.threads (fun r s => 0 <= s /\ s + cT r <= 1000000000000000000) (fun r s => s + (cT r : Int))
   (fun m i s=>qa8_i3 m s i p.cells p.mutexes p.threads)
   (fun m i s h0 h hI=>by
    simp only[qa8_i3,qa8_t3,qn h,qf,cT];congr 1;omega)
   (fun m i s y r h0 h hy hm hI=>by
    have hy1:=zafn hm;obtain ⟨c1,c2⟩:=hI;simp only[cT] at c2;refine Or.inl ⟨s+cSs y.body,⟨by omega,by omega⟩,?_,by simp only[cT]; omega⟩;simp only[qa8_i3,qa8_t3,qm h,qm h0,hy,qa,qg];rw[qbe,zaaa,zaw4 (nSs y.body) fuel y.body (qz _) (by unfold fuel; omega) (by omega),qa,i64_in (s+cSs y.body) (by omega),i64_in (i+1) (by omega)])
   fuel 0 (by unfold fuel; omega) ⟨by omega,by omega⟩
 rw[qa8_l3,zaaa,hL];simp
def evD:Ev->Int
 |.s _ d=>d
 |.e _ d=>d
def maxEv (l:List Ev) (s:Int):Int:=l.foldl (fun s e=>max s (evD e)) s
theorem zai8 (a b:Int):(if a>b then a else b)=max b a:=by
 rw[Int.max_def];split<;>split<;>omega
theorem zagm (a b:List Ev) (s:Int):maxEv (a++b) s=maxEv b (maxEv a s):=by
 unfold maxEv;rw[List.foldl_append]
theorem zajr:∀ (a:List Ev) (s:Int),s<=maxEv a s
 |[],s=>Int.le_refl _
 |e::a,s=>by
  have:=zajr a (max s (evD e));show s<=maxEv a (max s (evD e));omega
theorem zao2:∀ (a:List Ev) (s t:Int),maxEv a (max s t)=max s (maxEv a t)
 |[],s,t=>rfl
 |e::a,s,t=>by
  show maxEv a (max (max s t) (evD e))=max s (maxEv a (max t (evD e)));rw[<-zao2 a s];congr 1;omega
theorem zahe (a:List Ev) (s:Int) (h:0<=s):maxEv a s=max s (maxEv a 0):=by
 rw[<-zao2 a s 0];congr 1;omega
mutual
def dE:TExpr->Nat
 |⟨_,_,_,l⟩=>1+dEs l
def dEs:List TExpr->Nat
 |[]=>0
 |x::l=>max (dE x) (dEs l)
end
theorem dE_eq (x:TExpr):dE x=1+dEs x.args:=by cases x; simp[dE]
mutual
theorem dE_le:∀ x:TExpr,dE x<=nE x
 |⟨_,_,_,l⟩=>by have:=zavz l; simp only[dE,nE]; omega
theorem zavz:∀ l:List TExpr,dEs l<=nEs l
 |[]=>by simp[dEs]
 |x::l=>by have:=dE_le x; have:=zavz l; simp only[dEs,nEs]; omega
end
mutual
theorem maxE:∀ (x:TExpr) (d s:Int),maxEv (evE x d) s=max s (d-1+dE x)
 |⟨k,n,m,l⟩,d,s=>by
  rw[evE];show maxEv (evEs l (d+1)) (max s d)=_;rw[maxEs l (d+1) (max s d) (by omega),dE];omega
theorem maxEs:∀ (l:List TExpr) (d s:Int),d-1<=s->maxEv (evEs l d) s=max s (d-1+dEs l)
 |[],d,s,h=>by
  rw[evEs,dEs];show s=_;omega
 |x::l,d,s,h=>by
  rw[evEs,zagm,maxE x d s,maxEs l d _ (by omega),dEs];omega
end
theorem zao6 : ∀ (l : List Ev) (s : Int), l.foldlM (atEv (fun (x : TStmt) (d : Int) (s : Int) => qbJ x d s) (fun (x : TExpr) (d : Int) (s : Int) => qbK x d s)) s = some (maxEv l s)
 |[],s=>rfl
 |e::l,s=>by
  have e1:atEv (fun (x:TStmt) (d:Int) (s:Int)=>qbJ x d s) (fun (x:TExpr) (d:Int) (s:Int)=>qbK x d s) s e=some (max s (evD e)):=by
   cases e with
   |s x d=>show qbJ x d s=_; rw[qbJ,zaaa]; unfold qbJ_f; rw[zai8]; rfl
   |e x d=>show qbK x d s=_; rw[qbK,zaaa]; unfold qbK_f; rw[zai8]; rfl
  rw[List.foldlM_cons,e1];exact zao6 l _
theorem zaqi (p:TProg) (h:nT p.threads<=10000000000000000):qbI p=some (maxEv (evP p) 0):=by
 rw[qbI,zaaa];unfold qbI_f;rw[zafd,wP_1 p 0 h,zao6];rfl
theorem zays:∀ (k n:Nat) (x:TExpr),nE x<=k->k<n->k<=100000000000000000->qbb_i n x=some (dE x:Int):=by
 intro k;induction k with
 |zero=>intro n x h; have:=nE_eq x; omega
 |succ k ih=>
  intro n x h hn hb;obtain ⟨n,rfl⟩:∃ q,n=q+1:=⟨n-1,by omega⟩;have hx:=nE_eq x;have hl:=zafa x.args;have hd:=dE_eq x;have hd2:=dE_le x;show qbb_f (qbb_i n) x=_;unfold qbb_f
  have hL := zacs (σ := Int) x.args (fun r s => 0 <= s) (fun r s => max s (dEs r : Int))
   (fun m i s=>qbb_i3 (qbb_i n) m s i x.kind x.num x.name x.args)
   (fun m i s h0 h hI=>by
    simp only[qbb_i3,qbb_t3,qn h,qf,dEs];congr 1;omega)
   (fun m i s y r h0 h hy hm hI=>by
    have hy1:=zae8 hm;have hI':0<=s:=hI;refine Or.inl ⟨max s (dE y),(by show 0<=max s (dE y:Int); omega),?_,by simp only[dEs]; omega⟩;simp only[qbb_i3,qbb_t3,qm h,qm h0,qg,hy,qa];rw[ih n y (by omega) (by omega) (by omega),qa,i64_in (i+1) (by omega),zai8])
   fuel 0 (by unfold fuel; omega) (Int.le_refl _)
  rw[qbb_l3,zaaa,hL,qa,i64_in _ (by omega),hd];congr 1;omega
theorem zasi (x:TExpr) (h:nE x<=10000000000000000):qbb x=some (maxEv (evE x 1) 0):=by
 rw[qbb,zaaa,zays (nE x) fuel x (qz _) (by unfold fuel; omega) (by omega),maxE];congr 1;omega
theorem maxS (y:TStmt) (d s:Int) (h:0<=s):maxEv (evS y d) s=max (max (if zaa8 y.expr then max (max s d) (maxEv (evE y.expr 1) 0) else max s d) (maxEv (evSs y.then_ (d+1)) 0)) (maxEv (evSs y.else_ (d+1)) 0):=by
 rw[zavo];show maxEv (_++(_++_)) (max s d)=_;have g:=zajr;rw[zagm,zagm];cases zaa8 y.expr with
 |true=>
  rw[if_pos rfl,if_pos rfl,zahe (evE y.expr 1) _ (by omega),zahe (evSs y.then_ _) _ (by omega),zahe (evSs y.else_ _) _ (by omega)]
 |false=>
  rw[if_neg (by simp),if_neg (by simp)];show maxEv _ (maxEv _ (max s d))=_;rw[zahe (evSs y.then_ _) _ (by omega),zahe (evSs y.else_ _) _ (by omega)]
theorem zax2:∀ (k n:Nat) (l:List TStmt) (d:Int),nSs l<=k->k<n->0<=d->d+k<=10000000000000001->qbf_i n l d=some (maxEv (evSs l d) 0):=by
 intro k;induction k with
 |zero=>
  intro n l d h hn _ _;obtain ⟨n,rfl⟩:∃ q,n=q+1:=⟨n-1,by omega⟩;have hl:=zacj l;obtain rfl:l=[]:=qt (by omega);show qbf_f (qbf_i n) [] d=_;unfold qbf_f;rw[qbf_l3,zaaa,evSs];rfl
 |succ k ih=>
  intro n l d h hn hd hb;obtain ⟨n,rfl⟩:∃ q,n=q+1:=⟨n-1,by omega⟩;have hl:=zacj l;show qbf_f (qbf_i n) l d=_;unfold qbf_f
  have hL := zacs (σ := Int) l (fun r s => 0 <= s) (fun r s => maxEv (evSs r d) s)
   (fun m i s=>qbf_i3 (qbf_i n) m l d s i)
   (fun m i s h0 h hI=>by
    simp only[qbf_i3,qbf_t3,qn h,qf,evSs];rfl)
   (fun m i s y r h0 h hy hm hI=>by
    have hy1:=zaed hm;have hy2:=nS_eq y;have hI':0<=s:=hI;have hg:=zajr (evS y d) s;refine Or.inl ⟨maxEv (evS y d) s,(by show 0<=maxEv (evS y d) s; omega),?_,by simp only[evSs,zagm]⟩;simp only[qbf_i3,qbf_t3,qm h,qm h0,hy,qa,zaaw,zarw,qg];rw[i64_in (d+1) (by omega),ih n y.then_ (d+1) (by omega) (by omega) (by omega) (by omega),ih n y.else_ (d+1) (by omega) (by omega) (by omega) (by omega),zasi y.expr (by omega),i64_in (i+1) (by omega)];simp only[qa,zai8];rw[maxS y d s hI'];cases zaa8 y.expr<;>rfl)
   fuel 0 (by unfold fuel; omega) (Int.le_refl _)
  rw[qbf_l3,zaaa,hL];rfl
theorem zazo (p:TProg) (h:nT p.threads<=10000000000000000):qa9 p=some (maxEv (evP p) 0):=by
 rw[qa9,zaaa];unfold qa9_f;have hl:=zafk p.threads
 have hL := zacs (σ := Int) p.threads (fun r s => 0 <= s) (fun r s => maxEv (r.flatMap fun t => evSs t.body 1) s)
   (fun m i s=>qa9_i3 m s i p.cells p.mutexes p.threads)
   (fun m i s h0 h hI=>by
    simp only[qa9_i3,qa9_t3,qn h,qf];rfl)
   (fun m i s y r h0 h hy hm hI=>by
    have hy1:=zafn hm;have hI':0<=s:=hI;have hg:=zajr (evSs y.body 1) s;refine Or.inl ⟨maxEv (evSs y.body 1) s,(by show 0<=maxEv (evSs y.body 1) s; omega),?_,by simp only[List.flatMap_cons,zagm]⟩;simp only[qa9_i3,qa9_t3,qm h,qm h0,hy,qa,qg];rw[qbf,zaaa,zax2 (nSs y.body) fuel y.body 1 (qz _) (by unfold fuel; omega) (by omega) (by omega),qa,i64_in (i+1) (by omega),zai8,<-zahe _ s hI'])
   fuel 0 (by unfold fuel; omega) (Int.le_refl _)
 rw[qa9_l3,zaaa,hL];rfl
end Lift.A3
namespace Lift.A4
open Go Go.RowKit Lift Go.IntWalk Lift.Fn Lift.A1P Lift.A3
abbrev RR:=Fault×(List TCell)×(List (List UInt8))×(List TThread)
def rr (p:TProg) (f:Fault):RR:=(f,p.cells,p.mutexes,p.threads)
def fin (p:TProg):RR:=
 if maxEv (evP p) 0>16 then rr ⟨[],[],[]⟩ ⟨41,0,[]⟩ else if (cT p.threads:Int)>500 then rr ⟨[],[],[]⟩ ⟨42,0,[]⟩ else rr p ⟨0,0,[]⟩
theorem zavr {t:List UInt8} {l:List Token} {f:Fault} (h:qaj t=some (l,f)) (hf:f.code≠0):qar t=some (rr ⟨[],[],[]⟩ f):=by
 rw[qar,zaaa];unfold qar_f;have e:(f.code != 0)=true:=by simp[hf]
 rw[h,Option.bind_some];dsimp only;rw[e];rfl
theorem zaq2 {t:List UInt8} {l:List Token} {p:TProg} {z:List Token} (h:qaj t=some (l,⟨0,0,[]⟩)) (hp:qaA l=some (okP p z)) (hn:nT p.threads<=10000000000000000) :
  qar t=some (fin p):=by
 rw[qar,zaaa];unfold qar_f;rw[h,Option.bind_some];dsimp only;rw[hp,Option.bind_some];dsimp only[okP];rw[zafd,zaqi p hn,zaoz p hn];unfold fin;simp only[bne_self_eq_false,cond_false,Option.bind_some];by_cases h1:maxEv (evP p) 0>16
 ·rw[if_pos h1,qm h1]; rfl
 ·rw[if_neg h1,qn h1,qf];by_cases h2:(cT p.threads:Int)>500
  ·rw[if_pos h2,qm h2]; rfl
  ·rw[if_neg h2,qn h2]; rfl
theorem zaow {t:List UInt8} {l:List Token} {a:Int} (h:qaj t=some (l,⟨0,0,[]⟩)) (hp:qaA l=some (.inr ⟨a⟩)) :
  qar t=some (rr ⟨[],[],[]⟩ ⟨40,a,[]⟩):=by
 rw[qar,zaaa];unfold qar_f;rw[h,Option.bind_some];dsimp only;rw[hp,Option.bind_some];rfl
theorem toks_len {t:List UInt8} {l:List Token} {e:Token} {f:Fault} (h:qaj t=some (l++[e],f)) (hf:f.code=0):e.kind=5/\(∀ x∈l,x.kind≠5)/\l.length<=4000/\f=⟨0,0,[]⟩:=by
 rcases zak4 t with ⟨f',h1,h2,_⟩|⟨rs,la,rfl,hra,hl,hT,h1⟩
 ·rw[h] at h1;simp only[qk,xa] at h1;rw[<-h1.2] at h2;exact absurd hf h2
 ·rw[h] at h1;simp only[qk,xa] at h1;obtain ⟨g1,g2⟩:=List.append_inj' h1.1 rfl;have g3:=(List.cons.inj g2).1;subst g1;refine ⟨by rw[g3],fun x hx=>((T_ok _ _ _ _ (qz _) (zae4 hra) hT).1 x hx).2.2.1,?_,h1.2⟩;have:=zazz hra hT;have:=zabl rs;omega
theorem zasb (t:List UInt8):(∃ f,qar t=some (rr ⟨[],[],[]⟩ f)/\f.code≠0) \/
  (∃ l e p,qaj t=some (l++[e],⟨0,0,[]⟩)/\e.kind=5/\(∀ x∈l,x.kind≠5)/\l.length<=4000/\qar t=some (rr p ⟨0,0,[]⟩)/\DP p (l.map core)/\maxEv (evP p) 0<=16/\(cT p.threads:Int)<=500):=by
 rcases zak4 t with ⟨f,h1,h2,_⟩|⟨rs,l,rfl,hra,hl,hT,h1⟩
 ·exact .inl ⟨f,zavr h1 h2,h2⟩
 obtain ⟨q1,q2,q3,_⟩:=toks_len h1 rfl;generalize (⟨5,[],0,((encs rs).length:Int)⟩:Token)=e at h1 q1;have hlen:(l++[e]).length<1000000:=by rw[qc,qe,qr]; omega
 obtain ⟨u,x,r,e1,e2,e3⟩:=zaro (l++[e]) ⟨l,e,rfl,q1⟩ hlen;rcases e3 with ⟨p,c,h3⟩|h3
 ·have h4:qaA (u++x::r)=_:=h3 u x r rfl rfl;rw[<-e1] at h4;have hd:=zaym q1 hlen h4 q2;have hs:=hd.size;rw[List.length_map] at hs;have h5:=zaq2 h1 h4 (by omega);unfold fin at h5;by_cases k1:maxEv (evP p) 0>16
  ·rw[if_pos k1] at h5;exact .inl ⟨_,h5,by decide⟩
  ·rw[if_neg k1] at h5;by_cases k2:(cT p.threads:Int)>500
   ·rw[if_pos k2] at h5;exact .inl ⟨_,h5,by decide⟩
   ·rw[if_neg k2] at h5;exact .inr ⟨l,e,p,h1,q1,q2,q3,h5,hd,by omega,by omega⟩
 ·have h4:qaA (u++x::r)=_:=h3 u x r rfl rfl;rw[<-e1] at h4;exact .inl ⟨_,zaow h1 h4,by simp⟩
end Lift.A4
namespace Lift.A3
open Go Go.RowKit Lift Go.IntWalk Lift.Fn
theorem zax7:∀ (k n:Nat) (x:TExpr),nE x<=k->k<n->k<=100000000->qa6_i n x=some (x.kind,x.num,x.name,x.args):=by
 intro k;induction k with
 |zero=>intro n x h; have:=nE_eq x; omega
 |succ k ih=>
  intro n x h hn hb;obtain ⟨n,rfl⟩:∃ q,n=q+1:=⟨n-1,by omega⟩;have hx:=nE_eq x;have hl:=zafa x.args;show qa6_f (qa6_i n) x=_;unfold qa6_f
  have hL := zacs (σ := List TExpr) x.args (fun r s => s.length + r.length = x.args.length) (fun r s => ((0 : Int), (0 : Int), ([] : List UInt8), x.kind, x.num, x.name, s ++ r))
   (fun m i s=>qa6_i3 (qa6_i n) m i x.kind x.num x.name x.args 0 0 [] x.kind x.num x.name s)
   (fun m i s h0 h hI=>by
    simp only[qa6_i3,qa6_t3,qn h,qf,xj])
   (fun m i s y r h0 h hy hm hI=>by
    have hy1:=zae8 hm;have hI':s.length+(y::r).length=x.args.length:=hI;simp only[qe] at hI';refine Or.inl ⟨s++[y],(by show (s++[y]).length+r.length=x.args.length; simp only[qc,qe,qr]; omega),?_,by simp⟩;simp only[qa6_i3,qa6_t3,qm h,qm h0,qg,hy,qa];rw[ih n y (by omega) (by omega) (by omega),qa,i64_in (i+1) (by omega)];simp only[qe,qr,zaaw];rw[qm (by omega),qg])
   fuel [] (by unfold fuel; omega) (by simp)
  rw[qa6_l3,zaaa,hL];rfl
theorem zasc (x:TExpr) (h:nE x<=100000000):qa6 x=some (x.kind,x.num,x.name,x.args):=by
 rw[qa6,zaaa,zax7 (nE x) fuel x (qz _) (by unfold fuel; omega) (by omega)]
theorem zayg:∀ (k n:Nat) (l:List TStmt),nSs l<=k->k<n->k<=100000000->qa7_i n l=some l:=by
 intro k;induction k with
 |zero=>
  intro n l h hn _;obtain ⟨n,rfl⟩:∃ q,n=q+1:=⟨n-1,by omega⟩;have hl:=zacj l;obtain rfl:l=[]:=qt (by omega);show qa7_f (qa7_i n) []=_;unfold qa7_f;rw[qa7_l3,zaaa];rfl
 |succ k ih=>
  intro n l h hn hb;obtain ⟨n,rfl⟩:∃ q,n=q+1:=⟨n-1,by omega⟩;have hl:=zacj l;show qa7_f (qa7_i n) l=_;unfold qa7_f
  have hL := zacs (σ := List TStmt) l (fun r s => s.length + r.length = l.length) (fun r s => s ++ r)
   (fun m i s=>qa7_i3 (qa7_i n) m l i s)
   (fun m i s h0 h hI=>by
    simp only[qa7_i3,qa7_t3,qn h,qf,xj])
   (fun m i s y r h0 h hy hm hI=>by
    have hy1:=zaed hm;have hy2:=nS_eq y;have hI':s.length+(y::r).length=l.length:=hI;simp only[qe] at hI';refine Or.inl ⟨s++[y],(by show (s++[y]).length+r.length=l.length; simp only[qc,qe,qr]; omega),?_,by simp⟩;simp only[qa7_i3,qa7_t3,qm h,qm h0,hy,qa,zaaw,qg];rw[ih n y.then_ (by omega) (by omega) (by omega),ih n y.else_ (by omega) (by omega) (by omega),zasc y.expr (by omega),i64_in (i+1) (by omega)];simp only[qa,qe,qr,zaaw,zajs];rw[qm (by omega),qg])
   fuel [] (by unfold fuel; omega) (by simp)
  rw[qa7_l3,zaaa,hL];rfl
theorem zaz2 (p:TProg) (h:nT p.threads<=100000000) (h1:p.cells.length<=100000000) (h2:p.mutexes.length<=100000000) :
  qa5 p=some (p.cells,p.mutexes,p.threads):=by
 rw[qa5,zaaa];unfold qa5_f;have hl:=zafk p.threads
 have hL := zacs (σ := List TThread) p.threads (fun r s => s.length + r.length = p.threads.length) (fun r s => (p.cells, p.mutexes, s ++ r))
   (fun m i s=>qa5_i5 m i p.cells p.mutexes p.threads p.cells p.mutexes s)
   (fun m i s h0 h hI=>by
    simp only[qa5_i5,qa5_t5,qn h,qf,xj])
   (fun m i s y r h0 h hy hm hI=>by
    have hy1:=zafn hm;have hI':s.length+(y::r).length=p.threads.length:=hI;simp only[qe] at hI';refine Or.inl ⟨s++[y],(by show (s++[y]).length+r.length=p.threads.length; simp only[qc,qe,qr]; omega),?_,by simp⟩;simp only[qa5_i5,qa5_t5,qm h,qm h0,hy,qa,qg];rw[qa7,zaaa,zayg (nSs y.body) fuel y.body (qz _) (by unfold fuel; omega) (by omega),qa,i64_in (i+1) (by omega)];simp only[qe,qr];rw[qm (by omega),qg])
   fuel [] (by unfold fuel; omega) (by simp)
 rw[qm (by omega),qg,qm (by omega),qg,qa5_l5,zaaa,hL];rfl
def two {α:Type} (f:α->α->Bool):List α->List α->Bool
 |[],[]=>true
 |x::l,y::r=>f x y&&two f l r
 |_,_=>false
theorem zaha {α:Type} (f:α->α->Bool):∀ (l r:List α),l.length≠r.length->two f l r=false
 |[],[],h=>absurd rfl h
 |[],_::_,_=>rfl
 |_::_,[],_=>rfl
 |x::l,y::r,h=>by
  rw[two,zaha f l r (by simpa using h),Bool.and_false]
theorem zatd {α : Type} (f : α -> α -> Bool) : ∀ (l r : List α), l.length = r.length -> two f l r = (l.zip r).all fun p => f p.1 p.2
 |[],[],h=>rfl
 |x::l,y::r,h=>by
  rw[two,zatd f l r (by simpa using h),List.zip_cons_cons,xv]
theorem zah2 {α:Type} (f:α->α->Bool):∀ (l:List α),(∀ x∈l,f x x=true)->two f l l=true
 |[],h=>rfl
 |x::l,h=>by
  rw[two,h x (by simp),zah2 f l (fun y hy=>h y (by simp[hy]))];rfl
theorem zahl {α τ:Type} (f:α->α->Bool) (l r:List α) (e:τ) (L:Nat->Int->Option (Bool⊕τ)) (hlen:l.length=r.length)
  (h0:∀ n i,0<=i->¬ i<(l.length:Int)->L (n+1) i=some (.inr e))
  (h1:∀ n i x y,0<=i->i<(l.length:Int)->l[i.toNat]? = some x->r[i.toNat]? = some y->x∈l->y∈r->L (n+1) i=bif f x y then L n (i+1) else some (.inl false))
  (n:Nat) (hn:l.length<n):L n 0=some (bif two f l r then .inr e else .inl false):=by
 have hz:(l.zip r).length=l.length:=by rw[List.length_zip]; omega
 have := zacs (σ := Unit) (l.zip r) (fun _ _ => True) (fun q _ => (bif q.all fun p => f p.1 p.2 then .inr e else .inl false : Bool ⊕ τ)) (fun m i _ => L m i)
  (fun m i s h h' _=>h0 m i h (by rw[<-hz]; exact h'))
  (fun m i s p q h h' hp hm _=>by
   obtain ⟨x,y⟩:=p;obtain ⟨e1,e2⟩:=List.getElem?_zip_eq_some.1 hp;have:=h1 m i x y h (by rw[<-hz]; exact h') e1 e2 (List.mem_of_getElem? e1) (List.mem_of_getElem? e2);cases hf:f x y with
   |true=>
    rw[hf,qg] at this;exact Or.inl ⟨(),trivial,this,by rw[xv,hf,Bool.true_and]⟩
   |false=>
    rw[hf,qf] at this;refine Or.inr ?_;rw[xv,hf,Bool.false_and];exact this)
  n () (by omega) trivial
 rw[zatd f l r hlen];exact this
mutual
def sE:TExpr->TExpr->Bool
 |⟨k,n,m,l⟩,⟨k',n',m',l'⟩=>k==k'&&(n==n'&&(m==m'&&sEs l l'))
def sEs:List TExpr->List TExpr->Bool
 |[],[]=>true
 |x::l,y::r=>sE x y&&sEs l r
 |_,_=>false
end
theorem zats:∀ l r,sEs l r=two sE l r
 |[],[]=>by simp[sEs,two]
 |[],_::_=>by simp[sEs,two]
 |_::_,[]=>by simp[sEs,two]
 |x::l,y::r=>by rw[sEs,two,zats l r]
theorem sE_eq (x y:TExpr):sE x y=(x.kind==y.kind&&(x.num==y.num&&(x.name==y.name&&two sE x.args y.args))):=by
 cases x; cases y; rw[sE,zats]
mutual
def sS:TStmt->TStmt->Bool
 |⟨k,r,m,x,c,t,o⟩,⟨k',r',m',x',c',t',o'⟩=>k==k'&&(r==r'&&(m==m'&&(c==c'&&(sE x x'&&(sSs t t'&&sSs o o')))))
def sSs:List TStmt->List TStmt->Bool
 |[],[]=>true
 |x::l,y::r=>sS x y&&sSs l r
 |_,_=>false
end
theorem zaol:∀ l r,sSs l r=two sS l r
 |[],[]=>by simp[sSs,two]
 |[],_::_=>by simp[sSs,two]
 |_::_,[]=>by simp[sSs,two]
 |x::l,y::r=>by rw[sSs,two,zaol l r]
theorem sS_eq (x y:TStmt):sS x y=(x.kind==y.kind&&(x.reg==y.reg&&(x.name==y.name&&(x.count==y.count&&(sE x.expr y.expr&&(two sS x.then_ y.then_&&two sS x.else_ y.else_)))))):=by
 cases x; cases y; rw[sS,zaol,zaol]
def sT (x y:TThread):Bool:=x.name==y.name&&two sS x.body y.body
def sP (p q:TProg):Bool:=two (fun x y=>decide (x=y)) p.cells q.cells&&(two (fun x y=>x==y) p.mutexes q.mutexes&&two sT p.threads q.threads)
mutual
theorem zatp:∀ x,sE x x=true
 |⟨k,n,m,l⟩=>by rw[sE,zap8 l]; simp
theorem zap8:∀ l,sEs l l=true
 |[]=>by rw[sEs]
 |x::l=>by rw[sEs,zatp x,zap8 l]; rfl
end
mutual
theorem zatc:∀ x,sS x x=true
 |⟨k,r,m,x,c,t,o⟩=>by rw[sS,zamr t,zamr o,zatp x]; simp
theorem zamr:∀ l,sSs l l=true
 |[]=>by rw[sSs]
 |x::l=>by rw[sSs,zatc x,zamr l]; rfl
end
theorem zazu (x:TThread):sT x x=true:=by
 rw[sT,zah2 sS _ (fun y _=>zatc y)];simp
theorem zazd (p:TProg):sP p p=true:=by
 rw[sP,zah2 sT _ (fun y _=>zazu y),zah2 _ _ (fun y _=>by simp),zah2 _ _ (fun y _=>by simp)];rfl
theorem zaxq:∀ (k n:Nat) (x y:TExpr),nE x<=k->k<n->k<=100000000->qbd_i n x y=some (sE x y):=by
 intro k;induction k with
 |zero=>intro n x y h; have:=nE_eq x; omega
 |succ k ih=>
  intro n x y h hn hb;obtain ⟨n,rfl⟩:∃ q,n=q+1:=⟨n-1,by omega⟩;have hx:=nE_eq x;have hl:=zafa x.args;show qbd_f (qbd_i n) x y=_;unfold qbd_f;rw[sE_eq];cases h1:x.kind==y.kind with
  |false=>simp[bne,h1]
  |true=>
  cases h2:x.num==y.num with
  |false=>simp[bne,h1,h2]
  |true=>
  cases h3:x.name==y.name with
  |false=>simp[bne,h1,h2,h3]
  |true=>
  by_cases h4:x.args.length=y.args.length
  ·have h4':((x.args.length:Int)==(y.args.length:Int))=true:=by rw[h4]; simp
   simp only[bne,h1,h2,h3,h4',xf,qf,qa,Bool.true_and]
   have hL := zahl sE x.args y.args () (fun m i => qbd_i4 (qbd_i n) m i x.kind x.num x.name x.args y.kind y.num y.name y.args) h4
    (fun m i h0 h=>by
     simp only[qbd_i4,qbd_t4,qn h,qf])
    (fun m i a b h0 h ha hb' ma mb=>by
     have:=zae8 ma;simp only[qbd_i4,qbd_t4,qm h,qm h0,qg,ha,hb',qa];rw[ih n a b (by omega) (by omega) (by omega),qa,i64_in (i+1) (by omega)];cases sE a b<;>rfl)
    fuel (by unfold fuel; omega)
   rw[qbd_l4,zaaa,hL];cases two sE x.args y.args<;>rfl
  ·have h4':((x.args.length:Int)==(y.args.length:Int))=false:=by
    rw[beq_eq_false_iff_ne]; omega
   simp only[bne,h1,h2,h3,h4',xf,xd,qf,qg,qa,Bool.true_and];rw[zaha sE _ _ h4]
theorem zasd (x y:TExpr) (h:nE x<=100000000):qbd x y=some (sE x y):=by
 rw[qbd,zaaa,zaxq (nE x) fuel x y (qz _) (by unfold fuel; omega) (by omega)]
theorem zax6:∀ (k n:Nat) (l r:List TStmt),nSs l<=k->k<n->k<=100000000->qbg_i n l r=some (two sS l r):=by
 intro k;induction k with
 |zero=>
  intro n l r h hn hb;obtain ⟨n,rfl⟩:∃ q,n=q+1:=⟨n-1,by omega⟩;have hl:=zacj l;obtain rfl:l=[]:=qt (by omega);show qbg_f (qbg_i n) [] r=_;unfold qbg_f;cases r with
  |nil=>
   rw[qbg_l4,zaaa];rfl
  |cons y r=>
   have h4':((([]:List TStmt).length:Int)==((y::r).length:Int))=false:=by
    rw[beq_eq_false_iff_ne]; simp only[qe,qr]; omega
   simp only[bne,h4',xd,qg,two]
 |succ k ih=>
  intro n l r h hn hb;obtain ⟨n,rfl⟩:∃ q,n=q+1:=⟨n-1,by omega⟩;have hl:=zacj l;show qbg_f (qbg_i n) l r=_;unfold qbg_f;by_cases h4:l.length=r.length
  ·have h4':((l.length:Int)==(r.length:Int))=true:=by rw[h4]; simp
   simp only[bne,h4',xf,qf]
   have hL := zahl sS l r () (fun m i => qbg_i4 (qbg_i n) m l r i) h4
    (fun m i h0 h=>by
     simp only[qbg_i4,qbg_t4,qn h,qf])
    (fun m i a b h0 h ha hb' ma mb=>by
     have h5:=zaed ma;have h6:=nS_eq a;simp only[qbg_i4,qbg_t4,qm h,qm h0,qg,ha,hb',qa,zaaw];rw[ih n a.then_ b.then_ (by omega) (by omega) (by omega),ih n a.else_ b.else_ (by omega) (by omega) (by omega),zasd a.expr b.expr (by omega),i64_in (i+1) (by omega),sS_eq];simp only[qa,bne];cases (a.kind==b.kind) with
     |false=>rfl
     |true=>
     cases (a.reg==b.reg) with
     |false=>rfl
     |true=>
     cases (a.name==b.name) with
     |false=>rfl
     |true=>
     cases (a.count==b.count) with
     |false=>rfl
     |true=>
     cases sE a.expr b.expr with
     |false=>rfl
     |true=>
     cases two sS a.then_ b.then_ with
     |false=>rfl
     |true=>
     cases two sS a.else_ b.else_<;>rfl)
    fuel (by unfold fuel; omega)
   rw[qbg_l4,zaaa,hL];cases two sS l r<;>rfl
  ·have h4':((l.length:Int)==(r.length:Int))=false:=by
    rw[beq_eq_false_iff_ne]; omega
   simp only[bne,h4',xd,qg];rw[zaha sS _ _ h4]
theorem zayx (p q:TProg) (h:nT p.threads<=100000000) (h1:p.cells.length<=100000000) (h2:p.mutexes.length<=100000000) :
  qbc p q=some (sP p q):=by
 rw[qbc,zaaa];unfold qbc_f;have hl:=zafk p.threads;rw[sP];by_cases l1:p.cells.length=q.cells.length
 ·have l1':((p.cells.length:Int)==(q.cells.length:Int))=true:=by rw[l1]; simp
  by_cases l2:p.mutexes.length=q.mutexes.length
  ·have l2':((p.mutexes.length:Int)==(q.mutexes.length:Int))=true:=by rw[l2]; simp
   by_cases l3:p.threads.length=q.threads.length
   ·have l3':((p.threads.length:Int)==(q.threads.length:Int))=true:=by rw[l3]; simp
    simp only[bne,l1',l2',l3',xf,qf,qa]
    have hL1 := zahl (fun x y => decide (x = y)) p.cells q.cells (p.cells, p.mutexes, p.threads, q.cells, q.mutexes, q.threads) (fun m i => qbc_i4 m i p.cells p.mutexes p.threads q.cells q.mutexes q.threads) l1
     (fun m i h0 h=>by
      simp only[qbc_i4,qbc_t4,qn h,qf])
     (fun m i a b h0 h ha hb' ma mb=>by
      simp only[qbc_i4,qbc_t4,qm h,qm h0,qg,ha,hb',qa];rw[i64_in (i+1) (by omega)];cases decide (a=b)<;>rfl)
     fuel (by unfold fuel; omega)
    have hL2 := zahl (fun x y => x == y) p.mutexes q.mutexes (p.cells, p.mutexes, p.threads, q.cells, q.mutexes, q.threads) (fun m i => qbc_i9 m i p.cells p.mutexes p.threads q.cells q.mutexes q.threads) l2
     (fun m i h0 h=>by
      simp only[qbc_i9,qbc_t9,qn h,qf])
     (fun m i a b h0 h ha hb' ma mb=>by
      simp only[qbc_i9,qbc_t9,qm h,qm h0,qg,ha,hb',qa];rw[i64_in (i+1) (by omega)];cases (a==b)<;>rfl)
     fuel (by unfold fuel; omega)
    have hL3 := zahl sT p.threads q.threads () (fun m i => qbc_i14 m i p.cells p.mutexes p.threads q.cells q.mutexes q.threads) l3
     (fun m i h0 h=>by
      simp only[qbc_i14,qbc_t14,qn h,qf])
     (fun m i a b h0 h ha hb' ma mb=>by
      have h5:=zafn ma;simp only[qbc_i14,qbc_t14,qm h,qm h0,qg,ha,hb',qa];rw[qbg,zaaa,zax6 (nSs a.body) fuel a.body b.body (qz _) (by unfold fuel; omega) (by omega),i64_in (i+1) (by omega),sT,qa];cases (a.name==b.name) with
      |false=>rfl
      |true=>cases two sS a.body b.body<;>rfl)
     fuel (by unfold fuel; omega)
    rw[qbc_l4,zaaa,hL1];cases two (fun x y=>decide (x=y)) p.cells q.cells with
    |false=>rfl
    |true=>
    simp only[qg,qa];rw[qbc_l9,zaaa,hL2];cases two (fun x y=>x==y) p.mutexes q.mutexes with
    |false=>rfl
    |true=>
    simp only[qg,qa];rw[qbc_l14,zaaa,hL3];cases two sT p.threads q.threads<;>rfl
   ·have l3':((p.threads.length:Int)==(q.threads.length:Int))=false:=by
     rw[beq_eq_false_iff_ne]; omega
    simp only[bne,l1',l2',l3',xf,xd,qf,qg,qa];rw[zaha sT _ _ l3,Bool.and_false,Bool.and_false]
  ·have l2':((p.mutexes.length:Int)==(q.mutexes.length:Int))=false:=by
    rw[beq_eq_false_iff_ne]; omega
   simp only[bne,l1',l2',xf,xd,qf,qg,qa];rw[zaha (fun x y=>x==y) _ _ l2,Bool.false_and,Bool.and_false]
 ·have l1':((p.cells.length:Int)==(q.cells.length:Int))=false:=by
   rw[beq_eq_false_iff_ne]; omega
  simp only[bne,l1',xd,qg,qa];rw[zaha (fun x y=>decide (x=y)) _ _ l1,Bool.false_and]
theorem zauv (t:List UInt8):∃ b,qbR t=some b:=by
 obtain ⟨f,l,e,hl⟩:=Lift.A1P.tokens_any t;rw[qbR,zaaa];unfold qbR_f;rw[e];cases decide (((t.length:Nat):Int)>64) with
 |true=>exact ⟨false,rfl⟩
 |false=>
 simp only[qf,qa];cases f.code==0 with
 |false=>exact ⟨false,rfl⟩
 |true=>
 match l with
 |[]=>exact ⟨false,rfl⟩
 |[a]=>exact ⟨false,rfl⟩
 |a::b::c::l=>
  have:((((a::b::c::l:List Token).length:Nat):Int)==2)=false:=by
   rw[beq_eq_false_iff_ne]; simp only[qe]; omega
  rw[this];exact ⟨false,rfl⟩
 |[a,b]=>
  have:((([a,b]:List Token).length:Int)==2)=true:=rfl;simp only[this,qg,qa];have h2:(decide ((0:Int)<=0)&&decide ((0:Int)<(([a,b]:List Token).length:Int)))=true:=rfl;simp only[h2,qg,List.getElem?_cons_zero,qa];cases (a.kind==1) with
  |false=>exact ⟨false,rfl⟩
  |true=>exact ⟨a.text==t,rfl⟩
noncomputable def isNm (t:List UInt8):Bool:=(qbR t).getD false
theorem zai1 (t:List UInt8):qbR t=some (isNm t):=by
 obtain ⟨b,e⟩:=zauv t;rw[isNm,e];rfl
theorem zadl {α:Type} (c:Bool) (a b:α):(bif c then some a else some b)=some (bif c then a else b):=by cases c<;>rfl
theorem cand (a b:Bool):(bif a then b else false)=(a&&b):=by cases a<;>rfl
theorem cor (a b:Bool):(bif a then true else b)=(a||b):=by cases a<;>rfl
noncomputable def xOk (x:TExpr):Bool:=
 bif x.kind==1 then ((decide (x.num>=0)&&decide (x.num<=2147483647))&&x.name==[])&&((x.args.length:Int)==0)
 else bif x.kind==2 then (isNm x.name&&x.num==0)&&((x.args.length:Int)==0)
 else bif (x.kind==3||x.kind==4) then (((decide (x.kind>=3)&&decide (x.kind<=17))&&((x.args.length:Int)==1))&&x.num==0)&&x.name==[]
 else (((decide (x.kind>=3)&&decide (x.kind<=17))&&((x.args.length:Int)==2))&&x.num==0)&&x.name==[]
theorem zazs (x:TExpr):qbM x=some (xOk x):=by
 rw[qbM,zaaa];unfold qbM_f xOk;simp only[zai1,zadl,qa,cand,cor]
mutual
noncomputable def eF:TExpr->Bool
 |⟨k,n,m,l⟩=>xOk ⟨k,n,m,l⟩&&eFs l
noncomputable def eFs:List TExpr->Bool
 |[]=>true
 |x::l=>eF x&&eFs l
end
theorem zaty:∀ l,eFs l=l.all eF
 |[]=>by rw[eFs]; rfl
 |x::l=>by rw[eFs,xv,zaty l]
theorem eF_eq (x:TExpr):eF x=(xOk x&&x.args.all eF):=by cases x; rw[eF,zaty]
def shs:List (Int×Shape):=(zaau (11:Int) (Shape.mk false false false true true false) (zaau (10:Int) (Shape.mk false false true false true true) (zaau (9:Int) (Shape.mk false false true false false false) (zaau (8:Int) (Shape.mk false true false false false false) (zaau (7:Int) (Shape.mk false true false false false false) (zaau (6:Int) (Shape.mk false true false false false false) (zaau (5:Int) (Shape.mk false true false false false false) (zaau (4:Int) (Shape.mk true true true false false false) (zaau (3:Int) (Shape.mk false true true false false false) (zaau (2:Int) (Shape.mk true true false false false false) (zaau (1:Int) (Shape.mk true false true false false false) [])))))))))))
def shp (k:Int):Shape:=Option.getD (mapAt shs k) (Shape.mk false false false false false false)
def inR (k:Int):Bool:=!(decide (k<1)||decide (k>11))
theorem zazm:qbS=some shs:=by rw[qbS,zaaa]; rfl
theorem zax8 (k:Int):Option.isSome (mapAt shs k)=inR k:=by
 by_cases h:1<=k/\k<=11
 ·obtain ⟨h1,h2⟩:=h;have:k=1\/k=2\/k=3\/k=4\/k=5\/k=6\/k=7\/k=8\/k=9\/k=10\/k=11:=by omega
  rcases this with rfl|rfl|rfl|rfl|rfl|rfl|rfl|rfl|rfl|rfl|rfl<;>decide
 ·have e:inR k=false:=by
   unfold inR;rw[Bool.not_eq_false',Bool.or_eq_true,qj,qj];omega
  rw[e];have hs:shs=[(1,Shape.mk true false true false false false),(2,Shape.mk true true false false false false),(3,Shape.mk false true true false false false),(4,Shape.mk true true true false false false),(5,Shape.mk false true false false false false),(6,Shape.mk false true false false false false),(7,Shape.mk false true false false false false),(8,Shape.mk false true false false false false),(9,Shape.mk false false true false false false),(10,Shape.mk false false true false true true),(11,Shape.mk false false false true true false)]:=by decide
  have n:∀ c:Int,1<=c->c<=11->(c==k)=false:=by
   intro c h1 h2;rw[beq_eq_false_iff_ne];omega
  rw[hs];unfold mapAt;simp[List.find?_cons,n]
def none_ (x:TExpr):Bool:=((x.kind==0&&x.num==0)&&x.name==[])&&((x.args.length:Int)==0)
noncomputable def isOpt (t:List UInt8) (b:Bool):Bool:=(b&&isNm t)||(!b&&t==[])
theorem is1 (t:List UInt8) (b:Bool):qbQ t b=some (isOpt t b):=by
 rw[qbQ,zaaa];unfold qbQ_f isOpt;simp only[zai1,zadl,qa,cand,cor]
noncomputable def sOk (y:TStmt):Bool:=
 ((((((inR y.kind&&isOpt y.reg (shp y.kind).reg)&&isOpt y.name (shp y.kind).name)&&(((shp y.kind).expr&&y.expr.kind != 0)||(!(shp y.kind).expr&&none_ y.expr))) &&
  (y.count==0||(((shp y.kind).count&&decide (y.count>0))&&decide (y.count<=1000))))&&((shp y.kind).then_||((y.then_.length:Int)==0)))&&((shp y.kind).other||((y.else_.length:Int)==0)))
theorem zay2 (y:TStmt):qbT y=some (sOk y):=by
 rw[qbT,zaaa];unfold qbT_f sOk;simp only[zazm,is1,zadl,qa,cand,cor,zax8];rfl
mutual
noncomputable def sF:TStmt->Bool
 |⟨k,r,m,x,c,t,o⟩=>sOk ⟨k,r,m,x,c,t,o⟩&&((if zaa8 x then eF x else true)&&(sFs t&&sFs o))
noncomputable def sFs:List TStmt->Bool
 |[]=>true
 |x::l=>sF x&&sFs l
end
theorem sF_eq (y:TStmt):sF y=(sOk y&&((if zaa8 y.expr then eF y.expr else true)&&(sFs y.then_&&sFs y.else_))):=by cases y; rw[sF]
noncomputable def evOk:Ev->Bool
 |.s x _=>sOk x
 |.e x _=>xOk x
mutual
theorem evOkE:∀ (x:TExpr) (d:Int),(evE x d).all evOk=eF x
 |⟨k,n,m,l⟩,d=>by rw[evE,xv,zawh l (d+1),eF]; rfl
theorem zawh:∀ (l:List TExpr) (d:Int),(evEs l d).all evOk=eFs l
 |[],d=>by rw[evEs,eFs]; rfl
 |x::l,d=>by rw[evEs,List.all_append,evOkE x d,zawh l d,eFs]
end
mutual
theorem evOkS:∀ (x:TStmt) (d:Int),(evS x d).all evOk=sF x
 |⟨k,r,m,x,c,t,o⟩,d=>by
  rw[evS,xv,List.all_append,List.all_append,zam3 t (d+1),zam3 o (d+1),sF];cases zaa8 x with
  |true=>rw[if_pos rfl,if_pos rfl,evOkE]; rfl
  |false=>rw[if_neg (by simp),if_neg (by simp)]; rfl
theorem zam3:∀ (l:List TStmt) (d:Int),(evSs l d).all evOk=sFs l
 |[],d=>by rw[evSs,sFs]; rfl
 |x::l,d=>by rw[evSs,List.all_append,evOkS x d,zam3 l d,sFs]
end
theorem zaov : ∀ (l : List Ev) (b : Bool), l.foldlM (atEv (fun (x : TStmt) (d : Int) (s : Bool) => qbO x d s) (fun (x : TExpr) (d : Int) (s : Bool) => qbP x d s)) b = some (b && l.all evOk)
 |[],b=>by simp
 |e::l,b=>by
  have e1:atEv (fun (x:TStmt) (d:Int) (s:Bool)=>qbO x d s) (fun (x:TExpr) (d:Int) (s:Bool)=>qbP x d s) b e=some (b&&evOk e):=by
   cases e with
   |s x d=>show qbO x d b=_; rw[qbO,zaaa]; unfold qbO_f; simp only[zag7,zay2,zadl,qa,cand]; rfl
   |e x d=>show qbP x d b=_; rw[qbP,zaaa]; unfold qbP_f; simp only[zaaw,zazs,zadl,qa,cand]; rfl
  rw[List.foldlM_cons,e1];show List.foldlM _ (b&&evOk e) l=_;rw[zaov l _,xv,Bool.and_assoc]
noncomputable def cOk (c:TCell):Bool:=(isNm c.name&&decide (c.init>=-2147483647))&&decide (c.init<=2147483647)
noncomputable def pOk (p:TProg):Bool:=p.cells.all cOk&&(p.mutexes.all isNm&&p.threads.all fun t=>isNm t.name&&sFs t.body)
theorem zaoy {α : Type} (f g : α -> Bool) : ∀ l : List α, (l.all fun t => f t && g t) = (l.all f && l.all g)
 |[]=>rfl
 |x::l=>by
  rw[xv,xv,xv,zaoy f g l];cases f x<;>cases g x<;>cases l.all f<;>rfl
theorem zayv (p:TProg) (h:nT p.threads<=100000000) (h1:p.cells.length<=100000000) (h2:p.mutexes.length<=100000000):qbN p=some (pOk p):=by
 rw[qbN,zaaa];unfold qbN_f;have hl:=zafk p.threads
 have e1 := zacs (σ := Bool) p.cells (fun _ _ => True) (fun r s => (p.cells, p.mutexes, p.threads, s && r.all cOk)) (fun m i s => qbN_i3 m p.cells p.cells.length i p.cells p.mutexes p.threads s)
  (fun m i s h0 h hI=>by simp only[qbN_i3,qbN_t3,qn h,qf,List.all_nil,Bool.and_true])
  (fun m i s y r h0 h hy hm hI=>by
   refine Or.inl ⟨s&&cOk y,trivial,?_,by rw[xv,Bool.and_assoc]⟩;simp only[qbN_i3,qbN_t3,qm h,qm h0,hy,qa,qg,zai1,zadl,cand];rw[i64_in (i+1) (by omega),cOk,Bool.and_assoc,Bool.and_assoc,Bool.and_assoc])
  fuel true (by unfold fuel; omega) trivial
 have e2 := fun s => zacs (σ := Bool) p.mutexes (fun _ _ => True) (fun r s => (p.cells, p.mutexes, p.threads, s && r.all isNm)) (fun m i s => qbN_i8 m p.mutexes p.mutexes.length i p.cells p.mutexes p.threads s)
  (fun m i s h0 h hI=>by simp only[qbN_i8,qbN_t8,qn h,qf,List.all_nil,Bool.and_true])
  (fun m i s y r h0 h hy hm hI=>by
   refine Or.inl ⟨s&&isNm y,trivial,?_,by rw[xv,Bool.and_assoc]⟩;simp only[qbN_i8,qbN_t8,qm h,qm h0,hy,qa,qg,zai1,zadl,cand];rw[i64_in (i+1) (by omega)])
  fuel s (by unfold fuel; omega) trivial
 have e3 := fun s => zacs (σ := Bool) p.threads (fun _ _ => True) (fun r s => (p.cells, p.mutexes, p.threads, s && r.all fun t => isNm t.name)) (fun m i s => qbN_i13 m p.threads p.threads.length i p.cells p.mutexes p.threads s)
  (fun m i s h0 h hI=>by simp only[qbN_i13,qbN_t13,qn h,qf,List.all_nil,Bool.and_true])
  (fun m i s y r h0 h hy hm hI=>by
   refine Or.inl ⟨s&&isNm y.name,trivial,?_,by rw[xv,Bool.and_assoc]⟩;simp only[qbN_i13,qbN_t13,qm h,qm h0,hy,qa,qg,zai1,zadl,cand];rw[i64_in (i+1) (by omega)])
  fuel s (by unfold fuel; omega) trivial
 rw[qbN_l3,zaaa,e1,qa];simp only;rw[qbN_l8,zaaa,e2,qa];simp only;rw[qbN_l13,zaaa,e3,qa];simp only[zafd];rw[wP p _ (by omega),zaov];have ef:(evP p).all evOk=p.threads.all fun t=>sFs t.body:=by
  unfold evP;generalize p.threads=l;induction l with
  |nil=>rfl
  |cons t l ih=>rw[List.flatMap_cons,List.all_append,ih,xv,zam3]
 rw[ef,pOk,zaoy];cases p.cells.all cOk<;>cases p.mutexes.all isNm<;>cases p.threads.all (fun t=>isNm t.name)<;>cases p.threads.all (fun t=>sFs t.body)<;>rfl
noncomputable def zano (p:TProg):Int:=
 bif !pOk p then 30 else bif decide (maxEv (evP p) 0>16) then 31 else bif decide ((cT p.threads:Int)>500) then 32 else 0
theorem zavu (p:TProg) (h:nT p.threads<=100000000) (h1:p.cells.length<=100000000) (h2:p.mutexes.length<=100000000):qbL p=some (zano p):=by
 rw[qbL,zaaa];unfold qbL_f zano;rw[zafd,zayv p h h1 h2,zaqi p (by omega),zaoz p (by omega)];simp only[qa,zadl]
end Lift.A3
namespace Lift.A4
open Go Go.RowKit Lift Go.IntWalk Lift.Fn Lift.A1P Lift.A3
def brk (w r:List Int):Prop:=match r with
 |[]=>True
 |c::_=>(goesR (w.headD 0)=true->goesR c=false)/\(goesR (w.headD 0)=false->∀ b∈ones,encs w=[b]->twos.contains [b,(encB c).headD 0]=false)
inductive LX:List Int->List Tk->Prop
 |nil:LX [] []
 |sp {c:Int} {r:List Int} {l:List Tk}:Sp.blank c=true->LX r l->LX (c::r) l
 |tk {w r:List Int} {t:Token} {l:List Tk}:whole w t->brk w r->LX r l->LX (w++r) (core t::l)
theorem LX.rune {rs:List Int} {l:List Tk} (h:LX rs l):rs.all Sp.isRune=true:=by
 induction h with
 |nil=>rfl
 |sp hb _ ih=>
  rw[xv,ih,Bool.and_true];simp only[Sp.blank,qj] at hb;simp only[Sp.isRune,qj];omega
 |tk hw _ _ ih=>rw[List.all_append,hw.2.1,ih]; rfl
theorem LX.toks {rs:List Int} {l:List Tk} (h:LX rs l) (p:Int):∃ m,T p (skip false rs)=.inr m/\m.map core=l:=by
 induction h generalizing p with
 |nil=>exact ⟨[],T_nil p,rfl⟩
 |@sp c r l hb hr ih=>
  have:skip false (c::r)=skip false r:=by
   simp only[skip];by_cases h35:c=35
   ·subst h35; exact absurd hb (by decide)
   ·rw[if_neg h35,if_pos hb]
  rw[this];exact ih p
 |@tk w r t l hw hb hr ih=>
  rw[zay6 hw];have hall:(w++r).all Sp.isRune=true:=by rw[List.all_append,hw.2.1,hr.rune]; rfl
  have key:tokR (w++r)=(t,0)/\restR (w++r)=r:=by
   cases r with
   |nil=>rw[xj]; exact ⟨hw.2.2.1,zauy hw⟩
   |cons c r=>exact zay7 hw c r hb.1 hb.2
  obtain ⟨a,w',rfl⟩:∃ a w',w=a::w':=List.exists_cons_of_ne_nil hw.1;rw[qp] at key hall ⊢;rw[zai9 p a (w'++r) hall,key.1,key.2];obtain ⟨m,h1,h2⟩:=ih (p+((encs (a::(w'++r))).length:Int)-(encs (skip false r)).length);refine ⟨⟨t.kind,t.text,t.num,p⟩::m,?_,?_⟩
  ·rw[h1]; rfl
  ·rw[xn,h2]; rfl
def LB (s:List UInt8) (l:List Tk):Prop:=∃ rs,encs rs=s/\LX rs l
theorem LB.lex {s:List UInt8} {l:List Tk} (h:LB s l) (hl:s.length<=4000):∃ m e,qaj s=some (m++[e],⟨0,0,[]⟩)/\m.map core=l:=by
 obtain ⟨rs,rfl,h⟩:=h;obtain ⟨m,h1,h2⟩:=h.toks 0;obtain ⟨k,h3,h4,_⟩:=zax5 h.rune hl h1;exact ⟨k,_,h3,by rw[h4,h2]⟩
theorem zaq9 {w:List Int} {u:Token} (h:whole w u) (hk:u.kind=1):core u=(1,encs w,0)/\w.length<=16/\goesR (w.headD 0)=true:=by
 have h3:=h.2.2.1;unfold tokR at h3;cases hg:goesR (w.headD 0) with
 |false=>
  rw[hg,qf] at h3;cases hs:(sgn (encs w)==[]) with
  |true=>rw[hs] at h3; simp at h3
  |false=>
   rw[hs] at h3;simp only[qf,xa,and_true] at h3;rw[<-h3] at hk;exact absurd hk (by simp)
 |true=>
  rw[zajt h hg,hg,qg] at h3;cases hd:Sp.digit (w.headD 0) with
  |true=>
   rw[hd,qg] at h3;cases hn:(numS (encs w)).2 with
   |true=>
    rw[hn] at h3;simp only[qg,xa,and_true] at h3;rw[<-h3] at hk;exact absurd hk (by simp)
   |false=>rw[hn] at h3; simp at h3
  |false=>
   rw[hd,qf] at h3;cases hw:words.contains (encs w) with
   |true=>
    rw[hw] at h3;simp only[qg,xa,and_true] at h3;rw[<-h3] at hk;exact absurd hk (by simp)
   |false=>
    rw[hw,qf] at h3;by_cases hl:16<w.length
    ·rw[qm hl] at h3; simp at h3
    ·rw[qn hl] at h3;simp only[qf,xa,and_true] at h3;rw[<-h3];exact ⟨rfl,by omega,rfl⟩
theorem zavd (c:UInt8) (r:List UInt8) (hc:48<=c.toNat/\c.toNat<=57) (h:(numS (c::r)).2=true):0<=(numS (c::r)).1/\(numS (c::r)).1<=2147483647:=by
 unfold numS at h ⊢;by_cases h1:1<(c::r).length/\((c::r).headD 0).toNat=48
 ·rw[if_pos h1] at h; cases h
 rw[if_neg h1] at h ⊢;by_cases h2:Lib.trimS (c::r) tens≠[]
 ·rw[if_pos h2] at h; cases h
 rw[if_neg h2] at h ⊢;by_cases h3:(zaa9 (c::r)).2=true
 ·rw[if_pos h3] at h; cases h
 rw[if_neg h3] at h ⊢;simp only[qj] at h;refine ⟨?_,h⟩;show 0<=(zaa9 (c::r)).1;unfold zaa9 at h3 ⊢;rw[Lib.atoiAll_plain c r (by omega) (by omega)] at h3 ⊢;cases hp:Lib.parseMag (c::r) with
 |ok u=>
  rw[hp] at h3;unfold Lib.signless at h3 ⊢;dsimp only at h3 ⊢;split
  ·rename_i v hv;split at hv
   ·cases hv
   ·injection hv with hv; omega
  ·rename_i hv; rw[hv] at h3; simp at h3
  ·simp
 |range=>rw[hp] at h3; simp[Lib.signless] at h3
 |_=>rw[hp] at h3; simp[Lib.signless] at h3
theorem zawi {w:List Int} (hw:w≠[]) (ha:w.all Sp.isRune=true) (hd:Sp.digit (w.headD 0)=true):∃ c r,encs w=c::r/\48<=c.toNat/\c.toNat<=57:=by
 match w,hw with
 |a::w,_=>
  have h1:Sp.digit a=true:=hd;simp only[Sp.digit,qj] at h1;refine ⟨UInt8.ofNat a.toNat,encs w,?_,?_⟩
  ·rw[zaa0];have:encB a=[UInt8.ofNat a.toNat]:=by unfold encB Sp.enc; rw[if_pos (by omega)]; rfl
   rw[this];rfl
  ·rw[UInt8.toNat_ofNat'];omega
theorem zat3 {w:List Int} {u:Token} (h:whole w u) (hk:u.kind=2):0<=u.num/\u.num<=2147483647:=by
 have h3:=h.2.2.1;unfold tokR at h3;cases hg:goesR (w.headD 0) with
 |false=>
  rw[hg,qf] at h3;cases hs:(sgn (encs w)==[]) with
  |true=>rw[hs] at h3; simp at h3
  |false=>
   rw[hs] at h3;simp only[qf,xa,and_true] at h3;rw[<-h3] at hk;exact absurd hk (by simp)
 |true=>
  rw[zajt h hg,hg,qg] at h3;cases hd:Sp.digit (w.headD 0) with
  |true=>
   rw[hd,qg] at h3;cases hn:(numS (encs w)).2 with
   |true=>
    rw[hn] at h3;simp only[qg,xa,and_true] at h3;rw[<-h3];obtain ⟨c,r,e,hc⟩:=zawi h.1 h.2.1 hd;rw[e] at hn ⊢;exact zavd c r hc hn
   |false=>rw[hn] at h3; simp at h3
  |false=>
   rw[hd,qf] at h3;cases hw:words.contains (encs w) with
   |true=>
    rw[hw] at h3;simp only[qg,xa,and_true] at h3;rw[<-h3] at hk;exact absurd hk (by simp)
   |false=>
    rw[hw,qf] at h3;by_cases hl:16<w.length
    ·rw[qm hl] at h3; simp at h3
    ·rw[qn hl] at h3;simp only[qf,xa,and_true] at h3;rw[<-h3] at hk;exact absurd hk (by simp)
theorem zazf {w:List Int} {u:Token} (h:whole w u) (hk:u.kind=1):isNm (encs w)=true:=by
 obtain ⟨h1,h2,h3⟩:=zaq9 h hk;have h64:=zat6 w;have hx:LB (encs w) [core u]:=⟨w,rfl,by have:=LX.tk (r:=[]) h trivial .nil; rwa [xj] at this⟩;obtain ⟨m,e,l1,l2⟩:=hx.lex (by omega);obtain ⟨a,rfl⟩:∃ a,m=[a]:=by
  have:=congrArg List.length l2;rw[List.length_map] at this;exact List.length_eq_one_iff.1 this
 have hc:core a=(1,encs w,0):=by
  rw[<-h1];simpa using l2
 unfold isNm;rw[qbR,zaaa];unfold qbR_f;rw[qn (by omega),qf,l1];have e1:a.kind=1:=congrArg (·.1) hc;have e2:a.text=encs w:=congrArg (·.2.1) hc;simp[e1,e2]
theorem zaxt {w:List Int} {u:Token} (h:whole w u) (hk:u.kind=3):u.text.length<=1\/u.text∈twos:=by
 have h3:=h.2.2.1;unfold tokR at h3;cases hg:goesR (w.headD 0) with
 |false=>
  rw[hg,qf] at h3;cases hs:(sgn (encs w)==[]) with
  |true=>rw[hs] at h3; simp at h3
  |false=>
   rw[hs] at h3;simp only[qf,xa,and_true] at h3;rw[<-h3];show (sgn (encs w)).length<=1\/sgn (encs w)∈twos;unfold sgn;split
   ·rename_i h1;exact .inr (by simpa using h1.2)
   ·split
    ·exact .inl (by rw[xy]; omega)
    ·exact .inl (by simp)
 |true=>
  rw[hg,qg] at h3;cases hd:Sp.digit (w.headD 0) with
  |true=>
   rw[hd,qg] at h3;cases hn:(numS (encs (w.takeWhile goesR))).2 with
   |true=>
    rw[hn] at h3;simp only[qg,xa,and_true] at h3;rw[<-h3] at hk;exact absurd hk (by simp)
   |false=>rw[hn] at h3; simp at h3
  |false=>
   rw[hd,qf] at h3;cases hw:words.contains (encs (w.takeWhile goesR)) with
   |true=>
    rw[hw] at h3;simp only[qg,xa,and_true] at h3;rw[<-h3] at hk;exact absurd hk (by simp)
   |false=>
    rw[hw,qf] at h3;by_cases hl:16<(w.takeWhile goesR).length
    ·rw[qm hl] at h3; simp at h3
    ·rw[qn hl] at h3;simp only[qf,xa,and_true] at h3;rw[<-h3] at hk;exact absurd hk (by simp)
theorem zas9 {t:List UInt8} {l:List Token} {e:Token} (h:qaj t=some (l++[e],⟨0,0,[]⟩)):∀ x∈l,∃ w u,whole w u/\core x=core u:=by
 rcases zak4 t with ⟨f,k1,k2,_⟩|⟨rs,l',rfl,hra,_,hT,k1⟩
 ·rw[h] at k1;simp only[qk,xa] at k1;rw[<-k1.2] at k2;exact absurd rfl k2
 rw[h] at k1;simp only[qk,xa,and_true] at k1;obtain ⟨g1,g2⟩:=List.append_inj' k1 rfl;subst g1;exact fun x hx=>((T_ok _ _ _ _ (qz _) (zae4 hra) hT).1 x hx).2.2.2
theorem za0p {t:List UInt8} {l:List Token} {e:Token} (h:qaj t=some (l++[e],⟨0,0,[]⟩)):G2 (l.map core):=by
 intro o ho;obtain ⟨x,hx,rfl⟩:=List.mem_map.1 ho;obtain ⟨w,u,hw,hc⟩:=zas9 h x hx;rw[hc];exact ⟨fun h1=>(zat3 hw h1).2,fun h1=>zaxt hw h1⟩
theorem zaxs {t:List UInt8} {l:List Token} {e:Token} {p:TProg} (h:qaj t=some (l++[e],⟨0,0,[]⟩)) (he:e.kind=5) (hl:l.length<=4000) (hd:DP p (l.map core)) (hdeep:maxEv (evP p) 0<=16) (hcnt:(cT p.threads:Int)<=500) :
  qbi t=some (rr p ⟨0,0,[]⟩):=by
 rw[qbi,zaaa];unfold qbi_f;rw[zayy,h];simp only[Option.map_some,qa];have hs:=hd.size;rw[List.length_map] at hs;have hlen:(l++[e]).length<1000000:=by rw[qc,qe,qr]; omega
 obtain ⟨k,hk,h1⟩:=zawk hd (za0p h) (l++[e]) l e [] rfl rfl hlen;obtain ⟨f,hf⟩:∃ f,fuel-k=f+1:=⟨fuel-k-1,by unfold fuel; omega⟩;have h2:loopP (l++[e]) (f+1) l.length p=some (0,0,[],(l.length:Int),false,l++[e],p.cells,p.mutexes,p.threads):=zav1 (r:=[]) (by rw[List.drop_left]) he;rw[hf,h2] at h1;have h3:qbi_l6 (0:Int) (0:Int) [] (0:Int) false (l++[e]) [] [] []=some (0,0,[],(l.length:Int),false,l++[e],p.cells,p.mutexes,p.threads):=by
  rw[qbi_l6,zaaa];exact h1
 have hp:(TProg.mk p.cells p.mutexes p.threads)=p:=rfl;simp only[h3,qa,bne_self_eq_false,qf,hp,zazo p (show nT p.threads<=10000000000000000 by omega),zayj p (show nT p.threads<=10000000000000000 by omega)];rw[qn (by omega),qf,qn (by omega),qf];rfl
theorem zazj {α:Type} {l:List α} (h:l.length=2):∃ a b,l=[a,b]:=by
 match l,h with
 |[a,b],_=>exact ⟨a,b,rfl⟩
theorem zaxx {x:TExpr} (h:eF x=true):(x.kind=1/\x.args=[]/\0<=x.num/\x.num<=2147483647/\x.name=[])\/(x.kind=2/\x.args=[]/\isNm x.name=true/\x.num=0) \/
  ((x.kind=3\/x.kind=4)/\(∃ a,x.args=[a]/\eF a=true)/\x.num=0/\x.name=[])\/(5<=x.kind/\x.kind<=17/\(∃ a b,x.args=[a,b]/\eF a=true/\eF b=true)/\x.num=0/\x.name=[]):=by
 rw[eF_eq,qd] at h;obtain ⟨h,ha⟩:=h;unfold xOk at h;by_cases h1:x.kind=1
 ·have e:(x.kind==1)=true:=by simp[h1]
  rw[e,qg] at h;simp only[qd,qj,beq_iff_eq] at h;obtain ⟨⟨⟨a,b⟩,c⟩,d⟩:=h;exact .inl ⟨h1,qt (by omega),a,b,c⟩
 have e1:(x.kind==1)=false:=by simp[h1]
 rw[e1,qf] at h;by_cases h2:x.kind=2
 ·have e:(x.kind==2)=true:=by simp[h2]
  rw[e,qg] at h;simp only[qd,qj,beq_iff_eq] at h;obtain ⟨⟨a,b⟩,d⟩:=h;exact .inr (.inl ⟨h2,qt (by omega),a,b⟩)
 have e2:(x.kind==2)=false:=by simp[h2]
 rw[e2,qf] at h;by_cases h3:x.kind=3\/x.kind=4
 ·have e:((x.kind==3)||(x.kind==4))=true:=by rcases h3 with h|h<;>simp[h]
  rw[e,qg] at h;simp only[qd,qj,beq_iff_eq] at h;obtain ⟨⟨⟨_,hl⟩,b⟩,d⟩:=h;obtain ⟨a,hargs⟩:∃ a,x.args=[a]:=List.length_eq_one_iff.1 (by omega);rw[hargs] at ha;simp only[xv,List.all_nil,Bool.and_true] at ha;exact .inr (.inr (.inl ⟨h3,⟨a,hargs,ha⟩,b,d⟩))
 ·have e:((x.kind==3)||(x.kind==4))=false:=by
   simp only[not_or] at h3;simp[h3.1,h3.2]
  rw[e,qf] at h;simp only[qd,qj,beq_iff_eq] at h;obtain ⟨⟨⟨⟨q1,q2⟩,hl⟩,b⟩,d⟩:=h;obtain ⟨a,c,hargs⟩:∃ a b,x.args=[a,b]:=zazj (by omega);rw[hargs] at ha;simp only[xv,List.all_nil,Bool.and_true,qd] at ha;exact .inr (.inr (.inr ⟨by omega,q2,⟨a,c,hargs,ha⟩,b,d⟩))
theorem zahg {x:TExpr} (h:eF x=true):x.kind≠0:=by
 rcases zaxx h with ⟨h1,_⟩|⟨h1,_⟩|⟨h1,_⟩|⟨h1,_⟩<;>omega
def GT (c:List Tk):Prop:=∀ o∈c,(o.1=1->isNm o.2.1=true)/\(o.1=2->0<=o.2.2/\o.2.2<=2147483647)
theorem GT.l {a b:List Tk} (h:GT (a++b)):GT a:=fun o ho=>h o (List.mem_append_left _ ho)
theorem GT.r {a b:List Tk} (h:GT (a++b)):GT b:=fun o ho=>h o (List.mem_append_right _ ho)
theorem GT.hd {a:Tk} {b:List Tk} (h:GT (a::b)):(a.1=1->isNm a.2.1=true)/\(a.1=2->0<=a.2.2/\a.2.2<=2147483647):=h a List.mem_cons_self
theorem GT.tl {a:Tk} {b:List Tk} (h:GT (a::b)):GT b:=fun o ho=>h o (List.mem_cons_of_mem _ ho)
theorem zann {l:Nat} {o:Tk} {k:Int} (h:opAt l o=some k):5<=k/\k<=17:=by
 unfold opAt at h;split at h
 ·cases hm:LV[l]? with
  |none=>rw[hm] at h; cases h
  |some M=>
   rw[hm,qa] at h;have hM:M∈LV:=List.mem_of_getElem? hm;have hall:∀ M∈LV,∀ q∈M,5<=q.2/\q.2<=17:=by decide
   exact hall M hM _ (zakw h)
 ·cases h
theorem zavp {k:Int} {x y:TExpr} (h5:5<=k) (h17:k<=17) (hx:eF x=true) (hy:eF y=true):eF ⟨k,0,[],[x,y]⟩=true:=by
 have e1:(k==1)=false:=by simp; omega
 have e2:(k==2)=false:=by simp; omega
 have e3:(k==3)=false:=by simp; omega
 have e4:(k==4)=false:=by simp; omega
 rw[eF_eq];unfold xOk;simp only[e1,e2,e3,e4];simp[hx,hy];omega
theorem DE.ok {l:Nat} {x:TExpr} {c:List Tk} (h:DE l x c) (hg:GT c):eF x=true:=by
 induction h with
 |up _ _ ih=>exact ih hg
 |bin _ _ _ ho _ ih1 ih2=>
  obtain ⟨a,b⟩:=zann ho;exact zavp a b (ih1 hg.l) (ih2 hg.r.tl)
 |cmp _ ho _ ih1 ih2=>
  obtain ⟨a,b⟩:=zann ho;exact zavp a b (ih1 hg.l) (ih2 hg.r.tl)
 |neg _ _ ih=>rw[eF_eq]; unfold xOk; simp[ih hg.tl]
 |not _ _ ih=>rw[eF_eq]; unfold xOk; simp[ih hg.tl]
 |par _ _ _ ih=>exact ih hg.tl.l
 |num h1=>have:=hg.hd.2 h1; rw[eF_eq]; unfold xOk; simp; omega
 |reg h1=>have:=hg.hd.1 h1; rw[eF_eq]; unfold xOk; simp[this]
theorem zayh {k:Int} {m:List UInt8} (h5:5<=k) (h8:k<=8) (hm:isNm m=true):sF ⟨k,[],m,zE,0,[],[]⟩=true:=by
 have:k=5\/k=6\/k=7\/k=8:=by omega
 have hs:shp k=Shape.mk false true false false false false:=by rcases this with rfl|rfl|rfl|rfl<;>rfl
 have hi:inR k=true:=by rcases this with rfl|rfl|rfl|rfl<;>rfl
 rw[sF_eq];unfold sOk isOpt;simp only[hs,hi];simp[hm,sFs,zaa8,none_]
mutual
theorem DS.ok:∀ {y:TStmt} {c:List Tk},DS y c->GT c->sF y=true
 |_,_,.set (x:=x) (a:=a) ha _ hx _,hg=>by
  have h1:=hg.hd.1 ha;have h2:=hx.ok hg.tl.tl.l;have h3:=zahg h2;rw[sF_eq];unfold sOk isOpt;rw[show shp 1=Shape.mk true false true false false false from rfl];simp[h1,h2,h3,sFs,inR]
 |_,_,.write (x:=x) (a:=a) ha _ hx _,hg=>by
  have h1:=hg.hd.1 ha;have h2:=hx.ok hg.tl.tl.l;have h3:=zahg h2;rw[sF_eq];unfold sOk isOpt;rw[show shp 3=Shape.mk false true true false false false from rfl];simp[h1,h2,h3,sFs,inR]
 |_,_,.add (x:=x) (a:=a) (b:=b) ha _ _ hb hx _,hg=>by
  have h1:=hg.hd.1 ha;have h1':=hg.tl.tl.tl.hd.1 hb;have h2:=hx.ok hg.tl.tl.tl.tl.l;have h3:=zahg h2;rw[sF_eq];unfold sOk isOpt;rw[show shp 4=Shape.mk true true true false false false from rfl];simp[h1,h1',h2,h3,sFs,inR]
 |_,_,.read (a:=a) (b:=b) ha _ hb _,hg=>by
  have h1:=hg.hd.1 ha;have h1':=hg.tl.tl.hd.1 hb;rw[sF_eq];unfold sOk isOpt;rw[show shp 2=Shape.mk true true false false false false from rfl];simp[h1,h1',sFs,inR,none_,zaa8]
 |_,_,.about (i:=i) (b:=b) hi _ hb _,hg=>by
  have h1:=hg.tl.hd.1 hb;have:i<4:=by
   have:=xr.1 hi;obtain ⟨h,_⟩:=this;exact h
  exact zayh (by omega) (by omega) h1
 |_,_,.assert (x:=x) _ hx _,hg=>by
  have h2:=hx.ok hg.tl.l;have h3:=zahg h2;rw[sF_eq];unfold sOk isOpt;rw[show shp 9=Shape.mk false false true false false false from rfl];simp[h2,h3,sFs,inR]
 |_,_,.if_ (x:=x) _ hx _ hb _,hg=>by
  have h2:=hx.ok hg.tl.l;have h3:=zahg h2;have h4:=hb.ok hg.tl.r.tl.l;rw[sF_eq];unfold sOk isOpt;rw[show shp 10=Shape.mk false false true false true true from rfl];simp[h2,h3,h4,sFs,inR]
 |_,_,.ife (x:=x) _ hx _ hb _ _ _ hb2 _,hg=>by
  have h2:=hx.ok hg.tl.l;have h3:=zahg h2;have h4:=hb.ok hg.tl.r.tl.l;have h5:=hb2.ok hg.tl.r.tl.r.tl.tl.tl.l;rw[sF_eq];unfold sOk isOpt;rw[show shp 10=Shape.mk false false true false true true from rfl];simp[h2,h3,h4,h5,sFs,inR]
 |_,_,.rep (n:=n) _ hn h1000 _ hb _,hg=>by
  have h1:=hg.tl.hd.2 hn;have h4:=hb.ok hg.tl.tl.tl.l;rw[sF_eq];unfold sOk isOpt;rw[show shp 11=Shape.mk false false false true true false from rfl];simp[h4,sFs,inR,none_,zaa8];omega
theorem DL.ok:∀ {b:List TStmt} {c:List Tk},DL b c->GT c->sFs b=true
 |_,_,.nil,_=>by rw[sFs]
 |_,_,.cons hs hb,hg=>by rw[sFs,hs.ok hg.l,hb.ok hg.r]; rfl
end
theorem DC.ok {x:TCell} {c:List Tk} (h:DC x c) (hg:GT c):cOk x=true:=by
 cases h with
 |bare _ ha _=>have:=hg.tl.hd.1 ha; unfold cOk; simp[this]
 |pos _ ha _ _ hn _=>
  have h1:=hg.tl.hd.1 ha;have h2:=hg.tl.tl.tl.hd.2 hn;unfold cOk;simp[h1];omega
 |@ngt w a o m n q _ ha _ _ hn _=>
  have h1:=hg.tl.hd.1 ha;have h2:=hg.tl.tl.tl.tl.hd.2 hn;have h3:IntKind.wrap .i64 (0-n.2.2)=0-n.2.2:=i64_in _ (by omega);unfold cOk;rw[h3];simp[h1];omega
theorem DP.ok {p:TProg} {c:List Tk} (h:DP p c) (hg:GT c):pOk p=true:=by
 induction h with
 |nil=>rfl
 |@cell p c d x _ hx ih=>
  have h1:=ih hg.l;have h2:=hx.ok hg.r;unfold pOk at h1 ⊢;simp only[qd] at h1 ⊢;refine ⟨?_,h1.2⟩;rw[List.all_append,h1.1];simp[h2]
 |@mutex p c w a q _ _ ha _ ih=>
  have h1:=ih hg.l;have h2:=hg.r.tl.hd.1 ha;unfold pOk at h1 ⊢;simp only[qd] at h1 ⊢;refine ⟨h1.1,?_,h1.2.2⟩;rw[List.all_append,h1.2.1];simp[h2]
 |@thread p c d w a b _ _ ha hb ih=>
  have h1:=ih hg.l;have h2:=hg.r.tl.hd.1 ha;obtain ⟨o,e,q,_,hd,_,rfl⟩:=hb;have h3:=hd.ok hg.r.tl.tl.tl.l;unfold pOk at h1 ⊢;simp only[qd] at h1 ⊢;refine ⟨h1.1,h1.2.1,?_⟩;rw[List.all_append,h1.2.2];simp[h2,h3]
theorem za08 {t:List UInt8} {l:List Token} {e:Token} (h:qaj t=some (l++[e],⟨0,0,[]⟩)):GT (l.map core):=by
 intro o ho;obtain ⟨x,hx,rfl⟩:=List.mem_map.1 ho;obtain ⟨w,u,hw,hc⟩:=zas9 h x hx;rw[hc];refine ⟨fun h1=>?_,fun h1=>zat3 hw h1⟩;have:=zazf hw h1;rw[(zaq9 hw h1).1];exact this
theorem zasv (t:List UInt8):(∃ f,qar t=some (rr ⟨[],[],[]⟩ f)/\f.code≠0) \/
  (∃ p,qar t=some (rr p ⟨0,0,[]⟩)/\qbi t=some (rr p ⟨0,0,[]⟩)/\zano p=0/\nT p.threads<=1000000/\p.cells.length<=1000000/\p.mutexes.length<=1000000/\p.threads.length<=1000000):=by
 rcases zasb t with ⟨f,h1,h2⟩|⟨l,e,p,h1,he,hl,hlen,hp,hd,hdeep,hcnt⟩
 ·exact .inl ⟨f,h1,h2⟩
 ·have hs:=hd.size;rw[List.length_map] at hs;refine .inr ⟨p,hp,zaxs h1 he hlen hd hdeep hcnt,?_,by omega,by omega,by omega,by omega⟩;have:=hd.ok (za08 h1);unfold zano;rw[this];simp only[xf,qf];rw[qn (by omega),qf,qn (by omega),qf]
def sumN {α:Type} (f:α->Nat):List α->Nat
 |[]=>0
 |x::l=>f x+sumN f l
theorem zamg {α:Type} (f:α->Nat) (y:α):∀ (s:List α) (i:Nat) (x:α),s[i]? = some x->sumN f (s.set i y)+f x=sumN f s+f y
 |[],i,x,h=>by simp at h
 |a::s,0,x,h=>by
  simp only[List.getElem?_cons_zero,qk] at h;subst h;simp only[List.set_cons_zero,sumN];omega
 |a::s,i+1,x,h=>by
  rw[List.getElem?_cons_succ] at h;have:=zamg f y s i x h;simp only[List.set_cons_succ,sumN];omega
theorem zapa {α:Type} (f:α->Nat):∀ (s:List α) (i:Nat) (x:α),s[i]? = some x->sumN f (s.drop i)=f x+sumN f (s.drop (i+1))
 |[],i,x,h=>by simp at h
 |a::s,0,x,h=>by
  simp only[List.getElem?_cons_zero,qk] at h;subst h;simp[sumN]
 |a::s,i+1,x,h=>by
  rw[List.getElem?_cons_succ] at h;have:=zapa f s i x h;simpa using this
theorem zajw {α ρ:Type} (l:List α) (f:α->Nat) (C:Nat) (P:ρ->Prop) (L:Nat->Int->List α->Option ρ)
  (h0:∀ n i s,0<=i->¬ i<(l.length:Int)->s.length=l.length->sumN f s<=(C+1)*sumN f l->∃ r,L (n+1) i s=some r/\P r)
  (h1:∀ n i s x,0<=i->i<(l.length:Int)->s.length=l.length->x∈l->s[i.toNat]? = some x->∃ y,f y<=(C+1)*f x/\L (n+1) i s=L n (i+1) (s.set i.toNat y)) :
  ∀ n,l.length<n->∃ r,L n 0 l=some r/\P r:=by
 have key:∀ (k n:Nat) (i:Int) (s:List α),0<=i->i.toNat<=l.length->l.length-i.toNat<=k->k<n->s.length=l.length->(∀ j,i.toNat<=j->s[j]? = l[j]?)->sumN f s+C*sumN f (l.drop i.toNat)<=(C+1)*sumN f l->∃ r,L n i s=some r/\P r:=by
  intro k;induction k with
  |zero=>
   intro n i s hi hle hk hn hs hj hm;obtain ⟨n,rfl⟩:∃ q,n=q+1:=⟨n-1,by omega⟩;exact h0 n i s hi (by omega) hs (by omega)
  |succ k ih=>
   intro n i s hi hle hk hn hs hj hm;obtain ⟨n,rfl⟩:∃ q,n=q+1:=⟨n-1,by omega⟩;by_cases c:i<(l.length:Int)
   ·have hlt:i.toNat<l.length:=by omega
    have hl:l[i.toNat]? = some l[i.toNat]:=xp hlt;have hx:s[i.toNat]? = some l[i.toNat]:=by rw[hj _ (qz _)]; exact hl
    obtain ⟨y,hy,e⟩:=h1 n i s l[i.toNat] hi c hs (List.getElem_mem hlt) hx;have e2:(i+1).toNat=i.toNat+1:=by omega
    have q1:=zamg f y s i.toNat _ hx;have q2:=zapa f l i.toNat _ hl;rw[e];refine ih n (i+1) _ (by omega) (by omega) (by omega) (by omega) (by simpa using hs) (fun j hj2=>?_) ?_
    ·rw[List.getElem?_set_ne (by omega)];exact hj j (by omega)
    ·rw[e2];rw[q2,Nat.mul_add] at hm;rw[Nat.add_mul,Nat.one_mul] at hy;omega
   ·exact h0 n i s hi c hs (by omega)
 intro n hn;refine key l.length n 0 l (by omega) (by simp) (by simp) hn rfl (fun _ _=>rfl) ?_;show sumN f l+C*sumN f (l.drop 0)<=_;rw[List.drop_zero,Nat.add_mul,Nat.one_mul];omega
theorem zall (n:Nat):Nat.beq n n=true:=by simp
theorem zaeo:∀ l:List TExpr,nEs l=sumN nE l
 |[]=>rfl
 |x::l=>by simp only[nEs,sumN,zaeo l]
theorem zahb:∀ l:List TStmt,nSs l=sumN nS l
 |[]=>rfl
 |x::l=>by simp only[nSs,sumN,zahb l]
theorem zajp {α:Type} (f:α->Nat):∀ (l r:List α),sumN f (l++r)=sumN f l+sumN f r
 |[],r=>by simp[sumN]
 |x::l,r=>by simp only[qp,sumN,zajp f l r]; omega
theorem markE (rs:List TStmt->Option (List TStmt)):∀ (k n:Nat) (x:TExpr),nE x<=k->k<n->k<=100000000->∃ y:TExpr,qaJ_i rs n x.kind x.num x.name x.args=some (y.kind,y.num,y.name,y.args)/\nE y<=(2+1)*nE x:=by
 intro k;induction k with
 |zero=>intro n x h; have:=nE_eq x; omega
 |succ k ih=>
  intro n x h hn hb;obtain ⟨n,rfl⟩:∃ q,n=q+1:=⟨n-1,by omega⟩;have hx:=nE_eq x;have hl:=zafa x.args;show ∃ y:TExpr,qaJ_f rs (qaJ_i rs n) x.kind x.num x.name x.args=_/\_;unfold qaJ_f
  obtain ⟨r, hr, hP⟩ := zajw x.args nE 2 (fun r => ∃ s, r = (x.kind, x.num, x.name, 0, 0, [], s) /\ s.length = x.args.length /\ sumN nE s <= (2 + 1) * sumN nE x.args)
   (fun m i s=>qaJ_i2 rs (qaJ_i rs n) m i x.kind x.num x.name 0 0 [] s)
   (fun m i s h0 h hs hm=>by
    refine ⟨(x.kind,x.num,x.name,0,0,[],s),?_,s,rfl,hs,hm⟩;simp only[qaJ_i2,qaJ_t2,hs,qn h,qf])
   (fun m i s y h0 h hs hm hy=>by
    have hy1:=zae8 hm;obtain ⟨z,hz,hz2⟩:=ih n y (by omega) (by omega) (by omega);refine ⟨z,hz2,?_⟩;simp only[qaJ_i2,qaJ_t2,hs,qm h,qm h0,qg,Bool.and_self,hy,qa,hz,zall,i64_in (i+1) (by omega),zaaw])
   fuel (by unfold fuel; omega)
  obtain ⟨s,rfl,hs,hm⟩:=hP;rw[<-zaeo,<-zaeo] at hm;rw[qaJ_l2,zaaa,hr,Option.bind_some];dsimp only;rw[hs,decide_eq_true (by omega),cond_true];refine ⟨⟨-77,x.num,x.name,s++[⟨-78,0,[],[]⟩]⟩,rfl,?_⟩;rw[nE_eq,zaeo,zajp,<-zaeo];simp only[sumN,nE_eq,nEs];omega
theorem za0g:∀ (k n:Nat) (x:TExpr),nE x<=k->k<n->k<=100000000->∃ y:TExpr,qaK_i n x.kind x.num x.name x.args=some (y.kind,y.num,y.name,y.args)/\nE y<=(2+1)*nE x:=by
 intro k;induction k with
 |zero=>intro n x h; have:=nE_eq x; omega
 |succ k ih=>
  intro n x h hn hb;obtain ⟨n,rfl⟩:∃ q,n=q+1:=⟨n-1,by omega⟩;have hx:=nE_eq x;have hl:=zafa x.args;show ∃ y:TExpr,qaK_f (qaK_i n) x.kind x.num x.name x.args=_/\_;unfold qaK_f
  obtain ⟨r, hr, hP⟩ := zajw x.args nE 2 (fun r => ∃ s, r = (x.kind, x.num, x.name, 0, 0, [], s) /\ s.length = x.args.length /\ sumN nE s <= (2 + 1) * sumN nE x.args)
   (fun m i s=>qaK_i2 (qaK_i n) m i x.kind x.num x.name 0 0 [] s)
   (fun m i s h0 h hs hm=>by
    refine ⟨(x.kind,x.num,x.name,0,0,[],s),?_,s,rfl,hs,hm⟩;simp only[qaK_i2,qaK_t2,hs,qn h,qf])
   (fun m i s y h0 h hs hm hy=>by
    have hy1:=zae8 hm;obtain ⟨z,hz,hz2⟩:=ih n y (by omega) (by omega) (by omega);refine ⟨z,hz2,?_⟩;simp only[qaK_i2,qaK_t2,hs,qm h,qm h0,qg,Bool.and_self,hy,qa,hz,zall,i64_in (i+1) (by omega),zaaw])
   fuel (by unfold fuel; omega)
  obtain ⟨s,rfl,hs,hm⟩:=hP;rw[<-zaeo,<-zaeo] at hm;rw[qaK_l2,zaaa,hr,Option.bind_some];dsimp only;rw[hs,decide_eq_true (by omega),cond_true];refine ⟨⟨-77,x.num,x.name,s++[⟨-78,0,[],[]⟩]⟩,rfl,?_⟩;rw[nE_eq,zaeo,zajp,<-zaeo];simp only[sumN,nE_eq,nEs];omega
theorem markS:∀ (k n:Nat) (l:List TStmt),nSs l<=k->k<n->k<=100000000->∃ r,qaL_i n l=some r/\nSs r<=(7+1)*nSs l+2:=by
 intro k;induction k with
 |zero=>
  intro n l h hn _;obtain ⟨n,rfl⟩:∃ q,n=q+1:=⟨n-1,by omega⟩;have hl:=zacj l;obtain rfl:l=[]:=qt (by omega);show ∃ r,qaL_f (qaL_i n) []=some r/\_;unfold qaL_f;rw[qaL_l2,zaaa];exact ⟨_,rfl,by simp[zahb,sumN,nS_eq,nE_eq,nEs]⟩
 |succ k ih=>
  intro n l h hn hb;obtain ⟨n,rfl⟩:∃ q,n=q+1:=⟨n-1,by omega⟩;have hl:=zacj l;show ∃ r,qaL_f (qaL_i n) l=some r/\_;unfold qaL_f
  obtain ⟨r, hr, hP⟩ := zajw l nS 7 (fun r => r.length = l.length /\ sumN nS r <= (7 + 1) * sumN nS l)
   (fun m i s=>qaL_i2 (qaL_i n) m i s)
   (fun m i s h0 h hs hm=>by
    refine ⟨s,?_,hs,hm⟩;simp only[qaL_i2,qaL_t2,hs,qn h,qf])
   (fun m i s y h0 h hs hm hy=>by
    have hy1:=zaed hm;have hy2:=nS_eq y;obtain ⟨z1,hz1,b1⟩:=ih n y.then_ (by omega) (by omega) (by omega);obtain ⟨z2,hz2,b2⟩:=ih n y.else_ (by omega) (by omega) (by omega);obtain ⟨z3,hz3,b3⟩:=markE (qaL_i n) (nE y.expr) fuel y.expr (Nat.le_refl _) (by unfold fuel; omega) (by omega);refine ⟨TStmt.mk (-77) [45,55,55] [] z3 0 z1 z2,by rw[nS_eq]; dsimp only; omega,?_⟩;simp only[qaL_i2,qaL_t2,hs,decide_eq_true h,decide_eq_true h0,cond_true,Bool.and_self,hy,Option.bind_some,hz1,hz2,zall,i64_in (i+1) (by omega)];rw[qaJ,zaaa,hz3,Option.bind_some];simp only[zaaw])
   fuel (by unfold fuel; omega)
  obtain ⟨hs,hm⟩:=hP;rw[qaL_l2,zaaa,hr,qa,hs,qm (by omega),qg];refine ⟨_,rfl,?_⟩;rw[zahb,zajp,zahb];simp only[sumN,nS_eq,nE_eq,nEs,nSs];omega
theorem zazp (k:Nat) (l:List TStmt) (x:TStmt) (hx:l[k]? = some x) (hb:nSs l<=1000000):∃ y e,qaI k l=some ([y,e],l.set k y)/\nS y<=8*nS x:=by
 have hm:x∈l:=List.mem_of_getElem? hx;have hy1:=zaed hm;have hy2:=nS_eq x;have hlt:k<l.length:=(xr.1 hx).1;obtain ⟨z1,hz1,b1⟩:=markS (nSs x.then_) fuel x.then_ (qz _) (by unfold fuel; omega) (by omega);obtain ⟨z2,hz2,b2⟩:=markS (nSs x.else_) fuel x.else_ (qz _) (by unfold fuel; omega) (by omega);obtain ⟨z3,hz3,b3⟩:=za0g (nE x.expr) fuel x.expr (qz _) (by unfold fuel; omega) (by omega);have e1:qaL x.then_=some z1:=by rw[qaL,zaaa]; exact hz1
 have e2:qaL x.else_=some z2:=by rw[qaL,zaaa]; exact hz2
 have e3:qaK x.expr.kind x.expr.num x.expr.name x.expr.args=some (z3.kind,z3.num,z3.name,z3.args):=by rw[qaK,zaaa]; exact hz3
 refine ⟨TStmt.mk (-77) [45,55,55] [] z3 0 z1 z2,TStmt.mk (-78:Int) [] [] (TExpr.mk (0:Int) (0:Int) [] []) (0:Int) [] [],?_,by rw[nS_eq]; dsimp only; omega⟩;rw[qaI,zaaa];unfold qaI_f;obtain ⟨m,hm⟩:∃ m,fuel=m+1+1:=⟨fuel-2,by unfold fuel; omega⟩;have hL:qaI_l2 k (0:Int) l=some (k,l.set k (TStmt.mk (-77) [45,55,55] [] z3 0 z1 z2)):=by
  rw[qaI_l2,zaaa,hm];have d1:decide ((0:Int)<((1:Nat):Int))=true:=rfl;have d2:decide ((1:Int)<((1:Nat):Int))=false:=rfl;have d3:decide ((0:Int)=0)=true:=rfl;simp only[qaI_i2,qaI_t2,d1,d3,qg,hx,qa,e1,e2,e3,zall,i64_in ((0:Int)+1) (by omega),zaaw];rfl
 rw[hL,Option.bind_some];dsimp only;rw[List.getElem?_set_self hlt,Option.bind_some]
def tx1:List UInt8:=[99,101,108,108,32,120,32,61,32,45,51,59,32,116,104,114,101,97,100,32,116,32,123,32,114,32,60,45,32,97,100,100,32,120,32,45,49,32,42,32,50,59,32,125]
def rx1:List Int:=[99,101,108,108,32,120,32,61,32,45,51,59,32,116,104,114,101,97,100,32,116,32,123,32,114,32,60,45,32,97,100,100,32,120,32,45,49,32,42,32,50,59,32,125]
def tk1:List Token:=[⟨4,[99,101,108,108],0,0⟩,⟨1,[120],0,5⟩,⟨3,[61],0,7⟩,⟨3,[45],0,9⟩,⟨2,[51],3,10⟩,⟨3,[59],0,11⟩,⟨4,[116,104,114,101,97,100],0,13⟩,⟨1,[116],0,20⟩,⟨3,[123],0,22⟩,⟨1,[114],0,24⟩,⟨3,[60,45],0,26⟩,⟨4,[97,100,100],0,29⟩,⟨1,[120],0,33⟩,⟨3,[45],0,35⟩,⟨2,[49],1,36⟩,⟨3,[42],0,38⟩,⟨2,[50],2,40⟩,⟨3,[59],0,41⟩,⟨3,[125],0,43⟩,⟨5,[],0,44⟩]
def tx2:List UInt8:=[116,104,114,101,97,100,32,116,32,123,32,97,115,115,101,114,116,32,97,32,60,32,98,32,60,32,99,59,32,125]
def rx2:List Int:=[116,104,114,101,97,100,32,116,32,123,32,97,115,115,101,114,116,32,97,32,60,32,98,32,60,32,99,59,32,125]
def tk2:List Token:=[⟨4,[116,104,114,101,97,100],0,0⟩,⟨1,[116],0,7⟩,⟨3,[123],0,9⟩,⟨4,[97,115,115,101,114,116],0,11⟩,⟨1,[97],0,18⟩,⟨3,[60],0,20⟩,⟨1,[98],0,22⟩,⟨3,[60],0,24⟩,⟨1,[99],0,26⟩,⟨3,[59],0,27⟩,⟨3,[125],0,29⟩,⟨5,[],0,30⟩]
theorem lex1:qaj tx1=some (tk1,⟨0,0,[]⟩):=by
 have h:=zahh rx1 (by decide +kernel) (by decide +kernel);have e:encs rx1=tx1:=by decide +kernel
 rw[e] at h;rw[h];decide +kernel
theorem lex2:qaj tx2=some (tk2,⟨0,0,[]⟩):=by
 have h:=zahh rx2 (by decide +kernel) (by decide +kernel);have e:encs rx2=tx2:=by decide +kernel
 rw[e] at h;rw[h];decide +kernel
def lv:List (List ((List UInt8)×Int)):=[[([124,124],17)],[([38,38],16)],[([61,61],10),([33,61],11),([60],12),([60,61],13),([62],14),([62,61],15)],[([43],5),([45],6)],[([42],7),([47],8),([37],9)]]
theorem zatq:qas=some lv:=by
 rw[qas,zaaa];rfl
theorem ex1 (r:List Token) (E:Int->List Token->Option RE) (f:Nat) (x:List UInt8) (n a:Int):qaF_i E (f+1) (⟨2,x,n,a⟩::r)=some (.inl (1,n,[],r,[])):=by
 show qaF_f (qaF_i E f) E (⟨2,x,n,a⟩::r)=_;unfold qaF_f;have h:∀ s,hit s ⟨2,x,n,a⟩=false:=fun s=>rfl
 simp only[took1,h,qf,qa,next1,take1];rfl
theorem ex2 (r:List Token) (E:Int->List Token->Option RE) (f:Nat) (x:List UInt8) (n a:Int):qaF_i E (f+1) (⟨1,x,n,a⟩::r)=some (.inl (2,0,x,r,[])):=by
 show qaF_f (qaF_i E f) E (⟨1,x,n,a⟩::r)=_;unfold qaF_f;have h:∀ s,hit s ⟨1,x,n,a⟩=false:=fun s=>rfl
 simp only[took1,h,qf,qa,next1,name1];rfl
theorem ex3 (r:List Token) (E:Int->List Token->Option RE) (f:Nat) (m a:Int) (k n:Int) (x:List UInt8) (z:List Token) (l:List TExpr) (h:qaF_i E f r=some (.inl (k,n,x,z,l))):qaF_i E (f+1) (⟨3,[45],m,a⟩::r)=some (.inl (3,0,[],z,[TExpr.mk k n x l])):=by
 show qaF_f (qaF_i E f) E (⟨3,[45],m,a⟩::r)=_;unfold qaF_f;have h1:hit [45] ⟨3,[45],m,a⟩=true:=rfl;simp only[took1,h1,qg,qa,h]
theorem ex4 (n:Nat) (ts:List Token):qau_i (n+1) 5 ts=qaF_i (qau_i n) fuel ts:=by
 show qau_f (qau_i n) 5 ts=_;unfold qau_f;rw[zatq,qa];have e:((5:Int)==(↑(List.length lv):Int))=true:=rfl;rw[e,qg,qaF,zaaa];cases qaF_i (qau_i n) fuel ts with
 |none=>rfl
 |some y=>cases y<;>rfl
theorem ex5 (n:Nat) (lvl:Int) (ts:List Token) (h0:0<=lvl) (h5:lvl<5) (e:TExpr) (z:List Token) (h:qau_i n (lvl+1) ts=some (okE e z))
  (e2:TExpr) (z2:List Token) (h2:qau_i5 (qau_i n) fuel lvl z 0 0 [] e.kind e.num e.name lv e.args=some (ok5 e2 z2)) :
  qau_i (n+1) lvl ts=some (okE e2 z2):=by
 show qau_f (qau_i n) lvl ts=_;unfold qau_f;rw[zatq,qa];have e1:(lvl==(↑(List.length lv):Int))=false:=by
  have:(↑(List.length lv):Int)=5:=rfl;rw[this,beq_eq_false_iff_ne];omega
 rw[e1,cond_false,i64_in (lvl+1) (by omega),h,Option.bind_some];dsimp only[okE];rw[qau_l5,zaaa,h2];rfl
theorem ex6 (E : Int -> List Token -> Option RE) (f : Nat) (lvl : Int) (t : Token) (r : List Token) (e : TExpr) (h0 : 0 <= lvl) (h5 : lvl < 5) (h : (lv.getD lvl.toNat []).find? (fun y => y.1 == t.text) = none) :
  qau_i5 E (f+1) lvl (t::r) 0 0 [] e.kind e.num e.name lv e.args=some (ok5 e (t::r)):=by
 show qau_t5 E (qau_i5 E f) lvl (t::r) 0 0 [] e.kind e.num e.name lv e.args=_;unfold qau_t5;rw[next1,Option.bind_some];dsimp only;cases t.kind==3 with
 |false=>rfl
 |true=>
  have hl:(↑(List.length lv):Int)=5:=rfl;have e1:(decide ((0:Int)<=lvl)&&decide (lvl<(↑(List.length lv):Int)))=true:=by rw[hl]; simp only[qd,qj]; exact ⟨h0,h5⟩
  have hlt:lvl.toNat<lv.length:=by show lvl.toNat<5; omega
  rw[qg,e1,qg,xp hlt,qa,next1,qa];rw[List.getD_eq_getElem?_getD,xp hlt,Option.getD_some] at h;have e2:mapAt lv[lvl.toNat] t.text=none:=by unfold mapAt; rw[h]; rfl
  dsimp only;rw[e2];rfl
theorem ex7 (E : Int -> List Token -> Option RE) (f : Nat) (lvl : Int) (t : Token) (r : List Token) (e : TExpr) (h0 : 0 <= lvl) (h5 : lvl < 5) (hk : t.kind = 3) (key : List UInt8) (op : Int) (h : (lv.getD lvl.toNat []).find? (fun y => y.1 == t.text) = some (key, op))
  (x:TExpr) (z:List Token) (hE:E (lvl+1) r=some (okE x z)) :
  qau_i5 E (f+1) lvl (t::r) 0 0 [] e.kind e.num e.name lv e.args=bif lvl==2 then some (ok5 ⟨op,0,[],[e,x]⟩ z) else qau_i5 E f lvl z 0 0 [] op 0 [] lv [e,x]:=by
 show qau_t5 E (qau_i5 E f) lvl (t::r) 0 0 [] e.kind e.num e.name lv e.args=_;unfold qau_t5;rw[next1,Option.bind_some];dsimp only;have hl:(↑(List.length lv):Int)=5:=rfl;have e0:(t.kind==3)=true:=by simp[hk]
 have e1:(decide ((0:Int)<=lvl)&&decide (lvl<(↑(List.length lv):Int)))=true:=by rw[hl]; simp only[qd,qj]; exact ⟨h0,h5⟩
 have hlt:lvl.toNat<lv.length:=by show lvl.toNat<5; omega
 rw[e0,qg,e1,qg,xp hlt,qa,next1,qa];rw[List.getD_eq_getElem?_getD,xp hlt,Option.getD_some] at h;have e2:mapAt lv[lvl.toNat] t.text=some op:=by unfold mapAt; rw[h]; rfl
 dsimp only;rw[e2];simp only[Option.isSome_some,Bool.not_true,cond_false];rw[take1,Option.bind_some];dsimp only;rw[i64_in (lvl+1) (by omega),hE,Option.bind_some];dsimp only[okE];rw[zaaw,zaaw];rfl
theorem ex8 (n:Nat) (lvl:Int) (ts:List Token) (h0:0<=lvl) (h5:lvl<5) (e:TExpr) (t:Token) (r:List Token) (h:qau_i n (lvl+1) ts=some (okE e (t::r)))
  (hf:(lv.getD lvl.toNat []).find? (fun y=>y.1==t.text)=none):qau_i (n+1) lvl ts=some (okE e (t::r)):=by
 refine ex5 n lvl ts h0 h5 e (t::r) h e (t::r) ?_;rw[show fuel=1180591620717411303423+1 from rfl];exact ex6 _ _ lvl t r e h0 h5 hf
theorem ex9 (r:List Token) (m:Nat):qau_i (m+6) 0 (⟨3,[45],0,35⟩::⟨2,[49],1,36⟩::⟨3,[42],0,38⟩::⟨2,[50],2,40⟩::⟨3,[59],0,41⟩::r) =
  some (okE ⟨7,0,[],[⟨3,0,[],[⟨1,1,[],[]⟩]⟩,⟨1,2,[],[]⟩]⟩ (⟨3,[59],0,41⟩::r)):=by
 have a4:qau_i (m+2) 4 (⟨3,[45],0,35⟩::⟨2,[49],1,36⟩::⟨3,[42],0,38⟩::⟨2,[50],2,40⟩::⟨3,[59],0,41⟩::r) =
   some (okE ⟨7,0,[],[⟨3,0,[],[⟨1,1,[],[]⟩]⟩,⟨1,2,[],[]⟩]⟩ (⟨3,[59],0,41⟩::r)):=by
  refine ex5 (m+1) 4 _ (by decide) (by decide) ⟨3,0,[],[⟨1,1,[],[]⟩]⟩ (⟨3,[42],0,38⟩::⟨2,[50],2,40⟩::⟨3,[59],0,41⟩::r) ?_ _ _ ?_
  ·show qau_i (m+1) 5 _=_;rw[ex4,show fuel=1180591620717411303422+1+1 from rfl];exact ex3 _ _ _ _ _ _ _ _ _ _ (ex1 _ _ _ _ _ _)
  ·rw[show fuel=1180591620717411303422+1+1 from rfl];rw[ex7 (qau_i (m+1)) _ 4 ⟨3,[42],0,38⟩ _ ⟨3,0,[],[⟨1,1,[],[]⟩]⟩ (by decide) (by decide) rfl [42] 7 (by decide) ⟨1,2,[],[]⟩ (⟨3,[59],0,41⟩::r) ?_]
   ·rw[show ((4:Int)==2)=false from rfl,qf];exact ex6 _ _ 4 ⟨3,[59],0,41⟩ r ⟨7,0,[],[⟨3,0,[],[⟨1,1,[],[]⟩]⟩,⟨1,2,[],[]⟩]⟩ (by decide) (by decide) (by decide)
   ·show qau_i (m+1) 5 _=_;rw[ex4,show fuel=1180591620717411303423+1 from rfl];exact ex1 _ _ _ _ _ _
 have a3:=ex8 (m+2) 3 _ (by decide) (by decide) _ _ _ a4 (by decide);have a2:=ex8 (m+3) 2 _ (by decide) (by decide) _ _ _ a3 (by decide);have a1:=ex8 (m+4) 1 _ (by decide) (by decide) _ _ _ a2 (by decide);exact ex8 (m+5) 0 _ (by decide) (by decide) _ _ _ a1 (by decide)
theorem ex10 (r:List Token) (m:Nat):qau_i (m+6) 0 (⟨1,[97],0,18⟩::⟨3,[60],0,20⟩::⟨1,[98],0,22⟩::⟨3,[60],0,24⟩::r) =
  some (okE ⟨12,0,[],[⟨2,0,[97],[]⟩,⟨2,0,[98],[]⟩]⟩ (⟨3,[60],0,24⟩::r)):=by
 have up : ∀ (x : List UInt8) (a : Int) (t : Token) (q : List Token), (lv.getD 4 []).find? (fun y => y.1 == t.text) = none -> (lv.getD 3 []).find? (fun y => y.1 == t.text) = none ->
   qau_i (m+3) 3 (⟨1,x,0,a⟩::t::q)=some (okE ⟨2,0,x,[]⟩ (t::q)):=by
  intro x a t q h4 h3;have a5:qau_i (m+1) (4+1) (⟨1,x,0,a⟩::t::q)=some (okE ⟨2,0,x,[]⟩ (t::q)):=by
   show qau_i (m+1) 5 _=_;rw[ex4,show fuel=1180591620717411303423+1 from rfl];exact ex2 _ _ _ _ _ _
  have a4:=ex8 (m+1) 4 _ (by decide) (by decide) _ _ _ a5 h4;exact ex8 (m+2) 3 _ (by decide) (by decide) _ _ _ a4 h3
 have a2:qau_i (m+4) 2 (⟨1,[97],0,18⟩::⟨3,[60],0,20⟩::⟨1,[98],0,22⟩::⟨3,[60],0,24⟩::r) =
   some (okE ⟨12,0,[],[⟨2,0,[97],[]⟩,⟨2,0,[98],[]⟩]⟩ (⟨3,[60],0,24⟩::r)):=by
  refine ex5 (m+3) 2 _ (by decide) (by decide) ⟨2,0,[97],[]⟩ (⟨3,[60],0,20⟩::⟨1,[98],0,22⟩::⟨3,[60],0,24⟩::r) (up _ _ _ _ (by decide) (by decide)) _ _ ?_;rw[show fuel=1180591620717411303422+1+1 from rfl];rw[ex7 (qau_i (m+3)) _ 2 ⟨3,[60],0,20⟩ _ ⟨2,0,[97],[]⟩ (by decide) (by decide) rfl [60] 12 (by decide) ⟨2,0,[98],[]⟩ (⟨3,[60],0,24⟩::r) (up _ _ _ _ (by decide) (by decide))];rfl
 have a1:=ex8 (m+4) 1 _ (by decide) (by decide) _ _ _ a2 (by decide);exact ex8 (m+5) 0 _ (by decide) (by decide) _ _ _ a1 (by decide)
theorem name2 (x:List UInt8) (n a:Int) (r:List Token):qaw (⟨1,x,n,a⟩::r)=some (.inl (x,r)):=by rw[name1]; rfl
theorem of2 (x:List UInt8) (n a:Int) (r:List Token):qay 2 (⟨2,x,n,a⟩::r)=some (.inl (⟨2,x,n,a⟩,r)):=by rw[of1]; rfl
theorem zati (ts:List Token) (e:TExpr) (z:List Token) (h:qau_i (1180591620717411303418+6) 0 ts=some (okE e z)):qau 0 ts=some (okE e z):=by
 rw[qau,zaaa];exact h
def e1:TExpr:=⟨7,0,[],[⟨3,0,[],[⟨1,1,[],[]⟩]⟩,⟨1,2,[],[]⟩]⟩
def s1:TStmt:=⟨4,[114],[120],e1,0,[],[]⟩
theorem st1 (r:List Token):qaz (⟨1,[114],0,24⟩::⟨3,[60,45],0,26⟩::⟨4,[97,100,100],0,29⟩::⟨1,[120],0,33⟩::⟨3,[45],0,35⟩::⟨2,[49],1,36⟩::⟨3,[42],0,38⟩::⟨2,[50],2,40⟩::⟨3,[59],0,41⟩::r) =
  some (okS s1 r):=by
 rw[qaz,zaaa];unfold qaz_f;have h1:hit [58,61] ⟨3,[60,45],0,26⟩=false:=by decide
 have h2:hit [61] ⟨3,[60,45],0,26⟩=false:=by decide
 have h3:hit [60,45] ⟨3,[60,45],0,26⟩=true:=by decide
 have h4:hit [97,100,100] ⟨4,[97,100,100],0,29⟩=true:=by decide
 have h5:hit [59] ⟨3,[59],0,41⟩=true:=by decide
 simp only[name2,took1,want1,h1,h2,h3,h4,cond_true,cond_false,Option.bind_some];rw[zati _ _ _ (ex9 r _),Option.bind_some];dsimp only[okE];rw[want1,h5,cond_true,Option.bind_some];rfl
theorem stmt1 (B:List Token->Option RB) (r:List Token):qaC B (⟨1,[114],0,24⟩::⟨3,[60,45],0,26⟩::⟨4,[97,100,100],0,29⟩::⟨1,[120],0,33⟩::⟨3,[45],0,35⟩::⟨2,[49],1,36⟩::⟨3,[42],0,38⟩::⟨2,[50],2,40⟩::⟨3,[59],0,41⟩::r) =
  some (okS s1 r):=by
 rw[qaC,zaaa];unfold qaC_f;have h6:((1:Int)==1)=true:=rfl;rw[next1,Option.bind_some];dsimp only;rw[h6,cond_true,st1,Option.bind_some];rfl
theorem za04 (r:List Token):qat (⟨3,[123],0,22⟩::⟨1,[114],0,24⟩::⟨3,[60,45],0,26⟩::⟨4,[97,100,100],0,29⟩::⟨1,[120],0,33⟩::⟨3,[45],0,35⟩::⟨2,[49],1,36⟩::⟨3,[42],0,38⟩::⟨2,[50],2,40⟩::⟨3,[59],0,41⟩::⟨3,[125],0,43⟩::r) =
  some (okB [s1] r):=by
 rw[qat,zaaa,show fuel=1180591620717411303423+1 from rfl];show qat_f _ _=_;unfold qat_f;have h1:hit [123] ⟨3,[123],0,22⟩=true:=by decide
 have h2:hit [125] ⟨1,[114],0,24⟩=false:=by decide
 have h3:hit [125] ⟨3,[125],0,43⟩=true:=by decide
 rw[want1,h1,cond_true,Option.bind_some];dsimp only;rw[qat_l3,zaaa,show fuel=1180591620717411303422+1+1 from rfl];have e2:∀ B f,qat_i3 B (f+1) (⟨3,[125],0,43⟩::r) [s1]=some (.inr (r,[s1])):=by
  intro B f;show qat_t3 B _ _ _=_;unfold qat_t3;rw[took1,h3,qa];rfl
 have e1:∀ B f,qat_i3 B (f+1+1) (⟨1,[114],0,24⟩::⟨3,[60,45],0,26⟩::⟨4,[97,100,100],0,29⟩::⟨1,[120],0,33⟩::⟨3,[45],0,35⟩::⟨2,[49],1,36⟩::⟨3,[42],0,38⟩::⟨2,[50],2,40⟩::⟨3,[59],0,41⟩::⟨3,[125],0,43⟩::r) []=some (.inr (r,[s1])):=by
  intro B f;show qat_t3 B (qat_i3 B (f+1)) _ _=_;unfold qat_t3;rw[took1,h2,Option.bind_some];simp only[Bool.not_false,cond_true,cond_false];rw[stmt1,Option.bind_some];dsimp only[okS];rw[zag7,decide_eq_true (by decide),cond_true,List.nil_append,e2]
 rw[e1];rfl
def g1:TProg:=⟨[⟨[120],-3⟩],[],[⟨[116],[s1]⟩]⟩
theorem prog1:qaA tk1=some (okP g1 [⟨5,[],0,44⟩]):=by
 rw[qaA,zaaa];unfold qaA_f;rw[qaA_l2,zaaa,show fuel=1180591620717411303421+1+1+1 from rfl];have a3:∀ f,qaA_i2 (f+1) [⟨5,[],0,44⟩] [⟨[120],-3⟩] [] [⟨[116],[s1]⟩]=some (ok2 g1 [⟨5,[],0,44⟩]):=by
  intro f;show qaA_t2 _ _ _ _ _=_;unfold qaA_t2;rw[next1,qa];rfl
 have a2:∀ f,qaA_i2 (f+1+1) (⟨4,[116,104,114,101,97,100],0,13⟩::⟨1,[116],0,20⟩::⟨3,[123],0,22⟩::⟨1,[114],0,24⟩::⟨3,[60,45],0,26⟩::⟨4,[97,100,100],0,29⟩::⟨1,[120],0,33⟩::⟨3,[45],0,35⟩::⟨2,[49],1,36⟩::⟨3,[42],0,38⟩::⟨2,[50],2,40⟩::⟨3,[59],0,41⟩::⟨3,[125],0,43⟩::[⟨5,[],0,44⟩]) [⟨[120],-3⟩] [] []=some (ok2 g1 [⟨5,[],0,44⟩]):=by
  intro f;show qaA_t2 (qaA_i2 (f+1)) _ _ _ _=_;unfold qaA_t2;have h0:((4:Int) != 5)=true:=rfl;have h1:hit [99,101,108,108] ⟨4,[116,104,114,101,97,100],0,13⟩=false:=by decide
  have h2:hit [109,117,116,101,120] ⟨4,[116,104,114,101,97,100],0,13⟩=false:=by decide
  have h3:hit [116,104,114,101,97,100] ⟨4,[116,104,114,101,97,100],0,13⟩=true:=by decide
  rw[next1,Option.bind_some];dsimp only;simp only[h0,took1,h1,h2,want1,h3,name2,cond_true,cond_false,Option.bind_some];rw[za04,Option.bind_some];dsimp only[okB];rw[List.nil_append,a3];rfl
 have a1:∀ f,qaA_i2 (f+1+1+1) tk1 [] [] []=some (ok2 g1 [⟨5,[],0,44⟩]):=by
  intro f;show qaA_t2 (qaA_i2 (f+1+1)) _ _ _ _=_;unfold qaA_t2 tk1;have h0:((4:Int) != 5)=true:=rfl;have h1:hit [99,101,108,108] ⟨4,[99,101,108,108],0,0⟩=true:=by decide
  have h2:hit [61] ⟨3,[61],0,7⟩=true:=by decide
  have h3:hit [45] ⟨3,[45],0,9⟩=true:=by decide
  have h5:hit [59] ⟨3,[59],0,11⟩=true:=by decide
  rw[next1,Option.bind_some];dsimp only;simp only[h0,took1,h1,h2,h3,of2,want1,h5,name2,cond_true,cond_false,Option.bind_some];rw[List.nil_append,show (IntKind.i64.wrap ((0:Int)-3))=-3 by decide,a2];rfl
 rw[a1];rfl
def e2:TExpr:=⟨12,0,[],[⟨2,0,[97],[]⟩,⟨2,0,[98],[]⟩]⟩
theorem zazn (B:List Token->Option RB) (t:Token) (r:List Token) (h:∀ w∈four,hit w t=false):∀ (k f i:Nat),i+k=4->k<f ->
  qaC_i4 B f 4 i (t::r) 0 [] [] 0 0 [] 0 four=some (okO none (t::r)):=by
 intro k;induction k with
 |zero=>
  intro f i hi hf;obtain ⟨f,rfl⟩:∃ q,f=q+1:=⟨f-1,by omega⟩;show qaC_t4 B (qaC_i4 B f) 4 i (t::r) 0 [] [] 0 0 [] 0 four=_;unfold qaC_t4;have e1:decide ((i:Int)<4)=false:=by simp only[ya]; omega
  rw[e1];rfl
 |succ k ih=>
  intro f i hi hf;obtain ⟨f,rfl⟩:∃ q,f=q+1:=⟨f-1,by omega⟩;show qaC_t4 B (qaC_i4 B f) 4 i (t::r) 0 [] [] 0 0 [] 0 four=_;unfold qaC_t4;have e1:decide ((i:Int)<4)=true:=by simp only[qj]; omega
  have e2:(decide ((0:Int)<=(i:Int))&&decide ((i:Int)<(↑(List.length four):Int)))=true:=by
   simp only[qd,qj];exact ⟨by omega,by show (i:Int)<4; omega⟩
  have hlt:(i:Int).toNat<four.length:=by show (i:Int).toNat<4; omega
  have hw:=h four[(i:Int).toNat] (List.getElem_mem hlt);rw[e1,e2,cond_true,cond_true,List.getElem?_eq_getElem hlt,Option.bind_some,took1,hw,Option.bind_some];dsimp only[cond_false];rw[i64_in ((i:Int)+1) (by omega)];exact ih f (i+1) (by omega) (by omega)
theorem stmt2 (B:List Token->Option RB) (r:List Token):qaC B (⟨4,[97,115,115,101,114,116],0,11⟩::⟨1,[97],0,18⟩::⟨3,[60],0,20⟩::⟨1,[98],0,22⟩::⟨3,[60],0,24⟩::r)=some (.inr ⟨24⟩):=by
 rw[qaC,zaaa];unfold qaC_f;have h6:((4:Int)==1)=false:=rfl;have h1:hit [97,115,115,101,114,116] ⟨4,[97,115,115,101,114,116],0,11⟩=true:=by decide
 have h2:hit [59] ⟨3,[60],0,24⟩=false:=by decide
 rw[next1,Option.bind_some];dsimp only;rw[h6,cond_false,qaC_l4,zaaa];have hf:=zazn B ⟨4,[97,115,115,101,114,116],0,11⟩ (⟨1,[97],0,18⟩::⟨3,[60],0,20⟩::⟨1,[98],0,22⟩::⟨3,[60],0,24⟩::r) (by decide) 4 fuel 0 rfl (by unfold fuel; omega);rw[show ((0:Nat):Int)=0 from rfl] at hf;rw[show (↑(4:Nat):Int)=4 from rfl,hf,Option.bind_some];dsimp only[okO];rw[took1,h1,Option.bind_some];dsimp only[cond_true];rw[zati _ _ _ (ex10 r _),Option.bind_some];dsimp only[okE];rw[want1,h2,cond_false,Option.bind_some]
theorem za0t (r:List Token):qat (⟨3,[123],0,9⟩::⟨4,[97,115,115,101,114,116],0,11⟩::⟨1,[97],0,18⟩::⟨3,[60],0,20⟩::⟨1,[98],0,22⟩::⟨3,[60],0,24⟩::r)=some (.inr ⟨24⟩):=by
 rw[qat,zaaa,show fuel=1180591620717411303423+1 from rfl];show qat_f _ _=_;unfold qat_f;have h1:hit [123] ⟨3,[123],0,9⟩=true:=by decide
 have h2:hit [125] ⟨4,[97,115,115,101,114,116],0,11⟩=false:=by decide
 rw[want1,h1,cond_true,Option.bind_some];dsimp only;rw[qat_l3,zaaa,show fuel=1180591620717411303423+1 from rfl];have e1:∀ B f,qat_i3 B (f+1) (⟨4,[97,115,115,101,114,116],0,11⟩::⟨1,[97],0,18⟩::⟨3,[60],0,20⟩::⟨1,[98],0,22⟩::⟨3,[60],0,24⟩::r) []=some (.inl ⟨24⟩):=by
  intro B f;show qat_t3 B (qat_i3 B f) _ _=_;unfold qat_t3;rw[took1,h2,qa];simp only[xd,qg,qf];rw[stmt2,qa]
 rw[e1];rfl
theorem prog2:qaA tk2=some (.inr ⟨24⟩):=by
 rw[qaA,zaaa];unfold qaA_f;rw[qaA_l2,zaaa,show fuel=1180591620717411303423+1 from rfl];have a1:∀ f,qaA_i2 (f+1) tk2 [] [] []=some (.inl ⟨24⟩):=by
  intro f;show qaA_t2 (qaA_i2 f) _ _ _ _=_;unfold qaA_t2 tk2;have h0:((4:Int) != 5)=true:=rfl;have h1:hit [99,101,108,108] ⟨4,[116,104,114,101,97,100],0,0⟩=false:=by decide
  have h2:hit [109,117,116,101,120] ⟨4,[116,104,114,101,97,100],0,0⟩=false:=by decide
  have h3:hit [116,104,114,101,97,100] ⟨4,[116,104,114,101,97,100],0,0⟩=true:=by decide
  rw[next1,Option.bind_some];dsimp only;simp only[h0,took1,h1,h2,want1,h3,name2,cond_true,cond_false,Option.bind_some];rw[za0t,Option.bind_some]
 rw[a1];rfl
theorem za06:qar tx1=some (rr g1 ⟨0,0,[]⟩):=by
 rw[zaq2 lex1 prog1 (by decide)];unfold fin;rw[if_neg (by decide +kernel),if_neg (by decide +kernel)]
theorem za01:qar tx2=some (rr ⟨[],[],[]⟩ ⟨40,24,[]⟩):=zaow lex2 prog2
theorem za02:qaM=some true:=by
 rw[qaM,zaaa];unfold qaM_f;have h1:=za06;have h2:=za01;unfold tx1 at h1;unfold tx2 at h2;rw[h1,qa,h2,qa];rfl
theorem zaw1:∀ (l:List TThread) (i:Nat) (x y:TThread),l[i]? = some x->nT (l.set i y)+nSs x.body=nT l+nSs y.body
 |[],i,x,y,h=>by simp at h
 |a::l,0,x,y,h=>by
  simp only[List.getElem?_cons_zero,qk] at h;subst h;simp only[List.set_cons_zero,nT];omega
 |a::l,i+1,x,y,h=>by
  rw[List.getElem?_cons_succ] at h;have:=zaw1 l i x y h;simp only[List.set_cons_succ,nT];omega
theorem zapi {a:Int} {n:Nat} (ha:0<=a) (hn:0<n):0<=Int.tmod a (n:Int)/\Int.tmod a (n:Int)<(n:Int):=
 ⟨Int.tmod_nonneg _ ha,Int.tmod_lt_of_pos _ (by omega)⟩
theorem zatz (p:TProg) (h:nT p.threads<=100000000) (h1:p.cells.length<=100000000) (h2:p.mutexes.length<=100000000):qbc p p=some true:=by
 rw[zayx p p h h1 h2,zazd]
theorem parseRight1 (a:List UInt8) (x y:Int):qaH a x y=some true:=by
 rw[qaH,zaaa];unfold qaH_f;rw[za02,qa];rcases zasv a with ⟨f,h1,h2⟩|⟨p,h1,h2,hr,n1,n2,n3,n4⟩
 ·rw[h1,qa];have:(f.code != 0)=true:=by simpa using h2
  simp only[rr,this,xf,qf,qa,qg]
 ·have hR:qbL p=some 0:=by rw[zavu p (by omega) (by omega) (by omega),hr]
  have hC:=zaz2 p (by omega) (by omega) (by omega);have hS:=zatz p (by omega) (by omega) (by omega);have ePR:rr p ⟨0,0,[]⟩=((⟨0,0,[]⟩:Fault),p.cells,p.mutexes,p.threads):=rfl;rw[h1,Option.bind_some,ePR];have c0:(((0:Int)) != 0)=false:=rfl;have c1:(((0:Int))==0)=true:=rfl;dsimp only;simp only[c0,Bool.not_true,cond_false,Option.bind_some];rw[zafd,hR,Option.bind_some];simp only[c0,cond_false];by_cases hn:p.threads.length=0
  ·have e:((p.threads.length:Int)==0)=true:=by simp[hn]
   simp only[e,qa,qg,c1]
  have e:((p.threads.length:Int)==0)=false:=by rw[beq_eq_false_iff_ne]; omega
  by_cases hx:x<0
  ·simp only[e,qa,qf,qm hx,qg,c1]
  by_cases hy:y<0
  ·simp only[e,qa,qf,qn hx,qm hy,qg,c1]
  simp only[e,Option.bind_some,cond_false,decide_eq_false hx,decide_eq_false hy];rw[hC,Option.bind_some];dsimp only;obtain ⟨i0,i1⟩:=zapi (a:=x) (n:=p.threads.length) (by omega) (by omega);generalize Int.tmod x (p.threads.length:Int)=i at i0 i1;have hlt:i.toNat<p.threads.length:=by omega
  have hget:p.threads[i.toNat]? = some p.threads[i.toNat]:=xp hlt;generalize p.threads[i.toNat]=t at hget;have hmem:t∈p.threads:=List.mem_of_getElem? hget;have hbody:=zafn hmem;have tail:∀ b:Bool,b=true->(Option.bind (qbi a) fun y16=>
    Option.bind (qbc p (TProg.mk (Prod.fst (Prod.snd y16)) (Prod.fst (Prod.snd (Prod.snd y16))) (Prod.snd (Prod.snd (Prod.snd y16))))) fun y17=>
    Option.bind (α:=Bool) (
      bif b then
       some ((0:Int)==(0:Int))
      else
       some (false)) fun y18=>
    Option.bind (α:=Bool) (
      bif y18 then
       some ((0:Int)==(0:Int))
      else
       some (false)) fun y19=>
    Option.bind (α:=Bool) (
      bif y19 then
       some (y17)
      else
       some (false)) fun y20=>
    some (y20))=some true:=by
   intro b hb;rw[h2,Option.bind_some,ePR];dsimp only;rw[zafd,hS,Option.bind_some,hb];rfl
  rw[qm i0,qm i1,Bool.and_self,qg,hget,qa];by_cases hb:t.body.length=0
  ·have e1:decide ((t.body.length:Int)>0)=false:=by rw[ya]; omega
   have e2:p.threads.set i.toNat (TThread.mk t.name t.body)=p.threads:=by
    apply List.ext_getElem?;intro j;by_cases hj:i.toNat=j
    ·subst hj; rw[List.getElem?_set_self hlt,hget]
    ·rw[List.getElem?_set_ne hj]
   rw[e1,qf,e2,zafd,hS,qa];exact tail true rfl
  have e1:decide ((t.body.length:Int)>0)=true:=by rw[decide_eq_true_iff]; omega
  have e2:((t.body.length:Int)==0)=false:=by rw[beq_eq_false_iff_ne]; omega
  rw[e1,qg,e2,qf];obtain ⟨j0,j1⟩:=zapi (a:=y) (n:=t.body.length) (by omega) (by omega);generalize Int.tmod y (t.body.length:Int)=j at j0 j1;have hbl:=zacj t.body;have hjlt:j.toNat<t.body.length:=by omega
  have hjget:t.body[j.toNat]? = some t.body[j.toNat]:=xp hjlt;generalize t.body[j.toNat]=s at hjget;obtain ⟨s',z,hm,hsz⟩:=zazp j.toNat t.body s hjget (by omega);have hsm:=zaed (List.mem_of_getElem? hjget);have ew:decide (IntKind.wrap IntKind.i64 (j+1)=j+1)=true:=by rw[i64_in _ (by omega)]; simp
  have e3:(decide ((0:Int)<=0)&&decide ((0:Int)<(([s',z]:List TStmt).length:Int)))=true:=rfl;rw[decide_eq_true j0,decide_eq_true j1,ew,Bool.and_self,Bool.and_self,Bool.and_self,cond_true,hm,Option.bind_some,cond_true,Option.bind_some];dsimp only;rw[e3,cond_true,show ([s',z]:List TStmt)[(0:Nat)]? = some s' from rfl,Option.bind_some,Bool.true_and,decide_eq_true j1,cond_true,hjget,Option.bind_some,zag7];have hq:=zaw1 p.threads i.toNat t (TThread.mk t.name (t.body.set j.toNat s')) hget;have hq2:nSs (t.body.set j.toNat s')<=9*nSs t.body:=by
   have:=zamg nS s' t.body j.toNat s hjget;rw[<-zahb,<-zahb] at this;omega
  rw[zatz _ (by dsimp only at hq ⊢; omega) (by dsimp only; omega) (by dsimp only; omega),Option.bind_some];exact tail true rfl
end Lift.A4
