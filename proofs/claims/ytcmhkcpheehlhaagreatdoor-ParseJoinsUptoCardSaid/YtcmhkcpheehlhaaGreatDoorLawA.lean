/-
  DERIVED. The Lean functions answer as the laws say. Conditions: as each theorem says.
-/
import Derived.Test.YtcmhkcpheehlhaaGreatDoorWalk
import Derived.IntWalk
set_option linter.unusedVariables false
set_option linter.unusedSimpArgs false
set_option linter.unusedSectionVars false
namespace Lift.A1P
open Go Go.RowKit Lift Go.IntWalk
namespace Sp
def isRune (r:Int):Bool:=decide (0≤r∧r≤1114111∧(r<55296∨r>57343))
def letter (r:Int):Bool:=isRune r&&decide ((65≤r∧r≤90)∨r=95∨(97≤r∧r≤122)∨192≤r)
def digit (r:Int):Bool:=decide (48≤r∧r≤57)
def blank (r:Int):Bool:=decide (r=9∨r=10∨r=13∨r=32)
def long (r:Int):Int:=if r<128 then 1 else if r<2048 then 2 else if r<65536 then 3 else 4
def enc (r:Int):List Int:=
 if r<128 then [r] else if r<2048 then [192+r / 64,128+r % 64] else if r<65536 then [224+r / 4096,128+r / 64 % 64,128+r % 64]
 else [240+r / 262144,128+r / 4096 % 64,128+r / 64 % 64,128+r % 64]
def dc (t:List UInt8) (p:Nat):Nat×Nat:=Utf8.decode ⟨t.toArray⟩ p
def bad (t:List UInt8) (p:Nat):Bool:=decide ((dc t p).1=65533)&&!(((t.take (min t.length (p+3))).drop p)==[239,191,189])
def at1 (t:List UInt8) (p:Int):Int:=if bad t p.toNat then 0 else ((dc t p.toNat).1:Int)
def at2 (t:List UInt8) (p:Int):Int:=if bad t p.toNat then 0 else ((dc t p.toNat).2:Int)
def on (s:Spot) (r n:Int):Spot:=if r=10 then ⟨s.rune,s.at_+n,s.line+1,1⟩ else ⟨s.rune,s.at_+n,s.line,s.col+1⟩
def spotsFrom (t:List UInt8):Nat→List Spot→Spot→List Spot×Spot
 |0,acc,s=>(acc,s)
 | n + 1, acc, s => if s.at_ < t.length then (if bad t s.at_.toNat then (acc, s) else
   spotsFrom t n (acc++[⟨at1 t s.at_,s.at_,s.line,s.col⟩]) (on ⟨at1 t s.at_,s.at_,s.line,s.col⟩ (at1 t s.at_) (at2 t s.at_))) else (acc,s)
def ended (s:Spot):Spot:=⟨-1,s.at_,s.line,s.col⟩
def spots1 (t:List UInt8):List Spot:=(spotsFrom t t.length [] ⟨0,0,1,1⟩).1
def spots2 (t:List UInt8):Spot:=ended (spotsFrom t t.length [] ⟨0,0,1,1⟩).2
def runes1 (t:List UInt8):List Spot:=if 4000<t.length then [] else if (spots2 t).at_<t.length then [] else spots1 t
def runes2 (t:List UInt8):Fault:=if 4000<t.length then ⟨10,4000,[]⟩ else if (spots2 t).at_<t.length then ⟨11,(spots2 t).at_,[]⟩ else ⟨0,0,[]⟩
def same (a b:List Spot):Bool:=decide (a=b)
end Sp
namespace Sp
def by_ (l:List UInt8) (k:Nat):Nat:=(l.getD k 0).toNat
def ct (l:List UInt8) (k:Nat):Bool:=decide (k<l.length)&&(by_ l k / 64==2)
def dl (l:List UInt8):Nat×Nat:=
 if by_ l 0<0x80 then (by_ l 0,1)
 else if by_ l 0 / 32 == 6 && ct l 1 then
  if (by_ l 0 % 32)*64+by_ l 1 % 64≥0x80 then ((by_ l 0 % 32)*64+by_ l 1 % 64,2) else (65533,1)
 else if by_ l 0 / 16 == 14 && ct l 1 && ct l 2 then
  if (by_ l 0 % 16)*4096+(by_ l 1 % 64)*64+by_ l 2 % 64≥0x800&&Utf8.valid (((by_ l 0 % 16)*4096+(by_ l 1 % 64)*64+by_ l 2 % 64:Nat):Int) then ((by_ l 0 % 16)*4096+(by_ l 1 % 64)*64+by_ l 2 % 64,3) else (65533,1)
 else if by_ l 0 / 8 == 30 && ct l 1 && ct l 2 && ct l 3 then
  if (by_ l 0 % 8)*262144+(by_ l 1 % 64)*4096+(by_ l 2 % 64)*64+by_ l 3 % 64≥0x10000&&Utf8.valid (((by_ l 0 % 8)*262144+(by_ l 1 % 64)*4096+(by_ l 2 % 64)*64+by_ l 3 % 64:Nat):Int) then ((by_ l 0 % 8)*262144+(by_ l 1 % 64)*4096+(by_ l 2 % 64)*64+by_ l 3 % 64,4) else (65533,1)
 else (65533,1)
def badl (l:List UInt8):Bool:=decide ((dl l).1=65533)&&!(l.take 3==[239,191,189])
theorem zavs (t:List UInt8) (q k:Nat):by_ (t.drop q) k=(t.getD (q+k) 0).toNat:=by
 simp[by_,List.getD_eq_getElem?_getD]
theorem dc_eq (t:List UInt8) (q:Nat):dc t q=dl (t.drop q):=by
 have hb:∀ k,((⟨t.toArray⟩:ByteArray).get! (q+k)).toNat=by_ (t.drop q) k:=by
  intro k;rw[zavs];simp[ByteArray.get!,List.getD_eq_getElem?_getD,getElem!_def];cases t[q+k]?<;>rfl
 have hs:(⟨t.toArray⟩:ByteArray).size=t.length:=by simp[ByteArray.size]
 have hc:∀ k,(decide (q+k<t.length)&&((by_ (t.drop q) k) / 64==2))=ct (t.drop q) k:=by
  intro k;unfold ct;have:(q+k<t.length)↔(k<(t.drop q).length):=by simp; omega
  simp only[this]
 unfold dc Utf8.decode;simp only[hb,hs,hc];unfold dl;rfl
theorem bad_eq (t:List UInt8) (q:Nat):bad t q=badl (t.drop q):=by
 unfold bad badl;rw[dc_eq];congr 2;have:(t.take (min t.length (q+3))).drop q=(t.drop q).take 3:=by
  have h1:t.take (min t.length (q+3))=t.take (q+3):=by
   rcases Nat.le_total t.length (q+3) with h|h
   ·rw[Nat.min_eq_left h,List.take_of_length_le h,List.take_of_length_le (Nat.le_refl _)]
   ·rw[Nat.min_eq_right h]
  rw[h1,List.drop_take];simp
 rw[this]
end Sp
namespace Sp
theorem take3 (l:List UInt8):(l.take 3==[239,191,189])=decide (3≤l.length∧by_ l 0=239∧by_ l 1=191∧by_ l 2=189):=by
 have e:∀ (a b:UInt8),(a==b)=decide (a.toNat=b.toNat):=fun a b=>by
  rw[Bool.eq_iff_iff]; simp[UInt8.toNat_inj]
 match l with
 |[]=>simp[by_]
 |[a]=>simp[by_]
 |[a,b]=>simp[by_]
 |a::b::c::r=>
  have:List.take 3 (a::b::c::r)=[a,b,c]:=rfl;rw[this];rw[Bool.eq_iff_iff];simp[by_,← UInt8.toNat_inj]
end Sp
def ansA (n b0 b1 b2 b3:Nat):Int×Int:=
 let ok (r:Int) (k:Int):Int×Int:=if (0≤r∧r≤1114111∧(r<55296∨r>57343))∧Sp.long r=k then (r,k) else (0,0)
 if 240≤b0 then (if n<4 then (0,0) else if b1<128∨191<b1 then (0,0) else if b2<128∨191<b2 then (0,0) else if b3<128∨191<b3 then (0,0) else ok (64*(64*(64*(b0-240)+b1-128)+b2-128)+b3-128) 4)
 else if 224≤b0 then (if n<3 then (0,0) else if b1<128∨191<b1 then (0,0) else if b2<128∨191<b2 then (0,0) else ok (64*(64*(b0-224)+b1-128)+b2-128) 3)
 else if 192≤b0 then (if n<2 then (0,0) else if b1<128∨191<b1 then (0,0) else ok (64*(b0-192)+b1-128) 2)
 else if 128≤b0 then (0,0) else (b0,1)
theorem zagw (r:Int):Utf8.valid r=true↔(0≤r∧r<55296)∨(57344≤r∧r≤1114111):=by
 unfold Utf8.valid;simp only[Bool.or_eq_true,Bool.and_eq_true,decide_eq_true_eq]
theorem zaub (l:List UInt8) (hl:0<l.length):ansA l.length (Sp.by_ l 0) (Sp.by_ l 1) (Sp.by_ l 2) (Sp.by_ l 3)=if Sp.badl l then (0,0) else (((Sp.dl l).1:Int),((Sp.dl l).2:Int)):=by
 have hb:∀ k,Sp.by_ l k<256:=fun k=>(l.getD k 0).toNat_lt
 have h0:=hb 0;have h1:=hb 1;have h2:=hb 2;have h3:=hb 3;unfold Sp.badl;rw[Sp.take3];obtain ⟨D,hD⟩:∃ D,D=Sp.dl l:=⟨_,rfl⟩;rw[← hD];unfold Sp.dl Sp.ct at hD;generalize Sp.by_ l 0=b0 at *;generalize Sp.by_ l 1=b1 at *;generalize Sp.by_ l 2=b2 at *;generalize Sp.by_ l 3=b3 at *;generalize l.length=n at *;clear hb;have small:∀ r:Int,r<128→Sp.long r=1:=fun r h=>by unfold Sp.long; rw[if_pos h]
 have two:∀ r:Int,128≤r→r<2048→Sp.long r=2:=fun r h h'=>by unfold Sp.long; rw[if_neg (by omega),if_pos h']
 have three:∀ r:Int,2048≤r→r<65536→Sp.long r=3:=fun r h h'=>by unfold Sp.long; rw[if_neg (by omega),if_neg (by omega),if_pos h']
 have four:∀ r:Int,65536≤r→Sp.long r=4:=fun r h=>by unfold Sp.long; rw[if_neg (by omega),if_neg (by omega),if_neg (by omega)]
 simp only[Bool.and_eq_true,decide_eq_true_eq,beq_iff_eq,zagw,ge_iff_le] at hD;simp only[Bool.and_eq_true,decide_eq_true_eq,Bool.not_eq_true',decide_eq_false_iff_not];have good:∀ (r k:Nat),D=(r,k)→¬ (r=65533∧¬ (3≤n∧b0=239∧b1=191∧b2=189))→(if D.1=65533∧¬ (3≤n∧b0=239∧b1=191∧b2=189) then ((0:Int),(0:Int)) else (↑D.1,↑D.2))=((r:Int),(k:Int)):=by
  intro r k h1 h2;rw[h1];exact if_neg h2
 have badd:D=(65533,1)→¬ (3≤n∧b0=239∧b1=191∧b2=189)→(if D.1=65533∧¬ (3≤n∧b0=239∧b1=191∧b2=189) then ((0:Int),(0:Int)) else (↑D.1,↑D.2))=(0,0):=by
  intro h1 h2;rw[h1];exact if_pos ⟨rfl,h2⟩
 unfold ansA;by_cases k0:b0<128
 ·rw[if_neg (by omega),if_neg (by omega),if_neg (by omega),if_neg (by omega)];rw[if_pos k0] at hD;rw[good _ _ hD (by omega)];rfl
 rw[if_neg k0] at hD;by_cases k1:b0<192
 ·rw[if_neg (by omega),if_neg (by omega),if_neg (by omega),if_pos (by omega)];rw[if_neg (by omega),if_neg (by omega),if_neg (by omega)] at hD;rw[badd hD (by omega)]
 by_cases k2:b0<224
 ·rw[if_neg (by omega),if_neg (by omega),if_pos (by omega)];by_cases c1:n<2
  ·rw[if_neg (by omega),if_neg (by omega),if_neg (by omega)] at hD;rw[if_pos c1,badd hD (by omega)]
  rw[if_neg c1];by_cases c2:b1<128∨191<b1
  ·rw[if_neg (by omega),if_neg (by omega),if_neg (by omega)] at hD;rw[if_pos c2,badd hD (by omega)]
  rw[if_neg c2];rw[if_pos (by omega)] at hD;by_cases c3:128≤b0 % 32*64+b1 % 64
  ·rw[if_pos c3] at hD;rw[good _ _ hD (by omega)];have:=two (64*((b0:Int)-192)+b1-128) (by omega) (by omega);show (if _ then _ else _)=_;rw[if_pos ⟨by omega,this⟩];simp only[Prod.mk.injEq];omega
  ·rw[if_neg c3] at hD;rw[badd hD (by omega)];show (if _ then _ else _)=_;rw[if_neg];intro hh;have:=small (64*((b0:Int)-192)+b1-128) (by omega);omega
 by_cases k3:b0<240
 ·rw[if_neg (by omega),if_pos (by omega)];by_cases c1:n<3
  ·rw[if_neg (by omega),if_neg (by omega),if_neg (by omega)] at hD;rw[if_pos c1,badd hD (by omega)]
  rw[if_neg c1];by_cases c2:b1<128∨191<b1
  ·rw[if_neg (by omega),if_neg (by omega),if_neg (by omega)] at hD;rw[if_pos c2,badd hD (by omega)]
  rw[if_neg c2];by_cases c3:b2<128∨191<b2
  ·rw[if_neg (by omega),if_neg (by omega),if_neg (by omega)] at hD;rw[if_pos c3,badd hD (by omega)]
  rw[if_neg c3];rw[if_neg (by omega),if_pos (by omega)] at hD;have hv:(64*(64*((b0:Int)-224)+b1-128)+b2-128)=((b0 % 16*4096+b1 % 64*64+b2 % 64:Nat):Int):=by omega
  show (if _ then _ else _)=_;rw[hv];obtain ⟨N,hN⟩:∃ N,N=b0 % 16*4096+b1 % 64*64+b2 % 64:=⟨_,rfl⟩;rw[← hN] at hD ⊢;by_cases c4:2048≤N∧(0≤(N:Int)∧(N:Int)<55296∨57344≤(N:Int)∧(N:Int)≤1114111)
  ·rw[if_pos c4] at hD;have h5:=three (N:Int) (by omega) (by omega);rw[good N 3 hD (by omega),if_pos (And.intro (by omega) h5)];exact Prod.ext rfl rfl
  ·rw[if_neg c4] at hD;rw[badd hD (by omega),if_neg];intro hh;by_cases c5:N<128
   ·have:=small (N:Int) (by omega); omega
   by_cases c6:N<2048
   ·have:=two (N:Int) (by omega) (by omega); omega
   ·omega
 ·rw[if_pos (by omega)];by_cases c1:n<4
  ·rw[if_neg (by omega),if_neg (by omega),if_neg (by omega)] at hD;rw[if_pos c1,badd hD (by omega)]
  rw[if_neg c1];by_cases c2:b1<128∨191<b1
  ·rw[if_neg (by omega),if_neg (by omega),if_neg (by omega)] at hD;rw[if_pos c2,badd hD (by omega)]
  rw[if_neg c2];by_cases c3:b2<128∨191<b2
  ·rw[if_neg (by omega),if_neg (by omega),if_neg (by omega)] at hD;rw[if_pos c3,badd hD (by omega)]
  rw[if_neg c3];by_cases c3':b3<128∨191<b3
  ·rw[if_neg (by omega),if_neg (by omega),if_neg (by omega)] at hD;rw[if_pos c3',badd hD (by omega)]
  rw[if_neg c3'];rw[if_neg (by omega),if_neg (by omega)] at hD;have hv:(64*(64*(64*((b0:Int)-240)+b1-128)+b2-128)+b3-128)=(((b0-240)*262144+(b1-128)*4096+(b2-128)*64+(b3-128):Nat):Int):=by omega
  show (if _ then _ else _)=_;rw[hv];by_cases k4:b0<248
  ·rw[if_pos (by omega)] at hD;have hm:b0 % 8*262144+b1 % 64*4096+b2 % 64*64+b3 % 64=(b0-240)*262144+(b1-128)*4096+(b2-128)*64+(b3-128):=by omega
   rw[hm] at hD;obtain ⟨N,hN⟩:∃ N,N=(b0-240)*262144+(b1-128)*4096+(b2-128)*64+(b3-128):=⟨_,rfl⟩;rw[← hN] at hD ⊢;by_cases c4:65536≤N∧(0≤(N:Int)∧(N:Int)<55296∨57344≤(N:Int)∧(N:Int)≤1114111)
   ·rw[if_pos c4] at hD;have h5:=four (N:Int) (by omega);rw[good N 4 hD (by omega),if_pos (And.intro (by omega) h5)];exact Prod.ext rfl rfl
   ·rw[if_neg c4] at hD;rw[badd hD (by omega),if_neg];intro hh;by_cases c5:N<128
    ·have:=small (N:Int) (by omega); omega
    by_cases c6:N<2048
    ·have:=two (N:Int) (by omega) (by omega); omega
    by_cases c7:N<65536
    ·have:=three (N:Int) (by omega) (by omega); omega
    ·omega
  ·rw[if_neg (by omega)] at hD;rw[badd hD (by omega),if_neg];intro hh;omega
def zagi (t:List UInt8) (s:Spot):Prop:=t.length≤4000∧0≤s.at_∧s.at_≤t.length∧1≤s.line∧s.line≤s.at_+1∧1≤s.col∧s.col≤s.at_+1
noncomputable def zaav (t:List UInt8) (l:List Spot) (s:Spot):List Spot×Spot:=Sp.spotsFrom t (t.length-s.at_.toNat) l s
namespace Sp
theorem dl_pos (l:List UInt8) (h:0<l.length):1≤(dl l).2∧(dl l).2≤4∧(dl l).2≤l.length:=by
 unfold dl ct;simp only[Bool.and_eq_true,decide_eq_true_eq];repeat' split
 all_goals simp only
 all_goals omega
theorem ansA_ok (n b0 b1 b2 b3:Nat) (h:b0<256):ansA n b0 b1 b2 b3=(0,0)∨(isRune (ansA n b0 b1 b2 b3).1=true∧long (ansA n b0 b1 b2 b3).1=(ansA n b0 b1 b2 b3).2):=by
 unfold ansA;simp only;by_cases a1:240≤b0
 ·rw[if_pos a1];repeat' split
  all_goals first|exact .inl rfl|(rename_i hc; exact .inr ⟨by simpa only[isRune,decide_eq_true_eq] using hc.1,hc.2⟩)
 rw[if_neg a1];by_cases a2:224≤b0
 ·rw[if_pos a2];repeat' split
  all_goals first|exact .inl rfl|(rename_i hc; exact .inr ⟨by simpa only[isRune,decide_eq_true_eq] using hc.1,hc.2⟩)
 rw[if_neg a2];by_cases a3:192≤b0
 ·rw[if_pos a3];repeat' split
  all_goals first|exact .inl rfl|(rename_i hc; exact .inr ⟨by simpa only[isRune,decide_eq_true_eq] using hc.1,hc.2⟩)
 rw[if_neg a3];by_cases a4:128≤b0
 ·rw[if_pos a4]; exact .inl rfl
 rw[if_neg a4];exact .inr ⟨by simp only[isRune,decide_eq_true_eq]; omega,by unfold long; rw[if_pos (by omega)]⟩
theorem good_at {t:List UInt8} {p:Int} (hp:0≤p) (h:p<t.length) (hb:bad t p.toNat=false):isRune (at1 t p)=true∧long (at1 t p)=at2 t p∧1≤at2 t p∧at2 t p≤4∧p+at2 t p≤t.length ∧
  at1 t p=(dc t p.toNat).1∧at2 t p=(dc t p.toNat).2:=by
 have hl:0<(t.drop p.toNat).length:=by simp; omega
 obtain ⟨h1,h2,h3⟩:=dl_pos _ hl;have h4:=zaub _ hl;rw[← bad_eq,hb,← dc_eq] at h4;rw[← dc_eq] at h1 h2 h3;have hlen:((t.drop p.toNat).length:Int)=t.length-p:=by simp; omega
 unfold at1 at2;rw[hb];simp only[Bool.false_eq_true,if_false] at h4 ⊢;rcases ansA_ok (t.drop p.toNat).length (by_ (t.drop p.toNat) 0) (by_ (t.drop p.toNat) 1) (by_ (t.drop p.toNat) 2) (by_ (t.drop p.toNat) 3) ((t.drop p.toNat).getD 0 0).toNat_lt with h5|⟨h5,h6⟩
 ·rw[h4] at h5;simp only[Prod.mk.injEq] at h5;omega
 ·rw[h4] at h5 h6;exact ⟨h5,h6,by omega,by omega,by omega,by simp⟩
theorem fuel (t:List UInt8):∀ (n m:Nat) (l:List Spot) (s:Spot),0≤s.at_→t.length-s.at_.toNat≤n→t.length-s.at_.toNat≤m→spotsFrom t n l s=spotsFrom t m l s:=by
 intro n;induction n with
 |zero=>
  intro m l s h0 h1 h2;have hc:¬ s.at_<t.length:=by omega
  cases m with
  |zero=>rfl
  |succ m=>simp only[spotsFrom,if_neg hc]
 |succ n ih=>
  intro m l s h0 h1 h2;by_cases hc:s.at_<t.length
  ·cases m with
   |zero=>omega
   |succ m=>
    simp only[spotsFrom,if_pos hc];cases hb:bad t s.at_.toNat with
    |true=>rfl
    |false=>
     simp only[Bool.false_eq_true,if_false];obtain ⟨g1,g2,g3,g4,g5,_⟩:=good_at h0 hc hb;have ha:∀ x:Spot,(on x (at1 t s.at_) (at2 t s.at_)).at_=x.at_+at2 t s.at_:=fun x=>by unfold on; split<;>rfl
     refine ih m _ _ ?_ ?_ ?_<;>rw[ha]<;>simp only<;>omega
  ·cases m with
   |zero=>simp only[spotsFrom,if_neg hc]
   |succ m=>simp only[spotsFrom,if_neg hc]
end Sp
theorem zalo {t:List UInt8} {l:List Spot} {s:Spot} (h:¬ s.at_<t.length):zaav t l s=(l,s):=by
 unfold zaav;cases t.length-s.at_.toNat with
 |zero=>rfl
 |succ n=>simp only[Sp.spotsFrom,if_neg h]
theorem zast {t:List UInt8} {l:List Spot} {s:Spot} (hb:Sp.bad t s.at_.toNat=true):zaav t l s=(l,s):=by
 unfold zaav;cases t.length-s.at_.toNat with
 |zero=>rfl
 |succ n=>simp only[Sp.spotsFrom,hb,if_true]; split<;>rfl
def here (t:List UInt8) (s:Spot):Spot:=⟨Sp.at1 t s.at_,s.at_,s.line,s.col⟩
def after (t:List UInt8) (s:Spot):Spot:=Sp.on (here t s) (Sp.at1 t s.at_) (Sp.at2 t s.at_)
theorem zaos (t:List UInt8) (s:Spot):(after t s).at_=s.at_+Sp.at2 t s.at_:=by
 unfold after Sp.on here;split<;>rfl
theorem zaqe {t:List UInt8} {l:List Spot} {s:Spot} (h0:0≤s.at_) (h:s.at_<t.length) (hb:Sp.bad t s.at_.toNat=false):zaav t l s=zaav t (l++[here t s]) (after t s):=by
 unfold zaav;obtain ⟨n,hn⟩:∃ n,t.length-s.at_.toNat=n+1:=⟨t.length-s.at_.toNat-1,by omega⟩;obtain ⟨g1,g2,g3,g4,g5,_⟩:=Sp.good_at h0 h hb;rw[hn];simp only[Sp.spotsFrom,if_pos h,hb,Bool.false_eq_true,if_false];have ha:=zaos t s;exact Sp.fuel t _ _ _ _ (by unfold after here at ha; omega) (by unfold after here at ha; omega) (Nat.le_refl _)
theorem zapf {t:List UInt8} {s:Spot} (h:zagi t s) (hlt:s.at_<t.length) (hb:Sp.bad t s.at_.toNat=false):zagi t (after t s):=by
 obtain ⟨h1,h2,h3,h4,h5,h6,h7⟩:=h;obtain ⟨g1,g2,g3,g4,g5,_⟩:=Sp.good_at h2 hlt hb;unfold zagi after Sp.on here;split<;>simp only<;>omega
theorem zat4 (t:List UInt8):∀ (n:Nat) (l:List Spot) (s s':Spot),Sp.ended s=Sp.ended s'→(Sp.spotsFrom t n l s).1=(Sp.spotsFrom t n l s').1∧Sp.ended (Sp.spotsFrom t n l s).2=Sp.ended (Sp.spotsFrom t n l s').2:=by
 intro n l s s' h;obtain ⟨r,a,b,c⟩:=s;obtain ⟨r',a',b',c'⟩:=s';simp only[Sp.ended,Spot.mk.injEq,true_and] at h;obtain ⟨rfl,rfl,rfl⟩:=h;cases n with
 |zero=>exact ⟨rfl,rfl⟩
 |succ n=>
  simp only[Sp.spotsFrom];split
  ·split
   ·exact ⟨rfl,rfl⟩
   ·exact ⟨rfl,rfl⟩
  ·exact ⟨rfl,rfl⟩
theorem zanw (t:List UInt8) (l:List Spot) (r r' a b c:Int):(zaav t l ⟨r,a,b,c⟩).1=(zaav t l ⟨r',a,b,c⟩).1∧(zaav t l ⟨r,a,b,c⟩).2.at_=(zaav t l ⟨r',a,b,c⟩).2.at_ ∧
  (zaav t l ⟨r,a,b,c⟩).2.line=(zaav t l ⟨r',a,b,c⟩).2.line∧(zaav t l ⟨r,a,b,c⟩).2.col=(zaav t l ⟨r',a,b,c⟩).2.col:=by
 have:=zat4 t (t.length-a.toNat) l ⟨r,a,b,c⟩ ⟨r',a,b,c⟩ rfl;unfold zaav;obtain ⟨h1,h2⟩:=this;simp only[Sp.ended,Spot.mk.injEq,true_and] at h2;exact ⟨h1,h2.1,h2.2.1,h2.2.2⟩
end Lift.A1P
namespace Lift.A1P
open Go Go.RowKit Lift Go.IntWalk Lift.Fn
theorem zajr {a b:Bool} (h:a=true↔b=true):some a=some b:=by rw[Bool.eq_iff_iff.2 h]
theorem zat2 (r:Int):qaH r=some (Sp.digit r):=by
 rw[qaH,zaaa];unfold qaH_f;simp only[cond_eq_ite];split;all_goals refine zajr ?_
 all_goals simp only[Sp.digit,decide_eq_true_eq,decide_eq_false_iff_not,Bool.false_eq_true,false_iff,Bool.not_eq_true] at *
 all_goals omega
theorem zaw3 (r:Int):qaG r=some (Sp.blank r):=by
 rw[qaG,zaaa];unfold qaG_f;simp only[cond_eq_ite];repeat' split
 all_goals refine zajr ?_
 all_goals simp only[Sp.blank,beq_iff_eq,decide_eq_true_eq,decide_eq_false_iff_not,Bool.false_eq_true,false_iff,true_iff,Bool.not_eq_true] at *
 all_goals omega
theorem zaw8 (r:Int):qa4 r=some (Sp.isRune r):=by
 rw[qa4,zaaa];unfold qa4_f;simp only[cond_eq_ite];repeat' split
 all_goals refine zajr ?_
 all_goals simp only[Sp.isRune,beq_iff_eq,decide_eq_true_eq,decide_eq_false_iff_not,Bool.false_eq_true,false_iff,true_iff,Bool.not_eq_true] at *
 all_goals omega
theorem zawn (r:Int):qaL r=some (Sp.isRune r):=by
 rw[qaL,zaaa];unfold qaL_f;simp only[cond_eq_ite];repeat' split
 ·simp only[decide_eq_true_eq] at *;rw[zaw8,i32_in r (by omega)];rfl
 all_goals refine zajr ?_
 all_goals simp only[Sp.isRune,beq_iff_eq,decide_eq_true_eq,decide_eq_false_iff_not,Bool.false_eq_true,false_iff,true_iff,Bool.not_eq_true] at *
 all_goals omega
theorem zavv (r:Int):qaI r=some (Sp.letter r):=by
 rw[qaI,zaaa];unfold qaI_f;simp only[cond_eq_ite,zawn,Option.bind_some];repeat' split
 all_goals refine zajr ?_
 all_goals simp only[Sp.letter,Sp.isRune,beq_iff_eq,Bool.and_eq_true,decide_eq_true_eq,decide_eq_false_iff_not,Bool.false_eq_true,false_iff,true_iff,Bool.not_eq_true] at *
 all_goals omega
theorem len1 (r:Int) (h:Sp.isRune r=true):qa3 r=some (Sp.long r):=by
 simp only[Sp.isRune,decide_eq_true_eq] at h;rw[qa3,zaaa];unfold qa3_f Sp.long;simp only[cond_eq_ite,decide_eq_true_eq];repeat' split
 all_goals first|rfl|omega
theorem zanu {t:List UInt8} {s:Spot} (h:zagi t s):0≤s.at_∧s.at_≤t.length∧t.length≤4000∧1≤s.line∧s.line≤s.at_+1∧1≤s.col∧s.col≤s.at_+1:=
 ⟨h.2.1,h.2.2.1,h.1,h.2.2.2.1,h.2.2.2.2.1,h.2.2.2.2.2.1,h.2.2.2.2.2.2⟩
theorem goneL (s:List UInt8) (a1 a2 a3 a4:Int):∀ (k n:Nat) (c2 c3 c4:Int) (pos:Nat) (l:List Spot),s.length-c2.toNat≤k→k<n→zagi s ⟨-1,c2,c3,c4⟩→(l.length:Int)≤c2→(pos:Int)=c2 →
  qaK_i4 n s a1 a2 a3 a4 (-1) c2 c3 c4 s pos l=some (if (zaav s l ⟨-1,c2,c3,c4⟩).2.at_<s.length then
   .inl (-1,(zaav s l ⟨-1,c2,c3,c4⟩).2.at_,(zaav s l ⟨-1,c2,c3,c4⟩).2.line,(zaav s l ⟨-1,c2,c3,c4⟩).2.col,(zaav s l ⟨-1,c2,c3,c4⟩).1)
   else .inr (a1,a2,a3,a4,-1,(zaav s l ⟨-1,c2,c3,c4⟩).2.at_,(zaav s l ⟨-1,c2,c3,c4⟩).2.line,(zaav s l ⟨-1,c2,c3,c4⟩).2.col,(zaav s l ⟨-1,c2,c3,c4⟩).1)):=by
 intro k;induction k with
 |zero=>
  intro n c2 c3 c4 pos l hk hn hok hl hp;obtain ⟨n,rfl⟩:∃ q,n=q+1:=⟨n-1,by omega⟩;have:=zanu hok;simp only at this;have c:¬ c2<s.length:=by omega
  have c':¬ pos<s.length:=by omega
  rw[zalo (s:=⟨-1,c2,c3,c4⟩) c,if_neg c];simp only[qaK_i4,qaK_t4,c',decide_false,cond_false]
 |succ k ih=>
  intro n c2 c3 c4 pos l hk hn hok hl hp;obtain ⟨n,rfl⟩:∃ q,n=q+1:=⟨n-1,by omega⟩;obtain ⟨h2,h3,h1,h4,h5,h6,h7⟩:=zanu hok;simp only at h2 h3 h4 h5 h6 h7;have hq:pos=c2.toNat:=by omega
  simp only[qaK_i4,qaK_t4];by_cases c:c2<s.length
  ·have hlt:pos<s.length:=by omega
   have hdc:Utf8.decode ⟨s.toArray⟩ pos=Sp.dc s c2.toNat:=by rw[hq]; rfl
   rw[hdc];rw[i64_in ((pos:Int)+3) (by omega)];have hmin:(if (pos:Int)+3<(s.length:Int) then (pos:Int)+3 else (s.length:Int))=(min s.length (c2.toNat+3):Nat):=by
    split<;>omega
   rw[hmin];have hslice:List.drop (Int.toNat (pos:Int)) (List.take (Int.toNat ((min s.length (c2.toNat+3):Nat):Int)) s)=(s.take (min s.length (c2.toNat+3))).drop c2.toNat:=by
    rw[Int.toNat_natCast,Int.toNat_natCast,hq]
   rw[hslice];have hbnd:(decide ((0:Int)≤(pos:Int))&&(decide ((pos:Int)≤(min s.length (c2.toNat+3):Nat))&&decide (((min s.length (c2.toNat+3):Nat):Int)≤(s.length:Int))))=true:=by
    simp only[Bool.and_eq_true,decide_eq_true_eq]; omega
   rw[hbnd];have hbad:Sp.bad s c2.toNat=(decide ((Sp.dc s c2.toNat).1=65533)&&!(((s.take (min s.length (c2.toNat+3))).drop c2.toNat)==[239,191,189])):=rfl;simp only[hlt,decide_true,cond_true];cases hb:Sp.bad s c2.toNat with
   |true=>
    rw[hb] at hbad;have hbad:=hbad.symm;simp only[Bool.and_eq_true,decide_eq_true_eq] at hbad;have e1:(((Sp.dc s c2.toNat).1:Int)==65533)=true:=by rw[beq_iff_eq]; omega
    rw[e1,hbad.2];simp only[cond_true];rw[zast (s:=⟨-1,c2,c3,c4⟩) hb,if_pos c]
   |false=>
    obtain ⟨g1,g2,g3,g4,g5,g6,g7⟩:=Sp.good_at h2 c hb;rw[zaqe (s:=⟨-1,c2,c3,c4⟩) h2 c hb];generalize hR:(some (ite ((zaav s (l++[here s ⟨-1,c2,c3,c4⟩]) (after s ⟨-1,c2,c3,c4⟩)).2.at_<(s.length:Int)) _ _):Option _)=R;have hk':=zapf hok c hb;have haf:=zaos s ⟨-1,c2,c3,c4⟩;simp only at haf;have hrune:Sp.isRune ((Sp.dc s c2.toNat).1:Int)=true:=by rw[← g6]; exact g1
    have hlong:Sp.long ((Sp.dc s c2.toNat).1:Int)=Sp.at2 s c2:=by rw[← g6]; exact g2
    have hr:(0:Int)≤(Sp.dc s c2.toNat).1∧((Sp.dc s c2.toNat).1:Int)≤1114111:=by
     simp only[Sp.isRune,decide_eq_true_eq] at hrune; omega
    rw[len1 _ hrune,hlong,Option.bind_some];rw[i64_in ((Sp.dc s c2.toNat).1:Int) (by omega),i64_in (c2+Sp.at2 s c2) (by omega),i64_in (c3+1) (by omega),i64_in (c4+1) (by omega)];have hhere:here s ⟨-1,c2,c3,c4⟩=⟨((Sp.dc s c2.toNat).1:Int),c2,c3,c4⟩:=by unfold here; rw[g6]
    have go:∀ (b3 b4:Int),(after s ⟨-1,c2,c3,c4⟩).line=b3→(after s ⟨-1,c2,c3,c4⟩).col=b4 →
      qaK_i4 n s a1 a2 a3 a4 (-1) (c2+Sp.at2 s c2) b3 b4 s (pos+(Sp.dc s c2.toNat).2) (l++[⟨((Sp.dc s c2.toNat).1:Int),c2,c3,c4⟩]) =
       R:=by
     intro b3 b4 e3 e4;rw[← hR];have hk2:zagi s ⟨-1,c2+Sp.at2 s c2,b3,b4⟩:=by
      obtain ⟨q1,q2,q3,q4,q5,q6,q7⟩:=hk';rw[haf] at q2 q3 q5 q7;rw[e3] at q4 q5;rw[e4] at q6 q7;exact ⟨q1,q2,q3,q4,q5,q6,q7⟩
     have heta:after s ⟨-1,c2,c3,c4⟩=⟨(after s ⟨-1,c2,c3,c4⟩).rune,c2+Sp.at2 s c2,b3,b4⟩:=by
      rw[← haf,← e3,← e4]
     rw[ih n _ _ _ _ _ (by omega) (by omega) hk2 (by simp only[List.length_append,List.length_cons,List.length_nil]; omega) (by omega)];rw[hhere,heta];obtain ⟨y1,y2,y3,y4⟩:=zanw s (l++[⟨((Sp.dc s c2.toNat).1:Int),c2,c3,c4⟩]) (-1) (after s ⟨-1,c2,c3,c4⟩).rune (c2+Sp.at2 s c2) b3 b4;rw[y1,y2,y3,y4]
    have main:(bif decide ((List.length l+List.length [Spot.mk ((Sp.dc s c2.toNat).1:Int) c2 c3 c4])*(32:Nat)≤(140737488355328:Nat)∧List.length l+List.length [Spot.mk ((Sp.dc s c2.toNat).1:Int) c2 c3 c4]≤(9223372036854775807:Nat)) then
       bif ((Sp.dc s c2.toNat).1:Int)==(10:Int) then
        qaK_i4 n s a1 a2 a3 a4 (-1) (c2+Sp.at2 s c2) (c3+1) 1 s (pos+(Sp.dc s c2.toNat).2) (l++[⟨((Sp.dc s c2.toNat).1:Int),c2,c3,c4⟩])
       else
        qaK_i4 n s a1 a2 a3 a4 (-1) (c2+Sp.at2 s c2) c3 (c4+1) s (pos+(Sp.dc s c2.toNat).2) (l++[⟨((Sp.dc s c2.toNat).1:Int),c2,c3,c4⟩])
      else none)=R:=by
     have hlen1:((List.length l+List.length [Spot.mk ((Sp.dc s c2.toNat).1:Int) c2 c3 c4])*(32:Nat)≤(140737488355328:Nat)∧List.length l+List.length [Spot.mk ((Sp.dc s c2.toNat).1:Int) c2 c3 c4]≤(9223372036854775807:Nat)):=by
      simp only[List.length_cons,List.length_nil]; omega
     rw[decide_eq_true hlen1,cond_true];cases e10:(((Sp.dc s c2.toNat).1:Int)==10) with
     |true=>
      have:Sp.at1 s c2=10:=by rw[g6]; exact beq_iff_eq.1 e10
      exact go _ _ (by simp[after,here,Sp.on,this]) (by simp[after,here,Sp.on,this])
     |false=>
      have:¬ Sp.at1 s c2=10:=by rw[g6]; exact beq_eq_false_iff_ne.1 e10
      exact go _ _ (by simp[after,here,Sp.on,this]) (by simp[after,here,Sp.on,this])
    cases e1:(((Sp.dc s c2.toNat).1:Int)==65533) with
    |true=>
     rw[hb] at hbad;have e2:decide ((Sp.dc s c2.toNat).1=65533)=true:=by
      have:=beq_iff_eq.1 e1;rw[decide_eq_true_eq]; omega
     rw[e2,Bool.true_and] at hbad;rw[← hbad];simp only[cond_true,cond_false];exact main
    |false=>
     simp only[cond_false];exact main
  ·have hlt:¬ pos<s.length:=by omega
   simp only[hlt,decide_false,cond_false];rw[zalo (s:=⟨-1,c2,c3,c4⟩) c,if_neg c]
theorem gone1 (t:List UInt8) (h:t.length≤4000):qaK t=some (Sp.spots2 t,Sp.spots1 t):=by
 have g:zaav t [] ⟨0,0,1,1⟩=Sp.spotsFrom t t.length [] ⟨0,0,1,1⟩:=rfl;obtain ⟨y1,y2,y3,y4⟩:=zanw t [] (-1) 0 0 1 1;rw[g] at y1 y2 y3 y4;have e2:(⟨-1,(zaav t [] ⟨-1,0,1,1⟩).2.at_,(zaav t [] ⟨-1,0,1,1⟩).2.line,(zaav t [] ⟨-1,0,1,1⟩).2.col⟩:Spot)=Sp.spots2 t:=by
  rw[y2,y3,y4]; rfl
 have e1:(zaav t [] ⟨-1,0,1,1⟩).1=Sp.spots1 t:=y1;rw[qaK,zaaa];unfold qaK_f;rw[qaK_l4,zaaa,goneL t _ _ _ _ t.length fuel 0 1 1 0 [] (by simp) (by unfold fuel; omega) (by unfold zagi; simp only; omega) (by simp) (by simp),Option.bind_some];split
 ·rename_i y heq;split at heq
  ·cases heq;simp only[e1,e2]
  ·cases heq
 ·rename_i y heq;split at heq
  ·cases heq
  ·cases heq;simp only[e1,e2]
theorem zark (t:List UInt8):qaJ t=some (Sp.runes2 t,Sp.runes1 t):=by
 rw[qaJ,zaaa];unfold qaJ_f Sp.runes1 Sp.runes2;simp only[cond_eq_ite,decide_eq_true_eq];by_cases h:4000<t.length
 ·rw[if_pos (show (t.length:Int)>4000 by omega),if_pos h,if_pos h]
 ·rw[if_neg (show ¬ (t.length:Int)>4000 by omega),if_neg h,if_neg h,gone1 t (by omega),Option.bind_some];by_cases h2:(Sp.spots2 t).at_<t.length
  ·rw[if_pos h2,if_pos h2,if_pos h2]
  ·rw[if_neg h2,if_neg h2,if_neg h2]
end Lift.A1P
namespace Lift.A1P
open Go Go.RowKit Lift Go.IntWalk Lift.Fn
theorem zatv (l:List Int):(bytesOf l).length=l.length:=by simp[bytesOf]
def encB (r:Int):List UInt8:=bytesOf (Sp.enc r)
def encs (rs:List Int):List UInt8:=rs.flatMap encB
theorem zaa3 (r:Int) (rs:List Int):encs (r::rs)=encB r++encs rs:=rfl
theorem zaak (a b:List Int):encs (a++b)=encs a++encs b:=by simp[encs]
theorem zabr (n:Nat) (h:n<256):(UInt8.ofNat n).toNat=n:=by
 simp[UInt8.toNat_ofNat'];omega
theorem zads (r:Int):(encB r).length=(Sp.long r).toNat:=by
 unfold encB Sp.enc Sp.long;rw[zatv];repeat' split
 all_goals rfl
theorem by0 (a:UInt8) (l:List UInt8):Sp.by_ (a::l) 0=a.toNat:=rfl
theorem by1 (a b:UInt8) (l:List UInt8):Sp.by_ (a::b::l) 1=b.toNat:=rfl
theorem by2 (a b c:UInt8) (l:List UInt8):Sp.by_ (a::b::c::l) 2=c.toNat:=rfl
theorem by3 (a b c d:UInt8) (l:List UInt8):Sp.by_ (a::b::c::d::l) 3=d.toNat:=rfl
theorem zajx {l:List UInt8} {r k:Nat} (h:Sp.dl l=(r,k)) (h2:r≠65533∨(3≤l.length∧Sp.by_ l 0=239∧Sp.by_ l 1=191∧Sp.by_ l 2=189)):Sp.badl l=false:=by
 unfold Sp.badl;rw[h,Sp.take3];rcases h2 with h2|h2
 ·simp[h2]
 ·simp[h2]
theorem zati (r:Int) (rest:List UInt8) (h:Sp.isRune r=true):Sp.dl (encB r++rest)=(r.toNat,(Sp.long r).toNat)∧Sp.badl (encB r++rest)=false:=by
 simp only[Sp.isRune,decide_eq_true_eq] at h;by_cases a1:r<128
 ·have e:encB r++rest=UInt8.ofNat r.toNat::rest:=by simp[encB,bytesOf,Sp.enc,a1]
  have hl:(Sp.long r).toNat=1:=by unfold Sp.long; rw[if_pos a1]; rfl
  rw[e,hl];have hd:Sp.dl (UInt8.ofNat r.toNat::rest)=(r.toNat,1):=by
   unfold Sp.dl;rw[by0,zabr _ (by omega),if_pos (by omega)]
  exact ⟨hd,zajx hd (.inl (by omega))⟩
 by_cases a2:r<2048
 ·have e:encB r++rest=UInt8.ofNat (192+r.toNat / 64)::UInt8.ofNat (128+r.toNat % 64)::rest:=by
   unfold encB Sp.enc bytesOf;rw[if_neg a1,if_pos a2];simp only[List.map_cons,List.map_nil,List.cons_append,List.nil_append];rw[show (192+r / 64).toNat=192+r.toNat / 64 by omega,show (128+r % 64).toNat=128+r.toNat % 64 by omega]
  have hl:(Sp.long r).toNat=2:=by unfold Sp.long; rw[if_neg a1,if_pos a2]; rfl
  rw[e,hl];have hd:Sp.dl (UInt8.ofNat (192+r.toNat / 64)::UInt8.ofNat (128+r.toNat % 64)::rest)=(r.toNat,2):=by
   unfold Sp.dl Sp.ct;rw[by0,by1,zabr _ (by omega),zabr _ (by omega)];simp only[List.length_cons,Bool.and_eq_true,decide_eq_true_eq,beq_iff_eq];rw[if_neg (by omega),if_pos (by omega),if_pos (by omega)];rw[show (192+r.toNat / 64) % 32*64+(128+r.toNat % 64) % 64=r.toNat by omega]
  exact ⟨hd,zajx hd (.inl (by omega))⟩
 by_cases a3:r<65536
 ·have e:encB r++rest=UInt8.ofNat (224+r.toNat / 4096)::UInt8.ofNat (128+r.toNat / 64 % 64)::UInt8.ofNat (128+r.toNat % 64)::rest:=by
   unfold encB Sp.enc bytesOf;rw[if_neg a1,if_neg a2,if_pos a3];simp only[List.map_cons,List.map_nil,List.cons_append,List.nil_append];rw[show (224+r / 4096).toNat=224+r.toNat / 4096 by omega,show (128+r / 64 % 64).toNat=128+r.toNat / 64 % 64 by omega,show (128+r % 64).toNat=128+r.toNat % 64 by omega]
  have hl:(Sp.long r).toNat=3:=by unfold Sp.long; rw[if_neg a1,if_neg a2,if_pos a3]; rfl
  rw[e,hl];have hd:Sp.dl (UInt8.ofNat (224+r.toNat / 4096)::UInt8.ofNat (128+r.toNat / 64 % 64)::UInt8.ofNat (128+r.toNat % 64)::rest)=(r.toNat,3):=by
   unfold Sp.dl Sp.ct;rw[by0,by1,by2,zabr _ (by omega),zabr _ (by omega),zabr _ (by omega)];simp only[List.length_cons,Bool.and_eq_true,decide_eq_true_eq,beq_iff_eq,zagw,ge_iff_le];have hv:(224+r.toNat / 4096) % 16*4096+(128+r.toNat / 64 % 64) % 64*64+(128+r.toNat % 64) % 64=r.toNat:=by omega
   rw[hv,if_neg (by omega),if_neg (by omega),if_pos (by omega),if_pos (by omega)]
  refine ⟨hd,zajx hd ?_⟩;simp only[List.length_cons,by0,by1,by2];rw[zabr _ (by omega),zabr _ (by omega),zabr _ (by omega)];omega
 ·have e:encB r++rest=UInt8.ofNat (240+r.toNat / 262144)::UInt8.ofNat (128+r.toNat / 4096 % 64)::UInt8.ofNat (128+r.toNat / 64 % 64)::UInt8.ofNat (128+r.toNat % 64)::rest:=by
   unfold encB Sp.enc bytesOf;rw[if_neg a1,if_neg a2,if_neg a3];simp only[List.map_cons,List.map_nil,List.cons_append,List.nil_append];rw[show (240+r / 262144).toNat=240+r.toNat / 262144 by omega,show (128+r / 4096 % 64).toNat=128+r.toNat / 4096 % 64 by omega,show (128+r / 64 % 64).toNat=128+r.toNat / 64 % 64 by omega,show (128+r % 64).toNat=128+r.toNat % 64 by omega]
  have hl:(Sp.long r).toNat=4:=by unfold Sp.long; rw[if_neg a1,if_neg a2,if_neg a3]; rfl
  rw[e,hl];have hd:Sp.dl (UInt8.ofNat (240+r.toNat / 262144)::UInt8.ofNat (128+r.toNat / 4096 % 64)::UInt8.ofNat (128+r.toNat / 64 % 64)::UInt8.ofNat (128+r.toNat % 64)::rest)=(r.toNat,4):=by
   unfold Sp.dl Sp.ct;rw[by0,by1,by2,by3,zabr _ (by omega),zabr _ (by omega),zabr _ (by omega),zabr _ (by omega)];simp only[List.length_cons,Bool.and_eq_true,decide_eq_true_eq,beq_iff_eq,zagw,ge_iff_le];have hv:(240+r.toNat / 262144) % 8*262144+(128+r.toNat / 4096 % 64) % 64*4096+(128+r.toNat / 64 % 64) % 64*64+(128+r.toNat % 64) % 64=r.toNat:=by omega
   rw[hv,if_neg (by omega),if_neg (by omega),if_neg (by omega),if_pos (by omega),if_pos (by omega)]
  exact ⟨hd,zajx hd (.inl (by omega))⟩
theorem zacs {n:Int} {a:UInt8} (h:n.toNat=a.toNat):UInt8.ofNat n.toNat=a:=by
 rw[h]; simp
theorem zaxf {l:List UInt8} (h:1<l.length):∃ a b r,l=a::b::r:=by
 match l,h with
 |a::b::r,_=>exact ⟨a,b,r,rfl⟩
theorem zaup {l:List UInt8} (h:2<l.length):∃ a b c r,l=a::b::c::r:=by
 match l,h with
 |a::b::c::r,_=>exact ⟨a,b,c,r,rfl⟩
theorem zawh {l:List UInt8} (h:3<l.length):∃ a b c d r,l=a::b::c::d::r:=by
 match l,h with
 |a::b::c::d::r,_=>exact ⟨a,b,c,d,r,rfl⟩
theorem zavk (l:List UInt8) (hl:l≠[]) (hb:Sp.badl l=false):Sp.isRune ((Sp.dl l).1:Int)=true∧∃ rest,l=encB ((Sp.dl l).1:Int)++rest:=by
 have hlen:0<l.length:=by cases l with|nil=>exact absurd rfl hl|cons _ _=>simp
 have hr:Sp.isRune ((Sp.dl l).1:Int)=true:=by
  have h4:=zaub _ hlen;obtain ⟨h1,h2,h3⟩:=Sp.dl_pos _ hlen;rw[hb] at h4;simp only[Bool.false_eq_true,if_false] at h4;rcases Sp.ansA_ok l.length (Sp.by_ l 0) (Sp.by_ l 1) (Sp.by_ l 2) (Sp.by_ l 3) (l.getD 0 0).toNat_lt with h5|⟨h5,h6⟩
  ·rw[h4] at h5;simp only[Prod.mk.injEq] at h5;omega
  ·rw[h4] at h5;exact h5
 refine ⟨hr,?_⟩;have hg:¬ ((Sp.dl l).1=65533∧¬ (3≤l.length∧Sp.by_ l 0=239∧Sp.by_ l 1=191∧Sp.by_ l 2=189)):=by
  unfold Sp.badl at hb;rw[Sp.take3] at hb;intro hh;simp[hh.1] at hb;exact hh.2 hb
 obtain ⟨D,hD⟩:∃ D,D=Sp.dl l:=⟨_,rfl⟩;rw[← hD] at hg ⊢;unfold Sp.dl Sp.ct at hD;simp only[Bool.and_eq_true,decide_eq_true_eq,beq_iff_eq,zagw,ge_iff_le] at hD;have hb0:Sp.by_ l 0<256:=(l.getD 0 0).toNat_lt;have hb1:Sp.by_ l 1<256:=(l.getD 1 0).toNat_lt;have hb2:Sp.by_ l 2<256:=(l.getD 2 0).toNat_lt;have hb3:Sp.by_ l 3<256:=(l.getD 3 0).toNat_lt;by_cases k0:Sp.by_ l 0<128
 ·rw[if_pos k0] at hD;rw[hD];match l,hlen with
  |a::l,_=>
   rw[by0] at *;refine ⟨l,?_⟩;unfold encB Sp.enc bytesOf;rw[if_pos (by simp only; omega)];simp
 rw[if_neg k0] at hD;by_cases k1:Sp.by_ l 0 / 32=6∧1<l.length∧Sp.by_ l 1 / 64=2
 ·rw[if_pos k1] at hD;by_cases k2:128≤Sp.by_ l 0 % 32*64+Sp.by_ l 1 % 64
  ·rw[if_pos k2] at hD;rw[hD];obtain ⟨a,b,l,rfl⟩:=zaxf k1.2.1
   next=>
    rw[by0,by1] at *;refine ⟨l,?_⟩;unfold encB Sp.enc bytesOf;rw[if_neg (by simp only; omega),if_pos (by simp only; omega)];simp only[List.map_cons,List.map_nil,List.cons_append,List.nil_append];rw[zacs (a:=a) (by omega),zacs (a:=b) (by omega)]
  ·rw[if_neg k2] at hD;rw[hD] at hg;have hg':=Classical.byContradiction fun hh=>hg ⟨rfl,hh⟩
   omega
 rw[if_neg k1] at hD;by_cases k2:(Sp.by_ l 0 / 16=14∧1<l.length∧Sp.by_ l 1 / 64=2)∧2<l.length∧Sp.by_ l 2 / 64=2
 ·rw[if_pos k2] at hD;by_cases k3:2048≤Sp.by_ l 0 % 16*4096+Sp.by_ l 1 % 64*64+Sp.by_ l 2 % 64∧(0≤((Sp.by_ l 0 % 16*4096+Sp.by_ l 1 % 64*64+Sp.by_ l 2 % 64:Nat):Int)∧((Sp.by_ l 0 % 16*4096+Sp.by_ l 1 % 64*64+Sp.by_ l 2 % 64:Nat):Int)<55296∨57344≤((Sp.by_ l 0 % 16*4096+Sp.by_ l 1 % 64*64+Sp.by_ l 2 % 64:Nat):Int)∧((Sp.by_ l 0 % 16*4096+Sp.by_ l 1 % 64*64+Sp.by_ l 2 % 64:Nat):Int)≤1114111)
  ·rw[if_pos k3] at hD;rw[hD];obtain ⟨a,b,c,l,rfl⟩:=zaup k2.2.1
   next=>
    rw[by0,by1,by2] at *;refine ⟨l,?_⟩;unfold encB Sp.enc bytesOf;rw[if_neg (by simp only; omega),if_neg (by simp only; omega),if_pos (by simp only; omega)];simp only[List.map_cons,List.map_nil,List.cons_append,List.nil_append];rw[zacs (a:=a) (by omega),zacs (a:=b) (by omega),zacs (a:=c) (by omega)]
  ·rw[if_neg k3] at hD;rw[hD] at hg;have hg':=Classical.byContradiction fun hh=>hg ⟨rfl,hh⟩
   omega
 rw[if_neg k2] at hD;by_cases k3:((Sp.by_ l 0 / 8=30∧1<l.length∧Sp.by_ l 1 / 64=2)∧2<l.length∧Sp.by_ l 2 / 64=2)∧3<l.length∧Sp.by_ l 3 / 64=2
 ·rw[if_pos k3] at hD;by_cases k4:65536≤Sp.by_ l 0 % 8*262144+Sp.by_ l 1 % 64*4096+Sp.by_ l 2 % 64*64+Sp.by_ l 3 % 64∧(0≤((Sp.by_ l 0 % 8*262144+Sp.by_ l 1 % 64*4096+Sp.by_ l 2 % 64*64+Sp.by_ l 3 % 64:Nat):Int)∧((Sp.by_ l 0 % 8*262144+Sp.by_ l 1 % 64*4096+Sp.by_ l 2 % 64*64+Sp.by_ l 3 % 64:Nat):Int)<55296∨57344≤((Sp.by_ l 0 % 8*262144+Sp.by_ l 1 % 64*4096+Sp.by_ l 2 % 64*64+Sp.by_ l 3 % 64:Nat):Int)∧((Sp.by_ l 0 % 8*262144+Sp.by_ l 1 % 64*4096+Sp.by_ l 2 % 64*64+Sp.by_ l 3 % 64:Nat):Int)≤1114111)
  ·rw[if_pos k4] at hD;rw[hD];obtain ⟨a,b,c,d,l,rfl⟩:=zawh k3.2.1
   next=>
    rw[by0,by1,by2,by3] at *;refine ⟨l,?_⟩;unfold encB Sp.enc bytesOf;rw[if_neg (by simp only; omega),if_neg (by simp only; omega),if_neg (by simp only; omega)];simp only[List.map_cons,List.map_nil,List.cons_append,List.nil_append];rw[zacs (a:=a) (by omega),zacs (a:=b) (by omega),zacs (a:=c) (by omega),zacs (a:=d) (by omega)]
  ·rw[if_neg k4] at hD;rw[hD] at hg;have hg':=Classical.byContradiction fun hh=>hg ⟨rfl,hh⟩
   omega
 ·rw[if_neg k3] at hD;rw[hD] at hg;have hg':=Classical.byContradiction fun hh=>hg ⟨rfl,hh⟩
  omega
def put:List Int→Spot→List Spot×Spot
 |[],s=>([],s)
 |r::rs,s=>(⟨r,s.at_,s.line,s.col⟩::(put rs (Sp.on ⟨r,s.at_,s.line,s.col⟩ r (Sp.long r))).1,(put rs (Sp.on ⟨r,s.at_,s.line,s.col⟩ r (Sp.long r))).2)
theorem on_at (s:Spot) (r n:Int):(Sp.on s r n).at_=s.at_+n:=by unfold Sp.on; split<;>rfl
theorem zadi (r:Int):1≤Sp.long r:=by unfold Sp.long; (repeat' split)<;>omega
theorem zapm:∀ (rs:List Int) (s:Spot),(put rs s).2.at_=s.at_+(encs rs).length
 |[],s=>by simp[put,encs]
 |r::rs,s=>by
  simp only[put];rw[zapm rs,on_at,zaa3,List.length_append,zads];have:=zadi r;simp only;omega
theorem zao5 (t:List UInt8):∀ (rs:List Int) (n:Nat) (acc:List Spot) (s:Spot) (rest:List UInt8),rs.all Sp.isRune=true→0≤s.at_→t.drop s.at_.toNat=encs rs++rest→(rest=[]∨Sp.badl rest=true) →
  t.length-s.at_.toNat≤n→Sp.spotsFrom t n acc s=(acc++(put rs s).1,(put rs s).2)
 |[],n,acc,s,rest=>by
  intro _ h0 hd hr hn;simp only[encs,List.flatMap_nil,List.nil_append] at hd;simp only[put,List.append_nil];cases n with
  |zero=>rfl
  |succ n=>
   simp only[Sp.spotsFrom];by_cases hc:s.at_<t.length
   ·rw[if_pos hc];have hne:t.drop s.at_.toNat≠[]:=by
     intro hh;have:=congrArg List.length hh;simp at this;omega
    rcases hr with rfl|hr
    ·exact absurd hd hne
    ·rw[if_pos];rw[Sp.bad_eq,hd];exact hr
   ·rw[if_neg hc]
 |r::rs,n,acc,s,rest=>by
  intro ha h0 hd hr hn;simp only[List.all_cons,Bool.and_eq_true] at ha;rw[zaa3,List.append_assoc] at hd;obtain ⟨h1,h2⟩:=zati r (encs rs++rest) ha.1;have hlen:=congrArg List.length hd;have hl:=zadi r;have hel:=zads r;simp only[List.length_drop,List.length_append] at hlen;have hc:s.at_<t.length:=by omega
  have hb:Sp.bad t s.at_.toNat=false:=by rw[Sp.bad_eq,hd]; exact h2
  have hr':0≤r:=by
   have:=ha.1;simp only[Sp.isRune,decide_eq_true_eq] at this;exact this.1
  have e1:Sp.at1 t s.at_=r:=by
   unfold Sp.at1;rw[hb,Sp.dc_eq,hd,h1];simp;omega
  have e2:Sp.at2 t s.at_=Sp.long r:=by
   unfold Sp.at2;rw[hb,Sp.dc_eq,hd,h1];simp;omega
  obtain ⟨n,rfl⟩:∃ m,n=m+1:=⟨n-1,by omega⟩;simp only[Sp.spotsFrom,if_pos hc,hb,Bool.false_eq_true,if_false];rw[e1,e2];have hat:=on_at ⟨r,s.at_,s.line,s.col⟩ r (Sp.long r);simp only at hat;rw[zao5 t rs n _ _ rest ha.2 (by rw[hat]; omega) ?_ hr (by rw[hat]; omega)]
  ·simp only[put,List.append_assoc,List.cons_append,List.nil_append]
  ·rw[hat,show (s.at_+Sp.long r).toNat=s.at_.toNat+(encB r).length by omega,← List.drop_drop,hd,List.drop_left]
def s0:Spot:=⟨0,0,1,1⟩
theorem zanl (rs:List Int) (rest:List UInt8) (ha:rs.all Sp.isRune=true) (hr:rest=[]∨Sp.badl rest=true):Sp.spots1 (encs rs++rest)=(put rs s0).1∧Sp.spots2 (encs rs++rest)=Sp.ended (put rs s0).2:=by
 have:=zao5 (encs rs++rest) rs (encs rs++rest).length [] s0 rest ha (by simp[s0]) (by simp[s0]) hr (by omega);unfold Sp.spots1 Sp.spots2;unfold s0 at this ⊢;rw[this];simp
theorem zalu:∀ (n:Nat) (t:List UInt8),t.length≤n→∃ rs rest,t=encs rs++rest∧rs.all Sp.isRune=true∧(rest=[]∨Sp.badl rest=true)
 |0,t,h=>⟨[],[],by cases t<;>simp_all[encs],rfl,.inl rfl⟩
 |n+1,t,h=>by
  by_cases h0:t=[]
  ·exact ⟨[],[],by simp[h0,encs],rfl,.inl rfl⟩
  cases hb:Sp.badl t with
  |true=>exact ⟨[],t,by simp[encs],rfl,.inr hb⟩
  |false=>
   obtain ⟨h1,rest,h2⟩:=zavk t h0 hb;have hl:=zads ((Sp.dl t).1:Int);have hp:=zadi ((Sp.dl t).1:Int);have hlen:rest.length≤n:=by
    have:=congrArg List.length h2;rw[List.length_append] at this;omega
   obtain ⟨rs,r2,h3,h4,h5⟩:=zalu n rest hlen;refine ⟨((Sp.dl t).1:Int)::rs,r2,?_,?_,h5⟩
   ·rw[zaa3,List.append_assoc,← h3]; exact h2
   ·simp[h1,h4]
theorem zaoh (s:Spot):(Sp.ended s).at_=s.at_:=rfl
theorem zapt (rs:List Int) (ha:rs.all Sp.isRune=true) (hl:(encs rs).length≤4000):Sp.runes1 (encs rs)=(put rs s0).1∧Sp.runes2 (encs rs)=⟨0,0,[]⟩:=by
 obtain ⟨h1,h2⟩:=zanl rs [] ha (.inl rfl);rw[List.append_nil] at h1 h2;have h3:=zapm rs s0;unfold Sp.runes1 Sp.runes2;rw[h1,h2,zaoh,h3];have h5:¬ (s0.at_+((encs rs).length:Int)<(encs rs).length):=by simp[s0]
 have h4:¬ 4000<(encs rs).length:=by omega
 simp only[if_neg h4,if_neg h5,and_self]
theorem zat6 (rs:List Int) (rest:List UInt8) (ha:rs.all Sp.isRune=true) (hne:rest≠[]) (hb:Sp.badl rest=true) (hl:(encs rs++rest).length≤4000):Sp.runes1 (encs rs++rest)=[]∧Sp.runes2 (encs rs++rest)=⟨11,(encs rs).length,[]⟩:=by
 obtain ⟨h1,h2⟩:=zanl rs rest ha (.inr hb);have h3:=zapm rs s0;have hpos:0<rest.length:=by cases rest with|nil=>exact absurd rfl hne|cons _ _=>simp
 unfold Sp.runes1 Sp.runes2;rw[h2,zaoh,h3];have h5:(s0.at_+((encs rs).length:Int)<(encs rs++rest).length):=by simp[s0]; omega
 have h4:¬ 4000<(encs rs++rest).length:=by omega
 simp only[if_neg h4,if_pos h5];simp[s0]
theorem zaqo (t:List UInt8):(Sp.runes1 t=[]∧Sp.runes2 t=⟨10,4000,[]⟩) ∨
  (t.length≤4000∧∃ rs rest,t=encs rs++rest∧rs.all Sp.isRune=true∧rest≠[]∧Sp.badl rest=true∧Sp.runes1 t=[]∧Sp.runes2 t=⟨11,(encs rs).length,[]⟩) ∨
  (t.length≤4000∧∃ rs,t=encs rs∧rs.all Sp.isRune=true∧Sp.runes1 t=(put rs s0).1∧Sp.runes2 t=⟨0,0,[]⟩):=by
 by_cases h:4000<t.length
 ·left;unfold Sp.runes1 Sp.runes2;rw[if_pos h,if_pos h];exact ⟨rfl,rfl⟩
 right;obtain ⟨rs,rest,h1,h2,h3⟩:=zalu t.length t (Nat.le_refl _);by_cases h0:rest=[]
 ·right;subst h0;rw[List.append_nil] at h1;subst h1;obtain ⟨q1,q2⟩:=zapt rs h2 (by omega);exact ⟨by omega,rs,rfl,h2,q1,q2⟩
 ·left;have hb:Sp.badl rest=true:=by rcases h3 with h3|h3; exact absurd h3 h0; exact h3
  subst h1;obtain ⟨q1,q2⟩:=zat6 rs rest h2 h0 hb (by omega);exact ⟨by omega,rs,rest,rfl,h2,h0,hb,q1,q2⟩
end Lift.A1P
namespace Lift.A1P
open Go Go.RowKit Lift Go.IntWalk Lift.Fn
def goesR (r:Int):Bool:=Sp.letter r||Sp.digit r
theorem goes1 (r:Int) (h:0≤r∧r≤1114111):qai r=some (goesR r):=by
 rw[qai,zaaa];unfold qai_f goesR;rw[i64_in r (by omega),zavv,zat2,Option.bind_some,Option.bind_some];cases Sp.letter r<;>rfl
theorem zafy {r:Int} (h:Sp.isRune r=true):0≤r∧r≤1114111:=by
 simp only[Sp.isRune,decide_eq_true_eq] at h;omega
theorem zaln (t:List UInt8) (p:Nat) (r:Int) (l:List UInt8) (hd:t.drop p=encB r++l) (hr:Sp.isRune r=true):Utf8.decode ⟨t.toArray⟩ p=(r.toNat,(Sp.long r).toNat):=by
 have h1:=Sp.dc_eq t p;unfold Sp.dc at h1;rw[h1,hd];exact (zati r l hr).1
theorem zafs (ds rs:List Int):(encs (ds++rs)).drop (encs ds).length=encs rs:=by
 rw[zaak,List.drop_left]
theorem zagq (ds rs:List Int) (r:Int):(encs ds).length<(encs (ds++r::rs)).length:=by
 rw[zaak,zaa3,List.length_append,List.length_append,zads];have:=zadi r;omega
theorem zale (ds:List Int) (r:Int):(encs (ds++[r])).length=(encs ds).length+(Sp.long r).toNat:=by
 rw[zaak,zaa3,List.length_append,List.length_append,zads];simp[encs]
theorem wordL:∀ (rs ds:List Int) (n:Nat),rs.all Sp.isRune=true→rs.length<n→(encs (ds++rs)).length≤9000000 →
  qan_i2 n (encs (ds++rs)) (encs (ds++rs)) (encs ds).length=some (if rs.all goesR then .inr (encs (ds++rs)) else .inl (encs (ds++rs.takeWhile goesR)))
 |[],ds,n,_,hn,hl=>by
  obtain ⟨n,rfl⟩:∃ q,n=q+1:=⟨n-1,by simp at hn; omega⟩;simp only[List.append_nil,qan_i2,qan_t2];simp
 |r::rs,ds,n,ha,hn,hl=>by
  obtain ⟨n,rfl⟩:∃ q,n=q+1:=⟨n-1,by simp at hn; omega⟩;simp only[List.all_cons,Bool.and_eq_true] at ha;have hlt:=zagq ds rs r;have hd:Utf8.decode ⟨(encs (ds++r::rs)).toArray⟩ (encs ds).length=(r.toNat,(Sp.long r).toNat):=zaln _ _ r (encs rs) (by rw[zafs,zaa3]) ha.1;have hr:=zafy ha.1;simp only[qan_i2,qan_t2,hd,hlt,decide_true,cond_true];rw[show ((r.toNat:Nat):Int)=r by omega,goes1 r hr,Option.bind_some];cases hg:goesR r with
  |false=>
   have hb:(decide ((0:Int)≤0)&&(decide ((0:Int)≤((encs ds).length:Int))&&decide (((encs ds).length:Int)≤((encs (ds++r::rs)).length:Int))))=true:=by
    simp only[Bool.and_eq_true,decide_eq_true_eq]; omega
   simp only[Bool.not_false,cond_true,hb,List.all_cons,hg,Bool.false_and,Bool.false_eq_true,if_false,List.takeWhile_cons,List.append_nil,List.drop_zero,Int.toNat_natCast];rw[zaak,List.take_left]
  |true=>
   have ih:=wordL rs (ds++[r]) n ha.2 (by simp at hn; omega) (by simpa using hl);rw[List.append_assoc,List.singleton_append,zale] at ih;simp only[Bool.not_true,cond_false,ih,List.all_cons,hg,Bool.true_and,List.takeWhile_cons,if_true,List.append_assoc,List.singleton_append]
theorem zapx {p:Int→Bool} {l:List Int} (h:l.all p=true):l.takeWhile p=l:=by
 induction l with
 |nil=>rfl
 |cons a l ih=>
  simp only[List.all_cons,Bool.and_eq_true] at h;rw[List.takeWhile_cons,if_pos h.1,ih h.2]
theorem zabj (rs:List Int):rs.length≤(encs rs).length:=by
 induction rs with
 |nil=>simp
 |cons r l ih=>
  rw[zaa3,List.length_append,zads,List.length_cons];have:=zadi r;omega
theorem word1 (rs:List Int) (ha:rs.all Sp.isRune=true) (hl:(encs rs).length≤9000000):qan (encs rs)=some (encs (rs.takeWhile goesR)):=by
 rw[qan,zaaa];unfold qan_f;have:=wordL rs [] fuel ha (by have:=zabj rs; unfold fuel; omega) (by simpa using hl);simp only[List.nil_append] at this;rw[qan_l2,zaaa,show (0:Nat)=(encs []).length from rfl,this];cases hg:rs.all goesR with
 |true=>simp only[if_true,Option.bind_some,zapx hg]
 |false=>simp
def skip:Bool→List Int→List Int
 |_,[]=>[]
 |true,r::rs=>skip (r != 10) rs
 |false,r::rs=>if r=35 then skip true rs else if Sp.blank r then skip false rs else r::rs
theorem zaqz:∀ (rs ds:List Int) (c:Bool) (n:Nat),rs.all Sp.isRune=true→rs.length<n →
  qak_i3 n (encs (ds++rs)) c (encs (ds++rs)) (encs ds).length=some (if skip c rs=[] then .inr (encs (ds++rs)) else .inl (((encs (ds++rs)).length:Int)-(encs (skip c rs)).length))
 |[],ds,c,n,_,hn=>by
  obtain ⟨n,rfl⟩:∃ q,n=q+1:=⟨n-1,by simp at hn; omega⟩;simp only[List.append_nil,qak_i3,qak_t3];cases c<;>simp[skip]
 |r::rs,ds,c,n,ha,hn=>by
  obtain ⟨n,rfl⟩:∃ q,n=q+1:=⟨n-1,by simp at hn; omega⟩;simp only[List.all_cons,Bool.and_eq_true] at ha;have hlt:=zagq ds rs r;have hd:Utf8.decode ⟨(encs (ds++r::rs)).toArray⟩ (encs ds).length=(r.toNat,(Sp.long r).toNat):=zaln _ _ r (encs rs) (by rw[zafs,zaa3]) ha.1;have hr:=zafy ha.1;have ih:=fun c=>zaqz rs (ds++[r]) c n ha.2 (by simp at hn; omega)
  simp only[List.append_assoc,List.singleton_append,zale] at ih;simp only[qak_i3,qak_t3,hd,hlt,decide_true,cond_true];rw[show ((r.toNat:Nat):Int)=r by omega];cases c with
  |true=>
   rw[cond_true,ih];rfl
  |false=>
   rw[cond_false];by_cases h35:r=35
   ·have:(r==35)=true:=by simp[h35]
    rw[this,cond_true,ih];simp only[skip,h35,if_true]
   ·have:(r==35)=false:=by simp[h35]
    rw[this,cond_false,i64_in r (by omega),zaw3,Option.bind_some];cases hb:Sp.blank r with
    |true=>
     simp only[Bool.not_true,cond_false,ih,skip,h35,if_false,hb,if_true]
    |false=>
     have hne:skip false (r::rs)=r::rs:=by simp[skip,h35,hb]
     rw[hne];simp only[Bool.not_false,cond_true,if_neg (List.cons_ne_nil r rs)];congr 2;rw[zaak,List.length_append];omega
theorem zaq3 (rs:List Int) (ha:rs.all Sp.isRune=true) (hl:(encs rs).length≤9000000):qak (encs rs)=some (((encs rs).length:Int)-(encs (skip false rs)).length):=by
 rw[qak,zaaa];unfold qak_f;have:=zaqz rs [] false fuel ha (by have:=zabj rs; unfold fuel; omega);simp only[List.nil_append] at this;rw[qak_l3,zaaa,show (0:Nat)=(encs []).length from rfl,this];by_cases hs:skip false rs=[]
 ·rw[if_pos hs,hs]; simp[encs]
 ·rw[if_neg hs]; simp
theorem zaw0 (l:List (List UInt8)) (x:List UInt8) (hl:l.length≤4000):∀ (k n:Nat) (i:Int),0≤i→l.length-i.toNat≤k→k<n →
  ∃ r,qaS_i2 n l x l.length i=some r∧((l.drop i.toNat).contains x=match r with|.inl j=>decide (0≤j)|.inr _=>false):=by
 intro k;have fin:∀ (n:Nat) (i:Int),0≤i→¬ i<l.length→∃ r,qaS_i2 (n+1) l x l.length i=some r∧((l.drop i.toNat).contains x=match r with|.inl j=>decide (0≤j)|.inr _=>false):=by
  intro n i h0 c;refine ⟨.inr (),?_,?_⟩
  ·simp only[qaS_i2,qaS_t2,c,decide_false,cond_false]
  ·rw[List.drop_eq_nil_of_le (by omega)]; rfl
 induction k with
 |zero=>
  intro n i h0 hk hn;obtain ⟨n,rfl⟩:∃ q,n=q+1:=⟨n-1,by omega⟩;exact fin n i h0 (by omega)
 |succ k ih=>
  intro n i h0 hk hn;obtain ⟨n,rfl⟩:∃ q,n=q+1:=⟨n-1,by omega⟩;by_cases c:i<l.length
  ·have ha:i.toNat<l.length:=by omega
   rw[List.drop_eq_getElem_cons ha];simp only[qaS_i2,qaS_t2,c,h0,decide_true,cond_true,List.getElem?_eq_getElem ha,Option.bind_some,List.contains_cons];cases hx:(x==l[i.toNat]) with
   |true=>exact ⟨.inl i,rfl,by simp[h0]⟩
   |false=>
    rw[i64_in (i+1) (by omega)];obtain ⟨r,h1,h2⟩:=ih n (i+1) (by omega) (by omega) (by omega);refine ⟨r,h1,?_⟩;rw[show (i+1).toNat=i.toNat+1 by omega] at h2;rw[Bool.false_or,h2]
  ·exact fin n i h0 c
theorem zanq (l:List (List UInt8)) (x:List UInt8) (hl:l.length≤4000):qaM l x=some (l.contains x):=by
 obtain ⟨r,h1,h2⟩:=zaw0 l x hl l.length fuel 0 (by omega) (by omega) (by unfold fuel; omega);simp only[Int.toNat_zero,List.drop_zero] at h2;rw[qaM,zaaa];unfold qaM_f;rw[qaS,zaaa];unfold qaS_f;rw[qaS_l2,zaaa,h1,h2];cases r with
 |inl j=>simp
 |inr u=>simp
def ones:List UInt8:=[61,60,62,33,43,45,42,47,37,59,123,125,40,41]
def twos:List (List UInt8):=[[58,61],[60,45],[61,61],[33,61],[60,61],[62,61],[38,38],[124,124]]
def sgn (t:List UInt8):List UInt8:=if 1<t.length∧twos.contains (t.take 2)=true then t.take 2 else if ones.contains (t.headD 0)=true then t.take 1 else []
theorem zau2:∀ i:Fin 256,Lib.contains ones [UInt8.ofNat i.val]=ones.contains (UInt8.ofNat i.val):=by decide +kernel
theorem zave (b:UInt8):Lib.contains ones [b]=ones.contains b:=by
 have:=zau2 ⟨b.toNat,b.toNat_lt⟩;simpa using this
theorem sign1 (b:UInt8) (t:List UInt8) (hl:(b::t).length≤9000000):qal (b::t)=some (sgn (b::t)):=by
 rw[qal,zaaa];unfold qal_f;have ht:List.take 1 (b::t)=[b]:=rfl;have hc:strings_Contains ones [b]=some (ones.contains b):=by
  rw[strings_Contains,zaaa];unfold zado;rw[decide_eq_true (by decide),cond_true,zave]
 have hc':strings_Contains [61,60,62,33,43,45,42,47,37,59,123,125,40,41] [b]=some (ones.contains b):=hc;have b1:(decide ((0:Int)≤0)&&(decide ((0:Int)≤1)&&decide ((1:Int)≤((b::t).length:Int))))=true:=by
  simp only[Bool.and_eq_true,decide_eq_true_eq,List.length_cons]; omega
 simp only[List.drop_zero,ht,b1,cond_true,hc',Option.bind_some];unfold sgn;by_cases h1:1<(b::t).length
 ·have h1':decide (((b::t).length:Int)>1)=true:=decide_eq_true (by omega);have b2:(decide ((0:Int)≤0)&&(decide ((0:Int)≤2)&&decide ((2:Int)≤((b::t).length:Int))))=true:=by
   simp only[Bool.and_eq_true,decide_eq_true_eq]; omega
  have hc2:=zanq twos ((b::t).take 2) (by decide);have hc2':qaM [[58,61],[60,45],[61,61],[33,61],[60,61],[62,61],[38,38],[124,124]] ((b::t).take 2)=some (twos.contains ((b::t).take 2)):=hc2;rw[h1',cond_true,b2,cond_true,hc2',Option.bind_some];cases h2:twos.contains ((b::t).take 2) with
  |true=>rw[if_pos ⟨h1,rfl⟩]; rfl
  |false=>
   rw[if_neg (fun hh=>by cases hh.2)];cases h3:ones.contains b with
   |true=>simp only[List.headD_cons,h3,if_true]; rfl
   |false=>simp only[List.headD_cons,h3,Bool.false_eq_true,if_false]; rfl
 ·have h1':decide (((b::t).length:Int)>1)=false:=decide_eq_false (by omega);rw[h1',cond_false,if_neg (fun hh=>h1 hh.1)];cases h3:ones.contains b with
  |true=>simp only[List.headD_cons,h3,if_true]; rfl
  |false=>simp only[List.headD_cons,h3,Bool.false_eq_true,if_false]; rfl
end Lift.A1P
namespace Lift.A1P
open Go Go.RowKit Lift Go.IntWalk Lift.Fn
def tens:List UInt8:=[48,49,50,51,52,53,54,55,56,57]
def numS (t:List UInt8):Int×Bool:=
 if 1<t.length∧(t.headD 0).toNat=48 then (0,false) else if Lib.trimS t tens≠[] then (0,false) else if (zab3 t).2=true then ((zab3 t).1,false) else ((zab3 t).1,decide ((zab3 t).1≤2147483647))
theorem zav2 (t:List UInt8) (hl:t.length≤9000000):qaj t=some (numS t):=by
 rw[qaj,zaaa];unfold qaj_f numS;have hT:zacw t [48,49,50,51,52,53,54,55,56,57]=some (Lib.trimS t tens):=by
  rw[zacw,zaaa];unfold zae3;rw[decide_eq_true (show _∧_ by constructor; omega; decide)];rfl
 have hA:zacz t=some (zab3 t):=by
  rw[zacz,zaaa];unfold zae5;rw[decide_eq_true (by omega)];rfl
 have rest:(bif !Lib.trimS t tens==[] then some ((0:Int),false) else bif !(zab3 t).2 then some ((zab3 t).1,decide ((zab3 t).1≤2147483647)) else some ((zab3 t).1,false)) =
   some (if Lib.trimS t tens≠[] then (0,false) else if (zab3 t).2=true then ((zab3 t).1,false) else ((zab3 t).1,decide ((zab3 t).1≤2147483647))):=by
  by_cases h:Lib.trimS t tens=[]
  ·rw[if_neg (fun hh=>hh h),h];cases (zab3 t).2<;>rfl
  ·rw[if_pos h];have:(Lib.trimS t tens==[])=false:=by simpa using h
   rw[this]; rfl
 rw[hT,hA];by_cases h1:1<t.length
 ·rw[decide_eq_true (show (t.length:Int)>1 by omega),cond_true];match t,h1 with
  |b::t,h1=>
   simp only[List.getElem?_cons_zero,Option.bind_some];by_cases h2:b.toNat=48
   ·have:(((b.toNat:Nat):Int)==48)=true:=by rw[beq_iff_eq]; omega
    rw[this,cond_true,if_pos (show 1<(b::t).length∧((b::t).headD 0).toNat=48 from ⟨h1,h2⟩)]
   ·have:(((b.toNat:Nat):Int)==48)=false:=by rw[beq_eq_false_iff_ne]; omega
    rw[this,cond_false,if_neg (show ¬ (1<(b::t).length∧((b::t).headD 0).toNat=48) from fun hh=>h2 hh.2)];exact rest
 ·rw[decide_eq_false (show ¬ (t.length:Int)>1 by omega),cond_false,if_neg (show ¬ (1<t.length∧(t.headD 0).toNat=48) from fun hh=>h1 hh.1)];simp only[Option.bind_some];exact rest
theorem zaw6:qah=qah_f:=by rw[qah,zaaa]
noncomputable def words:List (List UInt8):=qah_f.getD []
theorem zauu:qah=some words:=by rw[zaw6]; rfl
theorem zauf:∀ (rs ds:List Int) (n:Nat),rs.all Sp.isRune=true→rs.length≤n→Lib.runeCountFrom ⟨(encs (ds++rs)).toArray⟩ n (encs ds).length=rs.length
 |[],ds,n,_,_=>by
  cases n with
  |zero=>rfl
  |succ n=>simp[Lib.runeCountFrom,ByteArray.size]
 |r::rs,ds,n,ha,hn=>by
  obtain ⟨n,rfl⟩:∃ q,n=q+1:=⟨n-1,by simp at hn; omega⟩;simp only[List.all_cons,Bool.and_eq_true] at ha;have hlt:=zagq ds rs r;have hd:Utf8.decode ⟨(encs (ds++r::rs)).toArray⟩ (encs ds).length=(r.toNat,(Sp.long r).toNat):=zaln _ _ r (encs rs) (by rw[zafs,zaa3]) ha.1;have ih:=zauf rs (ds++[r]) n ha.2 (by simp at hn; omega);simp only[List.append_assoc,List.singleton_append,zale] at ih;simp only[Lib.runeCountFrom,hd];rw[if_pos (by simpa [ByteArray.size] using hlt),ih,List.length_cons];omega
theorem zawu (rs:List Int) (ha:rs.all Sp.isRune=true) (hl:(encs rs).length≤9000000):zaa1 (encs rs)=some (rs.length:Int):=by
 rw[zaa1,zaaa];unfold zabq Lib.runeCount;rw[decide_eq_true (by omega),cond_true];have:=zauf rs [] (encs rs).length ha (zabj rs);simp only[List.nil_append] at this;have hs:(⟨(encs rs).toArray⟩:ByteArray).size=(encs rs).length:=by simp[ByteArray.size]
 rw[hs,show (0:Nat)=(encs []).length from rfl,this]
theorem zavu (r:Int) (rs:List Int) (hr:Sp.isRune r=true):zaay (encs (r::rs))=some (r,Sp.long r):=by
 rw[zaay,zaaa];unfold zabo Lib.decodeGo;have hp:=zadi r;have hs:¬ (⟨(encs (r::rs)).toArray⟩:ByteArray).size=0:=by
  have:=zagq [] rs r;simp only[List.nil_append] at this;simp[ByteArray.size];intro hh;rw[hh] at this;simp at this
 have hd:Utf8.decode ⟨(encs (r::rs)).toArray⟩ 0=(r.toNat,(Sp.long r).toNat):=zaln _ 0 r (encs rs) (by rw[List.drop_zero,zaa3]) hr;have h0:=zafy hr;rw[if_neg hs,hd];simp only;rw[show ((r.toNat:Nat):Int)=r by omega,show (((Sp.long r).toNat:Nat):Int)=Sp.long r by omega]
noncomputable def tokR (rs:List Int):Token×Int:=
  bif goesR (rs.headD 0) then
    (bif Sp.digit (rs.headD 0) then (bif (numS (encs (rs.takeWhile goesR))).2 then (⟨2,encs (rs.takeWhile goesR),(numS (encs (rs.takeWhile goesR))).1,0⟩,0) else (⟨1,encs (rs.takeWhile goesR),0,0⟩,22))
     else bif words.contains (encs (rs.takeWhile goesR)) then (⟨4,encs (rs.takeWhile goesR),0,0⟩,0)
     else bif decide (16<(rs.takeWhile goesR).length) then (⟨1,encs (rs.takeWhile goesR),0,0⟩,21) else (⟨1,encs (rs.takeWhile goesR),0,0⟩,0))
  else bif sgn (encs rs)==[] then (⟨0,[],0,0⟩,20) else (⟨3,sgn (encs rs),0,0⟩,0)
theorem zaiy {p:Int→Bool} {rs:List Int} (ha:rs.all Sp.isRune=true):(rs.takeWhile p).all Sp.isRune=true:=by
 rw[List.all_eq_true] at ha ⊢;intro r hr;exact ha r ((List.takeWhile_sublist _).subset hr)
theorem zauo (p:Int→Bool) (rs:List Int):(encs (rs.takeWhile p)).length≤(encs rs).length:=by
 have:encs rs=encs (rs.takeWhile p)++encs (rs.dropWhile p):=by rw[← zaak,List.takeWhile_append_dropWhile]
 rw[this,List.length_append];omega
theorem zawr (rs:List Int) (hne:rs≠[]) (ha:rs.all Sp.isRune=true) (hl:(encs rs).length≤9000000):qam (encs rs)=some (tokR rs):=by
 match rs,hne with
 |r::rs,_=>
  have ha':=ha;simp only[List.all_cons,Bool.and_eq_true] at ha';have hr:=zafy ha'.1;have hw:=word1 (r::rs) ha hl;have hwl:=zauo goesR (r::rs);rw[qam,zaaa];unfold qam_f tokR;rw[zavu r rs ha'.1,Option.bind_some];simp only;rw[goes1 r hr,Option.bind_some];simp only[List.headD_cons];cases hg:goesR r with
  |false=>
   obtain ⟨b,t,hbt⟩:∃ b t,encs (r::rs)=b::t:=by
    cases he:encs (r::rs) with
    |nil=>
     have:=zagq [] rs r;simp only[List.nil_append,he] at this;simp[encs] at this
    |cons b t=>exact ⟨b,t,rfl⟩
   have hs:=sign1 b t (by rw[← hbt]; exact hl);rw[← hbt] at hs;simp only[Bool.not_false,cond_true,cond_false,hs,Option.bind_some];cases (sgn (encs (r::rs))==[])<;>rfl
  |true=>
   simp only[Bool.not_true,cond_false,cond_true,hw,Option.bind_some];rw[i64_in r (by omega),zat2,Option.bind_some];cases hd:Sp.digit r with
   |true=>
    rw[cond_true,cond_true,zav2 _ (by omega),Option.bind_some];cases (numS (encs ((r::rs).takeWhile goesR))).2<;>rfl
   |false=>
    rw[cond_false,cond_false,zauu,Option.bind_some,zanq _ _ (by decide),Option.bind_some];cases words.contains (encs ((r::rs).takeWhile goesR)) with
    |true=>rfl
    |false=>
     rw[cond_false,cond_false,zawu _ (zaiy ha) (by omega),Option.bind_some];have:decide ((((r::rs).takeWhile goesR).length:Int)>16)=decide (16<((r::rs).takeWhile goesR).length):=by
      rw[Bool.eq_iff_iff,decide_eq_true_eq,decide_eq_true_eq]; omega
     rw[this];cases decide (16<((r::rs).takeWhile goesR).length)<;>rfl
noncomputable def restR (rs:List Int):List Int:=bif goesR (rs.headD 0) then rs.dropWhile goesR else rs.drop (sgn (encs rs)).length
theorem zaf2 {r:Int} {rs:List Int} {b:UInt8} {t:List UInt8} (hr:Sp.isRune r=true) (h:encs (r::rs)=b::t) (hb:b.toNat<128):encB r=[b]∧t=encs rs:=by
 rw[zaa3] at h;simp only[Sp.isRune,decide_eq_true_eq] at hr;by_cases a1:r<128
 ·have e:encB r=[UInt8.ofNat r.toNat]:=by simp[encB,bytesOf,Sp.enc,a1]
  rw[e] at h ⊢;simp only[List.singleton_append,List.cons.injEq] at h;exact ⟨by rw[h.1],h.2.symm⟩
 ·exfalso;have hh:∀ x l,encB r=UInt8.ofNat x::l→128≤x→x<256→False:=by
   intro x l he h1 h2;rw[he,List.cons_append,List.cons.injEq] at h;have:=congrArg UInt8.toNat h.1;rw[zabr _ h2] at this;omega
  unfold encB Sp.enc bytesOf at hh;rw[if_neg a1] at hh;by_cases a2:r<2048
  ·rw[if_pos a2] at hh;exact hh _ _ rfl (by omega) (by omega)
  ·rw[if_neg a2] at hh;by_cases a3:r<65536
   ·rw[if_pos a3] at hh;exact hh _ _ rfl (by omega) (by omega)
   ·rw[if_neg a3] at hh;exact hh _ _ rfl (by omega) (by omega)
end Lift.A1P
namespace Lift.A1P
open Go Go.RowKit Lift Go.IntWalk Lift.Fn
theorem zabt:∀ (l:List Int) (c:Bool),∃ ds,l=ds++skip c l
 |[],c=>⟨[],by cases c<;>rfl⟩
 |r::l,true=>by
  obtain ⟨ds,h⟩:=zabt l (r != 10);exact ⟨r::ds,by simp only[skip,List.cons_append]; rw[← h]⟩
 |r::l,false=>by
  simp only[skip];split
  ·obtain ⟨ds,h⟩:=zabt l true;exact ⟨r::ds,by rw[List.cons_append,← h]⟩
  ·split
   ·obtain ⟨ds,h⟩:=zabt l false;exact ⟨r::ds,by rw[List.cons_append,← h]⟩
   ·exact ⟨[],rfl⟩
theorem zarl:∀ x∈twos,x.length=2∧x.all (fun b=>decide (b.toNat<128))=true:=by decide
theorem zard:∀ b∈ones,b.toNat<128:=by decide
theorem zapy (r:Int) (rs:List Int):∃ b t,encs (r::rs)=b::t:=by
 cases he:encs (r::rs) with
 |nil=>
  have:=zagq [] rs r;simp only[List.nil_append,he] at this;simp[encs] at this
 |cons b t=>exact ⟨b,t,rfl⟩
theorem zaju (r:Int) (rs:List Int) (ha:(r::rs).all Sp.isRune=true) (h:sgn (encs (r::rs))≠[]):encs ((r::rs).take (sgn (encs (r::rs))).length)=sgn (encs (r::rs))∧0<(sgn (encs (r::rs))).length:=by
 refine ⟨?_,List.length_pos_iff.2 h⟩;simp only[List.all_cons,Bool.and_eq_true] at ha;obtain ⟨b,t,hbt⟩:=zapy r rs;rw[hbt] at h ⊢;unfold sgn at h ⊢;by_cases h1:1<(b::t).length∧twos.contains ((b::t).take 2)=true
 ·rw[if_pos h1];have hm:(b::t).take 2∈twos:=by simpa using h1.2
  obtain ⟨hl,hall⟩:=zarl _ hm;match t,hl with
  |c::t,_=>
   simp only[List.take_succ_cons,List.take_zero,List.all_cons,List.all_nil,Bool.and_true,Bool.and_eq_true,decide_eq_true_eq] at hall;obtain ⟨e1,e2⟩:=zaf2 ha.1 hbt hall.1;match rs,ha.2,e2 with
   |[],_,e2=>simp[encs] at e2
   |r2::rs,ha2,e2=>
    simp only[List.all_cons,Bool.and_eq_true] at ha2;obtain ⟨e3,_⟩:=zaf2 ha2.1 e2.symm hall.2;show encs [r,r2]=[b,c];rw[zaa3,zaa3,e1,e3];rfl
 ·rw[if_neg h1] at h ⊢;by_cases h2:ones.contains ((b::t).headD 0)=true
  ·rw[if_pos h2];have hb:b∈ones:=by simpa using h2
   obtain ⟨e1,_⟩:=zaf2 ha.1 hbt (zard b hb);show encs [r]=[b];rw[zaa3,e1];rfl
  ·rw[if_neg h2] at h;exact absurd rfl h
theorem zais (r:Int) (rs:List Int) (ha:(r::rs).all Sp.isRune=true) (h0:(tokR (r::rs)).2=0):∃ ds,ds≠[]∧r::rs=ds++restR (r::rs)∧encs ds=(tokR (r::rs)).1.text:=by
 unfold tokR at h0 ⊢;unfold restR;simp only[List.headD_cons] at h0 ⊢;cases hg:goesR r with
 |true=>
  refine ⟨(r::rs).takeWhile goesR,by simp[hg],(List.takeWhile_append_dropWhile).symm,?_⟩;simp only[cond_true];cases Sp.digit r with
  |true=>
   cases (numS (encs ((r::rs).takeWhile goesR))).2<;>rfl
  |false=>
   cases words.contains (encs ((r::rs).takeWhile goesR)) with
   |true=>rfl
   |false=>cases decide (16<((r::rs).takeWhile goesR).length)<;>rfl
 |false=>
  rw[hg] at h0;simp only[cond_false] at h0 ⊢;cases hs:(sgn (encs (r::rs))==[]) with
  |true=>rw[hs] at h0; simp at h0
  |false=>
   have hne:sgn (encs (r::rs))≠[]:=by simpa using hs
   obtain ⟨h1,h2⟩:=zaju r rs ha hne;refine ⟨(r::rs).take (sgn (encs (r::rs))).length,?_,(List.take_append_drop _ _).symm,h1⟩;intro hh;have:=congrArg List.length hh;simp only[List.length_take,List.length_nil,List.length_cons] at this;omega
noncomputable def toks:Nat→Int→List Int→(Int×Int)⊕List Token
 |0,_,_=>.inr []
 |_+1,_,[]=>.inr []
 | n + 1, p, r :: rs => bif (tokR (r :: rs)).2 != 0 then .inl ((tokR (r :: rs)).2, p) else
   match toks n (p+(encs (r::rs)).length-(encs (skip false (restR (r::rs)))).length) (skip false (restR (r::rs))) with
   |.inl e=>.inl e
   |.inr l=>.inr (⟨(tokR (r::rs)).1.kind,(tokR (r::rs)).1.text,(tokR (r::rs)).1.num,p⟩::l)
theorem zacf {ds rs:List Int} (h:(ds++rs).all Sp.isRune=true):rs.all Sp.isRune=true:=by
 rw[List.all_append,Bool.and_eq_true] at h;exact h.2
theorem zawa (a2 a3:Int) (a4:List UInt8):∀ (k n:Nat) (rs ds:List Int) (out:List Token),rs.length≤k→k<n→(ds++rs).all Sp.isRune=true→(encs (ds++rs)).length≤4000→out.length≤(encs ds).length →
  qag_i6 n (encs (ds++rs)) ((encs ds).length:Int) a2 a3 a4 out=some (match toks k ((encs ds).length:Int) rs with|.inl e=>.inl (e.1,e.2,[])|.inr l=>.inr (encs (ds++rs),a2,a3,a4,out++l)):=by
 intro k;have fin:∀ (n k:Nat) (ds:List Int) (out:List Token),qag_i6 (n+1) (encs (ds++[])) ((encs ds).length:Int) a2 a3 a4 out=some (match toks k ((encs ds).length:Int) [] with|.inl e=>.inl (e.1,e.2,[])|.inr l=>.inr (encs (ds++[]),a2,a3,a4,out++l)):=by
  intro n k ds out;have:toks k ((encs ds).length:Int) []=.inr []:=by cases k<;>rfl
  rw[this];simp only[List.append_nil,qag_i6,qag_t6];have:decide (((encs ds).length:Int)<((encs ds).length:Int))=false:=decide_eq_false (by omega);rw[this,cond_false]
 induction k with
 |zero=>
  intro n rs ds out hk hn ha hl ho;obtain ⟨n,rfl⟩:∃ q,n=q+1:=⟨n-1,by omega⟩;match rs,hk with
  |[],_=>exact fin n 0 ds out
 |succ k ih=>
  intro n rs ds out hk hn ha hl ho;obtain ⟨n,rfl⟩:∃ q,n=q+1:=⟨n-1,by omega⟩;match rs,hk,ha,hl with
  |[],_,_,_=>exact fin n (k+1) ds out
  |r::rs,hk,ha,hl=>
   have har:=zacf ha;have hlt:=zagq ds rs r;have hlen:(encs (ds++r::rs)).length=(encs ds).length+(encs (r::rs)).length:=by rw[zaak,List.length_append]
   simp only[qag_i6,qag_t6];have b0:decide (((encs ds).length:Int)<((encs (ds++r::rs)).length:Int))=true:=decide_eq_true (by omega);have b1:(decide ((0:Int)≤((encs ds).length:Int))&&(decide (((encs ds).length:Int)≤((encs (ds++r::rs)).length:Int))&&decide (((encs (ds++r::rs)).length:Int)≤((encs (ds++r::rs)).length:Int))))=true:=by
    simp only[Bool.and_eq_true,decide_eq_true_eq]; omega
   have hd:List.drop (Int.toNat ((encs ds).length:Int)) (List.take (Int.toNat ((encs (ds++r::rs)).length:Int)) (encs (ds++r::rs)))=encs (r::rs):=by
    rw[Int.toNat_natCast,Int.toNat_natCast,List.take_length,zafs]
   rw[b0,cond_true,b1,cond_true,hd,zawr _ (List.cons_ne_nil _ _) har (by omega),Option.bind_some];simp only[toks];cases hc:((tokR (r::rs)).2 != 0) with
   |true=>rfl
   |false=>
    have h0:(tokR (r::rs)).2=0:=by simpa using hc
    obtain ⟨es,hes,hsp,htx⟩:=zais r rs har h0;obtain ⟨fs,hfs⟩:=zabt (restR (r::rs)) false;have hall:((ds++es)++restR (r::rs)).all Sp.isRune=true:=by rw[List.append_assoc,← hsp]; exact ha
    have hres:=zacf hall;have l1:(encs (r::rs)).length=(encs es).length+(encs (restR (r::rs))).length:=by
     conv=>lhs; rw[hsp]
     rw[zaak,List.length_append]
    have l2:(encs (restR (r::rs))).length=(encs fs).length+(encs (skip false (restR (r::rs)))).length:=by
     conv=>lhs; rw[hfs]
     rw[zaak,List.length_append]
    have hes1:1≤(encs es).length:=by
     have:=zabj es;have:0<es.length:=List.length_pos_iff.2 hes;omega
    rw[← htx];simp only[cond_false];rw[decide_eq_true (show _∧_ by simp only[List.length_cons,List.length_nil]; omega),cond_true,i64_in (((encs ds).length:Int)+(encs es).length) (by omega)];have b2:(decide ((0:Int)≤((encs ds).length:Int)+(encs es).length)&&(decide (((encs ds).length:Int)+(encs es).length≤((encs (ds++r::rs)).length:Int))&&decide (((encs (ds++r::rs)).length:Int)≤((encs (ds++r::rs)).length:Int))))=true:=by
     simp only[Bool.and_eq_true,decide_eq_true_eq]; omega
    have hd2:List.drop (Int.toNat (((encs ds).length:Int)+(encs es).length)) (List.take (Int.toNat ((encs (ds++r::rs)).length:Int)) (encs (ds++r::rs)))=encs (restR (r::rs)):=by
     have e:ds++r::rs=(ds++es)++restR (r::rs):=by rw[List.append_assoc,← hsp]
     have e2:(((encs ds).length:Int)+(encs es).length).toNat=(encs (ds++es)).length:=by rw[zaak,List.length_append]; omega
     rw[Int.toNat_natCast,List.take_length,e2,e,zafs]
    rw[b2,cond_true,hd2,zaq3 _ hres (by omega),Option.bind_some];have hat:IntKind.wrap IntKind.i64 (((encs ds).length:Int)+(encs es).length+(((encs (restR (r::rs))).length:Int)-(encs (skip false (restR (r::rs)))).length))=((encs (ds++es++fs)).length:Int):=by
     rw[i64_in _ (by omega),zaak,zaak,List.length_append,List.length_append];omega
    have hp:((encs ds).length:Int)+(encs (r::rs)).length-(encs (skip false (restR (r::rs)))).length=((encs (ds++es++fs)).length:Int):=by
     rw[zaak,zaak,List.length_append,List.length_append];omega
    have hT:ds++r::rs=(ds++es++fs)++skip false (restR (r::rs)):=by
     rw[List.append_assoc,← hfs,List.append_assoc,← hsp]
    have hk':(skip false (restR (r::rs))).length≤k:=by
     have q1:=congrArg List.length hsp;have q2:=congrArg List.length hfs;have q3:0<es.length:=List.length_pos_iff.2 hes;simp only[List.length_append,List.length_cons] at q1 q2 hk;omega
    rw[hat,hp]
    have:=ih n (skip false (restR (r::rs))) (ds++es++fs) (out++[⟨(tokR (r::rs)).1.kind,encs es,(tokR (r::rs)).1.num,((encs ds).length:Int)⟩]) hk' (by omega) (by rw[← hT]; exact ha) (by rw[← hT]; exact hl) (by
     rw[zaak,zaak];simp only[List.length_append,List.length_cons,List.length_nil];omega)
    rw[← hT] at this;rw[this];cases toks k ((encs (ds++es++fs)).length:Int) (skip false (restR (r::rs))) with
    |inl e=>rfl
    |inr l=>simp only[List.append_assoc,List.singleton_append]
theorem toks_len:∀ (k:Nat) (p:Int) (rs:List Int),rs.all Sp.isRune=true→∀ l,toks k p rs=.inr l→l.length≤rs.length
 |0,p,rs,_,l,h=>by simp only[toks,Sum.inr.injEq] at h; subst h; simp
 |k+1,p,[],_,l,h=>by simp only[toks,Sum.inr.injEq] at h; subst h; simp
 |k+1,p,r::rs,ha,l,h=>by
  simp only[toks] at h;cases hc:((tokR (r::rs)).2 != 0) with
  |true=>rw[hc] at h; simp at h
  |false=>
   rw[hc] at h;have h0:(tokR (r::rs)).2=0:=by simpa using hc
   obtain ⟨es,hes,hsp,_⟩:=zais r rs ha h0;obtain ⟨fs,hfs⟩:=zabt (restR (r::rs)) false;have q1:=congrArg List.length hsp;have q2:=congrArg List.length hfs;have q3:0<es.length:=List.length_pos_iff.2 hes;simp only[List.length_append,List.length_cons] at q1 q2;simp only[cond_false] at h;have hs:(skip false (restR (r::rs))).all Sp.isRune=true:=zacf (ds:=es++fs) (by rw[List.append_assoc,← hfs,← hsp]; exact ha);split at h
   ·cases h
   ·rename_i l' hl';simp only[Sum.inr.injEq] at h;subst h;have:=toks_len k _ _ hs l' hl';simp only[List.length_cons];omega
theorem zajw (rs:List Int) (ha:rs.all Sp.isRune=true) (hl:(encs rs).length≤4000):qag (encs rs)=some (match toks rs.length (((encs rs).length:Int)-(encs (skip false rs)).length) (skip false rs) with
  |.inl e=>([],⟨e.1,e.2,[]⟩)
  |.inr l=>(l++[⟨5,[],0,((encs rs).length:Int)⟩],⟨0,0,[]⟩)):=by
 obtain ⟨fs,hfs⟩:=zabt rs false;obtain ⟨q1,q2⟩:=zapt rs ha hl;have hsk:((encs rs).length:Int)-(encs (skip false rs)).length=((encs fs).length:Int):=by
  have:(encs rs).length=(encs fs).length+(encs (skip false rs)).length:=by
   conv=>lhs; rw[hfs]
   rw[zaak,List.length_append]
  omega
 have hL:=zawa 0 0 [] rs.length fuel (skip false rs) fs [] (by have:=congrArg List.length hfs; rw[List.length_append] at this; omega) (by have:=zabj rs; unfold fuel; omega) (by rw[← hfs]; exact ha) (by rw[← hfs]; exact hl) (by simp);rw[← hfs] at hL;rw[qag,zaaa];unfold qag_f;rw[zark,q1,q2,Option.bind_some];simp only[bne_self_eq_false,cond_false];rw[zaq3 rs ha (by omega),Option.bind_some,hsk,qag_l6,zaaa,hL,Option.bind_some];have hlen:=toks_len rs.length ((encs fs).length:Int) (skip false rs) (zacf (ds:=fs) (by rw[← hfs]; exact ha));cases ht:toks rs.length ((encs fs).length:Int) (skip false rs) with
 |inl e=>rfl
 |inr l=>
  have hl2:=hlen l ht;have h3:(skip false rs).length≤rs.length:=by
   have:=congrArg List.length hfs;rw[List.length_append] at this;omega
  have h4:=zabj rs;simp only[List.nil_append];rw[decide_eq_true (show _∧_ by simp only[List.length_cons,List.length_nil]; omega),cond_true]
end Lift.A1P
namespace Lift.A1P
open Go Go.RowKit Lift Go.IntWalk Lift.Fn
end Lift.A1P
namespace Lift.A1P
open Go Go.RowKit Lift Go.IntWalk Lift.Fn
def whole (w:List Int) (t:Token):Prop:=w≠[]∧w.all Sp.isRune=true∧tokR w=(t,0)∧t.text=encs w
theorem zai2 {w:List Int} (h:goesR (w.headD 0)=true):(tokR w).1.text=encs (w.takeWhile goesR):=by
 unfold tokR;rw[h,cond_true];cases Sp.digit (w.headD 0) with
 |true=>cases (numS (encs (w.takeWhile goesR))).2<;>rfl
 |false=>
  cases words.contains (encs (w.takeWhile goesR)) with
  |true=>rfl
  |false=>cases decide (16<(w.takeWhile goesR).length)<;>rfl
theorem zar9 {a b:List Int} (h:encs (a++b)=encs a):b=[]:=by
 have h1:=congrArg List.length h;rw[zaak,List.length_append] at h1;have h2:=zabj b;have:b.length=0:=by omega
 exact List.eq_nil_of_length_eq_zero this
theorem zasr {w:List Int} {t:Token} (h:whole w t) (hg:goesR (w.headD 0)=true):w.takeWhile goesR=w:=by
 obtain ⟨_,_,h3,h4⟩:=h;have h5:=zai2 hg;rw[h3] at h5;have h6:encs (w.takeWhile goesR++w.dropWhile goesR)=encs (w.takeWhile goesR):=by
  rw[List.takeWhile_append_dropWhile,← h5,← h4]
 have h7:=zar9 h6;have h8:=List.takeWhile_append_dropWhile (p:=goesR) (l:=w);rw[h7,List.append_nil] at h8;exact h8
theorem zalc {w:List Int} (h:w≠[]) (r:List Int):(w++r).headD 0=w.headD 0:=by
 cases w with
 |nil=>exact absurd rfl h
 |cons a w=>rfl
end Lift.A1P
namespace Lift.A1P
open Go Go.RowKit Lift Go.IntWalk Lift.Fn
end Lift.A1P
namespace Lift.A1P
open Go Go.RowKit Lift Go.IntWalk Lift.Fn
end Lift.A1P
namespace Lift.A1P
open Go Go.RowKit Lift Go.IntWalk Lift.Fn
def core (t:Token):Int×List UInt8×Int:=(t.kind,t.text,t.num)
end Lift.A1P
namespace Lift.A4
open Go Go.RowKit Lift Go.IntWalk Lift.Fn Lift.A1P
set_option linter.unusedVariables false
abbrev Tk:=Int×List UInt8×Int
def Ends (l:List Token):Prop:=∃ u e,l=u++[e]∧e.kind=5
theorem zae6 {l:List Token} (h:Ends l):∃ t r,l=t::r:=by
 obtain ⟨u,e,rfl,_⟩:=h;cases u with
 |nil=>exact ⟨e,[],rfl⟩
 |cons a u=>exact ⟨a,u++[e],rfl⟩
theorem zaeo {t:Token} {r:List Token} (h:Ends (t::r)) (hk:t.kind≠5):Ends r:=by
 obtain ⟨u,e,he,h5⟩:=h;cases u with
 |nil=>
  simp only[List.nil_append,List.cons.injEq] at he;exact absurd (he.1▸h5) hk
 |cons a u=>
  simp only[List.cons_append,List.cons.injEq] at he;exact ⟨u,e,he.2,h5⟩
variable {R S X Y:Type}
def GoodT (P:List Token→Option R) (ok:X→List Token→R) (bad:Wrong→R) (C:X→List Tk→Prop) (ts:List Token):Prop:=
  ∃ (u:List Token) (t:Token) (r:List Token),ts=u++t::r∧Ends (t::r) ∧
    ((∃ x,C x (u.map core)∧∀ u' t' r',List.map core u'=List.map core u→core t'=core t→P (u'++t'::r')=some (ok x (t'::r'))) ∨
     (∀ u' t' r',List.map core u'=List.map core u→core t'=core t→P (u'++t'::r')=some (bad ⟨t'.at_⟩)))
theorem zab5 {P:List Token→Option R} {ok:X→List Token→R} {bad:Wrong→R} {C D:X→List Tk→Prop} {ts:List Token}
  (h:GoodT P ok bad C ts) (hc:∀ x n,n.length<ts.length→C x n→D x n):GoodT P ok bad D ts:=by
 obtain ⟨u,t,r,h1,h2,h3⟩:=h;refine ⟨u,t,r,h1,h2,?_⟩;rcases h3 with ⟨x,c,h⟩|h
 ·refine .inl ⟨x,hc x _ ?_ c,h⟩;rw[h1,List.length_append,List.length_cons,List.length_map];omega
 ·exact .inr h
theorem zaai (ok:X→List Token→R) (bad:Wrong→R) {C:X→List Tk→Prop} {ts:List Token} (x:X) (he:Ends ts) (hc:C x []) :
  GoodT (fun z=>some (ok x z)) ok bad C ts:=by
 obtain ⟨t,r,rfl⟩:=zae6 he;refine ⟨[],t,r,rfl,he,.inl ⟨x,hc,fun u' t' r' hu ht=>?_⟩⟩
 have:u'=[]:=by cases u' with
  |nil=>rfl
  |cons a u'=>cases hu
 rw[this];rfl
theorem zaar {P:List Token→Option R} {ok:X→List Token→R} {bad:Wrong→R} {C:X→List Tk→Prop} {ts:List Token}
  {F:R→Option S} {ok':Y→List Token→S} {bad':Wrong→S} {D:Y→List Tk→Prop}
  (h:GoodT P ok bad C ts)
  (hk:∀ x n t1,C x n→Ends t1→n.length+t1.length=ts.length→GoodT (fun z=>F (ok x z)) ok' bad' (fun y m=>D y (n++m)) t1)
  (hb:∀ w,F (bad w)=some (bad' w)):GoodT (fun z=>Option.bind (P z) F) ok' bad' D ts:=by
 obtain ⟨u,t,r,rfl,h2,h3⟩:=h;rcases h3 with ⟨x,c,h⟩|h
 ·obtain ⟨u2,t2,r2,e,h5,h6⟩:=hk x (u.map core) (t::r) c h2 (by rw[List.length_append,List.length_map]);refine ⟨u++u2,t2,r2,by rw[e,List.append_assoc],h5,?_⟩;have key:∀ u' t' r',List.map core u'=List.map core (u++u2)→core t'=core t2→∃ v w,u'=v++w∧List.map core w=List.map core u2∧P (u'++t'::r')=some (ok x (w++t'::r')):=by
   intro u' t' r' hu ht;refine ⟨u'.take u.length,u'.drop u.length,(List.take_append_drop _ _).symm,?_,?_⟩
   ·rw[List.map_drop,hu,List.map_append,← List.length_map (f:=core),List.drop_left]
   ·have e1:List.map core (u'.take u.length)=List.map core u:=by
     rw[List.map_take,hu,List.map_append,← List.length_map (f:=core),List.take_left]
    have e2:List.map core (u'.drop u.length)=List.map core u2:=by
     rw[List.map_drop,hu,List.map_append,← List.length_map (f:=core),List.drop_left]
    rw[show u'++t'::r'=u'.take u.length++(u'.drop u.length++t'::r') by rw[← List.append_assoc,List.take_append_drop]];generalize u'.drop u.length=w at e2 ⊢;cases u2 with
    |nil=>
     have:w=[]:=by cases w with
      |nil=>rfl
      |cons a w=>cases e2
     rw[this];simp only[List.nil_append,List.cons.injEq] at e;exact h _ _ _ e1 (by rw[ht,e.1])
    |cons a u2=>
     cases w with
     |nil=>cases e2
     |cons b w=>
      simp only[List.map_cons,List.cons.injEq] at e2;simp only[List.cons_append,List.cons.injEq] at e;exact h _ _ _ e1 (by rw[e2.1,e.1])
  rcases h6 with ⟨y,d,h7⟩|h7
  ·refine .inl ⟨y,by rw[List.map_append]; exact d,fun u' t' r' hu ht=>?_⟩;obtain ⟨v,w,rfl,hw,hp⟩:=key u' t' r' hu ht;show Option.bind (P _) F=_;rw[hp,Option.bind_some];exact h7 w t' r' hw ht
  ·refine .inr fun u' t' r' hu ht=>?_
   obtain ⟨v,w,rfl,hw,hp⟩:=key u' t' r' hu ht;show Option.bind (P _) F=_;rw[hp,Option.bind_some];exact h7 w t' r' hw ht
 ·refine ⟨u,t,r,rfl,h2,.inr fun u' t' r' hu ht=>?_⟩;show Option.bind (P _) F=_;rw[h u' t' r' hu ht,Option.bind_some,hb]
theorem zadu {P:List Token→Option R} {Q:List Token→Option R} {ok:X→List Token→R} {bad:Wrong→R} {C:X→List Tk→Prop} {t:Token} {r:List Token}
  (h:GoodT Q ok bad (fun x n=>C x (core t::n)) r) (hp:∀ t' z,core t'=core t→z≠[]→P (t'::z)=Q z):GoodT P ok bad C (t::r):=by
 obtain ⟨u,s,q,rfl,h2,h3⟩:=h;refine ⟨t::u,s,q,rfl,h2,?_⟩;have key:∀ u' t' r',List.map core u'=List.map core (t::u)→∃ v,List.map core v=List.map core u∧P (u'++t'::r')=Q (v++t'::r'):=by
  intro u' t' r' hu;cases u' with
  |nil=>cases hu
  |cons a v=>
   simp only[List.map_cons,List.cons.injEq] at hu;exact ⟨v,hu.2,hp a _ hu.1 (by simp)⟩
 rcases h3 with ⟨x,c,h⟩|h
 ·refine .inl ⟨x,c,fun u' t' r' hu ht=>?_⟩;obtain ⟨v,hv,e⟩:=key u' t' r' hu;rw[e,h v t' r' hv ht]
 ·refine .inr fun u' t' r' hu ht=>?_
  obtain ⟨v,hv,e⟩:=key u' t' r' hu;rw[e,h v t' r' hv ht]
theorem zalt {P:List Token→Option R} {Q:List Token→Option R} {ok:X→List Token→R} {bad:Wrong→R} {C:X→List Tk→Prop} {t:Token} {r:List Token}
  (h:GoodT Q ok bad C (t::r)) (hp:∀ t' z,core t'=core t→P (t'::z)=Q (t'::z)):GoodT P ok bad C (t::r):=by
 obtain ⟨u,s,q,e,h2,h3⟩:=h;refine ⟨u,s,q,e,h2,?_⟩;have key:∀ u' t' r',List.map core u'=List.map core u→core t'=core s→P (u'++t'::r')=Q (u'++t'::r'):=by
  intro u' t' r' hu ht;cases u with
  |nil=>
   have:u'=[]:=by cases u' with
    |nil=>rfl
    |cons a v=>cases hu
   subst this;simp only[List.nil_append,List.cons.injEq] at e ⊢;exact hp t' r' (by rw[ht,e.1])
  |cons a u=>
   cases u' with
   |nil=>cases hu
   |cons b v=>
    simp only[List.map_cons,List.cons.injEq] at hu;simp only[List.cons_append,List.cons.injEq] at e ⊢;exact hp b _ (by rw[hu.1,e.1])
 rcases h3 with ⟨x,c,h⟩|h
 ·exact .inl ⟨x,c,fun u' t' r' hu ht=>by rw[key u' t' r' hu ht,h u' t' r' hu ht]⟩
 ·exact .inr fun u' t' r' hu ht=>by rw[key u' t' r' hu ht,h u' t' r' hu ht]
theorem zafl {P:List Token→Option R} {ok:X→List Token→R} {bad:Wrong→R} {C:X→List Tk→Prop} {t:Token} {r:List Token} (he:Ends (t::r))
  (hp:∀ t' z,core t'=core t→P (t'::z)=some (bad ⟨t'.at_⟩)):GoodT P ok bad C (t::r):=by
 refine ⟨[],t,r,rfl,he,.inr fun u' t' r' hu ht=>?_⟩
 have:u'=[]:=by cases u' with
  |nil=>rfl
  |cons a v=>cases hu
 subst this;exact hp t' r' ht
end Lift.A4
namespace Lift.A4
open Go Go.RowKit Lift Go.IntWalk Lift.Fn Lift.A1P
set_option linter.unusedVariables false
set_option linter.unusedSimpArgs false
theorem next1 (t:Token) (r:List Token):qau (t::r)=some (t,t::r):=by
 rw[qau,zaaa]; rfl
def hit (s:List UInt8) (t:Token):Bool:=(bif t.kind==4 then true else t.kind==3)&&t.text==s
theorem is1 (s:List UInt8) (t:Token) (r:List Token):qas s (t::r)=some (hit s t,t::r):=by
 rw[qas,zaaa];unfold qas_f hit;rw[next1,Option.bind_some];cases t.kind==4<;>cases t.kind==3<;>rfl
theorem take1 (t:Token) (r:List Token):qaA (t::r)=some (t,r):=by
 rw[qaA,zaaa];unfold qaA_f;rw[next1,Option.bind_some];dsimp only;have e:(decide ((0:Int)≤(1:Int))&&(decide ((1:Int)≤(↑(List.length (t::r)):Int))&&decide ((↑(List.length (t::r)):Int)≤(↑(List.length (t::r)):Int))))=true:=by
  simp only[Bool.and_eq_true,decide_eq_true_eq,List.length_cons];omega
 rw[e,cond_true];have:List.take (Int.toNat (↑(List.length (t::r)):Int)) (t::r)=t::r:=by
  rw[Int.toNat_natCast,List.take_length]
 rw[this];rfl
theorem took1 (s:List UInt8) (t:Token) (r:List Token):qaB s (t::r)=some (hit s t,bif hit s t then r else t::r):=by
 rw[qaB,zaaa];unfold qaB_f;rw[is1,Option.bind_some];dsimp only;cases h:hit s t with
 |false=>rfl
 |true=>rw[cond_true,take1]; rfl
theorem zam2 (t:Token) (r:List Token):qay (t::r)=some ⟨t.at_⟩:=by
 rw[qay,zaaa];unfold qay_f;rw[next1];rfl
theorem of1 (k:Int) (t:Token) (r:List Token):qav k (t::r)=some (bif t.kind != k then .inr ⟨t.at_⟩ else .inl (t,r)):=by
 rw[qav,zaaa];unfold qav_f;rw[next1,Option.bind_some];dsimp only;cases t.kind != k with
 |true=>rw[cond_true,zam2]; rfl
 |false=>rw[cond_false,take1]; rfl
theorem name1 (t:Token) (r:List Token):qat (t::r)=some (bif t.kind != 1 then .inr ⟨t.at_⟩ else .inl (t.text,r)):=by
 rw[qat,zaaa];unfold qat_f;rw[of1,Option.bind_some];cases t.kind != 1<;>rfl
theorem want1 (s:List UInt8) (t:Token) (r:List Token):qaD s (t::r)=some (bif hit s t then .inl r else .inr ⟨t.at_⟩):=by
 rw[qaD,zaaa];unfold qaD_f;rw[took1,Option.bind_some];cases hit s t with
 |true=>rfl
 |false=>
  simp only[Bool.not_false,cond_true,cond_false];rw[zam2];rfl
theorem zaid {s:List UInt8} {t t':Token} (h:core t'=core t):hit s t'=hit s t:=by
 simp only[core,Prod.mk.injEq] at h;unfold hit;rw[h.1,h.2.1]
theorem zamt {s:List UInt8} {t:Token} (h:hit s t=true):t.kind≠5:=by
 intro h5;unfold hit at h;rw[h5] at h;cases h
variable {S X:Type} {ok:X→List Token→S} {bad:Wrong→S} {D:X→List Tk→Prop} {ts:List Token}
theorem zaa7 {s:List UInt8} {F:Bool×List Token→Option S} (he:Ends ts)
  (hy:∀ t r,hit s t=true→Ends r→r.length+1=ts.length→GoodT (fun z=>F (true,z)) ok bad (fun x n=>D x (core t::n)) r)
  (hn:(∀ t r,ts=t::r→hit s t=false)→GoodT (fun z=>F (false,z)) ok bad D ts):GoodT (fun z=>Option.bind (qaB s z) F) ok bad D ts:=by
 obtain ⟨t,r,rfl⟩:=zae6 he;cases h:hit s t with
 |true=>
  refine zadu (hy t r h (zaeo he (zamt h)) rfl) fun t' z ht _=>?_
  show Option.bind (qaB s (t'::z)) F=_;rw[took1,zaid ht,h];rfl
 |false=>
  refine zalt (hn (fun a b e=>by cases e; exact h)) fun t' z ht=>?_
  show Option.bind (qaB s (t'::z)) F=_;rw[took1,zaid ht,h];rfl
theorem zaa6 {s:List UInt8} {F:(List Token)⊕Wrong→Option S} (he:Ends ts)
  (hy:∀ t r,hit s t=true→Ends r→r.length+1=ts.length→GoodT (fun z=>F (.inl z)) ok bad (fun x n=>D x (core t::n)) r)
  (hb:∀ w,F (.inr w)=some (bad w)):GoodT (fun z=>Option.bind (qaD s z) F) ok bad D ts:=by
 obtain ⟨t,r,rfl⟩:=zae6 he;cases h:hit s t with
 |true=>
  refine zadu (hy t r h (zaeo he (zamt h)) rfl) fun t' z ht _=>?_
  show Option.bind (qaD s (t'::z)) F=_;rw[want1,zaid ht,h];rfl
 |false=>
  refine zafl he fun t' z ht=>?_
  show Option.bind (qaD s (t'::z)) F=_;rw[want1,zaid ht,h,cond_false,Option.bind_some,hb]
theorem zacm {F:((List UInt8)×List Token)⊕Wrong→Option S} (he:Ends ts)
  (hy:∀ t r,t.kind=1→Ends r→r.length+1=ts.length→GoodT (fun z=>F (.inl (t.text,z))) ok bad (fun x n=>D x (core t::n)) r)
  (hb:∀ w,F (.inr w)=some (bad w)):GoodT (fun z=>Option.bind (qat z) F) ok bad D ts:=by
 obtain ⟨t,r,rfl⟩:=zae6 he;by_cases h:t.kind=1
 ·refine zadu (hy t r h (zaeo he (by rw[h]; decide)) rfl) fun t' z ht _=>?_
  show Option.bind (qat (t'::z)) F=_;simp only[core,Prod.mk.injEq] at ht;have e:(t'.kind != 1)=false:=by rw[ht.1,h]; rfl
  rw[name1,e,cond_false,Option.bind_some,ht.2.1]
 ·refine zafl he fun t' z ht=>?_
  show Option.bind (qat (t'::z)) F=_;simp only[core,Prod.mk.injEq] at ht;have e:(t'.kind != 1)=true:=by rw[ht.1]; simpa using h
  rw[name1,e,cond_true,Option.bind_some,hb]
theorem zad3 {F:Token×List Token→Option S} (he:Ends ts)
  (hF:∀ c x n a b z,F (⟨c,x,n,a⟩,z)=F (⟨c,x,n,b⟩,z))
  (h:∀ t r,ts=t::r→GoodT (fun z=>F (t,z)) ok bad D (t::r)):GoodT (fun z=>Option.bind (qau z) F) ok bad D ts:=by
 obtain ⟨t,r,rfl⟩:=zae6 he;refine zalt (h t r rfl) fun t' z ht=>?_
 show Option.bind (qau (t'::z)) F=F (t,t'::z);rw[next1,Option.bind_some];simp only[core,Prod.mk.injEq] at ht;obtain ⟨c,x,n,a⟩:=t;obtain ⟨c',x',n',a'⟩:=t';obtain ⟨rfl,rfl,rfl⟩:=ht;exact hF _ _ _ _ _ _
theorem zalq {t:Token} {r:List Token} {F:Token×List Token→Option S} (he:Ends (t::r)) (hk:t.kind≠5)
  (hF:∀ c x n a b z,F (⟨c,x,n,a⟩,z)=F (⟨c,x,n,b⟩,z))
  (h:Ends r→GoodT (fun z=>F (t,z)) ok bad (fun x n=>D x (core t::n)) r):GoodT (fun z=>Option.bind (qaA z) F) ok bad D (t::r):=by
 refine zadu (h (zaeo he hk)) fun t' z ht _=>?_
 show Option.bind (qaA (t'::z)) F=F (t,z);rw[take1,Option.bind_some];simp only[core,Prod.mk.injEq] at ht;obtain ⟨c,x,n,a⟩:=t;obtain ⟨c',x',n',a'⟩:=t';obtain ⟨rfl,rfl,rfl⟩:=ht;exact hF _ _ _ _ _ _
theorem zapn {F:Wrong→Option S} (he:Ends ts) (h:∀ w,F w=some (bad w)):GoodT (fun z=>Option.bind (qay z) F) ok bad D ts:=by
 obtain ⟨t,r,rfl⟩:=zae6 he;refine zafl he fun t' z ht=>?_
 show Option.bind (qay (t'::z)) F=_;rw[zam2,Option.bind_some,h]
end Lift.A4
namespace Lift.A3
open Go Go.RowKit Lift Go.IntWalk Lift.Fn
set_option linter.unusedVariables false
set_option linter.unusedSimpArgs false
theorem zaep {α σ:Type} (l:List α) (body:α→σ→Option σ) (L:Nat→Int→σ→Option σ)
  (h0:∀ n i s,0≤i→¬ i<(l.length:Int)→L (n+1) i s=some s)
  (h1:∀ n i s (x:α),0≤i→i<(l.length:Int)→l[i.toNat]? = some x→L (n+1) i s=(body x s).bind fun s'=>L n (i+1) s') :
  ∀ (k n:Nat) (i:Int) (s:σ),0≤i→l.length-i.toNat≤k→k<n→L n i s=(l.drop i.toNat).foldlM (fun s x=>body x s) s:=by
 intro k;induction k with
 |zero=>
  intro n i s hi hk hn;obtain ⟨n,rfl⟩:∃ q,n=q+1:=⟨n-1,by omega⟩;rw[h0 n i s hi (by omega),List.drop_eq_nil_of_le (by omega)];rfl
 |succ k ih=>
  intro n i s hi hk hn;obtain ⟨n,rfl⟩:∃ q,n=q+1:=⟨n-1,by omega⟩;by_cases c:i<(l.length:Int)
  ·have hlt:i.toNat<l.length:=by omega
   rw[h1 n i s l[i.toNat] hi c (List.getElem?_eq_getElem hlt),List.drop_eq_getElem_cons hlt,List.foldlM_cons];congr 1;funext s';rw[ih n (i+1) s' (by omega) (by omega) (by omega)];congr 2;omega
  ·rw[h0 n i s hi c,List.drop_eq_nil_of_le (by omega)];rfl
inductive Ev where
 |s (x:TStmt) (d:Int)
 |e (x:TExpr) (d:Int)
mutual
def evE:TExpr→Int→List Ev
 |⟨k,n,m,l⟩,d=>.e ⟨k,n,m,l⟩ d::evEs l (d+1)
def evEs:List TExpr→Int→List Ev
 |[],_=>[]
 |x::l,d=>evE x d++evEs l d
end
def zace (x:TExpr):Bool:=(x.kind != 0)||decide (0<x.args.length)
mutual
def evS:TStmt→Int→List Ev
 |⟨k,r,m,x,c,t,o⟩,d=>.s ⟨k,r,m,x,c,t,o⟩ d::((if zace x then evE x 1 else [])++(evSs t (d+1)++evSs o (d+1)))
def evSs:List TStmt→Int→List Ev
 |[],_=>[]
 |x::l,d=>evS x d++evSs l d
end
def evP (p:TProg):List Ev:=p.threads.flatMap fun t=>evSs t.body 1
mutual
def nE:TExpr→Nat
 |⟨_,_,_,l⟩=>1+nEs l
def nEs:List TExpr→Nat
 |[]=>0
 |x::l=>nE x+nEs l
end
mutual
def nS:TStmt→Nat
 |⟨_,_,_,x,_,t,o⟩=>1+nE x+nSs t+nSs o
def nSs:List TStmt→Nat
 |[]=>0
 |x::l=>nS x+nSs l
end
def nT:List TThread→Nat
 |[]=>0
 |t::l=>1+nSs t.body+nT l
theorem nE_eq (x:TExpr):nE x=1+nEs x.args:=by cases x; simp[nE]
theorem nS_eq (x:TStmt):nS x=1+nE x.expr+nSs x.then_+nSs x.else_:=by cases x; simp[nS]
theorem zawm (x:TExpr) (d:Int):evE x d=.e x d::evEs x.args (d+1):=by cases x; simp[evE]
theorem zaws (x:TStmt) (d:Int):evS x d=.s x d::((if zace x.expr then evE x.expr 1 else [])++(evSs x.then_ (d+1)++evSs x.else_ (d+1))):=by cases x; simp[evS]
theorem zam5:∀ l:List TExpr,l.length≤nEs l
 |[]=>by simp[nEs]
 |x::l=>by have:=zam5 l; have:=nE_eq x; simp only[nEs,List.length_cons]; omega
theorem zah9:∀ l:List TStmt,l.length≤nSs l
 |[]=>by simp[nSs]
 |x::l=>by have:=zah9 l; have:=nS_eq x; simp only[nSs,List.length_cons]; omega
theorem zal7:∀ l:List TThread,l.length≤nT l
 |[]=>by simp[nT]
 |x::l=>by have:=zal7 l; simp only[nT,List.length_cons]; omega
theorem zamu:∀ {l:List TExpr} {x:TExpr},x∈l→nE x≤nEs l
 |y::l,x,h=>by
  simp only[nEs];cases h with
  |head=>omega
  |tail _ h=>have:=zamu h; omega
theorem zam0:∀ {l:List TStmt} {x:TStmt},x∈l→nS x≤nSs l
 |y::l,x,h=>by
  simp only[nSs];cases h with
  |head=>omega
  |tail _ h=>have:=zam0 h; omega
theorem zamg:∀ {l:List TThread} {x:TThread},x∈l→nSs x.body<nT l
 |y::l,x,h=>by
  simp only[nT];cases h with
  |head=>omega
  |tail _ h=>have:=zamg h; omega
theorem zang : ∀ (l : List TExpr) (d : Int), evEs l d = l.flatMap fun x => evE x d
 |[],d=>by simp[evEs]
 |x::l,d=>by simp[evEs,zang l d]
theorem zand : ∀ (l : List TStmt) (d : Int), evSs l d = l.flatMap fun x => evS x d
 |[],d=>by simp[evSs]
 |x::l,d=>by simp[evSs,zand l d]
theorem zad7 {α β σ : Type} (f : α → List β) (g : σ → β → Option σ) : ∀ (l : List α) (s : σ), (l.flatMap f).foldlM g s = l.foldlM (fun s x => (f x).foldlM g s) s
 |[],s=>rfl
 |x::l,s=>by
  rw[List.flatMap_cons,List.foldlM_append,List.foldlM_cons];congr 1;funext s';exact zad7 f g l s'
theorem zaen {α β:Type} (o:Option (α×β)):(o.bind fun y=>some (y.1,y.2))=o:=by cases o<;>rfl
theorem zaan (x:TExpr):TExpr.mk x.kind x.num x.name x.args=x:=by cases x; rfl
theorem zaq1 (x:TStmt):TStmt.mk x.kind x.reg x.name (TExpr.mk x.expr.kind x.expr.num x.expr.name x.expr.args) x.count x.then_ x.else_=x:=by
 obtain ⟨k,r,n,⟨_,_,_,_⟩,c,t,o⟩:=x;rfl
theorem zak7 (x:TStmt):TStmt.mk x.kind x.reg x.name x.expr x.count x.then_ x.else_=x:=by cases x; rfl
theorem zahq (x:TProg):TProg.mk x.cells x.mutexes x.threads=x:=by cases x; rfl
def atEv {σ:Type} (g:TStmt→Int→σ→Option σ) (h:TExpr→Int→σ→Option σ) (s:σ):Ev→Option σ
 |.s x d=>g x d s
 |.e x d=>h x d s
structure WalksE {σ:Type} (h:TExpr→Int→σ→Option σ) (F:Nat→TExpr→Int→σ→Option σ):Prop where
 step:∀ n x d s,(d:Int)+1≤4611686018427387904→-4611686018427387904≤d→x.args.length≤4611686018427387904→F (n+1) x d s=(h x d s).bind fun s'=>x.args.foldlM (fun s y=>F n y (d+1) s) s'
theorem zaug {σ:Type} {g:TStmt→Int→σ→Option σ} {h:TExpr→Int→σ→Option σ} {F:Nat→TExpr→Int→σ→Option σ} (hW:WalksE h F) :
  ∀ (k n:Nat) (x:TExpr) (d:Int) (s:σ),nE x≤k→k<n→0≤d→d+k≤1000000000000000000→F n x d s=(evE x d).foldlM (atEv g h) s:=by
 intro k;induction k with
 |zero=>intro n x d s hk; have:=nE_eq x; omega
 |succ k ih=>
  intro n x d s hk hn h0 hd;obtain ⟨n,rfl⟩:∃ q,n=q+1:=⟨n-1,by omega⟩;have hx:=nE_eq x;have hl:=zam5 x.args;rw[hW.step n x d s (by omega) (by omega) (by omega),zawm,List.foldlM_cons];show _=(h x d s).bind _;congr 1;funext s';rw[zang,zad7];have:∀ (l:List TExpr) (s:σ),(∀ y∈l,nE y≤k)→l.foldlM (fun s y=>F n y (d+1) s) s=l.foldlM (fun s y=>(evE y (d+1)).foldlM (atEv g h) s) s:=by
   intro l;induction l with
   |nil=>intro s _; rfl
   |cons y l ihl=>
    intro s hy;rw[List.foldlM_cons,List.foldlM_cons,ih n y (d+1) s (hy y (by simp)) (by omega) (by omega) (by omega)];congr 1;funext s';exact ihl s' (fun z hz=>hy z (by simp[hz]))
  exact this _ _ (fun y hy=>by have:=zamu hy; omega)
structure WalksS {σ:Type} (g:TStmt→Int→σ→Option σ) (E:TExpr→Int→σ→Option σ) (F:Nat→List TStmt→Int→σ→Option σ):Prop where
 step:∀ n l d s,(d:Int)+1≤4611686018427387904→-4611686018427387904≤d→l.length≤4611686018427387904→F (n+1) l d s=l.foldlM (fun s x=>(g x d s).bind fun s1=>(if zace x.expr then E x.expr 1 s1 else some s1).bind fun s2=>(F n x.then_ (d+1) s2).bind fun s3=>F n x.else_ (d+1) s3) s
theorem zatp {σ:Type} {g:TStmt→Int→σ→Option σ} {h:TExpr→Int→σ→Option σ} {E:TExpr→Int→σ→Option σ} {F:Nat→List TStmt→Int→σ→Option σ}
  (hE:∀ x s,nE x≤100000000000000000→E x 1 s=(evE x 1).foldlM (atEv g h) s) (hW:WalksS g E F) :
  ∀ (k n:Nat) (l:List TStmt) (d:Int) (s:σ),nSs l≤k→k<n→0≤d→d+k≤100000000000000000→F n l d s=(evSs l d).foldlM (atEv g h) s:=by
 intro k;induction k with
 |zero=>
  intro n l d s hk hn h0 hd;obtain ⟨n,rfl⟩:∃ q,n=q+1:=⟨n-1,by omega⟩;have hl:=zah9 l;obtain rfl:l=[]:=List.eq_nil_of_length_eq_zero (by omega);rw[hW.step n [] d s (by omega) (by omega) (by simp)];simp[evSs]
 |succ k ih=>
  intro n l d s hk hn h0 hd;obtain ⟨n,rfl⟩:∃ q,n=q+1:=⟨n-1,by omega⟩;have hl:=zah9 l;rw[hW.step n l d s (by omega) (by omega) (by omega),zand,zad7]
  have : ∀ (l : List TStmt) (s : σ), (∀ y ∈ l, nS y ≤ k + 1) → l.foldlM (fun s x => (g x d s).bind fun s1 => (if zace x.expr then E x.expr 1 s1 else some s1).bind fun s2 => (F n x.then_ (d + 1) s2).bind fun s3 => F n x.else_ (d + 1) s3) s =
    l.foldlM (fun s y=>(evS y d).foldlM (atEv g h) s) s:=by
   intro l;induction l with
   |nil=>intro s _; rfl
   |cons y l ihl=>
    intro s hy;have hy1:=hy y (by simp);have hy2:=nS_eq y;rw[List.foldlM_cons,List.foldlM_cons];have e:∀ s,((g y d s).bind fun s1=>(if zace y.expr then E y.expr 1 s1 else some s1).bind fun s2=>(F n y.then_ (d+1) s2).bind fun s3=>F n y.else_ (d+1) s3)=(evS y d).foldlM (atEv g h) s:=by
     intro s;rw[zaws,List.foldlM_cons];show _=(g y d s).bind _;congr 1;funext s1;rw[List.foldlM_append];have e1:(if zace y.expr then E y.expr 1 s1 else some s1)=(if zace y.expr then evE y.expr 1 else []).foldlM (atEv g h) s1:=by
      split
      ·exact hE _ _ (by omega)
      ·rfl
     rw[e1];congr 1;funext s2;rw[List.foldlM_append];rw[ih n y.then_ (d+1) s2 (by omega) (by omega) (by omega) (by omega)];congr 1;funext s3;exact ih n y.else_ (d+1) s3 (by omega) (by omega) (by omega) (by omega)
    rw[e];congr 1;funext s';exact ihl s' (fun z hz=>hy z (by simp[hz]))
  exact this _ _ (fun y hy=>by have:=zam0 hy; omega)
end Lift.A3
namespace Lift.A4
open Go Go.RowKit Lift Go.IntWalk Lift.Fn Lift.A1P Lift.A3
set_option linter.unusedVariables false
set_option linter.unusedSimpArgs false
abbrev RE:=(Int×Int×(List UInt8)×(List Token)×(List TExpr))⊕(Wrong)
abbrev R5:=((List Token)×Int×Int×(List UInt8)×Int×Int×(List UInt8)×(List TExpr))⊕(Wrong)
def okE (e:TExpr) (z:List Token):RE:=.inl (e.kind,e.num,e.name,z,e.args)
def ok5 (e:TExpr) (z:List Token):R5:=.inl (z,0,0,[],e.kind,e.num,e.name,e.args)
def hitc (s:List UInt8) (c:Tk):Bool:=(bif c.1==4 then true else c.1==3)&&c.2.1==s
theorem hit_c (s:List UInt8) (t:Token):hitc s (core t)=hit s t:=rfl
def LV:List (List ((List UInt8)×Int)):=
 [[([124,124],17)],[([38,38],16)],[([61,61],10),([33,61],11),([60],12),([60,61],13),([62],14),([62,61],15)],[([43],5),([45],6)],[([42],7),([47],8),([37],9)]]
theorem zamr:qap=some LV:=by
 rw[qap,zaaa];decide +kernel
def opAt (l:Nat) (c:Tk):Option Int:=if c.1=3 then (LV[l]?).bind (fun M=>mapAt M c.2.1) else none
inductive DE:Nat→TExpr→List Tk→Prop
 |up {l:Nat} {x:TExpr} {c:List Tk}:l<5→DE (l+1) x c→DE l x c
 |bin {l:Nat} {x y:TExpr} {c d:List Tk} {o:Tk} {k:Int}:l<5→l≠2→DE l x c→opAt l o=some k→DE (l+1) y d→DE l ⟨k,0,[],[x,y]⟩ (c++o::d)
 |cmp {x y:TExpr} {c d:List Tk} {o:Tk} {k:Int}:DE 3 x c→opAt 2 o=some k→DE 3 y d→DE 2 ⟨k,0,[],[x,y]⟩ (c++o::d)
 |neg {x:TExpr} {c:List Tk} {o:Tk}:hitc [45] o=true→DE 5 x c→DE 5 ⟨3,0,[],[x]⟩ (o::c)
 |not {x:TExpr} {c:List Tk} {o:Tk}:hitc [33] o=true→DE 5 x c→DE 5 ⟨4,0,[],[x]⟩ (o::c)
 |par {x:TExpr} {c:List Tk} {o q:Tk}:hitc [40] o=true→hitc [41] q=true→DE 0 x c→DE 5 x (o::(c++[q]))
 |num {o:Tk}:o.1=2→DE 5 ⟨1,o.2.2,[],[]⟩ [o]
 |reg {o:Tk}:o.1=1→DE 5 ⟨2,0,o.2.1,[]⟩ [o]
theorem zas1 (k n:Int) (s:List UInt8) (x:TExpr):nE (TExpr.mk k n s [x])=1+nE x:=by simp[nE,nEs]
theorem zat9 (k n:Int) (s:List UInt8) (x y:TExpr):nE (TExpr.mk k n s [x,y])=1+nE x+nE y:=by simp only[nE,nEs]; omega
theorem zah4 (k n:Int) (s:List UInt8):nE (TExpr.mk k n s [])=1:=by simp[nE,nEs]
theorem DE.size {l:Nat} {x:TExpr} {c:List Tk} (h:DE l x c):0<c.length∧nE x≤c.length:=by
 induction h with
 |up _ _ ih=>exact ih
 |bin _ _ _ _ _ ih1 ih2=>rw[zat9,List.length_append,List.length_cons]; omega
 |cmp _ _ _ ih1 ih2=>rw[zat9,List.length_append,List.length_cons]; omega
 |neg _ _ ih=>rw[zas1,List.length_cons]; omega
 |not _ _ ih=>rw[zas1,List.length_cons]; omega
 |par _ _ _ ih=>simp only[List.length_cons,List.length_append,List.length_nil]; omega
 |num _=>rw[zah4]; simp
 |reg _=>rw[zah4]; simp
theorem zawo (E : Int → List Token → Option RE) (N : Nat) (hE : ∀ l, Ends l → l.length < N → GoodT (fun z => E 0 z) okE .inr (DE 0) l) :
  ∀ (f:Nat) (ts:List Token),Ends ts→ts.length<f→ts.length≤N→GoodT (fun z=>qaC_i E f z) okE .inr (DE 5) ts:=by
 intro f;induction f with
 |zero=>intro ts _ h; omega
 |succ f ih=>
  intro ts he hf hN;show GoodT (fun z=>qaC_f (qaC_i E f) E z) okE .inr (DE 5) ts;unfold qaC_f;refine zaa7 he (fun o r ho hr hl=>?_) (fun _=>?_)
  ·dsimp only[cond_true];refine zaar (ih r hr (by omega) (by omega)) (fun x n t1 c h1 h2=>?_) (fun w=>rfl);dsimp only[okE];refine zaai okE .inr (TExpr.mk 3 0 [] [TExpr.mk x.kind x.num x.name x.args]) h1 ?_;rw[zaan,List.append_nil];exact .neg ho c
  dsimp only[cond_false];refine zaa7 he (fun o r ho hr hl=>?_) (fun _=>?_)
  ·dsimp only[cond_true];refine zaar (ih r hr (by omega) (by omega)) (fun x n t1 c h1 h2=>?_) (fun w=>rfl);dsimp only[okE];refine zaai okE .inr (TExpr.mk 4 0 [] [TExpr.mk x.kind x.num x.name x.args]) h1 ?_;rw[zaan,List.append_nil];exact .not ho c
  dsimp only[cond_false];refine zaa7 he (fun o r ho hr hl=>?_) (fun _=>?_)
  ·dsimp only[cond_true];refine zaar (hE r hr (by omega)) (fun x n t1 c h1 h2=>?_) (fun w=>rfl);dsimp only[okE];refine zaa6 h1 (fun q r2 hq h3 h4=>?_) (fun w=>rfl);dsimp only;refine zaai okE .inr x h3 ?_;exact .par ho hq c
  dsimp only[cond_false];refine zad3 he (fun _ _ _ _ _ _=>rfl) fun t r e=>?_
  subst e;dsimp only;by_cases hk:t.kind=2
  ·have e2:(t.kind==2)=true:=by simp[hk]
   simp only[e2,cond_true];refine zalq he (by rw[hk]; decide) (fun _ _ _ _ _ _=>rfl) fun hr=>?_
   dsimp only;refine zaai okE .inr (TExpr.mk 1 t.num [] []) hr ?_;exact DE.num (o:=core t) hk
  ·have e2:(t.kind==2)=false:=by simp[hk]
   simp only[e2,cond_false];refine zacm he (fun x r2 hx h3 h4=>?_) (fun w=>rfl);dsimp only;refine zaai okE .inr (TExpr.mk 2 0 x.text []) h3 ?_;exact DE.reg (o:=core x) hx
def pre (l:Nat) (e:TExpr) (c:List Tk):Prop:=if l=2 then DE 3 e c else DE l e c
theorem zaxd (E:Int→List Token→Option RE) (N:Nat) (lvl:Int) (h0:0≤lvl) (h5:lvl<5)
  (hE:∀ l,Ends l→l.length<N→GoodT (fun z=>E (lvl+1) z) okE .inr (DE (lvl.toNat+1)) l) :
  ∀ (f:Nat) (ts:List Token) (e:TExpr),Ends ts→ts.length<f→ts.length≤N →
   GoodT (fun z=>qar_i5 E f lvl z 0 0 [] e.kind e.num e.name LV e.args) ok5 .inr (fun x n=>∀ c,pre lvl.toNat e c→DE lvl.toNat x (c++n)) ts:=by
 intro f;induction f with
 |zero=>intro ts _ _ h; omega
 |succ f ih=>
  intro ts e he hf hN;show GoodT (fun z=>qar_t5 E (qar_i5 E f) lvl z 0 0 [] e.kind e.num e.name LV e.args) ok5 .inr (fun x n=>∀ c,pre lvl.toNat e c→DE lvl.toNat x (c++n)) ts;have stay:∀ c,pre lvl.toNat e c→DE lvl.toNat e (c++[]):=by
   intro c hc;rw[List.append_nil];unfold pre at hc;split at hc
   ·rename_i h2; rw[h2]; exact .up (by omega) hc
   ·exact hc
  unfold qar_t5;refine zad3 he (fun _ _ _ _ _ _=>rfl) fun t r e1=>?_
  subst e1;dsimp only;by_cases hk:t.kind=3
  ·have e2:(t.kind==3)=true:=by simp[hk]
   have e3:(decide ((0:Int)≤lvl)&&decide (lvl<(↑(List.length LV):Int)))=true:=by simp only[Bool.and_eq_true,decide_eq_true_eq]; exact ⟨h0,h5⟩
   have hlt:lvl.toNat<LV.length:=by show lvl.toNat<5; omega
   have hop:∀ k,mapAt LV[lvl.toNat] t.text=some k→opAt lvl.toNat (core t)=some k:=by
    intro k hk2;unfold opAt;rw[if_pos (show (core t).1=3 from hk),List.getElem?_eq_getElem hlt,Option.bind_some];exact hk2
   simp only[e2,e3,cond_true];rw[List.getElem?_eq_getElem hlt];generalize LV[lvl.toNat]=M at hop;simp only[Option.bind_some];refine zad3 he (fun _ _ _ _ _ _=>rfl) fun t2 r2 e1=>?_
   simp only[List.cons.injEq] at e1;obtain ⟨rfl,rfl⟩:=e1;dsimp only;cases hm:mapAt M t.text with
   |none=>
    simp only[Option.isSome_none,Bool.not_false,cond_true];exact zaai ok5 .inr e he stay
   |some op=>
    have hop:=hop op hm;simp only[Option.isSome_some,Bool.not_true,cond_false,Option.getD_some];refine zalq he (by rw[hk]; decide) (fun _ _ _ _ _ _=>rfl) fun hr=>?_
    dsimp only;have hw:IntKind.wrap IntKind.i64 (lvl+(1:Int))=lvl+1:=i64_in _ (by omega);rw[hw];simp only[List.length_cons] at hf hN;refine zaar (hE r hr (by omega)) (fun x n t1 c h1 h2=>?_) (fun w=>rfl);dsimp only[okE];by_cases h22:lvl=2
    ·have e4:(lvl==2)=true:=by simp[h22]
     simp only[e4,cond_true];refine zaai ok5 .inr (TExpr.mk op 0 [] [TExpr.mk e.kind e.num e.name e.args,TExpr.mk x.kind x.num x.name x.args]) h1 ?_;rw[zaan,zaan,List.append_nil];intro c0 hc0;subst h22;exact .cmp hc0 hop c
    ·have e4:(lvl==2)=false:=by simp[h22]
     simp only[e4,cond_false];refine zab5 (ih t1 (TExpr.mk op 0 [] [TExpr.mk e.kind e.num e.name e.args,TExpr.mk x.kind x.num x.name x.args]) h1 (by omega) (by omega)) fun y m _ hy=>?_
     rw[zaan,zaan] at hy;intro c0 hc0;have hne:lvl.toNat≠2:=by omega
     have:=hy (c0++core t::n) (by
      unfold pre at hc0 ⊢;rw[if_neg hne] at hc0 ⊢;exact .bin (by omega) hne hc0 hop c)
     simpa using this
  ·have e2:(t.kind==3)=false:=by simp[hk]
   simp only[e2,cond_false];exact zaai ok5 .inr e he stay
theorem zaxc:∀ (n:Nat) (lvl:Int) (ts:List Token),Ends ts→0≤lvl→lvl≤5→10*ts.length+(5-lvl).toNat<n→ts.length<1000000 →
  GoodT (fun z=>qar_i n lvl z) okE .inr (DE lvl.toNat) ts:=by
 intro n;induction n with
 |zero=>intro lvl ts _ _ _ h; omega
 |succ n ih=>
  intro lvl ts he h0 h5 hn hb;show GoodT (fun z=>qar_f (qar_i n) lvl z) okE .inr (DE lvl.toNat) ts;unfold qar_f;rw[zamr];simp only[Option.bind_some];by_cases h:lvl=5
  ·have e1:(lvl==(↑(List.length LV):Int))=true:=by rw[h]; rfl
   simp only[e1,cond_true];rw[qaC,zaaa];refine zaar (zawo (qar_i n) ts.length (fun l h1 h2=>ih 0 l h1 (by omega) (by omega) (by simp only[h] at hn; omega) (by omega)) fuel ts he (by unfold fuel; omega) (Nat.le_refl _)) (fun x n t1 c h1 h2=>?_) (fun w=>rfl);dsimp only[okE];refine zaai okE .inr x h1 ?_;rw[List.append_nil,h];exact c
  ·have e1:(lvl==(↑(List.length LV):Int))=false:=by
    have:(↑(List.length LV):Int)=5:=rfl;rw[this]; simpa using h
   have hw:IntKind.wrap IntKind.i64 (lvl+(1:Int))=lvl+1:=i64_in _ (by omega);have hlt:(lvl+1).toNat=lvl.toNat+1:=by omega
   simp only[e1,cond_false];rw[hw];refine zaar (ih (lvl+1) ts he (by omega) (by omega) (by omega) hb) (fun x m t1 c h1 h2=>?_) (fun w=>rfl);dsimp only[okE];rw[hlt] at c;have hc:=c.size.1;rw[qar_l5,zaaa];refine zaar (zaxd (qar_i n) (ts.length) lvl h0 (by omega) (fun l h1 h2=>by rw[← hlt]; exact ih (lvl+1) l h1 (by omega) (by omega) (by omega) (by omega)) fuel t1 x h1 (by unfold fuel; omega) (by omega)) (fun y k t2 c2 h3 h4=>?_) (fun w=>rfl);dsimp only[ok5];refine zaai okE .inr y h3 ?_;rw[List.append_nil];refine c2 m ?_;unfold pre;split
   ·rename_i h2; rw[h2] at c; exact c
   ·exact .up (by omega) c
theorem exprT (ts:List Token) (he:Ends ts) (hb:ts.length<1000000):GoodT (fun z=>qar 0 z) okE .inr (DE 0) ts:=by
 rw[qar,zaaa];exact zaxc fuel 0 ts he (by omega) (by omega) (by unfold fuel; omega) hb
end Lift.A4
namespace Lift.A4
open Go Go.RowKit Lift Go.IntWalk Lift.Fn Lift.A1P Lift.A3
set_option linter.unusedVariables false
set_option linter.unusedSimpArgs false
abbrev RS:=(TStmt×(List Token))⊕(Wrong)
abbrev RB:=((List TStmt)×(List Token))⊕(Wrong)
abbrev R4:=((List Token)×Int×(List UInt8)×(List UInt8)×Int×Int×(List UInt8)×(List TExpr)×Int×(List TStmt)×(List TStmt))
def okS (s:TStmt) (z:List Token):RS:=.inl (s,z)
def okB (b:List TStmt) (z:List Token):RB:=.inl (b,z)
abbrev four:List (List UInt8):=[[(108:UInt8),(111:UInt8),(99:UInt8),(107:UInt8)],[(117:UInt8),(110:UInt8),(108:UInt8),(111:UInt8),(99:UInt8),(107:UInt8)],[(115:UInt8),(116:UInt8),(97:UInt8),(114:UInt8),(116:UInt8)],[(106:UInt8),(111:UInt8),(105:UInt8),(110:UInt8)]]
abbrev zE:TExpr:=⟨0,0,[],[]⟩
abbrev wAdd:List UInt8:=[97,100,100]
abbrev zav9:List UInt8:=[97,115,115,101,114,116]
abbrev wIf:List UInt8:=[105,102]
abbrev wElse:List UInt8:=[101,108,115,101]
abbrev zavp:List UInt8:=[114,101,112,101,97,116]
mutual
inductive DS:TStmt→List Tk→Prop
 |set {a o q:Tk} {x:TExpr} {c:List Tk}:a.1=1→hitc [58,61] o=true→DE 0 x c→hitc [59] q=true→DS ⟨1,a.2.1,[],x,0,[],[]⟩ (a::o::(c++[q]))
 |write {a o q:Tk} {x:TExpr} {c:List Tk}:a.1=1→hitc [61] o=true→DE 0 x c→hitc [59] q=true→DS ⟨3,[],a.2.1,x,0,[],[]⟩ (a::o::(c++[q]))
 |add {a o w b q:Tk} {x:TExpr} {c:List Tk}:a.1=1→hitc [60,45] o=true→hitc wAdd w=true→b.1=1→DE 0 x c→hitc [59] q=true→DS ⟨4,a.2.1,b.2.1,x,0,[],[]⟩ (a::o::w::b::(c++[q]))
 |read {a o b q:Tk}:a.1=1→hitc [60,45] o=true→b.1=1→hitc [59] q=true→DS ⟨2,a.2.1,b.2.1,zE,0,[],[]⟩ [a,o,b,q]
 |about {i:Nat} {s:List UInt8} {w b q:Tk}:four[i]? = some s→hitc s w=true→b.1=1→hitc [59] q=true→DS ⟨5+(i:Int),[],b.2.1,zE,0,[],[]⟩ [w,b,q]
 |assert {w q:Tk} {x:TExpr} {c:List Tk}:hitc zav9 w=true→DE 0 x c→hitc [59] q=true→DS ⟨9,[],[],x,0,[],[]⟩ (w::(c++[q]))
 |if_ {w o q:Tk} {x:TExpr} {c d:List Tk} {b:List TStmt}:hitc wIf w=true→DE 0 x c→hitc [123] o=true→DL b d→hitc [125] q=true→DS ⟨10,[],[],x,0,b,[]⟩ (w::(c++o::(d++[q])))
 |ife {w o q v o2 q2:Tk} {x:TExpr} {c d d2:List Tk} {b b2:List TStmt}:hitc wIf w=true→DE 0 x c→hitc [123] o=true→DL b d→hitc [125] q=true→hitc wElse v=true→hitc [123] o2=true→DL b2 d2→hitc [125] q2=true →
   DS ⟨10,[],[],x,0,b,b2⟩ (w::(c++o::(d++q::v::o2::(d2++[q2]))))
 |rep {w n o q:Tk} {d:List Tk} {b:List TStmt}:hitc zavp w=true→n.1=2→n.2.2≤1000→hitc [123] o=true→DL b d→hitc [125] q=true→DS ⟨11,[],[],zE,n.2.2,b,[]⟩ (w::n::o::(d++[q]))
inductive DL:List TStmt→List Tk→Prop
 |nil:DL [] []
 |cons {s:TStmt} {b:List TStmt} {c d:List Tk}:DS s c→DL b d→DL (s::b) (c++d)
end
def DB (b:List TStmt) (c:List Tk):Prop:=∃ o d q,hitc [123] o=true∧DL b d∧hitc [125] q=true∧c=o::(d++[q])
theorem nS_mk (k:Int) (a b:List UInt8) (e:TExpr) (c:Int) (t o:List TStmt):nS (TStmt.mk k a b e c t o)=1+nE e+nSs t+nSs o:=by simp[nS]
theorem zadw:nSs []=0:=by simp[nSs]
theorem zau4 (x:TStmt) (b:List TStmt):nSs (x::b)=nS x+nSs b:=by simp[nSs]
mutual
theorem DS.size:∀ {s:TStmt} {c:List Tk},DS s c→0<c.length∧nS s≤2*c.length
 |_,_,.set _ _ hx _=>by have:=hx.size; rw[nS_mk,zadw]; simp only[List.length_cons,List.length_append,List.length_nil]; omega
 |_,_,.write _ _ hx _=>by have:=hx.size; rw[nS_mk,zadw]; simp only[List.length_cons,List.length_append,List.length_nil]; omega
 |_,_,.add _ _ _ _ hx _=>by have:=hx.size; rw[nS_mk,zadw]; simp only[List.length_cons,List.length_append,List.length_nil]; omega
 |_,_,.read _ _ _ _=>by rw[nS_mk,zadw,zah4]; simp only[List.length_cons,List.length_nil]; omega
 |_,_,.about _ _ _ _=>by rw[nS_mk,zadw,zah4]; simp only[List.length_cons,List.length_nil]; omega
 |_,_,.assert _ hx _=>by have:=hx.size; rw[nS_mk,zadw]; simp only[List.length_cons,List.length_append,List.length_nil]; omega
 |_,_,.if_ _ hx _ hb _=>by have:=hx.size; have:=hb.size; rw[nS_mk,zadw]; simp only[List.length_cons,List.length_append,List.length_nil]; omega
 |_,_,.ife _ hx _ hb _ _ _ hb2 _=>by have:=hx.size; have:=hb.size; have:=hb2.size; rw[nS_mk]; simp only[List.length_cons,List.length_append,List.length_nil]; omega
 |_,_,.rep _ _ _ _ hb _=>by have:=hb.size; rw[nS_mk,zadw,zah4]; simp only[List.length_cons,List.length_append,List.length_nil]; omega
theorem DL.size:∀ {b:List TStmt} {c:List Tk},DL b c→nSs b≤2*c.length
 |_,_,.nil=>by rw[zadw]; omega
 |_,_,.cons hs hb=>by have:=hs.size; have:=hb.size; rw[zau4,List.length_append]; omega
end
theorem zaw7 (ts:List Token) (he:Ends ts) (hb:ts.length<1000000):GoodT (fun z=>qaw z) okS .inr DS ts:=by
 rw[qaw,zaaa];unfold qaw_f;refine zacm he (fun a r ha h1 h2=>?_) (fun w=>rfl);dsimp only;refine zaa7 h1 (fun o r2 ho h3 h4=>?_) (fun _=>?_)
 ·dsimp only[cond_true];refine zaar (exprT r2 h3 (by omega)) (fun x n t1 c h5 h6=>?_) (fun w=>rfl);dsimp only[okE];refine zaa6 h5 (fun q r3 hq h7 h8=>?_) (fun w=>rfl);dsimp only;refine zaai okS .inr _ h7 ?_;rw[zaan];exact DS.set (a:=core a) (o:=core o) (q:=core q) ha ho c hq
 dsimp only[cond_false];refine zaa7 h1 (fun o r2 ho h3 h4=>?_) (fun _=>?_)
 ·dsimp only[cond_true];refine zaar (exprT r2 h3 (by omega)) (fun x n t1 c h5 h6=>?_) (fun w=>rfl);dsimp only[okE];refine zaa6 h5 (fun q r3 hq h7 h8=>?_) (fun w=>rfl);dsimp only;refine zaai okS .inr _ h7 ?_;rw[zaan];exact DS.write (a:=core a) (o:=core o) (q:=core q) ha ho c hq
 dsimp only[cond_false];refine zaa6 h1 (fun o r2 ho h3 h4=>?_) (fun w=>rfl);dsimp only;refine zaa7 h3 (fun w r3 hw h5 h6=>?_) (fun _=>?_)
 ·dsimp only[cond_true];refine zacm h5 (fun b r4 hb2 h7 h8=>?_) (fun w=>rfl);dsimp only;refine zaar (exprT r4 h7 (by omega)) (fun x n t1 c h9 h10=>?_) (fun w=>rfl);dsimp only[okE];refine zaa6 h9 (fun q r5 hq h11 h12=>?_) (fun w=>rfl);dsimp only;refine zaai okS .inr _ h11 ?_;rw[zaan];exact DS.add (a:=core a) (o:=core o) (w:=core w) (b:=core b) (q:=core q) ha ho hw hb2 c hq
 dsimp only[cond_false];refine zacm h3 (fun b r4 hb2 h7 h8=>?_) (fun w=>rfl);dsimp only;refine zaa6 h7 (fun q r5 hq h9 h10=>?_) (fun w=>rfl);dsimp only;refine zaai okS .inr _ h9 ?_;exact DS.read (a:=core a) (o:=core o) (b:=core b) (q:=core q) ha ho hb2 hq
def okO (s:Option (Int×List UInt8)) (z:List Token):R4⊕((Wrong)⊕((List Token)×Int×(List UInt8)×(List UInt8)×Int×Int×(List UInt8)×Int)):=
 match s with
 |some k=>.inl (z,k.1,[],k.2,0,0,[],[],0,[],[])
 |none=>.inr (.inr (z,0,[],[],0,0,[],0))
def badO (w:Wrong):R4⊕((Wrong)⊕((List Token)×Int×(List UInt8)×(List UInt8)×Int×Int×(List UInt8)×Int)):=.inr (.inl w)
def CO (s:Option (Int×List UInt8)) (n:List Tk):Prop:=match s with|some k=>DS ⟨k.1,[],k.2,zE,0,[],[]⟩ n|none=>n=[]
theorem fourT (B:List Token→Option RB):∀ (k f:Nat) (i:Nat) (ts:List Token),i+k=4→k<f→Ends ts →
  GoodT (fun z=>qaz_i4 B f 4 i z 0 [] [] 0 0 [] 0 four) okO badO CO ts:=by
 intro k;induction k with
 |zero=>
  intro f i ts hi hf he;obtain ⟨f,rfl⟩:∃ q,f=q+1:=⟨f-1,by omega⟩;show GoodT (fun z=>qaz_t4 B (qaz_i4 B f) 4 i z 0 [] [] 0 0 [] 0 four) okO badO CO ts;unfold qaz_t4;have e1:decide ((i:Int)<4)=false:=by simp only[decide_eq_false_iff_not]; omega
  simp only[e1,cond_false];exact zaai okO badO none he rfl
 |succ k ih=>
  intro f i ts hi hf he;obtain ⟨f,rfl⟩:∃ q,f=q+1:=⟨f-1,by omega⟩;show GoodT (fun z=>qaz_t4 B (qaz_i4 B f) 4 i z 0 [] [] 0 0 [] 0 four) okO badO CO ts;unfold qaz_t4;have e1:decide ((i:Int)<4)=true:=by simp only[decide_eq_true_eq]; omega
  have e2:(decide ((0:Int)≤(i:Int))&&decide ((i:Int)<(↑(List.length four):Int)))=true:=by
   simp only[Bool.and_eq_true,decide_eq_true_eq];exact ⟨by omega,by show (i:Int)<4; omega⟩
  have hlt:(i:Int).toNat<four.length:=by show (i:Int).toNat<4; omega
  have hgw:four[i]? = some (four[(i:Int).toNat]):=by
   rw[← List.getElem?_eq_getElem hlt,Int.toNat_natCast]
  simp only[e1,e2,cond_true];rw[List.getElem?_eq_getElem hlt];generalize four[(i:Int).toNat]=word at hgw;simp only[Option.bind_some];refine zaa7 he (fun w r hw h1 h2=>?_) (fun _=>?_)
  ·dsimp only[cond_true];refine zacm h1 (fun a r2 ha h3 h4=>?_) (fun w=>rfl);dsimp only;refine zaa6 h3 (fun q r3 hq h5 h6=>?_) (fun w=>rfl);dsimp only;refine zaai okO badO (some (IntKind.wrap IntKind.i64 ((5:Int)+i),a.text)) h5 ?_;rw[i64_in ((5:Int)+i) (by omega)];exact DS.about (w:=core w) (b:=core a) (q:=core q) hgw hw ha hq
  ·dsimp only[cond_false];rw[i64_in ((i:Int)+1) (by omega)];exact ih f (i+1) ts (by omega) (by omega) he
end Lift.A4
namespace Lift.A4
open Go Go.RowKit Lift Go.IntWalk Lift.Fn Lift.A1P Lift.A3
set_option linter.unusedVariables false
set_option linter.unusedSimpArgs false
theorem DB.size {b:List TStmt} {c:List Tk} (h:DB b c):0<c.length∧nSs b≤2*c.length:=by
 obtain ⟨o,d,q,_,h,_,rfl⟩:=h;have:=h.size;simp only[List.length_cons,List.length_append,List.length_nil];omega
theorem stmtT (B : List Token → Option RB) (N : Nat) (hB : ∀ l, Ends l → l.length < N → GoodT (fun z => B z) okB .inr DB l) (ts : List Token) (he : Ends ts) (hN : ts.length ≤ N) (hb : ts.length < 1000000) :
  GoodT (fun z=>qaz B z) okS .inr DS ts:=by
 rw[qaz,zaaa];unfold qaz_f;refine zad3 he (fun _ _ _ _ _ _=>rfl) fun t r e=>?_
 subst e;dsimp only;by_cases hk:t.kind=1
 ·have e2:(t.kind==1)=true:=by simp[hk]
  simp only[e2,cond_true];refine zaar (zaw7 (t::r) he hb) (fun x n t1 c h1 h2=>?_) (fun w=>rfl);dsimp only[okS];refine zaai okS .inr _ h1 ?_;rw[zaq1,List.append_nil];exact c
 have e2:(t.kind==1)=false:=by simp[hk]
 simp only[e2,cond_false];rw[qaz_l4,zaaa];refine zaar (fourT B 4 fuel 0 (t::r) rfl (by unfold fuel; omega) he) (fun o n t1 c h1 h2=>?_) (fun w=>rfl);cases o with
 |some p=>
  dsimp only[okO];refine zaai okS .inr _ h1 ?_;rw[List.append_nil];exact c
 |none=>
  have hn:n=[]:=c;subst hn;simp only[List.length_nil] at h2;dsimp only[okO];refine zaa7 h1 (fun w r2 hw h3 h4=>?_) (fun _=>?_)
  ·dsimp only[cond_true];refine zaar (exprT r2 h3 (by omega)) (fun x m t2 c2 h5 h6=>?_) (fun w=>rfl);dsimp only[okE];refine zaa6 h5 (fun q r3 hq h7 h8=>?_) (fun w=>rfl);dsimp only;refine zaai okS .inr _ h7 ?_;rw[zaan];exact DS.assert (w:=core w) (q:=core q) hw c2 hq
  dsimp only[cond_false];refine zaa7 h1 (fun w r2 hw h3 h4=>?_) (fun _=>?_)
  ·dsimp only[cond_true];refine zaar (exprT r2 h3 (by omega)) (fun x m t2 c2 h5 h6=>?_) (fun w=>rfl);dsimp only[okE];refine zaar (hB t2 h5 (by omega)) (fun b m2 t3 c3 h7 h8=>?_) (fun w=>rfl);dsimp only[okB];obtain ⟨o1,d1,q1,g1,g2,g3,rfl⟩:=c3;refine zaa7 h7 (fun v r4 hv h9 h10=>?_) (fun _=>?_)
   ·dsimp only[cond_true];refine zaar (hB r4 h9 (by simp only[List.length_cons] at h6 h8; omega)) (fun b2 m3 t4 c4 h11 h12=>?_) (fun w=>rfl);dsimp only[okB];refine zaai okS .inr _ h11 ?_;rw[zaan];obtain ⟨o2,d2,q2,k1,k2,k3,rfl⟩:=c4;simpa using DS.ife (w:=core w) (v:=core v) hw c2 g1 g2 g3 hv k1 k2 k3
   ·dsimp only[cond_false];refine zaai okS .inr _ h7 ?_;rw[zaan];simpa using DS.if_ (w:=core w) hw c2 g1 g2 g3
  dsimp only[cond_false];refine zaa6 h1 (fun w r2 hw h3 h4=>?_) (fun w=>rfl);dsimp only;refine zad3 h3 (fun _ _ _ _ _ _=>rfl) fun t5 r5 e=>?_
  subst e;dsimp only;have tail:¬ (t5.kind=2∧t5.num>1000)→GoodT (fun z=>Option.bind (qav 2 z) fun y24=>
         match y24 with
         |.inl y25=>
          Option.bind (B (Prod.snd y25)) fun y26=>
          match y26 with
          |.inl y27=>
           some (.inl ((TStmt.mk (11:Int) [] [] (TExpr.mk 0 0 [] []) (Token.num (Prod.fst y25)) (Prod.fst y27) []),(Prod.snd y27)))
          |.inr y27=>
           some (.inr (y27))
         |.inr y25=>
          some (.inr (y25))) okS .inr (fun x n=>DS x ([]++core w::n)) (t5::r5):=by
   intro hno;obtain ⟨t5',r5',e5⟩:∃ a b,t5::r5=a::b:=⟨_,_,rfl⟩;by_cases h6:t5.kind=2
   ·have hle:t5.num≤1000:=by
     have:¬ t5.num>1000:=fun h=>hno ⟨h6,h⟩
     omega
    refine zadu (Q:=fun z=>Option.bind (B z) fun y26=>
          match y26 with
          |.inl y27=>
           some (.inl ((TStmt.mk (11:Int) [] [] (TExpr.mk 0 0 [] []) t5.num (Prod.fst y27) []),(Prod.snd y27)))
          |.inr y27=>
           some (.inr (y27))) ?_ (fun t' z ht _=>?_)
    ·refine zaar (hB r5 (zaeo h3 (by rw[h6]; decide)) (by simp only[List.length_cons] at h4; omega)) (fun b m2 t3 c3 h9 h10=>?_) (fun w=>rfl);dsimp only[okB];refine zaai okS .inr _ h9 ?_;obtain ⟨o1,d1,q1,g1,g2,g3,rfl⟩:=c3;have h9:=DS.rep (w:=core w) (n:=core t5) hw h6 hle g1 g2 g3;simp only[List.nil_append,List.append_nil];exact h9
    ·show Option.bind (qav 2 (t'::z)) _=_;simp only[core,Prod.mk.injEq] at ht;have e:(t'.kind != 2)=false:=by rw[ht.1,h6]; rfl
     rw[of1,e,cond_false,Option.bind_some];dsimp only;rw[ht.2.2]
   ·refine zafl h3 fun t' z ht=>?_
    show Option.bind (qav 2 (t'::z)) _=_;simp only[core,Prod.mk.injEq] at ht;have e:(t'.kind != 2)=true:=by rw[ht.1]; simpa using h6
    rw[of1,e,cond_true,Option.bind_some]
  by_cases h6:t5.kind=2
  ·have e6:(t5.kind==2)=true:=by simp[h6]
   simp only[e6,cond_true,Option.bind_some];by_cases h7:t5.num>(1000:Int)
   ·simp only[decide_eq_true h7,cond_true];exact zapn h3 (fun w=>rfl)
   ·simp only[decide_eq_false h7,cond_false];exact tail (fun hh=>h7 hh.2)
  ·have e6:(t5.kind==2)=false:=by simp[h6]
   simp only[e6,cond_false,Option.bind_some];exact tail (fun hh=>h6 hh.1)
abbrev R3:=(Wrong)⊕((List Token)×(List TStmt))
def ok3 (b:List TStmt) (z:List Token):R3:=.inr (z,b)
theorem zavx (B : List Token → Option RB) (N : Nat) (hB : ∀ l, Ends l → l.length < N → GoodT (fun z => B z) okB .inr DB l) (hN : N < 1000000) :
  ∀ (f:Nat) (ts:List Token) (b:List TStmt),Ends ts→ts.length<f→ts.length≤N→b.length+ts.length<1000000 →
   GoodT (fun z=>qaq_i3 B f z b) ok3 .inl (fun x n=>∃ d m q,hitc [125] q=true∧DL d m∧x=b++d∧n=m++[q]) ts:=by
 intro f;induction f with
 |zero=>intro ts _ _ h; omega
 |succ f ih=>
  intro ts b he hf hl hb;show GoodT (fun z=>qaq_t3 B (qaq_i3 B f) z b) ok3 .inl (fun x n=>∃ d m q,hitc [125] q=true∧DL d m∧x=b++d∧n=m++[q]) ts;unfold qaq_t3;refine zaa7 he (fun q r hq h1 h2=>?_) (fun _=>?_)
  ·simp only[Bool.not_true,cond_false];exact zaai ok3 .inl b h1 ⟨[],[],core q,hq,.nil,(List.append_nil _).symm,rfl⟩
  ·simp only[Bool.not_false,cond_true];refine zaar (stmtT B N hB ts he hl (by omega)) (fun s n t1 c h1 h2=>?_) (fun w=>rfl);dsimp only[okS];have hc:=c.size.1;have e1:decide ((List.length b+List.length [s])*(152:Nat)≤(140737488355328:Nat)∧List.length b+List.length [s]≤(9223372036854775807:Nat))=true:=by
    simp only[decide_eq_true_eq,List.length_cons,List.length_nil];omega
   simp only[e1,cond_true];refine zab5 (ih t1 (b++[s]) h1 (by omega) (by omega) (by rw[List.length_append,List.length_cons,List.length_nil]; omega)) fun y m _ hy=>?_
   obtain ⟨d,m',q,g1,g2,rfl,rfl⟩:=hy;exact ⟨s::d,n++m',q,g1,.cons c g2,by simp,by simp⟩
theorem zav0:∀ (n:Nat) (ts:List Token),Ends ts→ts.length<n→ts.length<1000000→GoodT (fun z=>qaq_i n z) okB .inr DB ts:=by
 intro n;induction n with
 |zero=>intro ts _ h; omega
 |succ n ih=>
  intro ts he hn hb;show GoodT (fun z=>qaq_f (qaq_i n) z) okB .inr DB ts;unfold qaq_f;refine zaa6 he (fun o r ho h1 h2=>?_) (fun w=>rfl);dsimp only;rw[qaq_l3,zaaa];refine zaar (zavx (qaq_i n) r.length (fun l h3 h4=>ih l h3 (by omega) (by omega)) (by omega) fuel r [] h1 (by unfold fuel; omega) (Nat.le_refl _) (by simp only[List.length_nil]; omega)) (fun x m t1 c h3 h4=>?_) (fun w=>rfl);dsimp only[ok3];refine zaai okB .inr x h3 ?_;obtain ⟨d,m',q,g1,g2,rfl,rfl⟩:=c;exact ⟨core o,m',q,ho,g2,g1,by simp⟩
theorem zawz (ts:List Token) (he:Ends ts) (hb:ts.length<1000000):GoodT (fun z=>qaq z) okB .inr DB ts:=by
 rw[qaq,zaaa];exact zav0 fuel ts he (by unfold fuel; omega) hb
end Lift.A4
namespace Lift.A4
open Go Go.RowKit Lift Go.IntWalk Lift.Fn Lift.A1P Lift.A3
set_option linter.unusedVariables false
set_option linter.unusedSimpArgs false
abbrev R2:=(Wrong)⊕((List Token)×(List TCell)×(List (List UInt8))×(List TThread))
abbrev RP:=((List Token)×(List TCell)×(List (List UInt8))×(List TThread))⊕(Wrong)
def ok2 (p:TProg) (z:List Token):R2:=.inr (z,p.cells,p.mutexes,p.threads)
def okP (p:TProg) (z:List Token):RP:=.inl (z,p.cells,p.mutexes,p.threads)
abbrev wCell:List UInt8:=[99,101,108,108]
abbrev zata:List UInt8:=[109,117,116,101,120]
abbrev zarn:List UInt8:=[116,104,114,101,97,100]
inductive DC:TCell→List Tk→Prop
 |bare {w a q:Tk}:hitc wCell w=true→a.1=1→hitc [59] q=true→DC ⟨a.2.1,0⟩ [w,a,q]
 |pos {w a o n q:Tk}:hitc wCell w=true→a.1=1→hitc [61] o=true→hitc [45] n=false→n.1=2→hitc [59] q=true→DC ⟨a.2.1,n.2.2⟩ [w,a,o,n,q]
 |ngt {w a o m n q:Tk}:hitc wCell w=true→a.1=1→hitc [61] o=true→hitc [45] m=true→n.1=2→hitc [59] q=true→DC ⟨a.2.1,IntKind.wrap .i64 (0-n.2.2)⟩ [w,a,o,m,n,q]
inductive DP:TProg→List Tk→Prop
 |nil:DP ⟨[],[],[]⟩ []
 |cell {p:TProg} {c d:List Tk} {x:TCell}:DP p c→DC x d→DP ⟨p.cells++[x],p.mutexes,p.threads⟩ (c++d)
 |mutex {p:TProg} {c:List Tk} {w a q:Tk}:DP p c→hitc zata w=true→a.1=1→hitc [59] q=true→DP ⟨p.cells,p.mutexes++[a.2.1],p.threads⟩ (c++[w,a,q])
 |thread {p:TProg} {c d:List Tk} {w a:Tk} {b:List TStmt}:DP p c→hitc zarn w=true→a.1=1→DB b d→DP ⟨p.cells,p.mutexes,p.threads++[⟨a.2.1,b⟩]⟩ (c++w::a::d)
theorem zatf:∀ (a b:List TThread),nT (a++b)=nT a+nT b
 |[],b=>by simp[nT]
 |x::a,b=>by simp only[List.cons_append,nT,zatf a b]; omega
theorem zawl (x:TThread):nT [x]=1+nSs x.body:=by simp[nT]
theorem DC.len {x:TCell} {c:List Tk} (h:DC x c):3≤c.length:=by cases h<;>simp
theorem DP.size {p:TProg} {c:List Tk} (h:DP p c):p.cells.length≤c.length∧p.mutexes.length≤c.length∧p.threads.length≤c.length∧nT p.threads≤2*c.length:=by
 induction h with
 |nil=>simp[nT]
 |cell _ hd ih=>have:=hd.len; simp only[List.length_append,List.length_cons,List.length_nil]; omega
 |mutex _ _ _ _ ih=>simp only[List.length_append,List.length_cons,List.length_nil]; omega
 |thread _ _ _ hb ih=>have:=hb.size; simp only[List.length_append,List.length_cons,List.length_nil,zatf,zawl]; omega
theorem zat8:∀ (f:Nat) (ts:List Token) (q:TProg),Ends ts→ts.length<f→ts.length+q.cells.length<1000000→ts.length+q.mutexes.length<1000000→ts.length+q.threads.length<1000000 →
  GoodT (fun z=>qax_i2 f z q.cells q.mutexes q.threads) ok2 .inl (fun x n=>∀ c,DP q c→DP x (c++n)) ts:=by
 intro f;induction f with
 |zero=>intro ts q _ h; omega
 |succ f ih=>
  intro ts q he hf hc hm ht;show GoodT (fun z=>qax_t2 (qax_i2 f) z q.cells q.mutexes q.threads) ok2 .inl (fun x n=>∀ c,DP q c→DP x (c++n)) ts;unfold qax_t2;have g1:∀ c:TCell,decide ((List.length q.cells+List.length [c])*(24:Nat)≤(140737488355328:Nat)∧List.length q.cells+List.length [c]≤(9223372036854775807:Nat))=true:=by
   intro c;simp only[decide_eq_true_eq,List.length_cons,List.length_nil];omega
  have g2:∀ a:List UInt8,decide ((List.length q.mutexes+List.length [a])*(16:Nat)≤(140737488355328:Nat)∧List.length q.mutexes+List.length [a]≤(9223372036854775807:Nat))=true:=by
   intro c;simp only[decide_eq_true_eq,List.length_cons,List.length_nil];omega
  have g3:∀ x:TThread,decide ((List.length q.threads+List.length [x])*(40:Nat)≤(140737488355328:Nat)∧List.length q.threads+List.length [x]≤(9223372036854775807:Nat))=true:=by
   intro c;simp only[decide_eq_true_eq,List.length_cons,List.length_nil];omega
  simp only[g1,g2,g3,cond_true]
  have cell:∀ (r:List Token) (c:TCell) (k:List Tk),Ends r→r.length+k.length=ts.length→DC c k →
    GoodT (fun z=>qax_i2 f z (q.cells++[c]) q.mutexes q.threads) ok2 .inl (fun x n=>∀ c0,DP q c0→DP x (c0++(k++n))) r:=by
   intro r c k h1 h2 h3;have hk:=h3.len;refine zab5 (ih r ⟨q.cells++[c],q.mutexes,q.threads⟩ h1 (by omega) (by simp only[List.length_append,List.length_cons,List.length_nil]; omega) (by show _+q.mutexes.length<_; omega) (by show _+q.threads.length<_; omega)) fun y m _ hy=>?_
   intro c0 hc0;have:=hy (c0++k) (.cell hc0 h3);simpa using this
  refine zad3 he (fun _ _ _ _ _ _=>rfl) fun t r e=>?_
  subst e;dsimp only;by_cases hk:t.kind=5
  ·have e2:(t.kind != 5)=false:=by simp[hk]
   simp only[e2,cond_false];exact zaai ok2 .inl q he (fun c hc=>by rw[List.append_nil]; exact hc)
  have e2:(t.kind != 5)=true:=by simp[hk]
  simp only[e2,cond_true];refine zaa7 he (fun w r1 hw h1 h2=>?_) (fun _=>?_)
  ·dsimp only[cond_true];refine zacm h1 (fun a r2 ha h3 h4=>?_) (fun w=>rfl);dsimp only;refine zaa7 h3 (fun o r3 ho h5 h6=>?_) (fun _=>?_)
   ·dsimp only[cond_true];have num:∀ (ngt:Bool) (r4:List Token) (k:List Tk),Ends r4→r4.length+k.length=(t::r).length→(∀ n z:Token,n.kind=2→hit [59] z=true→(∀ y,r4=n::y→DC ⟨a.text,bif ngt then IntKind.wrap IntKind.i64 ((0:Int)-n.num) else n.num⟩ (k++[core n,core z])))→GoodT (fun z=>Option.bind (qav 2 z) fun y6=>
      match y6 with
      |.inl y7=>
       bif ngt then
        Option.bind (qaD [(59:UInt8)] (Prod.snd y7)) fun y8=>
        match y8 with
        |.inl y9=>
         qax_i2 f y9 (q.cells++[TCell.mk a.text (IntKind.wrap IntKind.i64 ((0:Int)-Token.num (Prod.fst y7)))]) q.mutexes q.threads
        |.inr y9=>
         some (.inl (y9))
       else
        Option.bind (qaD [(59:UInt8)] (Prod.snd y7)) fun y10=>
        match y10 with
        |.inl y11=>
         qax_i2 f y11 (q.cells++[TCell.mk a.text (Token.num (Prod.fst y7))]) q.mutexes q.threads
        |.inr y11=>
         some (.inl (y11))
      |.inr y7=>
       some (.inl (y7))) ok2 .inl (fun x n=>∀ c,DP q c→DP x (c++(k++n))) r4:=by
     intro ngt r4 k h7 h8 h9;obtain ⟨n,y,rfl⟩:=zae6 h7;by_cases hn:n.kind=2
     ·refine zadu (Q := fun z => bif ngt then
        Option.bind (qaD [(59:UInt8)] z) fun y8=>
        match y8 with
        |.inl y9=>
         qax_i2 f y9 (q.cells++[TCell.mk a.text (IntKind.wrap IntKind.i64 ((0:Int)-n.num))]) q.mutexes q.threads
        |.inr y9=>
         some (.inl (y9))
       else
        Option.bind (qaD [(59:UInt8)] z) fun y10=>
        match y10 with
        |.inl y11=>
         qax_i2 f y11 (q.cells++[TCell.mk a.text n.num]) q.mutexes q.threads
        |.inr y11=>
         some (.inl (y11))) ?_ (fun t' z ht _=>?_)
      ·have h10:=zaeo h7 (by rw[hn]; decide);cases ngt with
       |true=>
        dsimp only[cond_true];refine zaa6 h10 (fun q7 r7 hq h12 h13=>?_) (fun w=>rfl);dsimp only;have hd:=h9 n q7 hn hq y rfl;refine zab5 (cell r7 _ _ h12 (by simp only[List.length_append,List.length_cons,List.length_nil] at h8 ⊢; omega) hd) fun y m _ hy=>?_
        intro c hc;have:=hy c hc;simpa using this
       |false=>
        dsimp only[cond_false];refine zaa6 h10 (fun q7 r7 hq h12 h13=>?_) (fun w=>rfl);dsimp only;have hd:=h9 n q7 hn hq y rfl;refine zab5 (cell r7 _ _ h12 (by simp only[List.length_append,List.length_cons,List.length_nil] at h8 ⊢; omega) hd) fun y m _ hy=>?_
        intro c hc;have:=hy c hc;simpa using this
      ·show Option.bind (qav 2 (t'::z)) _=_;simp only[core,Prod.mk.injEq] at ht;have e:(t'.kind != 2)=false:=by rw[ht.1,hn]; rfl
       rw[of1,e,cond_false,Option.bind_some];dsimp only;rw[ht.2.2]
     ·refine zafl h7 fun t' z ht=>?_
      show Option.bind (qav 2 (t'::z)) _=_;simp only[core,Prod.mk.injEq] at ht;have e:(t'.kind != 2)=true:=by rw[ht.1]; simpa using hn
      rw[of1,e,cond_true,Option.bind_some]
    refine zaa7 h5 (fun m r4 hm2 h7 h8=>?_) (fun hno=>?_)
    ·have:=num true r4 [core w,core a,core o,core m] h7 (by simp only[List.length_cons,List.length_nil] at h2 ⊢; omega) (fun n z hn hz y _=>DC.ngt (w:=core w) (a:=core a) (o:=core o) (m:=core m) (n:=core n) (q:=core z) hw ha ho hm2 hn hz);exact zab5 this fun y m _ hy=>by intro c hc; have:=hy c hc; simpa using this
    ·have:=num false r3 [core w,core a,core o] h5 (by simp only[List.length_cons,List.length_nil] at h2 ⊢; omega) (fun n z hn hz y hy=>DC.pos (w:=core w) (a:=core a) (o:=core o) (n:=core n) (q:=core z) hw ha ho (hno n y hy) hn hz);exact zab5 this fun y m _ hy=>by intro c hc; have:=hy c hc; simpa using this
   ·dsimp only[cond_false];refine zaa6 h3 (fun z r3 hz h5 h6=>?_) (fun w=>rfl);dsimp only;exact zab5 (cell r3 _ _ h5 (by simp only[List.length_cons,List.length_nil] at h2 ⊢; omega) (DC.bare (w:=core w) (a:=core a) (q:=core z) hw ha hz)) fun y m _ hy=>by intro c hc; have:=hy c hc; simpa using this
  dsimp only[cond_false];refine zaa7 he (fun w r1 hw h1 h2=>?_) (fun _=>?_)
  ·dsimp only[cond_true];refine zacm h1 (fun a r2 ha h3 h4=>?_) (fun w=>rfl);dsimp only;refine zaa6 h3 (fun z r3 hz h5 h6=>?_) (fun w=>rfl);dsimp only;refine zab5 (ih r3 ⟨q.cells,q.mutexes++[a.text],q.threads⟩ h5 (by omega) (by show _+q.cells.length<_; omega) (by simp only[List.length_append,List.length_cons,List.length_nil]; omega) (by show _+q.threads.length<_; omega)) fun y m _ hy=>?_
   intro c hc;have:=hy _ (DP.mutex (w:=core w) (a:=core a) (q:=core z) hc hw ha hz);simpa using this
  dsimp only[cond_false];refine zaa6 he (fun w r1 hw h1 h2=>?_) (fun w=>rfl);dsimp only;refine zacm h1 (fun a r2 ha h3 h4=>?_) (fun w=>rfl);dsimp only;refine zaar (zawz r2 h3 (by omega)) (fun b n t1 c h5 h6=>?_) (fun w=>rfl);dsimp only[okB];refine zab5 (ih t1 ⟨q.cells,q.mutexes,q.threads++[TThread.mk a.text b]⟩ h5 (by omega) (by show _+q.cells.length<_; omega) (by show _+q.mutexes.length<_; omega) (by simp only[List.length_append,List.length_cons,List.length_nil]; omega)) fun y m _ hy=>?_
  intro c0 hc0;have:=hy _ (DP.thread (w:=core w) (a:=core a) hc0 hw ha c);simpa using this
theorem zap1 (ts:List Token) (he:Ends ts) (hb:ts.length<1000000):GoodT (fun z=>qax z) okP .inr DP ts:=by
 rw[qax,zaaa];unfold qax_f;rw[qax_l2,zaaa];refine zaar (zat8 fuel ts ⟨[],[],[]⟩ he (by unfold fuel; omega) (by simp only[List.length_nil]; omega) (by simp only[List.length_nil]; omega) (by simp only[List.length_nil]; omega)) (fun x n t1 c h1 h2=>?_) (fun w=>rfl);dsimp only[ok2];refine zaai okP .inr x h1 ?_;have:=c [] .nil;simpa using this
end Lift.A4
namespace Lift.A4
open Go Go.RowKit Lift Go.IntWalk Lift.Fn Lift.A1P Lift.A3
set_option linter.unusedVariables false
set_option linter.unusedSimpArgs false
theorem zasv {α β:Type} [BEq α] [LawfulBEq α] {l:List (α×β)} {x:α} {v:β} (h:mapAt l x=some v):(x,v)∈l:=by
 unfold mapAt at h;cases hf:l.find? (fun y=>y.1==x) with
 |none=>rw[hf] at h; cases h
 |some y=>
  rw[hf] at h;simp only[Option.map_some,Option.some.injEq] at h;have h1:=List.find?_some hf;have h2:=List.mem_of_find?_eq_some hf;simp only[beq_iff_eq] at h1;obtain ⟨a,b⟩:=y;simp only at h1 h;rw[← h1,← h];exact h2
theorem LV_41:∀ j,j<5→(LV[j]?).bind (fun M=>mapAt M [41])=none:=by decide +kernel
theorem zaw1:∀ i,i<5→∀ j,j<5→i≠j→∀ y∈(LV[i]?).getD [],mapAt ((LV[j]?).getD []) y.1=none:=by decide +kernel
theorem zav1 {i j:Nat} {o:Tk} {k:Int} (h:opAt i o=some k) (hi:i<5) (hj:j<5) (hne:i≠j):opAt j o=none:=by
 unfold opAt at h ⊢;split at h
 ·rename_i h3;rw[if_pos h3];have h5:LV.length=5:=rfl;rw[List.getElem?_eq_getElem (by omega),Option.bind_some] at h ⊢;have:=zaw1 i hi j hj hne (o.2.1,k) (by rw[List.getElem?_eq_getElem (by omega)]; exact zasv h);rw[List.getElem?_eq_getElem (by omega)] at this;exact this
 ·cases h
def stopE (l:Nat) (o:Tk):Prop:=∀ j,l≤j→j<5→opAt j o=none
theorem stopE.mono {l m:Nat} {o:Tk} (h:stopE l o) (hl:l≤m):stopE m o:=fun j h1 h2=>h j (by omega) h2
theorem zaqy {l:Nat} {o:Tk} {k:Int} (h:opAt l o=some k) (hl:l<5):stopE (l+1) o:=fun j h1 h2=>zav1 h hl h2 (by omega)
theorem zagd {u:List Token} {c d:List Tk} {o:Tk} (h:u.map core=c++o::d):∃ u1 t u2,u=u1++t::u2∧u1.map core=c∧core t=o∧u2.map core=d:=by
 obtain ⟨u1,u',rfl,h1,h2⟩:=List.map_eq_append_iff.1 h;obtain ⟨t,u2,rfl,h3,h4⟩:=List.map_eq_cons_iff.1 h2;exact ⟨u1,t,u2,rfl,h1,h3,h4⟩
def finE:R5→Option RE:=fun y5=>match y5 with
 |.inl y6=>some (.inl ((Prod.fst (Prod.snd (Prod.snd (Prod.snd (Prod.snd y6))))),(Prod.fst (Prod.snd (Prod.snd (Prod.snd (Prod.snd (Prod.snd y6)))))),(Prod.fst (Prod.snd (Prod.snd (Prod.snd (Prod.snd (Prod.snd (Prod.snd y6))))))),(Prod.fst y6),(Prod.snd (Prod.snd (Prod.snd (Prod.snd (Prod.snd (Prod.snd (Prod.snd y6)))))))))
 |.inr y6=>some (.inr (y6))
noncomputable abbrev loopE (E:Int→List Token→Option RE) (f:Nat) (l:Nat) (z:List Token) (x:TExpr):Option R5:=qar_i5 E f (l:Int) z 0 0 [] x.kind x.num x.name LV x.args
theorem zatn {E:Int→List Token→Option RE} {f l:Nat} {t:Token} {r:List Token} {x:TExpr} (h:opAt l (core t)=none) (hl:l<5):loopE E (f+1) l (t::r) x=some (ok5 x (t::r)):=by
 show qar_t5 E (qar_i5 E f) (l:Int) (t::r) 0 0 [] x.kind x.num x.name LV x.args=_;unfold qar_t5;rw[next1,Option.bind_some];dsimp only;by_cases hk:t.kind=3
 ·have e2:(t.kind==3)=true:=by simp[hk]
  have e3:(decide ((0:Int)≤(l:Int))&&decide ((l:Int)<(↑(List.length LV):Int)))=true:=by
   simp only[Bool.and_eq_true,decide_eq_true_eq];exact ⟨by omega,by show (l:Int)<5; omega⟩
  have hlt:(l:Int).toNat<LV.length:=by show (l:Int).toNat<5; omega
  have hm:mapAt LV[(l:Int).toNat] t.text=none:=by
   unfold opAt at h;rw[if_pos (show (core t).1=3 from hk)] at h;have:LV[l]? = some LV[(l:Int).toNat]:=by rw[← List.getElem?_eq_getElem hlt,Int.toNat_natCast]
   rw[this,Option.bind_some] at h;exact h
  simp only[e2,e3,cond_true];rw[List.getElem?_eq_getElem hlt,Option.bind_some,next1,Option.bind_some];dsimp only;rw[hm];rfl
 ·have e2:(t.kind==3)=false:=by simp[hk]
  simp only[e2,cond_false];rfl
theorem zara {E:Int→List Token→Option RE} {f l:Nat} {t:Token} {r z:List Token} {x y:TExpr} {k:Int} (h:opAt l (core t)=some k) (hl:l<5) (hE:E ((l+1:Nat):Int) r=some (okE y z)) :
  loopE E (f+1) l (t::r) x=if l=2 then some (ok5 ⟨k,0,[],[x,y]⟩ z) else loopE E f l z ⟨k,0,[],[x,y]⟩:=by
 show qar_t5 E (qar_i5 E f) (l:Int) (t::r) 0 0 [] x.kind x.num x.name LV x.args=_;unfold qar_t5;rw[next1,Option.bind_some];dsimp only;have hk:t.kind=3:=by
  unfold opAt at h;split at h
  ·assumption
  ·cases h
 have e2:(t.kind==3)=true:=by simp[hk]
 have e3:(decide ((0:Int)≤(l:Int))&&decide ((l:Int)<(↑(List.length LV):Int)))=true:=by
  simp only[Bool.and_eq_true,decide_eq_true_eq];exact ⟨by omega,by show (l:Int)<5; omega⟩
 have hlt:(l:Int).toNat<LV.length:=by show (l:Int).toNat<5; omega
 have hm:mapAt LV[(l:Int).toNat] t.text=some k:=by
  unfold opAt at h;rw[if_pos (show (core t).1=3 from hk)] at h;have:LV[l]? = some LV[(l:Int).toNat]:=by rw[← List.getElem?_eq_getElem hlt,Int.toNat_natCast]
  rw[this,Option.bind_some] at h;exact h
 have hw:IntKind.wrap IntKind.i64 ((l:Int)+(1:Int))=((l+1:Nat):Int):=by rw[i64_in _ (by omega)]; omega
 simp only[e2,e3,cond_true];rw[List.getElem?_eq_getElem hlt,Option.bind_some,next1,Option.bind_some];dsimp only;rw[hm];simp only[Option.isSome_some,Bool.not_true,cond_false,Option.getD_some];rw[take1,Option.bind_some];dsimp only;rw[hw,hE,Option.bind_some];dsimp only[okE];rw[zaan,zaan];by_cases h2:l=2
 ·subst h2;rfl
 ·have e4:((l:Int)==2)=false:=by simp; omega
  rw[if_neg h2,e4,cond_false]
theorem zaps {n l:Nat} {ts z:List Token} {x:TExpr} (hl:l<5) (h:qar_i n ((l+1:Nat):Int) ts=some (okE x z)) :
  qar_i (n+1) (l:Int) ts=Option.bind (loopE (qar_i n) fuel l z x) finE:=by
 show qar_f (qar_i n) (l:Int) ts=_;unfold qar_f;rw[zamr];simp only[Option.bind_some];have e1:((l:Int)==(↑(List.length LV):Int))=false:=by
  have:(↑(List.length LV):Int)=5:=rfl;rw[this]; simp; omega
 have hw:IntKind.wrap IntKind.i64 ((l:Int)+(1:Int))=((l+1:Nat):Int):=by rw[i64_in _ (by omega)]; omega
 rw[e1,cond_false,hw,h,Option.bind_some];dsimp only[okE];rw[qar_l5,zaaa];rfl
theorem zat5 {n:Nat} {ts z:List Token} {x:TExpr} (h:qaC_i (qar_i n) fuel ts=some (okE x z)) :
  qar_i (n+1) ((5:Nat):Int) ts=some (okE x z):=by
 show qar_f (qar_i n) ((5:Nat):Int) ts=_;unfold qar_f;rw[zamr];simp only[Option.bind_some];have e1:(((5:Nat):Int)==(↑(List.length LV):Int))=true:=by rfl
 rw[e1,cond_true,qaC,zaaa,h,Option.bind_some];rfl
theorem zatu (x:TExpr) (z:List Token):finE (ok5 x z)=some (okE x z):=rfl
theorem zaaq {s s':List UInt8} {t:Token} (h:hit s t=true) (hne:s≠s'):hit s' t=false:=by
 unfold hit at h ⊢;simp only[Bool.and_eq_true,beq_iff_eq] at h;rw[h.2];have:(s==s')=false:=by simpa using hne
 rw[this,Bool.and_false]
theorem zakv {s:List UInt8} {t:Token} (h:t.kind≠3) (h':t.kind≠4):hit s t=false:=by
 unfold hit;have e1:(t.kind==4)=false:=by simpa using h'
 have e2:(t.kind==3)=false:=by simpa using h
 rw[e1,e2];rfl
structure Comp (l:Nat) (x:TExpr) (c:List Tk):Prop where
 lv:l≤5
 op:l<5→l≠2→∀ u t r n,u.map core=c→10*(u++t::r).length+(5-l)≤n→(u++t::r).length<1000000→stopE (l+1) (core t)→∃ i,i≤u.length∧qar_i (n+1) (l:Int) (u++t::r)=Option.bind (loopE (qar_i n) (fuel-i) l (t::r) x) finE
 un:l=5→∀ u t r n f,u.map core=c→10*(u++t::r).length≤n→(u++t::r).length<1000000→u.length≤f→qaC_i (qar_i n) f (u++t::r)=some (okE x (t::r))
 all:∀ u t r n,u.map core=c→10*(u++t::r).length+(5-l)<n→(u++t::r).length<1000000→stopE l (core t)→qar_i n (l:Int) (u++t::r)=some (okE x (t::r))
theorem zana {l:Nat} {x:TExpr} {c:List Tk} (hl:l<5) (op:∀ u t r n,u.map core=c→10*(u++t::r).length+(5-l)≤n→(u++t::r).length<1000000→stopE (l+1) (core t)→∃ i,i≤u.length∧qar_i (n+1) (l:Int) (u++t::r)=Option.bind (loopE (qar_i n) (fuel-i) l (t::r) x) finE) :
  ∀ u t r n,u.map core=c→10*(u++t::r).length+(5-l)<n→(u++t::r).length<1000000→stopE l (core t)→qar_i n (l:Int) (u++t::r)=some (okE x (t::r)):=by
 intro u t r n hu hn hb hs;obtain ⟨n,rfl⟩:∃ q,n=q+1:=⟨n-1,by omega⟩;obtain ⟨i,hi,h⟩:=op u t r n hu (by omega) hb (hs.mono (by omega));rw[h];have hlen:u.length<1000000:=by simp only[List.length_append] at hb; omega
 obtain ⟨f,hf⟩:∃ f,fuel-i=f+1:=⟨fuel-i-1,by unfold fuel; omega⟩;rw[hf,zatn (hs l (Nat.le_refl _) hl) hl,Option.bind_some,zatu]
theorem zafo {x:TExpr} {c:List Tk} (un:∀ u t r n f,u.map core=c→10*(u++t::r).length≤n→(u++t::r).length<1000000→u.length≤f→qaC_i (qar_i n) f (u++t::r)=some (okE x (t::r))) :
  ∀ u t r n,u.map core=c→10*(u++t::r).length+(5-5)<n→(u++t::r).length<1000000→stopE 5 (core t)→qar_i n ((5:Nat):Int) (u++t::r)=some (okE x (t::r)):=by
 intro u t r n hu hn hb hs;obtain ⟨n,rfl⟩:∃ q,n=q+1:=⟨n-1,by omega⟩;have hlen:u.length<1000000:=by simp only[List.length_append] at hb; omega
 exact zat5 (un u t r n fuel hu (by omega) hb (by unfold fuel; omega))
theorem DE.comp {l:Nat} {x:TExpr} {c:List Tk} (h:DE l x c):Comp l x c:=by
 induction h with
 |@up l x c hl hd ih=>
  have op:∀ u t r n,u.map core=c→10*(u++t::r).length+(5-l)≤n→(u++t::r).length<1000000→stopE (l+1) (core t)→∃ i,i≤u.length∧qar_i (n+1) (l:Int) (u++t::r)=Option.bind (loopE (qar_i n) (fuel-i) l (t::r) x) finE:=by
   intro u t r n hu hn hb hs;exact ⟨0,Nat.zero_le _,zaps hl (ih.all u t r n hu (by omega) hb hs)⟩
  exact ⟨by omega,fun _ _=>op,fun h=>by omega,zana hl op⟩
 |@bin l x y c d o k hl h2 hx ho hy ihx ihy=>
  have op:∀ u t r n,u.map core=c++o::d→10*(u++t::r).length+(5-l)≤n→(u++t::r).length<1000000→stopE (l+1) (core t)→∃ i,i≤u.length∧qar_i (n+1) (l:Int) (u++t::r)=Option.bind (loopE (qar_i n) (fuel-i) l (t::r) ⟨k,0,[],[x,y]⟩) finE:=by
   intro u t r n hu hn hb hs;obtain ⟨u1,t1,u2,rfl,e1,rfl,e3⟩:=zagd hu;have hlen:(u1++t1::u2++t::r)=u1++t1::(u2++t::r):=by simp
   rw[hlen] at hn hb ⊢;obtain ⟨i,hi,h⟩:=ihx.op hl h2 u1 t1 (u2++t::r) n e1 hn hb (zaqy ho hl);have hsub:(u2++t::r).length<(u1++t1::(u2++t::r)).length:=by simp only[List.length_append,List.length_cons]; omega
   have hb2:u1.length<1000000:=by simp only[List.length_append] at hb; omega
   have hy2:=ihy.all u2 t r n e3 (by omega) (by omega) hs;refine ⟨i+1,by simp only[List.length_append,List.length_cons]; omega,?_⟩;rw[h];obtain ⟨f,hf⟩:∃ f,fuel-i=f+1:=⟨fuel-i-1,by unfold fuel; omega⟩;rw[hf,zara ho hl hy2,if_neg h2];have:fuel-(i+1)=f:=by omega
   rw[this]
  exact ⟨by omega,fun _ _=>op,fun h=>by omega,zana hl op⟩
 |@cmp x y c d o k hx ho hy ihx ihy=>
  refine ⟨by omega,fun _ h=>absurd rfl h,fun h=>by omega,?_⟩;intro u t r n hu hn hb hs;obtain ⟨n,rfl⟩:∃ q,n=q+1:=⟨n-1,by omega⟩;obtain ⟨u1,t1,u2,rfl,e1,rfl,e3⟩:=zagd hu;have hlen:(u1++t1::u2++t::r)=u1++t1::(u2++t::r):=by simp
  rw[hlen] at hn hb ⊢;have hsub:(u2++t::r).length<(u1++t1::(u2++t::r)).length:=by simp only[List.length_append,List.length_cons]; omega
  rw[zaps (by omega) (ihx.all u1 t1 (u2++t::r) n e1 (by omega) hb (zaqy ho (by omega)))];have hy2:=ihy.all u2 t r n e3 (by omega) (by omega) (hs.mono (by omega));have hf:fuel=(fuel-1)+1:=rfl;rw[hf,zara ho (by omega) hy2,if_pos rfl,Option.bind_some,zatu]
 |@neg x c o ho hd ih=>
  have un:∀ u t r n f,u.map core=o::c→10*(u++t::r).length≤n→(u++t::r).length<1000000→u.length≤f→qaC_i (qar_i n) f (u++t::r)=some (okE ⟨3,0,[],[x]⟩ (t::r)):=by
   intro u t r n f hu hn hb hf;obtain ⟨t1,u1,rfl,rfl,e2⟩:=List.map_eq_cons_iff.1 hu;simp only[List.cons_append,List.length_cons] at hn hb hf ⊢;obtain ⟨f,rfl⟩:∃ q,f=q+1:=⟨f-1,by omega⟩;have h1:=ih.un rfl u1 t r n f e2 (by omega) (by omega) (by omega);show qaC_f (qaC_i (qar_i n) f) (qar_i n) (t1::(u1++t::r))=_;unfold qaC_f;rw[hit_c] at ho;rw[took1,ho,Option.bind_some];dsimp only[cond_true];rw[h1,Option.bind_some];dsimp only[okE];rw[zaan]
  exact ⟨by omega,fun h=>by omega,fun _=>un,zafo un⟩
 |@not x c o ho hd ih=>
  have un:∀ u t r n f,u.map core=o::c→10*(u++t::r).length≤n→(u++t::r).length<1000000→u.length≤f→qaC_i (qar_i n) f (u++t::r)=some (okE ⟨4,0,[],[x]⟩ (t::r)):=by
   intro u t r n f hu hn hb hf;obtain ⟨t1,u1,rfl,rfl,e2⟩:=List.map_eq_cons_iff.1 hu;simp only[List.cons_append,List.length_cons] at hn hb hf ⊢;obtain ⟨f,rfl⟩:∃ q,f=q+1:=⟨f-1,by omega⟩;have h1:=ih.un rfl u1 t r n f e2 (by omega) (by omega) (by omega);show qaC_f (qaC_i (qar_i n) f) (qar_i n) (t1::(u1++t::r))=_;unfold qaC_f;rw[hit_c] at ho;rw[took1,zaaq ho (by decide),Option.bind_some];dsimp only[cond_false];rw[took1,ho,Option.bind_some];dsimp only[cond_true];rw[h1,Option.bind_some];dsimp only[okE];rw[zaan]
  exact ⟨by omega,fun h=>by omega,fun _=>un,zafo un⟩
 |@par x c o q ho hq hd ih=>
  have un:∀ u t r n f,u.map core=o::(c++[q])→10*(u++t::r).length≤n→(u++t::r).length<1000000→u.length≤f→qaC_i (qar_i n) f (u++t::r)=some (okE x (t::r)):=by
   intro u t r n f hu hn hb hf;obtain ⟨t1,u1,rfl,rfl,e2⟩:=List.map_eq_cons_iff.1 hu;obtain ⟨u2,t2,u3,rfl,e3,rfl,e4⟩:=zagd e2;have:u3=[]:=by simpa using e4
   subst this;simp only[List.cons_append,List.length_cons,List.append_assoc,List.nil_append,List.length_append] at hn hb hf ⊢;obtain ⟨f,rfl⟩:∃ q,f=q+1:=⟨f-1,by omega⟩;have hst:stopE 0 (core t2):=by
    intro j _ hj;rw[hit_c] at hq;unfold opAt;split
    ·have ht:t2.text=[41]:=by
      unfold hit at hq;simp only[Bool.and_eq_true,beq_iff_eq] at hq;exact hq.2
     show (LV[j]?).bind (fun M=>mapAt M t2.text)=none;rw[ht];exact LV_41 j hj
    ·rfl
   have h1:=ih.all u2 t2 (t::r) n e3 (by simp only[List.length_append,List.length_cons]; omega) (by simp only[List.length_append,List.length_cons]; omega) hst;show qaC_f (qaC_i (qar_i n) f) (qar_i n) (t1::(u2++t2::t::r))=_;unfold qaC_f;rw[hit_c] at ho hq;rw[took1,zaaq ho (by decide),Option.bind_some];dsimp only[cond_false];rw[took1,zaaq ho (by decide),Option.bind_some];dsimp only[cond_false];rw[took1,ho,Option.bind_some];dsimp only[cond_true];have h1':qar_i n 0 (u2++t2::t::r)=some (okE x (t2::t::r)):=h1;rw[h1',Option.bind_some];dsimp only[okE];rw[want1,hq,Option.bind_some];rfl
  exact ⟨by omega,fun h=>by omega,fun _=>un,zafo un⟩
 |@num o hk=>
  have un:∀ u t r n f,u.map core=[o]→10*(u++t::r).length≤n→(u++t::r).length<1000000→u.length≤f→qaC_i (qar_i n) f (u++t::r)=some (okE ⟨1,o.2.2,[],[]⟩ (t::r)):=by
   intro u t r n f hu hn hb hf;obtain ⟨t1,u1,rfl,rfl,e2⟩:=List.map_eq_cons_iff.1 hu;have:u1=[]:=by simpa using e2
   subst this;simp only[List.length_cons] at hf;obtain ⟨f,rfl⟩:∃ q,f=q+1:=⟨f-1,by omega⟩;have hk':t1.kind=2:=hk;have hh:∀ s,hit s t1=false:=fun s=>zakv (by rw[hk']; decide) (by rw[hk']; decide)
   show qaC_f (qaC_i (qar_i n) f) (qar_i n) (t1::t::r)=_;unfold qaC_f;rw[took1,hh,Option.bind_some];dsimp only[cond_false];rw[took1,hh,Option.bind_some];dsimp only[cond_false];rw[took1,hh,Option.bind_some];dsimp only[cond_false];rw[next1,Option.bind_some];dsimp only;have e:(t1.kind==2)=true:=by simp[hk']
   rw[e,cond_true,take1,Option.bind_some];rfl
  exact ⟨by omega,fun h=>by omega,fun _=>un,zafo un⟩
 |@reg o hk=>
  have un:∀ u t r n f,u.map core=[o]→10*(u++t::r).length≤n→(u++t::r).length<1000000→u.length≤f→qaC_i (qar_i n) f (u++t::r)=some (okE ⟨2,0,o.2.1,[]⟩ (t::r)):=by
   intro u t r n f hu hn hb hf;obtain ⟨t1,u1,rfl,rfl,e2⟩:=List.map_eq_cons_iff.1 hu;have:u1=[]:=by simpa using e2
   subst this;simp only[List.length_cons] at hf;obtain ⟨f,rfl⟩:∃ q,f=q+1:=⟨f-1,by omega⟩;have hk':t1.kind=1:=hk;have hh:∀ s,hit s t1=false:=fun s=>zakv (by rw[hk']; decide) (by rw[hk']; decide)
   show qaC_f (qaC_i (qar_i n) f) (qar_i n) (t1::t::r)=_;unfold qaC_f;rw[took1,hh,Option.bind_some];dsimp only[cond_false];rw[took1,hh,Option.bind_some];dsimp only[cond_false];rw[took1,hh,Option.bind_some];dsimp only[cond_false];rw[next1,Option.bind_some];dsimp only;have e:(t1.kind==2)=false:=by simp[hk']
   have e':(t1.kind != 1)=false:=by simp[hk']
   rw[e,cond_false,name1,e',Option.bind_some];rfl
  exact ⟨by omega,fun h=>by omega,fun _=>un,zafo un⟩
theorem exprC {x:TExpr} {c:List Tk} (h:DE 0 x c) {u:List Token} (hu:u.map core=c) (t:Token) (r:List Token) (hs:stopE 0 (core t)) (hb:(u++t::r).length<1000000) :
  qar 0 (u++t::r)=some (okE x (t::r)):=by
 rw[qar,zaaa];exact h.comp.all u t r fuel hu (by unfold fuel; omega) hb hs
end Lift.A4
namespace Lift.A4
open Go Go.RowKit Lift Go.IntWalk Lift.Fn Lift.A1P Lift.A3
set_option linter.unusedVariables false
set_option linter.unusedSimpArgs false
theorem snoc1 {u:List Token} {c:List Tk} {q:Tk} (h:u.map core=c++[q]):∃ u1 t,u=u1++[t]∧u1.map core=c∧core t=q:=by
 obtain ⟨u1,t,u2,rfl,h1,h2,h3⟩:=zagd h;have:u2=[]:=by simpa using h3
 subst this;exact ⟨u1,t,rfl,h1,h2⟩
theorem zae9 {s:List UInt8} (hs:∀ j,j<5→(LV[j]?).bind (fun M=>mapAt M s)=none) {t:Token} (h:hit s t=true):stopE 0 (core t):=by
 intro j _ hj;unfold opAt;split
 ·have ht:t.text=s:=by
   unfold hit at h;simp only[Bool.and_eq_true,beq_iff_eq] at h;exact h.2
  show (LV[j]?).bind (fun M=>mapAt M t.text)=none;rw[ht];exact hs j hj
 ·rfl
theorem LV_59:∀ j,j<5→(LV[j]?).bind (fun M=>mapAt M [59])=none:=by decide +kernel
theorem zasz:∀ j,j<5→(LV[j]?).bind (fun M=>mapAt M [123])=none:=by decide +kernel
theorem zah7 {t:Token} (h:t.kind=1) (s:List UInt8):hit s t=false:=zakv (by rw[h]; decide) (by rw[h]; decide)
theorem DS.head {s:TStmt} {c:List Tk} (h:DS s c):∃ o d,c=o::d∧(o.1=1∨∃ w,hitc w o=true∧w≠wElse∧w≠[125]∧w.length≤6):=by
 cases h with
 |set h _ _ _=>exact ⟨_,_,rfl,.inl h⟩
 |write h _ _ _=>exact ⟨_,_,rfl,.inl h⟩
 |add h _ _ _ _ _=>exact ⟨_,_,rfl,.inl h⟩
 |read h _ _ _=>exact ⟨_,_,rfl,.inl h⟩
 |@about i s w b q h1 h2 _ _=>
  refine ⟨_,_,rfl,.inr ⟨s,h2,?_⟩⟩;have hm:=List.mem_of_getElem? h1;revert s;intro s h1 h2 hm;simp only[four,List.mem_cons,List.not_mem_nil,or_false] at hm;rcases hm with rfl|rfl|rfl|rfl<;>decide
 |assert h _ _=>exact ⟨_,_,rfl,.inr ⟨_,h,by decide⟩⟩
 |if_ h _ _ _ _=>exact ⟨_,_,rfl,.inr ⟨_,h,by decide⟩⟩
 |ife h _ _ _ _ _ _ _ _=>exact ⟨_,_,rfl,.inr ⟨_,h,by decide⟩⟩
 |rep h _ _ _ _ _=>exact ⟨_,_,rfl,.inr ⟨_,h,by decide⟩⟩
theorem zarc {s:TStmt} {c:List Tk} (h:DS s c) {u:List Token} (hu:u.map core=c):∃ t r,u=t::r∧hit wElse t=false∧hit [125] t=false:=by
 obtain ⟨o,d,rfl,h1⟩:=h.head;obtain ⟨t,r,rfl,rfl,h3⟩:=List.map_eq_cons_iff.1 hu;refine ⟨t,r,rfl,?_⟩;rcases h1 with h1|⟨w,h1,h2,h4,_⟩
 ·exact ⟨zah7 h1 _,zah7 h1 _⟩
 ·exact ⟨zaaq h1 h2,zaaq h1 h4⟩
theorem zau3 {B:List Token→Option RB} {t:Token} {r:List Token} {s:List UInt8} {a q:Token} (hs:hit s t=true) (ha:a.kind=1) (hq:hit [59] q=true):∀ (k f i n:Nat),n+k=i→k<f→four[i]? = some s →
  qaz_i4 B f 4 n (t::a::q::r) 0 [] [] 0 0 [] 0 four=some (okO (some (5+(i:Int),a.text)) r):=by
 intro k;induction k with
 |zero=>
  intro f i n hi hf h4;obtain ⟨f,rfl⟩:∃ q,f=q+1:=⟨f-1,by omega⟩;have hn:n=i:=by omega
  subst hn;have hlt:n<4:=by
   have:=(List.getElem?_eq_some_iff.1 h4).1;exact this
  show qaz_t4 B (qaz_i4 B f) 4 n (t::a::q::r) 0 [] [] 0 0 [] 0 four=_;unfold qaz_t4;have e1:decide ((n:Int)<4)=true:=by simp only[decide_eq_true_eq]; omega
  have e2:(decide ((0:Int)≤(n:Int))&&decide ((n:Int)<(↑(List.length four):Int)))=true:=by
   simp only[Bool.and_eq_true,decide_eq_true_eq];exact ⟨by omega,by show (n:Int)<4; omega⟩
  simp only[e1,e2,cond_true];rw[Int.toNat_natCast,h4,Option.bind_some,took1,hs,Option.bind_some];dsimp only[cond_true];have e3:(a.kind != 1)=false:=by simp[ha]
  rw[name1,e3,Option.bind_some];dsimp only[cond_false];rw[want1,hq,Option.bind_some];dsimp only[cond_true];rw[i64_in ((5:Int)+n) (by omega)];rfl
 |succ k ih=>
  intro f i n hi hf h4;obtain ⟨f,rfl⟩:∃ q,f=q+1:=⟨f-1,by omega⟩;have hlt4:=(List.getElem?_eq_some_iff.1 h4).1;have hlt:i<4:=hlt4;have hnl:n<four.length:=by show n<4; omega
  show qaz_t4 B (qaz_i4 B f) 4 n (t::a::q::r) 0 [] [] 0 0 [] 0 four=_;unfold qaz_t4;have e1:decide ((n:Int)<4)=true:=by simp only[decide_eq_true_eq]; omega
  have e2:(decide ((0:Int)≤(n:Int))&&decide ((n:Int)<(↑(List.length four):Int)))=true:=by
   simp only[Bool.and_eq_true,decide_eq_true_eq];exact ⟨by omega,by show (n:Int)<4; omega⟩
  simp only[e1,e2,cond_true];have hne:s≠four[n]:=by
   intro e;have h5:four[i]=four[n]:=by rw[← e]; exact (List.getElem?_eq_some_iff.1 h4).2
   have:∀ (x y:Fin 4),four[x.1]=four[y.1]→x=y:=by decide
   have:=this ⟨i,hlt⟩ ⟨n,hnl⟩ h5;simp only[Fin.mk.injEq] at this;omega
  rw[Int.toNat_natCast,List.getElem?_eq_getElem hnl,Option.bind_some,took1,zaaq hs hne,Option.bind_some];dsimp only[cond_false];rw[i64_in ((n:Int)+1) (by omega)];exact ih f i (n+1) (by omega) (by omega) h4
theorem zag1 {B:List Token→Option RB} {t:Token} {r:List Token} (hs:∀ s∈four,hit s t=false):∀ (k f n:Nat),n+k=4→k<f →
  qaz_i4 B f 4 n (t::r) 0 [] [] 0 0 [] 0 four=some (okO none (t::r)):=by
 intro k;induction k with
 |zero=>
  intro f n hi hf;obtain ⟨f,rfl⟩:∃ q,f=q+1:=⟨f-1,by omega⟩;show qaz_t4 B (qaz_i4 B f) 4 n (t::r) 0 [] [] 0 0 [] 0 four=_;unfold qaz_t4;have e1:decide ((n:Int)<4)=false:=by simp only[decide_eq_false_iff_not]; omega
  simp only[e1,cond_false];rfl
 |succ k ih=>
  intro f n hi hf;obtain ⟨f,rfl⟩:∃ q,f=q+1:=⟨f-1,by omega⟩;have hnl:n<four.length:=by show n<4; omega
  show qaz_t4 B (qaz_i4 B f) 4 n (t::r) 0 [] [] 0 0 [] 0 four=_;unfold qaz_t4;have e1:decide ((n:Int)<4)=true:=by simp only[decide_eq_true_eq]; omega
  have e2:(decide ((0:Int)≤(n:Int))&&decide ((n:Int)<(↑(List.length four):Int)))=true:=by
   simp only[Bool.and_eq_true,decide_eq_true_eq];exact ⟨by omega,by show (n:Int)<4; omega⟩
  simp only[e1,e2,cond_true];rw[Int.toNat_natCast,List.getElem?_eq_getElem hnl,Option.bind_some,took1,hs _ (List.getElem_mem hnl),Option.bind_some];dsimp only[cond_false];rw[i64_in ((n:Int)+1) (by omega)];exact ih f (n+1) (by omega) (by omega)
theorem zawy {s:TStmt} {c:List Tk} (h:DS s c) {u:List Token} (hu:u.map core=c) (h1:∃ t u',u=t::u'∧t.kind=1) (t:Token) (r:List Token) (hb:(u++t::r).length<1000000) :
  qaw (u++t::r)=some (okS s (t::r)):=by
 obtain ⟨ta,u',rfl,hk⟩:=h1;have hno:∀ s,hitc s (core ta)=false:=fun s=>by rw[hit_c]; exact zah7 hk s
 have e1:(ta.kind != 1)=false:=by simp[hk]
 simp only[List.map_cons] at hu;cases h with
 |set ha ho hx hq=>
  simp only[List.cons.injEq] at hu;obtain ⟨rfl,hu⟩:=hu;obtain ⟨tq0,u2,rfl,rfl,e2⟩:=List.map_eq_cons_iff.1 hu;obtain ⟨u3,tq,rfl,e3,rfl⟩:=snoc1 e2;rw[hit_c] at ho hq;simp only[List.cons_append,List.append_assoc,List.nil_append] at hb ⊢;rw[qaw,zaaa];unfold qaw_f;rw[name1,e1,Option.bind_some];dsimp only[cond_false];rw[took1,ho,Option.bind_some];dsimp only[cond_true];rw[exprC hx e3 tq (t::r) (zae9 LV_59 hq) (by simp only[List.length_append,List.length_cons] at hb ⊢; omega),Option.bind_some];dsimp only[okE];rw[want1,hq,Option.bind_some];dsimp only[cond_true];rw[zaan];rfl
 |write ha ho hx hq=>
  simp only[List.cons.injEq] at hu;obtain ⟨rfl,hu⟩:=hu;obtain ⟨tq0,u2,rfl,rfl,e2⟩:=List.map_eq_cons_iff.1 hu;obtain ⟨u3,tq,rfl,e3,rfl⟩:=snoc1 e2;rw[hit_c] at ho hq;simp only[List.cons_append,List.append_assoc,List.nil_append] at hb ⊢;rw[qaw,zaaa];unfold qaw_f;rw[name1,e1,Option.bind_some];dsimp only[cond_false];rw[took1,zaaq ho (by decide),Option.bind_some];dsimp only[cond_false];rw[took1,ho,Option.bind_some];dsimp only[cond_true];rw[exprC hx e3 tq (t::r) (zae9 LV_59 hq) (by simp only[List.length_append,List.length_cons] at hb ⊢; omega),Option.bind_some];dsimp only[okE];rw[want1,hq,Option.bind_some];dsimp only[cond_true];rw[zaan];rfl
 |add ha ho hw hb2 hx hq=>
  simp only[List.cons.injEq] at hu;obtain ⟨rfl,hu⟩:=hu;obtain ⟨tq0,u2,rfl,rfl,e2⟩:=List.map_eq_cons_iff.1 hu;obtain ⟨tw,u3,rfl,rfl,e3⟩:=List.map_eq_cons_iff.1 e2;obtain ⟨tb,u4,rfl,rfl,e4⟩:=List.map_eq_cons_iff.1 e3;obtain ⟨u5,tq,rfl,e5,rfl⟩:=snoc1 e4;rw[hit_c] at ho hq hw;have e6:(tb.kind != 1)=false:=by simp[show tb.kind=1 from hb2]
  simp only[List.cons_append,List.append_assoc,List.nil_append] at hb ⊢;rw[qaw,zaaa];unfold qaw_f;rw[name1,e1,Option.bind_some];dsimp only[cond_false];rw[took1,zaaq ho (by decide),Option.bind_some];dsimp only[cond_false];rw[took1,zaaq ho (by decide),Option.bind_some];dsimp only[cond_false];rw[want1,ho,Option.bind_some];dsimp only[cond_true];rw[took1,hw,Option.bind_some];dsimp only[cond_true];rw[name1,e6,Option.bind_some];dsimp only[cond_false];rw[exprC hx e5 tq (t::r) (zae9 LV_59 hq) (by simp only[List.length_append,List.length_cons] at hb ⊢; omega),Option.bind_some];dsimp only[okE];rw[want1,hq,Option.bind_some];dsimp only[cond_true];rw[zaan];rfl
 |read ha ho hb2 hq=>
  simp only[List.cons.injEq] at hu;obtain ⟨rfl,hu⟩:=hu;obtain ⟨tq0,u2,rfl,rfl,e2⟩:=List.map_eq_cons_iff.1 hu;obtain ⟨tb,u3,rfl,rfl,e3⟩:=List.map_eq_cons_iff.1 e2;obtain ⟨tq,u4,rfl,rfl,e4⟩:=List.map_eq_cons_iff.1 e3;have:u4=[]:=by simpa using e4
  subst this;rw[hit_c] at ho hq;have e6:(tb.kind != 1)=false:=by simp[show tb.kind=1 from hb2]
  simp only[List.cons_append,List.append_assoc,List.nil_append] at hb ⊢;rw[qaw,zaaa];unfold qaw_f;rw[name1,e1,Option.bind_some];dsimp only[cond_false];rw[took1,zaaq ho (by decide),Option.bind_some];dsimp only[cond_false];rw[took1,zaaq ho (by decide),Option.bind_some];dsimp only[cond_false];rw[want1,ho,Option.bind_some];dsimp only[cond_true];rw[took1,zah7 hb2,Option.bind_some];dsimp only[cond_false];rw[name1,e6,Option.bind_some];dsimp only[cond_false];rw[want1,hq,Option.bind_some];rfl
 |about h4 hw _ _=>
  simp only[List.cons.injEq] at hu;obtain ⟨rfl,hu⟩:=hu;rw[hno] at hw;cases hw
 |assert hw _ _=>
  simp only[List.cons.injEq] at hu;obtain ⟨rfl,hu⟩:=hu;rw[hno] at hw;cases hw
 |if_ hw _ _ _ _=>
  simp only[List.cons.injEq] at hu;obtain ⟨rfl,hu⟩:=hu;rw[hno] at hw;cases hw
 |ife hw _ _ _ _ _ _ _ _=>
  simp only[List.cons.injEq] at hu;obtain ⟨rfl,hu⟩:=hu;rw[hno] at hw;cases hw
 |rep hw _ _ _ _ _=>
  simp only[List.cons.injEq] at hu;obtain ⟨rfl,hu⟩:=hu;rw[hno] at hw;cases hw
def zak9 (B:List Token→Option RB) (N:Nat):Prop:=∀ b d,DB b d→d.length<N→∀ u t r,u.map core=d→(u++t::r).length<1000000→B (u++t::r)=some (okB b (t::r))
theorem zav5 {s:List UInt8} {t:Token} (h:hit s t=true):t.kind≠1:=by
 intro hk;rw[zah7 hk] at h;cases h
theorem stmtC {s:TStmt} {c:List Tk} (h:DS s c) {B:List Token→Option RB} (hB:zak9 B c.length) {u:List Token} (hu:u.map core=c) (t:Token) (r:List Token) (hels:hit wElse t=false) (hb:(u++t::r).length<1000000) :
  qaz B (u++t::r)=some (okS s (t::r)):=by
 rw[qaz,zaaa];unfold qaz_f;by_cases hk:∃ ta u',u=ta::u'∧ta.kind=1
 ·have hp:=zawy h hu hk t r hb;obtain ⟨ta,u',rfl,hk⟩:=hk;rw[List.cons_append] at hp ⊢;rw[next1,Option.bind_some];dsimp only;have e:(ta.kind==1)=true:=by simp[hk]
  rw[e,cond_true,hp,Option.bind_some];dsimp only[okS];rw[zaq1]
 ·
  have word:∀ {w:List UInt8} {o:Tk} {d:List Tk},u.map core=o::d→hitc w o=true→∃ tw u',u=tw::u'∧core tw=o∧u'.map core=d∧hit w tw=true∧(tw.kind==1)=false:=by
   intro w o d hu ho;obtain ⟨tw,u',rfl,rfl,e⟩:=List.map_eq_cons_iff.1 hu;exact ⟨tw,u',rfl,rfl,e,ho,by simpa using zav5 (s:=w) (t:=tw) ho⟩
  cases h with
  |set ha _ _ _=>
   obtain ⟨ta,u',rfl,rfl,_⟩:=List.map_eq_cons_iff.1 hu;exact absurd ⟨ta,u',rfl,ha⟩ hk
  |write ha _ _ _=>
   obtain ⟨ta,u',rfl,rfl,_⟩:=List.map_eq_cons_iff.1 hu;exact absurd ⟨ta,u',rfl,ha⟩ hk
  |add ha _ _ _ _ _=>
   obtain ⟨ta,u',rfl,rfl,_⟩:=List.map_eq_cons_iff.1 hu;exact absurd ⟨ta,u',rfl,ha⟩ hk
  |read ha _ _ _=>
   obtain ⟨ta,u',rfl,rfl,_⟩:=List.map_eq_cons_iff.1 hu;exact absurd ⟨ta,u',rfl,ha⟩ hk
  |about h4 hw ha hq=>
   obtain ⟨tw,u',rfl,rfl,e1,hw,e2⟩:=word hu hw;obtain ⟨ta,u2,rfl,rfl,e3⟩:=List.map_eq_cons_iff.1 e1;obtain ⟨tq,u3,rfl,rfl,e4⟩:=List.map_eq_cons_iff.1 e3;have:u3=[]:=by simpa using e4
   subst this;rw[hit_c] at hq;simp only[List.cons_append,List.nil_append];rw[next1,Option.bind_some];dsimp only;have h9:=zau3 (B:=B) (r:=t::r) hw ha hq _ fuel _ 0 (Nat.zero_add _) (by unfold fuel; have:=(List.getElem?_eq_some_iff.1 h4).1; have:four.length=4:=rfl; omega) h4;rw[e2,cond_false,qaz_l4,zaaa];have h9':qaz_i4 B fuel (↑(4:Nat):Int) (0:Int) (tw::ta::tq::t::r) 0 [] [] 0 0 [] 0 four=_:=h9;rw[h9',Option.bind_some];rfl
  |assert hw hx hq=>
   obtain ⟨tw,u',rfl,rfl,e1,hw,e2⟩:=word hu hw;obtain ⟨u2,tq,rfl,e3,rfl⟩:=snoc1 e1;rw[hit_c] at hq;simp only[List.cons_append,List.append_assoc,List.nil_append] at hb ⊢;rw[next1,Option.bind_some];dsimp only;have h9:=zag1 (B:=B) (t:=tw) (r:=u2++tq::t::r) (fun s hs=>zaaq hw (by revert s; decide)) 4 fuel 0 rfl (by unfold fuel; omega);have h9':qaz_i4 B fuel (↑(4:Nat):Int) (0:Int) (tw::(u2++tq::t::r)) 0 [] [] 0 0 [] 0 four=_:=h9;rw[e2,cond_false,qaz_l4,zaaa,h9',Option.bind_some];dsimp only[okO];rw[took1,hw,Option.bind_some];dsimp only[cond_true];rw[exprC hx e3 tq (t::r) (zae9 LV_59 hq) (by simp only[List.length_append,List.length_cons] at hb ⊢; omega),Option.bind_some];dsimp only[okE];rw[want1,hq,Option.bind_some];dsimp only[cond_true];rw[zaan];rfl
  |@if_ w o q x c d b hw hx ho hd hq=>
   obtain ⟨tw,u',rfl,rfl,e1,hw,e2⟩:=word hu hw;obtain ⟨u2,tq0,u3,rfl,e3,rfl,e4⟩:=zagd e1;obtain ⟨u4,tq,rfl,e5,rfl⟩:=snoc1 e4;have hblk:=hB b (core tq0::(d++[core tq])) ⟨_,_,_,ho,hd,hq,rfl⟩ (by simp only[List.length_cons,List.length_append]; omega) (tq0::(u4++[tq])) t r (by simp[e5]);rw[hit_c] at ho hq;simp only[List.cons_append,List.append_assoc,List.nil_append] at hb hblk ⊢;rw[next1,Option.bind_some];dsimp only;have h9:=zag1 (B:=B) (t:=tw) (r:=u2++tq0::(u4++tq::t::r)) (fun s hs=>zaaq hw (by revert s; decide)) 4 fuel 0 rfl (by unfold fuel; omega);have h9':qaz_i4 B fuel (↑(4:Nat):Int) (0:Int) (tw::(u2++tq0::(u4++tq::t::r))) 0 [] [] 0 0 [] 0 four=_:=h9;rw[e2,cond_false,qaz_l4,zaaa,h9',Option.bind_some];dsimp only[okO];rw[took1,zaaq hw (by decide),Option.bind_some];dsimp only[cond_false];rw[took1,hw,Option.bind_some];dsimp only[cond_true];rw[exprC hx e3 tq0 _ (zae9 zasz ho) (by simp only[List.length_append,List.length_cons] at hb ⊢; omega),Option.bind_some];dsimp only[okE];rw[hblk (by simp only[List.length_append,List.length_cons] at hb ⊢; omega),Option.bind_some];dsimp only[okB];rw[took1,hels,Option.bind_some];dsimp only[cond_false];rw[zaan];rfl
  |@ife w o q v o2 q2 x c d d2 b b2 hw hx ho hd hq hv ho2 hd2 hq2=>
   obtain ⟨tw,u',rfl,rfl,e1,hw,e2⟩:=word hu hw;obtain ⟨u2,tq0,u3,rfl,e3,rfl,e4⟩:=zagd e1;obtain ⟨u4,tq,u5,rfl,e5,rfl,e6⟩:=zagd e4;obtain ⟨tv,u6,rfl,rfl,e7⟩:=List.map_eq_cons_iff.1 e6;obtain ⟨to2,u7,rfl,rfl,e8⟩:=List.map_eq_cons_iff.1 e7;obtain ⟨u8,tq2,rfl,e9,rfl⟩:=snoc1 e8;have hblk:=hB b (core tq0::(d++[core tq])) ⟨_,_,_,ho,hd,hq,rfl⟩ (by simp only[List.length_cons,List.length_append]; omega) (tq0::(u4++[tq])) tv (to2::(u8++tq2::t::r)) (by simp[e5]);have hblk2:=hB b2 (core to2::(d2++[core tq2])) ⟨_,_,_,ho2,hd2,hq2,rfl⟩ (by simp only[List.length_cons,List.length_append]; omega) (to2::(u8++[tq2])) t r (by simp[e9]);rw[hit_c] at ho hq hv ho2 hq2;simp only[List.cons_append,List.append_assoc,List.nil_append] at hb hblk hblk2 ⊢;rw[next1,Option.bind_some];dsimp only;have h9:=zag1 (B:=B) (t:=tw) (r:=u2++tq0::(u4++tq::tv::to2::(u8++tq2::t::r))) (fun s hs=>zaaq hw (by revert s; decide)) 4 fuel 0 rfl (by unfold fuel; omega);have h9':qaz_i4 B fuel (↑(4:Nat):Int) (0:Int) (tw::(u2++tq0::(u4++tq::tv::to2::(u8++tq2::t::r)))) 0 [] [] 0 0 [] 0 four=_:=h9;rw[e2,cond_false,qaz_l4,zaaa,h9',Option.bind_some];dsimp only[okO];rw[took1,zaaq hw (by decide),Option.bind_some];dsimp only[cond_false];rw[took1,hw,Option.bind_some];dsimp only[cond_true];rw[exprC hx e3 tq0 _ (zae9 zasz ho) (by simp only[List.length_append,List.length_cons] at hb ⊢; omega),Option.bind_some];dsimp only[okE];rw[hblk (by simp only[List.length_append,List.length_cons] at hb ⊢; omega),Option.bind_some];dsimp only[okB];rw[took1,hv,Option.bind_some];dsimp only[cond_true];rw[hblk2 (by simp only[List.length_append,List.length_cons] at hb ⊢; omega),Option.bind_some];dsimp only[okB];rw[zaan];rfl
  |@rep w n o q d b hw hn hn2 ho hd hq=>
   obtain ⟨tw,u',rfl,rfl,e1,hw,e2⟩:=word hu hw;obtain ⟨tn,u2,rfl,rfl,e3⟩:=List.map_eq_cons_iff.1 e1;obtain ⟨tq0,u3,rfl,rfl,e4⟩:=List.map_eq_cons_iff.1 e3;obtain ⟨u4,tq,rfl,e5,rfl⟩:=snoc1 e4;have hblk:=hB b (core tq0::(d++[core tq])) ⟨_,_,_,ho,hd,hq,rfl⟩ (by simp only[List.length_cons,List.length_append]; omega) (tq0::(u4++[tq])) t r (by simp[e5]);rw[hit_c] at ho hq;simp only[List.cons_append,List.append_assoc,List.nil_append] at hb hblk ⊢;rw[next1,Option.bind_some];dsimp only;have h9:=zag1 (B:=B) (t:=tw) (r:=tn::tq0::(u4++tq::t::r)) (fun s hs=>zaaq hw (by revert s; decide)) 4 fuel 0 rfl (by unfold fuel; omega);have h9':qaz_i4 B fuel (↑(4:Nat):Int) (0:Int) (tw::tn::tq0::(u4++tq::t::r)) 0 [] [] 0 0 [] 0 four=_:=h9;rw[e2,cond_false,qaz_l4,zaaa,h9',Option.bind_some];dsimp only[okO];rw[took1,zaaq hw (by decide),Option.bind_some];dsimp only[cond_false];rw[took1,zaaq hw (by decide),Option.bind_some];dsimp only[cond_false];rw[want1,hw,Option.bind_some];dsimp only[cond_true];rw[next1,Option.bind_some];dsimp only;have f1:(tn.kind==2)=true:=by simp[show tn.kind=2 from hn]
   have f2:decide (tn.num>(1000:Int))=false:=by simp only[decide_eq_false_iff_not]; have:tn.num≤1000:=hn2; omega
   have f3:(tn.kind != 2)=false:=by simp[show tn.kind=2 from hn]
   rw[f1,cond_true,f2,Option.bind_some,cond_false,of1,f3,Option.bind_some];dsimp only[cond_false];rw[hblk (by simp only[List.length_append,List.length_cons] at hb ⊢; omega),Option.bind_some];rfl
theorem zavt {B:List Token→Option RB} {N:Nat} (hB:zak9 B N):∀ (b:List TStmt) (d:List Tk),DL b d→d.length≤N→∀ (f:Nat) (a:List TStmt) (u:List Token) (q t:Token) (r:List Token),u.map core=d→hit [125] q=true→u.length<f→a.length+(u++q::t::r).length<1000000 →
  qaq_i3 B f (u++q::t::r) a=some (ok3 (a++b) (t::r)):=by
 intro b;induction b with
 |nil=>
  intro d hd hN f a u q t r hu hq hf hb;cases hd;have:u=[]:=by simpa using hu
  subst this;obtain ⟨f,rfl⟩:∃ q,f=q+1:=⟨f-1,by omega⟩;show qaq_t3 B (qaq_i3 B f) (q::t::r) a=_;unfold qaq_t3;rw[took1,hq,Option.bind_some,List.append_nil];rfl
 |cons s b ih=>
  intro d hd hN f a u q t r hu hq hf hb;cases hd with
  |cons hs hl=>
  rename_i c d;obtain ⟨u1,u2,rfl,e1,e2⟩:=List.map_eq_append_iff.1 hu;have hsz:=hs.size.1;have hl1:u1.length=c.length:=by rw[← e1,List.length_map]
  obtain ⟨t1,r1,hu1,_,hno⟩:=zarc hs e1;obtain ⟨f,rfl⟩:∃ q,f=q+1:=⟨f-1,by omega⟩
  -- the token behind
  obtain ⟨t2,r2,ht2,hels⟩:∃ t2 r2,u2++q::t::r=t2::r2∧hit wElse t2=false:=by
   cases hl with
   |nil=>
    have:u2=[]:=by simpa using e2
    subst this;exact ⟨q,t::r,rfl,zaaq hq (by decide)⟩
   |cons hs2 _=>
    obtain ⟨u3,u4,rfl,e3,e4⟩:=List.map_eq_append_iff.1 e2;obtain ⟨t2,r2,rfl,h,_⟩:=zarc hs2 e3;exact ⟨t2,_,rfl,h⟩
  have hst:=stmtC hs (B:=B) (fun b' d' h1 h2=>hB b' d' h1 (by simp only[List.length_append] at hN; omega)) e1 t2 r2 hels (by rw[← ht2]; simp only[List.length_append,List.length_cons] at hb ⊢; omega);rw[← ht2] at hst;show qaq_t3 B (qaq_i3 B f) (u1++u2++q::t::r) a=_;rw[List.append_assoc];unfold qaq_t3;have htk:qaB [125] (u1++(u2++q::t::r))=some (false,u1++(u2++q::t::r)):=by
   rw[hu1,List.cons_append,took1,hno];rfl
  rw[htk,Option.bind_some];simp only[Bool.not_false,cond_true];rw[hst,Option.bind_some];dsimp only[okS];have e9:decide ((List.length a+List.length [s])*(152:Nat)≤(140737488355328:Nat)∧List.length a+List.length [s]≤(9223372036854775807:Nat))=true:=by
   simp only[decide_eq_true_eq,List.length_cons,List.length_nil];omega
  rw[e9,cond_true];simp only[List.length_append,List.length_cons] at hN hf hb;rw[ih d hl (by omega) f (a++[s]) u2 q t r e2 hq (by omega) (by simp only[List.length_append,List.length_cons,List.length_nil]; omega)];simp
theorem zawf:∀ n N,N≤n→zak9 (qaq_i n) N:=by
 intro n;induction n with
 |zero=>intro N h b d hd hl; omega
 |succ n ih=>
  intro N hN b d hd hl u t r hu hb;obtain ⟨o,d',q,ho,hd,hq,rfl⟩:=hd;obtain ⟨tq0,u2,rfl,rfl,e1⟩:=List.map_eq_cons_iff.1 hu;obtain ⟨u3,tq,rfl,e2,rfl⟩:=snoc1 e1;simp only[List.length_cons,List.length_append,List.length_nil] at hl;rw[hit_c] at ho hq;simp only[List.cons_append,List.append_assoc,List.nil_append] at hb ⊢;show qaq_f (qaq_i n) (tq0::(u3++tq::t::r))=_;unfold qaq_f;rw[want1,ho,Option.bind_some];dsimp only[cond_true];have hl3:u3.length=d'.length:=by rw[← e2,List.length_map]
  rw[qaq_l3,zaaa,zavt (ih (d'.length) (by omega)) b d' hd (Nat.le_refl _) fuel [] u3 tq t r e2 hq (by simp only[List.length_append,List.length_cons] at hb; unfold fuel; omega) (by simp only[List.length_append,List.length_cons,List.length_nil] at hb ⊢; omega),Option.bind_some];rfl
theorem zaw5 {b:List TStmt} {d:List Tk} (h:DB b d) {u:List Token} (hu:u.map core=d) (t:Token) (r:List Token) (hb:(u++t::r).length<1000000):qaq (u++t::r)=some (okB b (t::r)):=by
 have hl:u.length=d.length:=by rw[← hu,List.length_map]
 rw[qaq,zaaa];exact zawf fuel 1000000 (by unfold fuel; omega) b d h (by simp only[List.length_append] at hb; omega) u t r hu hb
end Lift.A4
namespace Lift.A4
open Go Go.RowKit Lift Go.IntWalk Lift.Fn Lift.A1P Lift.A3
set_option linter.unusedVariables false
set_option linter.unusedSimpArgs false
noncomputable abbrev progL (f:Nat) (z:List Token) (q:TProg):=qax_i2 f z q.cells q.mutexes q.threads
theorem zalp {q:TProg} (hc:q.cells.length<1000000) (hm:q.mutexes.length<1000000) (ht:q.threads.length<1000000) :
  (∀ c:TCell,decide ((List.length q.cells+List.length [c])*(24:Nat)≤(140737488355328:Nat)∧List.length q.cells+List.length [c]≤(9223372036854775807:Nat))=true) ∧
  (∀ c:List UInt8,decide ((List.length q.mutexes+List.length [c])*(16:Nat)≤(140737488355328:Nat)∧List.length q.mutexes+List.length [c]≤(9223372036854775807:Nat))=true) ∧
  (∀ c:TThread,decide ((List.length q.threads+List.length [c])*(40:Nat)≤(140737488355328:Nat)∧List.length q.threads+List.length [c]≤(9223372036854775807:Nat))=true):=by
 refine ⟨fun c=>?_,fun c=>?_,fun c=>?_⟩ <;>
 ·simp only[decide_eq_true_eq,List.length_cons,List.length_nil];omega
theorem word5 {s:List UInt8} {t:Token} (h:hit s t=true):(t.kind != 5)=true:=by
 have:=zamt h;simpa using this
theorem zauq {q:TProg} {x:TCell} {d:List Tk} (h:DC x d) (hc:q.cells.length<1000000) (hm:q.mutexes.length<1000000) (ht:q.threads.length<1000000) {u:List Token} (hu:u.map core=d) (f:Nat) (t:Token) (r:List Token) :
  progL (f+1) (u++t::r) q=progL f (t::r) ⟨q.cells++[x],q.mutexes,q.threads⟩:=by
 obtain ⟨g1,g2,g3⟩:=zalp hc hm ht;show qax_t2 (qax_i2 f) (u++t::r) q.cells q.mutexes q.threads=_;unfold qax_t2;simp only[g1,g2,g3,cond_true];cases h with
 |bare hw ha hq=>
  obtain ⟨tw,u2,rfl,rfl,e2⟩:=List.map_eq_cons_iff.1 hu;obtain ⟨ta,u3,rfl,rfl,e3⟩:=List.map_eq_cons_iff.1 e2;obtain ⟨tq,u4,rfl,rfl,e4⟩:=List.map_eq_cons_iff.1 e3;have:u4=[]:=by simpa using e4
  subst this;rw[hit_c] at hw hq;have e6:(ta.kind != 1)=false:=by simp[show ta.kind=1 from ha]
  simp only[List.cons_append,List.nil_append];rw[next1,Option.bind_some];dsimp only;rw[word5 hw,cond_true,took1,hw,Option.bind_some];dsimp only[cond_true];rw[name1,e6,Option.bind_some];dsimp only[cond_false];rw[took1,zaaq hq (by decide),Option.bind_some];dsimp only[cond_false];rw[want1,hq,Option.bind_some];rfl
 |pos hw ha ho hno hn hq=>
  obtain ⟨tw,u2,rfl,rfl,e2⟩:=List.map_eq_cons_iff.1 hu;obtain ⟨ta,u3,rfl,rfl,e3⟩:=List.map_eq_cons_iff.1 e2;obtain ⟨tq0,u4,rfl,rfl,e4⟩:=List.map_eq_cons_iff.1 e3;obtain ⟨tn,u5,rfl,rfl,e5⟩:=List.map_eq_cons_iff.1 e4;obtain ⟨tq,u6,rfl,rfl,e7⟩:=List.map_eq_cons_iff.1 e5;have:u6=[]:=by simpa using e7
  subst this;rw[hit_c] at hw hq ho hno;have e6:(ta.kind != 1)=false:=by simp[show ta.kind=1 from ha]
  have e8:(tn.kind != 2)=false:=by simp[show tn.kind=2 from hn]
  simp only[List.cons_append,List.nil_append];rw[next1,Option.bind_some];dsimp only;rw[word5 hw,cond_true,took1,hw,Option.bind_some];dsimp only[cond_true];rw[name1,e6,Option.bind_some];dsimp only[cond_false];rw[took1,ho,Option.bind_some];dsimp only[cond_true];rw[took1,hno,Option.bind_some];dsimp only[cond_false];rw[of1,e8,Option.bind_some];dsimp only[cond_false];rw[want1,hq,Option.bind_some];rfl
 |ngt hw ha ho hm2 hn hq=>
  obtain ⟨tw,u2,rfl,rfl,e2⟩:=List.map_eq_cons_iff.1 hu;obtain ⟨ta,u3,rfl,rfl,e3⟩:=List.map_eq_cons_iff.1 e2;obtain ⟨tq0,u4,rfl,rfl,e4⟩:=List.map_eq_cons_iff.1 e3;obtain ⟨tm,u4,rfl,rfl,e9⟩:=List.map_eq_cons_iff.1 e4;obtain ⟨tn,u5,rfl,rfl,e5⟩:=List.map_eq_cons_iff.1 e9;obtain ⟨tq,u6,rfl,rfl,e7⟩:=List.map_eq_cons_iff.1 e5;have:u6=[]:=by simpa using e7
  subst this;rw[hit_c] at hw hq ho hm2;have e6:(ta.kind != 1)=false:=by simp[show ta.kind=1 from ha]
  have e8:(tn.kind != 2)=false:=by simp[show tn.kind=2 from hn]
  simp only[List.cons_append,List.nil_append];rw[next1,Option.bind_some];dsimp only;rw[word5 hw,cond_true,took1,hw,Option.bind_some];dsimp only[cond_true];rw[name1,e6,Option.bind_some];dsimp only[cond_false];rw[took1,ho,Option.bind_some];dsimp only[cond_true];rw[took1,hm2,Option.bind_some];dsimp only[cond_true];rw[of1,e8,Option.bind_some];dsimp only[cond_false,cond_true];rw[want1,hq,Option.bind_some];rfl
theorem zatc {q:TProg} {w a z:Tk} (hw:hitc zata w=true) (ha:a.1=1) (hz:hitc [59] z=true) (hc:q.cells.length<1000000) (hm:q.mutexes.length<1000000) (ht:q.threads.length<1000000) {u:List Token} (hu:u.map core=[w,a,z]) (f:Nat) (t:Token) (r:List Token) :
  progL (f+1) (u++t::r) q=progL f (t::r) ⟨q.cells,q.mutexes++[a.2.1],q.threads⟩:=by
 obtain ⟨g1,g2,g3⟩:=zalp hc hm ht;show qax_t2 (qax_i2 f) (u++t::r) q.cells q.mutexes q.threads=_;unfold qax_t2;simp only[g1,g2,g3,cond_true];obtain ⟨tw,u2,rfl,rfl,e2⟩:=List.map_eq_cons_iff.1 hu;obtain ⟨ta,u3,rfl,rfl,e3⟩:=List.map_eq_cons_iff.1 e2;obtain ⟨tq,u4,rfl,rfl,e4⟩:=List.map_eq_cons_iff.1 e3;have:u4=[]:=by simpa using e4
 subst this;rw[hit_c] at hw hz;have e6:(ta.kind != 1)=false:=by simp[show ta.kind=1 from ha]
 simp only[List.cons_append,List.nil_append];rw[next1,Option.bind_some];dsimp only;rw[word5 hw,cond_true,took1,zaaq hw (by decide),Option.bind_some];dsimp only[cond_false];rw[took1,hw,Option.bind_some];dsimp only[cond_true];rw[name1,e6,Option.bind_some];dsimp only[cond_false];rw[want1,hz,Option.bind_some];rfl
theorem zar8 {q:TProg} {w a:Tk} {b:List TStmt} {d:List Tk} (hw:hitc zarn w=true) (ha:a.1=1) (hb:DB b d) (hc:q.cells.length<1000000) (hm:q.mutexes.length<1000000) (ht:q.threads.length<1000000) {u:List Token} (hu:u.map core=w::a::d) (f:Nat) (t:Token) (r:List Token) (hl:(u++t::r).length<1000000) :
  progL (f+1) (u++t::r) q=progL f (t::r) ⟨q.cells,q.mutexes,q.threads++[⟨a.2.1,b⟩]⟩:=by
 obtain ⟨g1,g2,g3⟩:=zalp hc hm ht;show qax_t2 (qax_i2 f) (u++t::r) q.cells q.mutexes q.threads=_;unfold qax_t2;simp only[g1,g2,g3,cond_true];obtain ⟨tw,u2,rfl,rfl,e2⟩:=List.map_eq_cons_iff.1 hu;obtain ⟨ta,u3,rfl,rfl,e3⟩:=List.map_eq_cons_iff.1 e2;rw[hit_c] at hw;have e6:(ta.kind != 1)=false:=by simp[show ta.kind=1 from ha]
 simp only[List.cons_append,List.nil_append] at hl ⊢;rw[next1,Option.bind_some];dsimp only;rw[word5 hw,cond_true,took1,zaaq hw (by decide),Option.bind_some];dsimp only[cond_false];rw[took1,zaaq hw (by decide),Option.bind_some];dsimp only[cond_false];rw[want1,hw,Option.bind_some];dsimp only[cond_true];rw[name1,e6,Option.bind_some];dsimp only[cond_false];rw[zaw5 hb e3 t r (by simp only[List.length_append,List.length_cons] at hl ⊢; omega),Option.bind_some];rfl
theorem zanv {p:TProg} {c:List Tk} (h:DP p c):∀ (u:List Token),u.map core=c→∀ (t:Token) (r:List Token),(u++t::r).length<1000000→∃ k,k≤u.length∧progL fuel (u++t::r) ⟨[],[],[]⟩=progL (fuel-k) (t::r) p:=by
 induction h with
 |nil=>
  intro u hu t r _;have:u=[]:=by simpa using hu
  subst this;exact ⟨0,by simp,rfl⟩
 |@cell p c d x hp hx ih=>
  intro u hu t r hb;obtain ⟨u1,u2,rfl,e1,e2⟩:=List.map_eq_append_iff.1 hu;have hsz:=hp.size;have hl1:u1.length=c.length:=by rw[← e1,List.length_map]
  have hl2:u2.length=d.length:=by rw[← e2,List.length_map]
  have hd:=hx.len;simp only[List.length_append,List.length_cons,List.append_assoc] at hb ⊢;cases u2 with
  |nil=>simp at hl2; omega
  |cons t2 u2=>
  obtain ⟨k,hk,h⟩:=ih u1 e1 t2 (u2++t::r) (by simp only[List.length_append,List.length_cons] at hb ⊢; omega);have hst:=zauq (q:=p) hx (by omega) (by omega) (by omega) e2 (fuel-k-1) t r;refine ⟨k+1,by simp only[List.length_cons]; omega,?_⟩;rw[List.cons_append,h];have e:fuel-k=(fuel-k-1)+1:=by unfold fuel; omega
  rw[e,← List.cons_append,hst];rfl
 |@mutex p c w a q hp hw ha hq ih=>
  intro u hu t r hb;obtain ⟨u1,u2,rfl,e1,e2⟩:=List.map_eq_append_iff.1 hu;have hsz:=hp.size;have hl1:u1.length=c.length:=by rw[← e1,List.length_map]
  have hl2:u2.length=3:=by have:=congrArg List.length e2; simpa using this
  simp only[List.length_append,List.length_cons,List.append_assoc] at hb ⊢;cases u2 with
  |nil=>simp at hl2
  |cons t2 u2=>
  obtain ⟨k,hk,h⟩:=ih u1 e1 t2 (u2++t::r) (by simp only[List.length_append,List.length_cons] at hb ⊢; omega);have hst:=zatc (q:=p) hw ha hq (by omega) (by omega) (by omega) e2 (fuel-k-1) t r;refine ⟨k+1,by simp only[List.length_cons]; omega,?_⟩;rw[List.cons_append,h];have e:fuel-k=(fuel-k-1)+1:=by unfold fuel; omega
  rw[e,← List.cons_append,hst];rfl
 |@thread p c d w a b hp hw ha hbd ih=>
  intro u hu t r hb;obtain ⟨u1,u2,rfl,e1,e2⟩:=List.map_eq_append_iff.1 hu;have hsz:=hp.size;have hl1:u1.length=c.length:=by rw[← e1,List.length_map]
  simp only[List.length_append,List.length_cons,List.append_assoc] at hb ⊢;cases u2 with
  |nil=>simp at e2
  |cons t2 u2=>
  obtain ⟨k,hk,h⟩:=ih u1 e1 t2 (u2++t::r) (by simp only[List.length_append,List.length_cons] at hb ⊢; omega);have hst:=zar8 (q:=p) hw ha hbd (by omega) (by omega) (by omega) e2 (fuel-k-1) t r (by simp only[List.length_append,List.length_cons] at hb ⊢; omega);refine ⟨k+1,by simp only[List.length_cons]; omega,?_⟩;rw[List.cons_append,h];have e:fuel-k=(fuel-k-1)+1:=by unfold fuel; omega
  rw[e,← List.cons_append,hst];rfl
theorem zava {p:TProg} {c:List Tk} (h:DP p c) {u:List Token} (hu:u.map core=c) {e:Token} (he:e.kind=5) (hb:(u++[e]).length<1000000):qax (u++[e])=some (okP p [e]):=by
 rw[qax,zaaa];unfold qax_f;rw[qax_l2,zaaa];obtain ⟨k,hk,h1⟩:=zanv h u hu e [] hb;have h1':qax_i2 fuel (u++[e]) [] [] []=_:=h1;rw[h1'];have hs:=h.size;have hl:u.length=c.length:=by rw[← hu,List.length_map]
 simp only[List.length_append] at hb;obtain ⟨f,hf⟩:∃ f,fuel-k=f+1:=⟨fuel-k-1,by unfold fuel; omega⟩;rw[hf];have h2:progL (f+1) [e] p=some (ok2 p [e]):=by
  obtain ⟨g1,g2,g3⟩:=zalp (q:=p) (by omega) (by omega) (by omega);show qax_t2 (qax_i2 f) [e] p.cells p.mutexes p.threads=_;unfold qax_t2;rw[next1,Option.bind_some];dsimp only;have e5:(e.kind != 5)=false:=by simp[he]
  rw[e5];rfl
 rw[h2,Option.bind_some];rfl
theorem name0:qat []=none:=by
 rw[qat,zaaa];unfold qat_f;rw[qav,zaaa];unfold qav_f;rw[qau,zaaa];rfl
theorem zash {t:Token} (hk:t.kind≠5) (f:Nat) (q:TProg) (p:TProg) (z:List Token):progL (f+1) [t] q≠some (ok2 p z):=by
 show qax_t2 (qax_i2 f) [t] q.cells q.mutexes q.threads≠_;unfold qax_t2;rw[next1,Option.bind_some];dsimp only;have e5:(t.kind != 5)=true:=by simp[hk]
 rw[e5,cond_true,took1];cases h1:hit [99,101,108,108] t with
 |true=>
  rw[Option.bind_some];dsimp only[cond_true];rw[name0];intro h;cases h
 |false=>
  rw[Option.bind_some];dsimp only[cond_false];rw[took1];cases h2:hit [109,117,116,101,120] t with
  |true=>
   rw[Option.bind_some];dsimp only[cond_true];rw[name0];intro h;cases h
  |false=>
   rw[Option.bind_some];dsimp only[cond_false];rw[want1];cases h3:hit [116,104,114,101,97,100] t with
   |true=>
    rw[Option.bind_some];dsimp only[cond_true];rw[name0];intro h;cases h
   |false=>
    intro h;cases h
theorem zavd {l:List Token} {e:Token} (he:e.kind=5) (hb:(l++[e]).length<1000000) {p:TProg} {z:List Token} (h:qax (l++[e])=some (okP p z)) (hl:∀ t∈l,t.kind≠5):DP p (l.map core):=by
 obtain ⟨u,t,r,h1,h2,h3⟩:=zap1 (l++[e]) ⟨l,e,rfl,he⟩ hb;rcases h3 with ⟨x,c,h3⟩|h3
 ·have h4:qax (u++t::r)=_:=h3 u t r rfl rfl;rw[← h1,h] at h4;simp only[Option.some.injEq] at h4;have hx:x=p:=by
   unfold okP at h4;simp only[Sum.inl.injEq,Prod.mk.injEq] at h4;obtain ⟨_,a,b,c⟩:=h4;obtain ⟨x1,x2,x3⟩:=x;obtain ⟨p1,p2,p3⟩:=p;simp only at a b c;rw[a,b,c]
  subst hx;by_cases hk:t.kind=5
  ·have:r=[]∧u=l:=by
    rcases List.eq_nil_or_concat r with hr|⟨r',b,hr⟩
    ·subst hr;exact ⟨rfl,(List.append_inj_left' h1 rfl).symm⟩
    ·exfalso;subst hr;have h5:l++[e]=(u++t::r')++[b]:=by rw[h1]; simp
     have h6:=List.append_inj_left' h5 rfl;exact hl t (by rw[h6]; simp) hk
   rw[← this.2];exact c
  ·exfalso;have h5:qax (u++t::[])=_:=h3 u t [] rfl rfl;have hlen:(u++[t]).length<1000000:=by
    have:=congrArg List.length h1;simp only[List.length_append,List.length_cons,List.length_nil] at this hb ⊢;omega
   rw[qax,zaaa] at h5;unfold qax_f at h5;rw[qax_l2,zaaa] at h5;obtain ⟨k,hk2,h6⟩:=zanv c u rfl t [] hlen;have h6':qax_i2 fuel (u++[t]) [] [] []=_:=h6;rw[h6'] at h5;simp only[List.length_append] at hlen;obtain ⟨f,hf⟩:∃ f,fuel-k=f+1:=⟨fuel-k-1,by unfold fuel; omega⟩;rw[hf] at h5;cases hq:progL (f+1) [t] x with
   |none=>rw[hq] at h5; cases h5
   |some y=>
    rw[hq] at h5;cases y with
    |inl w=>cases h5
    |inr y=>
     obtain ⟨y1,y2,y3,y4⟩:=y;exact zash hk f x ⟨y2,y3,y4⟩ y1 hq
 ·have h4:qax (u++t::r)=_:=h3 u t r rfl rfl;rw[← h1,h] at h4;cases h4
end Lift.A4
namespace Lift.A1P
open Go Go.RowKit Lift Go.IntWalk Lift.Fn
end Lift.A1P
namespace Lift.A1P
open Go Go.RowKit Lift Go.IntWalk Lift.Fn
theorem zavi (x:List UInt8):sgn (sgn x)=sgn x:=by
 by_cases k1:1<x.length∧twos.contains (x.take 2)=true
 ·have e:sgn x=x.take 2:=by unfold sgn; rw[if_pos k1]
  rw[e];have hl:(x.take 2).length=2:=by rw[List.length_take]; omega
  have ht:(x.take 2).take 2=x.take 2:=by rw[List.take_take]; rfl
  unfold sgn;rw[if_pos ⟨by omega,by rw[ht]; exact k1.2⟩,ht]
 ·by_cases k2:ones.contains (x.headD 0)=true
  ·have e:sgn x=x.take 1:=by unfold sgn; rw[if_neg k1,if_pos k2]
   rw[e];match x,k2 with
   |[],k2=>exact absurd k2 (by decide)
   |b::x,k2=>
    show sgn [b]=[b];unfold sgn;rw[if_neg (fun hh=>by have:=hh.1; simp at this)];exact if_pos k2
  ·have e:sgn x=[]:=by unfold sgn; rw[if_neg k1,if_neg k2]
   rw[e];decide
theorem alone (a:Int) (rs:List Int) (ha:(a::rs).all Sp.isRune=true) (h0:(tokR (a::rs)).2=0):∃ ds,whole ds (tokR (a::rs)).1∧a::rs=ds++restR (a::rs):=by
 cases hg:goesR a with
 |true=>
  have ht:=zai2 (w:=a::rs) hg;have hd:((a::rs).takeWhile goesR).headD 0=a:=by rw[List.takeWhile_cons,if_pos hg]; rfl
  have htt:((a::rs).takeWhile goesR).takeWhile goesR=(a::rs).takeWhile goesR:=zapx List.all_takeWhile;refine ⟨(a::rs).takeWhile goesR,⟨by simp[hg],zaiy ha,?_,ht⟩,?_⟩
  ·refine Prod.ext ?_ ?_
   ·show (tokR ((a::rs).takeWhile goesR)).1=_;unfold tokR;rw[hd,htt,List.headD_cons,hg];rfl
   ·show (tokR ((a::rs).takeWhile goesR)).2=0;rw[← h0];unfold tokR;rw[hd,htt,List.headD_cons,hg];rfl
  ·unfold restR;rw[List.headD_cons,hg];exact (List.takeWhile_append_dropWhile).symm
 |false=>
  have hc:(sgn (encs (a::rs))==[])=false:=by
   unfold tokR at h0;rw[List.headD_cons,hg,cond_false] at h0;cases hc:(sgn (encs (a::rs))==[]) with
   |true=>rw[hc] at h0; simp at h0
   |false=>rfl
  have hne:sgn (encs (a::rs))≠[]:=by simpa using hc
  obtain ⟨h1,h2⟩:=zaju a rs ha hne;have htok:tokR (a::rs)=(⟨3,sgn (encs (a::rs)),0,0⟩,0):=by
   unfold tokR;rw[List.headD_cons,hg,cond_false,hc,cond_false]
  obtain ⟨n,hn⟩:∃ n,(sgn (encs (a::rs))).length=n+1:=⟨(sgn (encs (a::rs))).length-1,by omega⟩;have htk:(a::rs).take (sgn (encs (a::rs))).length=a::rs.take n:=by rw[hn]; rfl
  refine ⟨(a::rs).take (sgn (encs (a::rs))).length,⟨by rw[htk]; exact List.cons_ne_nil _ _,?_,?_,?_⟩,?_⟩
  ·rw[List.all_eq_true] at ha ⊢;exact fun r hr=>ha r (List.mem_of_mem_take hr)
  ·rw[htok];rw[htk] at h1 ⊢;unfold tokR;rw[List.headD_cons,hg,cond_false,h1,zavi,hc,cond_false]
  ·rw[htok,h1]
  ·unfold restR;rw[List.headD_cons,hg,cond_false,List.take_append_drop]
end Lift.A1P
namespace Lift.A1P
open Go Go.RowKit Lift Go.IntWalk Lift.Fn
theorem zamj (t:List UInt8) (h:(Sp.runes2 t).code≠0):qag t=some ([],⟨(Sp.runes2 t).code,(Sp.runes2 t).at_,(Sp.runes2 t).name⟩):=by
 rw[qag,zaaa];unfold qag_f;rw[zark,Option.bind_some];have:((Sp.runes2 t).code != 0)=true:=by simp[h]
 simp only[this,cond_true]
end Lift.A1P
namespace Lift.A1P
open Go Go.RowKit Lift Go.IntWalk Lift.Fn
end Lift.A1P
namespace Lift.A1P
open Go Go.RowKit Lift Go.IntWalk Lift.Fn
end Lift.A1P
namespace Lift.A1P
open Go Go.RowKit Lift Go.IntWalk Lift.Fn
theorem zajc:∀ (k k':Nat) (p:Int) (rs:List Int),rs.all Sp.isRune=true→rs.length≤k→rs.length≤k'→toks k p rs=toks k' p rs
 |k,k',p,[],_,_,_=>by
  have e:∀ k p,toks k p []=.inr []:=fun k p=>by cases k<;>rfl
  rw[e,e]
 |0,_,_,r::rs,_,hk,_=>by simp at hk
 |_+1,0,_,r::rs,_,_,hk=>by simp at hk
 |k+1,k'+1,p,r::rs,ha,hk,hk'=>by
  simp only[toks];cases hc:((tokR (r::rs)).2 != 0) with
  |true=>rfl
  |false=>
   have h0:(tokR (r::rs)).2=0:=by simpa using hc
   obtain ⟨w,hw,hsp⟩:=alone r rs ha h0;have hR:(restR (r::rs)).all Sp.isRune=true:=zacf (ds:=w) (by rw[← hsp]; exact ha);have hwl:0<w.length:=List.length_pos_iff.2 hw.1;have hl:=congrArg List.length hsp;rw[List.length_append,List.length_cons] at hl;obtain ⟨fs,hfs⟩:=zabt (restR (r::rs)) false;have hsl:(skip false (restR (r::rs))).length≤(restR (r::rs)).length:=by
    have:=congrArg List.length hfs;rw[List.length_append] at this;omega
   simp only[List.length_cons] at hk hk';have hS:(skip false (restR (r::rs))).all Sp.isRune=true:=zacf (ds:=fs) (by rw[← hfs]; exact hR);rw[zajc k k' _ _ hS (by omega) (by omega)]
end Lift.A1P
namespace Lift.A1P
open Go Go.RowKit Lift Go.IntWalk Lift.Fn
def jr:List (List Int)→List Int
 |[]=>[]
 |[w]=>w
 |w::v::ws=>w++32::jr (v::ws)
end Lift.A1P
namespace Lift.A4
open Go Go.RowKit Lift Go.IntWalk Lift.Fn Lift.A1P
set_option linter.unusedVariables false
set_option linter.unusedSimpArgs false
theorem zav4 {u:List UInt8} (h:2≤u.length) (y:List UInt8):sgn (u++y)=sgn u:=by
 have h1:(u++y).take 2=u.take 2:=List.take_append_of_le_length h;have h2:(u++y).take 1=u.take 1:=List.take_append_of_le_length (by omega);have h3:(u++y).headD 0=u.headD 0:=by
  cases u with
  |nil=>simp at h
  |cons a u=>rfl
 unfold sgn;rw[h1,h2,h3];by_cases k:twos.contains (u.take 2)=true
 ·rw[if_pos ⟨by rw[List.length_append]; omega,k⟩,if_pos ⟨by omega,k⟩]
 ·have k1:¬ (1<(u++y).length∧twos.contains (u.take 2)=true):=fun hh=>k hh.2
  have k2:¬ (1<u.length∧twos.contains (u.take 2)=true):=fun hh=>k hh.2
  rw[if_neg k1,if_neg k2]
theorem zav8 (c:Int):1≤(encB c).length:=by
 rw[zads];have:=zadi c;omega
theorem zau8 (w:List Int) (c:Int) (x x':List Int) (hw:w≠[]) (h:restR (w++c::x)=c::x) :
  tokR (w++c::x')=tokR (w++c::x)∧restR (w++c::x')=c::x':=by
 have h1:(w++c::x).headD 0=w.headD 0:=zalc hw _;have h2:(w++c::x').headD 0=w.headD 0:=zalc hw _;cases hg:goesR (w.headD 0) with
 |true=>
  have e1:(w++c::x).dropWhile goesR=c::x:=by
   have:=h;unfold restR at this;rwa [h1,hg,cond_true] at this
  have e2:(w++c::x).takeWhile goesR=w:=by
   have:=List.takeWhile_append_dropWhile (p:=goesR) (l:=w++c::x);rw[e1] at this;exact List.append_cancel_right this
  have e3:∀ r∈w,goesR r=true:=fun r hr=>by
   rw[← e2] at hr;exact List.all_eq_true.1 List.all_takeWhile r hr
  have e4:goesR c=false:=by
   cases hc:goesR c with
   |false=>rfl
   |true=>
    rw[List.takeWhile_append_of_pos e3,List.takeWhile_cons,if_pos hc] at e2;have:=congrArg List.length e2;simp only[List.length_append,List.length_cons] at this;omega
  have e5:(w++c::x').takeWhile goesR=w:=by
   rw[List.takeWhile_append_of_pos e3,List.takeWhile_cons,if_neg (by rw[e4]; decide),List.append_nil]
  have e6:(w++c::x').dropWhile goesR=c::x':=by
   have:=List.takeWhile_append_dropWhile (p:=goesR) (l:=w++c::x');rw[e5] at this;exact List.append_cancel_left this
  constructor
  ·unfold tokR;rw[h1,h2,hg,e2,e5];rfl
  ·unfold restR;rw[h2,hg,cond_true,e6]
 |false=>
  have hl:2≤(encs (w++[c])).length:=by
   have:=zabj (w++[c]);rw[List.length_append,List.length_cons,List.length_nil] at this;have:0<w.length:=List.length_pos_iff.2 hw;omega
  have s1:∀ y,sgn (encs (w++c::y))=sgn (encs (w++[c])):=by
   intro y;rw[show w++c::y=(w++[c])++y by simp,zaak];exact zav4 hl _
  have e1:(w++c::x).drop (sgn (encs (w++[c]))).length=c::x:=by
   have:=h;unfold restR at this;rwa [h1,hg,cond_false,s1] at this
  have e2:(sgn (encs (w++[c]))).length=w.length:=by
   have:=congrArg List.length e1;simp only[List.length_drop,List.length_append,List.length_cons] at this;omega
  constructor
  ·unfold tokR;rw[h1,h2,hg,cond_false,cond_false,s1 x,s1 x']
  ·unfold restR;rw[h2,hg,cond_false,s1,e2,List.drop_left]
theorem zaio (c:Bool) (l:List Int):(skip c l).length≤l.length:=by
 obtain ⟨ds,h⟩:=zabt l c;have:=congrArg List.length h;rw[List.length_append] at this;omega
noncomputable def T (p:Int) (rs:List Int):(Int×Int)⊕List Token:=toks rs.length p rs
theorem T_nil (p:Int):T p []=.inr []:=rfl
theorem zagk {r:Int} {rs:List Int} (ha:(r::rs).all Sp.isRune=true) (h0:(tokR (r::rs)).2=0):(skip false (restR (r::rs))).all Sp.isRune=true∧(skip false (restR (r::rs))).length≤rs.length:=by
 obtain ⟨ds,h1,h2,_⟩:=zais r rs ha h0;obtain ⟨es,h3⟩:=zabt (restR (r::rs)) false;have h4:r::rs=(ds++es)++skip false (restR (r::rs)):=by rw[List.append_assoc,← h3,← h2]
 refine ⟨zacf (ds:=ds++es) (by rw[← h4]; exact ha),?_⟩;have:=congrArg List.length h2;have q:=zaio false (restR (r::rs));have q2:0<ds.length:=List.length_pos_iff.2 h1;simp only[List.length_cons,List.length_append] at this;omega
theorem zagc (p:Int) (r:Int) (rs:List Int) (ha:(r::rs).all Sp.isRune=true):T p (r::rs)=bif (tokR (r::rs)).2 != 0 then .inl ((tokR (r::rs)).2,p) else
   match T (p+(encs (r::rs)).length-(encs (skip false (restR (r::rs)))).length) (skip false (restR (r::rs))) with
   |.inl e=>.inl e
   |.inr l=>.inr (⟨(tokR (r::rs)).1.kind,(tokR (r::rs)).1.text,(tokR (r::rs)).1.num,p⟩::l):=by
 show toks (rs.length+1) p (r::rs)=_;rw[toks];by_cases h0:(tokR (r::rs)).2=0
 ·obtain ⟨q1,q2⟩:=zagk ha h0;have e:((tokR (r::rs)).2 != 0)=false:=by simp[h0]
  rw[e,cond_false,cond_false];unfold T;rw[zajc rs.length (skip false (restR (r::rs))).length _ _ q1 q2 (Nat.le_refl _)];all_goals (cases toks (skip false (restR (r::rs))).length (p+(encs (r::rs)).length-(encs (skip false (restR (r::rs)))).length) (skip false (restR (r::rs)))<;>rfl)
 ·have e:((tokR (r::rs)).2 != 0)=true:=by simp[h0]
  rw[e,cond_true,cond_true]
theorem zapk (a b:List Int):((encs (a++b)).length:Int)=(encs a).length+(encs b).length:=by rw[zaak,List.length_append]; omega
end Lift.A4
namespace Lift.A1P
open Go Go.RowKit Lift Go.IntWalk Lift.Fn
end Lift.A1P
namespace Lift.A4
open Go Go.RowKit Lift Go.IntWalk Lift.Fn Lift.A1P
set_option linter.unusedVariables false
set_option linter.unusedSimpArgs false
theorem zapd (rs:List Int):(tokR rs).1.kind≠5∧(tokR rs).2≠40:=by
 unfold tokR;cases goesR (rs.headD 0) with
 |true=>
  rw[cond_true];cases Sp.digit (rs.headD 0) with
  |true=>
   rw[cond_true];cases (numS (encs (rs.takeWhile goesR))).2<;>constructor<;>simp
  |false=>
   rw[cond_false];cases words.contains (encs (rs.takeWhile goesR)) with
   |true=>constructor<;>simp
   |false=>
    rw[cond_false];cases decide (16<(rs.takeWhile goesR).length)<;>constructor<;>simp
 |false=>
  rw[cond_false];cases (sgn (encs rs)==[])<;>constructor<;>simp
theorem T_bad:∀ (n:Nat) (rs:List Int) (p:Int) (e:Int×Int),rs.length≤n→rs.all Sp.isRune=true→T p rs=.inl e→e.1≠0∧e.1≠40:=by
 intro n;induction n with
 |zero=>
  intro rs p e hn ha h;have:rs=[]:=List.eq_nil_of_length_eq_zero (by omega);subst this;cases h
 |succ n ih=>
  intro rs p e hn ha h;cases rs with
  |nil=>cases h
  |cons r rs=>
   simp only[List.length_cons] at hn;rw[zagc p r rs ha] at h;by_cases h0:(tokR (r::rs)).2=0
   ·have e1:((tokR (r::rs)).2 != 0)=false:=by simp[h0]
    rw[e1,cond_false] at h;obtain ⟨q1,q2⟩:=zagk ha h0;cases hT:T (p+(encs (r::rs)).length-(encs (skip false (restR (r::rs)))).length) (skip false (restR (r::rs))) with
    |inl e2=>
     rw[hT] at h;simp only[Sum.inl.injEq] at h;rw[← h];exact ih _ _ _ (by omega) q1 hT
    |inr l'=>rw[hT] at h; cases h
   ·have e1:((tokR (r::rs)).2 != 0)=true:=by simp[h0]
    rw[e1,cond_true,Sum.inl.injEq] at h;rw[← h];exact ⟨h0,(zapd _).2⟩
theorem T_ok:∀ (n:Nat) (rs:List Int) (p:Int) (l:List Token),rs.length≤n→rs.all Sp.isRune=true→T p rs=.inr l →
  (∀ x∈l,p≤x.at_∧x.at_<p+(encs rs).length∧x.kind≠5∧∃ w t,whole w t∧core x=core t)∧l.Pairwise (fun x y=>x.at_<y.at_):=by
 intro n;induction n with
 |zero=>
  intro rs p l hn ha h;have:rs=[]:=List.eq_nil_of_length_eq_zero (by omega);subst this;rw[T_nil,Sum.inr.injEq] at h;subst h;exact ⟨fun x hx=>(by cases hx),.nil⟩
 |succ n ih=>
  intro rs p l hn ha h;cases rs with
  |nil=>
   rw[T_nil,Sum.inr.injEq] at h;subst h;exact ⟨fun x hx=>(by cases hx),.nil⟩
  |cons r rs=>
   simp only[List.length_cons] at hn;rw[zagc p r rs ha] at h;by_cases h0:(tokR (r::rs)).2=0
   ·have e1:((tokR (r::rs)).2 != 0)=false:=by simp[h0]
    rw[e1,cond_false] at h;obtain ⟨q1,q2⟩:=zagk ha h0;obtain ⟨w,hw,hsp⟩:=alone r rs ha h0;obtain ⟨sep,hsep⟩:=zabt (restR (r::rs)) false;have hlen:((encs (r::rs)).length:Int)=(encs w).length+(encs sep).length+(encs (skip false (restR (r::rs)))).length:=by
     have h1:=congrArg (fun l=>((encs l).length:Int)) hsp;have h2:=congrArg (fun l=>((encs l).length:Int)) hsep;rw[zapk] at h1 h2;omega
    have hwl:0<(encs w).length:=by
     have:=zabj w;have:0<w.length:=List.length_pos_iff.2 hw.1;omega
    cases hT:T (p+(encs (r::rs)).length-(encs (skip false (restR (r::rs)))).length) (skip false (restR (r::rs))) with
    |inl e2=>rw[hT] at h; cases h
    |inr l'=>
     rw[hT] at h;simp only[Sum.inr.injEq] at h;obtain ⟨i1,i2⟩:=ih _ _ _ (by omega) q1 hT;subst h;constructor
     ·intro x hx;simp only[List.mem_cons] at hx;rcases hx with rfl|hx
      ·exact ⟨Int.le_refl _,by show p<_; omega,(zapd _).1,w,_,hw,rfl⟩
      ·obtain ⟨a1,a2,a3,a4⟩:=i1 x hx;exact ⟨by omega,by omega,a3,a4⟩
     ·refine List.Pairwise.cons (fun x hx=>?_) i2;obtain ⟨a1,a2,a3,a4⟩:=i1 x hx;show p<x.at_;omega
   ·have e1:((tokR (r::rs)).2 != 0)=true:=by simp[h0]
    rw[e1,cond_true] at h;cases h
noncomputable def p0 (rs:List Int):Int:=((encs rs).length:Int)-(encs (skip false rs)).length
theorem zact {rs:List Int} (ha:rs.all Sp.isRune=true):(skip false rs).all Sp.isRune=true:=by
 obtain ⟨ds,h⟩:=zabt rs false;exact zacf (ds:=ds) (by rw[← h]; exact ha)
theorem zatt (rs:List Int) (ha:rs.all Sp.isRune=true):toks rs.length (p0 rs) (skip false rs)=T (p0 rs) (skip false rs):=by
 unfold T;exact zajc _ _ _ _ (zact ha) (zaio _ _) (Nat.le_refl _)
theorem zag6 (t:List UInt8):(∃ f,qag t=some ([],f)∧f.code≠0∧f.code≠40) ∨
  (∃ rs l,t=encs rs∧rs.all Sp.isRune=true∧t.length≤4000∧T (p0 rs) (skip false rs)=.inr l∧qag t=some (l++[⟨5,[],0,(t.length:Int)⟩],⟨0,0,[]⟩)):=by
 rcases zaqo t with ⟨h1,h2⟩|⟨h0,rs,rest,_,_,_,_,h1,h2⟩|⟨h0,rs,rfl,ha,h1,h2⟩
 ·refine .inl ⟨_,zamj t (by rw[h2]; decide),?_,?_⟩<;>· rw[h2]; decide
 ·refine .inl ⟨_,zamj t (by rw[h2]; show (11:Int)≠0; decide),?_,?_⟩
  ·rw[h2]; show (11:Int)≠0; decide
  ·rw[h2]; show (11:Int)≠40; decide
 ·have h:=zajw rs ha h0;have e:=zatt rs ha;unfold p0 at e;rw[e] at h;cases hT:T (((encs rs).length:Int)-(encs (skip false rs)).length) (skip false rs) with
  |inl e2=>
   rw[hT] at h;obtain ⟨b1,b2⟩:=T_bad _ _ _ _ (Nat.le_refl _) (zact ha) hT;exact .inl ⟨_,h,b1,b2⟩
  |inr l=>
   rw[hT] at h;exact .inr ⟨rs,l,rfl,ha,h0,hT,h⟩
end Lift.A4
namespace Lift.A4
open Go Go.RowKit Lift Go.IntWalk Lift.Fn Lift.A1P
set_option linter.unusedVariables false
set_option linter.unusedSimpArgs false
theorem zam8 {c:Int} (hc:goesR c=false) {w r:List Int} (h:w.takeWhile goesR=w):(w++c::r).takeWhile goesR=w:=by
 have hall:∀ x∈w,goesR x=true:=fun x hx=>by
  rw[← h] at hx;exact List.all_eq_true.1 (List.all_takeWhile) x hx
 rw[List.takeWhile_append_of_pos hall,List.takeWhile_cons,hc];simp
theorem zas2 {c:Int} (hc:goesR c=false) {w r:List Int} (h:w.takeWhile goesR=w):(w++c::r).dropWhile goesR=c::r:=by
 have h1:=zam8 (r:=r) hc h;have h2:=List.takeWhile_append_dropWhile (p:=goesR) (l:=w++c::r);rw[h1] at h2;exact List.append_cancel_left h2
theorem zaun {c:Int} {w:List Int} {r:List Int} (h0:encs w≠[]) (h:sgn (encs w)=encs w) (hc:∀ b∈ones,encs w=[b]→twos.contains [b,(encB c).headD 0]=false):sgn (encs (w++c::r))=encs w:=by
 rw[zaak,zaa3];unfold sgn at h;by_cases h1:1<(encs w).length∧twos.contains ((encs w).take 2)=true
 ·rw[if_pos h1] at h;have hl:(encs w).length=2:=by
   have:=congrArg List.length h;rw[List.length_take] at this;omega
  have ht:(encs w++(encB c++encs r)).take 2=encs w:=by rw[← hl,List.take_left]
  unfold sgn;rw[if_pos ⟨by rw[List.length_append]; omega,by rw[ht]; rw[h] at h1; exact h1.2⟩,ht]
 ·rw[if_neg h1] at h;by_cases h2:ones.contains ((encs w).headD 0)=true
  ·rw[if_pos h2] at h;match hw:encs w,h0 with
   |b::t,_=>
    rw[hw] at h h2 hc;have ht:t=[]:=by
     have:=congrArg List.length h;simp only[List.take_succ_cons,List.take_zero,List.length_cons,List.length_nil] at this;exact List.eq_nil_of_length_eq_zero (by omega)
    subst ht;have hb:b∈ones:=by simpa using h2
    have h3:=hc b hb rfl;have h4:=zav8 c;cases hk:encB c with
    |nil=>rw[hk] at h4; simp at h4
    |cons k ks=>
     rw[hk] at h3;unfold sgn;refine (if_neg fun hh=>?_).trans ((if_pos ?_).trans rfl)
     ·have h9:twos.contains [b,k]=true:=hh.2;rw[show ([b,(k::ks).headD 0]:List UInt8)=[b,k] from rfl,h9] at h3;cases h3
     ·exact h2
  ·rw[if_neg h2] at h;exact absurd h.symm h0
theorem zavq {w:List Int} {t:Token} (h:whole w t) (c:Int) (r:List Int) (hg:goesR (w.headD 0)=true→goesR c=false) (hs:goesR (w.headD 0)=false→∀ b∈ones,encs w=[b]→twos.contains [b,(encB c).headD 0]=false) :
  tokR (w++c::r)=(t,0)∧restR (w++c::r)=c::r:=by
 obtain ⟨h1,h2,h3,h4⟩:=h;have hh:=zalc h1 (c::r);cases hg2:goesR (w.headD 0) with
 |true=>
  have hc:=hg hg2;have hw:=zasr ⟨h1,h2,h3,h4⟩ hg2;have ht:=zam8 (r:=r) hc hw;constructor
  ·rw[← h3];unfold tokR;rw[hh,hg2,ht,hw];rfl
  ·unfold restR;rw[hh,hg2,cond_true,zas2 hc hw]
 |false=>
  have h0:encs w≠[]:=by
   match w,h1 with
   |a::w,_=>obtain ⟨b,u,hb⟩:=zapy a w; rw[hb]; exact List.cons_ne_nil _ _
  have hsg:sgn (encs w)=encs w:=by
   have h5:=h3;unfold tokR at h5;rw[hg2,cond_false] at h5;cases hc:(sgn (encs w)==[]) with
   |true=>rw[hc] at h5; simp at h5
   |false=>
    rw[hc,cond_false] at h5;have:=congrArg (fun x=>x.1.text) h5;simp only at this;rw[this,h4]
  have ha:=zaun (c:=c) (r:=r) h0 hsg (hs hg2);constructor
  ·rw[← h3];unfold tokR;rw[hh,hg2,ha,hsg];rfl
  ·unfold restR;rw[hh,hg2,cond_false,ha];have hlen:(encs w).length=w.length:=by
    match w,h1 with
    |a::w,_=>
     obtain ⟨q1,q2⟩:=zaju a w h2 (by rw[hsg]; exact h0);rw[hsg] at q1;have q3:encs ((a::w).take (encs (a::w)).length++(a::w).drop (encs (a::w)).length)=encs ((a::w).take (encs (a::w)).length):=by rw[List.take_append_drop,q1]
     have q5:=zabj (a::w);have q6:(sgn (encs (a::w))).length≤2:=by
      unfold sgn;split
      ·rw[List.length_take]; omega
      ·split
       ·rw[List.length_take]; omega
       ·simp
     rw[hsg] at q6;have q7:=zabj w;have q8:(encs (a::w)).length=(encB a).length+(encs w).length:=by rw[zaa3,List.length_append]
     have q9:=zads a;have q10:=zadi a;by_cases hz:w.length=0
     ·have hwn:w=[]:=List.eq_nil_of_length_eq_zero hz;subst hwn;obtain ⟨b,u,hb⟩:=zapy a [];simp only[List.all_cons,Bool.and_eq_true] at h2;have hbn:b.toNat<128:=by
       unfold sgn at hsg;by_cases k1:1<(encs [a]).length∧twos.contains ((encs [a]).take 2)=true
       ·have hm:(encs [a]).take 2∈twos:=by simpa using k1.2
        have:=(zarl _ hm).2;rw[hb] at this;cases u with
        |nil=>simp only[List.take_succ_cons,List.take_nil,List.all_cons,List.all_nil,Bool.and_true,decide_eq_true_eq] at this; exact this
        |cons c u=>simp only[List.take_succ_cons,List.take_zero,List.all_cons,Bool.and_eq_true,decide_eq_true_eq] at this; exact this.1
       ·rw[if_neg k1] at hsg;by_cases k2:ones.contains ((encs [a]).headD 0)=true
        ·rw[hb] at k2;exact zard b (by simpa using k2)
        ·rw[if_neg k2] at hsg;exact absurd hsg.symm h0
      obtain ⟨e1,_⟩:=zaf2 h2.1 hb hbn;rw[zaa3,e1];rfl
     ·simp only[List.length_cons];omega
   rw[hlen,List.drop_left]
theorem zawv:goesR 10=false:=by decide +kernel
theorem two10:∀ b∈ones,twos.contains [b,(encB 10).headD 0]=false:=by decide +kernel
theorem zaus {w:List Int} {t:Token} (h:whole w t) (r:List Int):tokR (w++10::r)=(t,0)∧restR (w++10::r)=10::r:=
 zavq h 10 r (fun _=>zawv) (fun _ b hb _=>two10 b hb)
theorem zafm (ys : List Int) : ∀ (ds : List Int) (c : Bool), skip c (ds ++ 10 :: ys) = match skip c ds with | [] => skip false ys | z :: zs => z :: zs ++ 10 :: ys
 |[],true=>by simp[skip]
 |[],false=>by
  have:Sp.blank 10=true:=by decide
  simp[skip,this]
 |d::ds,true=>by
  simp only[List.cons_append,skip];exact zafm ys ds (d != 10)
 |d::ds,false=>by
  simp only[List.cons_append,skip];by_cases h1:d=35
  ·rw[if_pos h1,if_pos h1]; exact zafm ys ds true
  ·rw[if_neg h1,if_neg h1];by_cases h2:Sp.blank d=true
   ·rw[if_pos h2,if_pos h2]; exact zafm ys ds false
   ·rw[if_neg h2,if_neg h2]
theorem zarf:∀ (n:Nat) (rs:List Int) (p q:Int) (l:List Token),rs.length≤n→rs.all Sp.isRune=true→T p rs=.inr l→∃ m,T q rs=.inr m∧m.map core=l.map core:=by
 intro n;induction n with
 |zero=>
  intro rs p q l hn ha h;have:rs=[]:=List.eq_nil_of_length_eq_zero (by omega);subst this;rw[T_nil,Sum.inr.injEq] at h;subst h;exact ⟨[],T_nil q,rfl⟩
 |succ n ih=>
  intro rs p q l hn ha h;cases rs with
  |nil=>
   rw[T_nil,Sum.inr.injEq] at h;subst h;exact ⟨[],T_nil q,rfl⟩
  |cons r rs=>
   simp only[List.length_cons] at hn;rw[zagc p r rs ha] at h;rw[zagc q r rs ha];by_cases h0:(tokR (r::rs)).2=0
   ·have e1:((tokR (r::rs)).2 != 0)=false:=by simp[h0]
    rw[e1,cond_false] at h ⊢;obtain ⟨q1,q2⟩:=zagk ha h0;cases hT:T (p+(encs (r::rs)).length-(encs (skip false (restR (r::rs)))).length) (skip false (restR (r::rs))) with
    |inl e2=>rw[hT] at h; cases h
    |inr l'=>
     rw[hT] at h;simp only[Sum.inr.injEq] at h;obtain ⟨m,i1,i2⟩:=ih _ _ (q+(encs (r::rs)).length-(encs (skip false (restR (r::rs)))).length) _ (by omega) q1 hT;refine ⟨_,by rw[i1],?_⟩;subst h;simp only[List.map_cons,i2];rfl
   ·have e1:((tokR (r::rs)).2 != 0)=true:=by simp[h0]
    rw[e1,cond_true] at h;cases h
theorem zaw2 {ys:List Int} (hy:ys.all Sp.isRune=true) {q:Int} {m:List Token} (hm:T q (skip false ys)=.inr m):∀ (n:Nat) (rs:List Int) (p p':Int) (l:List Token),rs.length≤n→rs.all Sp.isRune=true→T p (skip false rs)=.inr l →
  ∃ k,T p' (skip false (rs++10::ys))=.inr k∧k.map core=l.map core++m.map core:=by
 intro n;have base:∀ (rs:List Int) (p p':Int) (l:List Token),skip false rs=[]→T p (skip false rs)=.inr l→∃ k,T p' (skip false (rs++10::ys))=.inr k∧k.map core=l.map core++m.map core:=by
  intro rs p p' l hs h;rw[hs,T_nil,Sum.inr.injEq] at h;subst h;have:=zafm ys rs false;rw[hs] at this;dsimp only at this;rw[this];obtain ⟨k,h1,h2⟩:=zarf _ _ q p' m (Nat.le_refl _) (zact hy) hm;exact ⟨k,h1,by rw[h2]; rfl⟩
 induction n with
 |zero=>
  intro rs p p' l hn ha h;have:rs=[]:=List.eq_nil_of_length_eq_zero (by omega);subst this;exact base [] p p' l rfl h
 |succ n ih=>
  intro rs p p' l hn ha h;cases hs:skip false rs with
  |nil=>exact base rs p p' l hs h
  |cons z zs=>
   have hj:=zafm ys rs false;rw[hs] at hj;dsimp only at hj;rw[hs] at h;rw[hj];have hza:(z::zs).all Sp.isRune=true:=by rw[← hs]; exact zact ha
   have hzl:=zaio false rs;rw[hs,List.length_cons] at hzl;rw[zagc p z zs hza] at h;by_cases h0:(tokR (z::zs)).2=0
   ·have e1:((tokR (z::zs)).2 != 0)=false:=by simp[h0]
    rw[e1,cond_false] at h;obtain ⟨w,hw,hsp⟩:=alone z zs hza h0;have hwl:0<w.length:=List.length_pos_iff.2 hw.1;have hrl:(restR (z::zs)).length≤zs.length:=by
     have:=congrArg List.length hsp;simp only[List.length_cons,List.length_append] at this;omega
    have hra:(restR (z::zs)).all Sp.isRune=true:=zacf (ds:=w) (by rw[← hsp]; exact hza)
    -- the token stays,and what is behind it
    have key:tokR (z::zs++10::ys)=tokR (z::zs)∧restR (z::zs++10::ys)=restR (z::zs)++10::ys:=by
     cases hr:restR (z::zs) with
     |nil=>
      rw[hr,List.append_nil] at hsp;rw[hsp];obtain ⟨k1,k2⟩:=zaus hw ys;rw[k1,k2];refine ⟨?_,rfl⟩;rw[← hsp];have h5:=hw.2.2.1;rw[← hsp] at h5;rw[← h5]
     |cons c x=>
      rw[hr] at hsp;have h6:=zau8 w c x (x++10::ys) hw.1 (by rw[← hsp]; exact hr);rw[hsp,List.append_assoc,List.cons_append];exact h6
    cases hT:T (p+(encs (z::zs)).length-(encs (skip false (restR (z::zs)))).length) (skip false (restR (z::zs))) with
    |inl e2=>rw[hT] at h; cases h
    |inr l'=>
     rw[hT] at h;simp only[Sum.inr.injEq] at h;have hja:(z::zs++10::ys).all Sp.isRune=true:=by
      rw[List.all_append,hza];simp only[List.all_cons,hy,Bool.and_true,Bool.true_and];decide
     rw[List.cons_append] at key hja ⊢;rw[zagc p' z (zs++10::ys) hja,key.1,e1,cond_false,key.2];obtain ⟨k,i1,i2⟩:=ih (restR (z::zs)) _ (p'+((encs (z::(zs++10::ys))).length:Int)-(encs (skip false (restR (z::zs)++10::ys))).length) l' (by omega) hra hT;refine ⟨_,by rw[i1],?_⟩;subst h;simp only[List.map_cons,i2];rfl
   ·have e1:((tokR (z::zs)).2 != 0)=true:=by simp[h0]
    rw[e1,cond_true] at h;cases h
theorem zaum {rs:List Int} (ha:rs.all Sp.isRune=true) (h0:(encs rs).length≤4000) {p:Int} {l:List Token} (hT:T p (skip false rs)=.inr l):∃ m,qag (encs rs)=some (m++[⟨5,[],0,((encs rs).length:Int)⟩],⟨0,0,[]⟩)∧m.map core=l.map core∧∀ t∈m,t.kind≠5:=by
 obtain ⟨m,h1,h2⟩:=zarf _ _ p (p0 rs) l (Nat.le_refl _) (zact ha) hT;have h:=zajw rs ha h0;have e:=zatt rs ha;unfold p0 at e h1;rw[e,h1] at h;exact ⟨m,h,h2,fun t ht=>((T_ok _ _ _ _ (Nat.le_refl _) (zact ha) h1).1 t ht).2.2.1⟩
theorem T_len:∀ (n:Nat) (rs:List Int) (p:Int) (l:List Token),rs.length≤n→rs.all Sp.isRune=true→T p rs=.inr l→l.length≤rs.length:=by
 intro n;induction n with
 |zero=>
  intro rs p l hn ha h;have:rs=[]:=List.eq_nil_of_length_eq_zero (by omega);subst this;rw[T_nil,Sum.inr.injEq] at h;subst h;exact Nat.le_refl _
 |succ n ih=>
  intro rs p l hn ha h;cases rs with
  |nil=>
   rw[T_nil,Sum.inr.injEq] at h;subst h;exact Nat.le_refl _
  |cons r rs=>
   simp only[List.length_cons] at hn;rw[zagc p r rs ha] at h;by_cases h0:(tokR (r::rs)).2=0
   ·have e1:((tokR (r::rs)).2 != 0)=false:=by simp[h0]
    rw[e1,cond_false] at h;obtain ⟨q1,q2⟩:=zagk ha h0;cases hT:T (p+(encs (r::rs)).length-(encs (skip false (restR (r::rs)))).length) (skip false (restR (r::rs))) with
    |inl e2=>rw[hT] at h; cases h
    |inr l'=>
     rw[hT] at h;simp only[Sum.inr.injEq] at h;have:=ih _ _ _ (by omega) q1 hT;subst h;simp only[List.length_cons];omega
   ·have e1:((tokR (r::rs)).2 != 0)=true:=by simp[h0]
    rw[e1,cond_true] at h;cases h
theorem zamv {rs:List Int} (ha:rs.all Sp.isRune=true) {p:Int} {l:List Token} (h:T p (skip false rs)=.inr l):l.length≤rs.length:=
 Nat.le_trans (T_len _ _ _ _ (Nat.le_refl _) (zact ha) h) (zaio _ _)
theorem zavh {a b:List UInt8} {l m:List Token} {e e':Token} (ha:qag a=some (l++[e],⟨0,0,[]⟩)) (hb:qag b=some (m++[e'],⟨0,0,[]⟩)) (hlen:a.length+1+b.length≤4000) :
  ∃ k e2,qag (a++[10]++b)=some (k++[e2],⟨0,0,[]⟩)∧e2.kind=5∧e.kind=5∧e'.kind=5∧k.map core=l.map core++m.map core∧(∀ t∈l,t.kind≠5)∧(∀ t∈m,t.kind≠5)∧k.length≤4000:=by
 rcases zag6 a with ⟨f,h1,h2,_⟩|⟨rs,la,rfl,hra,hl,hT,h1⟩
 ·rw[ha] at h1;simp only[Option.some.injEq,Prod.mk.injEq] at h1;rw[← h1.2] at h2;exact absurd rfl h2
 rcases zag6 b with ⟨f,k1,k2,_⟩|⟨ys,lb,rfl,hrb,hl2,hT2,k1⟩
 ·rw[hb] at k1;simp only[Option.some.injEq,Prod.mk.injEq] at k1;rw[← k1.2] at k2;exact absurd rfl k2
 rw[ha] at h1;rw[hb] at k1;simp only[Option.some.injEq,Prod.mk.injEq,and_true] at h1 k1;obtain ⟨g1,g2⟩:=List.append_inj' h1 rfl;obtain ⟨g3,g4⟩:=List.append_inj' k1 rfl;replace h1:=(List.cons.inj g2).1;replace k1:=(List.cons.inj g4).1;subst g1 g3;obtain ⟨k,j1,j2⟩:=zaw2 hrb hT2 rs.length rs (p0 rs) 0 l (Nat.le_refl _) hra hT;have e10:encs (rs++10::ys)=encs rs++[10]++encs ys:=by
  have:encB 10=[10]:=by decide +kernel
  rw[zaak,zaa3,this];simp
 have hall:(rs++10::ys).all Sp.isRune=true:=by
  rw[List.all_append,hra];simp only[List.all_cons,hrb,Bool.and_true,Bool.true_and];decide
 obtain ⟨m',q1,q2,q3⟩:=zaum hall (by rw[e10]; simp only[List.length_append,List.length_cons,List.length_nil]; omega) j1;rw[e10] at q1;have hml:m'.length≤4000:=by
  have:=congrArg List.length (q2.trans j2);simp only[List.length_map,List.length_append] at this;have t1:=zamv hra hT;have t2:=zamv hrb hT2;have:=zabj rs;have:=zabj ys;omega
 exact ⟨m',_,q1,rfl,by rw[h1],by rw[k1],by rw[q2,j2],fun t ht=>((T_ok _ _ _ _ (Nat.le_refl _) (zact hra) hT).1 t ht).2.2.1,fun t ht=>((T_ok _ _ _ _ (Nat.le_refl _) (zact hrb) hT2).1 t ht).2.2.1,hml⟩
end Lift.A4
namespace Lift.A3
open Go Go.RowKit Lift Go.IntWalk Lift.Fn
set_option linter.unusedVariables false
set_option linter.unusedSimpArgs false
theorem wE_1 : WalksE (fun (x : TExpr) (d : Int) (s : Int) => qaY x d s) (fun (n : Nat) (x : TExpr) (d : Int) (s : Int) => qaa_i n x d s) where
 step:=by
  intro n x d s hd1 hd2 hl;show qaa_f (qaa_i n) x d s=_;unfold qaa_f;rw[zaan];congr 1;funext y0
  have hL := zaep (σ := Int) x.args (fun y s => qaa_i n y (d + 1) s) (fun m i s => qaa_i3 (qaa_i n) m d x.args (x.args.length : Int) i s)
   (fun m i s h0 h=>by simp only[qaa_i3,qaa_t3,decide_eq_false h,cond_false])
   (fun m i s y h0 h hy=>by
    simp only[qaa_i3,qaa_t3,decide_eq_true h,decide_eq_true h0,cond_true,hy,Option.bind_some,zaan];rw[i64_in (i+1) (by omega),i64_in (d+1) (by omega)])
   x.args.length fuel 0 y0 (by omega) (by omega) (by unfold fuel; omega)
  try simp only at hL
  rw[qaa_l3,zaaa,hL];simp[zaen]
theorem wEx_1 (x:TExpr) (s:Int) (hx:nE x≤100000000000000000):qaa x 1 s=(evE x 1).foldlM (atEv (fun (x:TStmt) (d:Int) (s:Int)=>qaX x d s) (fun (x:TExpr) (d:Int) (s:Int)=>qaY x d s)) s:=by
 rw[qaa,zaaa];exact zaug (g:=(fun (x:TStmt) (d:Int) (s:Int)=>qaX x d s)) wE_1 (nE x) fuel x 1 s (Nat.le_refl _) (by unfold fuel; omega) (by omega) (by omega)
theorem wS_1 : WalksS (fun (x : TStmt) (d : Int) (s : Int) => qaX x d s) (fun (x : TExpr) (d : Int) (s : Int) => qaa x d s) (fun (n : Nat) (l : List TStmt) (d : Int) (s : Int) => qae_i n l d s) where
 step:=by
  intro n l d s hd1 hd2 hl;show qae_f (qae_i n) l d s=_;unfold qae_f
  have hL := zaep (σ := Int) l (fun x s => (qaX x d s).bind fun s1 => (if zace x.expr then qaa x.expr 1 s1 else some s1).bind fun s2 => (qae_i n x.then_ (d + 1) s2).bind fun s3 => qae_i n x.else_ (d + 1) s3)
   (fun m i s=>qae_i2 (qae_i n) m d l (l.length:Int) i s)
   (fun m i s h0 h=>by simp only[qae_i2,qae_t2,decide_eq_false h,cond_false])
   (fun m i s y h0 h hy=>by
    have e:(bif TExpr.kind (TStmt.expr y) != (0:Int) then some true else some (decide ((↑(List.length (TExpr.args (TStmt.expr y))):Int)>(0:Int))))=some (zace y.expr):=by
     unfold zace;cases (y.expr.kind != 0)
     ·simp
     ·rfl
    simp only[qae_i2,qae_t2,decide_eq_true h,decide_eq_true h0,cond_true,hy,Option.bind_some,zaan,zak7,e];rw[i64_in (i+1) (by omega),i64_in (d+1) (by omega)];cases zace y.expr<;>simp[Option.bind_assoc])
   l.length fuel 0 s (by omega) (by omega) (by unfold fuel; omega)
  try simp only at hL
  rw[qae_l2,zaaa,hL];simp[zaen]
theorem wSt_1 (l:List TStmt) (s:Int) (hl:nSs l≤10000000000000000):qae l 1 s=(evSs l 1).foldlM (atEv (fun (x:TStmt) (d:Int) (s:Int)=>qaX x d s) (fun (x:TExpr) (d:Int) (s:Int)=>qaY x d s)) s:=by
 rw[qae,zaaa];exact zatp (g:=(fun (x:TStmt) (d:Int) (s:Int)=>qaX x d s)) (h:=(fun (x:TExpr) (d:Int) (s:Int)=>qaY x d s)) (fun x s hx=>wEx_1 x s hx) wS_1 (nSs l) fuel l 1 s (Nat.le_refl _) (by unfold fuel; omega) (by omega) (by omega)
theorem wP_1 (p:TProg) (s:Int) (hl:nT p.threads≤10000000000000000):qac p s=(evP p).foldlM (atEv (fun (x:TStmt) (d:Int) (s:Int)=>qaX x d s) (fun (x:TExpr) (d:Int) (s:Int)=>qaY x d s)) s:=by
 rw[qac,zaaa];unfold qac_f;have hn:=zal7 p.threads
 have hL := zaep (σ := Int) p.threads (fun t s => qae t.body 1 s) (fun m i s => qac_i2 m p.threads (p.threads.length : Int) i s)
  (fun m i s h0 h=>by simp only[qac_i2,qac_t2,decide_eq_false h,cond_false])
  (fun m i s y h0 h hy=>by
   simp only[qac_i2,qac_t2,decide_eq_true h,decide_eq_true h0,cond_true,hy,Option.bind_some];rw[i64_in (i+1) (by omega)])
  p.threads.length fuel 0 s (by omega) (by omega) (by unfold fuel; omega)
 try simp only at hL
 rw[qac_l2,zaaa,hL];unfold evP;rw[zad7];have:∀ (l:List TThread) (s:Int),(∀ t∈l,nSs t.body≤10000000000000000)→l.foldlM (fun s t=>qae t.body 1 s) s=l.foldlM (fun s t=>(evSs t.body 1).foldlM (atEv (fun (x:TStmt) (d:Int) (s:Int)=>qaX x d s) (fun (x:TExpr) (d:Int) (s:Int)=>qaY x d s)) s) s:=by
  intro l;induction l with
  |nil=>intro s _; rfl
  |cons t l ih=>
   intro s ht;rw[List.foldlM_cons,List.foldlM_cons,wSt_1 t.body s (ht t (by simp))];congr 1;funext s';exact ih s' (fun z hz=>ht z (by simp[hz]))
 rw[Int.toNat_zero,List.drop_zero,this _ _ (fun t ht=>by have:=zamg ht; omega)];simp[zaen]
theorem wE_2 : WalksE (fun (x : TExpr) (d : Int) (s : Int) => qaV x d s) (fun (n : Nat) (x : TExpr) (d : Int) (s : Int) => qab_i n x d s) where
 step:=by
  intro n x d s hd1 hd2 hl;show qab_f (qab_i n) x d s=_;unfold qab_f;rw[zaan];congr 1;funext y0
  have hL := zaep (σ := Int) x.args (fun y s => qab_i n y (d + 1) s) (fun m i s => qab_i3 (qab_i n) m d x.args (x.args.length : Int) i s)
   (fun m i s h0 h=>by simp only[qab_i3,qab_t3,decide_eq_false h,cond_false])
   (fun m i s y h0 h hy=>by
    simp only[qab_i3,qab_t3,decide_eq_true h,decide_eq_true h0,cond_true,hy,Option.bind_some,zaan];rw[i64_in (i+1) (by omega),i64_in (d+1) (by omega)])
   x.args.length fuel 0 y0 (by omega) (by omega) (by unfold fuel; omega)
  try simp only at hL
  rw[qab_l3,zaaa,hL];simp[zaen]
theorem wEx_2 (x:TExpr) (s:Int) (hx:nE x≤100000000000000000):qab x 1 s=(evE x 1).foldlM (atEv (fun (x:TStmt) (d:Int) (s:Int)=>qaU x d s) (fun (x:TExpr) (d:Int) (s:Int)=>qaV x d s)) s:=by
 rw[qab,zaaa];exact zaug (g:=(fun (x:TStmt) (d:Int) (s:Int)=>qaU x d s)) wE_2 (nE x) fuel x 1 s (Nat.le_refl _) (by unfold fuel; omega) (by omega) (by omega)
theorem wS_2 : WalksS (fun (x : TStmt) (d : Int) (s : Int) => qaU x d s) (fun (x : TExpr) (d : Int) (s : Int) => qab x d s) (fun (n : Nat) (l : List TStmt) (d : Int) (s : Int) => qaf_i n l d s) where
 step:=by
  intro n l d s hd1 hd2 hl;show qaf_f (qaf_i n) l d s=_;unfold qaf_f
  have hL := zaep (σ := Int) l (fun x s => (qaU x d s).bind fun s1 => (if zace x.expr then qab x.expr 1 s1 else some s1).bind fun s2 => (qaf_i n x.then_ (d + 1) s2).bind fun s3 => qaf_i n x.else_ (d + 1) s3)
   (fun m i s=>qaf_i2 (qaf_i n) m d l (l.length:Int) i s)
   (fun m i s h0 h=>by simp only[qaf_i2,qaf_t2,decide_eq_false h,cond_false])
   (fun m i s y h0 h hy=>by
    have e:(bif TExpr.kind (TStmt.expr y) != (0:Int) then some true else some (decide ((↑(List.length (TExpr.args (TStmt.expr y))):Int)>(0:Int))))=some (zace y.expr):=by
     unfold zace;cases (y.expr.kind != 0)
     ·simp
     ·rfl
    simp only[qaf_i2,qaf_t2,decide_eq_true h,decide_eq_true h0,cond_true,hy,Option.bind_some,zaan,zak7,e];rw[i64_in (i+1) (by omega),i64_in (d+1) (by omega)];cases zace y.expr<;>simp[Option.bind_assoc])
   l.length fuel 0 s (by omega) (by omega) (by unfold fuel; omega)
  try simp only at hL
  rw[qaf_l2,zaaa,hL];simp[zaen]
theorem wSt_2 (l:List TStmt) (s:Int) (hl:nSs l≤10000000000000000):qaf l 1 s=(evSs l 1).foldlM (atEv (fun (x:TStmt) (d:Int) (s:Int)=>qaU x d s) (fun (x:TExpr) (d:Int) (s:Int)=>qaV x d s)) s:=by
 rw[qaf,zaaa];exact zatp (g:=(fun (x:TStmt) (d:Int) (s:Int)=>qaU x d s)) (h:=(fun (x:TExpr) (d:Int) (s:Int)=>qaV x d s)) (fun x s hx=>wEx_2 x s hx) wS_2 (nSs l) fuel l 1 s (Nat.le_refl _) (by unfold fuel; omega) (by omega) (by omega)
theorem wP_2 (p:TProg) (s:Int) (hl:nT p.threads≤10000000000000000):qad p s=(evP p).foldlM (atEv (fun (x:TStmt) (d:Int) (s:Int)=>qaU x d s) (fun (x:TExpr) (d:Int) (s:Int)=>qaV x d s)) s:=by
 rw[qad,zaaa];unfold qad_f;have hn:=zal7 p.threads
 have hL := zaep (σ := Int) p.threads (fun t s => qaf t.body 1 s) (fun m i s => qad_i2 m p.threads (p.threads.length : Int) i s)
  (fun m i s h0 h=>by simp only[qad_i2,qad_t2,decide_eq_false h,cond_false])
  (fun m i s y h0 h hy=>by
   simp only[qad_i2,qad_t2,decide_eq_true h,decide_eq_true h0,cond_true,hy,Option.bind_some];rw[i64_in (i+1) (by omega)])
  p.threads.length fuel 0 s (by omega) (by omega) (by unfold fuel; omega)
 try simp only at hL
 rw[qad_l2,zaaa,hL];unfold evP;rw[zad7];have:∀ (l:List TThread) (s:Int),(∀ t∈l,nSs t.body≤10000000000000000)→l.foldlM (fun s t=>qaf t.body 1 s) s=l.foldlM (fun s t=>(evSs t.body 1).foldlM (atEv (fun (x:TStmt) (d:Int) (s:Int)=>qaU x d s) (fun (x:TExpr) (d:Int) (s:Int)=>qaV x d s)) s) s:=by
  intro l;induction l with
  |nil=>intro s _; rfl
  |cons t l ih=>
   intro s ht;rw[List.foldlM_cons,List.foldlM_cons,wSt_2 t.body s (ht t (by simp))];congr 1;funext s';exact ih s' (fun z hz=>ht z (by simp[hz]))
 rw[Int.toNat_zero,List.drop_zero,this _ _ (fun t ht=>by have:=zamg ht; omega)];simp[zaen]
end Lift.A3
namespace Lift.A3
open Go Go.RowKit Lift Go.IntWalk Lift.Fn
set_option linter.unusedVariables false
set_option linter.unusedSimpArgs false
theorem zawx {α σ ρ:Type} (l:List α) (I:List α→σ→Prop) (P:List α→σ→ρ) (L:Nat→Int→σ→Option ρ)
  (h0:∀ n i s,0≤i→¬ i<(l.length:Int)→I [] s→L (n+1) i s=some (P [] s))
  (h1:∀ n i s x r,0≤i→i<(l.length:Int)→l[i.toNat]? = some x→x∈l→I (x::r) s→(∃ s',I r s'∧L (n+1) i s=L n (i+1) s'∧P (x::r) s=P r s')∨L (n+1) i s=some (P (x::r) s)) :
  ∀ (k n:Nat) (i:Int) (s:σ),0≤i→l.length-i.toNat≤k→k<n→I (l.drop i.toNat) s→L n i s=some (P (l.drop i.toNat) s):=by
 intro k;induction k with
 |zero=>
  intro n i s hi hk hn hI;obtain ⟨n,rfl⟩:∃ q,n=q+1:=⟨n-1,by omega⟩;rw[List.drop_eq_nil_of_le (by omega)] at hI ⊢;exact h0 n i s hi (by omega) hI
 |succ k ih=>
  intro n i s hi hk hn hI;obtain ⟨n,rfl⟩:∃ q,n=q+1:=⟨n-1,by omega⟩;by_cases c:i<(l.length:Int)
  ·have hlt:i.toNat<l.length:=by omega
   rw[List.drop_eq_getElem_cons hlt] at hI ⊢;rcases h1 n i s l[i.toNat] _ hi c (List.getElem?_eq_getElem hlt) (List.getElem_mem hlt) hI with ⟨s',i1,e1,e2⟩|e
   ·have e:(i+1).toNat=i.toNat+1:=by omega
    rw[e1,ih n (i+1) s' (by omega) (by omega) (by omega) (by rw[e]; exact i1),e2,e]
   ·exact e
  ·rw[List.drop_eq_nil_of_le (by omega)] at hI ⊢;exact h0 n i s hi c hI
theorem zavr {α σ ρ:Type} (l:List α) (I:List α→σ→Prop) (P:List α→σ→ρ) (L:Nat→Int→σ→Option ρ)
  (h0:∀ n i s,0≤i→¬ i<(l.length:Int)→I [] s→L (n+1) i s=some (P [] s))
  (h1:∀ n i s x r,0≤i→i<(l.length:Int)→l[i.toNat]? = some x→x∈l→I (x::r) s→(∃ s',I r s'∧L (n+1) i s=L n (i+1) s'∧P (x::r) s=P r s')∨L (n+1) i s=some (P (x::r) s))
  (n:Nat) (s:σ) (hn:l.length<n) (hI:I l s):L n 0 s=some (P l s):=by
 have:=zawx l I P L h0 h1 l.length n 0 s (by omega) (by omega) hn;rw[Int.toNat_zero,List.drop_zero] at this;exact this hI
mutual
theorem lenE:∀ (x:TExpr) (d:Int),(evE x d).length=nE x
 |⟨k,n,m,l⟩,d=>by simp[evE,nE,lenEs l (d+1)]; omega
theorem lenEs:∀ (l:List TExpr) (d:Int),(evEs l d).length=nEs l
 |[],d=>by simp[evEs,nEs]
 |x::l,d=>by simp[evEs,nEs,lenE x d,lenEs l d]
end
mutual
def cS:TStmt→Nat
 |⟨_,_,_,x,_,t,o⟩=>1+(if zace x then nE x else 0)+cSs t+cSs o
def cSs:List TStmt→Nat
 |[]=>0
 |x::l=>cS x+cSs l
end
def cT:List TThread→Nat
 |[]=>0
 |t::l=>cSs t.body+cT l
mutual
theorem lenS:∀ (x:TStmt) (d:Int),(evS x d).length=cS x
 |⟨k,r,m,x,c,t,o⟩,d=>by
  have h1:=lenSs t (d+1);have h2:=lenSs o (d+1);have h3:=lenE x 1;simp only[evS,cS,List.length_cons,List.length_append,h1,h2];split<;>simp[h3]<;>omega
theorem lenSs:∀ (l:List TStmt) (d:Int),(evSs l d).length=cSs l
 |[],d=>by simp[evSs,cSs]
 |x::l,d=>by simp[evSs,cSs,lenS x d,lenSs l d]
end
mutual
theorem cS_le:∀ x:TStmt,cS x≤nS x
 |⟨k,r,m,x,c,t,o⟩=>by
  have h1:=zals t;have h2:=zals o;simp only[cS,nS];split<;>omega
theorem zals:∀ l:List TStmt,cSs l≤nSs l
 |[]=>by simp[cSs]
 |x::l=>by have:=cS_le x; have:=zals l; simp only[cSs,nSs]; omega
end
theorem cT_le:∀ l:List TThread,cT l≤nT l
 |[]=>by simp[cT]
 |x::l=>by have:=zals x.body; have:=cT_le l; simp only[cT,nT]; omega
theorem lenP : ∀ (l : List TThread), (l.flatMap fun t => evSs t.body 1).length = cT l
 |[]=>rfl
 |t::l=>by simp only[List.flatMap_cons,List.length_append,lenSs,lenP l,cT]
theorem zal1:∀ (l:List Ev) (s:Int),0≤s→s+l.length≤1000000000000000000 →
  l.foldlM (atEv (fun (x:TStmt) (d:Int) (s:Int)=>qaU x d s) (fun (x:TExpr) (d:Int) (s:Int)=>qaV x d s)) s=some (s+l.length)
 |[],s,_,_=>by simp
 |e::l,s,h0,h=>by
  simp only[List.length_cons] at h;have e1:atEv (fun (x:TStmt) (d:Int) (s:Int)=>qaU x d s) (fun (x:TExpr) (d:Int) (s:Int)=>qaV x d s) s e=some (s+1):=by
   cases e with
   |s x d=>show qaU x d s=_; rw[qaU,zaaa]; unfold qaU_f; rw[i64_in (s+1) (by omega)]
   |e x d=>show qaV x d s=_; rw[qaV,zaaa]; unfold qaV_f; rw[i64_in (s+1) (by omega)]
  rw[List.foldlM_cons,e1];show List.foldlM _ (s+1) l=_;rw[zal1 l (s+1) (by omega) (by omega),List.length_cons];congr 1;omega
theorem zaji (p:TProg) (h:nT p.threads≤10000000000000000):qaT p=some (cT p.threads:Int):=by
 rw[qaT,zaaa];unfold qaT_f;have hc:=cT_le p.threads;have hl:=lenP p.threads;rw[zahq,wP_2 p 0 h,zal1 _ 0 (by omega) (by unfold evP; rw[hl]; omega),Option.bind_some];unfold evP;rw[hl];simp
def evD:Ev→Int
 |.s _ d=>d
 |.e _ d=>d
def maxEv (l:List Ev) (s:Int):Int:=l.foldl (fun s e=>max s (evD e)) s
theorem zarg (a b:Int):(if a>b then a else b)=max b a:=by
 rw[Int.max_def];split<;>split<;>omega
theorem zato (a b:List Ev) (s:Int):maxEv (a++b) s=maxEv b (maxEv a s):=by
 unfold maxEv;rw[List.foldl_append]
theorem zaoj:∀ (a:List Ev) (s:Int),s≤maxEv a s
 |[],s=>Int.le_refl _
 |e::a,s=>by
  have:=zaoj a (max s (evD e));show s≤maxEv a (max s (evD e));omega
theorem zanc:∀ (a:List Ev) (s t:Int),maxEv a (max s t)=max s (maxEv a t)
 |[],s,t=>rfl
 |e::a,s,t=>by
  show maxEv a (max (max s t) (evD e))=max s (maxEv a (max t (evD e)));rw[← zanc a s];congr 1;omega
theorem zav3 (a:List Ev) (s:Int) (h:0≤s):maxEv a s=max s (maxEv a 0):=by
 rw[← zanc a s 0];congr 1;omega
theorem zani : ∀ (l : List Ev) (s : Int), l.foldlM (atEv (fun (x : TStmt) (d : Int) (s : Int) => qaX x d s) (fun (x : TExpr) (d : Int) (s : Int) => qaY x d s)) s = some (maxEv l s)
 |[],s=>rfl
 |e::l,s=>by
  have e1:atEv (fun (x:TStmt) (d:Int) (s:Int)=>qaX x d s) (fun (x:TExpr) (d:Int) (s:Int)=>qaY x d s) s e=some (max s (evD e)):=by
   cases e with
   |s x d=>show qaX x d s=_; rw[qaX,zaaa]; unfold qaX_f; rw[zarg]; rfl
   |e x d=>show qaY x d s=_; rw[qaY,zaaa]; unfold qaY_f; rw[zarg]; rfl
  rw[List.foldlM_cons,e1];exact zani l _
theorem zau5 (p:TProg) (h:nT p.threads≤10000000000000000):qaW p=some (maxEv (evP p) 0):=by
 rw[qaW,zaaa];unfold qaW_f;rw[zahq,wP_1 p 0 h,zani];rfl
end Lift.A3
namespace Lift.A4
open Go Go.RowKit Lift Go.IntWalk Lift.Fn Lift.A1P Lift.A3
set_option linter.unusedVariables false
set_option linter.unusedSimpArgs false
abbrev RR:=Fault×(List TCell)×(List (List UInt8))×(List TThread)
def rr (p:TProg) (f:Fault):RR:=(f,p.cells,p.mutexes,p.threads)
def fin (p:TProg):RR:=
 if maxEv (evP p) 0>16 then rr ⟨[],[],[]⟩ ⟨41,0,[]⟩ else if (cT p.threads:Int)>500 then rr ⟨[],[],[]⟩ ⟨42,0,[]⟩ else rr p ⟨0,0,[]⟩
theorem zat7 {t:List UInt8} {l:List Token} {f:Fault} (h:qag t=some (l,f)) (hf:f.code≠0):qao t=some (rr ⟨[],[],[]⟩ f):=by
 rw[qao,zaaa];unfold qao_f;have e:(f.code != 0)=true:=by simp[hf]
 rw[h,Option.bind_some];dsimp only;rw[e];rfl
theorem zak2 {t:List UInt8} {l:List Token} {p:TProg} {z:List Token} (h:qag t=some (l,⟨0,0,[]⟩)) (hp:qax l=some (okP p z)) (hn:nT p.threads≤10000000000000000) :
  qao t=some (fin p):=by
 rw[qao,zaaa];unfold qao_f;rw[h,Option.bind_some];dsimp only;rw[hp,Option.bind_some];dsimp only[okP];rw[zahq,zau5 p hn,zaji p hn];unfold fin;simp only[bne_self_eq_false,cond_false,Option.bind_some];by_cases h1:maxEv (evP p) 0>16
 ·rw[if_pos h1,decide_eq_true h1]; rfl
 ·rw[if_neg h1,decide_eq_false h1,cond_false];by_cases h2:(cT p.threads:Int)>500
  ·rw[if_pos h2,decide_eq_true h2]; rfl
  ·rw[if_neg h2,decide_eq_false h2]; rfl
theorem zanr {t:List UInt8} {l:List Token} {a:Int} (h:qag t=some (l,⟨0,0,[]⟩)) (hp:qax l=some (.inr ⟨a⟩)) :
  qao t=some (rr ⟨[],[],[]⟩ ⟨40,a,[]⟩):=by
 rw[qao,zaaa];unfold qao_f;rw[h,Option.bind_some];dsimp only;rw[hp,Option.bind_some];rfl
theorem toks_len {t:List UInt8} {l:List Token} {e:Token} {f:Fault} (h:qag t=some (l++[e],f)) (hf:f.code=0):e.kind=5∧(∀ x∈l,x.kind≠5)∧l.length≤4000∧f=⟨0,0,[]⟩:=by
 rcases zag6 t with ⟨f',h1,h2,_⟩|⟨rs,la,rfl,hra,hl,hT,h1⟩
 ·rw[h] at h1;simp only[Option.some.injEq,Prod.mk.injEq] at h1;rw[← h1.2] at h2;exact absurd hf h2
 ·rw[h] at h1;simp only[Option.some.injEq,Prod.mk.injEq] at h1;obtain ⟨g1,g2⟩:=List.append_inj' h1.1 rfl;have g3:=(List.cons.inj g2).1;subst g1;refine ⟨by rw[g3],fun x hx=>((T_ok _ _ _ _ (Nat.le_refl _) (zact hra) hT).1 x hx).2.2.1,?_,h1.2⟩;have:=zamv hra hT;have:=zabj rs;omega
theorem zahk (t:List UInt8):(∃ f,qao t=some (rr ⟨[],[],[]⟩ f)∧f.code≠0) ∨
  (∃ l e p,qag t=some (l++[e],⟨0,0,[]⟩)∧e.kind=5∧(∀ x∈l,x.kind≠5)∧l.length≤4000∧qao t=some (rr p ⟨0,0,[]⟩)∧DP p (l.map core)∧maxEv (evP p) 0≤16∧(cT p.threads:Int)≤500):=by
 rcases zag6 t with ⟨f,h1,h2,_⟩|⟨rs,l,rfl,hra,hl,hT,h1⟩
 ·exact .inl ⟨f,zat7 h1 h2,h2⟩
 obtain ⟨q1,q2,q3,_⟩:=toks_len h1 rfl;generalize (⟨5,[],0,((encs rs).length:Int)⟩:Token)=e at h1 q1;have hlen:(l++[e]).length<1000000:=by rw[List.length_append,List.length_cons,List.length_nil]; omega
 obtain ⟨u,x,r,e1,e2,e3⟩:=zap1 (l++[e]) ⟨l,e,rfl,q1⟩ hlen;rcases e3 with ⟨p,c,h3⟩|h3
 ·have h4:qax (u++x::r)=_:=h3 u x r rfl rfl;rw[← e1] at h4;have hd:=zavd q1 hlen h4 q2;have hs:=hd.size;rw[List.length_map] at hs;have h5:=zak2 h1 h4 (by omega);unfold fin at h5;by_cases k1:maxEv (evP p) 0>16
  ·rw[if_pos k1] at h5;exact .inl ⟨_,h5,by decide⟩
  ·rw[if_neg k1] at h5;by_cases k2:(cT p.threads:Int)>500
   ·rw[if_pos k2] at h5;exact .inl ⟨_,h5,by decide⟩
   ·rw[if_neg k2] at h5;exact .inr ⟨l,e,p,h1,q1,q2,q3,h5,hd,by omega,by omega⟩
 ·have h4:qax (u++x::r)=_:=h3 u x r rfl rfl;rw[← e1] at h4;exact .inl ⟨_,zanr h1 h4,by simp⟩
theorem zavb {t:List UInt8} {l:List Token} {e:Token} (h:qag t=some (l++[e],⟨0,0,[]⟩)) {p:TProg} (hd:DP p (l.map core)):qao t=some (fin p):=by
 obtain ⟨q1,q2,q3,_⟩:=toks_len h rfl;have hlen:(l++[e]).length<1000000:=by rw[List.length_append,List.length_cons,List.length_nil]; omega
 have hs:=hd.size;rw[List.length_map] at hs;exact zak2 h (zava hd rfl q1 hlen) (by omega)
end Lift.A4
namespace Lift.A3
open Go Go.RowKit Lift Go.IntWalk Lift.Fn
set_option linter.unusedVariables false
set_option linter.unusedSimpArgs false
end Lift.A3
namespace Lift.A3
open Go Go.RowKit Lift Go.IntWalk Lift.Fn
set_option linter.unusedVariables false
set_option linter.unusedSimpArgs false
def two {α:Type} (f:α→α→Bool):List α→List α→Bool
 |[],[]=>true
 |x::l,y::r=>f x y&&two f l r
 |_,_=>false
theorem zaq8 {α:Type} (f:α→α→Bool):∀ (l r:List α),l.length≠r.length→two f l r=false
 |[],[],h=>absurd rfl h
 |[],_::_,_=>rfl
 |_::_,[],_=>rfl
 |x::l,y::r,h=>by
  rw[two,zaq8 f l r (by simpa using h),Bool.and_false]
theorem zaq6 {α : Type} (f : α → α → Bool) : ∀ (l r : List α), l.length = r.length → two f l r = (l.zip r).all fun p => f p.1 p.2
 |[],[],h=>rfl
 |x::l,y::r,h=>by
  rw[two,zaq6 f l r (by simpa using h),List.zip_cons_cons,List.all_cons]
theorem zagp {α:Type} (f:α→α→Bool):∀ (l:List α),(∀ x∈l,f x x=true)→two f l l=true
 |[],h=>rfl
 |x::l,h=>by
  rw[two,h x (by simp),zagp f l (fun y hy=>h y (by simp[hy]))];rfl
theorem zage {α τ:Type} (f:α→α→Bool) (l r:List α) (e:τ) (L:Nat→Int→Option (Bool⊕τ)) (hlen:l.length=r.length)
  (h0:∀ n i,0≤i→¬ i<(l.length:Int)→L (n+1) i=some (.inr e))
  (h1:∀ n i x y,0≤i→i<(l.length:Int)→l[i.toNat]? = some x→r[i.toNat]? = some y→x∈l→y∈r→L (n+1) i=bif f x y then L n (i+1) else some (.inl false))
  (n:Nat) (hn:l.length<n):L n 0=some (bif two f l r then .inr e else .inl false):=by
 have hz:(l.zip r).length=l.length:=by rw[List.length_zip]; omega
 have := zavr (σ := Unit) (l.zip r) (fun _ _ => True) (fun q _ => (bif q.all fun p => f p.1 p.2 then .inr e else .inl false : Bool ⊕ τ)) (fun m i _ => L m i)
  (fun m i s h h' _=>h0 m i h (by rw[← hz]; exact h'))
  (fun m i s p q h h' hp hm _=>by
   obtain ⟨x,y⟩:=p;obtain ⟨e1,e2⟩:=List.getElem?_zip_eq_some.1 hp;have:=h1 m i x y h (by rw[← hz]; exact h') e1 e2 (List.mem_of_getElem? e1) (List.mem_of_getElem? e2);cases hf:f x y with
   |true=>
    rw[hf,cond_true] at this;exact Or.inl ⟨(),trivial,this,by rw[List.all_cons,hf,Bool.true_and]⟩
   |false=>
    rw[hf,cond_false] at this;refine Or.inr ?_;rw[List.all_cons,hf,Bool.false_and];exact this)
  n () (by omega) trivial
 rw[zaq6 f l r hlen];exact this
mutual
def sE:TExpr→TExpr→Bool
 |⟨k,n,m,l⟩,⟨k',n',m',l'⟩=>k==k'&&(n==n'&&(m==m'&&sEs l l'))
def sEs:List TExpr→List TExpr→Bool
 |[],[]=>true
 |x::l,y::r=>sE x y&&sEs l r
 |_,_=>false
end
theorem zarb:∀ l r,sEs l r=two sE l r
 |[],[]=>by simp[sEs,two]
 |[],_::_=>by simp[sEs,two]
 |_::_,[]=>by simp[sEs,two]
 |x::l,y::r=>by rw[sEs,two,zarb l r]
theorem sE_eq (x y:TExpr):sE x y=(x.kind==y.kind&&(x.num==y.num&&(x.name==y.name&&two sE x.args y.args))):=by
 cases x; cases y; rw[sE,zarb]
mutual
def sS:TStmt→TStmt→Bool
 |⟨k,r,m,x,c,t,o⟩,⟨k',r',m',x',c',t',o'⟩=>k==k'&&(r==r'&&(m==m'&&(c==c'&&(sE x x'&&(sSs t t'&&sSs o o')))))
def sSs:List TStmt→List TStmt→Bool
 |[],[]=>true
 |x::l,y::r=>sS x y&&sSs l r
 |_,_=>false
end
theorem zam1:∀ l r,sSs l r=two sS l r
 |[],[]=>by simp[sSs,two]
 |[],_::_=>by simp[sSs,two]
 |_::_,[]=>by simp[sSs,two]
 |x::l,y::r=>by rw[sSs,two,zam1 l r]
theorem sS_eq (x y:TStmt):sS x y=(x.kind==y.kind&&(x.reg==y.reg&&(x.name==y.name&&(x.count==y.count&&(sE x.expr y.expr&&(two sS x.then_ y.then_&&two sS x.else_ y.else_)))))):=by
 cases x; cases y; rw[sS,zam1,zam1]
def sT (x y:TThread):Bool:=x.name==y.name&&two sS x.body y.body
def sP (p q:TProg):Bool:=two (fun x y=>decide (x=y)) p.cells q.cells&&(two (fun x y=>x==y) p.mutexes q.mutexes&&two sT p.threads q.threads)
mutual
theorem zari:∀ x,sE x x=true
 |⟨k,n,m,l⟩=>by rw[sE,zapz l]; simp
theorem zapz:∀ l,sEs l l=true
 |[]=>by rw[sEs]
 |x::l=>by rw[sEs,zari x,zapz l]; rfl
end
mutual
theorem zare:∀ x,sS x x=true
 |⟨k,r,m,x,c,t,o⟩=>by rw[sS,zak4 t,zak4 o,zari x]; simp
theorem zak4:∀ l,sSs l l=true
 |[]=>by rw[sSs]
 |x::l=>by rw[sSs,zare x,zak4 l]; rfl
end
theorem zavw (x:TThread):sT x x=true:=by
 rw[sT,zagp sS _ (fun y _=>zare y)];simp
theorem zawj (p:TProg):sP p p=true:=by
 rw[sP,zagp sT _ (fun y _=>zavw y),zagp _ _ (fun y _=>by simp),zagp _ _ (fun y _=>by simp)];rfl
end Lift.A3
namespace Lift.A3
open Go Go.RowKit Lift Go.IntWalk Lift.Fn
set_option linter.unusedVariables false
set_option linter.unusedSimpArgs false
theorem zadf {α:Type} (f:α→α→Bool) (l r:List α) (L:Option (Bool⊕Unit)) (hL:l.length=r.length→L=some (bif two f l r then .inr () else .inl false)) :
  (bif (l.length:Int) != (r.length:Int) then some false else Option.bind L fun y0=>match y0 with|.inl y1=>some y1|.inr y1=>some true)=some (two f l r):=by
 by_cases h:l.length=r.length
 ·have h4':((l.length:Int)==(r.length:Int))=true:=by rw[h]; simp
  simp only[bne,h4',Bool.not_true,cond_false];rw[hL h];cases two f l r<;>rfl
 ·have h4':((l.length:Int)==(r.length:Int))=false:=by
   rw[beq_eq_false_iff_ne]; omega
  simp only[bne,h4',Bool.not_false,cond_true];rw[zaq8 f _ _ h]
theorem zatq:∀ (k n:Nat) (x y:TExpr),nE x≤k→k<n→k≤100000000→qa1_i n x y=some (sE x y):=by
 intro k;induction k with
 |zero=>intro n x y h; have:=nE_eq x; omega
 |succ k ih=>
  intro n x y h hn hb;obtain ⟨n,rfl⟩:∃ q,n=q+1:=⟨n-1,by omega⟩;have hx:=nE_eq x;have hl:=zam5 x.args;have e:qaN (qa1_i n) x.args y.args=some (two sE x.args y.args):=by
   rw[qaN,zaaa];refine zadf sE x.args y.args _ (fun h4=>?_);rw[qaN_l4,zaaa]
   exact zage sE x.args y.args () (fun m i => qaN_i4 (qa1_i n) m y.args x.args x.args.length i) h4
    (fun m i h0 h=>by
     simp only[qaN_i4,qaN_t4,decide_eq_false h,cond_false])
    (fun m i a b h0 h ha hb' ma mb=>by
     have:=zamu ma;simp only[qaN_i4,qaN_t4,decide_eq_true h,decide_eq_true h0,cond_true,ha,hb',Option.bind_some,zaan];rw[ih n a b (by omega) (by omega) (by omega),Option.bind_some,i64_in (i+1) (by omega)];cases sE a b<;>rfl)
    fuel (by unfold fuel; omega)
  show qa1_f (qa1_i n) x y=_;unfold qa1_f;rw[sE_eq,e];cases (x.kind==y.kind) with
  |false=>rfl
  |true=>
  cases (x.num==y.num) with
  |false=>rfl
  |true=>
  cases (x.name==y.name) with
  |false=>rfl
  |true=>rfl
theorem zaof (x y:TExpr) (h:nE x≤100000000):qa1 x y=some (sE x y):=by
 rw[qa1,zaaa,zatq (nE x) fuel x y (Nat.le_refl _) (by unfold fuel; omega) (by omega)]
theorem zat3:∀ (k n:Nat) (l r:List TStmt),nSs l≤k→k<n→k≤100000000→qaO_i n l r=some (two sS l r):=by
 intro k;induction k with
 |zero=>
  intro n l r h hn hb;obtain ⟨n,rfl⟩:∃ q,n=q+1:=⟨n-1,by omega⟩;have hl:=zah9 l;obtain rfl:l=[]:=List.eq_nil_of_length_eq_zero (by omega);refine zadf sS [] r _ (fun h4=>?_);obtain rfl:r=[]:=List.eq_nil_of_length_eq_zero (by simpa using h4.symm);rw[qaO_l4,zaaa];rfl
 |succ k ih=>
  intro n l r h hn hb;obtain ⟨n,rfl⟩:∃ q,n=q+1:=⟨n-1,by omega⟩;have hl:=zah9 l;refine zadf sS l r _ (fun h4=>?_);rw[qaO_l4,zaaa]
  exact zage sS l r () (fun m i => qaO_i4 (qaO_i n) m r l l.length i) h4
    (fun m i h0 h=>by
     simp only[qaO_i4,qaO_t4,decide_eq_false h,cond_false])
    (fun m i a b h0 h ha hb' ma mb=>by
     have h5:=zam0 ma;have h6:=nS_eq a;simp only[qaO_i4,qaO_t4,decide_eq_true h,decide_eq_true h0,cond_true,ha,hb',Option.bind_some,zaan,zak7];have e:qa2 (qaO_i n) a b=some (sS a b):=by
      rw[qa2,zaaa];unfold qa2_f;rw[ih n a.then_ b.then_ (by omega) (by omega) (by omega),ih n a.else_ b.else_ (by omega) (by omega) (by omega),zaan,zaan,zaof a.expr b.expr (by omega),sS_eq];cases (a.kind==b.kind) with
      |false=>rfl
      |true=>
      cases (a.reg==b.reg) with
      |false=>rfl
      |true=>
      cases (a.name==b.name) with
      |false=>rfl
      |true=>
      cases (a.count==b.count) with
      |false=>rfl
      |true=>
      cases sE a.expr b.expr with
      |false=>rfl
      |true=>
      cases two sS a.then_ b.then_ with
      |false=>rfl
      |true=>rfl
     rw[e,Option.bind_some,i64_in (i+1) (by omega)];cases sS a b<;>rfl)
    fuel (by unfold fuel; omega)
theorem zaut (p q:TProg) (h:nT p.threads≤100000000) (h1:p.cells.length≤100000000) (h2:p.mutexes.length≤100000000) :
  qaZ p q=some (sP p q):=by
 rw[qaZ,zaaa];unfold qaZ_f;have hl:=zal7 p.threads;have e1:qaQ p.cells q.cells=some (two (fun x y=>decide (x=y)) p.cells q.cells):=by
  rw[qaQ,zaaa];refine zadf _ p.cells q.cells _ (fun h4=>?_);rw[qaQ_l4,zaaa]
  exact zage (fun x y => decide (x = y)) p.cells q.cells () (fun m i => qaQ_i4 m p.cells q.cells p.cells.length i) h4
    (fun m i h0 h=>by
     simp only[qaQ_i4,qaQ_t4,decide_eq_false h,cond_false])
    (fun m i a b h0 h ha hb' ma mb=>by
     simp only[qaQ_i4,qaQ_t4,decide_eq_true h,decide_eq_true h0,cond_true,ha,hb',Option.bind_some];rw[i64_in (i+1) (by omega)];cases decide (a=b)<;>rfl)
    fuel (by unfold fuel; omega)
 have e2:qaR p.mutexes q.mutexes=some (two (fun x y=>x==y) p.mutexes q.mutexes):=by
  rw[qaR,zaaa];refine zadf _ p.mutexes q.mutexes _ (fun h4=>?_);rw[qaR_l4,zaaa]
  exact zage (fun x y => x == y) p.mutexes q.mutexes () (fun m i => qaR_i4 m p.mutexes q.mutexes p.mutexes.length i) h4
    (fun m i h0 h=>by
     simp only[qaR_i4,qaR_t4,decide_eq_false h,cond_false])
    (fun m i a b h0 h ha hb' ma mb=>by
     simp only[qaR_i4,qaR_t4,decide_eq_true h,decide_eq_true h0,cond_true,ha,hb',Option.bind_some];rw[i64_in (i+1) (by omega)];cases (a==b)<;>rfl)
    fuel (by unfold fuel; omega)
 have e3:qaP p.threads q.threads=some (two sT p.threads q.threads):=by
  rw[qaP,zaaa];refine zadf _ p.threads q.threads _ (fun h4=>?_);rw[qaP_l4,zaaa]
  exact zage sT p.threads q.threads () (fun m i => qaP_i4 m q.threads p.threads p.threads.length i) h4
    (fun m i h0 h=>by
     simp only[qaP_i4,qaP_t4,decide_eq_false h,cond_false])
    (fun m i a b h0 h ha hb' ma mb=>by
     have h5:=zamg ma;simp only[qaP_i4,qaP_t4,decide_eq_true h,decide_eq_true h0,cond_true,ha,hb',Option.bind_some];have e:qa0 (TThread.mk a.name a.body) (TThread.mk b.name b.body)=some (sT a b):=by
      rw[qa0,zaaa];unfold qa0_f;show Option.bind (bif a.name==b.name then Option.bind (qaO a.body b.body) fun y0=>some y0 else some false) (fun y1=>some y1)=_;rw[qaO,zaaa,zat3 (nSs a.body) fuel a.body b.body (Nat.le_refl _) (by unfold fuel; omega) (by omega),sT];cases (a.name==b.name)<;>rfl
     rw[e,Option.bind_some,i64_in (i+1) (by omega)];cases sT a b<;>rfl)
    fuel (by unfold fuel; omega)
 rw[e1,e2,e3,sP];cases two (fun x y=>decide (x=y)) p.cells q.cells with
 |false=>rfl
 |true=>
 cases two (fun x y=>x==y) p.mutexes q.mutexes with
 |false=>rfl
 |true=>rfl
end Lift.A3
namespace Lift.A4
open Go Go.RowKit Lift Go.IntWalk Lift.Fn Lift.A1P Lift.A3
set_option linter.unusedVariables false
set_option linter.unusedSimpArgs false
theorem zakw {P:Prop} [Decidable P] (h:P) {α:Type} (x y:α):cond (decide P) x y=x:=by rw[decide_eq_true h]; rfl
def joinP (p q:TProg):TProg:=⟨p.cells++q.cells,p.mutexes++q.mutexes,p.threads++q.threads⟩
theorem DP.join {p q:TProg} {c d:List Tk} (h:DP p c) (h':DP q d):DP (joinP p q) (c++d):=by
 induction h' with
 |nil=>simpa [joinP] using h
 |cell _ hx ih=>
  have:=DP.cell ih hx;simpa [joinP,List.append_assoc] using this
 |mutex _ hw ha hq ih=>
  have:=DP.mutex ih hw ha hq;simpa [joinP,List.append_assoc] using this
 |thread _ hw ha hb ih=>
  have:=DP.thread ih hw ha hb;simpa [joinP,List.append_assoc] using this
theorem zate:∀ (a b:List TThread),cT (a++b)=cT a+cT b
 |[],b=>by simp[cT]
 |x::a,b=>by simp only[List.cons_append,cT,zate a b]; omega
theorem zaud (p q:TProg):maxEv (evP (joinP p q)) 0=max (maxEv (evP p) 0) (maxEv (evP q) 0):=by
 have:evP (joinP p q)=evP p++evP q:=by
  unfold evP joinP;rw[List.flatMap_append]
 rw[this,zato,zav3 _ _ (zaoj _ _)]
theorem parseJoins (hs:qaF=some true) (a b:List UInt8) (ha:a.length≤4000000000000) (hb:b.length≤4000000000000):qaE a b=some true:=by
 rw[qaE,zaaa];unfold qaE_f;rw[hs,Option.bind_some];rcases zahk a with ⟨f,h1,h2⟩|⟨l,e,p,h1,he,hl,hlen,hp,hd,hdeep,hcnt⟩
 ·
  have e1:(f.code != 0)=true:=by simpa using h2
  rw[h1,Option.bind_some];rcases zahk b with ⟨g,k1,k2⟩|⟨m,e',q,k1,_,_,_,kp,_,_,_⟩
  ·rw[k1,Option.bind_some];simp only[rr,Bool.not_true,cond_false,cond_true,Option.bind_some,e1]
  ·rw[kp,Option.bind_some];simp only[rr,Bool.not_true,cond_false,cond_true,Option.bind_some,e1]
 rcases zahk b with ⟨g,k1,k2⟩|⟨m,e',q,k1,ke,kl,klen,kp,kd,kdeep,kcnt⟩
 ·have e1:(g.code != 0)=true:=by simpa using k2
  rw[hp,Option.bind_some,k1,Option.bind_some];simp only[rr,Bool.not_true,cond_false,cond_true,Option.bind_some,e1,bne_self_eq_false]
 rw[hp,Option.bind_some,kp,Option.bind_some];have w1:IntKind.wrap IntKind.i64 ((↑(List.length a):Int)+(1:Int))=(a.length:Int)+1:=i64_in _ (by omega);have w2:IntKind.wrap IntKind.i64 ((a.length:Int)+1+(↑(List.length b):Int))=(a.length:Int)+1+b.length:=i64_in _ (by omega);simp only[rr,Bool.not_true,cond_false,cond_true,Option.bind_some,bne_self_eq_false,w1,w2];by_cases hlong:(a.length:Int)+1+b.length>4000
 ·simp only[decide_eq_true hlong,cond_true]
 simp only[decide_eq_false hlong,cond_false];have g1:decide (List.length a+(1:Nat)≤(9223372036854775807:Nat))=true:=by simp only[decide_eq_true_eq]; omega
 have g2:decide (List.length (a++[(10:UInt8)])+List.length b≤(9223372036854775807:Nat))=true:=by simp only[decide_eq_true_eq,List.length_append,List.length_cons,List.length_nil]; omega
 simp only[g1,g2,cond_true];obtain ⟨k,e2,j1,j2,_,_,j5,_,_,j8⟩:=zavh h1 k1 (by omega);have hj:=DP.join hd kd;rw[← j5] at hj;have hpj:=zavb j1 hj;have hsz:=hj.size;rw[List.length_map] at hsz;have hs1:=hd.size;have hs2:=kd.size;rw[List.length_map] at hs1 hs2;have hdj:=zaud p q;have hdle:¬ maxEv (evP (joinP p q)) 0>16:=by rw[hdj]; omega
 have hcj:cT (joinP p q).threads=cT p.threads+cT q.threads:=zate _ _;unfold fin at hpj;rw[if_neg hdle] at hpj;have w3:IntKind.wrap IntKind.i64 ((cT p.threads:Int)+(cT q.threads:Int))=(cT (joinP p q).threads:Int):=by rw[i64_in _ (by omega),hcj]; omega
 rw[hpj,Option.bind_some,zahq,zaji p (by omega),Option.bind_some,zahq,zaji q (by omega),Option.bind_some,w3];by_cases hmany:(cT (joinP p q).threads:Int)>500
 ·rw[decide_eq_true hmany,if_pos hmany];rfl
 ·rw[decide_eq_false hmany,if_neg hmany];dsimp only[cond_false,rr];refine (zakw (by omega) _ _).trans ?_;refine (zakw (by omega) _ _).trans ?_;refine (zakw (by omega) _ _).trans ?_;have hsame:qaZ (joinP p q) (joinP p q)=some true:=by
   rw[zaut (joinP p q) (joinP p q) (by omega) (by omega) (by omega),zawj]
  have hsame':qaZ (TProg.mk (p.cells++q.cells) (p.mutexes++q.mutexes) (p.threads++q.threads)) (TProg.mk (joinP p q).cells (joinP p q).mutexes (joinP p q).threads)=some true:=hsame;rw[hsame',Option.bind_some];rfl
end Lift.A4
namespace Lift.A4
open Go Go.RowKit Lift Go.IntWalk Lift.Fn Lift.A1P Lift.A3
set_option linter.unusedVariables false
set_option linter.unusedSimpArgs false
def tx1:List UInt8:=[99,101,108,108,32,120,32,61,32,45,51,59,32,116,104,114,101,97,100,32,116,32,123,32,114,32,60,45,32,97,100,100,32,120,32,45,49,32,42,32,50,59,32,125]
def rx1:List Int:=[99,101,108,108,32,120,32,61,32,45,51,59,32,116,104,114,101,97,100,32,116,32,123,32,114,32,60,45,32,97,100,100,32,120,32,45,49,32,42,32,50,59,32,125]
def tk1:List Token:=[⟨4,[99,101,108,108],0,0⟩,⟨1,[120],0,5⟩,⟨3,[61],0,7⟩,⟨3,[45],0,9⟩,⟨2,[51],3,10⟩,⟨3,[59],0,11⟩,⟨4,[116,104,114,101,97,100],0,13⟩,⟨1,[116],0,20⟩,⟨3,[123],0,22⟩,⟨1,[114],0,24⟩,⟨3,[60,45],0,26⟩,⟨4,[97,100,100],0,29⟩,⟨1,[120],0,33⟩,⟨3,[45],0,35⟩,⟨2,[49],1,36⟩,⟨3,[42],0,38⟩,⟨2,[50],2,40⟩,⟨3,[59],0,41⟩,⟨3,[125],0,43⟩,⟨5,[],0,44⟩]
def tx2:List UInt8:=[116,104,114,101,97,100,32,116,32,123,32,97,115,115,101,114,116,32,97,32,60,32,98,32,60,32,99,59,32,125]
def rx2:List Int:=[116,104,114,101,97,100,32,116,32,123,32,97,115,115,101,114,116,32,97,32,60,32,98,32,60,32,99,59,32,125]
def tk2:List Token:=[⟨4,[116,104,114,101,97,100],0,0⟩,⟨1,[116],0,7⟩,⟨3,[123],0,9⟩,⟨4,[97,115,115,101,114,116],0,11⟩,⟨1,[97],0,18⟩,⟨3,[60],0,20⟩,⟨1,[98],0,22⟩,⟨3,[60],0,24⟩,⟨1,[99],0,26⟩,⟨3,[59],0,27⟩,⟨3,[125],0,29⟩,⟨5,[],0,30⟩]
theorem lex1:qag tx1=some (tk1,⟨0,0,[]⟩):=by
 have h:=zajw rx1 (by decide +kernel) (by decide +kernel);have e:encs rx1=tx1:=by decide +kernel
 rw[e] at h;rw[h];decide +kernel
theorem lex2:qag tx2=some (tk2,⟨0,0,[]⟩):=by
 have h:=zajw rx2 (by decide +kernel) (by decide +kernel);have e:encs rx2=tx2:=by decide +kernel
 rw[e] at h;rw[h];decide +kernel
end Lift.A4
namespace Lift.A4
open Go Go.RowKit Lift Go.IntWalk Lift.Fn Lift.A1P Lift.A3
set_option linter.unusedVariables false
set_option linter.unusedSimpArgs false
def lv:List (List ((List UInt8)×Int)):=[[([124,124],17)],[([38,38],16)],[([61,61],10),([33,61],11),([60],12),([60,61],13),([62],14),([62,61],15)],[([43],5),([45],6)],[([42],7),([47],8),([37],9)]]
theorem zaq5:qap=some lv:=by
 rw[qap,zaaa];rfl
theorem ex1 (r:List Token) (E:Int→List Token→Option RE) (f:Nat) (x:List UInt8) (n a:Int):qaC_i E (f+1) (⟨2,x,n,a⟩::r)=some (.inl (1,n,[],r,[])):=by
 show qaC_f (qaC_i E f) E (⟨2,x,n,a⟩::r)=_;unfold qaC_f;have h:∀ s,hit s ⟨2,x,n,a⟩=false:=fun s=>rfl
 simp only[took1,h,cond_false,Option.bind_some,next1,take1];rfl
theorem ex2 (r:List Token) (E:Int→List Token→Option RE) (f:Nat) (x:List UInt8) (n a:Int):qaC_i E (f+1) (⟨1,x,n,a⟩::r)=some (.inl (2,0,x,r,[])):=by
 show qaC_f (qaC_i E f) E (⟨1,x,n,a⟩::r)=_;unfold qaC_f;have h:∀ s,hit s ⟨1,x,n,a⟩=false:=fun s=>rfl
 simp only[took1,h,cond_false,Option.bind_some,next1,name1];rfl
theorem ex3 (r:List Token) (E:Int→List Token→Option RE) (f:Nat) (m a:Int) (k n:Int) (x:List UInt8) (z:List Token) (l:List TExpr) (h:qaC_i E f r=some (.inl (k,n,x,z,l))):qaC_i E (f+1) (⟨3,[45],m,a⟩::r)=some (.inl (3,0,[],z,[TExpr.mk k n x l])):=by
 show qaC_f (qaC_i E f) E (⟨3,[45],m,a⟩::r)=_;unfold qaC_f;have h1:hit [45] ⟨3,[45],m,a⟩=true:=rfl;simp only[took1,h1,cond_true,Option.bind_some,h]
theorem ex4 (n:Nat) (ts:List Token):qar_i (n+1) 5 ts=qaC_i (qar_i n) fuel ts:=by
 show qar_f (qar_i n) 5 ts=_;unfold qar_f;rw[zaq5,Option.bind_some];have e:((5:Int)==(↑(List.length lv):Int))=true:=rfl;rw[e,cond_true,qaC,zaaa];cases qaC_i (qar_i n) fuel ts with
 |none=>rfl
 |some y=>cases y<;>rfl
theorem ex5 (n:Nat) (lvl:Int) (ts:List Token) (h0:0≤lvl) (h5:lvl<5) (e:TExpr) (z:List Token) (h:qar_i n (lvl+1) ts=some (okE e z))
  (e2:TExpr) (z2:List Token) (h2:qar_i5 (qar_i n) fuel lvl z 0 0 [] e.kind e.num e.name lv e.args=some (ok5 e2 z2)) :
  qar_i (n+1) lvl ts=some (okE e2 z2):=by
 show qar_f (qar_i n) lvl ts=_;unfold qar_f;rw[zaq5,Option.bind_some];have e1:(lvl==(↑(List.length lv):Int))=false:=by
  have:(↑(List.length lv):Int)=5:=rfl;rw[this,beq_eq_false_iff_ne];omega
 rw[e1,cond_false,i64_in (lvl+1) (by omega),h,Option.bind_some];dsimp only[okE];rw[qar_l5,zaaa,h2];rfl
theorem ex6 (E : Int → List Token → Option RE) (f : Nat) (lvl : Int) (t : Token) (r : List Token) (e : TExpr) (h0 : 0 ≤ lvl) (h5 : lvl < 5) (h : (lv.getD lvl.toNat []).find? (fun y => y.1 == t.text) = none) :
  qar_i5 E (f+1) lvl (t::r) 0 0 [] e.kind e.num e.name lv e.args=some (ok5 e (t::r)):=by
 show qar_t5 E (qar_i5 E f) lvl (t::r) 0 0 [] e.kind e.num e.name lv e.args=_;unfold qar_t5;rw[next1,Option.bind_some];dsimp only;cases t.kind==3 with
 |false=>rfl
 |true=>
  have hl:(↑(List.length lv):Int)=5:=rfl;have e1:(decide ((0:Int)≤lvl)&&decide (lvl<(↑(List.length lv):Int)))=true:=by rw[hl]; simp only[Bool.and_eq_true,decide_eq_true_eq]; exact ⟨h0,h5⟩
  have hlt:lvl.toNat<lv.length:=by show lvl.toNat<5; omega
  rw[cond_true,e1,cond_true,List.getElem?_eq_getElem hlt,Option.bind_some,next1,Option.bind_some];rw[List.getD_eq_getElem?_getD,List.getElem?_eq_getElem hlt,Option.getD_some] at h;have e2:mapAt lv[lvl.toNat] t.text=none:=by unfold mapAt; rw[h]; rfl
  dsimp only;rw[e2];rfl
theorem ex7 (E : Int → List Token → Option RE) (f : Nat) (lvl : Int) (t : Token) (r : List Token) (e : TExpr) (h0 : 0 ≤ lvl) (h5 : lvl < 5) (hk : t.kind = 3) (key : List UInt8) (op : Int) (h : (lv.getD lvl.toNat []).find? (fun y => y.1 == t.text) = some (key, op))
  (x:TExpr) (z:List Token) (hE:E (lvl+1) r=some (okE x z)) :
  qar_i5 E (f+1) lvl (t::r) 0 0 [] e.kind e.num e.name lv e.args=bif lvl==2 then some (ok5 ⟨op,0,[],[e,x]⟩ z) else qar_i5 E f lvl z 0 0 [] op 0 [] lv [e,x]:=by
 show qar_t5 E (qar_i5 E f) lvl (t::r) 0 0 [] e.kind e.num e.name lv e.args=_;unfold qar_t5;rw[next1,Option.bind_some];dsimp only;have hl:(↑(List.length lv):Int)=5:=rfl;have e0:(t.kind==3)=true:=by simp[hk]
 have e1:(decide ((0:Int)≤lvl)&&decide (lvl<(↑(List.length lv):Int)))=true:=by rw[hl]; simp only[Bool.and_eq_true,decide_eq_true_eq]; exact ⟨h0,h5⟩
 have hlt:lvl.toNat<lv.length:=by show lvl.toNat<5; omega
 rw[e0,cond_true,e1,cond_true,List.getElem?_eq_getElem hlt,Option.bind_some,next1,Option.bind_some];rw[List.getD_eq_getElem?_getD,List.getElem?_eq_getElem hlt,Option.getD_some] at h;have e2:mapAt lv[lvl.toNat] t.text=some op:=by unfold mapAt; rw[h]; rfl
 dsimp only;rw[e2];simp only[Option.isSome_some,Bool.not_true,cond_false];rw[take1,Option.bind_some];dsimp only;rw[i64_in (lvl+1) (by omega),hE,Option.bind_some];dsimp only[okE];rw[zaan,zaan];rfl
end Lift.A4
namespace Lift.A4
open Go Go.RowKit Lift Go.IntWalk Lift.Fn Lift.A1P Lift.A3
set_option linter.unusedVariables false
set_option linter.unusedSimpArgs false
theorem ex8 (n:Nat) (lvl:Int) (ts:List Token) (h0:0≤lvl) (h5:lvl<5) (e:TExpr) (t:Token) (r:List Token) (h:qar_i n (lvl+1) ts=some (okE e (t::r)))
  (hf:(lv.getD lvl.toNat []).find? (fun y=>y.1==t.text)=none):qar_i (n+1) lvl ts=some (okE e (t::r)):=by
 refine ex5 n lvl ts h0 h5 e (t::r) h e (t::r) ?_;rw[show fuel=1180591620717411303423+1 from rfl];exact ex6 _ _ lvl t r e h0 h5 hf
theorem ex9 (r:List Token) (m:Nat):qar_i (m+6) 0 (⟨3,[45],0,35⟩::⟨2,[49],1,36⟩::⟨3,[42],0,38⟩::⟨2,[50],2,40⟩::⟨3,[59],0,41⟩::r) =
  some (okE ⟨7,0,[],[⟨3,0,[],[⟨1,1,[],[]⟩]⟩,⟨1,2,[],[]⟩]⟩ (⟨3,[59],0,41⟩::r)):=by
 have a4:qar_i (m+2) 4 (⟨3,[45],0,35⟩::⟨2,[49],1,36⟩::⟨3,[42],0,38⟩::⟨2,[50],2,40⟩::⟨3,[59],0,41⟩::r) =
   some (okE ⟨7,0,[],[⟨3,0,[],[⟨1,1,[],[]⟩]⟩,⟨1,2,[],[]⟩]⟩ (⟨3,[59],0,41⟩::r)):=by
  refine ex5 (m+1) 4 _ (by decide) (by decide) ⟨3,0,[],[⟨1,1,[],[]⟩]⟩ (⟨3,[42],0,38⟩::⟨2,[50],2,40⟩::⟨3,[59],0,41⟩::r) ?_ _ _ ?_
  ·show qar_i (m+1) 5 _=_;rw[ex4,show fuel=1180591620717411303422+1+1 from rfl];exact ex3 _ _ _ _ _ _ _ _ _ _ (ex1 _ _ _ _ _ _)
  ·rw[show fuel=1180591620717411303422+1+1 from rfl];rw[ex7 (qar_i (m+1)) _ 4 ⟨3,[42],0,38⟩ _ ⟨3,0,[],[⟨1,1,[],[]⟩]⟩ (by decide) (by decide) rfl [42] 7 (by decide) ⟨1,2,[],[]⟩ (⟨3,[59],0,41⟩::r) ?_]
   ·rw[show ((4:Int)==2)=false from rfl,cond_false];exact ex6 _ _ 4 ⟨3,[59],0,41⟩ r ⟨7,0,[],[⟨3,0,[],[⟨1,1,[],[]⟩]⟩,⟨1,2,[],[]⟩]⟩ (by decide) (by decide) (by decide)
   ·show qar_i (m+1) 5 _=_;rw[ex4,show fuel=1180591620717411303423+1 from rfl];exact ex1 _ _ _ _ _ _
 have a3:=ex8 (m+2) 3 _ (by decide) (by decide) _ _ _ a4 (by decide);have a2:=ex8 (m+3) 2 _ (by decide) (by decide) _ _ _ a3 (by decide);have a1:=ex8 (m+4) 1 _ (by decide) (by decide) _ _ _ a2 (by decide);exact ex8 (m+5) 0 _ (by decide) (by decide) _ _ _ a1 (by decide)
theorem ex10 (r:List Token) (m:Nat):qar_i (m+6) 0 (⟨1,[97],0,18⟩::⟨3,[60],0,20⟩::⟨1,[98],0,22⟩::⟨3,[60],0,24⟩::r) =
  some (okE ⟨12,0,[],[⟨2,0,[97],[]⟩,⟨2,0,[98],[]⟩]⟩ (⟨3,[60],0,24⟩::r)):=by
 have up : ∀ (x : List UInt8) (a : Int) (t : Token) (q : List Token), (lv.getD 4 []).find? (fun y => y.1 == t.text) = none → (lv.getD 3 []).find? (fun y => y.1 == t.text) = none →
   qar_i (m+3) 3 (⟨1,x,0,a⟩::t::q)=some (okE ⟨2,0,x,[]⟩ (t::q)):=by
  intro x a t q h4 h3;have a5:qar_i (m+1) (4+1) (⟨1,x,0,a⟩::t::q)=some (okE ⟨2,0,x,[]⟩ (t::q)):=by
   show qar_i (m+1) 5 _=_;rw[ex4,show fuel=1180591620717411303423+1 from rfl];exact ex2 _ _ _ _ _ _
  have a4:=ex8 (m+1) 4 _ (by decide) (by decide) _ _ _ a5 h4;exact ex8 (m+2) 3 _ (by decide) (by decide) _ _ _ a4 h3
 have a2:qar_i (m+4) 2 (⟨1,[97],0,18⟩::⟨3,[60],0,20⟩::⟨1,[98],0,22⟩::⟨3,[60],0,24⟩::r) =
   some (okE ⟨12,0,[],[⟨2,0,[97],[]⟩,⟨2,0,[98],[]⟩]⟩ (⟨3,[60],0,24⟩::r)):=by
  refine ex5 (m+3) 2 _ (by decide) (by decide) ⟨2,0,[97],[]⟩ (⟨3,[60],0,20⟩::⟨1,[98],0,22⟩::⟨3,[60],0,24⟩::r) (up _ _ _ _ (by decide) (by decide)) _ _ ?_;rw[show fuel=1180591620717411303422+1+1 from rfl];rw[ex7 (qar_i (m+3)) _ 2 ⟨3,[60],0,20⟩ _ ⟨2,0,[97],[]⟩ (by decide) (by decide) rfl [60] 12 (by decide) ⟨2,0,[98],[]⟩ (⟨3,[60],0,24⟩::r) (up _ _ _ _ (by decide) (by decide))];rfl
 have a1:=ex8 (m+4) 1 _ (by decide) (by decide) _ _ _ a2 (by decide);exact ex8 (m+5) 0 _ (by decide) (by decide) _ _ _ a1 (by decide)
end Lift.A4
