/-
  DERIVED. The Lean functions answer as the laws say. Conditions: as each theorem says.
-/
import Derived.Test.YtcmhkcpheehlhaaGreatDoorWalk
import Derived.IntWalk
set_option linter.unusedVariables false
set_option linter.unusedSimpArgs false
set_option linter.unusedSectionVars false
namespace Lift.A1P
open Go Go.RowKit Lift Go.IntWalk
namespace Sp
def isRune (r:Int):Bool:=decide (0≤r∧r≤1114111∧(r<55296∨r>57343))
def letter (r:Int):Bool:=isRune r&&decide ((65≤r∧r≤90)∨r=95∨(97≤r∧r≤122)∨192≤r)
def digit (r:Int):Bool:=decide (48≤r∧r≤57)
def blank (r:Int):Bool:=decide (r=9∨r=10∨r=13∨r=32)
def long (r:Int):Int:=if r<128 then 1 else if r<2048 then 2 else if r<65536 then 3 else 4
def enc (r:Int):List Int:=
 if r<128 then [r] else if r<2048 then [192+r / 64,128+r % 64] else if r<65536 then [224+r / 4096,128+r / 64 % 64,128+r % 64]
 else [240+r / 262144,128+r / 4096 % 64,128+r / 64 % 64,128+r % 64]
def dc (t:List UInt8) (p:Nat):Nat×Nat:=Utf8.decode ⟨t.toArray⟩ p
def bad (t:List UInt8) (p:Nat):Bool:=decide ((dc t p).1=65533)&&!(((t.take (min t.length (p+3))).drop p)==[239,191,189])
def at1 (t:List UInt8) (p:Int):Int:=if bad t p.toNat then 0 else ((dc t p.toNat).1:Int)
def at2 (t:List UInt8) (p:Int):Int:=if bad t p.toNat then 0 else ((dc t p.toNat).2:Int)
def on (s:Spot) (r n:Int):Spot:=if r=10 then ⟨s.rune,s.at_+n,s.line+1,1⟩ else ⟨s.rune,s.at_+n,s.line,s.col+1⟩
def spotsFrom (t:List UInt8):Nat→List Spot→Spot→List Spot×Spot
 |0,acc,s=>(acc,s)
 | n + 1, acc, s => if s.at_ < t.length then (if bad t s.at_.toNat then (acc, s) else
   spotsFrom t n (acc++[⟨at1 t s.at_,s.at_,s.line,s.col⟩]) (on ⟨at1 t s.at_,s.at_,s.line,s.col⟩ (at1 t s.at_) (at2 t s.at_))) else (acc,s)
def ended (s:Spot):Spot:=⟨-1,s.at_,s.line,s.col⟩
def spots1 (t:List UInt8):List Spot:=(spotsFrom t t.length [] ⟨0,0,1,1⟩).1
def spots2 (t:List UInt8):Spot:=ended (spotsFrom t t.length [] ⟨0,0,1,1⟩).2
def runes1 (t:List UInt8):List Spot:=if 4000<t.length then [] else if (spots2 t).at_<t.length then [] else spots1 t
def runes2 (t:List UInt8):Fault:=if 4000<t.length then ⟨10,4000,[]⟩ else if (spots2 t).at_<t.length then ⟨11,(spots2 t).at_,[]⟩ else ⟨0,0,[]⟩
def same (a b:List Spot):Bool:=decide (a=b)
end Sp
namespace Sp
def by_ (l:List UInt8) (k:Nat):Nat:=(l.getD k 0).toNat
def ct (l:List UInt8) (k:Nat):Bool:=decide (k<l.length)&&(by_ l k / 64==2)
def dl (l:List UInt8):Nat×Nat:=
 if by_ l 0<0x80 then (by_ l 0,1)
 else if by_ l 0 / 32 == 6 && ct l 1 then
  if (by_ l 0 % 32)*64+by_ l 1 % 64≥0x80 then ((by_ l 0 % 32)*64+by_ l 1 % 64,2) else (65533,1)
 else if by_ l 0 / 16 == 14 && ct l 1 && ct l 2 then
  if (by_ l 0 % 16)*4096+(by_ l 1 % 64)*64+by_ l 2 % 64≥0x800&&Utf8.valid (((by_ l 0 % 16)*4096+(by_ l 1 % 64)*64+by_ l 2 % 64:Nat):Int) then ((by_ l 0 % 16)*4096+(by_ l 1 % 64)*64+by_ l 2 % 64,3) else (65533,1)
 else if by_ l 0 / 8 == 30 && ct l 1 && ct l 2 && ct l 3 then
  if (by_ l 0 % 8)*262144+(by_ l 1 % 64)*4096+(by_ l 2 % 64)*64+by_ l 3 % 64≥0x10000&&Utf8.valid (((by_ l 0 % 8)*262144+(by_ l 1 % 64)*4096+(by_ l 2 % 64)*64+by_ l 3 % 64:Nat):Int) then ((by_ l 0 % 8)*262144+(by_ l 1 % 64)*4096+(by_ l 2 % 64)*64+by_ l 3 % 64,4) else (65533,1)
 else (65533,1)
def badl (l:List UInt8):Bool:=decide ((dl l).1=65533)&&!(l.take 3==[239,191,189])
theorem zauy (t:List UInt8) (q k:Nat):by_ (t.drop q) k=(t.getD (q+k) 0).toNat:=by
 simp[by_,List.getD_eq_getElem?_getD]
theorem dc_eq (t:List UInt8) (q:Nat):dc t q=dl (t.drop q):=by
 have hb:∀ k,((⟨t.toArray⟩:ByteArray).get! (q+k)).toNat=by_ (t.drop q) k:=by
  intro k;rw[zauy];simp[ByteArray.get!,List.getD_eq_getElem?_getD,getElem!_def];cases t[q+k]?<;>rfl
 have hs:(⟨t.toArray⟩:ByteArray).size=t.length:=by simp[ByteArray.size]
 have hc:∀ k,(decide (q+k<t.length)&&((by_ (t.drop q) k) / 64==2))=ct (t.drop q) k:=by
  intro k;unfold ct;have:(q+k<t.length)↔(k<(t.drop q).length):=by simp; omega
  simp only[this]
 unfold dc Utf8.decode;simp only[hb,hs,hc];unfold dl;rfl
theorem bad_eq (t:List UInt8) (q:Nat):bad t q=badl (t.drop q):=by
 unfold bad badl;rw[dc_eq];congr 2;have:(t.take (min t.length (q+3))).drop q=(t.drop q).take 3:=by
  have h1:t.take (min t.length (q+3))=t.take (q+3):=by
   rcases Nat.le_total t.length (q+3) with h|h
   ·rw[Nat.min_eq_left h,List.take_of_length_le h,List.take_of_length_le (Nat.le_refl _)]
   ·rw[Nat.min_eq_right h]
  rw[h1,List.drop_take];simp
 rw[this]
end Sp
namespace Sp
theorem take3 (l:List UInt8):(l.take 3==[239,191,189])=decide (3≤l.length∧by_ l 0=239∧by_ l 1=191∧by_ l 2=189):=by
 have e:∀ (a b:UInt8),(a==b)=decide (a.toNat=b.toNat):=fun a b=>by
  rw[Bool.eq_iff_iff]; simp[UInt8.toNat_inj]
 match l with
 |[]=>simp[by_]
 |[a]=>simp[by_]
 |[a,b]=>simp[by_]
 |a::b::c::r=>
  have:List.take 3 (a::b::c::r)=[a,b,c]:=rfl;rw[this];rw[Bool.eq_iff_iff];simp[by_,← UInt8.toNat_inj]
end Sp
def ansA (n b0 b1 b2 b3:Nat):Int×Int:=
 let ok (r:Int) (k:Int):Int×Int:=if (0≤r∧r≤1114111∧(r<55296∨r>57343))∧Sp.long r=k then (r,k) else (0,0)
 if 240≤b0 then (if n<4 then (0,0) else if b1<128∨191<b1 then (0,0) else if b2<128∨191<b2 then (0,0) else if b3<128∨191<b3 then (0,0) else ok (64*(64*(64*(b0-240)+b1-128)+b2-128)+b3-128) 4)
 else if 224≤b0 then (if n<3 then (0,0) else if b1<128∨191<b1 then (0,0) else if b2<128∨191<b2 then (0,0) else ok (64*(64*(b0-224)+b1-128)+b2-128) 3)
 else if 192≤b0 then (if n<2 then (0,0) else if b1<128∨191<b1 then (0,0) else ok (64*(b0-192)+b1-128) 2)
 else if 128≤b0 then (0,0) else (b0,1)
theorem zagr (r:Int):Utf8.valid r=true↔(0≤r∧r<55296)∨(57344≤r∧r≤1114111):=by
 unfold Utf8.valid;simp only[Bool.or_eq_true,Bool.and_eq_true,decide_eq_true_eq]
theorem zasw (l:List UInt8) (hl:0<l.length):ansA l.length (Sp.by_ l 0) (Sp.by_ l 1) (Sp.by_ l 2) (Sp.by_ l 3)=if Sp.badl l then (0,0) else (((Sp.dl l).1:Int),((Sp.dl l).2:Int)):=by
 have hb:∀ k,Sp.by_ l k<256:=fun k=>(l.getD k 0).toNat_lt
 have h0:=hb 0;have h1:=hb 1;have h2:=hb 2;have h3:=hb 3;unfold Sp.badl;rw[Sp.take3];obtain ⟨D,hD⟩:∃ D,D=Sp.dl l:=⟨_,rfl⟩;rw[← hD];unfold Sp.dl Sp.ct at hD;generalize Sp.by_ l 0=b0 at *;generalize Sp.by_ l 1=b1 at *;generalize Sp.by_ l 2=b2 at *;generalize Sp.by_ l 3=b3 at *;generalize l.length=n at *;clear hb;have small:∀ r:Int,r<128→Sp.long r=1:=fun r h=>by unfold Sp.long; rw[if_pos h]
 have two:∀ r:Int,128≤r→r<2048→Sp.long r=2:=fun r h h'=>by unfold Sp.long; rw[if_neg (by omega),if_pos h']
 have three:∀ r:Int,2048≤r→r<65536→Sp.long r=3:=fun r h h'=>by unfold Sp.long; rw[if_neg (by omega),if_neg (by omega),if_pos h']
 have four:∀ r:Int,65536≤r→Sp.long r=4:=fun r h=>by unfold Sp.long; rw[if_neg (by omega),if_neg (by omega),if_neg (by omega)]
 simp only[Bool.and_eq_true,decide_eq_true_eq,beq_iff_eq,zagr,ge_iff_le] at hD;simp only[Bool.and_eq_true,decide_eq_true_eq,Bool.not_eq_true',decide_eq_false_iff_not];have good:∀ (r k:Nat),D=(r,k)→¬ (r=65533∧¬ (3≤n∧b0=239∧b1=191∧b2=189))→(if D.1=65533∧¬ (3≤n∧b0=239∧b1=191∧b2=189) then ((0:Int),(0:Int)) else (↑D.1,↑D.2))=((r:Int),(k:Int)):=by
  intro r k h1 h2;rw[h1];exact if_neg h2
 have badd:D=(65533,1)→¬ (3≤n∧b0=239∧b1=191∧b2=189)→(if D.1=65533∧¬ (3≤n∧b0=239∧b1=191∧b2=189) then ((0:Int),(0:Int)) else (↑D.1,↑D.2))=(0,0):=by
  intro h1 h2;rw[h1];exact if_pos ⟨rfl,h2⟩
 unfold ansA;by_cases k0:b0<128
 ·rw[if_neg (by omega),if_neg (by omega),if_neg (by omega),if_neg (by omega)];rw[if_pos k0] at hD;rw[good _ _ hD (by omega)];rfl
 rw[if_neg k0] at hD;by_cases k1:b0<192
 ·rw[if_neg (by omega),if_neg (by omega),if_neg (by omega),if_pos (by omega)];rw[if_neg (by omega),if_neg (by omega),if_neg (by omega)] at hD;rw[badd hD (by omega)]
 by_cases k2:b0<224
 ·rw[if_neg (by omega),if_neg (by omega),if_pos (by omega)];by_cases c1:n<2
  ·rw[if_neg (by omega),if_neg (by omega),if_neg (by omega)] at hD;rw[if_pos c1,badd hD (by omega)]
  rw[if_neg c1];by_cases c2:b1<128∨191<b1
  ·rw[if_neg (by omega),if_neg (by omega),if_neg (by omega)] at hD;rw[if_pos c2,badd hD (by omega)]
  rw[if_neg c2];rw[if_pos (by omega)] at hD;by_cases c3:128≤b0 % 32*64+b1 % 64
  ·rw[if_pos c3] at hD;rw[good _ _ hD (by omega)];have:=two (64*((b0:Int)-192)+b1-128) (by omega) (by omega);show (if _ then _ else _)=_;rw[if_pos ⟨by omega,this⟩];simp only[Prod.mk.injEq];omega
  ·rw[if_neg c3] at hD;rw[badd hD (by omega)];show (if _ then _ else _)=_;rw[if_neg];intro hh;have:=small (64*((b0:Int)-192)+b1-128) (by omega);omega
 by_cases k3:b0<240
 ·rw[if_neg (by omega),if_pos (by omega)];by_cases c1:n<3
  ·rw[if_neg (by omega),if_neg (by omega),if_neg (by omega)] at hD;rw[if_pos c1,badd hD (by omega)]
  rw[if_neg c1];by_cases c2:b1<128∨191<b1
  ·rw[if_neg (by omega),if_neg (by omega),if_neg (by omega)] at hD;rw[if_pos c2,badd hD (by omega)]
  rw[if_neg c2];by_cases c3:b2<128∨191<b2
  ·rw[if_neg (by omega),if_neg (by omega),if_neg (by omega)] at hD;rw[if_pos c3,badd hD (by omega)]
  rw[if_neg c3];rw[if_neg (by omega),if_pos (by omega)] at hD;have hv:(64*(64*((b0:Int)-224)+b1-128)+b2-128)=((b0 % 16*4096+b1 % 64*64+b2 % 64:Nat):Int):=by omega
  show (if _ then _ else _)=_;rw[hv];obtain ⟨N,hN⟩:∃ N,N=b0 % 16*4096+b1 % 64*64+b2 % 64:=⟨_,rfl⟩;rw[← hN] at hD ⊢;by_cases c4:2048≤N∧(0≤(N:Int)∧(N:Int)<55296∨57344≤(N:Int)∧(N:Int)≤1114111)
  ·rw[if_pos c4] at hD;have h5:=three (N:Int) (by omega) (by omega);rw[good N 3 hD (by omega),if_pos (And.intro (by omega) h5)];exact Prod.ext rfl rfl
  ·rw[if_neg c4] at hD;rw[badd hD (by omega),if_neg];intro hh;by_cases c5:N<128
   ·have:=small (N:Int) (by omega); omega
   by_cases c6:N<2048
   ·have:=two (N:Int) (by omega) (by omega); omega
   ·omega
 ·rw[if_pos (by omega)];by_cases c1:n<4
  ·rw[if_neg (by omega),if_neg (by omega),if_neg (by omega)] at hD;rw[if_pos c1,badd hD (by omega)]
  rw[if_neg c1];by_cases c2:b1<128∨191<b1
  ·rw[if_neg (by omega),if_neg (by omega),if_neg (by omega)] at hD;rw[if_pos c2,badd hD (by omega)]
  rw[if_neg c2];by_cases c3:b2<128∨191<b2
  ·rw[if_neg (by omega),if_neg (by omega),if_neg (by omega)] at hD;rw[if_pos c3,badd hD (by omega)]
  rw[if_neg c3];by_cases c3':b3<128∨191<b3
  ·rw[if_neg (by omega),if_neg (by omega),if_neg (by omega)] at hD;rw[if_pos c3',badd hD (by omega)]
  rw[if_neg c3'];rw[if_neg (by omega),if_neg (by omega)] at hD;have hv:(64*(64*(64*((b0:Int)-240)+b1-128)+b2-128)+b3-128)=(((b0-240)*262144+(b1-128)*4096+(b2-128)*64+(b3-128):Nat):Int):=by omega
  show (if _ then _ else _)=_;rw[hv];by_cases k4:b0<248
  ·rw[if_pos (by omega)] at hD;have hm:b0 % 8*262144+b1 % 64*4096+b2 % 64*64+b3 % 64=(b0-240)*262144+(b1-128)*4096+(b2-128)*64+(b3-128):=by omega
   rw[hm] at hD;obtain ⟨N,hN⟩:∃ N,N=(b0-240)*262144+(b1-128)*4096+(b2-128)*64+(b3-128):=⟨_,rfl⟩;rw[← hN] at hD ⊢;by_cases c4:65536≤N∧(0≤(N:Int)∧(N:Int)<55296∨57344≤(N:Int)∧(N:Int)≤1114111)
   ·rw[if_pos c4] at hD;have h5:=four (N:Int) (by omega);rw[good N 4 hD (by omega),if_pos (And.intro (by omega) h5)];exact Prod.ext rfl rfl
   ·rw[if_neg c4] at hD;rw[badd hD (by omega),if_neg];intro hh;by_cases c5:N<128
    ·have:=small (N:Int) (by omega); omega
    by_cases c6:N<2048
    ·have:=two (N:Int) (by omega) (by omega); omega
    by_cases c7:N<65536
    ·have:=three (N:Int) (by omega) (by omega); omega
    ·omega
  ·rw[if_neg (by omega)] at hD;rw[badd hD (by omega),if_neg];intro hh;omega
def zaf9 (t:List UInt8) (s:Spot):Prop:=t.length≤4000∧0≤s.at_∧s.at_≤t.length∧1≤s.line∧s.line≤s.at_+1∧1≤s.col∧s.col≤s.at_+1
noncomputable def zaas (t:List UInt8) (l:List Spot) (s:Spot):List Spot×Spot:=Sp.spotsFrom t (t.length-s.at_.toNat) l s
namespace Sp
theorem dl_pos (l:List UInt8) (h:0<l.length):1≤(dl l).2∧(dl l).2≤4∧(dl l).2≤l.length:=by
 unfold dl ct;simp only[Bool.and_eq_true,decide_eq_true_eq];repeat' split
 all_goals simp only
 all_goals omega
theorem ansA_ok (n b0 b1 b2 b3:Nat) (h:b0<256):ansA n b0 b1 b2 b3=(0,0)∨(isRune (ansA n b0 b1 b2 b3).1=true∧long (ansA n b0 b1 b2 b3).1=(ansA n b0 b1 b2 b3).2):=by
 unfold ansA;simp only;by_cases a1:240≤b0
 ·rw[if_pos a1];repeat' split
  all_goals first|exact .inl rfl|(rename_i hc; exact .inr ⟨by simpa only[isRune,decide_eq_true_eq] using hc.1,hc.2⟩)
 rw[if_neg a1];by_cases a2:224≤b0
 ·rw[if_pos a2];repeat' split
  all_goals first|exact .inl rfl|(rename_i hc; exact .inr ⟨by simpa only[isRune,decide_eq_true_eq] using hc.1,hc.2⟩)
 rw[if_neg a2];by_cases a3:192≤b0
 ·rw[if_pos a3];repeat' split
  all_goals first|exact .inl rfl|(rename_i hc; exact .inr ⟨by simpa only[isRune,decide_eq_true_eq] using hc.1,hc.2⟩)
 rw[if_neg a3];by_cases a4:128≤b0
 ·rw[if_pos a4]; exact .inl rfl
 rw[if_neg a4];exact .inr ⟨by simp only[isRune,decide_eq_true_eq]; omega,by unfold long; rw[if_pos (by omega)]⟩
theorem good_at {t:List UInt8} {p:Int} (hp:0≤p) (h:p<t.length) (hb:bad t p.toNat=false):isRune (at1 t p)=true∧long (at1 t p)=at2 t p∧1≤at2 t p∧at2 t p≤4∧p+at2 t p≤t.length ∧
  at1 t p=(dc t p.toNat).1∧at2 t p=(dc t p.toNat).2:=by
 have hl:0<(t.drop p.toNat).length:=by simp; omega
 obtain ⟨h1,h2,h3⟩:=dl_pos _ hl;have h4:=zasw _ hl;rw[← bad_eq,hb,← dc_eq] at h4;rw[← dc_eq] at h1 h2 h3;have hlen:((t.drop p.toNat).length:Int)=t.length-p:=by simp; omega
 unfold at1 at2;rw[hb];simp only[Bool.false_eq_true,if_false] at h4 ⊢;rcases ansA_ok (t.drop p.toNat).length (by_ (t.drop p.toNat) 0) (by_ (t.drop p.toNat) 1) (by_ (t.drop p.toNat) 2) (by_ (t.drop p.toNat) 3) ((t.drop p.toNat).getD 0 0).toNat_lt with h5|⟨h5,h6⟩
 ·rw[h4] at h5;simp only[Prod.mk.injEq] at h5;omega
 ·rw[h4] at h5 h6;exact ⟨h5,h6,by omega,by omega,by omega,by simp⟩
theorem fuel (t:List UInt8):∀ (n m:Nat) (l:List Spot) (s:Spot),0≤s.at_→t.length-s.at_.toNat≤n→t.length-s.at_.toNat≤m→spotsFrom t n l s=spotsFrom t m l s:=by
 intro n;induction n with
 |zero=>
  intro m l s h0 h1 h2;have hc:¬ s.at_<t.length:=by omega
  cases m with
  |zero=>rfl
  |succ m=>simp only[spotsFrom,if_neg hc]
 |succ n ih=>
  intro m l s h0 h1 h2;by_cases hc:s.at_<t.length
  ·cases m with
   |zero=>omega
   |succ m=>
    simp only[spotsFrom,if_pos hc];cases hb:bad t s.at_.toNat with
    |true=>rfl
    |false=>
     simp only[Bool.false_eq_true,if_false];obtain ⟨g1,g2,g3,g4,g5,_⟩:=good_at h0 hc hb;have ha:∀ x:Spot,(on x (at1 t s.at_) (at2 t s.at_)).at_=x.at_+at2 t s.at_:=fun x=>by unfold on; split<;>rfl
     refine ih m _ _ ?_ ?_ ?_<;>rw[ha]<;>simp only<;>omega
  ·cases m with
   |zero=>simp only[spotsFrom,if_neg hc]
   |succ m=>simp only[spotsFrom,if_neg hc]
end Sp
theorem zak1 {t:List UInt8} {l:List Spot} {s:Spot} (h:¬ s.at_<t.length):zaas t l s=(l,s):=by
 unfold zaas;cases t.length-s.at_.toNat with
 |zero=>rfl
 |succ n=>simp only[Sp.spotsFrom,if_neg h]
theorem zarj {t:List UInt8} {l:List Spot} {s:Spot} (hb:Sp.bad t s.at_.toNat=true):zaas t l s=(l,s):=by
 unfold zaas;cases t.length-s.at_.toNat with
 |zero=>rfl
 |succ n=>simp only[Sp.spotsFrom,hb,if_true]; split<;>rfl
def here (t:List UInt8) (s:Spot):Spot:=⟨Sp.at1 t s.at_,s.at_,s.line,s.col⟩
def after (t:List UInt8) (s:Spot):Spot:=Sp.on (here t s) (Sp.at1 t s.at_) (Sp.at2 t s.at_)
theorem zanz (t:List UInt8) (s:Spot):(after t s).at_=s.at_+Sp.at2 t s.at_:=by
 unfold after Sp.on here;split<;>rfl
theorem zapo {t:List UInt8} {l:List Spot} {s:Spot} (h0:0≤s.at_) (h:s.at_<t.length) (hb:Sp.bad t s.at_.toNat=false):zaas t l s=zaas t (l++[here t s]) (after t s):=by
 unfold zaas;obtain ⟨n,hn⟩:∃ n,t.length-s.at_.toNat=n+1:=⟨t.length-s.at_.toNat-1,by omega⟩;obtain ⟨g1,g2,g3,g4,g5,_⟩:=Sp.good_at h0 h hb;rw[hn];simp only[Sp.spotsFrom,if_pos h,hb,Bool.false_eq_true,if_false];have ha:=zanz t s;exact Sp.fuel t _ _ _ _ (by unfold after here at ha; omega) (by unfold after here at ha; omega) (Nat.le_refl _)
theorem zanw {t:List UInt8} {s:Spot} (h:zaf9 t s) (hlt:s.at_<t.length) (hb:Sp.bad t s.at_.toNat=false):zaf9 t (after t s):=by
 obtain ⟨h1,h2,h3,h4,h5,h6,h7⟩:=h;obtain ⟨g1,g2,g3,g4,g5,_⟩:=Sp.good_at h2 hlt hb;unfold zaf9 after Sp.on here;split<;>simp only<;>omega
theorem zasd (t:List UInt8):∀ (n:Nat) (l:List Spot) (s s':Spot),Sp.ended s=Sp.ended s'→(Sp.spotsFrom t n l s).1=(Sp.spotsFrom t n l s').1∧Sp.ended (Sp.spotsFrom t n l s).2=Sp.ended (Sp.spotsFrom t n l s').2:=by
 intro n l s s' h;obtain ⟨r,a,b,c⟩:=s;obtain ⟨r',a',b',c'⟩:=s';simp only[Sp.ended,Spot.mk.injEq,true_and] at h;obtain ⟨rfl,rfl,rfl⟩:=h;cases n with
 |zero=>exact ⟨rfl,rfl⟩
 |succ n=>
  simp only[Sp.spotsFrom];split
  ·split
   ·exact ⟨rfl,rfl⟩
   ·exact ⟨rfl,rfl⟩
  ·exact ⟨rfl,rfl⟩
theorem zamj (t:List UInt8) (l:List Spot) (r r' a b c:Int):(zaas t l ⟨r,a,b,c⟩).1=(zaas t l ⟨r',a,b,c⟩).1∧(zaas t l ⟨r,a,b,c⟩).2.at_=(zaas t l ⟨r',a,b,c⟩).2.at_ ∧
  (zaas t l ⟨r,a,b,c⟩).2.line=(zaas t l ⟨r',a,b,c⟩).2.line∧(zaas t l ⟨r,a,b,c⟩).2.col=(zaas t l ⟨r',a,b,c⟩).2.col:=by
 have:=zasd t (t.length-a.toNat) l ⟨r,a,b,c⟩ ⟨r',a,b,c⟩ rfl;unfold zaas;obtain ⟨h1,h2⟩:=this;simp only[Sp.ended,Spot.mk.injEq,true_and] at h2;exact ⟨h1,h2.1,h2.2.1,h2.2.2⟩
end Lift.A1P
namespace Lift.A1P
open Go Go.RowKit Lift Go.IntWalk Lift.Fn
theorem zaim {a b:Bool} (h:a=true↔b=true):some a=some b:=by rw[Bool.eq_iff_iff.2 h]
theorem zart (r:Int):qaH r=some (Sp.digit r):=by
 rw[qaH,zaaa];unfold qaH_f;simp only[cond_eq_ite];split;all_goals refine zaim ?_
 all_goals simp only[Sp.digit,decide_eq_true_eq,decide_eq_false_iff_not,Bool.false_eq_true,false_iff,Bool.not_eq_true] at *
 all_goals omega
theorem zavi (r:Int):qaG r=some (Sp.blank r):=by
 rw[qaG,zaaa];unfold qaG_f;simp only[cond_eq_ite];repeat' split
 all_goals refine zaim ?_
 all_goals simp only[Sp.blank,beq_iff_eq,decide_eq_true_eq,decide_eq_false_iff_not,Bool.false_eq_true,false_iff,true_iff,Bool.not_eq_true] at *
 all_goals omega
theorem zau7 (r:Int):qa4 r=some (Sp.isRune r):=by
 rw[qa4,zaaa];unfold qa4_f;simp only[cond_eq_ite];repeat' split
 all_goals refine zaim ?_
 all_goals simp only[Sp.isRune,beq_iff_eq,decide_eq_true_eq,decide_eq_false_iff_not,Bool.false_eq_true,false_iff,true_iff,Bool.not_eq_true] at *
 all_goals omega
theorem zava (r:Int):qaL r=some (Sp.isRune r):=by
 rw[qaL,zaaa];unfold qaL_f;simp only[cond_eq_ite];repeat' split
 ·simp only[decide_eq_true_eq] at *;rw[zau7,i32_in r (by omega)];rfl
 all_goals refine zaim ?_
 all_goals simp only[Sp.isRune,beq_iff_eq,decide_eq_true_eq,decide_eq_false_iff_not,Bool.false_eq_true,false_iff,true_iff,Bool.not_eq_true] at *
 all_goals omega
theorem zaum (r:Int):qaI r=some (Sp.letter r):=by
 rw[qaI,zaaa];unfold qaI_f;simp only[cond_eq_ite,zava,Option.bind_some];repeat' split
 all_goals refine zaim ?_
 all_goals simp only[Sp.letter,Sp.isRune,beq_iff_eq,Bool.and_eq_true,decide_eq_true_eq,decide_eq_false_iff_not,Bool.false_eq_true,false_iff,true_iff,Bool.not_eq_true] at *
 all_goals omega
theorem len1 (r:Int) (h:Sp.isRune r=true):qa3 r=some (Sp.long r):=by
 simp only[Sp.isRune,decide_eq_true_eq] at h;rw[qa3,zaaa];unfold qa3_f Sp.long;simp only[cond_eq_ite,decide_eq_true_eq];repeat' split
 all_goals first|rfl|omega
theorem zamx {t:List UInt8} {s:Spot} (h:zaf9 t s):0≤s.at_∧s.at_≤t.length∧t.length≤4000∧1≤s.line∧s.line≤s.at_+1∧1≤s.col∧s.col≤s.at_+1:=
 ⟨h.2.1,h.2.2.1,h.1,h.2.2.2.1,h.2.2.2.2.1,h.2.2.2.2.2.1,h.2.2.2.2.2.2⟩
theorem goneL (s:List UInt8) (a1 a2 a3 a4:Int):∀ (k n:Nat) (c2 c3 c4:Int) (pos:Nat) (l:List Spot),s.length-c2.toNat≤k→k<n→zaf9 s ⟨-1,c2,c3,c4⟩→(l.length:Int)≤c2→(pos:Int)=c2 →
  qaK_i4 n s a1 a2 a3 a4 (-1) c2 c3 c4 s pos l=some (if (zaas s l ⟨-1,c2,c3,c4⟩).2.at_<s.length then
   .inl (-1,(zaas s l ⟨-1,c2,c3,c4⟩).2.at_,(zaas s l ⟨-1,c2,c3,c4⟩).2.line,(zaas s l ⟨-1,c2,c3,c4⟩).2.col,(zaas s l ⟨-1,c2,c3,c4⟩).1)
   else .inr (a1,a2,a3,a4,-1,(zaas s l ⟨-1,c2,c3,c4⟩).2.at_,(zaas s l ⟨-1,c2,c3,c4⟩).2.line,(zaas s l ⟨-1,c2,c3,c4⟩).2.col,(zaas s l ⟨-1,c2,c3,c4⟩).1)):=by
 intro k;induction k with
 |zero=>
  intro n c2 c3 c4 pos l hk hn hok hl hp;obtain ⟨n,rfl⟩:∃ q,n=q+1:=⟨n-1,by omega⟩;have:=zamx hok;simp only at this;have c:¬ c2<s.length:=by omega
  have c':¬ pos<s.length:=by omega
  rw[zak1 (s:=⟨-1,c2,c3,c4⟩) c,if_neg c];simp only[qaK_i4,qaK_t4,c',decide_false,cond_false]
 |succ k ih=>
  intro n c2 c3 c4 pos l hk hn hok hl hp;obtain ⟨n,rfl⟩:∃ q,n=q+1:=⟨n-1,by omega⟩;obtain ⟨h2,h3,h1,h4,h5,h6,h7⟩:=zamx hok;simp only at h2 h3 h4 h5 h6 h7;have hq:pos=c2.toNat:=by omega
  simp only[qaK_i4,qaK_t4];by_cases c:c2<s.length
  ·have hlt:pos<s.length:=by omega
   have hdc:Utf8.decode ⟨s.toArray⟩ pos=Sp.dc s c2.toNat:=by rw[hq]; rfl
   rw[hdc];rw[i64_in ((pos:Int)+3) (by omega)];have hmin:(if (pos:Int)+3<(s.length:Int) then (pos:Int)+3 else (s.length:Int))=(min s.length (c2.toNat+3):Nat):=by
    split<;>omega
   rw[hmin];have hslice:List.drop (Int.toNat (pos:Int)) (List.take (Int.toNat ((min s.length (c2.toNat+3):Nat):Int)) s)=(s.take (min s.length (c2.toNat+3))).drop c2.toNat:=by
    rw[Int.toNat_natCast,Int.toNat_natCast,hq]
   rw[hslice];have hbnd:(decide ((0:Int)≤(pos:Int))&&(decide ((pos:Int)≤(min s.length (c2.toNat+3):Nat))&&decide (((min s.length (c2.toNat+3):Nat):Int)≤(s.length:Int))))=true:=by
    simp only[Bool.and_eq_true,decide_eq_true_eq]; omega
   rw[hbnd];have hbad:Sp.bad s c2.toNat=(decide ((Sp.dc s c2.toNat).1=65533)&&!(((s.take (min s.length (c2.toNat+3))).drop c2.toNat)==[239,191,189])):=rfl;simp only[hlt,decide_true,cond_true];cases hb:Sp.bad s c2.toNat with
   |true=>
    rw[hb] at hbad;have hbad:=hbad.symm;simp only[Bool.and_eq_true,decide_eq_true_eq] at hbad;have e1:(((Sp.dc s c2.toNat).1:Int)==65533)=true:=by rw[beq_iff_eq]; omega
    rw[e1,hbad.2];simp only[cond_true];rw[zarj (s:=⟨-1,c2,c3,c4⟩) hb,if_pos c]
   |false=>
    obtain ⟨g1,g2,g3,g4,g5,g6,g7⟩:=Sp.good_at h2 c hb;rw[zapo (s:=⟨-1,c2,c3,c4⟩) h2 c hb];generalize hR:(some (ite ((zaas s (l++[here s ⟨-1,c2,c3,c4⟩]) (after s ⟨-1,c2,c3,c4⟩)).2.at_<(s.length:Int)) _ _):Option _)=R;have hk':=zanw hok c hb;have haf:=zanz s ⟨-1,c2,c3,c4⟩;simp only at haf;have hrune:Sp.isRune ((Sp.dc s c2.toNat).1:Int)=true:=by rw[← g6]; exact g1
    have hlong:Sp.long ((Sp.dc s c2.toNat).1:Int)=Sp.at2 s c2:=by rw[← g6]; exact g2
    have hr:(0:Int)≤(Sp.dc s c2.toNat).1∧((Sp.dc s c2.toNat).1:Int)≤1114111:=by
     simp only[Sp.isRune,decide_eq_true_eq] at hrune; omega
    rw[len1 _ hrune,hlong,Option.bind_some];rw[i64_in ((Sp.dc s c2.toNat).1:Int) (by omega),i64_in (c2+Sp.at2 s c2) (by omega),i64_in (c3+1) (by omega),i64_in (c4+1) (by omega)];have hhere:here s ⟨-1,c2,c3,c4⟩=⟨((Sp.dc s c2.toNat).1:Int),c2,c3,c4⟩:=by unfold here; rw[g6]
    have go:∀ (b3 b4:Int),(after s ⟨-1,c2,c3,c4⟩).line=b3→(after s ⟨-1,c2,c3,c4⟩).col=b4 →
      qaK_i4 n s a1 a2 a3 a4 (-1) (c2+Sp.at2 s c2) b3 b4 s (pos+(Sp.dc s c2.toNat).2) (l++[⟨((Sp.dc s c2.toNat).1:Int),c2,c3,c4⟩]) =
       R:=by
     intro b3 b4 e3 e4;rw[← hR];have hk2:zaf9 s ⟨-1,c2+Sp.at2 s c2,b3,b4⟩:=by
      obtain ⟨q1,q2,q3,q4,q5,q6,q7⟩:=hk';rw[haf] at q2 q3 q5 q7;rw[e3] at q4 q5;rw[e4] at q6 q7;exact ⟨q1,q2,q3,q4,q5,q6,q7⟩
     have heta:after s ⟨-1,c2,c3,c4⟩=⟨(after s ⟨-1,c2,c3,c4⟩).rune,c2+Sp.at2 s c2,b3,b4⟩:=by
      rw[← haf,← e3,← e4]
     rw[ih n _ _ _ _ _ (by omega) (by omega) hk2 (by simp only[List.length_append,List.length_cons,List.length_nil]; omega) (by omega)];rw[hhere,heta];obtain ⟨y1,y2,y3,y4⟩:=zamj s (l++[⟨((Sp.dc s c2.toNat).1:Int),c2,c3,c4⟩]) (-1) (after s ⟨-1,c2,c3,c4⟩).rune (c2+Sp.at2 s c2) b3 b4;rw[y1,y2,y3,y4]
    have main:(bif decide ((List.length l+List.length [Spot.mk ((Sp.dc s c2.toNat).1:Int) c2 c3 c4])*(32:Nat)≤(140737488355328:Nat)∧List.length l+List.length [Spot.mk ((Sp.dc s c2.toNat).1:Int) c2 c3 c4]≤(9223372036854775807:Nat)) then
       bif ((Sp.dc s c2.toNat).1:Int)==(10:Int) then
        qaK_i4 n s a1 a2 a3 a4 (-1) (c2+Sp.at2 s c2) (c3+1) 1 s (pos+(Sp.dc s c2.toNat).2) (l++[⟨((Sp.dc s c2.toNat).1:Int),c2,c3,c4⟩])
       else
        qaK_i4 n s a1 a2 a3 a4 (-1) (c2+Sp.at2 s c2) c3 (c4+1) s (pos+(Sp.dc s c2.toNat).2) (l++[⟨((Sp.dc s c2.toNat).1:Int),c2,c3,c4⟩])
      else none)=R:=by
     have hlen1:((List.length l+List.length [Spot.mk ((Sp.dc s c2.toNat).1:Int) c2 c3 c4])*(32:Nat)≤(140737488355328:Nat)∧List.length l+List.length [Spot.mk ((Sp.dc s c2.toNat).1:Int) c2 c3 c4]≤(9223372036854775807:Nat)):=by
      simp only[List.length_cons,List.length_nil]; omega
     rw[decide_eq_true hlen1,cond_true];cases e10:(((Sp.dc s c2.toNat).1:Int)==10) with
     |true=>
      have:Sp.at1 s c2=10:=by rw[g6]; exact beq_iff_eq.1 e10
      exact go _ _ (by simp[after,here,Sp.on,this]) (by simp[after,here,Sp.on,this])
     |false=>
      have:¬ Sp.at1 s c2=10:=by rw[g6]; exact beq_eq_false_iff_ne.1 e10
      exact go _ _ (by simp[after,here,Sp.on,this]) (by simp[after,here,Sp.on,this])
    cases e1:(((Sp.dc s c2.toNat).1:Int)==65533) with
    |true=>
     rw[hb] at hbad;have e2:decide ((Sp.dc s c2.toNat).1=65533)=true:=by
      have:=beq_iff_eq.1 e1;rw[decide_eq_true_eq]; omega
     rw[e2,Bool.true_and] at hbad;rw[← hbad];simp only[cond_true,cond_false];exact main
    |false=>
     simp only[cond_false];exact main
  ·have hlt:¬ pos<s.length:=by omega
   simp only[hlt,decide_false,cond_false];rw[zak1 (s:=⟨-1,c2,c3,c4⟩) c,if_neg c]
theorem gone1 (t:List UInt8) (h:t.length≤4000):qaK t=some (Sp.spots2 t,Sp.spots1 t):=by
 have g:zaas t [] ⟨0,0,1,1⟩=Sp.spotsFrom t t.length [] ⟨0,0,1,1⟩:=rfl;obtain ⟨y1,y2,y3,y4⟩:=zamj t [] (-1) 0 0 1 1;rw[g] at y1 y2 y3 y4;have e2:(⟨-1,(zaas t [] ⟨-1,0,1,1⟩).2.at_,(zaas t [] ⟨-1,0,1,1⟩).2.line,(zaas t [] ⟨-1,0,1,1⟩).2.col⟩:Spot)=Sp.spots2 t:=by
  rw[y2,y3,y4]; rfl
 have e1:(zaas t [] ⟨-1,0,1,1⟩).1=Sp.spots1 t:=y1;rw[qaK,zaaa];unfold qaK_f;rw[qaK_l4,zaaa,goneL t _ _ _ _ t.length fuel 0 1 1 0 [] (by simp) (by unfold fuel; omega) (by unfold zaf9; simp only; omega) (by simp) (by simp),Option.bind_some];split
 ·rename_i y heq;split at heq
  ·cases heq;simp only[e1,e2]
  ·cases heq
 ·rename_i y heq;split at heq
  ·cases heq
  ·cases heq;simp only[e1,e2]
theorem zaqn (t:List UInt8):qaJ t=some (Sp.runes2 t,Sp.runes1 t):=by
 rw[qaJ,zaaa];unfold qaJ_f Sp.runes1 Sp.runes2;simp only[cond_eq_ite,decide_eq_true_eq];by_cases h:4000<t.length
 ·rw[if_pos (show (t.length:Int)>4000 by omega),if_pos h,if_pos h]
 ·rw[if_neg (show ¬ (t.length:Int)>4000 by omega),if_neg h,if_neg h,gone1 t (by omega),Option.bind_some];by_cases h2:(Sp.spots2 t).at_<t.length
  ·rw[if_pos h2,if_pos h2,if_pos h2]
  ·rw[if_neg h2,if_neg h2,if_neg h2]
end Lift.A1P
namespace Lift.A1P
open Go Go.RowKit Lift Go.IntWalk Lift.Fn
theorem zase (l:List Int):(bytesOf l).length=l.length:=by simp[bytesOf]
def encB (r:Int):List UInt8:=bytesOf (Sp.enc r)
def encs (rs:List Int):List UInt8:=rs.flatMap encB
theorem zaao (r:Int) (rs:List Int):encs (r::rs)=encB r++encs rs:=rfl
theorem zaag (a b:List Int):encs (a++b)=encs a++encs b:=by simp[encs]
theorem zabp (n:Nat) (h:n<256):(UInt8.ofNat n).toNat=n:=by
 simp[UInt8.toNat_ofNat'];omega
theorem zacm (r:Int):(encB r).length=(Sp.long r).toNat:=by
 unfold encB Sp.enc Sp.long;rw[zase];repeat' split
 all_goals rfl
theorem by0 (a:UInt8) (l:List UInt8):Sp.by_ (a::l) 0=a.toNat:=rfl
theorem by1 (a b:UInt8) (l:List UInt8):Sp.by_ (a::b::l) 1=b.toNat:=rfl
theorem by2 (a b c:UInt8) (l:List UInt8):Sp.by_ (a::b::c::l) 2=c.toNat:=rfl
theorem by3 (a b c d:UInt8) (l:List UInt8):Sp.by_ (a::b::c::d::l) 3=d.toNat:=rfl
theorem zajf {l:List UInt8} {r k:Nat} (h:Sp.dl l=(r,k)) (h2:r≠65533∨(3≤l.length∧Sp.by_ l 0=239∧Sp.by_ l 1=191∧Sp.by_ l 2=189)):Sp.badl l=false:=by
 unfold Sp.badl;rw[h,Sp.take3];rcases h2 with h2|h2
 ·simp[h2]
 ·simp[h2]
theorem zakt (r:Int) (rest:List UInt8) (h:Sp.isRune r=true):Sp.dl (encB r++rest)=(r.toNat,(Sp.long r).toNat)∧Sp.badl (encB r++rest)=false:=by
 simp only[Sp.isRune,decide_eq_true_eq] at h;by_cases a1:r<128
 ·have e:encB r++rest=UInt8.ofNat r.toNat::rest:=by simp[encB,bytesOf,Sp.enc,a1]
  have hl:(Sp.long r).toNat=1:=by unfold Sp.long; rw[if_pos a1]; rfl
  rw[e,hl];have hd:Sp.dl (UInt8.ofNat r.toNat::rest)=(r.toNat,1):=by
   unfold Sp.dl;rw[by0,zabp _ (by omega),if_pos (by omega)]
  exact ⟨hd,zajf hd (.inl (by omega))⟩
 by_cases a2:r<2048
 ·have e:encB r++rest=UInt8.ofNat (192+r.toNat / 64)::UInt8.ofNat (128+r.toNat % 64)::rest:=by
   unfold encB Sp.enc bytesOf;rw[if_neg a1,if_pos a2];simp only[List.map_cons,List.map_nil,List.cons_append,List.nil_append];rw[show (192+r / 64).toNat=192+r.toNat / 64 by omega,show (128+r % 64).toNat=128+r.toNat % 64 by omega]
  have hl:(Sp.long r).toNat=2:=by unfold Sp.long; rw[if_neg a1,if_pos a2]; rfl
  rw[e,hl];have hd:Sp.dl (UInt8.ofNat (192+r.toNat / 64)::UInt8.ofNat (128+r.toNat % 64)::rest)=(r.toNat,2):=by
   unfold Sp.dl Sp.ct;rw[by0,by1,zabp _ (by omega),zabp _ (by omega)];simp only[List.length_cons,Bool.and_eq_true,decide_eq_true_eq,beq_iff_eq];rw[if_neg (by omega),if_pos (by omega),if_pos (by omega)];rw[show (192+r.toNat / 64) % 32*64+(128+r.toNat % 64) % 64=r.toNat by omega]
  exact ⟨hd,zajf hd (.inl (by omega))⟩
 by_cases a3:r<65536
 ·have e:encB r++rest=UInt8.ofNat (224+r.toNat / 4096)::UInt8.ofNat (128+r.toNat / 64 % 64)::UInt8.ofNat (128+r.toNat % 64)::rest:=by
   unfold encB Sp.enc bytesOf;rw[if_neg a1,if_neg a2,if_pos a3];simp only[List.map_cons,List.map_nil,List.cons_append,List.nil_append];rw[show (224+r / 4096).toNat=224+r.toNat / 4096 by omega,show (128+r / 64 % 64).toNat=128+r.toNat / 64 % 64 by omega,show (128+r % 64).toNat=128+r.toNat % 64 by omega]
  have hl:(Sp.long r).toNat=3:=by unfold Sp.long; rw[if_neg a1,if_neg a2,if_pos a3]; rfl
  rw[e,hl];have hd:Sp.dl (UInt8.ofNat (224+r.toNat / 4096)::UInt8.ofNat (128+r.toNat / 64 % 64)::UInt8.ofNat (128+r.toNat % 64)::rest)=(r.toNat,3):=by
   unfold Sp.dl Sp.ct;rw[by0,by1,by2,zabp _ (by omega),zabp _ (by omega),zabp _ (by omega)];simp only[List.length_cons,Bool.and_eq_true,decide_eq_true_eq,beq_iff_eq,zagr,ge_iff_le];have hv:(224+r.toNat / 4096) % 16*4096+(128+r.toNat / 64 % 64) % 64*64+(128+r.toNat % 64) % 64=r.toNat:=by omega
   rw[hv,if_neg (by omega),if_neg (by omega),if_pos (by omega),if_pos (by omega)]
  refine ⟨hd,zajf hd ?_⟩;simp only[List.length_cons,by0,by1,by2];rw[zabp _ (by omega),zabp _ (by omega),zabp _ (by omega)];omega
 ·have e:encB r++rest=UInt8.ofNat (240+r.toNat / 262144)::UInt8.ofNat (128+r.toNat / 4096 % 64)::UInt8.ofNat (128+r.toNat / 64 % 64)::UInt8.ofNat (128+r.toNat % 64)::rest:=by
   unfold encB Sp.enc bytesOf;rw[if_neg a1,if_neg a2,if_neg a3];simp only[List.map_cons,List.map_nil,List.cons_append,List.nil_append];rw[show (240+r / 262144).toNat=240+r.toNat / 262144 by omega,show (128+r / 4096 % 64).toNat=128+r.toNat / 4096 % 64 by omega,show (128+r / 64 % 64).toNat=128+r.toNat / 64 % 64 by omega,show (128+r % 64).toNat=128+r.toNat % 64 by omega]
  have hl:(Sp.long r).toNat=4:=by unfold Sp.long; rw[if_neg a1,if_neg a2,if_neg a3]; rfl
  rw[e,hl];have hd:Sp.dl (UInt8.ofNat (240+r.toNat / 262144)::UInt8.ofNat (128+r.toNat / 4096 % 64)::UInt8.ofNat (128+r.toNat / 64 % 64)::UInt8.ofNat (128+r.toNat % 64)::rest)=(r.toNat,4):=by
   unfold Sp.dl Sp.ct;rw[by0,by1,by2,by3,zabp _ (by omega),zabp _ (by omega),zabp _ (by omega),zabp _ (by omega)];simp only[List.length_cons,Bool.and_eq_true,decide_eq_true_eq,beq_iff_eq,zagr,ge_iff_le];have hv:(240+r.toNat / 262144) % 8*262144+(128+r.toNat / 4096 % 64) % 64*4096+(128+r.toNat / 64 % 64) % 64*64+(128+r.toNat % 64) % 64=r.toNat:=by omega
   rw[hv,if_neg (by omega),if_neg (by omega),if_neg (by omega),if_pos (by omega),if_pos (by omega)]
  exact ⟨hd,zajf hd (.inl (by omega))⟩
theorem zaci {n:Int} {a:UInt8} (h:n.toNat=a.toNat):UInt8.ofNat n.toNat=a:=by
 rw[h]; simp
theorem zavo {l:List UInt8} (h:1<l.length):∃ a b r,l=a::b::r:=by
 match l,h with
 |a::b::r,_=>exact ⟨a,b,r,rfl⟩
theorem zatm {l:List UInt8} (h:2<l.length):∃ a b c r,l=a::b::c::r:=by
 match l,h with
 |a::b::c::r,_=>exact ⟨a,b,c,r,rfl⟩
theorem zaug {l:List UInt8} (h:3<l.length):∃ a b c d r,l=a::b::c::d::r:=by
 match l,h with
 |a::b::c::d::r,_=>exact ⟨a,b,c,d,r,rfl⟩
theorem zatq (l:List UInt8) (hl:l≠[]) (hb:Sp.badl l=false):Sp.isRune ((Sp.dl l).1:Int)=true∧∃ rest,l=encB ((Sp.dl l).1:Int)++rest:=by
 have hlen:0<l.length:=by cases l with|nil=>exact absurd rfl hl|cons _ _=>simp
 have hr:Sp.isRune ((Sp.dl l).1:Int)=true:=by
  have h4:=zasw _ hlen;obtain ⟨h1,h2,h3⟩:=Sp.dl_pos _ hlen;rw[hb] at h4;simp only[Bool.false_eq_true,if_false] at h4;rcases Sp.ansA_ok l.length (Sp.by_ l 0) (Sp.by_ l 1) (Sp.by_ l 2) (Sp.by_ l 3) (l.getD 0 0).toNat_lt with h5|⟨h5,h6⟩
  ·rw[h4] at h5;simp only[Prod.mk.injEq] at h5;omega
  ·rw[h4] at h5;exact h5
 refine ⟨hr,?_⟩;have hg:¬ ((Sp.dl l).1=65533∧¬ (3≤l.length∧Sp.by_ l 0=239∧Sp.by_ l 1=191∧Sp.by_ l 2=189)):=by
  unfold Sp.badl at hb;rw[Sp.take3] at hb;intro hh;simp[hh.1] at hb;exact hh.2 hb
 obtain ⟨D,hD⟩:∃ D,D=Sp.dl l:=⟨_,rfl⟩;rw[← hD] at hg ⊢;unfold Sp.dl Sp.ct at hD;simp only[Bool.and_eq_true,decide_eq_true_eq,beq_iff_eq,zagr,ge_iff_le] at hD;have hb0:Sp.by_ l 0<256:=(l.getD 0 0).toNat_lt;have hb1:Sp.by_ l 1<256:=(l.getD 1 0).toNat_lt;have hb2:Sp.by_ l 2<256:=(l.getD 2 0).toNat_lt;have hb3:Sp.by_ l 3<256:=(l.getD 3 0).toNat_lt;by_cases k0:Sp.by_ l 0<128
 ·rw[if_pos k0] at hD;rw[hD];match l,hlen with
  |a::l,_=>
   rw[by0] at *;refine ⟨l,?_⟩;unfold encB Sp.enc bytesOf;rw[if_pos (by simp only; omega)];simp
 rw[if_neg k0] at hD;by_cases k1:Sp.by_ l 0 / 32=6∧1<l.length∧Sp.by_ l 1 / 64=2
 ·rw[if_pos k1] at hD;by_cases k2:128≤Sp.by_ l 0 % 32*64+Sp.by_ l 1 % 64
  ·rw[if_pos k2] at hD;rw[hD];obtain ⟨a,b,l,rfl⟩:=zavo k1.2.1
   next=>
    rw[by0,by1] at *;refine ⟨l,?_⟩;unfold encB Sp.enc bytesOf;rw[if_neg (by simp only; omega),if_pos (by simp only; omega)];simp only[List.map_cons,List.map_nil,List.cons_append,List.nil_append];rw[zaci (a:=a) (by omega),zaci (a:=b) (by omega)]
  ·rw[if_neg k2] at hD;rw[hD] at hg;have hg':=Classical.byContradiction fun hh=>hg ⟨rfl,hh⟩
   omega
 rw[if_neg k1] at hD;by_cases k2:(Sp.by_ l 0 / 16=14∧1<l.length∧Sp.by_ l 1 / 64=2)∧2<l.length∧Sp.by_ l 2 / 64=2
 ·rw[if_pos k2] at hD;by_cases k3:2048≤Sp.by_ l 0 % 16*4096+Sp.by_ l 1 % 64*64+Sp.by_ l 2 % 64∧(0≤((Sp.by_ l 0 % 16*4096+Sp.by_ l 1 % 64*64+Sp.by_ l 2 % 64:Nat):Int)∧((Sp.by_ l 0 % 16*4096+Sp.by_ l 1 % 64*64+Sp.by_ l 2 % 64:Nat):Int)<55296∨57344≤((Sp.by_ l 0 % 16*4096+Sp.by_ l 1 % 64*64+Sp.by_ l 2 % 64:Nat):Int)∧((Sp.by_ l 0 % 16*4096+Sp.by_ l 1 % 64*64+Sp.by_ l 2 % 64:Nat):Int)≤1114111)
  ·rw[if_pos k3] at hD;rw[hD];obtain ⟨a,b,c,l,rfl⟩:=zatm k2.2.1
   next=>
    rw[by0,by1,by2] at *;refine ⟨l,?_⟩;unfold encB Sp.enc bytesOf;rw[if_neg (by simp only; omega),if_neg (by simp only; omega),if_pos (by simp only; omega)];simp only[List.map_cons,List.map_nil,List.cons_append,List.nil_append];rw[zaci (a:=a) (by omega),zaci (a:=b) (by omega),zaci (a:=c) (by omega)]
  ·rw[if_neg k3] at hD;rw[hD] at hg;have hg':=Classical.byContradiction fun hh=>hg ⟨rfl,hh⟩
   omega
 rw[if_neg k2] at hD;by_cases k3:((Sp.by_ l 0 / 8=30∧1<l.length∧Sp.by_ l 1 / 64=2)∧2<l.length∧Sp.by_ l 2 / 64=2)∧3<l.length∧Sp.by_ l 3 / 64=2
 ·rw[if_pos k3] at hD;by_cases k4:65536≤Sp.by_ l 0 % 8*262144+Sp.by_ l 1 % 64*4096+Sp.by_ l 2 % 64*64+Sp.by_ l 3 % 64∧(0≤((Sp.by_ l 0 % 8*262144+Sp.by_ l 1 % 64*4096+Sp.by_ l 2 % 64*64+Sp.by_ l 3 % 64:Nat):Int)∧((Sp.by_ l 0 % 8*262144+Sp.by_ l 1 % 64*4096+Sp.by_ l 2 % 64*64+Sp.by_ l 3 % 64:Nat):Int)<55296∨57344≤((Sp.by_ l 0 % 8*262144+Sp.by_ l 1 % 64*4096+Sp.by_ l 2 % 64*64+Sp.by_ l 3 % 64:Nat):Int)∧((Sp.by_ l 0 % 8*262144+Sp.by_ l 1 % 64*4096+Sp.by_ l 2 % 64*64+Sp.by_ l 3 % 64:Nat):Int)≤1114111)
  ·rw[if_pos k4] at hD;rw[hD];obtain ⟨a,b,c,d,l,rfl⟩:=zaug k3.2.1
   next=>
    rw[by0,by1,by2,by3] at *;refine ⟨l,?_⟩;unfold encB Sp.enc bytesOf;rw[if_neg (by simp only; omega),if_neg (by simp only; omega),if_neg (by simp only; omega)];simp only[List.map_cons,List.map_nil,List.cons_append,List.nil_append];rw[zaci (a:=a) (by omega),zaci (a:=b) (by omega),zaci (a:=c) (by omega),zaci (a:=d) (by omega)]
  ·rw[if_neg k4] at hD;rw[hD] at hg;have hg':=Classical.byContradiction fun hh=>hg ⟨rfl,hh⟩
   omega
 ·rw[if_neg k3] at hD;rw[hD] at hg;have hg':=Classical.byContradiction fun hh=>hg ⟨rfl,hh⟩
  omega
def put:List Int→Spot→List Spot×Spot
 |[],s=>([],s)
 |r::rs,s=>(⟨r,s.at_,s.line,s.col⟩::(put rs (Sp.on ⟨r,s.at_,s.line,s.col⟩ r (Sp.long r))).1,(put rs (Sp.on ⟨r,s.at_,s.line,s.col⟩ r (Sp.long r))).2)
theorem on_at (s:Spot) (r n:Int):(Sp.on s r n).at_=s.at_+n:=by unfold Sp.on; split<;>rfl
theorem zacx (r:Int):1≤Sp.long r:=by unfold Sp.long; (repeat' split)<;>omega
theorem zanm:∀ (rs:List Int) (s:Spot),(put rs s).2.at_=s.at_+(encs rs).length
 |[],s=>by simp[put,encs]
 |r::rs,s=>by
  simp only[put];rw[zanm rs,on_at,zaao,List.length_append,zacm];have:=zacx r;simp only;omega
theorem zao3 (t:List UInt8):∀ (rs:List Int) (n:Nat) (acc:List Spot) (s:Spot) (rest:List UInt8),rs.all Sp.isRune=true→0≤s.at_→t.drop s.at_.toNat=encs rs++rest→(rest=[]∨Sp.badl rest=true) →
  t.length-s.at_.toNat≤n→Sp.spotsFrom t n acc s=(acc++(put rs s).1,(put rs s).2)
 |[],n,acc,s,rest=>by
  intro _ h0 hd hr hn;simp only[encs,List.flatMap_nil,List.nil_append] at hd;simp only[put,List.append_nil];cases n with
  |zero=>rfl
  |succ n=>
   simp only[Sp.spotsFrom];by_cases hc:s.at_<t.length
   ·rw[if_pos hc];have hne:t.drop s.at_.toNat≠[]:=by
     intro hh;have:=congrArg List.length hh;simp at this;omega
    rcases hr with rfl|hr
    ·exact absurd hd hne
    ·rw[if_pos];rw[Sp.bad_eq,hd];exact hr
   ·rw[if_neg hc]
 |r::rs,n,acc,s,rest=>by
  intro ha h0 hd hr hn;simp only[List.all_cons,Bool.and_eq_true] at ha;rw[zaao,List.append_assoc] at hd;obtain ⟨h1,h2⟩:=zakt r (encs rs++rest) ha.1;have hlen:=congrArg List.length hd;have hl:=zacx r;have hel:=zacm r;simp only[List.length_drop,List.length_append] at hlen;have hc:s.at_<t.length:=by omega
  have hb:Sp.bad t s.at_.toNat=false:=by rw[Sp.bad_eq,hd]; exact h2
  have hr':0≤r:=by
   have:=ha.1;simp only[Sp.isRune,decide_eq_true_eq] at this;exact this.1
  have e1:Sp.at1 t s.at_=r:=by
   unfold Sp.at1;rw[hb,Sp.dc_eq,hd,h1];simp;omega
  have e2:Sp.at2 t s.at_=Sp.long r:=by
   unfold Sp.at2;rw[hb,Sp.dc_eq,hd,h1];simp;omega
  obtain ⟨n,rfl⟩:∃ m,n=m+1:=⟨n-1,by omega⟩;simp only[Sp.spotsFrom,if_pos hc,hb,Bool.false_eq_true,if_false];rw[e1,e2];have hat:=on_at ⟨r,s.at_,s.line,s.col⟩ r (Sp.long r);simp only at hat;rw[zao3 t rs n _ _ rest ha.2 (by rw[hat]; omega) ?_ hr (by rw[hat]; omega)]
  ·simp only[put,List.append_assoc,List.cons_append,List.nil_append]
  ·rw[hat,show (s.at_+Sp.long r).toNat=s.at_.toNat+(encB r).length by omega,← List.drop_drop,hd,List.drop_left]
def s0:Spot:=⟨0,0,1,1⟩
theorem zamf (rs:List Int) (rest:List UInt8) (ha:rs.all Sp.isRune=true) (hr:rest=[]∨Sp.badl rest=true):Sp.spots1 (encs rs++rest)=(put rs s0).1∧Sp.spots2 (encs rs++rest)=Sp.ended (put rs s0).2:=by
 have:=zao3 (encs rs++rest) rs (encs rs++rest).length [] s0 rest ha (by simp[s0]) (by simp[s0]) hr (by omega);unfold Sp.spots1 Sp.spots2;unfold s0 at this ⊢;rw[this];simp
theorem zalu:∀ (n:Nat) (t:List UInt8),t.length≤n→∃ rs rest,t=encs rs++rest∧rs.all Sp.isRune=true∧(rest=[]∨Sp.badl rest=true)
 |0,t,h=>⟨[],[],by cases t<;>simp_all[encs],rfl,.inl rfl⟩
 |n+1,t,h=>by
  by_cases h0:t=[]
  ·exact ⟨[],[],by simp[h0,encs],rfl,.inl rfl⟩
  cases hb:Sp.badl t with
  |true=>exact ⟨[],t,by simp[encs],rfl,.inr hb⟩
  |false=>
   obtain ⟨h1,rest,h2⟩:=zatq t h0 hb;have hl:=zacm ((Sp.dl t).1:Int);have hp:=zacx ((Sp.dl t).1:Int);have hlen:rest.length≤n:=by
    have:=congrArg List.length h2;rw[List.length_append] at this;omega
   obtain ⟨rs,r2,h3,h4,h5⟩:=zalu n rest hlen;refine ⟨((Sp.dl t).1:Int)::rs,r2,?_,?_,h5⟩
   ·rw[zaao,List.append_assoc,← h3]; exact h2
   ·simp[h1,h4]
theorem zaoh (s:Spot):(Sp.ended s).at_=s.at_:=rfl
theorem zaox (rs:List Int) (ha:rs.all Sp.isRune=true) (hl:(encs rs).length≤4000):Sp.runes1 (encs rs)=(put rs s0).1∧Sp.runes2 (encs rs)=⟨0,0,[]⟩:=by
 obtain ⟨h1,h2⟩:=zamf rs [] ha (.inl rfl);rw[List.append_nil] at h1 h2;have h3:=zanm rs s0;unfold Sp.runes1 Sp.runes2;rw[h1,h2,zaoh,h3];have h5:¬ (s0.at_+((encs rs).length:Int)<(encs rs).length):=by simp[s0]
 have h4:¬ 4000<(encs rs).length:=by omega
 simp only[if_neg h4,if_neg h5,and_self]
theorem zarx (rs:List Int) (rest:List UInt8) (ha:rs.all Sp.isRune=true) (hne:rest≠[]) (hb:Sp.badl rest=true) (hl:(encs rs++rest).length≤4000):Sp.runes1 (encs rs++rest)=[]∧Sp.runes2 (encs rs++rest)=⟨11,(encs rs).length,[]⟩:=by
 obtain ⟨h1,h2⟩:=zamf rs rest ha (.inr hb);have h3:=zanm rs s0;have hpos:0<rest.length:=by cases rest with|nil=>exact absurd rfl hne|cons _ _=>simp
 unfold Sp.runes1 Sp.runes2;rw[h2,zaoh,h3];have h5:(s0.at_+((encs rs).length:Int)<(encs rs++rest).length):=by simp[s0]; omega
 have h4:¬ 4000<(encs rs++rest).length:=by omega
 simp only[if_neg h4,if_pos h5];simp[s0]
theorem zapy (t:List UInt8):(Sp.runes1 t=[]∧Sp.runes2 t=⟨10,4000,[]⟩) ∨
  (t.length≤4000∧∃ rs rest,t=encs rs++rest∧rs.all Sp.isRune=true∧rest≠[]∧Sp.badl rest=true∧Sp.runes1 t=[]∧Sp.runes2 t=⟨11,(encs rs).length,[]⟩) ∨
  (t.length≤4000∧∃ rs,t=encs rs∧rs.all Sp.isRune=true∧Sp.runes1 t=(put rs s0).1∧Sp.runes2 t=⟨0,0,[]⟩):=by
 by_cases h:4000<t.length
 ·left;unfold Sp.runes1 Sp.runes2;rw[if_pos h,if_pos h];exact ⟨rfl,rfl⟩
 right;obtain ⟨rs,rest,h1,h2,h3⟩:=zalu t.length t (Nat.le_refl _);by_cases h0:rest=[]
 ·right;subst h0;rw[List.append_nil] at h1;subst h1;obtain ⟨q1,q2⟩:=zaox rs h2 (by omega);exact ⟨by omega,rs,rfl,h2,q1,q2⟩
 ·left;have hb:Sp.badl rest=true:=by rcases h3 with h3|h3; exact absurd h3 h0; exact h3
  subst h1;obtain ⟨q1,q2⟩:=zarx rs rest h2 h0 hb (by omega);exact ⟨by omega,rs,rest,rfl,h2,h0,hb,q1,q2⟩
end Lift.A1P
namespace Lift.A1P
open Go Go.RowKit Lift Go.IntWalk Lift.Fn
def goesR (r:Int):Bool:=Sp.letter r||Sp.digit r
theorem goes1 (r:Int) (h:0≤r∧r≤1114111):qai r=some (goesR r):=by
 rw[qai,zaaa];unfold qai_f goesR;rw[i64_in r (by omega),zaum,zart,Option.bind_some,Option.bind_some];cases Sp.letter r<;>rfl
theorem zacy {r:Int} (h:Sp.isRune r=true):0≤r∧r≤1114111:=by
 simp only[Sp.isRune,decide_eq_true_eq] at h;omega
theorem zalx (t:List UInt8) (p:Nat) (r:Int) (l:List UInt8) (hd:t.drop p=encB r++l) (hr:Sp.isRune r=true):Utf8.decode ⟨t.toArray⟩ p=(r.toNat,(Sp.long r).toNat):=by
 have h1:=Sp.dc_eq t p;unfold Sp.dc at h1;rw[h1,hd];exact (zakt r l hr).1
theorem zafc (ds rs:List Int):(encs (ds++rs)).drop (encs ds).length=encs rs:=by
 rw[zaag,List.drop_left]
theorem zaf8 (ds rs:List Int) (r:Int):(encs ds).length<(encs (ds++r::rs)).length:=by
 rw[zaag,zaao,List.length_append,List.length_append,zacm];have:=zacx r;omega
theorem zakn (ds:List Int) (r:Int):(encs (ds++[r])).length=(encs ds).length+(Sp.long r).toNat:=by
 rw[zaag,zaao,List.length_append,List.length_append,zacm];simp[encs]
theorem wordL:∀ (rs ds:List Int) (n:Nat),rs.all Sp.isRune=true→rs.length<n→(encs (ds++rs)).length≤9000000 →
  qan_i2 n (encs (ds++rs)) (encs (ds++rs)) (encs ds).length=some (if rs.all goesR then .inr (encs (ds++rs)) else .inl (encs (ds++rs.takeWhile goesR)))
 |[],ds,n,_,hn,hl=>by
  obtain ⟨n,rfl⟩:∃ q,n=q+1:=⟨n-1,by simp at hn; omega⟩;simp only[List.append_nil,qan_i2,qan_t2];simp
 |r::rs,ds,n,ha,hn,hl=>by
  obtain ⟨n,rfl⟩:∃ q,n=q+1:=⟨n-1,by simp at hn; omega⟩;simp only[List.all_cons,Bool.and_eq_true] at ha;have hlt:=zaf8 ds rs r;have hd:Utf8.decode ⟨(encs (ds++r::rs)).toArray⟩ (encs ds).length=(r.toNat,(Sp.long r).toNat):=zalx _ _ r (encs rs) (by rw[zafc,zaao]) ha.1;have hr:=zacy ha.1;simp only[qan_i2,qan_t2,hd,hlt,decide_true,cond_true];rw[show ((r.toNat:Nat):Int)=r by omega,goes1 r hr,Option.bind_some];cases hg:goesR r with
  |false=>
   have hb:(decide ((0:Int)≤0)&&(decide ((0:Int)≤((encs ds).length:Int))&&decide (((encs ds).length:Int)≤((encs (ds++r::rs)).length:Int))))=true:=by
    simp only[Bool.and_eq_true,decide_eq_true_eq]; omega
   simp only[Bool.not_false,cond_true,hb,List.all_cons,hg,Bool.false_and,Bool.false_eq_true,if_false,List.takeWhile_cons,List.append_nil,List.drop_zero,Int.toNat_natCast];rw[zaag,List.take_left]
  |true=>
   have ih:=wordL rs (ds++[r]) n ha.2 (by simp at hn; omega) (by simpa using hl);rw[List.append_assoc,List.singleton_append,zakn] at ih;simp only[Bool.not_true,cond_false,ih,List.all_cons,hg,Bool.true_and,List.takeWhile_cons,if_true,List.append_assoc,List.singleton_append]
theorem zaow {p:Int→Bool} {l:List Int} (h:l.all p=true):l.takeWhile p=l:=by
 induction l with
 |nil=>rfl
 |cons a l ih=>
  simp only[List.all_cons,Bool.and_eq_true] at h;rw[List.takeWhile_cons,if_pos h.1,ih h.2]
theorem zabi (rs:List Int):rs.length≤(encs rs).length:=by
 induction rs with
 |nil=>simp
 |cons r l ih=>
  rw[zaao,List.length_append,zacm,List.length_cons];have:=zacx r;omega
theorem word1 (rs:List Int) (ha:rs.all Sp.isRune=true) (hl:(encs rs).length≤9000000):qan (encs rs)=some (encs (rs.takeWhile goesR)):=by
 rw[qan,zaaa];unfold qan_f;have:=wordL rs [] fuel ha (by have:=zabi rs; unfold fuel; omega) (by simpa using hl);simp only[List.nil_append] at this;rw[qan_l2,zaaa,show (0:Nat)=(encs []).length from rfl,this];cases hg:rs.all goesR with
 |true=>simp only[if_true,Option.bind_some,zaow hg]
 |false=>simp
def skip:Bool→List Int→List Int
 |_,[]=>[]
 |true,r::rs=>skip (r != 10) rs
 |false,r::rs=>if r=35 then skip true rs else if Sp.blank r then skip false rs else r::rs
theorem zap1:∀ (rs ds:List Int) (c:Bool) (n:Nat),rs.all Sp.isRune=true→rs.length<n →
  qak_i3 n (encs (ds++rs)) c (encs (ds++rs)) (encs ds).length=some (if skip c rs=[] then .inr (encs (ds++rs)) else .inl (((encs (ds++rs)).length:Int)-(encs (skip c rs)).length))
 |[],ds,c,n,_,hn=>by
  obtain ⟨n,rfl⟩:∃ q,n=q+1:=⟨n-1,by simp at hn; omega⟩;simp only[List.append_nil,qak_i3,qak_t3];cases c<;>simp[skip]
 |r::rs,ds,c,n,ha,hn=>by
  obtain ⟨n,rfl⟩:∃ q,n=q+1:=⟨n-1,by simp at hn; omega⟩;simp only[List.all_cons,Bool.and_eq_true] at ha;have hlt:=zaf8 ds rs r;have hd:Utf8.decode ⟨(encs (ds++r::rs)).toArray⟩ (encs ds).length=(r.toNat,(Sp.long r).toNat):=zalx _ _ r (encs rs) (by rw[zafc,zaao]) ha.1;have hr:=zacy ha.1;have ih:=fun c=>zap1 rs (ds++[r]) c n ha.2 (by simp at hn; omega)
  simp only[List.append_assoc,List.singleton_append,zakn] at ih;simp only[qak_i3,qak_t3,hd,hlt,decide_true,cond_true];rw[show ((r.toNat:Nat):Int)=r by omega];cases c with
  |true=>
   rw[cond_true,ih];rfl
  |false=>
   rw[cond_false];by_cases h35:r=35
   ·have:(r==35)=true:=by simp[h35]
    rw[this,cond_true,ih];simp only[skip,h35,if_true]
   ·have:(r==35)=false:=by simp[h35]
    rw[this,cond_false,i64_in r (by omega),zavi,Option.bind_some];cases hb:Sp.blank r with
    |true=>
     simp only[Bool.not_true,cond_false,ih,skip,h35,if_false,hb,if_true]
    |false=>
     have hne:skip false (r::rs)=r::rs:=by simp[skip,h35,hb]
     rw[hne];simp only[Bool.not_false,cond_true,if_neg (List.cons_ne_nil r rs)];congr 2;rw[zaag,List.length_append];omega
theorem zaqg (rs:List Int) (ha:rs.all Sp.isRune=true) (hl:(encs rs).length≤9000000):qak (encs rs)=some (((encs rs).length:Int)-(encs (skip false rs)).length):=by
 rw[qak,zaaa];unfold qak_f;have:=zap1 rs [] false fuel ha (by have:=zabi rs; unfold fuel; omega);simp only[List.nil_append] at this;rw[qak_l3,zaaa,show (0:Nat)=(encs []).length from rfl,this];by_cases hs:skip false rs=[]
 ·rw[if_pos hs,hs]; simp[encs]
 ·rw[if_neg hs]; simp
theorem zau5 (l:List (List UInt8)) (x:List UInt8) (hl:l.length≤4000):∀ (k n:Nat) (i:Int),0≤i→l.length-i.toNat≤k→k<n →
  ∃ r,qaS_i2 n l x l.length i=some r∧((l.drop i.toNat).contains x=match r with|.inl j=>decide (0≤j)|.inr _=>false):=by
 intro k;have fin:∀ (n:Nat) (i:Int),0≤i→¬ i<l.length→∃ r,qaS_i2 (n+1) l x l.length i=some r∧((l.drop i.toNat).contains x=match r with|.inl j=>decide (0≤j)|.inr _=>false):=by
  intro n i h0 c;refine ⟨.inr (),?_,?_⟩
  ·simp only[qaS_i2,qaS_t2,c,decide_false,cond_false]
  ·rw[List.drop_eq_nil_of_le (by omega)]; rfl
 induction k with
 |zero=>
  intro n i h0 hk hn;obtain ⟨n,rfl⟩:∃ q,n=q+1:=⟨n-1,by omega⟩;exact fin n i h0 (by omega)
 |succ k ih=>
  intro n i h0 hk hn;obtain ⟨n,rfl⟩:∃ q,n=q+1:=⟨n-1,by omega⟩;by_cases c:i<l.length
  ·have ha:i.toNat<l.length:=by omega
   rw[List.drop_eq_getElem_cons ha];simp only[qaS_i2,qaS_t2,c,h0,decide_true,cond_true,List.getElem?_eq_getElem ha,Option.bind_some,List.contains_cons];cases hx:(x==l[i.toNat]) with
   |true=>exact ⟨.inl i,rfl,by simp[h0]⟩
   |false=>
    rw[i64_in (i+1) (by omega)];obtain ⟨r,h1,h2⟩:=ih n (i+1) (by omega) (by omega) (by omega);refine ⟨r,h1,?_⟩;rw[show (i+1).toNat=i.toNat+1 by omega] at h2;rw[Bool.false_or,h2]
  ·exact fin n i h0 c
theorem zamo (l:List (List UInt8)) (x:List UInt8) (hl:l.length≤4000):qaM l x=some (l.contains x):=by
 obtain ⟨r,h1,h2⟩:=zau5 l x hl l.length fuel 0 (by omega) (by omega) (by unfold fuel; omega);simp only[Int.toNat_zero,List.drop_zero] at h2;rw[qaM,zaaa];unfold qaM_f;rw[qaS,zaaa];unfold qaS_f;rw[qaS_l2,zaaa,h1,h2];cases r with
 |inl j=>simp
 |inr u=>simp
def ones:List UInt8:=[61,60,62,33,43,45,42,47,37,59,123,125,40,41]
def twos:List (List UInt8):=[[58,61],[60,45],[61,61],[33,61],[60,61],[62,61],[38,38],[124,124]]
def sgn (t:List UInt8):List UInt8:=if 1<t.length∧twos.contains (t.take 2)=true then t.take 2 else if ones.contains (t.headD 0)=true then t.take 1 else []
theorem zatb:∀ i:Fin 256,Lib.contains ones [UInt8.ofNat i.val]=ones.contains (UInt8.ofNat i.val):=by decide +kernel
theorem zatv (b:UInt8):Lib.contains ones [b]=ones.contains b:=by
 have:=zatb ⟨b.toNat,b.toNat_lt⟩;simpa using this
theorem sign1 (b:UInt8) (t:List UInt8) (hl:(b::t).length≤9000000):qal (b::t)=some (sgn (b::t)):=by
 rw[qal,zaaa];unfold qal_f;have ht:List.take 1 (b::t)=[b]:=rfl;have hc:strings_Contains ones [b]=some (ones.contains b):=by
  rw[strings_Contains,zaaa];unfold zadg;rw[decide_eq_true (by decide),cond_true,zatv]
 have hc':strings_Contains [61,60,62,33,43,45,42,47,37,59,123,125,40,41] [b]=some (ones.contains b):=hc;have b1:(decide ((0:Int)≤0)&&(decide ((0:Int)≤1)&&decide ((1:Int)≤((b::t).length:Int))))=true:=by
  simp only[Bool.and_eq_true,decide_eq_true_eq,List.length_cons]; omega
 simp only[List.drop_zero,ht,b1,cond_true,hc',Option.bind_some];unfold sgn;by_cases h1:1<(b::t).length
 ·have h1':decide (((b::t).length:Int)>1)=true:=decide_eq_true (by omega);have b2:(decide ((0:Int)≤0)&&(decide ((0:Int)≤2)&&decide ((2:Int)≤((b::t).length:Int))))=true:=by
   simp only[Bool.and_eq_true,decide_eq_true_eq]; omega
  have hc2:=zamo twos ((b::t).take 2) (by decide);have hc2':qaM [[58,61],[60,45],[61,61],[33,61],[60,61],[62,61],[38,38],[124,124]] ((b::t).take 2)=some (twos.contains ((b::t).take 2)):=hc2;rw[h1',cond_true,b2,cond_true,hc2',Option.bind_some];cases h2:twos.contains ((b::t).take 2) with
  |true=>rw[if_pos ⟨h1,rfl⟩]; rfl
  |false=>
   rw[if_neg (fun hh=>by cases hh.2)];cases h3:ones.contains b with
   |true=>simp only[List.headD_cons,h3,if_true]; rfl
   |false=>simp only[List.headD_cons,h3,Bool.false_eq_true,if_false]; rfl
 ·have h1':decide (((b::t).length:Int)>1)=false:=decide_eq_false (by omega);rw[h1',cond_false,if_neg (fun hh=>h1 hh.1)];cases h3:ones.contains b with
  |true=>simp only[List.headD_cons,h3,if_true]; rfl
  |false=>simp only[List.headD_cons,h3,Bool.false_eq_true,if_false]; rfl
end Lift.A1P
namespace Lift.A1P
open Go Go.RowKit Lift Go.IntWalk Lift.Fn
def tens:List UInt8:=[48,49,50,51,52,53,54,55,56,57]
def numS (t:List UInt8):Int×Bool:=
 if 1<t.length∧(t.headD 0).toNat=48 then (0,false) else if Lib.trimS t tens≠[] then (0,false) else if (zabz t).2=true then ((zabz t).1,false) else ((zabz t).1,decide ((zabz t).1≤2147483647))
theorem zau2 (t:List UInt8) (hl:t.length≤9000000):qaj t=some (numS t):=by
 rw[qaj,zaaa];unfold qaj_f numS;have hT:zaco t [48,49,50,51,52,53,54,55,56,57]=some (Lib.trimS t tens):=by
  rw[zaco,zaaa];unfold zaeu;rw[decide_eq_true (show _∧_ by constructor; omega; decide)];rfl
 have hA:zacs t=some (zabz t):=by
  rw[zacs,zaaa];unfold zaev;rw[decide_eq_true (by omega)];rfl
 have rest:(bif !Lib.trimS t tens==[] then some ((0:Int),false) else bif !(zabz t).2 then some ((zabz t).1,decide ((zabz t).1≤2147483647)) else some ((zabz t).1,false)) =
   some (if Lib.trimS t tens≠[] then (0,false) else if (zabz t).2=true then ((zabz t).1,false) else ((zabz t).1,decide ((zabz t).1≤2147483647))):=by
  by_cases h:Lib.trimS t tens=[]
  ·rw[if_neg (fun hh=>hh h),h];cases (zabz t).2<;>rfl
  ·rw[if_pos h];have:(Lib.trimS t tens==[])=false:=by simpa using h
   rw[this]; rfl
 rw[hT,hA];by_cases h1:1<t.length
 ·rw[decide_eq_true (show (t.length:Int)>1 by omega),cond_true];match t,h1 with
  |b::t,h1=>
   simp only[List.getElem?_cons_zero,Option.bind_some];by_cases h2:b.toNat=48
   ·have:(((b.toNat:Nat):Int)==48)=true:=by rw[beq_iff_eq]; omega
    rw[this,cond_true,if_pos (show 1<(b::t).length∧((b::t).headD 0).toNat=48 from ⟨h1,h2⟩)]
   ·have:(((b.toNat:Nat):Int)==48)=false:=by rw[beq_eq_false_iff_ne]; omega
    rw[this,cond_false,if_neg (show ¬ (1<(b::t).length∧((b::t).headD 0).toNat=48) from fun hh=>h2 hh.2)];exact rest
 ·rw[decide_eq_false (show ¬ (t.length:Int)>1 by omega),cond_false,if_neg (show ¬ (1<t.length∧(t.headD 0).toNat=48) from fun hh=>h1 hh.1)];simp only[Option.bind_some];exact rest
theorem zavr:qah=qah_f:=by rw[qah,zaaa]
noncomputable def words:List (List UInt8):=qah_f.getD []
theorem zatf:qah=some words:=by rw[zavr]; rfl
theorem zasm:∀ (rs ds:List Int) (n:Nat),rs.all Sp.isRune=true→rs.length≤n→Lib.runeCountFrom ⟨(encs (ds++rs)).toArray⟩ n (encs ds).length=rs.length
 |[],ds,n,_,_=>by
  cases n with
  |zero=>rfl
  |succ n=>simp[Lib.runeCountFrom,ByteArray.size]
 |r::rs,ds,n,ha,hn=>by
  obtain ⟨n,rfl⟩:∃ q,n=q+1:=⟨n-1,by simp at hn; omega⟩;simp only[List.all_cons,Bool.and_eq_true] at ha;have hlt:=zaf8 ds rs r;have hd:Utf8.decode ⟨(encs (ds++r::rs)).toArray⟩ (encs ds).length=(r.toNat,(Sp.long r).toNat):=zalx _ _ r (encs rs) (by rw[zafc,zaao]) ha.1;have ih:=zasm rs (ds++[r]) n ha.2 (by simp at hn; omega);simp only[List.append_assoc,List.singleton_append,zakn] at ih;simp only[Lib.runeCountFrom,hd];rw[if_pos (by simpa [ByteArray.size] using hlt),ih,List.length_cons];omega
theorem zavt (rs:List Int) (ha:rs.all Sp.isRune=true) (hl:(encs rs).length≤9000000):zaaw (encs rs)=some (rs.length:Int):=by
 rw[zaaw,zaaa];unfold zabq Lib.runeCount;rw[decide_eq_true (by omega),cond_true];have:=zasm rs [] (encs rs).length ha (zabi rs);simp only[List.nil_append] at this;have hs:(⟨(encs rs).toArray⟩:ByteArray).size=(encs rs).length:=by simp[ByteArray.size]
 rw[hs,show (0:Nat)=(encs []).length from rfl,this]
theorem zauq (r:Int) (rs:List Int) (hr:Sp.isRune r=true):zaav (encs (r::rs))=some (r,Sp.long r):=by
 rw[zaav,zaaa];unfold zabm Lib.decodeGo;have hp:=zacx r;have hs:¬ (⟨(encs (r::rs)).toArray⟩:ByteArray).size=0:=by
  have:=zaf8 [] rs r;simp only[List.nil_append] at this;simp[ByteArray.size];intro hh;rw[hh] at this;simp at this
 have hd:Utf8.decode ⟨(encs (r::rs)).toArray⟩ 0=(r.toNat,(Sp.long r).toNat):=zalx _ 0 r (encs rs) (by rw[List.drop_zero,zaao]) hr;have h0:=zacy hr;rw[if_neg hs,hd];simp only;rw[show ((r.toNat:Nat):Int)=r by omega,show (((Sp.long r).toNat:Nat):Int)=Sp.long r by omega]
noncomputable def tokR (rs:List Int):Token×Int:=
  bif goesR (rs.headD 0) then
    (bif Sp.digit (rs.headD 0) then (bif (numS (encs (rs.takeWhile goesR))).2 then (⟨2,encs (rs.takeWhile goesR),(numS (encs (rs.takeWhile goesR))).1,0⟩,0) else (⟨1,encs (rs.takeWhile goesR),0,0⟩,22))
     else bif words.contains (encs (rs.takeWhile goesR)) then (⟨4,encs (rs.takeWhile goesR),0,0⟩,0)
     else bif decide (16<(rs.takeWhile goesR).length) then (⟨1,encs (rs.takeWhile goesR),0,0⟩,21) else (⟨1,encs (rs.takeWhile goesR),0,0⟩,0))
  else bif sgn (encs rs)==[] then (⟨0,[],0,0⟩,20) else (⟨3,sgn (encs rs),0,0⟩,0)
theorem zaif {p:Int→Bool} {rs:List Int} (ha:rs.all Sp.isRune=true):(rs.takeWhile p).all Sp.isRune=true:=by
 rw[List.all_eq_true] at ha ⊢;intro r hr;exact ha r ((List.takeWhile_sublist _).subset hr)
theorem zatl (p:Int→Bool) (rs:List Int):(encs (rs.takeWhile p)).length≤(encs rs).length:=by
 have:encs rs=encs (rs.takeWhile p)++encs (rs.dropWhile p):=by rw[← zaag,List.takeWhile_append_dropWhile]
 rw[this,List.length_append];omega
theorem zau8 (rs:List Int) (hne:rs≠[]) (ha:rs.all Sp.isRune=true) (hl:(encs rs).length≤9000000):qam (encs rs)=some (tokR rs):=by
 match rs,hne with
 |r::rs,_=>
  have ha':=ha;simp only[List.all_cons,Bool.and_eq_true] at ha';have hr:=zacy ha'.1;have hw:=word1 (r::rs) ha hl;have hwl:=zatl goesR (r::rs);rw[qam,zaaa];unfold qam_f tokR;rw[zauq r rs ha'.1,Option.bind_some];simp only;rw[goes1 r hr,Option.bind_some];simp only[List.headD_cons];cases hg:goesR r with
  |false=>
   obtain ⟨b,t,hbt⟩:∃ b t,encs (r::rs)=b::t:=by
    cases he:encs (r::rs) with
    |nil=>
     have:=zaf8 [] rs r;simp only[List.nil_append,he] at this;simp[encs] at this
    |cons b t=>exact ⟨b,t,rfl⟩
   have hs:=sign1 b t (by rw[← hbt]; exact hl);rw[← hbt] at hs;simp only[Bool.not_false,cond_true,cond_false,hs,Option.bind_some];cases (sgn (encs (r::rs))==[])<;>rfl
  |true=>
   simp only[Bool.not_true,cond_false,cond_true,hw,Option.bind_some];rw[i64_in r (by omega),zart,Option.bind_some];cases hd:Sp.digit r with
   |true=>
    rw[cond_true,cond_true,zau2 _ (by omega),Option.bind_some];cases (numS (encs ((r::rs).takeWhile goesR))).2<;>rfl
   |false=>
    rw[cond_false,cond_false,zatf,Option.bind_some,zamo _ _ (by decide),Option.bind_some];cases words.contains (encs ((r::rs).takeWhile goesR)) with
    |true=>rfl
    |false=>
     rw[cond_false,cond_false,zavt _ (zaif ha) (by omega),Option.bind_some];have:decide ((((r::rs).takeWhile goesR).length:Int)>16)=decide (16<((r::rs).takeWhile goesR).length):=by
      rw[Bool.eq_iff_iff,decide_eq_true_eq,decide_eq_true_eq]; omega
     rw[this];cases decide (16<((r::rs).takeWhile goesR).length)<;>rfl
noncomputable def restR (rs:List Int):List Int:=bif goesR (rs.headD 0) then rs.dropWhile goesR else rs.drop (sgn (encs rs)).length
theorem zadm {r:Int} {rs:List Int} {b:UInt8} {t:List UInt8} (hr:Sp.isRune r=true) (h:encs (r::rs)=b::t) (hb:b.toNat<128):encB r=[b]∧t=encs rs:=by
 rw[zaao] at h;simp only[Sp.isRune,decide_eq_true_eq] at hr;by_cases a1:r<128
 ·have e:encB r=[UInt8.ofNat r.toNat]:=by simp[encB,bytesOf,Sp.enc,a1]
  rw[e] at h ⊢;simp only[List.singleton_append,List.cons.injEq] at h;exact ⟨by rw[h.1],h.2.symm⟩
 ·exfalso;have hh:∀ x l,encB r=UInt8.ofNat x::l→128≤x→x<256→False:=by
   intro x l he h1 h2;rw[he,List.cons_append,List.cons.injEq] at h;have:=congrArg UInt8.toNat h.1;rw[zabp _ h2] at this;omega
  unfold encB Sp.enc bytesOf at hh;rw[if_neg a1] at hh;by_cases a2:r<2048
  ·rw[if_pos a2] at hh;exact hh _ _ rfl (by omega) (by omega)
  ·rw[if_neg a2] at hh;by_cases a3:r<65536
   ·rw[if_pos a3] at hh;exact hh _ _ rfl (by omega) (by omega)
   ·rw[if_neg a3] at hh;exact hh _ _ rfl (by omega) (by omega)
end Lift.A1P
namespace Lift.A1P
open Go Go.RowKit Lift Go.IntWalk Lift.Fn
theorem zaa8:∀ (l:List Int) (c:Bool),∃ ds,l=ds++skip c l
 |[],c=>⟨[],by cases c<;>rfl⟩
 |r::l,true=>by
  obtain ⟨ds,h⟩:=zaa8 l (r != 10);exact ⟨r::ds,by simp only[skip,List.cons_append]; rw[← h]⟩
 |r::l,false=>by
  simp only[skip];split
  ·obtain ⟨ds,h⟩:=zaa8 l true;exact ⟨r::ds,by rw[List.cons_append,← h]⟩
  ·split
   ·obtain ⟨ds,h⟩:=zaa8 l false;exact ⟨r::ds,by rw[List.cons_append,← h]⟩
   ·exact ⟨[],rfl⟩
theorem zajh:∀ x∈twos,x.length=2∧x.all (fun b=>decide (b.toNat<128))=true:=by decide
theorem zaje:∀ b∈ones,b.toNat<128:=by decide
theorem zahm (r:Int) (rs:List Int):∃ b t,encs (r::rs)=b::t:=by
 cases he:encs (r::rs) with
 |nil=>
  have:=zaf8 [] rs r;simp only[List.nil_append,he] at this;simp[encs] at this
 |cons b t=>exact ⟨b,t,rfl⟩
theorem zagj (r:Int) (rs:List Int) (ha:(r::rs).all Sp.isRune=true) (h:sgn (encs (r::rs))≠[]):encs ((r::rs).take (sgn (encs (r::rs))).length)=sgn (encs (r::rs))∧0<(sgn (encs (r::rs))).length:=by
 refine ⟨?_,List.length_pos_iff.2 h⟩;simp only[List.all_cons,Bool.and_eq_true] at ha;obtain ⟨b,t,hbt⟩:=zahm r rs;rw[hbt] at h ⊢;unfold sgn at h ⊢;by_cases h1:1<(b::t).length∧twos.contains ((b::t).take 2)=true
 ·rw[if_pos h1];have hm:(b::t).take 2∈twos:=by simpa using h1.2
  obtain ⟨hl,hall⟩:=zajh _ hm;match t,hl with
  |c::t,_=>
   simp only[List.take_succ_cons,List.take_zero,List.all_cons,List.all_nil,Bool.and_true,Bool.and_eq_true,decide_eq_true_eq] at hall;obtain ⟨e1,e2⟩:=zadm ha.1 hbt hall.1;match rs,ha.2,e2 with
   |[],_,e2=>simp[encs] at e2
   |r2::rs,ha2,e2=>
    simp only[List.all_cons,Bool.and_eq_true] at ha2;obtain ⟨e3,_⟩:=zadm ha2.1 e2.symm hall.2;show encs [r,r2]=[b,c];rw[zaao,zaao,e1,e3];rfl
 ·rw[if_neg h1] at h ⊢;by_cases h2:ones.contains ((b::t).headD 0)=true
  ·rw[if_pos h2];have hb:b∈ones:=by simpa using h2
   obtain ⟨e1,_⟩:=zadm ha.1 hbt (zaje b hb);show encs [r]=[b];rw[zaao,e1];rfl
  ·rw[if_neg h2] at h;exact absurd rfl h
theorem zah1 (r:Int) (rs:List Int) (ha:(r::rs).all Sp.isRune=true) (h0:(tokR (r::rs)).2=0):∃ ds,ds≠[]∧r::rs=ds++restR (r::rs)∧encs ds=(tokR (r::rs)).1.text:=by
 unfold tokR at h0 ⊢;unfold restR;simp only[List.headD_cons] at h0 ⊢;cases hg:goesR r with
 |true=>
  refine ⟨(r::rs).takeWhile goesR,by simp[hg],(List.takeWhile_append_dropWhile).symm,?_⟩;simp only[cond_true];cases Sp.digit r with
  |true=>
   cases (numS (encs ((r::rs).takeWhile goesR))).2<;>rfl
  |false=>
   cases words.contains (encs ((r::rs).takeWhile goesR)) with
   |true=>rfl
   |false=>cases decide (16<((r::rs).takeWhile goesR).length)<;>rfl
 |false=>
  rw[hg] at h0;simp only[cond_false] at h0 ⊢;cases hs:(sgn (encs (r::rs))==[]) with
  |true=>rw[hs] at h0; simp at h0
  |false=>
   have hne:sgn (encs (r::rs))≠[]:=by simpa using hs
   obtain ⟨h1,h2⟩:=zagj r rs ha hne;refine ⟨(r::rs).take (sgn (encs (r::rs))).length,?_,(List.take_append_drop _ _).symm,h1⟩;intro hh;have:=congrArg List.length hh;simp only[List.length_take,List.length_nil,List.length_cons] at this;omega
noncomputable def toks:Nat→Int→List Int→(Int×Int)⊕List Token
 |0,_,_=>.inr []
 |_+1,_,[]=>.inr []
 | n + 1, p, r :: rs => bif (tokR (r :: rs)).2 != 0 then .inl ((tokR (r :: rs)).2, p) else
   match toks n (p+(encs (r::rs)).length-(encs (skip false (restR (r::rs)))).length) (skip false (restR (r::rs))) with
   |.inl e=>.inl e
   |.inr l=>.inr (⟨(tokR (r::rs)).1.kind,(tokR (r::rs)).1.text,(tokR (r::rs)).1.num,p⟩::l)
theorem zacc {ds rs:List Int} (h:(ds++rs).all Sp.isRune=true):rs.all Sp.isRune=true:=by
 rw[List.all_append,Bool.and_eq_true] at h;exact h.2
theorem zat8 (a2 a3:Int) (a4:List UInt8):∀ (k n:Nat) (rs ds:List Int) (out:List Token),rs.length≤k→k<n→(ds++rs).all Sp.isRune=true→(encs (ds++rs)).length≤4000→out.length≤(encs ds).length →
  qag_i6 n (encs (ds++rs)) ((encs ds).length:Int) a2 a3 a4 out=some (match toks k ((encs ds).length:Int) rs with|.inl e=>.inl (e.1,e.2,[])|.inr l=>.inr (encs (ds++rs),a2,a3,a4,out++l)):=by
 intro k;have fin:∀ (n k:Nat) (ds:List Int) (out:List Token),qag_i6 (n+1) (encs (ds++[])) ((encs ds).length:Int) a2 a3 a4 out=some (match toks k ((encs ds).length:Int) [] with|.inl e=>.inl (e.1,e.2,[])|.inr l=>.inr (encs (ds++[]),a2,a3,a4,out++l)):=by
  intro n k ds out;have:toks k ((encs ds).length:Int) []=.inr []:=by cases k<;>rfl
  rw[this];simp only[List.append_nil,qag_i6,qag_t6];have:decide (((encs ds).length:Int)<((encs ds).length:Int))=false:=decide_eq_false (by omega);rw[this,cond_false]
 induction k with
 |zero=>
  intro n rs ds out hk hn ha hl ho;obtain ⟨n,rfl⟩:∃ q,n=q+1:=⟨n-1,by omega⟩;match rs,hk with
  |[],_=>exact fin n 0 ds out
 |succ k ih=>
  intro n rs ds out hk hn ha hl ho;obtain ⟨n,rfl⟩:∃ q,n=q+1:=⟨n-1,by omega⟩;match rs,hk,ha,hl with
  |[],_,_,_=>exact fin n (k+1) ds out
  |r::rs,hk,ha,hl=>
   have har:=zacc ha;have hlt:=zaf8 ds rs r;have hlen:(encs (ds++r::rs)).length=(encs ds).length+(encs (r::rs)).length:=by rw[zaag,List.length_append]
   simp only[qag_i6,qag_t6];have b0:decide (((encs ds).length:Int)<((encs (ds++r::rs)).length:Int))=true:=decide_eq_true (by omega);have b1:(decide ((0:Int)≤((encs ds).length:Int))&&(decide (((encs ds).length:Int)≤((encs (ds++r::rs)).length:Int))&&decide (((encs (ds++r::rs)).length:Int)≤((encs (ds++r::rs)).length:Int))))=true:=by
    simp only[Bool.and_eq_true,decide_eq_true_eq]; omega
   have hd:List.drop (Int.toNat ((encs ds).length:Int)) (List.take (Int.toNat ((encs (ds++r::rs)).length:Int)) (encs (ds++r::rs)))=encs (r::rs):=by
    rw[Int.toNat_natCast,Int.toNat_natCast,List.take_length,zafc]
   rw[b0,cond_true,b1,cond_true,hd,zau8 _ (List.cons_ne_nil _ _) har (by omega),Option.bind_some];simp only[toks];cases hc:((tokR (r::rs)).2 != 0) with
   |true=>rfl
   |false=>
    have h0:(tokR (r::rs)).2=0:=by simpa using hc
    obtain ⟨es,hes,hsp,htx⟩:=zah1 r rs har h0;obtain ⟨fs,hfs⟩:=zaa8 (restR (r::rs)) false;have hall:((ds++es)++restR (r::rs)).all Sp.isRune=true:=by rw[List.append_assoc,← hsp]; exact ha
    have hres:=zacc hall;have l1:(encs (r::rs)).length=(encs es).length+(encs (restR (r::rs))).length:=by
     conv=>lhs; rw[hsp]
     rw[zaag,List.length_append]
    have l2:(encs (restR (r::rs))).length=(encs fs).length+(encs (skip false (restR (r::rs)))).length:=by
     conv=>lhs; rw[hfs]
     rw[zaag,List.length_append]
    have hes1:1≤(encs es).length:=by
     have:=zabi es;have:0<es.length:=List.length_pos_iff.2 hes;omega
    rw[← htx];simp only[cond_false];rw[decide_eq_true (show _∧_ by simp only[List.length_cons,List.length_nil]; omega),cond_true,i64_in (((encs ds).length:Int)+(encs es).length) (by omega)];have b2:(decide ((0:Int)≤((encs ds).length:Int)+(encs es).length)&&(decide (((encs ds).length:Int)+(encs es).length≤((encs (ds++r::rs)).length:Int))&&decide (((encs (ds++r::rs)).length:Int)≤((encs (ds++r::rs)).length:Int))))=true:=by
     simp only[Bool.and_eq_true,decide_eq_true_eq]; omega
    have hd2:List.drop (Int.toNat (((encs ds).length:Int)+(encs es).length)) (List.take (Int.toNat ((encs (ds++r::rs)).length:Int)) (encs (ds++r::rs)))=encs (restR (r::rs)):=by
     have e:ds++r::rs=(ds++es)++restR (r::rs):=by rw[List.append_assoc,← hsp]
     have e2:(((encs ds).length:Int)+(encs es).length).toNat=(encs (ds++es)).length:=by rw[zaag,List.length_append]; omega
     rw[Int.toNat_natCast,List.take_length,e2,e,zafc]
    rw[b2,cond_true,hd2,zaqg _ hres (by omega),Option.bind_some];have hat:IntKind.wrap IntKind.i64 (((encs ds).length:Int)+(encs es).length+(((encs (restR (r::rs))).length:Int)-(encs (skip false (restR (r::rs)))).length))=((encs (ds++es++fs)).length:Int):=by
     rw[i64_in _ (by omega),zaag,zaag,List.length_append,List.length_append];omega
    have hp:((encs ds).length:Int)+(encs (r::rs)).length-(encs (skip false (restR (r::rs)))).length=((encs (ds++es++fs)).length:Int):=by
     rw[zaag,zaag,List.length_append,List.length_append];omega
    have hT:ds++r::rs=(ds++es++fs)++skip false (restR (r::rs)):=by
     rw[List.append_assoc,← hfs,List.append_assoc,← hsp]
    have hk':(skip false (restR (r::rs))).length≤k:=by
     have q1:=congrArg List.length hsp;have q2:=congrArg List.length hfs;have q3:0<es.length:=List.length_pos_iff.2 hes;simp only[List.length_append,List.length_cons] at q1 q2 hk;omega
    rw[hat,hp]
    have:=ih n (skip false (restR (r::rs))) (ds++es++fs) (out++[⟨(tokR (r::rs)).1.kind,encs es,(tokR (r::rs)).1.num,((encs ds).length:Int)⟩]) hk' (by omega) (by rw[← hT]; exact ha) (by rw[← hT]; exact hl) (by
     rw[zaag,zaag];simp only[List.length_append,List.length_cons,List.length_nil];omega)
    rw[← hT] at this;rw[this];cases toks k ((encs (ds++es++fs)).length:Int) (skip false (restR (r::rs))) with
    |inl e=>rfl
    |inr l=>simp only[List.append_assoc,List.singleton_append]
theorem zakb:∀ (k:Nat) (p:Int) (rs:List Int),rs.all Sp.isRune=true→∀ l,toks k p rs=.inr l→l.length≤rs.length
 |0,p,rs,_,l,h=>by simp only[toks,Sum.inr.injEq] at h; subst h; simp
 |k+1,p,[],_,l,h=>by simp only[toks,Sum.inr.injEq] at h; subst h; simp
 |k+1,p,r::rs,ha,l,h=>by
  simp only[toks] at h;cases hc:((tokR (r::rs)).2 != 0) with
  |true=>rw[hc] at h; simp at h
  |false=>
   rw[hc] at h;have h0:(tokR (r::rs)).2=0:=by simpa using hc
   obtain ⟨es,hes,hsp,_⟩:=zah1 r rs ha h0;obtain ⟨fs,hfs⟩:=zaa8 (restR (r::rs)) false;have q1:=congrArg List.length hsp;have q2:=congrArg List.length hfs;have q3:0<es.length:=List.length_pos_iff.2 hes;simp only[List.length_append,List.length_cons] at q1 q2;simp only[cond_false] at h;have hs:(skip false (restR (r::rs))).all Sp.isRune=true:=zacc (ds:=es++fs) (by rw[List.append_assoc,← hfs,← hsp]; exact ha);split at h
   ·cases h
   ·rename_i l' hl';simp only[Sum.inr.injEq] at h;subst h;have:=zakb k _ _ hs l' hl';simp only[List.length_cons];omega
theorem zai9 (rs:List Int) (ha:rs.all Sp.isRune=true) (hl:(encs rs).length≤4000):qag (encs rs)=some (match toks rs.length (((encs rs).length:Int)-(encs (skip false rs)).length) (skip false rs) with
  |.inl e=>([],⟨e.1,e.2,[]⟩)
  |.inr l=>(l++[⟨5,[],0,((encs rs).length:Int)⟩],⟨0,0,[]⟩)):=by
 obtain ⟨fs,hfs⟩:=zaa8 rs false;obtain ⟨q1,q2⟩:=zaox rs ha hl;have hsk:((encs rs).length:Int)-(encs (skip false rs)).length=((encs fs).length:Int):=by
  have:(encs rs).length=(encs fs).length+(encs (skip false rs)).length:=by
   conv=>lhs; rw[hfs]
   rw[zaag,List.length_append]
  omega
 have hL:=zat8 0 0 [] rs.length fuel (skip false rs) fs [] (by have:=congrArg List.length hfs; rw[List.length_append] at this; omega) (by have:=zabi rs; unfold fuel; omega) (by rw[← hfs]; exact ha) (by rw[← hfs]; exact hl) (by simp);rw[← hfs] at hL;rw[qag,zaaa];unfold qag_f;rw[zaqn,q1,q2,Option.bind_some];simp only[bne_self_eq_false,cond_false];rw[zaqg rs ha (by omega),Option.bind_some,hsk,qag_l6,zaaa,hL,Option.bind_some];have hlen:=zakb rs.length ((encs fs).length:Int) (skip false rs) (zacc (ds:=fs) (by rw[← hfs]; exact ha));cases ht:toks rs.length ((encs fs).length:Int) (skip false rs) with
 |inl e=>rfl
 |inr l=>
  have hl2:=hlen l ht;have h3:(skip false rs).length≤rs.length:=by
   have:=congrArg List.length hfs;rw[List.length_append] at this;omega
  have h4:=zabi rs;simp only[List.nil_append];rw[decide_eq_true (show _∧_ by simp only[List.length_cons,List.length_nil]; omega),cond_true]
end Lift.A1P
namespace Lift.A1P
open Go Go.RowKit Lift Go.IntWalk Lift.Fn
end Lift.A1P
namespace Lift.A1P
open Go Go.RowKit Lift Go.IntWalk Lift.Fn
def whole (w:List Int) (t:Token):Prop:=w≠[]∧w.all Sp.isRune=true∧tokR w=(t,0)∧t.text=encs w
theorem zaig {w:List Int} (h:goesR (w.headD 0)=true):(tokR w).1.text=encs (w.takeWhile goesR):=by
 unfold tokR;rw[h,cond_true];cases Sp.digit (w.headD 0) with
 |true=>cases (numS (encs (w.takeWhile goesR))).2<;>rfl
 |false=>
  cases words.contains (encs (w.takeWhile goesR)) with
  |true=>rfl
  |false=>cases decide (16<(w.takeWhile goesR).length)<;>rfl
theorem zaq7 {a b:List Int} (h:encs (a++b)=encs a):b=[]:=by
 have h1:=congrArg List.length h;rw[zaag,List.length_append] at h1;have h2:=zabi b;have:b.length=0:=by omega
 exact List.eq_nil_of_length_eq_zero this
theorem zalh {w:List Int} {t:Token} (h:whole w t) (hg:goesR (w.headD 0)=true):w.takeWhile goesR=w:=by
 obtain ⟨_,_,h3,h4⟩:=h;have h5:=zaig hg;rw[h3] at h5;have h6:encs (w.takeWhile goesR++w.dropWhile goesR)=encs (w.takeWhile goesR):=by
  rw[List.takeWhile_append_dropWhile,← h5,← h4]
 have h7:=zaq7 h6;have h8:=List.takeWhile_append_dropWhile (p:=goesR) (l:=w);rw[h7,List.append_nil] at h8;exact h8
theorem zahr {w:List Int} (h:w≠[]) (r:List Int):(w++r).headD 0=w.headD 0:=by
 cases w with
 |nil=>exact absurd rfl h
 |cons a w=>rfl
theorem zaqp:goesR 32=false:=by decide +kernel
theorem zaos {w r:List Int} (h:w.takeWhile goesR=w):(w++32::r).takeWhile goesR=w:=by
 have hall:∀ x∈w,goesR x=true:=fun x hx=>by
  rw[← h] at hx;exact List.all_eq_true.1 (List.all_takeWhile) x hx
 rw[List.takeWhile_append_of_pos hall,List.takeWhile_cons,zaqp];simp
theorem zaty {w r:List Int} (h:w.takeWhile goesR=w):(w++32::r).dropWhile goesR=32::r:=by
 have h1:=zaos (r:=r) h;have h2:=List.takeWhile_append_dropWhile (p:=goesR) (l:=w++32::r);rw[h1] at h2;exact List.append_cancel_left h2
theorem zasf:∀ b∈ones,twos.contains [b,32]=false:=by decide
theorem zamm:encB 32=[32]:=by decide +kernel
theorem zauu {w:List Int} {r:List Int} (h0:encs w≠[]) (h:sgn (encs w)=encs w):sgn (encs (w++32::r))=encs w:=by
 rw[zaag,zaao,zamm];unfold sgn at h;by_cases h1:1<(encs w).length∧twos.contains ((encs w).take 2)=true
 ·rw[if_pos h1] at h;have hl:(encs w).length=2:=by
   have:=congrArg List.length h;rw[List.length_take] at this;omega
  have ht:(encs w++([32]++encs r)).take 2=encs w:=by rw[← hl,List.take_left]
  unfold sgn;rw[if_pos ⟨by rw[List.length_append]; omega,by rw[ht]; rw[h] at h1; exact h1.2⟩,ht]
 ·rw[if_neg h1] at h;by_cases h2:ones.contains ((encs w).headD 0)=true
  ·rw[if_pos h2] at h;match hw:encs w,h0 with
   |b::t,_=>
    rw[hw] at h h2;have ht:t=[]:=by
     have:=congrArg List.length h;simp only[List.take_succ_cons,List.take_zero,List.length_cons,List.length_nil] at this;exact List.eq_nil_of_length_eq_zero (by omega)
    subst ht;have hb:b∈ones:=by simpa using h2
    have h3:=zasf b hb;unfold sgn;refine (if_neg fun hh=>?_).trans ((if_pos ?_).trans rfl)
    ·have h9:twos.contains [b,32]=true:=hh.2;rw[h3] at h9;cases h9
    ·exact h2
  ·rw[if_neg h2] at h;exact absurd h.symm h0
theorem zami {w:List Int} {t:Token} (h:whole w t) (r:List Int):tokR (w++32::r)=(t,0)∧restR (w++32::r)=32::r:=by
 obtain ⟨h1,h2,h3,h4⟩:=h;have hh:=zahr h1 (32::r);cases hg:goesR (w.headD 0) with
 |true=>
  have hw:=zalh ⟨h1,h2,h3,h4⟩ hg;have ht:=zaos (r:=r) hw;constructor
  ·rw[← h3];unfold tokR;rw[hh,hg,ht,hw];rfl
  ·unfold restR;rw[hh,hg,cond_true,zaty hw]
 |false=>
  have h0:encs w≠[]:=by
   match w,h1 with
   |a::w,_=>obtain ⟨b,u,hb⟩:=zahm a w; rw[hb]; exact List.cons_ne_nil _ _
  have hs:sgn (encs w)=encs w:=by
   have h5:=h3;unfold tokR at h5;rw[hg,cond_false] at h5;cases hc:(sgn (encs w)==[]) with
   |true=>rw[hc] at h5; simp at h5
   |false=>
    rw[hc,cond_false] at h5;have:=congrArg (fun x=>x.1.text) h5;simp only at this;rw[this,h4]
  have ha:=zauu (r:=r) h0 hs;constructor
  ·rw[← h3];unfold tokR;rw[hh,hg,ha,hs];rfl
  ·unfold restR;rw[hh,hg,cond_false,ha];have hlen:(encs w).length=w.length:=by
    match w,h1 with
    |a::w,_=>
     obtain ⟨q1,q2⟩:=zagj a w h2 (by rw[hs]; exact h0);rw[hs] at q1;have q3:encs ((a::w).take (encs (a::w)).length++(a::w).drop (encs (a::w)).length)=encs ((a::w).take (encs (a::w)).length):=by rw[List.take_append_drop,q1]
     have q5:=zabi (a::w)
     -- every byte of a sign is a rune
     have q6:(sgn (encs (a::w))).length≤2:=by
      unfold sgn;split
      ·rw[List.length_take]; omega
      ·split
       ·rw[List.length_take]; omega
       ·simp
     rw[hs] at q6;have q7:=zabi w;have q8:(encs (a::w)).length=(encB a).length+(encs w).length:=by rw[zaao,List.length_append]
     have q9:=zacm a;have q10:=zacx a;by_cases hz:w.length=0
     ·have hwn:w=[]:=List.eq_nil_of_length_eq_zero hz;subst hwn;obtain ⟨b,u,hb⟩:=zahm a [];simp only[List.all_cons,Bool.and_eq_true] at h2;have hbn:b.toNat<128:=by
       unfold sgn at hs;by_cases k1:1<(encs [a]).length∧twos.contains ((encs [a]).take 2)=true
       ·have hm:(encs [a]).take 2∈twos:=by simpa using k1.2
        have:=(zajh _ hm).2;rw[hb] at this;cases u with
        |nil=>simp only[List.take_succ_cons,List.take_nil,List.all_cons,List.all_nil,Bool.and_true,decide_eq_true_eq] at this; exact this
        |cons c u=>simp only[List.take_succ_cons,List.take_zero,List.all_cons,Bool.and_eq_true,decide_eq_true_eq] at this; exact this.1
       ·rw[if_neg k1] at hs;by_cases k2:ones.contains ((encs [a]).headD 0)=true
        ·rw[hb] at k2;exact zaje b (by simpa using k2)
        ·rw[if_neg k2] at hs;exact absurd hs.symm h0
      obtain ⟨e1,_⟩:=zadm h2.1 hb hbn;rw[zaao,e1];rfl
     ·simp only[List.length_cons];omega
   rw[hlen,List.drop_left]
end Lift.A1P
namespace Lift.A1P
open Go Go.RowKit Lift Go.IntWalk Lift.Fn
end Lift.A1P
namespace Lift.A1P
open Go Go.RowKit Lift Go.IntWalk Lift.Fn
end Lift.A1P
namespace Lift.A1P
open Go Go.RowKit Lift Go.IntWalk Lift.Fn
def core (t:Token):Int×List UInt8×Int:=(t.kind,t.text,t.num)
end Lift.A1P
namespace Lift.A4
open Go Go.RowKit Lift Go.IntWalk Lift.Fn Lift.A1P
set_option linter.unusedVariables false
def Ends (l:List Token):Prop:=∃ u e,l=u++[e]∧e.kind=5
theorem zaew {l:List Token} (h:Ends l):∃ t r,l=t::r:=by
 obtain ⟨u,e,rfl,_⟩:=h;cases u with
 |nil=>exact ⟨e,[],rfl⟩
 |cons a u=>exact ⟨a,u++[e],rfl⟩
theorem zafg {t:Token} {r:List Token} (h:Ends (t::r)) (hk:t.kind≠5):Ends r:=by
 obtain ⟨u,e,he,h5⟩:=h;cases u with
 |nil=>
  simp only[List.nil_append,List.cons.injEq] at he;exact absurd (he.1▸h5) hk
 |cons a u=>
  simp only[List.cons_append,List.cons.injEq] at he;exact ⟨u,e,he.2,h5⟩
variable {R S X Y:Type}
def Good (P:List Token→Option R) (ok:X→List Token→R) (bad:Wrong→R) (C:X→Nat→Prop) (ts:List Token):Prop:=
  ∃ (u:List Token) (t:Token) (r:List Token),ts=u++t::r∧Ends (t::r) ∧
    ((∃ x,C x u.length∧∀ u' t' r',List.map core u'=List.map core u→core t'=core t→P (u'++t'::r')=some (ok x (t'::r'))) ∨
     (∀ u' t' r',List.map core u'=List.map core u→core t'=core t→P (u'++t'::r')=some (bad ⟨t'.at_⟩)))
theorem zadd {P:List Token→Option R} {ok:X→List Token→R} {bad:Wrong→R} {C D:X→Nat→Prop} {ts:List Token}
  (h:Good P ok bad C ts) (hc:∀ x n,n<ts.length→C x n→D x n):Good P ok bad D ts:=by
 obtain ⟨u,t,r,h1,h2,h3⟩:=h;refine ⟨u,t,r,h1,h2,?_⟩;rcases h3 with ⟨x,c,h⟩|h
 ·refine .inl ⟨x,hc x _ ?_ c,h⟩;rw[h1,List.length_append,List.length_cons];omega
 ·exact .inr h
theorem zaam (ok:X→List Token→R) (bad:Wrong→R) {C:X→Nat→Prop} {ts:List Token} (x:X) (he:Ends ts) (hc:C x 0) :
  Good (fun z=>some (ok x z)) ok bad C ts:=by
 obtain ⟨t,r,rfl⟩:=zaew he;refine ⟨[],t,r,rfl,he,.inl ⟨x,hc,fun u' t' r' hu ht=>?_⟩⟩
 have:u'=[]:=by cases u' with
  |nil=>rfl
  |cons a u'=>cases hu
 rw[this];rfl
theorem zaaq {P:List Token→Option R} {ok:X→List Token→R} {bad:Wrong→R} {C:X→Nat→Prop} {ts:List Token}
  {F:R→Option S} {ok':Y→List Token→S} {bad':Wrong→S} {D:Y→Nat→Prop}
  (h:Good P ok bad C ts)
  (hk:∀ x n t1,C x n→Ends t1→n+t1.length=ts.length→Good (fun z=>F (ok x z)) ok' bad' (fun y m=>D y (n+m)) t1)
  (hb:∀ w,F (bad w)=some (bad' w)):Good (fun z=>Option.bind (P z) F) ok' bad' D ts:=by
 obtain ⟨u,t,r,rfl,h2,h3⟩:=h;rcases h3 with ⟨x,c,h⟩|h
 ·obtain ⟨u2,t2,r2,e,h5,h6⟩:=hk x u.length (t::r) c h2 (by rw[List.length_append]);refine ⟨u++u2,t2,r2,by rw[e,List.append_assoc],h5,?_⟩;have key:∀ u' t' r',List.map core u'=List.map core (u++u2)→core t'=core t2→∃ v w,u'=v++w∧List.map core w=List.map core u2∧P (u'++t'::r')=some (ok x (w++t'::r')):=by
   intro u' t' r' hu ht;refine ⟨u'.take u.length,u'.drop u.length,(List.take_append_drop _ _).symm,?_,?_⟩
   ·rw[List.map_drop,hu,List.map_append,← List.length_map (f:=core),List.drop_left]
   ·have e1:List.map core (u'.take u.length)=List.map core u:=by
     rw[List.map_take,hu,List.map_append,← List.length_map (f:=core),List.take_left]
    have e2:List.map core (u'.drop u.length)=List.map core u2:=by
     rw[List.map_drop,hu,List.map_append,← List.length_map (f:=core),List.drop_left]
    rw[show u'++t'::r'=u'.take u.length++(u'.drop u.length++t'::r') by rw[← List.append_assoc,List.take_append_drop]];generalize u'.drop u.length=w at e2 ⊢;cases u2 with
    |nil=>
     have:w=[]:=by cases w with
      |nil=>rfl
      |cons a w=>cases e2
     rw[this];simp only[List.nil_append,List.cons.injEq] at e;exact h _ _ _ e1 (by rw[ht,e.1])
    |cons a u2=>
     cases w with
     |nil=>cases e2
     |cons b w=>
      simp only[List.map_cons,List.cons.injEq] at e2;simp only[List.cons_append,List.cons.injEq] at e;exact h _ _ _ e1 (by rw[e2.1,e.1])
  rcases h6 with ⟨y,d,h7⟩|h7
  ·refine .inl ⟨y,by rw[List.length_append]; exact d,fun u' t' r' hu ht=>?_⟩;obtain ⟨v,w,rfl,hw,hp⟩:=key u' t' r' hu ht;show Option.bind (P _) F=_;rw[hp,Option.bind_some];exact h7 w t' r' hw ht
  ·refine .inr fun u' t' r' hu ht=>?_
   obtain ⟨v,w,rfl,hw,hp⟩:=key u' t' r' hu ht;show Option.bind (P _) F=_;rw[hp,Option.bind_some];exact h7 w t' r' hw ht
 ·refine ⟨u,t,r,rfl,h2,.inr fun u' t' r' hu ht=>?_⟩;show Option.bind (P _) F=_;rw[h u' t' r' hu ht,Option.bind_some,hb]
theorem zae9 {P:List Token→Option R} {Q:List Token→Option R} {ok:X→List Token→R} {bad:Wrong→R} {C:X→Nat→Prop} {t:Token} {r:List Token}
  (h:Good Q ok bad (fun x n=>C x (n+1)) r) (hp:∀ t' z,core t'=core t→z≠[]→P (t'::z)=Q z):Good P ok bad C (t::r):=by
 obtain ⟨u,s,q,rfl,h2,h3⟩:=h;refine ⟨t::u,s,q,rfl,h2,?_⟩;have key:∀ u' t' r',List.map core u'=List.map core (t::u)→∃ v,List.map core v=List.map core u∧P (u'++t'::r')=Q (v++t'::r'):=by
  intro u' t' r' hu;cases u' with
  |nil=>cases hu
  |cons a v=>
   simp only[List.map_cons,List.cons.injEq] at hu;exact ⟨v,hu.2,hp a _ hu.1 (by simp)⟩
 rcases h3 with ⟨x,c,h⟩|h
 ·refine .inl ⟨x,c,fun u' t' r' hu ht=>?_⟩;obtain ⟨v,hv,e⟩:=key u' t' r' hu;rw[e,h v t' r' hv ht]
 ·refine .inr fun u' t' r' hu ht=>?_
  obtain ⟨v,hv,e⟩:=key u' t' r' hu;rw[e,h v t' r' hv ht]
theorem zam3 {P:List Token→Option R} {Q:List Token→Option R} {ok:X→List Token→R} {bad:Wrong→R} {C:X→Nat→Prop} {t:Token} {r:List Token}
  (h:Good Q ok bad C (t::r)) (hp:∀ t' z,core t'=core t→P (t'::z)=Q (t'::z)):Good P ok bad C (t::r):=by
 obtain ⟨u,s,q,e,h2,h3⟩:=h;refine ⟨u,s,q,e,h2,?_⟩;have key:∀ u' t' r',List.map core u'=List.map core u→core t'=core s→P (u'++t'::r')=Q (u'++t'::r'):=by
  intro u' t' r' hu ht;cases u with
  |nil=>
   have:u'=[]:=by cases u' with
    |nil=>rfl
    |cons a v=>cases hu
   subst this;simp only[List.nil_append,List.cons.injEq] at e ⊢;exact hp t' r' (by rw[ht,e.1])
  |cons a u=>
   cases u' with
   |nil=>cases hu
   |cons b v=>
    simp only[List.map_cons,List.cons.injEq] at hu;simp only[List.cons_append,List.cons.injEq] at e ⊢;exact hp b _ (by rw[hu.1,e.1])
 rcases h3 with ⟨x,c,h⟩|h
 ·exact .inl ⟨x,c,fun u' t' r' hu ht=>by rw[key u' t' r' hu ht,h u' t' r' hu ht]⟩
 ·exact .inr fun u' t' r' hu ht=>by rw[key u' t' r' hu ht,h u' t' r' hu ht]
theorem zah9 {P:List Token→Option R} {ok:X→List Token→R} {bad:Wrong→R} {C:X→Nat→Prop} {t:Token} {r:List Token} (he:Ends (t::r))
  (hp:∀ t' z,core t'=core t→P (t'::z)=some (bad ⟨t'.at_⟩)):Good P ok bad C (t::r):=by
 refine ⟨[],t,r,rfl,he,.inr fun u' t' r' hu ht=>?_⟩
 have:u'=[]:=by cases u' with
  |nil=>rfl
  |cons a v=>cases hu
 subst this;exact hp t' r' ht
end Lift.A4
namespace Lift.A4
open Go Go.RowKit Lift Go.IntWalk Lift.Fn Lift.A1P
set_option linter.unusedVariables false
set_option linter.unusedSimpArgs false
theorem next1 (t:Token) (r:List Token):qau (t::r)=some (t,t::r):=by
 rw[qau,zaaa]; rfl
def hit (s:List UInt8) (t:Token):Bool:=(bif t.kind==4 then true else t.kind==3)&&t.text==s
theorem is1 (s:List UInt8) (t:Token) (r:List Token):qas s (t::r)=some (hit s t,t::r):=by
 rw[qas,zaaa];unfold qas_f hit;rw[next1,Option.bind_some];cases t.kind==4<;>cases t.kind==3<;>rfl
theorem take1 (t:Token) (r:List Token):qaA (t::r)=some (t,r):=by
 rw[qaA,zaaa];unfold qaA_f;rw[next1,Option.bind_some];dsimp only;have e:(decide ((0:Int)≤(1:Int))&&(decide ((1:Int)≤(↑(List.length (t::r)):Int))&&decide ((↑(List.length (t::r)):Int)≤(↑(List.length (t::r)):Int))))=true:=by
  simp only[Bool.and_eq_true,decide_eq_true_eq,List.length_cons];omega
 rw[e,cond_true];have:List.take (Int.toNat (↑(List.length (t::r)):Int)) (t::r)=t::r:=by
  rw[Int.toNat_natCast,List.take_length]
 rw[this];rfl
theorem took1 (s:List UInt8) (t:Token) (r:List Token):qaB s (t::r)=some (hit s t,bif hit s t then r else t::r):=by
 rw[qaB,zaaa];unfold qaB_f;rw[is1,Option.bind_some];dsimp only;cases h:hit s t with
 |false=>rfl
 |true=>rw[cond_true,take1]; rfl
theorem zama (t:Token) (r:List Token):qay (t::r)=some ⟨t.at_⟩:=by
 rw[qay,zaaa];unfold qay_f;rw[next1];rfl
theorem of1 (k:Int) (t:Token) (r:List Token):qav k (t::r)=some (bif t.kind != k then .inr ⟨t.at_⟩ else .inl (t,r)):=by
 rw[qav,zaaa];unfold qav_f;rw[next1,Option.bind_some];dsimp only;cases t.kind != k with
 |true=>rw[cond_true,zama]; rfl
 |false=>rw[cond_false,take1]; rfl
theorem name1 (t:Token) (r:List Token):qat (t::r)=some (bif t.kind != 1 then .inr ⟨t.at_⟩ else .inl (t.text,r)):=by
 rw[qat,zaaa];unfold qat_f;rw[of1,Option.bind_some];cases t.kind != 1<;>rfl
theorem want1 (s:List UInt8) (t:Token) (r:List Token):qaD s (t::r)=some (bif hit s t then .inl r else .inr ⟨t.at_⟩):=by
 rw[qaD,zaaa];unfold qaD_f;rw[took1,Option.bind_some];cases hit s t with
 |true=>rfl
 |false=>
  simp only[Bool.not_false,cond_true,cond_false];rw[zama];rfl
theorem zahu {s:List UInt8} {t t':Token} (h:core t'=core t):hit s t'=hit s t:=by
 simp only[core,Prod.mk.injEq] at h;unfold hit;rw[h.1,h.2.1]
theorem zaqd {s:List UInt8} {t:Token} (h:hit s t=true):t.kind≠5:=by
 intro h5;unfold hit at h;rw[h5] at h;cases h
variable {S X:Type} {ok:X→List Token→S} {bad:Wrong→S} {D:X→Nat→Prop} {ts:List Token}
theorem zabf {s:List UInt8} {F:Bool×List Token→Option S} (he:Ends ts)
  (hy:∀ r,Ends r→r.length+1=ts.length→Good (fun z=>F (true,z)) ok bad (fun x n=>D x (n+1)) r)
  (hn:Good (fun z=>F (false,z)) ok bad D ts):Good (fun z=>Option.bind (qaB s z) F) ok bad D ts:=by
 obtain ⟨t,r,rfl⟩:=zaew he;cases h:hit s t with
 |true=>
  refine zae9 (hy r (zafg he (zaqd h)) rfl) fun t' z ht _=>?_
  show Option.bind (qaB s (t'::z)) F=_;rw[took1,zahu ht,h];rfl
 |false=>
  refine zam3 hn fun t' z ht=>?_
  show Option.bind (qaB s (t'::z)) F=_;rw[took1,zahu ht,h];rfl
theorem zabe {s:List UInt8} {F:(List Token)⊕Wrong→Option S} (he:Ends ts)
  (hy:∀ r,Ends r→r.length+1=ts.length→Good (fun z=>F (.inl z)) ok bad (fun x n=>D x (n+1)) r)
  (hb:∀ w,F (.inr w)=some (bad w)):Good (fun z=>Option.bind (qaD s z) F) ok bad D ts:=by
 obtain ⟨t,r,rfl⟩:=zaew he;cases h:hit s t with
 |true=>
  refine zae9 (hy r (zafg he (zaqd h)) rfl) fun t' z ht _=>?_
  show Option.bind (qaD s (t'::z)) F=_;rw[want1,zahu ht,h];rfl
 |false=>
  refine zah9 he fun t' z ht=>?_
  show Option.bind (qaD s (t'::z)) F=_;rw[want1,zahu ht,h,cond_false,Option.bind_some,hb]
theorem zaqf {k:Int} {F:(Token×List Token)⊕Wrong→Option S} (he:Ends ts) (hk:k≠5)
  (hF:∀ c x n a b z,F (.inl (⟨c,x,n,a⟩,z))=F (.inl (⟨c,x,n,b⟩,z)))
  (hy:∀ t r,Ends r→r.length+1=ts.length→Good (fun z=>F (.inl (t,z))) ok bad (fun x n=>D x (n+1)) r)
  (hb:∀ w,F (.inr w)=some (bad w)):Good (fun z=>Option.bind (qav k z) F) ok bad D ts:=by
 obtain ⟨t,r,rfl⟩:=zaew he;by_cases h:t.kind=k
 ·refine zae9 (hy t r (zafg he (by rw[h]; exact hk)) rfl) fun t' z ht _=>?_
  show Option.bind (qav k (t'::z)) F=_;simp only[core,Prod.mk.injEq] at ht;have e:(t'.kind != k)=false:=by rw[ht.1,h]; simp
  rw[of1,e,cond_false,Option.bind_some];obtain ⟨c,x,n,a⟩:=t;obtain ⟨c',x',n',a'⟩:=t';obtain ⟨rfl,rfl,rfl⟩:=ht;exact hF _ _ _ _ _ _
 ·refine zah9 he fun t' z ht=>?_
  show Option.bind (qav k (t'::z)) F=_;simp only[core,Prod.mk.injEq] at ht;have e:(t'.kind != k)=true:=by rw[ht.1]; simpa using h
  rw[of1,e,cond_true,Option.bind_some,hb]
theorem zacu {F:((List UInt8)×List Token)⊕Wrong→Option S} (he:Ends ts)
  (hy:∀ x r,Ends r→r.length+1=ts.length→Good (fun z=>F (.inl (x,z))) ok bad (fun x n=>D x (n+1)) r)
  (hb:∀ w,F (.inr w)=some (bad w)):Good (fun z=>Option.bind (qat z) F) ok bad D ts:=by
 obtain ⟨t,r,rfl⟩:=zaew he;by_cases h:t.kind=1
 ·refine zae9 (hy t.text r (zafg he (by rw[h]; decide)) rfl) fun t' z ht _=>?_
  show Option.bind (qat (t'::z)) F=_;simp only[core,Prod.mk.injEq] at ht;have e:(t'.kind != 1)=false:=by rw[ht.1,h]; rfl
  rw[name1,e,cond_false,Option.bind_some,ht.2.1]
 ·refine zah9 he fun t' z ht=>?_
  show Option.bind (qat (t'::z)) F=_;simp only[core,Prod.mk.injEq] at ht;have e:(t'.kind != 1)=true:=by rw[ht.1]; simpa using h
  rw[name1,e,cond_true,Option.bind_some,hb]
theorem zaed {F:Token×List Token→Option S} (he:Ends ts)
  (hF:∀ c x n a b z,F (⟨c,x,n,a⟩,z)=F (⟨c,x,n,b⟩,z))
  (h:∀ t r,ts=t::r→Good (fun z=>F (t,z)) ok bad D (t::r)):Good (fun z=>Option.bind (qau z) F) ok bad D ts:=by
 obtain ⟨t,r,rfl⟩:=zaew he;refine zam3 (h t r rfl) fun t' z ht=>?_
 show Option.bind (qau (t'::z)) F=F (t,t'::z);rw[next1,Option.bind_some];simp only[core,Prod.mk.injEq] at ht;obtain ⟨c,x,n,a⟩:=t;obtain ⟨c',x',n',a'⟩:=t';obtain ⟨rfl,rfl,rfl⟩:=ht;exact hF _ _ _ _ _ _
theorem zamu {t:Token} {r:List Token} {F:Token×List Token→Option S} (he:Ends (t::r)) (hk:t.kind≠5)
  (hF:∀ c x n a b z,F (⟨c,x,n,a⟩,z)=F (⟨c,x,n,b⟩,z))
  (h:Ends r→Good (fun z=>F (t,z)) ok bad (fun x n=>D x (n+1)) r):Good (fun z=>Option.bind (qaA z) F) ok bad D (t::r):=by
 refine zae9 (h (zafg he hk)) fun t' z ht _=>?_
 show Option.bind (qaA (t'::z)) F=F (t,z);rw[take1,Option.bind_some];simp only[core,Prod.mk.injEq] at ht;obtain ⟨c,x,n,a⟩:=t;obtain ⟨c',x',n',a'⟩:=t';obtain ⟨rfl,rfl,rfl⟩:=ht;exact hF _ _ _ _ _ _
theorem zaps {F:Wrong→Option S} (he:Ends ts) (h:∀ w,F w=some (bad w)):Good (fun z=>Option.bind (qay z) F) ok bad D ts:=by
 obtain ⟨t,r,rfl⟩:=zaew he;refine zah9 he fun t' z ht=>?_
 show Option.bind (qay (t'::z)) F=_;rw[zama,Option.bind_some,h]
end Lift.A4
namespace Lift.A3
open Go Go.RowKit Lift Go.IntWalk Lift.Fn
set_option linter.unusedVariables false
set_option linter.unusedSimpArgs false
theorem zad8 {α σ:Type} (l:List α) (body:α→σ→Option σ) (L:Nat→Int→σ→Option σ)
  (h0:∀ n i s,0≤i→¬ i<(l.length:Int)→L (n+1) i s=some s)
  (h1:∀ n i s (x:α),0≤i→i<(l.length:Int)→l[i.toNat]? = some x→L (n+1) i s=(body x s).bind fun s'=>L n (i+1) s') :
  ∀ (k n:Nat) (i:Int) (s:σ),0≤i→l.length-i.toNat≤k→k<n→L n i s=(l.drop i.toNat).foldlM (fun s x=>body x s) s:=by
 intro k;induction k with
 |zero=>
  intro n i s hi hk hn;obtain ⟨n,rfl⟩:∃ q,n=q+1:=⟨n-1,by omega⟩;rw[h0 n i s hi (by omega),List.drop_eq_nil_of_le (by omega)];rfl
 |succ k ih=>
  intro n i s hi hk hn;obtain ⟨n,rfl⟩:∃ q,n=q+1:=⟨n-1,by omega⟩;by_cases c:i<(l.length:Int)
  ·have hlt:i.toNat<l.length:=by omega
   rw[h1 n i s l[i.toNat] hi c (List.getElem?_eq_getElem hlt),List.drop_eq_getElem_cons hlt,List.foldlM_cons];congr 1;funext s';rw[ih n (i+1) s' (by omega) (by omega) (by omega)];congr 2;omega
  ·rw[h0 n i s hi c,List.drop_eq_nil_of_le (by omega)];rfl
inductive Ev where
 |s (x:TStmt) (d:Int)
 |e (x:TExpr) (d:Int)
mutual
def evE:TExpr→Int→List Ev
 |⟨k,n,m,l⟩,d=>.e ⟨k,n,m,l⟩ d::evEs l (d+1)
def evEs:List TExpr→Int→List Ev
 |[],_=>[]
 |x::l,d=>evE x d++evEs l d
end
def zacb (x:TExpr):Bool:=(x.kind != 0)||decide (0<x.args.length)
mutual
def evS:TStmt→Int→List Ev
 |⟨k,r,m,x,c,t,o⟩,d=>.s ⟨k,r,m,x,c,t,o⟩ d::((if zacb x then evE x 1 else [])++(evSs t (d+1)++evSs o (d+1)))
def evSs:List TStmt→Int→List Ev
 |[],_=>[]
 |x::l,d=>evS x d++evSs l d
end
def evP (p:TProg):List Ev:=p.threads.flatMap fun t=>evSs t.body 1
mutual
def nE:TExpr→Nat
 |⟨_,_,_,l⟩=>1+nEs l
def nEs:List TExpr→Nat
 |[]=>0
 |x::l=>nE x+nEs l
end
mutual
def nS:TStmt→Nat
 |⟨_,_,_,x,_,t,o⟩=>1+nE x+nSs t+nSs o
def nSs:List TStmt→Nat
 |[]=>0
 |x::l=>nS x+nSs l
end
def nT:List TThread→Nat
 |[]=>0
 |t::l=>1+nSs t.body+nT l
theorem nE_eq (x:TExpr):nE x=1+nEs x.args:=by cases x; simp[nE]
theorem nS_eq (x:TStmt):nS x=1+nE x.expr+nSs x.then_+nSs x.else_:=by cases x; simp[nS]
theorem zavn (x:TExpr) (d:Int):evE x d=.e x d::evEs x.args (d+1):=by cases x; simp[evE]
theorem zavc (x:TStmt) (d:Int):evS x d=.s x d::((if zacb x.expr then evE x.expr 1 else [])++(evSs x.then_ (d+1)++evSs x.else_ (d+1))):=by cases x; simp[evS]
theorem zal6:∀ l:List TExpr,l.length≤nEs l
 |[]=>by simp[nEs]
 |x::l=>by have:=zal6 l; have:=nE_eq x; simp only[nEs,List.length_cons]; omega
theorem zahl:∀ l:List TStmt,l.length≤nSs l
 |[]=>by simp[nSs]
 |x::l=>by have:=zahl l; have:=nS_eq x; simp only[nSs,List.length_cons]; omega
theorem zale:∀ l:List TThread,l.length≤nT l
 |[]=>by simp[nT]
 |x::l=>by have:=zale l; simp only[nT,List.length_cons]; omega
theorem zal4:∀ {l:List TExpr} {x:TExpr},x∈l→nE x≤nEs l
 |y::l,x,h=>by
  simp only[nEs];cases h with
  |head=>omega
  |tail _ h=>have:=zal4 h; omega
theorem zal8:∀ {l:List TStmt} {x:TStmt},x∈l→nS x≤nSs l
 |y::l,x,h=>by
  simp only[nSs];cases h with
  |head=>omega
  |tail _ h=>have:=zal8 h; omega
theorem zak7:∀ {l:List TThread} {x:TThread},x∈l→nSs x.body<nT l
 |y::l,x,h=>by
  simp only[nT];cases h with
  |head=>omega
  |tail _ h=>have:=zak7 h; omega
theorem zamh : ∀ (l : List TExpr) (d : Int), evEs l d = l.flatMap fun x => evE x d
 |[],d=>by simp[evEs]
 |x::l,d=>by simp[evEs,zamh l d]
theorem zamg : ∀ (l : List TStmt) (d : Int), evSs l d = l.flatMap fun x => evS x d
 |[],d=>by simp[evSs]
 |x::l,d=>by simp[evSs,zamg l d]
theorem zad0 {α β σ : Type} (f : α → List β) (g : σ → β → Option σ) : ∀ (l : List α) (s : σ), (l.flatMap f).foldlM g s = l.foldlM (fun s x => (f x).foldlM g s) s
 |[],s=>rfl
 |x::l,s=>by
  rw[List.flatMap_cons,List.foldlM_append,List.foldlM_cons];congr 1;funext s';exact zad0 f g l s'
theorem zaef {α β:Type} (o:Option (α×β)):(o.bind fun y=>some (y.1,y.2))=o:=by cases o<;>rfl
theorem zaa0 (x:TExpr):TExpr.mk x.kind x.num x.name x.args=x:=by cases x; rfl
theorem zauc (x:TStmt):TStmt.mk x.kind x.reg x.name (TExpr.mk x.expr.kind x.expr.num x.expr.name x.expr.args) x.count x.then_ x.else_=x:=by
 obtain ⟨k,r,n,⟨_,_,_,_⟩,c,t,o⟩:=x;rfl
theorem zaki (x:TStmt):TStmt.mk x.kind x.reg x.name x.expr x.count x.then_ x.else_=x:=by cases x; rfl
theorem zajg (x:TProg):TProg.mk x.cells x.mutexes x.threads=x:=by cases x; rfl
def atEv {σ:Type} (g:TStmt→Int→σ→Option σ) (h:TExpr→Int→σ→Option σ) (s:σ):Ev→Option σ
 |.s x d=>g x d s
 |.e x d=>h x d s
structure WalksE {σ:Type} (h:TExpr→Int→σ→Option σ) (F:Nat→TExpr→Int→σ→Option σ):Prop where
 step:∀ n x d s,(d:Int)+1≤4611686018427387904→-4611686018427387904≤d→x.args.length≤4611686018427387904→F (n+1) x d s=(h x d s).bind fun s'=>x.args.foldlM (fun s y=>F n y (d+1) s) s'
theorem zaru {σ:Type} {g:TStmt→Int→σ→Option σ} {h:TExpr→Int→σ→Option σ} {F:Nat→TExpr→Int→σ→Option σ} (hW:WalksE h F) :
  ∀ (k n:Nat) (x:TExpr) (d:Int) (s:σ),nE x≤k→k<n→0≤d→d+k≤1000000000000000000→F n x d s=(evE x d).foldlM (atEv g h) s:=by
 intro k;induction k with
 |zero=>intro n x d s hk; have:=nE_eq x; omega
 |succ k ih=>
  intro n x d s hk hn h0 hd;obtain ⟨n,rfl⟩:∃ q,n=q+1:=⟨n-1,by omega⟩;have hx:=nE_eq x;have hl:=zal6 x.args;rw[hW.step n x d s (by omega) (by omega) (by omega),zavn,List.foldlM_cons];show _=(h x d s).bind _;congr 1;funext s';rw[zamh,zad0];have:∀ (l:List TExpr) (s:σ),(∀ y∈l,nE y≤k)→l.foldlM (fun s y=>F n y (d+1) s) s=l.foldlM (fun s y=>(evE y (d+1)).foldlM (atEv g h) s) s:=by
   intro l;induction l with
   |nil=>intro s _; rfl
   |cons y l ihl=>
    intro s hy;rw[List.foldlM_cons,List.foldlM_cons,ih n y (d+1) s (hy y (by simp)) (by omega) (by omega) (by omega)];congr 1;funext s';exact ihl s' (fun z hz=>hy z (by simp[hz]))
  exact this _ _ (fun y hy=>by have:=zal4 hy; omega)
structure WalksS {σ:Type} (g:TStmt→Int→σ→Option σ) (E:TExpr→Int→σ→Option σ) (F:Nat→List TStmt→Int→σ→Option σ):Prop where
 step:∀ n l d s,(d:Int)+1≤4611686018427387904→-4611686018427387904≤d→l.length≤4611686018427387904→F (n+1) l d s=l.foldlM (fun s x=>(g x d s).bind fun s1=>(if zacb x.expr then E x.expr 1 s1 else some s1).bind fun s2=>(F n x.then_ (d+1) s2).bind fun s3=>F n x.else_ (d+1) s3) s
theorem zasn {σ:Type} {g:TStmt→Int→σ→Option σ} {h:TExpr→Int→σ→Option σ} {E:TExpr→Int→σ→Option σ} {F:Nat→List TStmt→Int→σ→Option σ}
  (hE:∀ x s,nE x≤100000000000000000→E x 1 s=(evE x 1).foldlM (atEv g h) s) (hW:WalksS g E F) :
  ∀ (k n:Nat) (l:List TStmt) (d:Int) (s:σ),nSs l≤k→k<n→0≤d→d+k≤100000000000000000→F n l d s=(evSs l d).foldlM (atEv g h) s:=by
 intro k;induction k with
 |zero=>
  intro n l d s hk hn h0 hd;obtain ⟨n,rfl⟩:∃ q,n=q+1:=⟨n-1,by omega⟩;have hl:=zahl l;obtain rfl:l=[]:=List.eq_nil_of_length_eq_zero (by omega);rw[hW.step n [] d s (by omega) (by omega) (by simp)];simp[evSs]
 |succ k ih=>
  intro n l d s hk hn h0 hd;obtain ⟨n,rfl⟩:∃ q,n=q+1:=⟨n-1,by omega⟩;have hl:=zahl l;rw[hW.step n l d s (by omega) (by omega) (by omega),zamg,zad0]
  have : ∀ (l : List TStmt) (s : σ), (∀ y ∈ l, nS y ≤ k + 1) → l.foldlM (fun s x => (g x d s).bind fun s1 => (if zacb x.expr then E x.expr 1 s1 else some s1).bind fun s2 => (F n x.then_ (d + 1) s2).bind fun s3 => F n x.else_ (d + 1) s3) s =
    l.foldlM (fun s y=>(evS y d).foldlM (atEv g h) s) s:=by
   intro l;induction l with
   |nil=>intro s _; rfl
   |cons y l ihl=>
    intro s hy;have hy1:=hy y (by simp);have hy2:=nS_eq y;rw[List.foldlM_cons,List.foldlM_cons];have e:∀ s,((g y d s).bind fun s1=>(if zacb y.expr then E y.expr 1 s1 else some s1).bind fun s2=>(F n y.then_ (d+1) s2).bind fun s3=>F n y.else_ (d+1) s3)=(evS y d).foldlM (atEv g h) s:=by
     intro s;rw[zavc,List.foldlM_cons];show _=(g y d s).bind _;congr 1;funext s1;rw[List.foldlM_append];have e1:(if zacb y.expr then E y.expr 1 s1 else some s1)=(if zacb y.expr then evE y.expr 1 else []).foldlM (atEv g h) s1:=by
      split
      ·exact hE _ _ (by omega)
      ·rfl
     rw[e1];congr 1;funext s2;rw[List.foldlM_append];rw[ih n y.then_ (d+1) s2 (by omega) (by omega) (by omega) (by omega)];congr 1;funext s3;exact ih n y.else_ (d+1) s3 (by omega) (by omega) (by omega) (by omega)
    rw[e];congr 1;funext s';exact ihl s' (fun z hz=>hy z (by simp[hz]))
  exact this _ _ (fun y hy=>by have:=zal8 hy; omega)
end Lift.A3
namespace Lift.A4
open Go Go.RowKit Lift Go.IntWalk Lift.Fn Lift.A1P Lift.A3
set_option linter.unusedVariables false
set_option linter.unusedSimpArgs false
abbrev RE:=(Int×Int×(List UInt8)×(List Token)×(List TExpr))⊕(Wrong)
abbrev R5:=((List Token)×Int×Int×(List UInt8)×Int×Int×(List UInt8)×(List TExpr))⊕(Wrong)
def okE (e:TExpr) (z:List Token):RE:=.inl (e.kind,e.num,e.name,z,e.args)
def ok5 (e:TExpr) (z:List Token):R5:=.inl (z,0,0,[],e.kind,e.num,e.name,e.args)
def CE (e:TExpr) (n:Nat):Prop:=0<n∧nE e≤n
theorem zas1 (k n:Int) (s:List UInt8) (x:TExpr):nE (TExpr.mk k n s [x])=1+nE x:=by simp[nE,nEs]
theorem zavp (k n:Int) (s:List UInt8) (x y:TExpr):nE (TExpr.mk k n s [x,y])=1+nE x+nE y:=by simp only[nE,nEs]; omega
theorem zahf (k n:Int) (s:List UInt8):nE (TExpr.mk k n s [])=1:=by simp[nE,nEs]
theorem zavs (E : Int → List Token → Option RE) (N : Nat) (hE : ∀ l, Ends l → l.length < N → Good (fun z => E 0 z) okE .inr CE l) :
  ∀ (f:Nat) (ts:List Token),Ends ts→ts.length<f→ts.length≤N→Good (fun z=>qaC_i E f z) okE .inr CE ts:=by
 intro f;induction f with
 |zero=>intro ts _ h; omega
 |succ f ih=>
  intro ts he hf hN;show Good (fun z=>qaC_f (qaC_i E f) E z) okE .inr CE ts;unfold qaC_f;refine zabf he (fun r hr hl=>?_) ?_
  ·dsimp only[cond_true];refine zaaq (ih r hr (by omega) (by omega)) (fun x n t1 c h1 h2=>?_) (fun w=>rfl);dsimp only[okE];refine zaam okE .inr (TExpr.mk 3 0 [] [TExpr.mk x.kind x.num x.name x.args]) h1 ⟨by omega,?_⟩;rw[zaa0,zas1];have:=c.2;omega
  dsimp only[cond_false];refine zabf he (fun r hr hl=>?_) ?_
  ·dsimp only[cond_true];refine zaaq (ih r hr (by omega) (by omega)) (fun x n t1 c h1 h2=>?_) (fun w=>rfl);dsimp only[okE];refine zaam okE .inr (TExpr.mk 4 0 [] [TExpr.mk x.kind x.num x.name x.args]) h1 ⟨by omega,?_⟩;rw[zaa0,zas1];have:=c.2;omega
  dsimp only[cond_false];refine zabf he (fun r hr hl=>?_) ?_
  ·dsimp only[cond_true];refine zaaq (hE r hr (by omega)) (fun x n t1 c h1 h2=>?_) (fun w=>rfl);dsimp only[okE];refine zabe h1 (fun r2 h3 h4=>?_) (fun w=>rfl);dsimp only;refine zaam okE .inr x h3 ⟨by omega,?_⟩;have:=c.2;omega
  dsimp only[cond_false];refine zaed he (fun _ _ _ _ _ _=>rfl) fun t r e=>?_
  subst e;dsimp only;by_cases hk:t.kind=2
  ·have e2:(t.kind==2)=true:=by simp[hk]
   simp only[e2,cond_true];refine zamu he (by rw[hk]; decide) (fun _ _ _ _ _ _=>rfl) fun hr=>?_
   dsimp only;refine zaam okE .inr (TExpr.mk 1 t.num [] []) hr ⟨by omega,?_⟩;rw[zahf];omega
  ·have e2:(t.kind==2)=false:=by simp[hk]
   simp only[e2,cond_false];refine zacu he (fun x r2 h3 h4=>?_) (fun w=>rfl);dsimp only;refine zaam okE .inr (TExpr.mk 2 0 x []) h3 ⟨by omega,?_⟩;rw[zahf];omega
theorem zaub:∃ L,qap=some L∧L.length=5:=by
 rw[qap,zaaa];exact ⟨_,rfl,rfl⟩
theorem exprL (E:Int→List Token→Option RE) (L:List (List ((List UInt8)×Int))) (N:Nat) (lvl:Int) (h0:0≤lvl) (h5:lvl<(L.length:Int)) (hl:L.length=5)
  (hE:∀ l,Ends l→l.length<N→Good (fun z=>E (lvl+1) z) okE .inr CE l) :
  ∀ (f:Nat) (ts:List Token) (e:TExpr),Ends ts→ts.length<f→ts.length≤N →
   Good (fun z=>qar_i5 E f lvl z 0 0 [] e.kind e.num e.name L e.args) ok5 .inr (fun x n=>nE x≤nE e+n) ts:=by
 intro f;induction f with
 |zero=>intro ts _ _ h; omega
 |succ f ih=>
  intro ts e he hf hN;show Good (fun z=>qar_t5 E (qar_i5 E f) lvl z 0 0 [] e.kind e.num e.name L e.args) ok5 .inr (fun x n=>nE x≤nE e+n) ts;unfold qar_t5;refine zaed he (fun _ _ _ _ _ _=>rfl) fun t r e1=>?_
  subst e1;dsimp only;by_cases hk:t.kind=3
  ·have e2:(t.kind==3)=true:=by simp[hk]
   have e3:(decide ((0:Int)≤lvl)&&decide (lvl<(↑(List.length L):Int)))=true:=by simp only[Bool.and_eq_true,decide_eq_true_eq]; exact ⟨h0,h5⟩
   have hlt:lvl.toNat<L.length:=by omega
   simp only[e2,e3,cond_true];rw[List.getElem?_eq_getElem hlt];generalize L[lvl.toNat]=M;simp only[Option.bind_some];refine zaed he (fun _ _ _ _ _ _=>rfl) fun t2 r2 e1=>?_
   simp only[List.cons.injEq] at e1;obtain ⟨rfl,rfl⟩:=e1;dsimp only;cases hm:Option.isSome (mapAt M t.text) with
   |false=>
    simp only[Bool.not_false,cond_true];exact zaam ok5 .inr e he (Nat.le_refl _)
   |true=>
    simp only[Bool.not_true,cond_false];refine zamu he (by rw[hk]; decide) (fun _ _ _ _ _ _=>rfl) fun hr=>?_
    dsimp only;have hw:IntKind.wrap IntKind.i64 (lvl+(1:Int))=lvl+1:=i64_in _ (by omega);rw[hw];simp only[List.length_cons] at hf hN;refine zaaq (hE r hr (by omega)) (fun x n t1 c h1 h2=>?_) (fun w=>rfl);dsimp only[okE];have hn:=c.2;generalize hop:Option.getD (mapAt M t.text) 0=op;have hsz:nE (TExpr.mk op 0 [] [TExpr.mk e.kind e.num e.name e.args,TExpr.mk x.kind x.num x.name x.args])=1+nE e+nE x:=by rw[zaa0,zaa0,zavp]
    by_cases h22:lvl=2
    ·have e4:(lvl==2)=true:=by simp[h22]
     simp only[e4,cond_true];refine zaam ok5 .inr (TExpr.mk op 0 [] [TExpr.mk e.kind e.num e.name e.args,TExpr.mk x.kind x.num x.name x.args]) h1 ?_;rw[hsz];omega
    ·have e4:(lvl==2)=false:=by simp[h22]
     simp only[e4,cond_false];refine zadd (ih t1 (TExpr.mk op 0 [] [TExpr.mk e.kind e.num e.name e.args,TExpr.mk x.kind x.num x.name x.args]) h1 (by omega) (by omega)) fun y m _ hy=>?_
     rw[hsz] at hy;omega
  ·have e2:(t.kind==3)=false:=by simp[hk]
   simp only[e2,cond_false];exact zaam ok5 .inr e he (Nat.le_refl _)
theorem exprI:∀ (n:Nat) (lvl:Int) (ts:List Token),Ends ts→0≤lvl→lvl≤5→10*ts.length+(5-lvl).toNat<n→ts.length<1000000 →
  Good (fun z=>qar_i n lvl z) okE .inr CE ts:=by
 intro n;induction n with
 |zero=>intro lvl ts _ _ _ h; omega
 |succ n ih=>
  intro lvl ts he h0 h5 hn hb;obtain ⟨L,hL,hl⟩:=zaub;show Good (fun z=>qar_f (qar_i n) lvl z) okE .inr CE ts;unfold qar_f;rw[hL];simp only[Option.bind_some];by_cases h:lvl=5
  ·have e1:(lvl==(↑(List.length L):Int))=true:=by rw[hl,h]; rfl
   simp only[e1,cond_true];rw[qaC,zaaa];refine zaaq (zavs (qar_i n) ts.length (fun l h1 h2=>ih 0 l h1 (by omega) (by omega) (by simp only[h] at hn; omega) (by omega)) fuel ts he (by unfold fuel; omega) (Nat.le_refl _)) (fun x n t1 c h1 h2=>?_) (fun w=>rfl);dsimp only[okE];refine zaam okE .inr x h1 ⟨by have:=c.1; omega,by have:=c.2; omega⟩
  ·have e1:(lvl==(↑(List.length L):Int))=false:=by rw[hl]; simpa using h
   have hw:IntKind.wrap IntKind.i64 (lvl+(1:Int))=lvl+1:=i64_in _ (by omega);simp only[e1,cond_false];rw[hw];refine zaaq (ih (lvl+1) ts he (by omega) (by omega) (by omega) hb) (fun x m t1 c h1 h2=>?_) (fun w=>rfl);dsimp only[okE];have hc:=c.1;rw[qar_l5,zaaa];refine zaaq (exprL (qar_i n) L (ts.length) lvl h0 (by omega) hl (fun l h1 h2=>ih (lvl+1) l h1 (by omega) (by omega) (by omega) (by omega)) fuel t1 x h1 (by unfold fuel; omega) (by omega)) (fun y k t2 c2 h3 h4=>?_) (fun w=>rfl);dsimp only[ok5];refine zaam okE .inr y h3 ⟨by omega,?_⟩;have:=c.2;omega
theorem exprG (ts:List Token) (he:Ends ts) (hb:ts.length<1000000):Good (fun z=>qar 0 z) okE .inr CE ts:=by
 rw[qar,zaaa];exact exprI fuel 0 ts he (by omega) (by omega) (by unfold fuel; omega) hb
end Lift.A4
namespace Lift.A4
open Go Go.RowKit Lift Go.IntWalk Lift.Fn Lift.A1P Lift.A3
set_option linter.unusedVariables false
set_option linter.unusedSimpArgs false
abbrev RS:=(TStmt×(List Token))⊕(Wrong)
abbrev RB:=((List TStmt)×(List Token))⊕(Wrong)
abbrev R4:=((List Token)×Int×(List UInt8)×(List UInt8)×Int×Int×(List UInt8)×(List TExpr)×Int×(List TStmt)×(List TStmt))
def okS (s:TStmt) (z:List Token):RS:=.inl (s,z)
def okB (b:List TStmt) (z:List Token):RB:=.inl (b,z)
def CS (s:TStmt) (n:Nat):Prop:=0<n∧nS s≤2*n
def CB (b:List TStmt) (n:Nat):Prop:=0<n∧nSs b≤2*n
theorem nS_mk (k:Int) (a b:List UInt8) (e:TExpr) (c:Int) (t o:List TStmt):nS (TStmt.mk k a b e c t o)=1+nE e+nSs t+nSs o:=by simp[nS]
theorem zado:nSs []=0:=by simp[nSs]
theorem zap7:∀ (a b:List TStmt),nSs (a++b)=nSs a+nSs b
 |[],b=>by simp[nSs]
 |x::a,b=>by simp only[List.cons_append,nSs,zap7 a b]; omega
theorem zauv (x:TStmt):nSs [x]=nS x:=by simp[nSs]
theorem zau9 (ts:List Token) (he:Ends ts) (hb:ts.length<1000000):Good (fun z=>qaw z) okS .inr CS ts:=by
 rw[qaw,zaaa];unfold qaw_f;refine zacu he (fun a r h1 h2=>?_) (fun w=>rfl);dsimp only;refine zabf h1 (fun r2 h3 h4=>?_) ?_
 ·dsimp only[cond_true];refine zaaq (exprG r2 h3 (by omega)) (fun x n t1 c h5 h6=>?_) (fun w=>rfl);dsimp only[okE];refine zabe h5 (fun r3 h7 h8=>?_) (fun w=>rfl);dsimp only;refine zaam okS .inr _ h7 ⟨by omega,?_⟩;rw[nS_mk,zaa0,zado];have:=c.2;omega
 dsimp only[cond_false];refine zabf h1 (fun r2 h3 h4=>?_) ?_
 ·dsimp only[cond_true];refine zaaq (exprG r2 h3 (by omega)) (fun x n t1 c h5 h6=>?_) (fun w=>rfl);dsimp only[okE];refine zabe h5 (fun r3 h7 h8=>?_) (fun w=>rfl);dsimp only;refine zaam okS .inr _ h7 ⟨by omega,?_⟩;rw[nS_mk,zaa0,zado];have:=c.2;omega
 dsimp only[cond_false];refine zabe h1 (fun r2 h3 h4=>?_) (fun w=>rfl);dsimp only;refine zabf h3 (fun r3 h5 h6=>?_) ?_
 ·dsimp only[cond_true];refine zacu h5 (fun b r4 h7 h8=>?_) (fun w=>rfl);dsimp only;refine zaaq (exprG r4 h7 (by omega)) (fun x n t1 c h9 h10=>?_) (fun w=>rfl);dsimp only[okE];refine zabe h9 (fun r5 h11 h12=>?_) (fun w=>rfl);dsimp only;refine zaam okS .inr _ h11 ⟨by omega,?_⟩;rw[nS_mk,zaa0,zado];have:=c.2;omega
 dsimp only[cond_false];refine zacu h3 (fun b r4 h7 h8=>?_) (fun w=>rfl);dsimp only;refine zabe h7 (fun r5 h9 h10=>?_) (fun w=>rfl);dsimp only;refine zaam okS .inr _ h9 ⟨by omega,?_⟩;rw[nS_mk,zado,zahf];omega
abbrev four:List (List UInt8):=[[(108:UInt8),(111:UInt8),(99:UInt8),(107:UInt8)],[(117:UInt8),(110:UInt8),(108:UInt8),(111:UInt8),(99:UInt8),(107:UInt8)],[(115:UInt8),(116:UInt8),(97:UInt8),(114:UInt8),(116:UInt8)],[(106:UInt8),(111:UInt8),(105:UInt8),(110:UInt8)]]
def okO (s:Option (Int×List UInt8)) (z:List Token):R4⊕((Wrong)⊕((List Token)×Int×(List UInt8)×(List UInt8)×Int×Int×(List UInt8)×Int)):=
 match s with
 |some k=>.inl (z,k.1,[],k.2,0,0,[],[],0,[],[])
 |none=>.inr (.inr (z,0,[],[],0,0,[],0))
def badO (w:Wrong):R4⊕((Wrong)⊕((List Token)×Int×(List UInt8)×(List UInt8)×Int×Int×(List UInt8)×Int)):=.inr (.inl w)
def CO (s:Option (Int×List UInt8)) (n:Nat):Prop:=match s with|some _=>3≤n|none=>n=0
theorem fourG (B:List Token→Option RB):∀ (k f:Nat) (i:Nat) (ts:List Token),i+k=4→k<f→Ends ts →
  Good (fun z=>qaz_i4 B f 4 i z 0 [] [] 0 0 [] 0 four) okO badO CO ts:=by
 intro k;induction k with
 |zero=>
  intro f i ts hi hf he;obtain ⟨f,rfl⟩:∃ q,f=q+1:=⟨f-1,by omega⟩;show Good (fun z=>qaz_t4 B (qaz_i4 B f) 4 i z 0 [] [] 0 0 [] 0 four) okO badO CO ts;unfold qaz_t4;have e1:decide ((i:Int)<4)=false:=by simp only[decide_eq_false_iff_not]; omega
  simp only[e1,cond_false];exact zaam okO badO none he rfl
 |succ k ih=>
  intro f i ts hi hf he;obtain ⟨f,rfl⟩:∃ q,f=q+1:=⟨f-1,by omega⟩;show Good (fun z=>qaz_t4 B (qaz_i4 B f) 4 i z 0 [] [] 0 0 [] 0 four) okO badO CO ts;unfold qaz_t4;have e1:decide ((i:Int)<4)=true:=by simp only[decide_eq_true_eq]; omega
  have e2:(decide ((0:Int)≤(i:Int))&&decide ((i:Int)<(↑(List.length four):Int)))=true:=by
   simp only[Bool.and_eq_true,decide_eq_true_eq];exact ⟨by omega,by show (i:Int)<4; omega⟩
  have hlt:(i:Int).toNat<four.length:=by show (i:Int).toNat<4; omega
  simp only[e1,e2,cond_true];rw[List.getElem?_eq_getElem hlt];generalize four[(i:Int).toNat]=word;simp only[Option.bind_some];refine zabf he (fun r h1 h2=>?_) ?_
  ·dsimp only[cond_true];refine zacu h1 (fun a r2 h3 h4=>?_) (fun w=>rfl);dsimp only;refine zabe h3 (fun r3 h5 h6=>?_) (fun w=>rfl);dsimp only;exact zaam okO badO (some (IntKind.wrap IntKind.i64 ((5:Int)+i),a)) h5 (by show 3≤_; omega)
  ·dsimp only[cond_false];rw[i64_in ((i:Int)+1) (by omega)];exact ih f (i+1) ts (by omega) (by omega) he
end Lift.A4
namespace Lift.A4
open Go Go.RowKit Lift Go.IntWalk Lift.Fn Lift.A1P Lift.A3
set_option linter.unusedVariables false
set_option linter.unusedSimpArgs false
theorem stmtG (B : List Token → Option RB) (N : Nat) (hB : ∀ l, Ends l → l.length < N → Good (fun z => B z) okB .inr CB l) (ts : List Token) (he : Ends ts) (hN : ts.length ≤ N) (hb : ts.length < 1000000) :
  Good (fun z=>qaz B z) okS .inr CS ts:=by
 rw[qaz,zaaa];unfold qaz_f;refine zaed he (fun _ _ _ _ _ _=>rfl) fun t r e=>?_
 subst e;dsimp only;by_cases hk:t.kind=1
 ·have e2:(t.kind==1)=true:=by simp[hk]
  simp only[e2,cond_true];refine zaaq (zau9 (t::r) he hb) (fun x n t1 c h1 h2=>?_) (fun w=>rfl);dsimp only[okS];refine zaam okS .inr _ h1 ⟨by have:=c.1; omega,?_⟩;rw[zauc];have:=c.2;omega
 have e2:(t.kind==1)=false:=by simp[hk]
 simp only[e2,cond_false];rw[qaz_l4,zaaa];refine zaaq (fourG B 4 fuel 0 (t::r) rfl (by unfold fuel; omega) he) (fun o n t1 c h1 h2=>?_) (fun w=>rfl);cases o with
 |some p=>
  dsimp only[okO];refine zaam okS .inr _ h1 ⟨by have:3≤n:=c; omega,?_⟩;rw[nS_mk,zado,zahf];have:3≤n:=c;omega
 |none=>
  have hn:n=0:=c;subst hn;dsimp only[okO];refine zabf h1 (fun r2 h3 h4=>?_) ?_
  ·dsimp only[cond_true];refine zaaq (exprG r2 h3 (by omega)) (fun x m t2 c2 h5 h6=>?_) (fun w=>rfl);dsimp only[okE];refine zabe h5 (fun r3 h7 h8=>?_) (fun w=>rfl);dsimp only;refine zaam okS .inr _ h7 ⟨by omega,?_⟩;rw[nS_mk,zaa0,zado];have:=c2.2;omega
  dsimp only[cond_false];refine zabf h1 (fun r2 h3 h4=>?_) ?_
  ·dsimp only[cond_true];refine zaaq (exprG r2 h3 (by omega)) (fun x m t2 c2 h5 h6=>?_) (fun w=>rfl);dsimp only[okE];refine zaaq (hB t2 h5 (by omega)) (fun b m2 t3 c3 h7 h8=>?_) (fun w=>rfl);dsimp only[okB];refine zabf h7 (fun r4 h9 h10=>?_) ?_
   ·dsimp only[cond_true];refine zaaq (hB r4 h9 (by omega)) (fun b2 m3 t4 c4 h11 h12=>?_) (fun w=>rfl);dsimp only[okB];refine zaam okS .inr _ h11 ⟨by omega,?_⟩;rw[nS_mk,zaa0];have:=c2.2;have:=c3.2;have:=c4.2;omega
   ·dsimp only[cond_false];refine zaam okS .inr _ h7 ⟨by omega,?_⟩;rw[nS_mk,zaa0,zado];have:=c2.2;have:=c3.2;omega
  dsimp only[cond_false];refine zabe h1 (fun r2 h3 h4=>?_) (fun w=>rfl);dsimp only;refine zaed h3 (fun _ _ _ _ _ _=>rfl) fun t5 r5 e=>?_
  subst e;dsimp only;have tail:Good (fun z=>Option.bind (qav 2 z) fun y24=>
         match y24 with
         |.inl y25=>
          Option.bind (B (Prod.snd y25)) fun y26=>
          match y26 with
          |.inl y27=>
           some (.inl ((TStmt.mk (11:Int) [] [] (TExpr.mk 0 0 [] []) (Token.num (Prod.fst y25)) (Prod.fst y27) []),(Prod.snd y27)))
          |.inr y27=>
           some (.inr (y27))
         |.inr y25=>
          some (.inr (y25))) okS .inr (fun x n=>CS x (0+(n+1))) (t5::r5):=by
   refine zaqf h3 (by decide) (fun _ _ _ _ _ _=>rfl) (fun t6 r6 h7 h8=>?_) (fun w=>rfl);dsimp only;refine zaaq (hB r6 h7 (by omega)) (fun b m2 t3 c3 h9 h10=>?_) (fun w=>rfl);dsimp only[okB];refine zaam okS .inr _ h9 ⟨by omega,?_⟩;rw[nS_mk,zahf,zado];have:=c3.2;omega
  by_cases h6:t5.kind=2
  ·have e6:(t5.kind==2)=true:=by simp[h6]
   simp only[e6,cond_true,Option.bind_some];by_cases h7:t5.num>(1000:Int)
   ·simp only[decide_eq_true h7,cond_true];exact zaps h3 (fun w=>rfl)
   ·simp only[decide_eq_false h7,cond_false];exact tail
  ·have e6:(t5.kind==2)=false:=by simp[h6]
   simp only[e6,cond_false,Option.bind_some];exact tail
abbrev R3:=(Wrong)⊕((List Token)×(List TStmt))
def ok3 (b:List TStmt) (z:List Token):R3:=.inr (z,b)
theorem zavj (B : List Token → Option RB) (N : Nat) (hB : ∀ l, Ends l → l.length < N → Good (fun z => B z) okB .inr CB l) (hN : N < 1000000) :
  ∀ (f:Nat) (ts:List Token) (b:List TStmt),Ends ts→ts.length<f→ts.length≤N→b.length+ts.length<1000000 →
   Good (fun z=>qaq_i3 B f z b) ok3 .inl (fun x n=>0<n∧nSs x≤nSs b+2*n) ts:=by
 intro f;induction f with
 |zero=>intro ts _ _ h; omega
 |succ f ih=>
  intro ts b he hf hl hb;show Good (fun z=>qaq_t3 B (qaq_i3 B f) z b) ok3 .inl (fun x n=>0<n∧nSs x≤nSs b+2*n) ts;unfold qaq_t3;refine zabf he (fun r h1 h2=>?_) ?_
  ·simp only[Bool.not_true,cond_false];exact zaam ok3 .inl b h1 ⟨by omega,by omega⟩
  ·simp only[Bool.not_false,cond_true];refine zaaq (stmtG B N hB ts he hl (by omega)) (fun s n t1 c h1 h2=>?_) (fun w=>rfl);dsimp only[okS];have hc:=c.1;have e1:decide ((List.length b+List.length [s])*(152:Nat)≤(140737488355328:Nat)∧List.length b+List.length [s]≤(9223372036854775807:Nat))=true:=by
    simp only[decide_eq_true_eq,List.length_cons,List.length_nil];omega
   simp only[e1,cond_true];refine zadd (ih t1 (b++[s]) h1 (by omega) (by omega) (by rw[List.length_append,List.length_cons,List.length_nil]; omega)) fun y m _ hy=>?_
   rw[zap7,zauv] at hy;have:=c.2;omega
theorem zau6:∀ (n:Nat) (ts:List Token),Ends ts→ts.length<n→ts.length<1000000→Good (fun z=>qaq_i n z) okB .inr CB ts:=by
 intro n;induction n with
 |zero=>intro ts _ h; omega
 |succ n ih=>
  intro ts he hn hb;show Good (fun z=>qaq_f (qaq_i n) z) okB .inr CB ts;unfold qaq_f;refine zabe he (fun r h1 h2=>?_) (fun w=>rfl);dsimp only;rw[qaq_l3,zaaa];refine zaaq (zavj (qaq_i n) r.length (fun l h3 h4=>ih l h3 (by omega) (by omega)) (by omega) fuel r [] h1 (by unfold fuel; omega) (Nat.le_refl _) (by simp only[List.length_nil]; omega)) (fun x m t1 c h3 h4=>?_) (fun w=>rfl);dsimp only[ok3];refine zaam okB .inr x h3 ⟨by omega,?_⟩;have:=c.2;rw[zado] at this;omega
theorem zavl (ts:List Token) (he:Ends ts) (hb:ts.length<1000000):Good (fun z=>qaq z) okB .inr CB ts:=by
 rw[qaq,zaaa];exact zau6 fuel ts he (by unfold fuel; omega) hb
end Lift.A4
namespace Lift.A4
open Go Go.RowKit Lift Go.IntWalk Lift.Fn Lift.A1P Lift.A3
set_option linter.unusedVariables false
set_option linter.unusedSimpArgs false
abbrev R2:=(Wrong)⊕((List Token)×(List TCell)×(List (List UInt8))×(List TThread))
abbrev RP:=((List Token)×(List TCell)×(List (List UInt8))×(List TThread))⊕(Wrong)
def ok2 (p:TProg) (z:List Token):R2:=.inr (z,p.cells,p.mutexes,p.threads)
def okP (p:TProg) (z:List Token):RP:=.inl (z,p.cells,p.mutexes,p.threads)
def CP (q p:TProg) (n:Nat):Prop:=p.cells.length≤q.cells.length+n∧p.mutexes.length≤q.mutexes.length+n∧nT p.threads≤nT q.threads+2*n
theorem zasv:∀ (a b:List TThread),nT (a++b)=nT a+nT b
 |[],b=>by simp[nT]
 |x::a,b=>by simp only[List.cons_append,nT,zasv a b]; omega
theorem zavd (x:TThread):nT [x]=1+nSs x.body:=by simp[nT]
theorem zat7:∀ (f:Nat) (ts:List Token) (q:TProg),Ends ts→ts.length<f→ts.length+q.cells.length<1000000→ts.length+q.mutexes.length<1000000→ts.length+q.threads.length<1000000 →
  Good (fun z=>qax_i2 f z q.cells q.mutexes q.threads) ok2 .inl (CP q) ts:=by
 intro f;induction f with
 |zero=>intro ts q _ h; omega
 |succ f ih=>
  intro ts q he hf hc hm ht;show Good (fun z=>qax_t2 (qax_i2 f) z q.cells q.mutexes q.threads) ok2 .inl (CP q) ts;unfold qax_t2;have g1:∀ c:TCell,decide ((List.length q.cells+List.length [c])*(24:Nat)≤(140737488355328:Nat)∧List.length q.cells+List.length [c]≤(9223372036854775807:Nat))=true:=by
   intro c;simp only[decide_eq_true_eq,List.length_cons,List.length_nil];omega
  have g2:∀ a:List UInt8,decide ((List.length q.mutexes+List.length [a])*(16:Nat)≤(140737488355328:Nat)∧List.length q.mutexes+List.length [a]≤(9223372036854775807:Nat))=true:=by
   intro c;simp only[decide_eq_true_eq,List.length_cons,List.length_nil];omega
  have g3:∀ x:TThread,decide ((List.length q.threads+List.length [x])*(40:Nat)≤(140737488355328:Nat)∧List.length q.threads+List.length [x]≤(9223372036854775807:Nat))=true:=by
   intro c;simp only[decide_eq_true_eq,List.length_cons,List.length_nil];omega
  simp only[g1,g2,g3,cond_true]
  have cell:∀ (r:List Token) (c:TCell) (k:Nat),Ends r→r.length+k=ts.length→0<k →
    Good (fun z=>qax_i2 f z (q.cells++[c]) q.mutexes q.threads) ok2 .inl (fun x n=>CP q x (n+k)) r:=by
   intro r c k h1 h2 h3;refine zadd (ih r ⟨q.cells++[c],q.mutexes,q.threads⟩ h1 (by omega) (by simp only[List.length_append,List.length_cons,List.length_nil]; omega) (by show _+q.mutexes.length<_; omega) (by show _+q.threads.length<_; omega)) fun y m _ hy=>?_
   simp only[CP,List.length_append,List.length_cons,List.length_nil] at hy ⊢;omega
  refine zaed he (fun _ _ _ _ _ _=>rfl) fun t r e=>?_
  subst e;dsimp only;by_cases hk:t.kind=5
  ·have e2:(t.kind != 5)=false:=by simp[hk]
   simp only[e2,cond_false];exact zaam ok2 .inl q he ⟨by omega,by omega,by omega⟩
  have e2:(t.kind != 5)=true:=by simp[hk]
  simp only[e2,cond_true];refine zabf he (fun r1 h1 h2=>?_) ?_
  ·dsimp only[cond_true];refine zacu h1 (fun a r2 h3 h4=>?_) (fun w=>rfl);dsimp only;refine zabf h3 (fun r3 h5 h6=>?_) ?_
   ·dsimp only[cond_true];have num:∀ (ngt:Bool) (r4:List Token) (k:Nat),Ends r4→r4.length+k=(t::r).length→0<k→Good (fun z=>Option.bind (qav 2 z) fun y6=>
      match y6 with
      |.inl y7=>
       bif ngt then
        Option.bind (qaD [(59:UInt8)] (Prod.snd y7)) fun y8=>
        match y8 with
        |.inl y9=>
         qax_i2 f y9 (q.cells++[TCell.mk a (IntKind.wrap IntKind.i64 ((0:Int)-Token.num (Prod.fst y7)))]) q.mutexes q.threads
        |.inr y9=>
         some (.inl (y9))
       else
        Option.bind (qaD [(59:UInt8)] (Prod.snd y7)) fun y10=>
        match y10 with
        |.inl y11=>
         qax_i2 f y11 (q.cells++[TCell.mk a (Token.num (Prod.fst y7))]) q.mutexes q.threads
        |.inr y11=>
         some (.inl (y11))
      |.inr y7=>
       some (.inl (y7))) ok2 .inl (fun x n=>CP q x (n+k)) r4:=by
     intro ngt r4 k h7 h8 h9;refine zaqf h7 (by decide) (fun _ _ _ _ _ _=>rfl) (fun t6 r6 h10 h11=>?_) (fun w=>rfl);dsimp only;cases ngt with
     |true=>
      dsimp only[cond_true];refine zabe h10 (fun r7 h12 h13=>?_) (fun w=>rfl);dsimp only;exact zadd (cell r7 _ (k+2) h12 (by omega) (by omega)) fun y m _ hy=>by rw[show m+1+1+k=m+(k+2) by omega]; exact hy
     |false=>
      dsimp only[cond_false];refine zabe h10 (fun r7 h12 h13=>?_) (fun w=>rfl);dsimp only;exact zadd (cell r7 _ (k+2) h12 (by omega) (by omega)) fun y m _ hy=>by rw[show m+1+1+k=m+(k+2) by omega]; exact hy
    refine zabf h5 (fun r4 h7 h8=>?_) ?_
    ·exact num true r4 (1+1+1+1) h7 (by omega) (by omega)
    ·exact num false r3 (1+1+1) h5 (by omega) (by omega)
   ·dsimp only[cond_false];refine zabe h3 (fun r3 h5 h6=>?_) (fun w=>rfl);dsimp only;exact cell r3 _ (1+1+1) h5 (by omega) (by omega)
  dsimp only[cond_false];refine zabf he (fun r1 h1 h2=>?_) ?_
  ·dsimp only[cond_true];refine zacu h1 (fun a r2 h3 h4=>?_) (fun w=>rfl);dsimp only;refine zabe h3 (fun r3 h5 h6=>?_) (fun w=>rfl);dsimp only;refine zadd (ih r3 ⟨q.cells,q.mutexes++[a],q.threads⟩ h5 (by omega) (by show _+q.cells.length<_; omega) (by simp only[List.length_append,List.length_cons,List.length_nil]; omega) (by show _+q.threads.length<_; omega)) fun y m _ hy=>?_
   simp only[CP,List.length_append,List.length_cons,List.length_nil] at hy ⊢;omega
  dsimp only[cond_false];refine zabe he (fun r1 h1 h2=>?_) (fun w=>rfl);dsimp only;refine zacu h1 (fun a r2 h3 h4=>?_) (fun w=>rfl);dsimp only;refine zaaq (zavl r2 h3 (by omega)) (fun b n t1 c h5 h6=>?_) (fun w=>rfl);dsimp only[okB];refine zadd (ih t1 ⟨q.cells,q.mutexes,q.threads++[TThread.mk a b]⟩ h5 (by omega) (by show _+q.cells.length<_; omega) (by show _+q.mutexes.length<_; omega) (by simp only[List.length_append,List.length_cons,List.length_nil]; omega)) fun y m _ hy=>?_
  have:=c.2;simp only[CP,zasv,zavd] at hy ⊢;omega
theorem zate (ts:List Token) (he:Ends ts) (hb:ts.length<1000000):Good (fun z=>qax z) okP .inr (CP ⟨[],[],[]⟩) ts:=by
 rw[qax,zaaa];unfold qax_f;rw[qax_l2,zaaa];refine zaaq (zat7 fuel ts ⟨[],[],[]⟩ he (by unfold fuel; omega) (by simp only[List.length_nil]; omega) (by simp only[List.length_nil]; omega) (by simp only[List.length_nil]; omega)) (fun x n t1 c h1 h2=>?_) (fun w=>rfl);dsimp only[ok2];exact zaam okP .inr x h1 c
end Lift.A4
namespace Lift.A1P
open Go Go.RowKit Lift Go.IntWalk Lift.Fn
end Lift.A1P
namespace Lift.A1P
open Go Go.RowKit Lift Go.IntWalk Lift.Fn
theorem zat2 (x:List UInt8):sgn (sgn x)=sgn x:=by
 by_cases k1:1<x.length∧twos.contains (x.take 2)=true
 ·have e:sgn x=x.take 2:=by unfold sgn; rw[if_pos k1]
  rw[e];have hl:(x.take 2).length=2:=by rw[List.length_take]; omega
  have ht:(x.take 2).take 2=x.take 2:=by rw[List.take_take]; rfl
  unfold sgn;rw[if_pos ⟨by omega,by rw[ht]; exact k1.2⟩,ht]
 ·by_cases k2:ones.contains (x.headD 0)=true
  ·have e:sgn x=x.take 1:=by unfold sgn; rw[if_neg k1,if_pos k2]
   rw[e];match x,k2 with
   |[],k2=>exact absurd k2 (by decide)
   |b::x,k2=>
    show sgn [b]=[b];unfold sgn;rw[if_neg (fun hh=>by have:=hh.1; simp at this)];exact if_pos k2
  ·have e:sgn x=[]:=by unfold sgn; rw[if_neg k1,if_neg k2]
   rw[e];decide
theorem alone (a:Int) (rs:List Int) (ha:(a::rs).all Sp.isRune=true) (h0:(tokR (a::rs)).2=0):∃ ds,whole ds (tokR (a::rs)).1∧a::rs=ds++restR (a::rs):=by
 cases hg:goesR a with
 |true=>
  have ht:=zaig (w:=a::rs) hg;have hd:((a::rs).takeWhile goesR).headD 0=a:=by rw[List.takeWhile_cons,if_pos hg]; rfl
  have htt:((a::rs).takeWhile goesR).takeWhile goesR=(a::rs).takeWhile goesR:=zaow List.all_takeWhile;refine ⟨(a::rs).takeWhile goesR,⟨by simp[hg],zaif ha,?_,ht⟩,?_⟩
  ·refine Prod.ext ?_ ?_
   ·show (tokR ((a::rs).takeWhile goesR)).1=_;unfold tokR;rw[hd,htt,List.headD_cons,hg];rfl
   ·show (tokR ((a::rs).takeWhile goesR)).2=0;rw[← h0];unfold tokR;rw[hd,htt,List.headD_cons,hg];rfl
  ·unfold restR;rw[List.headD_cons,hg];exact (List.takeWhile_append_dropWhile).symm
 |false=>
  have hc:(sgn (encs (a::rs))==[])=false:=by
   unfold tokR at h0;rw[List.headD_cons,hg,cond_false] at h0;cases hc:(sgn (encs (a::rs))==[]) with
   |true=>rw[hc] at h0; simp at h0
   |false=>rfl
  have hne:sgn (encs (a::rs))≠[]:=by simpa using hc
  obtain ⟨h1,h2⟩:=zagj a rs ha hne;have htok:tokR (a::rs)=(⟨3,sgn (encs (a::rs)),0,0⟩,0):=by
   unfold tokR;rw[List.headD_cons,hg,cond_false,hc,cond_false]
  obtain ⟨n,hn⟩:∃ n,(sgn (encs (a::rs))).length=n+1:=⟨(sgn (encs (a::rs))).length-1,by omega⟩;have htk:(a::rs).take (sgn (encs (a::rs))).length=a::rs.take n:=by rw[hn]; rfl
  refine ⟨(a::rs).take (sgn (encs (a::rs))).length,⟨by rw[htk]; exact List.cons_ne_nil _ _,?_,?_,?_⟩,?_⟩
  ·rw[List.all_eq_true] at ha ⊢;exact fun r hr=>ha r (List.mem_of_mem_take hr)
  ·rw[htok];rw[htk] at h1 ⊢;unfold tokR;rw[List.headD_cons,hg,cond_false,h1,zat2,hc,cond_false]
  ·rw[htok,h1]
  ·unfold restR;rw[List.headD_cons,hg,cond_false,List.take_append_drop]
end Lift.A1P
namespace Lift.A1P
open Go Go.RowKit Lift Go.IntWalk Lift.Fn
theorem zak3 (t:List UInt8) (h:(Sp.runes2 t).code≠0):qag t=some ([],⟨(Sp.runes2 t).code,(Sp.runes2 t).at_,(Sp.runes2 t).name⟩):=by
 rw[qag,zaaa];unfold qag_f;rw[zaqn,Option.bind_some];have:((Sp.runes2 t).code != 0)=true:=by simp[h]
 simp only[this,cond_true]
end Lift.A1P
namespace Lift.A1P
open Go Go.RowKit Lift Go.IntWalk Lift.Fn
end Lift.A1P
namespace Lift.A1P
open Go Go.RowKit Lift Go.IntWalk Lift.Fn
end Lift.A1P
namespace Lift.A1P
open Go Go.RowKit Lift Go.IntWalk Lift.Fn
theorem zaiu:∀ (k k':Nat) (p:Int) (rs:List Int),rs.all Sp.isRune=true→rs.length≤k→rs.length≤k'→toks k p rs=toks k' p rs
 |k,k',p,[],_,_,_=>by
  have e:∀ k p,toks k p []=.inr []:=fun k p=>by cases k<;>rfl
  rw[e,e]
 |0,_,_,r::rs,_,hk,_=>by simp at hk
 |_+1,0,_,r::rs,_,_,hk=>by simp at hk
 |k+1,k'+1,p,r::rs,ha,hk,hk'=>by
  simp only[toks];cases hc:((tokR (r::rs)).2 != 0) with
  |true=>rfl
  |false=>
   have h0:(tokR (r::rs)).2=0:=by simpa using hc
   obtain ⟨w,hw,hsp⟩:=alone r rs ha h0;have hR:(restR (r::rs)).all Sp.isRune=true:=zacc (ds:=w) (by rw[← hsp]; exact ha);have hwl:0<w.length:=List.length_pos_iff.2 hw.1;have hl:=congrArg List.length hsp;rw[List.length_append,List.length_cons] at hl;obtain ⟨fs,hfs⟩:=zaa8 (restR (r::rs)) false;have hsl:(skip false (restR (r::rs))).length≤(restR (r::rs)).length:=by
    have:=congrArg List.length hfs;rw[List.length_append] at this;omega
   simp only[List.length_cons] at hk hk';have hS:(skip false (restR (r::rs))).all Sp.isRune=true:=zacc (ds:=fs) (by rw[← hfs]; exact hR);rw[zaiu k k' _ _ hS (by omega) (by omega)]
end Lift.A1P
namespace Lift.A1P
open Go Go.RowKit Lift Go.IntWalk Lift.Fn
theorem zar9:∀ x∈twos,x.headD 0≠35∧x.headD 0≠9∧x.headD 0≠10∧x.headD 0≠13∧x.headD 0≠32:=by decide
theorem zasz:∀ b∈ones,b≠35∧b≠9∧b≠10∧b≠13∧b≠32:=by decide
theorem zaud {w:List Int} {t:Token} (h:whole w t) (r:List Int):skip false (w++r)=w++r:=by
 obtain ⟨h1,h2,h3,h4⟩:=h;match w,h1 with
 |a::w,_=>
  simp only[List.all_cons,Bool.and_eq_true] at h2;have key:a≠35∧Sp.blank a=false:=by
   cases hg:goesR a with
   |true=>
    unfold goesR Sp.letter Sp.digit at hg;simp only[Bool.or_eq_true,Bool.and_eq_true,decide_eq_true_eq] at hg;constructor
    ·omega
    ·simp only[Sp.blank,decide_eq_false_iff_not]; omega
   |false=>
    obtain ⟨b,u,hb⟩:=zahm a w;unfold tokR at h3;simp only[List.headD_cons,hg,cond_false] at h3;cases hc:(sgn (encs (a::w))==[]) with
    |true=>rw[hc] at h3; simp at h3
    |false=>
     have hne:sgn (encs (a::w))≠[]:=by simpa using hc
     have hbb:b.toNat<128∧b≠35∧b≠9∧b≠10∧b≠13∧b≠32:=by
      unfold sgn at hne;by_cases k1:1<(encs (a::w)).length∧twos.contains ((encs (a::w)).take 2)=true
      ·have hm:(encs (a::w)).take 2∈twos:=by simpa using k1.2
       have q1:=(zajh _ hm).2;have q2:=zar9 _ hm;rw[hb] at q1 q2;simp only[List.take_succ_cons,List.all_cons,Bool.and_eq_true,decide_eq_true_eq,List.headD_cons] at q1 q2;exact ⟨q1.1,q2⟩
      ·rw[if_neg k1] at hne;by_cases k2:ones.contains ((encs (a::w)).headD 0)=true
       ·rw[hb] at k2;have hm:b∈ones:=by simpa using k2
        exact ⟨zaje b hm,zasz b hm⟩
       ·rw[if_neg k2] at hne;exact absurd rfl hne
     obtain ⟨e1,_⟩:=zadm h2.1 hb hbb.1;have hr:=zacy h2.1;have hlen:=congrArg List.length e1;rw[zacm] at hlen;have ha:a<128:=by
      unfold Sp.long at hlen;by_cases k:a<128
      ·exact k
      ·rw[if_neg k] at hlen;split at hlen
       ·simp at hlen
       ·split at hlen<;>simp at hlen
     have e2:UInt8.ofNat a.toNat=b:=by
      have:encB a=[UInt8.ofNat a.toNat]:=by simp[encB,bytesOf,Sp.enc,ha]
      rw[this] at e1;exact (List.cons.inj e1).1
     have e3:b.toNat=a.toNat:=by rw[← e2,zabp _ (by omega)]
     obtain ⟨_,n1,n2,n3,n4,n5⟩:=hbb;have no:∀ c:UInt8,b≠c→b.toNat≠c.toNat:=fun c hc hh=>hc (UInt8.toNat_inj.1 hh)
     have m1:=no 35 n1;have m2:=no 9 n2;have m3:=no 10 n3;have m4:=no 13 n4;have m5:=no 32 n5;simp only[show (35:UInt8).toNat=35 from rfl,show (9:UInt8).toNat=9 from rfl,show (10:UInt8).toNat=10 from rfl,show (13:UInt8).toNat=13 from rfl,show (32:UInt8).toNat=32 from rfl] at m1 m2 m3 m4 m5;constructor
     ·omega
     ·simp only[Sp.blank,decide_eq_false_iff_not]; omega
  simp only[List.cons_append,skip];rw[if_neg key.1,key.2];rfl
def jr:List (List Int)→List Int
 |[]=>[]
 |[w]=>w
 |w::v::ws=>w++32::jr (v::ws)
theorem zaur:Sp.blank 32=true:=by decide
end Lift.A1P
namespace Lift.A4
open Go Go.RowKit Lift Go.IntWalk Lift.Fn Lift.A1P
set_option linter.unusedVariables false
set_option linter.unusedSimpArgs false
theorem zauw {u:List UInt8} (h:2≤u.length) (y:List UInt8):sgn (u++y)=sgn u:=by
 have h1:(u++y).take 2=u.take 2:=List.take_append_of_le_length h;have h2:(u++y).take 1=u.take 1:=List.take_append_of_le_length (by omega);have h3:(u++y).headD 0=u.headD 0:=by
  cases u with
  |nil=>simp at h
  |cons a u=>rfl
 unfold sgn;rw[h1,h2,h3];by_cases k:twos.contains (u.take 2)=true
 ·rw[if_pos ⟨by rw[List.length_append]; omega,k⟩,if_pos ⟨by omega,k⟩]
 ·have k1:¬ (1<(u++y).length∧twos.contains (u.take 2)=true):=fun hh=>k hh.2
  have k2:¬ (1<u.length∧twos.contains (u.take 2)=true):=fun hh=>k hh.2
  rw[if_neg k1,if_neg k2]
theorem zaui (c:Int):1≤(encB c).length:=by
 rw[zacm];have:=zacx c;omega
theorem zatt (w:List Int) (c:Int) (x x':List Int) (hw:w≠[]) (h:restR (w++c::x)=c::x) :
  tokR (w++c::x')=tokR (w++c::x)∧restR (w++c::x')=c::x':=by
 have h1:(w++c::x).headD 0=w.headD 0:=zahr hw _;have h2:(w++c::x').headD 0=w.headD 0:=zahr hw _;cases hg:goesR (w.headD 0) with
 |true=>
  have e1:(w++c::x).dropWhile goesR=c::x:=by
   have:=h;unfold restR at this;rwa [h1,hg,cond_true] at this
  have e2:(w++c::x).takeWhile goesR=w:=by
   have:=List.takeWhile_append_dropWhile (p:=goesR) (l:=w++c::x);rw[e1] at this;exact List.append_cancel_right this
  have e3:∀ r∈w,goesR r=true:=fun r hr=>by
   rw[← e2] at hr;exact List.all_eq_true.1 List.all_takeWhile r hr
  have e4:goesR c=false:=by
   cases hc:goesR c with
   |false=>rfl
   |true=>
    rw[List.takeWhile_append_of_pos e3,List.takeWhile_cons,if_pos hc] at e2;have:=congrArg List.length e2;simp only[List.length_append,List.length_cons] at this;omega
  have e5:(w++c::x').takeWhile goesR=w:=by
   rw[List.takeWhile_append_of_pos e3,List.takeWhile_cons,if_neg (by rw[e4]; decide),List.append_nil]
  have e6:(w++c::x').dropWhile goesR=c::x':=by
   have:=List.takeWhile_append_dropWhile (p:=goesR) (l:=w++c::x');rw[e5] at this;exact List.append_cancel_left this
  constructor
  ·unfold tokR;rw[h1,h2,hg,e2,e5];rfl
  ·unfold restR;rw[h2,hg,cond_true,e6]
 |false=>
  have hl:2≤(encs (w++[c])).length:=by
   have:=zabi (w++[c]);rw[List.length_append,List.length_cons,List.length_nil] at this;have:0<w.length:=List.length_pos_iff.2 hw;omega
  have s1:∀ y,sgn (encs (w++c::y))=sgn (encs (w++[c])):=by
   intro y;rw[show w++c::y=(w++[c])++y by simp,zaag];exact zauw hl _
  have e1:(w++c::x).drop (sgn (encs (w++[c]))).length=c::x:=by
   have:=h;unfold restR at this;rwa [h1,hg,cond_false,s1] at this
  have e2:(sgn (encs (w++[c]))).length=w.length:=by
   have:=congrArg List.length e1;simp only[List.length_drop,List.length_append,List.length_cons] at this;omega
  constructor
  ·unfold tokR;rw[h1,h2,hg,cond_false,cond_false,s1 x,s1 x']
  ·unfold restR;rw[h2,hg,cond_false,s1,e2,List.drop_left]
theorem zae1 (c:Bool) (l:List Int):(skip c l).length≤l.length:=by
 obtain ⟨ds,h⟩:=zaa8 l c;have:=congrArg List.length h;rw[List.length_append] at this;omega
theorem zafe:∀ (sep:List Int) (c:Bool) (x:Int) (y y':List Int),skip c (sep++x::y)=x::y→skip c (sep++x::y')=x::y'
 |[],c,x,y,y',h=>by
  simp only[List.nil_append] at h ⊢;cases c with
  |true=>
   simp only[skip] at h;have:=zae1 (x != 10) y;rw[h,List.length_cons] at this;omega
  |false=>
   simp only[skip] at h ⊢;by_cases h1:x=35
   ·rw[if_pos h1] at h;have:=zae1 true y;rw[h,List.length_cons] at this;omega
   ·rw[if_neg h1] at h ⊢;cases h2:Sp.blank x with
    |true=>
     rw[h2] at h;simp only[if_true] at h;have:=zae1 false y;rw[h,List.length_cons] at this;omega
    |false=>rfl
 |q::sep,c,x,y,y',h=>by
  simp only[List.cons_append] at h ⊢;cases c with
  |true=>
   simp only[skip] at h ⊢;exact zafe sep _ x y y' h
  |false=>
   simp only[skip] at h ⊢;by_cases h1:q=35
   ·rw[if_pos h1] at h ⊢;exact zafe sep _ x y y' h
   ·rw[if_neg h1] at h ⊢;cases h2:Sp.blank q with
    |true=>
     rw[h2] at h;simp only[if_true] at h ⊢;exact zafe sep _ x y y' h
    |false=>
     rw[h2] at h;have:=congrArg List.length h;simp only[Bool.false_eq_true,if_false,List.length_cons,List.length_append] at this;omega
noncomputable def T (p:Int) (rs:List Int):(Int×Int)⊕List Token:=toks rs.length p rs
theorem T_nil (p:Int):T p []=.inr []:=rfl
theorem zah2 {r:Int} {rs:List Int} (ha:(r::rs).all Sp.isRune=true) (h0:(tokR (r::rs)).2=0):(skip false (restR (r::rs))).all Sp.isRune=true∧(skip false (restR (r::rs))).length≤rs.length:=by
 obtain ⟨ds,h1,h2,_⟩:=zah1 r rs ha h0;obtain ⟨es,h3⟩:=zaa8 (restR (r::rs)) false;have h4:r::rs=(ds++es)++skip false (restR (r::rs)):=by rw[List.append_assoc,← h3,← h2]
 refine ⟨zacc (ds:=ds++es) (by rw[← h4]; exact ha),?_⟩;have:=congrArg List.length h2;have q:=zae1 false (restR (r::rs));have q2:0<ds.length:=List.length_pos_iff.2 h1;simp only[List.length_cons,List.length_append] at this;omega
theorem zag8 (p:Int) (r:Int) (rs:List Int) (ha:(r::rs).all Sp.isRune=true):T p (r::rs)=bif (tokR (r::rs)).2 != 0 then .inl ((tokR (r::rs)).2,p) else
   match T (p+(encs (r::rs)).length-(encs (skip false (restR (r::rs)))).length) (skip false (restR (r::rs))) with
   |.inl e=>.inl e
   |.inr l=>.inr (⟨(tokR (r::rs)).1.kind,(tokR (r::rs)).1.text,(tokR (r::rs)).1.num,p⟩::l):=by
 show toks (rs.length+1) p (r::rs)=_;rw[toks];by_cases h0:(tokR (r::rs)).2=0
 ·obtain ⟨q1,q2⟩:=zah2 ha h0;have e:((tokR (r::rs)).2 != 0)=false:=by simp[h0]
  rw[e,cond_false,cond_false];unfold T;rw[zaiu rs.length (skip false (restR (r::rs))).length _ _ q1 q2 (Nat.le_refl _)];all_goals (cases toks (skip false (restR (r::rs))).length (p+(encs (r::rs)).length-(encs (skip false (restR (r::rs)))).length) (skip false (restR (r::rs)))<;>rfl)
 ·have e:((tokR (r::rs)).2 != 0)=true:=by simp[h0]
  rw[e,cond_true,cond_true]
theorem zabd (a b:List Int):((encs (a++b)).length:Int)=(encs a).length+(encs b).length:=by rw[zaag,List.length_append]; omega
theorem T_cut:∀ (n:Nat) (rs:List Int) (p:Int) (l:List Token),rs.length≤n→rs.all Sp.isRune=true→T p rs=.inr l→∀ (u:List Token) (t:Token) (v:List Token),l=u++t::v →
  ∃ a b,rs=a++b∧a≠[]∧t.at_+t.text.length=p+(encs a).length∧∀ s:List Int,s.all Sp.isRune=true →
   T p (a++32::s)=match T (p+(encs a).length+1+(encs s).length-(encs (skip false s)).length) (skip false s) with
    |.inl e=>.inl e
    |.inr m=>.inr (u++t::m):=by
 intro n;induction n with
 |zero=>
  intro rs p l hn ha h u t v hl;have:rs=[]:=List.eq_nil_of_length_eq_zero (by omega);subst this;rw[T_nil,Sum.inr.injEq] at h;subst h;cases u<;>cases hl
 |succ n ih=>
  intro rs p l hn ha h u t v hl;cases rs with
  |nil=>
   rw[T_nil,Sum.inr.injEq] at h;subst h;cases u<;>cases hl
  |cons r rs=>
   rw[zag8 p r rs ha] at h;by_cases h0:(tokR (r::rs)).2=0
   ·have e:((tokR (r::rs)).2 != 0)=false:=by simp[h0]
    rw[e,cond_false] at h;obtain ⟨q1,q2⟩:=zah2 ha h0;obtain ⟨w,hw,hsp⟩:=alone r rs ha h0;simp only[List.length_cons] at hn;have hwl:=hw.2.2.2;have hne:=hw.1;have hws:=hw.2.1;cases hT:T (p+(encs (r::rs)).length-(encs (skip false (restR (r::rs)))).length) (skip false (restR (r::rs))) with
    |inl e=>rw[hT] at h; cases h
    |inr l'=>
     rw[hT] at h;simp only[Sum.inr.injEq] at h;cases u with
     |nil=>
      rw[← h,List.nil_append,List.cons.injEq] at hl;obtain ⟨rfl,rfl⟩:=hl;refine ⟨w,restR (r::rs),hsp,hne,?_,fun s hs=>?_⟩
      ·show p+_=_;rw[hwl]
      ·obtain ⟨b1,b2⟩:=zami hw s;have hall:(w++32::s).all Sp.isRune=true:=by
        rw[List.all_append,hws,List.all_cons,hs];rfl
       have hsk:skip false (32::s)=skip false s:=by
        simp only[skip,zaur];rfl
       have hlen:((encs (w++32::s)).length:Int)=(encs w).length+1+(encs s).length:=by
        rw[zabd,zaao,zamm,List.length_append];show ((encs w).length:Int)+((1+(encs s).length:Nat):Int)=_;omega
       cases w with
       |nil=>exact absurd rfl hne
       |cons a w=>
        rw[List.cons_append] at b1 b2 hall hlen ⊢;rw[zag8 p a (w++32::s) hall,b1,b2,hsk,hlen];simp only[bne_self_eq_false,cond_false,List.nil_append];rw[show p+(((encs (a::w)).length:Int)+1+(encs s).length)-(encs (skip false s)).length=p+(encs (a::w)).length+1+(encs s).length-(encs (skip false s)).length by omega]
     |cons t0 u=>
      rw[← h,List.cons_append,List.cons.injEq] at hl;obtain ⟨ht0,hl⟩:=hl;obtain ⟨a,b,hab,hane,hat,hs⟩:=ih _ _ _ (by omega) q1 hT u t v hl;obtain ⟨sep,hsep⟩:=zaa8 (restR (r::rs)) false;rw[hab] at hsep;obtain ⟨c,x,hcx⟩:∃ c x,sep++a=c::x:=by
       cases sep with
       |nil=>
        cases a with
        |nil=>exact absurd rfl hane
        |cons c x=>exact ⟨c,x,rfl⟩
       |cons c sep=>exact ⟨c,sep++a,rfl⟩
      obtain ⟨y,z,hyz⟩:∃ y z,a=y::z:=by
       cases a with
       |nil=>exact absurd rfl hane
       |cons c x=>exact ⟨c,x,rfl⟩
      have hrest:restR (r::rs)=c::(x++b):=by rw[hsep,← List.append_assoc,hcx]; rfl
      have hwhole:r::rs=w++c::(x++b):=by rw[← hrest]; exact hsp
      have hfull:r::rs=(w++sep)++(a++b):=by rw[List.append_assoc,← hsep]; exact hsp
      have hpp:p+(encs (r::rs)).length-(encs (skip false (restR (r::rs)))).length=p+(encs (w++sep)).length:=by
       rw[hab];have:=congrArg (fun l=>((encs l).length:Int)) hfull;rw[zabd (w++sep) (a++b)] at this;omega
      rw[hpp] at hat hs;refine ⟨w++sep++a,b,by rw[List.append_assoc (w++sep)]; exact hfull,?_,?_,fun s hs'=>?_⟩
      ·rw[hyz]; simp
      ·rw[hat,zabd (w++sep) a]; omega
      ·have hsa:a.all Sp.isRune=true:=by
        rw[hab,List.all_append,Bool.and_eq_true] at q1;exact q1.1
       have hwsep:(w++sep).all Sp.isRune=true:=by
        rw[hfull,List.all_append,Bool.and_eq_true] at ha;exact ha.1
       have hskip:skip false (sep++(a++32::s))=a++32::s:=by
        have h5:skip false (sep++(a++b))=a++b:=by rw[← hsep]; exact hab
        rw[hyz,List.cons_append] at h5 ⊢;exact zafe sep false y _ _ h5
       obtain ⟨n1,n2⟩:=zatt w c (x++b) (x++32::s) hne (by rw[← hwhole]; exact hrest);have hnew:w++c::(x++32::s)=w++sep++a++32::s:=by
        rw[← List.cons_append,← hcx];simp
       have hrest2:c::(x++32::s)=sep++(a++32::s):=by
        rw[← List.cons_append,← hcx,List.append_assoc]
       rw[hnew] at n1 n2;rw[← hwhole] at n1;rw[hrest2] at n2;have hall:(w++sep++a++32::s).all Sp.isRune=true:=by
        rw[List.all_append,List.all_append,hwsep,hsa,List.all_cons,hs'];rfl
       have hlen:((encs (w++sep++a++32::s)).length:Int)=(encs (w++sep)).length+(encs (a++32::s)).length:=by
        rw[List.append_assoc (w++sep),zabd]
       have hhead:∃ q qs,w++sep++a++32::s=q::qs:=by
        cases w with
        |nil=>exact absurd rfl hne
        |cons q qs=>exact ⟨q,qs++sep++a++32::s,by simp⟩
       obtain ⟨q,qs,hq⟩:=hhead;rw[hq] at n1 n2 hall hlen ⊢;rw[zag8 p q qs hall,n1,n2,hskip,e,cond_false,hlen];rw[show p+(((encs (w++sep)).length:Int)+(encs (a++32::s)).length)-(encs (a++32::s)).length=p+(encs (w++sep)).length by omega];rw[hs s hs'];rw[show p+((encs (w++sep++a)).length:Int)=p+(encs (w++sep)).length+(encs a).length by rw[zabd (w++sep) a]; omega];cases T (p+(encs (w++sep)).length+(encs a).length+1+(encs s).length-(encs (skip false s)).length) (skip false s) with
       |inl e=>rfl
       |inr m=>
        show Sum.inr (_::(u++t::m))=Sum.inr (t0::u++t::m);rw[← ht0];rfl
   ·have e:((tokR (r::rs)).2 != 0)=true:=by simp[h0]
    rw[e,cond_true] at h;cases h
end Lift.A4
namespace Lift.A1P
open Go Go.RowKit Lift Go.IntWalk Lift.Fn
end Lift.A1P
namespace Lift.A4
open Go Go.RowKit Lift Go.IntWalk Lift.Fn Lift.A1P
set_option linter.unusedVariables false
set_option linter.unusedSimpArgs false
theorem zanl (rs:List Int):(tokR rs).1.kind≠5∧(tokR rs).2≠40:=by
 unfold tokR;cases goesR (rs.headD 0) with
 |true=>
  rw[cond_true];cases Sp.digit (rs.headD 0) with
  |true=>
   rw[cond_true];cases (numS (encs (rs.takeWhile goesR))).2<;>constructor<;>simp
  |false=>
   rw[cond_false];cases words.contains (encs (rs.takeWhile goesR)) with
   |true=>constructor<;>simp
   |false=>
    rw[cond_false];cases decide (16<(rs.takeWhile goesR).length)<;>constructor<;>simp
 |false=>
  rw[cond_false];cases (sgn (encs rs)==[])<;>constructor<;>simp
theorem T_bad:∀ (n:Nat) (rs:List Int) (p:Int) (e:Int×Int),rs.length≤n→rs.all Sp.isRune=true→T p rs=.inl e→e.1≠0∧e.1≠40:=by
 intro n;induction n with
 |zero=>
  intro rs p e hn ha h;have:rs=[]:=List.eq_nil_of_length_eq_zero (by omega);subst this;cases h
 |succ n ih=>
  intro rs p e hn ha h;cases rs with
  |nil=>cases h
  |cons r rs=>
   simp only[List.length_cons] at hn;rw[zag8 p r rs ha] at h;by_cases h0:(tokR (r::rs)).2=0
   ·have e1:((tokR (r::rs)).2 != 0)=false:=by simp[h0]
    rw[e1,cond_false] at h;obtain ⟨q1,q2⟩:=zah2 ha h0;cases hT:T (p+(encs (r::rs)).length-(encs (skip false (restR (r::rs)))).length) (skip false (restR (r::rs))) with
    |inl e2=>
     rw[hT] at h;simp only[Sum.inl.injEq] at h;rw[← h];exact ih _ _ _ (by omega) q1 hT
    |inr l'=>rw[hT] at h; cases h
   ·have e1:((tokR (r::rs)).2 != 0)=true:=by simp[h0]
    rw[e1,cond_true,Sum.inl.injEq] at h;rw[← h];exact ⟨h0,(zanl _).2⟩
theorem T_ok:∀ (n:Nat) (rs:List Int) (p:Int) (l:List Token),rs.length≤n→rs.all Sp.isRune=true→T p rs=.inr l →
  (∀ x∈l,p≤x.at_∧x.at_<p+(encs rs).length∧x.kind≠5∧∃ w t,whole w t∧core x=core t)∧l.Pairwise (fun x y=>x.at_<y.at_):=by
 intro n;induction n with
 |zero=>
  intro rs p l hn ha h;have:rs=[]:=List.eq_nil_of_length_eq_zero (by omega);subst this;rw[T_nil,Sum.inr.injEq] at h;subst h;exact ⟨fun x hx=>(by cases hx),.nil⟩
 |succ n ih=>
  intro rs p l hn ha h;cases rs with
  |nil=>
   rw[T_nil,Sum.inr.injEq] at h;subst h;exact ⟨fun x hx=>(by cases hx),.nil⟩
  |cons r rs=>
   simp only[List.length_cons] at hn;rw[zag8 p r rs ha] at h;by_cases h0:(tokR (r::rs)).2=0
   ·have e1:((tokR (r::rs)).2 != 0)=false:=by simp[h0]
    rw[e1,cond_false] at h;obtain ⟨q1,q2⟩:=zah2 ha h0;obtain ⟨w,hw,hsp⟩:=alone r rs ha h0;obtain ⟨sep,hsep⟩:=zaa8 (restR (r::rs)) false;have hlen:((encs (r::rs)).length:Int)=(encs w).length+(encs sep).length+(encs (skip false (restR (r::rs)))).length:=by
     have h1:=congrArg (fun l=>((encs l).length:Int)) hsp;have h2:=congrArg (fun l=>((encs l).length:Int)) hsep;rw[zabd] at h1 h2;omega
    have hwl:0<(encs w).length:=by
     have:=zabi w;have:0<w.length:=List.length_pos_iff.2 hw.1;omega
    cases hT:T (p+(encs (r::rs)).length-(encs (skip false (restR (r::rs)))).length) (skip false (restR (r::rs))) with
    |inl e2=>rw[hT] at h; cases h
    |inr l'=>
     rw[hT] at h;simp only[Sum.inr.injEq] at h;obtain ⟨i1,i2⟩:=ih _ _ _ (by omega) q1 hT;subst h;constructor
     ·intro x hx;simp only[List.mem_cons] at hx;rcases hx with rfl|hx
      ·exact ⟨Int.le_refl _,by show p<_; omega,(zanl _).1,w,_,hw,rfl⟩
      ·obtain ⟨a1,a2,a3,a4⟩:=i1 x hx;exact ⟨by omega,by omega,a3,a4⟩
     ·refine List.Pairwise.cons (fun x hx=>?_) i2;obtain ⟨a1,a2,a3,a4⟩:=i1 x hx;show p<x.at_;omega
   ·have e1:((tokR (r::rs)).2 != 0)=true:=by simp[h0]
    rw[e1,cond_true] at h;cases h
noncomputable def p0 (rs:List Int):Int:=((encs rs).length:Int)-(encs (skip false rs)).length
theorem zaf7 {rs:List Int} (ha:rs.all Sp.isRune=true):(skip false rs).all Sp.isRune=true:=by
 obtain ⟨ds,h⟩:=zaa8 rs false;exact zacc (ds:=ds) (by rw[← h]; exact ha)
theorem zasp (rs:List Int) (ha:rs.all Sp.isRune=true):toks rs.length (p0 rs) (skip false rs)=T (p0 rs) (skip false rs):=by
 unfold T;exact zaiu _ _ _ _ (zaf7 ha) (zae1 _ _) (Nat.le_refl _)
theorem zam2 (t:List UInt8):(∃ f,qag t=some ([],f)∧f.code≠0∧f.code≠40) ∨
  (∃ rs l,t=encs rs∧rs.all Sp.isRune=true∧t.length≤4000∧T (p0 rs) (skip false rs)=.inr l∧qag t=some (l++[⟨5,[],0,(t.length:Int)⟩],⟨0,0,[]⟩)):=by
 rcases zapy t with ⟨h1,h2⟩|⟨h0,rs,rest,_,_,_,_,h1,h2⟩|⟨h0,rs,rfl,ha,h1,h2⟩
 ·refine .inl ⟨_,zak3 t (by rw[h2]; decide),?_,?_⟩<;>· rw[h2]; decide
 ·refine .inl ⟨_,zak3 t (by rw[h2]; show (11:Int)≠0; decide),?_,?_⟩
  ·rw[h2]; show (11:Int)≠0; decide
  ·rw[h2]; show (11:Int)≠40; decide
 ·have h:=zai9 rs ha h0;have e:=zasp rs ha;unfold p0 at e;rw[e] at h;cases hT:T (((encs rs).length:Int)-(encs (skip false rs)).length) (skip false rs) with
  |inl e2=>
   rw[hT] at h;obtain ⟨b1,b2⟩:=T_bad _ _ _ _ (Nat.le_refl _) (zaf7 ha) hT;exact .inl ⟨_,h,b1,b2⟩
  |inr l=>
   rw[hT] at h;exact .inr ⟨rs,l,rfl,ha,h0,hT,h⟩
theorem zaqm:∀ (u rs:List Int) (more:List UInt8),u.all Sp.isRune=true→rs.all Sp.isRune=true→encs rs=encs u++more→∃ s,rs=u++s
 |[],rs,_,_,_,_=>⟨rs,rfl⟩
 |r::u,[],more,_,_,h=>by
  rw[zaao] at h;have:=congrArg List.length h;have h2:=zaui r;simp only[List.length_append,encs,List.flatMap_nil,List.length_nil] at this;omega
 |r::u,q::rs,more,hu,hr,h=>by
  simp only[List.all_cons,Bool.and_eq_true] at hu hr;rw[zaao,zaao,List.append_assoc] at h;have d1:=(zakt r (encs u++more) hu.1).1;have d2:=(zakt q (encs rs) hr.1).1;rw[h,d1] at d2;have e1:=(Prod.mk.inj d2).1;have hrr:=zacy hu.1;have hqq:=zacy hr.1;have e:r=q:=by omega
  subst e;obtain ⟨s,hs⟩:=zaqm u rs more hu.2 hr.2 (List.append_cancel_left h);exact ⟨s,by rw[hs]; rfl⟩
end Lift.A4
namespace Lift.A3
open Go Go.RowKit Lift Go.IntWalk Lift.Fn
set_option linter.unusedVariables false
set_option linter.unusedSimpArgs false
theorem wE_1 : WalksE (fun (x : TExpr) (d : Int) (s : Int) => qaY x d s) (fun (n : Nat) (x : TExpr) (d : Int) (s : Int) => qaa_i n x d s) where
 step:=by
  intro n x d s hd1 hd2 hl;show qaa_f (qaa_i n) x d s=_;unfold qaa_f;rw[zaa0];congr 1;funext y0
  have hL := zad8 (σ := Int) x.args (fun y s => qaa_i n y (d + 1) s) (fun m i s => qaa_i3 (qaa_i n) m d x.args (x.args.length : Int) i s)
   (fun m i s h0 h=>by simp only[qaa_i3,qaa_t3,decide_eq_false h,cond_false])
   (fun m i s y h0 h hy=>by
    simp only[qaa_i3,qaa_t3,decide_eq_true h,decide_eq_true h0,cond_true,hy,Option.bind_some,zaa0];rw[i64_in (i+1) (by omega),i64_in (d+1) (by omega)])
   x.args.length fuel 0 y0 (by omega) (by omega) (by unfold fuel; omega)
  try simp only at hL
  rw[qaa_l3,zaaa,hL];simp[zaef]
theorem wEx_1 (x:TExpr) (s:Int) (hx:nE x≤100000000000000000):qaa x 1 s=(evE x 1).foldlM (atEv (fun (x:TStmt) (d:Int) (s:Int)=>qaX x d s) (fun (x:TExpr) (d:Int) (s:Int)=>qaY x d s)) s:=by
 rw[qaa,zaaa];exact zaru (g:=(fun (x:TStmt) (d:Int) (s:Int)=>qaX x d s)) wE_1 (nE x) fuel x 1 s (Nat.le_refl _) (by unfold fuel; omega) (by omega) (by omega)
theorem wS_1 : WalksS (fun (x : TStmt) (d : Int) (s : Int) => qaX x d s) (fun (x : TExpr) (d : Int) (s : Int) => qaa x d s) (fun (n : Nat) (l : List TStmt) (d : Int) (s : Int) => qae_i n l d s) where
 step:=by
  intro n l d s hd1 hd2 hl;show qae_f (qae_i n) l d s=_;unfold qae_f
  have hL := zad8 (σ := Int) l (fun x s => (qaX x d s).bind fun s1 => (if zacb x.expr then qaa x.expr 1 s1 else some s1).bind fun s2 => (qae_i n x.then_ (d + 1) s2).bind fun s3 => qae_i n x.else_ (d + 1) s3)
   (fun m i s=>qae_i2 (qae_i n) m d l (l.length:Int) i s)
   (fun m i s h0 h=>by simp only[qae_i2,qae_t2,decide_eq_false h,cond_false])
   (fun m i s y h0 h hy=>by
    have e:(bif TExpr.kind (TStmt.expr y) != (0:Int) then some true else some (decide ((↑(List.length (TExpr.args (TStmt.expr y))):Int)>(0:Int))))=some (zacb y.expr):=by
     unfold zacb;cases (y.expr.kind != 0)
     ·simp
     ·rfl
    simp only[qae_i2,qae_t2,decide_eq_true h,decide_eq_true h0,cond_true,hy,Option.bind_some,zaa0,zaki,e];rw[i64_in (i+1) (by omega),i64_in (d+1) (by omega)];cases zacb y.expr<;>simp[Option.bind_assoc])
   l.length fuel 0 s (by omega) (by omega) (by unfold fuel; omega)
  try simp only at hL
  rw[qae_l2,zaaa,hL];simp[zaef]
theorem wSt_1 (l:List TStmt) (s:Int) (hl:nSs l≤10000000000000000):qae l 1 s=(evSs l 1).foldlM (atEv (fun (x:TStmt) (d:Int) (s:Int)=>qaX x d s) (fun (x:TExpr) (d:Int) (s:Int)=>qaY x d s)) s:=by
 rw[qae,zaaa];exact zasn (g:=(fun (x:TStmt) (d:Int) (s:Int)=>qaX x d s)) (h:=(fun (x:TExpr) (d:Int) (s:Int)=>qaY x d s)) (fun x s hx=>wEx_1 x s hx) wS_1 (nSs l) fuel l 1 s (Nat.le_refl _) (by unfold fuel; omega) (by omega) (by omega)
theorem wP_1 (p:TProg) (s:Int) (hl:nT p.threads≤10000000000000000):qac p s=(evP p).foldlM (atEv (fun (x:TStmt) (d:Int) (s:Int)=>qaX x d s) (fun (x:TExpr) (d:Int) (s:Int)=>qaY x d s)) s:=by
 rw[qac,zaaa];unfold qac_f;have hn:=zale p.threads
 have hL := zad8 (σ := Int) p.threads (fun t s => qae t.body 1 s) (fun m i s => qac_i2 m p.threads (p.threads.length : Int) i s)
  (fun m i s h0 h=>by simp only[qac_i2,qac_t2,decide_eq_false h,cond_false])
  (fun m i s y h0 h hy=>by
   simp only[qac_i2,qac_t2,decide_eq_true h,decide_eq_true h0,cond_true,hy,Option.bind_some];rw[i64_in (i+1) (by omega)])
  p.threads.length fuel 0 s (by omega) (by omega) (by unfold fuel; omega)
 try simp only at hL
 rw[qac_l2,zaaa,hL];unfold evP;rw[zad0];have:∀ (l:List TThread) (s:Int),(∀ t∈l,nSs t.body≤10000000000000000)→l.foldlM (fun s t=>qae t.body 1 s) s=l.foldlM (fun s t=>(evSs t.body 1).foldlM (atEv (fun (x:TStmt) (d:Int) (s:Int)=>qaX x d s) (fun (x:TExpr) (d:Int) (s:Int)=>qaY x d s)) s) s:=by
  intro l;induction l with
  |nil=>intro s _; rfl
  |cons t l ih=>
   intro s ht;rw[List.foldlM_cons,List.foldlM_cons,wSt_1 t.body s (ht t (by simp))];congr 1;funext s';exact ih s' (fun z hz=>ht z (by simp[hz]))
 rw[Int.toNat_zero,List.drop_zero,this _ _ (fun t ht=>by have:=zak7 ht; omega)];simp[zaef]
theorem wE_2 : WalksE (fun (x : TExpr) (d : Int) (s : Int) => qaV x d s) (fun (n : Nat) (x : TExpr) (d : Int) (s : Int) => qab_i n x d s) where
 step:=by
  intro n x d s hd1 hd2 hl;show qab_f (qab_i n) x d s=_;unfold qab_f;rw[zaa0];congr 1;funext y0
  have hL := zad8 (σ := Int) x.args (fun y s => qab_i n y (d + 1) s) (fun m i s => qab_i3 (qab_i n) m d x.args (x.args.length : Int) i s)
   (fun m i s h0 h=>by simp only[qab_i3,qab_t3,decide_eq_false h,cond_false])
   (fun m i s y h0 h hy=>by
    simp only[qab_i3,qab_t3,decide_eq_true h,decide_eq_true h0,cond_true,hy,Option.bind_some,zaa0];rw[i64_in (i+1) (by omega),i64_in (d+1) (by omega)])
   x.args.length fuel 0 y0 (by omega) (by omega) (by unfold fuel; omega)
  try simp only at hL
  rw[qab_l3,zaaa,hL];simp[zaef]
theorem wEx_2 (x:TExpr) (s:Int) (hx:nE x≤100000000000000000):qab x 1 s=(evE x 1).foldlM (atEv (fun (x:TStmt) (d:Int) (s:Int)=>qaU x d s) (fun (x:TExpr) (d:Int) (s:Int)=>qaV x d s)) s:=by
 rw[qab,zaaa];exact zaru (g:=(fun (x:TStmt) (d:Int) (s:Int)=>qaU x d s)) wE_2 (nE x) fuel x 1 s (Nat.le_refl _) (by unfold fuel; omega) (by omega) (by omega)
theorem wS_2 : WalksS (fun (x : TStmt) (d : Int) (s : Int) => qaU x d s) (fun (x : TExpr) (d : Int) (s : Int) => qab x d s) (fun (n : Nat) (l : List TStmt) (d : Int) (s : Int) => qaf_i n l d s) where
 step:=by
  intro n l d s hd1 hd2 hl;show qaf_f (qaf_i n) l d s=_;unfold qaf_f
  have hL := zad8 (σ := Int) l (fun x s => (qaU x d s).bind fun s1 => (if zacb x.expr then qab x.expr 1 s1 else some s1).bind fun s2 => (qaf_i n x.then_ (d + 1) s2).bind fun s3 => qaf_i n x.else_ (d + 1) s3)
   (fun m i s=>qaf_i2 (qaf_i n) m d l (l.length:Int) i s)
   (fun m i s h0 h=>by simp only[qaf_i2,qaf_t2,decide_eq_false h,cond_false])
   (fun m i s y h0 h hy=>by
    have e:(bif TExpr.kind (TStmt.expr y) != (0:Int) then some true else some (decide ((↑(List.length (TExpr.args (TStmt.expr y))):Int)>(0:Int))))=some (zacb y.expr):=by
     unfold zacb;cases (y.expr.kind != 0)
     ·simp
     ·rfl
    simp only[qaf_i2,qaf_t2,decide_eq_true h,decide_eq_true h0,cond_true,hy,Option.bind_some,zaa0,zaki,e];rw[i64_in (i+1) (by omega),i64_in (d+1) (by omega)];cases zacb y.expr<;>simp[Option.bind_assoc])
   l.length fuel 0 s (by omega) (by omega) (by unfold fuel; omega)
  try simp only at hL
  rw[qaf_l2,zaaa,hL];simp[zaef]
theorem wSt_2 (l:List TStmt) (s:Int) (hl:nSs l≤10000000000000000):qaf l 1 s=(evSs l 1).foldlM (atEv (fun (x:TStmt) (d:Int) (s:Int)=>qaU x d s) (fun (x:TExpr) (d:Int) (s:Int)=>qaV x d s)) s:=by
 rw[qaf,zaaa];exact zasn (g:=(fun (x:TStmt) (d:Int) (s:Int)=>qaU x d s)) (h:=(fun (x:TExpr) (d:Int) (s:Int)=>qaV x d s)) (fun x s hx=>wEx_2 x s hx) wS_2 (nSs l) fuel l 1 s (Nat.le_refl _) (by unfold fuel; omega) (by omega) (by omega)
theorem wP_2 (p:TProg) (s:Int) (hl:nT p.threads≤10000000000000000):qad p s=(evP p).foldlM (atEv (fun (x:TStmt) (d:Int) (s:Int)=>qaU x d s) (fun (x:TExpr) (d:Int) (s:Int)=>qaV x d s)) s:=by
 rw[qad,zaaa];unfold qad_f;have hn:=zale p.threads
 have hL := zad8 (σ := Int) p.threads (fun t s => qaf t.body 1 s) (fun m i s => qad_i2 m p.threads (p.threads.length : Int) i s)
  (fun m i s h0 h=>by simp only[qad_i2,qad_t2,decide_eq_false h,cond_false])
  (fun m i s y h0 h hy=>by
   simp only[qad_i2,qad_t2,decide_eq_true h,decide_eq_true h0,cond_true,hy,Option.bind_some];rw[i64_in (i+1) (by omega)])
  p.threads.length fuel 0 s (by omega) (by omega) (by unfold fuel; omega)
 try simp only at hL
 rw[qad_l2,zaaa,hL];unfold evP;rw[zad0];have:∀ (l:List TThread) (s:Int),(∀ t∈l,nSs t.body≤10000000000000000)→l.foldlM (fun s t=>qaf t.body 1 s) s=l.foldlM (fun s t=>(evSs t.body 1).foldlM (atEv (fun (x:TStmt) (d:Int) (s:Int)=>qaU x d s) (fun (x:TExpr) (d:Int) (s:Int)=>qaV x d s)) s) s:=by
  intro l;induction l with
  |nil=>intro s _; rfl
  |cons t l ih=>
   intro s ht;rw[List.foldlM_cons,List.foldlM_cons,wSt_2 t.body s (ht t (by simp))];congr 1;funext s';exact ih s' (fun z hz=>ht z (by simp[hz]))
 rw[Int.toNat_zero,List.drop_zero,this _ _ (fun t ht=>by have:=zak7 ht; omega)];simp[zaef]
end Lift.A3
namespace Lift.A3
open Go Go.RowKit Lift Go.IntWalk Lift.Fn
set_option linter.unusedVariables false
set_option linter.unusedSimpArgs false
theorem zavg {α σ ρ:Type} (l:List α) (I:List α→σ→Prop) (P:List α→σ→ρ) (L:Nat→Int→σ→Option ρ)
  (h0:∀ n i s,0≤i→¬ i<(l.length:Int)→I [] s→L (n+1) i s=some (P [] s))
  (h1:∀ n i s x r,0≤i→i<(l.length:Int)→l[i.toNat]? = some x→x∈l→I (x::r) s→(∃ s',I r s'∧L (n+1) i s=L n (i+1) s'∧P (x::r) s=P r s')∨L (n+1) i s=some (P (x::r) s)) :
  ∀ (k n:Nat) (i:Int) (s:σ),0≤i→l.length-i.toNat≤k→k<n→I (l.drop i.toNat) s→L n i s=some (P (l.drop i.toNat) s):=by
 intro k;induction k with
 |zero=>
  intro n i s hi hk hn hI;obtain ⟨n,rfl⟩:∃ q,n=q+1:=⟨n-1,by omega⟩;rw[List.drop_eq_nil_of_le (by omega)] at hI ⊢;exact h0 n i s hi (by omega) hI
 |succ k ih=>
  intro n i s hi hk hn hI;obtain ⟨n,rfl⟩:∃ q,n=q+1:=⟨n-1,by omega⟩;by_cases c:i<(l.length:Int)
  ·have hlt:i.toNat<l.length:=by omega
   rw[List.drop_eq_getElem_cons hlt] at hI ⊢;rcases h1 n i s l[i.toNat] _ hi c (List.getElem?_eq_getElem hlt) (List.getElem_mem hlt) hI with ⟨s',i1,e1,e2⟩|e
   ·have e:(i+1).toNat=i.toNat+1:=by omega
    rw[e1,ih n (i+1) s' (by omega) (by omega) (by omega) (by rw[e]; exact i1),e2,e]
   ·exact e
  ·rw[List.drop_eq_nil_of_le (by omega)] at hI ⊢;exact h0 n i s hi c hI
theorem zaux {α σ ρ:Type} (l:List α) (I:List α→σ→Prop) (P:List α→σ→ρ) (L:Nat→Int→σ→Option ρ)
  (h0:∀ n i s,0≤i→¬ i<(l.length:Int)→I [] s→L (n+1) i s=some (P [] s))
  (h1:∀ n i s x r,0≤i→i<(l.length:Int)→l[i.toNat]? = some x→x∈l→I (x::r) s→(∃ s',I r s'∧L (n+1) i s=L n (i+1) s'∧P (x::r) s=P r s')∨L (n+1) i s=some (P (x::r) s))
  (n:Nat) (s:σ) (hn:l.length<n) (hI:I l s):L n 0 s=some (P l s):=by
 have:=zavg l I P L h0 h1 l.length n 0 s (by omega) (by omega) hn;rw[Int.toNat_zero,List.drop_zero] at this;exact this hI
mutual
theorem lenE:∀ (x:TExpr) (d:Int),(evE x d).length=nE x
 |⟨k,n,m,l⟩,d=>by simp[evE,nE,lenEs l (d+1)]; omega
theorem lenEs:∀ (l:List TExpr) (d:Int),(evEs l d).length=nEs l
 |[],d=>by simp[evEs,nEs]
 |x::l,d=>by simp[evEs,nEs,lenE x d,lenEs l d]
end
mutual
def cS:TStmt→Nat
 |⟨_,_,_,x,_,t,o⟩=>1+(if zacb x then nE x else 0)+cSs t+cSs o
def cSs:List TStmt→Nat
 |[]=>0
 |x::l=>cS x+cSs l
end
def cT:List TThread→Nat
 |[]=>0
 |t::l=>cSs t.body+cT l
mutual
theorem lenS:∀ (x:TStmt) (d:Int),(evS x d).length=cS x
 |⟨k,r,m,x,c,t,o⟩,d=>by
  have h1:=lenSs t (d+1);have h2:=lenSs o (d+1);have h3:=lenE x 1;simp only[evS,cS,List.length_cons,List.length_append,h1,h2];split<;>simp[h3]<;>omega
theorem lenSs:∀ (l:List TStmt) (d:Int),(evSs l d).length=cSs l
 |[],d=>by simp[evSs,cSs]
 |x::l,d=>by simp[evSs,cSs,lenS x d,lenSs l d]
end
mutual
theorem cS_le:∀ x:TStmt,cS x≤nS x
 |⟨k,r,m,x,c,t,o⟩=>by
  have h1:=zalp t;have h2:=zalp o;simp only[cS,nS];split<;>omega
theorem zalp:∀ l:List TStmt,cSs l≤nSs l
 |[]=>by simp[cSs]
 |x::l=>by have:=cS_le x; have:=zalp l; simp only[cSs,nSs]; omega
end
theorem cT_le:∀ l:List TThread,cT l≤nT l
 |[]=>by simp[cT]
 |x::l=>by have:=zalp x.body; have:=cT_le l; simp only[cT,nT]; omega
theorem lenP : ∀ (l : List TThread), (l.flatMap fun t => evSs t.body 1).length = cT l
 |[]=>rfl
 |t::l=>by simp only[List.flatMap_cons,List.length_append,lenSs,lenP l,cT]
theorem zald:∀ (l:List Ev) (s:Int),0≤s→s+l.length≤1000000000000000000 →
  l.foldlM (atEv (fun (x:TStmt) (d:Int) (s:Int)=>qaU x d s) (fun (x:TExpr) (d:Int) (s:Int)=>qaV x d s)) s=some (s+l.length)
 |[],s,_,_=>by simp
 |e::l,s,h0,h=>by
  simp only[List.length_cons] at h;have e1:atEv (fun (x:TStmt) (d:Int) (s:Int)=>qaU x d s) (fun (x:TExpr) (d:Int) (s:Int)=>qaV x d s) s e=some (s+1):=by
   cases e with
   |s x d=>show qaU x d s=_; rw[qaU,zaaa]; unfold qaU_f; rw[i64_in (s+1) (by omega)]
   |e x d=>show qaV x d s=_; rw[qaV,zaaa]; unfold qaV_f; rw[i64_in (s+1) (by omega)]
  rw[List.foldlM_cons,e1];show List.foldlM _ (s+1) l=_;rw[zald l (s+1) (by omega) (by omega),List.length_cons];congr 1;omega
theorem zar4 (p:TProg) (h:nT p.threads≤10000000000000000):qaT p=some (cT p.threads:Int):=by
 rw[qaT,zaaa];unfold qaT_f;have hc:=cT_le p.threads;have hl:=lenP p.threads;rw[zajg,wP_2 p 0 h,zald _ 0 (by omega) (by unfold evP; rw[hl]; omega),Option.bind_some];unfold evP;rw[hl];simp
def evD:Ev→Int
 |.s _ d=>d
 |.e _ d=>d
def maxEv (l:List Ev) (s:Int):Int:=l.foldl (fun s e=>max s (evD e)) s
theorem zaqi (a b:Int):(if a>b then a else b)=max b a:=by
 rw[Int.max_def];split<;>split<;>omega
theorem zaml : ∀ (l : List Ev) (s : Int), l.foldlM (atEv (fun (x : TStmt) (d : Int) (s : Int) => qaX x d s) (fun (x : TExpr) (d : Int) (s : Int) => qaY x d s)) s = some (maxEv l s)
 |[],s=>rfl
 |e::l,s=>by
  have e1:atEv (fun (x:TStmt) (d:Int) (s:Int)=>qaX x d s) (fun (x:TExpr) (d:Int) (s:Int)=>qaY x d s) s e=some (max s (evD e)):=by
   cases e with
   |s x d=>show qaX x d s=_; rw[qaX,zaaa]; unfold qaX_f; rw[zaqi]; rfl
   |e x d=>show qaY x d s=_; rw[qaY,zaaa]; unfold qaY_f; rw[zaqi]; rfl
  rw[List.foldlM_cons,e1];exact zaml l _
theorem zatg (p:TProg) (h:nT p.threads≤10000000000000000):qaW p=some (maxEv (evP p) 0):=by
 rw[qaW,zaaa];unfold qaW_f;rw[zajg,wP_1 p 0 h,zaml];rfl
end Lift.A3
namespace Lift.A4
open Go Go.RowKit Lift Go.IntWalk Lift.Fn Lift.A1P Lift.A3
set_option linter.unusedVariables false
set_option linter.unusedSimpArgs false
def fin (p:TProg):TProg×Fault:=
 if maxEv (evP p) 0>16 then (⟨[],[],[]⟩,⟨41,0,[]⟩) else if (cT p.threads:Int)>500 then (⟨[],[],[]⟩,⟨42,0,[]⟩) else (p,⟨0,0,[]⟩)
theorem zakq {t:List UInt8} {l:List Token} {p:TProg} {z:List Token} (h:qag t=some (l,⟨0,0,[]⟩)) (hp:qax l=some (okP p z)) (hn:nT p.threads≤10000000000000000) :
  qao t=some (fin p):=by
 rw[qao,zaaa];unfold qao_f;rw[h,Option.bind_some];dsimp only;rw[hp,Option.bind_some];dsimp only[okP];rw[zajg,zatg p hn,zar4 p hn];unfold fin;simp only[bne_self_eq_false,cond_false,Option.bind_some];by_cases h1:maxEv (evP p) 0>16
 ·rw[if_pos h1,decide_eq_true h1]; rfl
 ·rw[if_neg h1,decide_eq_false h1,cond_false];by_cases h2:(cT p.threads:Int)>500
  ·rw[if_pos h2,decide_eq_true h2]; rfl
  ·rw[if_neg h2,decide_eq_false h2]; rfl
theorem zait {t:List UInt8} {l:List Token} {a:Int} (h:qag t=some (l,⟨0,0,[]⟩)) (hp:qax l=some (.inr ⟨a⟩)) :
  qao t=some (⟨[],[],[]⟩,⟨40,a,[]⟩):=by
 rw[qao,zaaa];unfold qao_f;rw[h,Option.bind_some];dsimp only;rw[hp,Option.bind_some];rfl
theorem zatn (l:List Token) (a:Int):Ends (l++[⟨5,[],0,a⟩]):=⟨l,_,rfl,rfl⟩
def look (A:Int):List Token→Int→Bool⊕Int
 |[],at_=>.inr at_
 |t::r,at_=>
  if t.at_=A∧t.kind≠5 then look A r (t.at_+t.text.length)
  else if t.at_=A∧t.kind=5∧at_<0 then .inl true
  else look A r at_
theorem look_cons (A:Int) (t:Token) (r:List Token) (at_:Int):look A (t::r) at_ =
  if t.at_=A∧t.kind≠5 then look A r (t.at_+t.text.length)
  else if t.at_=A∧t.kind=5∧at_<0 then .inl true
  else look A r at_:=rfl
theorem look_none (A:Int):∀ (L:List Token) (r:List Token) (at_:Int),(∀ x∈L,x.at_≠A)→look A (L++r) at_=look A r at_
 |[],r,at_,_=>rfl
 |x::L,r,at_,h=>by
  have hx:=h x (by simp);have g1:¬ (x.at_=A∧x.kind≠5):=fun hh=>hx hh.1
  have g2:¬ (x.at_=A∧x.kind=5∧at_<0):=fun hh=>hx hh.1
  rw[List.cons_append,look_cons,if_neg g1,if_neg g2];exact look_none A L r at_ fun y hy=>h y (by simp[hy])
end Lift.A4
namespace Lift.A4
open Go Go.RowKit Lift Go.IntWalk Lift.Fn Lift.A1P Lift.A3
set_option linter.unusedVariables false
set_option linter.unusedSimpArgs false
theorem zarz (u v:List Int):(encs (u++v)).take (encs u).length=encs u:=by rw[zaag,List.take_left]
theorem zatk {a b:List Int} (h:(a++b).all Sp.isRune=true):a.all Sp.isRune=true:=by
 rw[List.all_append,Bool.and_eq_true] at h;exact h.1
theorem zar5 {text:List UInt8} {rs:List Int} {l:List Token} (ht:text=encs rs) (ha:rs.all Sp.isRune=true) (hT:T (p0 rs) (skip false rs)=.inr l)
  {u:List Token} {t:Token} {v:List Token} (hl:l=u++t::v) :
  0≤t.at_+t.text.length∧t.at_+t.text.length≤text.length ∧
  ∀ more:List UInt8,(∃ f,qag (text.take (t.at_+t.text.length).toNat++[32]++more)=some ([],f)∧f.code≠0) ∨
   (∃ m a,qag (text.take (t.at_+t.text.length).toNat++[32]++more)=some (u++t::(m++[⟨5,[],0,a⟩]),⟨0,0,[]⟩)):=by
 obtain ⟨a,b,hab,hane,hat,hs⟩:=T_cut _ _ _ _ (Nat.le_refl _) (zaf7 ha) hT u t v hl;obtain ⟨sep,hsep⟩:=zaa8 rs false;have hrs:rs=(sep++a)++b:=by rw[List.append_assoc,← hab]; exact hsep
 have hp:p0 rs=((encs sep).length:Int):=by
  have h1:=congrArg (fun l=>((encs l).length:Int)) hsep;rw[zabd] at h1;unfold p0;omega
 have hat2:t.at_+t.text.length=((encs (sep++a)).length:Int):=by rw[hat,hp,zabd]
 have hle:((encs (sep++a)).length:Int)+(encs b).length=text.length:=by rw[ht,← zabd,← hrs]
 have htake:text.take (t.at_+t.text.length).toNat=encs (sep++a):=by
  rw[hat2,Int.toNat_natCast,ht];conv=>lhs; rw[hrs]
  exact zarz _ _
 refine ⟨by omega,by omega,fun more=>?_⟩;rw[htake];rcases zam2 (encs (sep++a)++[32]++more) with ⟨f,h1,h2,_⟩|⟨rs',l',h1,h2,h3,h4,h5⟩
 ·exact .inl ⟨f,h1,h2⟩
 ·have hsa:(sep++a).all Sp.isRune=true:=zatk (by rw[← hrs]; exact ha);have hu:(sep++a++[32]).all Sp.isRune=true:=by
   rw[List.all_append,hsa];rfl
  obtain ⟨s,hs'⟩:=zaqm (sep++a++[32]) rs' more hu h2 (by
   rw[← h1,zaag (sep++a) [32]];have:encs [32]=[32]:=by decide +kernel
   rw[this])
  have hss:s.all Sp.isRune=true:=zacc (ds:=sep++a++[32]) (by rw[← hs']; exact h2);have hrs':rs'=sep++(a++32::s):=by rw[hs']; simp
  obtain ⟨y,z,hyz⟩:∃ y z,a=y::z:=by
   cases a with
   |nil=>exact absurd rfl hane
   |cons c x=>exact ⟨c,x,rfl⟩
  have hskip:skip false rs'=a++32::s:=by
   have h6:skip false (sep++(a++b))=a++b:=by rw[← hab,← hsep]
   rw[hrs',hyz];rw[hyz] at h6;exact zafe sep false y _ _ h6
  have hp':p0 rs'=p0 rs:=by
   rw[hp];unfold p0;rw[hskip,hrs',zabd];omega
  rw[hskip,hp',hs s hss] at h4;cases hm:T (p0 rs+(encs a).length+1+(encs s).length-(encs (skip false s)).length) (skip false s) with
  |inl e=>rw[hm] at h4; cases h4
  |inr m=>
   rw[hm] at h4;simp only[Sum.inr.injEq] at h4;refine .inr ⟨m,((encs (sep++a)++[32]++more).length:Int),?_⟩;rw[h5,← h4,List.append_assoc,List.cons_append]
end Lift.A4
namespace Lift.A4
open Go Go.RowKit Lift Go.IntWalk Lift.Fn Lift.A1P Lift.A3
set_option linter.unusedVariables false
set_option linter.unusedSimpArgs false
def tx1:List UInt8:=[99,101,108,108,32,120,32,61,32,45,51,59,32,116,104,114,101,97,100,32,116,32,123,32,114,32,60,45,32,97,100,100,32,120,32,45,49,32,42,32,50,59,32,125]
def rx1:List Int:=[99,101,108,108,32,120,32,61,32,45,51,59,32,116,104,114,101,97,100,32,116,32,123,32,114,32,60,45,32,97,100,100,32,120,32,45,49,32,42,32,50,59,32,125]
def tk1:List Token:=[⟨4,[99,101,108,108],0,0⟩,⟨1,[120],0,5⟩,⟨3,[61],0,7⟩,⟨3,[45],0,9⟩,⟨2,[51],3,10⟩,⟨3,[59],0,11⟩,⟨4,[116,104,114,101,97,100],0,13⟩,⟨1,[116],0,20⟩,⟨3,[123],0,22⟩,⟨1,[114],0,24⟩,⟨3,[60,45],0,26⟩,⟨4,[97,100,100],0,29⟩,⟨1,[120],0,33⟩,⟨3,[45],0,35⟩,⟨2,[49],1,36⟩,⟨3,[42],0,38⟩,⟨2,[50],2,40⟩,⟨3,[59],0,41⟩,⟨3,[125],0,43⟩,⟨5,[],0,44⟩]
def tx2:List UInt8:=[116,104,114,101,97,100,32,116,32,123,32,97,115,115,101,114,116,32,97,32,60,32,98,32,60,32,99,59,32,125]
def rx2:List Int:=[116,104,114,101,97,100,32,116,32,123,32,97,115,115,101,114,116,32,97,32,60,32,98,32,60,32,99,59,32,125]
def tk2:List Token:=[⟨4,[116,104,114,101,97,100],0,0⟩,⟨1,[116],0,7⟩,⟨3,[123],0,9⟩,⟨4,[97,115,115,101,114,116],0,11⟩,⟨1,[97],0,18⟩,⟨3,[60],0,20⟩,⟨1,[98],0,22⟩,⟨3,[60],0,24⟩,⟨1,[99],0,26⟩,⟨3,[59],0,27⟩,⟨3,[125],0,29⟩,⟨5,[],0,30⟩]
theorem lex1:qag tx1=some (tk1,⟨0,0,[]⟩):=by
 have h:=zai9 rx1 (by decide +kernel) (by decide +kernel);have e:encs rx1=tx1:=by decide +kernel
 rw[e] at h;rw[h];decide +kernel
theorem lex2:qag tx2=some (tk2,⟨0,0,[]⟩):=by
 have h:=zai9 rx2 (by decide +kernel) (by decide +kernel);have e:encs rx2=tx2:=by decide +kernel
 rw[e] at h;rw[h];decide +kernel
end Lift.A4
namespace Lift.A4
open Go Go.RowKit Lift Go.IntWalk Lift.Fn Lift.A1P Lift.A3
set_option linter.unusedVariables false
set_option linter.unusedSimpArgs false
def lv:List (List ((List UInt8)×Int)):=[[([124,124],17)],[([38,38],16)],[([61,61],10),([33,61],11),([60],12),([60,61],13),([62],14),([62,61],15)],[([43],5),([45],6)],[([42],7),([47],8),([37],9)]]
theorem zap5:qap=some lv:=by
 rw[qap,zaaa];rfl
theorem ex1 (r:List Token) (E:Int→List Token→Option RE) (f:Nat) (x:List UInt8) (n a:Int):qaC_i E (f+1) (⟨2,x,n,a⟩::r)=some (.inl (1,n,[],r,[])):=by
 show qaC_f (qaC_i E f) E (⟨2,x,n,a⟩::r)=_;unfold qaC_f;have h:∀ s,hit s ⟨2,x,n,a⟩=false:=fun s=>rfl
 simp only[took1,h,cond_false,Option.bind_some,next1,take1];rfl
theorem ex2 (r:List Token) (E:Int→List Token→Option RE) (f:Nat) (x:List UInt8) (n a:Int):qaC_i E (f+1) (⟨1,x,n,a⟩::r)=some (.inl (2,0,x,r,[])):=by
 show qaC_f (qaC_i E f) E (⟨1,x,n,a⟩::r)=_;unfold qaC_f;have h:∀ s,hit s ⟨1,x,n,a⟩=false:=fun s=>rfl
 simp only[took1,h,cond_false,Option.bind_some,next1,name1];rfl
theorem ex3 (r:List Token) (E:Int→List Token→Option RE) (f:Nat) (m a:Int) (k n:Int) (x:List UInt8) (z:List Token) (l:List TExpr) (h:qaC_i E f r=some (.inl (k,n,x,z,l))):qaC_i E (f+1) (⟨3,[45],m,a⟩::r)=some (.inl (3,0,[],z,[TExpr.mk k n x l])):=by
 show qaC_f (qaC_i E f) E (⟨3,[45],m,a⟩::r)=_;unfold qaC_f;have h1:hit [45] ⟨3,[45],m,a⟩=true:=rfl;simp only[took1,h1,cond_true,Option.bind_some,h]
theorem ex4 (n:Nat) (ts:List Token):qar_i (n+1) 5 ts=qaC_i (qar_i n) fuel ts:=by
 show qar_f (qar_i n) 5 ts=_;unfold qar_f;rw[zap5,Option.bind_some];have e:((5:Int)==(↑(List.length lv):Int))=true:=rfl;rw[e,cond_true,qaC,zaaa];cases qaC_i (qar_i n) fuel ts with
 |none=>rfl
 |some y=>cases y<;>rfl
theorem ex5 (n:Nat) (lvl:Int) (ts:List Token) (h0:0≤lvl) (h5:lvl<5) (e:TExpr) (z:List Token) (h:qar_i n (lvl+1) ts=some (okE e z))
  (e2:TExpr) (z2:List Token) (h2:qar_i5 (qar_i n) fuel lvl z 0 0 [] e.kind e.num e.name lv e.args=some (ok5 e2 z2)) :
  qar_i (n+1) lvl ts=some (okE e2 z2):=by
 show qar_f (qar_i n) lvl ts=_;unfold qar_f;rw[zap5,Option.bind_some];have e1:(lvl==(↑(List.length lv):Int))=false:=by
  have:(↑(List.length lv):Int)=5:=rfl;rw[this,beq_eq_false_iff_ne];omega
 rw[e1,cond_false,i64_in (lvl+1) (by omega),h,Option.bind_some];dsimp only[okE];rw[qar_l5,zaaa,h2];rfl
theorem ex6 (E : Int → List Token → Option RE) (f : Nat) (lvl : Int) (t : Token) (r : List Token) (e : TExpr) (h0 : 0 ≤ lvl) (h5 : lvl < 5) (h : (lv.getD lvl.toNat []).find? (fun y => y.1 == t.text) = none) :
  qar_i5 E (f+1) lvl (t::r) 0 0 [] e.kind e.num e.name lv e.args=some (ok5 e (t::r)):=by
 show qar_t5 E (qar_i5 E f) lvl (t::r) 0 0 [] e.kind e.num e.name lv e.args=_;unfold qar_t5;rw[next1,Option.bind_some];dsimp only;cases t.kind==3 with
 |false=>rfl
 |true=>
  have hl:(↑(List.length lv):Int)=5:=rfl;have e1:(decide ((0:Int)≤lvl)&&decide (lvl<(↑(List.length lv):Int)))=true:=by rw[hl]; simp only[Bool.and_eq_true,decide_eq_true_eq]; exact ⟨h0,h5⟩
  have hlt:lvl.toNat<lv.length:=by show lvl.toNat<5; omega
  rw[cond_true,e1,cond_true,List.getElem?_eq_getElem hlt,Option.bind_some,next1,Option.bind_some];rw[List.getD_eq_getElem?_getD,List.getElem?_eq_getElem hlt,Option.getD_some] at h;have e2:mapAt lv[lvl.toNat] t.text=none:=by unfold mapAt; rw[h]; rfl
  dsimp only;rw[e2];rfl
theorem ex7 (E : Int → List Token → Option RE) (f : Nat) (lvl : Int) (t : Token) (r : List Token) (e : TExpr) (h0 : 0 ≤ lvl) (h5 : lvl < 5) (hk : t.kind = 3) (key : List UInt8) (op : Int) (h : (lv.getD lvl.toNat []).find? (fun y => y.1 == t.text) = some (key, op))
  (x:TExpr) (z:List Token) (hE:E (lvl+1) r=some (okE x z)) :
  qar_i5 E (f+1) lvl (t::r) 0 0 [] e.kind e.num e.name lv e.args=bif lvl==2 then some (ok5 ⟨op,0,[],[e,x]⟩ z) else qar_i5 E f lvl z 0 0 [] op 0 [] lv [e,x]:=by
 show qar_t5 E (qar_i5 E f) lvl (t::r) 0 0 [] e.kind e.num e.name lv e.args=_;unfold qar_t5;rw[next1,Option.bind_some];dsimp only;have hl:(↑(List.length lv):Int)=5:=rfl;have e0:(t.kind==3)=true:=by simp[hk]
 have e1:(decide ((0:Int)≤lvl)&&decide (lvl<(↑(List.length lv):Int)))=true:=by rw[hl]; simp only[Bool.and_eq_true,decide_eq_true_eq]; exact ⟨h0,h5⟩
 have hlt:lvl.toNat<lv.length:=by show lvl.toNat<5; omega
 rw[e0,cond_true,e1,cond_true,List.getElem?_eq_getElem hlt,Option.bind_some,next1,Option.bind_some];rw[List.getD_eq_getElem?_getD,List.getElem?_eq_getElem hlt,Option.getD_some] at h;have e2:mapAt lv[lvl.toNat] t.text=some op:=by unfold mapAt; rw[h]; rfl
 dsimp only;rw[e2];simp only[Option.isSome_some,Bool.not_true,cond_false];rw[take1,Option.bind_some];dsimp only;rw[i64_in (lvl+1) (by omega),hE,Option.bind_some];dsimp only[okE];rw[zaa0,zaa0];rfl
end Lift.A4
namespace Lift.A4
open Go Go.RowKit Lift Go.IntWalk Lift.Fn Lift.A1P Lift.A3
set_option linter.unusedVariables false
set_option linter.unusedSimpArgs false
theorem ex8 (n:Nat) (lvl:Int) (ts:List Token) (h0:0≤lvl) (h5:lvl<5) (e:TExpr) (t:Token) (r:List Token) (h:qar_i n (lvl+1) ts=some (okE e (t::r)))
  (hf:(lv.getD lvl.toNat []).find? (fun y=>y.1==t.text)=none):qar_i (n+1) lvl ts=some (okE e (t::r)):=by
 refine ex5 n lvl ts h0 h5 e (t::r) h e (t::r) ?_;rw[show fuel=1180591620717411303423+1 from rfl];exact ex6 _ _ lvl t r e h0 h5 hf
theorem ex9 (r:List Token) (m:Nat):qar_i (m+6) 0 (⟨3,[45],0,35⟩::⟨2,[49],1,36⟩::⟨3,[42],0,38⟩::⟨2,[50],2,40⟩::⟨3,[59],0,41⟩::r) =
  some (okE ⟨7,0,[],[⟨3,0,[],[⟨1,1,[],[]⟩]⟩,⟨1,2,[],[]⟩]⟩ (⟨3,[59],0,41⟩::r)):=by
 have a4:qar_i (m+2) 4 (⟨3,[45],0,35⟩::⟨2,[49],1,36⟩::⟨3,[42],0,38⟩::⟨2,[50],2,40⟩::⟨3,[59],0,41⟩::r) =
   some (okE ⟨7,0,[],[⟨3,0,[],[⟨1,1,[],[]⟩]⟩,⟨1,2,[],[]⟩]⟩ (⟨3,[59],0,41⟩::r)):=by
  refine ex5 (m+1) 4 _ (by decide) (by decide) ⟨3,0,[],[⟨1,1,[],[]⟩]⟩ (⟨3,[42],0,38⟩::⟨2,[50],2,40⟩::⟨3,[59],0,41⟩::r) ?_ _ _ ?_
  ·show qar_i (m+1) 5 _=_;rw[ex4,show fuel=1180591620717411303422+1+1 from rfl];exact ex3 _ _ _ _ _ _ _ _ _ _ (ex1 _ _ _ _ _ _)
  ·rw[show fuel=1180591620717411303422+1+1 from rfl];rw[ex7 (qar_i (m+1)) _ 4 ⟨3,[42],0,38⟩ _ ⟨3,0,[],[⟨1,1,[],[]⟩]⟩ (by decide) (by decide) rfl [42] 7 (by decide) ⟨1,2,[],[]⟩ (⟨3,[59],0,41⟩::r) ?_]
   ·rw[show ((4:Int)==2)=false from rfl,cond_false];exact ex6 _ _ 4 ⟨3,[59],0,41⟩ r ⟨7,0,[],[⟨3,0,[],[⟨1,1,[],[]⟩]⟩,⟨1,2,[],[]⟩]⟩ (by decide) (by decide) (by decide)
   ·show qar_i (m+1) 5 _=_;rw[ex4,show fuel=1180591620717411303423+1 from rfl];exact ex1 _ _ _ _ _ _
 have a3:=ex8 (m+2) 3 _ (by decide) (by decide) _ _ _ a4 (by decide);have a2:=ex8 (m+3) 2 _ (by decide) (by decide) _ _ _ a3 (by decide);have a1:=ex8 (m+4) 1 _ (by decide) (by decide) _ _ _ a2 (by decide);exact ex8 (m+5) 0 _ (by decide) (by decide) _ _ _ a1 (by decide)
theorem ex10 (r:List Token) (m:Nat):qar_i (m+6) 0 (⟨1,[97],0,18⟩::⟨3,[60],0,20⟩::⟨1,[98],0,22⟩::⟨3,[60],0,24⟩::r) =
  some (okE ⟨12,0,[],[⟨2,0,[97],[]⟩,⟨2,0,[98],[]⟩]⟩ (⟨3,[60],0,24⟩::r)):=by
 have up : ∀ (x : List UInt8) (a : Int) (t : Token) (q : List Token), (lv.getD 4 []).find? (fun y => y.1 == t.text) = none → (lv.getD 3 []).find? (fun y => y.1 == t.text) = none →
   qar_i (m+3) 3 (⟨1,x,0,a⟩::t::q)=some (okE ⟨2,0,x,[]⟩ (t::q)):=by
  intro x a t q h4 h3;have a5:qar_i (m+1) (4+1) (⟨1,x,0,a⟩::t::q)=some (okE ⟨2,0,x,[]⟩ (t::q)):=by
   show qar_i (m+1) 5 _=_;rw[ex4,show fuel=1180591620717411303423+1 from rfl];exact ex2 _ _ _ _ _ _
  have a4:=ex8 (m+1) 4 _ (by decide) (by decide) _ _ _ a5 h4;exact ex8 (m+2) 3 _ (by decide) (by decide) _ _ _ a4 h3
 have a2:qar_i (m+4) 2 (⟨1,[97],0,18⟩::⟨3,[60],0,20⟩::⟨1,[98],0,22⟩::⟨3,[60],0,24⟩::r) =
   some (okE ⟨12,0,[],[⟨2,0,[97],[]⟩,⟨2,0,[98],[]⟩]⟩ (⟨3,[60],0,24⟩::r)):=by
  refine ex5 (m+3) 2 _ (by decide) (by decide) ⟨2,0,[97],[]⟩ (⟨3,[60],0,20⟩::⟨1,[98],0,22⟩::⟨3,[60],0,24⟩::r) (up _ _ _ _ (by decide) (by decide)) _ _ ?_;rw[show fuel=1180591620717411303422+1+1 from rfl];rw[ex7 (qar_i (m+3)) _ 2 ⟨3,[60],0,20⟩ _ ⟨2,0,[97],[]⟩ (by decide) (by decide) rfl [60] 12 (by decide) ⟨2,0,[98],[]⟩ (⟨3,[60],0,24⟩::r) (up _ _ _ _ (by decide) (by decide))];rfl
 have a1:=ex8 (m+4) 1 _ (by decide) (by decide) _ _ _ a2 (by decide);exact ex8 (m+5) 0 _ (by decide) (by decide) _ _ _ a1 (by decide)
end Lift.A4
namespace Lift.A4
open Go Go.RowKit Lift Go.IntWalk Lift.Fn Lift.A1P Lift.A3
set_option linter.unusedVariables false
set_option linter.unusedSimpArgs false
theorem name2 (x:List UInt8) (n a:Int) (r:List Token):qat (⟨1,x,n,a⟩::r)=some (.inl (x,r)):=by rw[name1]; rfl
theorem of2 (x:List UInt8) (n a:Int) (r:List Token):qav 2 (⟨2,x,n,a⟩::r)=some (.inl (⟨2,x,n,a⟩,r)):=by rw[of1]; rfl
theorem zapz (ts:List Token) (e:TExpr) (z:List Token) (h:qar_i (1180591620717411303418+6) 0 ts=some (okE e z)):qar 0 ts=some (okE e z):=by
 rw[qar,zaaa];exact h
def e1:TExpr:=⟨7,0,[],[⟨3,0,[],[⟨1,1,[],[]⟩]⟩,⟨1,2,[],[]⟩]⟩
def s1:TStmt:=⟨4,[114],[120],e1,0,[],[]⟩
theorem st1 (r:List Token):qaw (⟨1,[114],0,24⟩::⟨3,[60,45],0,26⟩::⟨4,[97,100,100],0,29⟩::⟨1,[120],0,33⟩::⟨3,[45],0,35⟩::⟨2,[49],1,36⟩::⟨3,[42],0,38⟩::⟨2,[50],2,40⟩::⟨3,[59],0,41⟩::r) =
  some (okS s1 r):=by
 rw[qaw,zaaa];unfold qaw_f;have h1:hit [58,61] ⟨3,[60,45],0,26⟩=false:=by decide
 have h2:hit [61] ⟨3,[60,45],0,26⟩=false:=by decide
 have h3:hit [60,45] ⟨3,[60,45],0,26⟩=true:=by decide
 have h4:hit [97,100,100] ⟨4,[97,100,100],0,29⟩=true:=by decide
 have h5:hit [59] ⟨3,[59],0,41⟩=true:=by decide
 simp only[name2,took1,want1,h1,h2,h3,h4,cond_true,cond_false,Option.bind_some];rw[zapz _ _ _ (ex9 r _),Option.bind_some];dsimp only[okE];rw[want1,h5,cond_true,Option.bind_some];rfl
theorem stmt1 (B:List Token→Option RB) (r:List Token):qaz B (⟨1,[114],0,24⟩::⟨3,[60,45],0,26⟩::⟨4,[97,100,100],0,29⟩::⟨1,[120],0,33⟩::⟨3,[45],0,35⟩::⟨2,[49],1,36⟩::⟨3,[42],0,38⟩::⟨2,[50],2,40⟩::⟨3,[59],0,41⟩::r) =
  some (okS s1 r):=by
 rw[qaz,zaaa];unfold qaz_f;have h6:((1:Int)==1)=true:=rfl;rw[next1,Option.bind_some];dsimp only;rw[h6,cond_true,st1,Option.bind_some];rfl
theorem zau4 (r:List Token):qaq (⟨3,[123],0,22⟩::⟨1,[114],0,24⟩::⟨3,[60,45],0,26⟩::⟨4,[97,100,100],0,29⟩::⟨1,[120],0,33⟩::⟨3,[45],0,35⟩::⟨2,[49],1,36⟩::⟨3,[42],0,38⟩::⟨2,[50],2,40⟩::⟨3,[59],0,41⟩::⟨3,[125],0,43⟩::r) =
  some (okB [s1] r):=by
 rw[qaq,zaaa,show fuel=1180591620717411303423+1 from rfl];show qaq_f _ _=_;unfold qaq_f;have h1:hit [123] ⟨3,[123],0,22⟩=true:=by decide
 have h2:hit [125] ⟨1,[114],0,24⟩=false:=by decide
 have h3:hit [125] ⟨3,[125],0,43⟩=true:=by decide
 rw[want1,h1,cond_true,Option.bind_some];dsimp only;rw[qaq_l3,zaaa,show fuel=1180591620717411303422+1+1 from rfl];have e2:∀ B f,qaq_i3 B (f+1) (⟨3,[125],0,43⟩::r) [s1]=some (.inr (r,[s1])):=by
  intro B f;show qaq_t3 B _ _ _=_;unfold qaq_t3;rw[took1,h3,Option.bind_some];rfl
 have e1:∀ B f,qaq_i3 B (f+1+1) (⟨1,[114],0,24⟩::⟨3,[60,45],0,26⟩::⟨4,[97,100,100],0,29⟩::⟨1,[120],0,33⟩::⟨3,[45],0,35⟩::⟨2,[49],1,36⟩::⟨3,[42],0,38⟩::⟨2,[50],2,40⟩::⟨3,[59],0,41⟩::⟨3,[125],0,43⟩::r) []=some (.inr (r,[s1])):=by
  intro B f;show qaq_t3 B (qaq_i3 B (f+1)) _ _=_;unfold qaq_t3;rw[took1,h2,Option.bind_some];simp only[Bool.not_false,cond_true,cond_false];rw[stmt1,Option.bind_some];dsimp only[okS];rw[List.nil_append,e2];rfl
 rw[e1];rfl
def g1:TProg:=⟨[⟨[120],-3⟩],[],[⟨[116],[s1]⟩]⟩
theorem prog1:qax tk1=some (okP g1 [⟨5,[],0,44⟩]):=by
 rw[qax,zaaa];unfold qax_f;rw[qax_l2,zaaa,show fuel=1180591620717411303421+1+1+1 from rfl];have a3:∀ f,qax_i2 (f+1) [⟨5,[],0,44⟩] [⟨[120],-3⟩] [] [⟨[116],[s1]⟩]=some (ok2 g1 [⟨5,[],0,44⟩]):=by
  intro f;show qax_t2 _ _ _ _ _=_;unfold qax_t2;rw[next1,Option.bind_some];rfl
 have a2:∀ f,qax_i2 (f+1+1) (⟨4,[116,104,114,101,97,100],0,13⟩::⟨1,[116],0,20⟩::⟨3,[123],0,22⟩::⟨1,[114],0,24⟩::⟨3,[60,45],0,26⟩::⟨4,[97,100,100],0,29⟩::⟨1,[120],0,33⟩::⟨3,[45],0,35⟩::⟨2,[49],1,36⟩::⟨3,[42],0,38⟩::⟨2,[50],2,40⟩::⟨3,[59],0,41⟩::⟨3,[125],0,43⟩::[⟨5,[],0,44⟩]) [⟨[120],-3⟩] [] []=some (ok2 g1 [⟨5,[],0,44⟩]):=by
  intro f;show qax_t2 (qax_i2 (f+1)) _ _ _ _=_;unfold qax_t2;have h0:((4:Int) != 5)=true:=rfl;have h1:hit [99,101,108,108] ⟨4,[116,104,114,101,97,100],0,13⟩=false:=by decide
  have h2:hit [109,117,116,101,120] ⟨4,[116,104,114,101,97,100],0,13⟩=false:=by decide
  have h3:hit [116,104,114,101,97,100] ⟨4,[116,104,114,101,97,100],0,13⟩=true:=by decide
  rw[next1,Option.bind_some];dsimp only;simp only[h0,took1,h1,h2,want1,h3,name2,cond_true,cond_false,Option.bind_some];rw[zau4,Option.bind_some];dsimp only[okB];rw[List.nil_append,a3];rfl
 have a1:∀ f,qax_i2 (f+1+1+1) tk1 [] [] []=some (ok2 g1 [⟨5,[],0,44⟩]):=by
  intro f;show qax_t2 (qax_i2 (f+1+1)) _ _ _ _=_;unfold qax_t2 tk1;have h0:((4:Int) != 5)=true:=rfl;have h1:hit [99,101,108,108] ⟨4,[99,101,108,108],0,0⟩=true:=by decide
  have h2:hit [61] ⟨3,[61],0,7⟩=true:=by decide
  have h3:hit [45] ⟨3,[45],0,9⟩=true:=by decide
  have h5:hit [59] ⟨3,[59],0,11⟩=true:=by decide
  rw[next1,Option.bind_some];dsimp only;simp only[h0,took1,h1,h2,h3,of2,want1,h5,name2,cond_true,cond_false,Option.bind_some];rw[List.nil_append,show (IntKind.i64.wrap ((0:Int)-3))=-3 by decide,a2];rfl
 rw[a1];rfl
def e2:TExpr:=⟨12,0,[],[⟨2,0,[97],[]⟩,⟨2,0,[98],[]⟩]⟩
theorem zauk (B:List Token→Option RB) (t:Token) (r:List Token) (h:∀ w∈four,hit w t=false):∀ (k f i:Nat),i+k=4→k<f →
  qaz_i4 B f 4 i (t::r) 0 [] [] 0 0 [] 0 four=some (okO none (t::r)):=by
 intro k;induction k with
 |zero=>
  intro f i hi hf;obtain ⟨f,rfl⟩:∃ q,f=q+1:=⟨f-1,by omega⟩;show qaz_t4 B (qaz_i4 B f) 4 i (t::r) 0 [] [] 0 0 [] 0 four=_;unfold qaz_t4;have e1:decide ((i:Int)<4)=false:=by simp only[decide_eq_false_iff_not]; omega
  rw[e1];rfl
 |succ k ih=>
  intro f i hi hf;obtain ⟨f,rfl⟩:∃ q,f=q+1:=⟨f-1,by omega⟩;show qaz_t4 B (qaz_i4 B f) 4 i (t::r) 0 [] [] 0 0 [] 0 four=_;unfold qaz_t4;have e1:decide ((i:Int)<4)=true:=by simp only[decide_eq_true_eq]; omega
  have e2:(decide ((0:Int)≤(i:Int))&&decide ((i:Int)<(↑(List.length four):Int)))=true:=by
   simp only[Bool.and_eq_true,decide_eq_true_eq];exact ⟨by omega,by show (i:Int)<4; omega⟩
  have hlt:(i:Int).toNat<four.length:=by show (i:Int).toNat<4; omega
  have hw:=h four[(i:Int).toNat] (List.getElem_mem hlt);rw[e1,e2,cond_true,cond_true,List.getElem?_eq_getElem hlt,Option.bind_some,took1,hw,Option.bind_some];dsimp only[cond_false];rw[i64_in ((i:Int)+1) (by omega)];exact ih f (i+1) (by omega) (by omega)
theorem stmt2 (B:List Token→Option RB) (r:List Token):qaz B (⟨4,[97,115,115,101,114,116],0,11⟩::⟨1,[97],0,18⟩::⟨3,[60],0,20⟩::⟨1,[98],0,22⟩::⟨3,[60],0,24⟩::r)=some (.inr ⟨24⟩):=by
 rw[qaz,zaaa];unfold qaz_f;have h6:((4:Int)==1)=false:=rfl;have h1:hit [97,115,115,101,114,116] ⟨4,[97,115,115,101,114,116],0,11⟩=true:=by decide
 have h2:hit [59] ⟨3,[60],0,24⟩=false:=by decide
 rw[next1,Option.bind_some];dsimp only;rw[h6,cond_false,qaz_l4,zaaa];have hf:=zauk B ⟨4,[97,115,115,101,114,116],0,11⟩ (⟨1,[97],0,18⟩::⟨3,[60],0,20⟩::⟨1,[98],0,22⟩::⟨3,[60],0,24⟩::r) (by decide) 4 fuel 0 rfl (by unfold fuel; omega);rw[show ((0:Nat):Int)=0 from rfl] at hf;rw[show (↑(4:Nat):Int)=4 from rfl,hf,Option.bind_some];dsimp only[okO];rw[took1,h1,Option.bind_some];dsimp only[cond_true];rw[zapz _ _ _ (ex10 r _),Option.bind_some];dsimp only[okE];rw[want1,h2,cond_false,Option.bind_some]
theorem zavb (r:List Token):qaq (⟨3,[123],0,9⟩::⟨4,[97,115,115,101,114,116],0,11⟩::⟨1,[97],0,18⟩::⟨3,[60],0,20⟩::⟨1,[98],0,22⟩::⟨3,[60],0,24⟩::r)=some (.inr ⟨24⟩):=by
 rw[qaq,zaaa,show fuel=1180591620717411303423+1 from rfl];show qaq_f _ _=_;unfold qaq_f;have h1:hit [123] ⟨3,[123],0,9⟩=true:=by decide
 have h2:hit [125] ⟨4,[97,115,115,101,114,116],0,11⟩=false:=by decide
 rw[want1,h1,cond_true,Option.bind_some];dsimp only;rw[qaq_l3,zaaa,show fuel=1180591620717411303423+1 from rfl];have e1:∀ B f,qaq_i3 B (f+1) (⟨4,[97,115,115,101,114,116],0,11⟩::⟨1,[97],0,18⟩::⟨3,[60],0,20⟩::⟨1,[98],0,22⟩::⟨3,[60],0,24⟩::r) []=some (.inl ⟨24⟩):=by
  intro B f;show qaq_t3 B (qaq_i3 B f) _ _=_;unfold qaq_t3;rw[took1,h2,Option.bind_some];simp only[Bool.not_false,cond_true,cond_false];rw[stmt2,Option.bind_some]
 rw[e1];rfl
theorem prog2:qax tk2=some (.inr ⟨24⟩):=by
 rw[qax,zaaa];unfold qax_f;rw[qax_l2,zaaa,show fuel=1180591620717411303423+1 from rfl];have a1:∀ f,qax_i2 (f+1) tk2 [] [] []=some (.inl ⟨24⟩):=by
  intro f;show qax_t2 (qax_i2 f) _ _ _ _=_;unfold qax_t2 tk2;have h0:((4:Int) != 5)=true:=rfl;have h1:hit [99,101,108,108] ⟨4,[116,104,114,101,97,100],0,0⟩=false:=by decide
  have h2:hit [109,117,116,101,120] ⟨4,[116,104,114,101,97,100],0,0⟩=false:=by decide
  have h3:hit [116,104,114,101,97,100] ⟨4,[116,104,114,101,97,100],0,0⟩=true:=by decide
  rw[next1,Option.bind_some];dsimp only;simp only[h0,took1,h1,h2,want1,h3,name2,cond_true,cond_false,Option.bind_some];rw[zavb,Option.bind_some]
 rw[a1];rfl
theorem zavm:qao tx1=some (g1,⟨0,0,[]⟩):=by
 rw[zakq lex1 prog1 (by decide)];unfold fin;rw[if_neg (by decide +kernel),if_neg (by decide +kernel)]
theorem zavk:qao tx2=some (⟨[],[],[]⟩,⟨40,24,[]⟩):=zait lex2 prog2
theorem zau3:qaF=some true:=by
 rw[qaF,zaaa];unfold qaF_f;have h1:=zavm;have h2:=zavk;unfold tx1 at h1;unfold tx2 at h2;rw[h1,Option.bind_some,h2,Option.bind_some];rfl
end Lift.A4
namespace Lift.A4
open Go Go.RowKit Lift Go.IntWalk Lift.Fn Lift.A1P Lift.A3
set_option linter.unusedVariables false
set_option linter.unusedSimpArgs false
theorem zao5:goesR 9=false:=by decide +kernel
theorem zams {w r:List Int} (h:w.takeWhile goesR=w):(w++9::r).takeWhile goesR=w:=by
 have hall:∀ x∈w,goesR x=true:=fun x hx=>by
  rw[← h] at hx;exact List.all_eq_true.1 (List.all_takeWhile) x hx
 rw[List.takeWhile_append_of_pos hall,List.takeWhile_cons,zao5];simp
theorem zaso {w r:List Int} (h:w.takeWhile goesR=w):(w++9::r).dropWhile goesR=9::r:=by
 have h1:=zams (r:=r) h;have h2:=List.takeWhile_append_dropWhile (p:=goesR) (l:=w++9::r);rw[h1] at h2;exact List.append_cancel_left h2
theorem zaqq:∀ b∈ones,twos.contains [b,9]=false:=by decide
theorem zaqy:encB 9=[9]:=by decide +kernel
theorem zat0 {w:List Int} {r:List Int} (h0:encs w≠[]) (h:sgn (encs w)=encs w):sgn (encs (w++9::r))=encs w:=by
 rw[zaag,zaao,zaqy];unfold sgn at h;by_cases h1:1<(encs w).length∧twos.contains ((encs w).take 2)=true
 ·rw[if_pos h1] at h;have hl:(encs w).length=2:=by
   have:=congrArg List.length h;rw[List.length_take] at this;omega
  have ht:(encs w++([9]++encs r)).take 2=encs w:=by rw[← hl,List.take_left]
  unfold sgn;rw[if_pos ⟨by rw[List.length_append]; omega,by rw[ht]; rw[h] at h1; exact h1.2⟩,ht]
 ·rw[if_neg h1] at h;by_cases h2:ones.contains ((encs w).headD 0)=true
  ·rw[if_pos h2] at h;match hw:encs w,h0 with
   |b::t,_=>
    rw[hw] at h h2;have ht:t=[]:=by
     have:=congrArg List.length h;simp only[List.take_succ_cons,List.take_zero,List.length_cons,List.length_nil] at this;exact List.eq_nil_of_length_eq_zero (by omega)
    subst ht;have hb:b∈ones:=by simpa using h2
    have h3:=zaqq b hb;unfold sgn;refine (if_neg fun hh=>?_).trans ((if_pos ?_).trans rfl)
    ·have h9:twos.contains [b,9]=true:=hh.2;rw[h3] at h9;cases h9
    ·exact h2
  ·rw[if_neg h2] at h;exact absurd h.symm h0
theorem zaq0 {w:List Int} {t:Token} (h:whole w t) (r:List Int):tokR (w++9::r)=(t,0)∧restR (w++9::r)=9::r:=by
 obtain ⟨h1,h2,h3,h4⟩:=h;have hh:=zahr h1 (9::r);cases hg:goesR (w.headD 0) with
 |true=>
  have hw:=zalh ⟨h1,h2,h3,h4⟩ hg;have ht:=zams (r:=r) hw;constructor
  ·rw[← h3];unfold tokR;rw[hh,hg,ht,hw];rfl
  ·unfold restR;rw[hh,hg,cond_true,zaso hw]
 |false=>
  have h0:encs w≠[]:=by
   match w,h1 with
   |a::w,_=>obtain ⟨b,u,hb⟩:=zahm a w; rw[hb]; exact List.cons_ne_nil _ _
  have hs:sgn (encs w)=encs w:=by
   have h5:=h3;unfold tokR at h5;rw[hg,cond_false] at h5;cases hc:(sgn (encs w)==[]) with
   |true=>rw[hc] at h5; simp at h5
   |false=>
    rw[hc,cond_false] at h5;have:=congrArg (fun x=>x.1.text) h5;simp only at this;rw[this,h4]
  have ha:=zat0 (r:=r) h0 hs;constructor
  ·rw[← h3];unfold tokR;rw[hh,hg,ha,hs];rfl
  ·unfold restR;rw[hh,hg,cond_false,ha];have hlen:(encs w).length=w.length:=by
    match w,h1 with
    |a::w,_=>
     obtain ⟨q1,q2⟩:=zagj a w h2 (by rw[hs]; exact h0);rw[hs] at q1;have q3:encs ((a::w).take (encs (a::w)).length++(a::w).drop (encs (a::w)).length)=encs ((a::w).take (encs (a::w)).length):=by rw[List.take_append_drop,q1]
     have q5:=zabi (a::w)
     -- every byte of a sign is a rune
     have q6:(sgn (encs (a::w))).length≤2:=by
      unfold sgn;split
      ·rw[List.length_take]; omega
      ·split
       ·rw[List.length_take]; omega
       ·simp
     rw[hs] at q6;have q7:=zabi w;have q8:(encs (a::w)).length=(encB a).length+(encs w).length:=by rw[zaao,List.length_append]
     have q9:=zacm a;have q10:=zacx a;by_cases hz:w.length=0
     ·have hwn:w=[]:=List.eq_nil_of_length_eq_zero hz;subst hwn;obtain ⟨b,u,hb⟩:=zahm a [];simp only[List.all_cons,Bool.and_eq_true] at h2;have hbn:b.toNat<128:=by
       unfold sgn at hs;by_cases k1:1<(encs [a]).length∧twos.contains ((encs [a]).take 2)=true
       ·have hm:(encs [a]).take 2∈twos:=by simpa using k1.2
        have:=(zajh _ hm).2;rw[hb] at this;cases u with
        |nil=>simp only[List.take_succ_cons,List.take_nil,List.all_cons,List.all_nil,Bool.and_true,decide_eq_true_eq] at this; exact this
        |cons c u=>simp only[List.take_succ_cons,List.take_zero,List.all_cons,Bool.and_eq_true,decide_eq_true_eq] at this; exact this.1
       ·rw[if_neg k1] at hs;by_cases k2:ones.contains ((encs [a]).headD 0)=true
        ·rw[hb] at k2;exact zaje b (by simpa using k2)
        ·rw[if_neg k2] at hs;exact absurd hs.symm h0
      obtain ⟨e1,_⟩:=zadm h2.1 hb hbn;rw[zaao,e1];rfl
     ·simp only[List.length_cons];omega
   rw[hlen,List.drop_left]
def sepR (b:Bool):List Int:=bif b then [9,35,32,120,32,123,32,59,10] else [32,13,10]
theorem zat1 (b:Bool) (y:List Int):skip false (sepR b++y)=skip false y:=by
 cases b
 ·show skip false (32::13::10::y)=_;simp[skip,Sp.blank]
 ·show skip false (9::35::32::120::32::123::32::59::10::y)=_;simp[skip,Sp.blank]
theorem zauf (b:Bool):(sepR b).all Sp.isRune=true:=by cases b<;>decide
theorem zaun {w:List Int} {t:Token} (h:whole w t) (b:Bool) (r:List Int):tokR (w++(sepR b++r))=(t,0)∧restR (w++(sepR b++r))=sepR b++r:=by
 cases b
 ·exact zami h (13::10::r)
 ·exact zaq0 h (35::32::120::32::123::32::59::10::r)
def jn:List (List Int×Token×Bool)→List Int
 |[]=>[]
 |x::l=>x.1++(sepR x.2.2++jn l)
theorem zakw:∀ (ps:List (List Int×Token×Bool)),(∀ x∈ps,whole x.1 x.2.1)→(jn ps).all Sp.isRune=true
 |[],_=>rfl
 |x::l,h=>by
  have h1:=(h x (by simp)).2.1;have h2:=zakw l fun y hy=>h y (by simp[hy])
  rw[jn,List.all_append,List.all_append,h1,h2,zauf];rfl
theorem zap2 (ps:List (List Int×Token×Bool)) (h:∀ x∈ps,whole x.1 x.2.1):skip false (jn ps)=jn ps:=by
 cases ps with
 |nil=>rfl
 |cons x l=>exact zaud (h x (by simp)) _
theorem T_jn : ∀ (ps : List (List Int × Token × Bool)) (p : Int), (∀ x ∈ ps, whole x.1 x.2.1) → ∃ l, T p (jn ps) = .inr l ∧ l.map core = ps.map (fun x => core x.2.1)
 |[],p,_=>⟨[],rfl,rfl⟩
 |x::ps,p,h=>by
  obtain ⟨w,t,b⟩:=x;have hx:=h (w,t,b) (by simp);have hps:∀ y∈ps,whole y.1 y.2.1:=fun y hy=>h y (by simp[hy])
  have hall:=zakw ((w,t,b)::ps) h;obtain ⟨q1,q2⟩:=zaun hx b (jn ps);rw[jn] at hall ⊢;dsimp only at hall hx ⊢;have hne:=hx.1;cases w with
  |nil=>exact absurd rfl hne
  |cons a w=>
   rw[List.cons_append] at q1 q2 hall ⊢;rw[zag8 p a _ hall,q1,q2,zat1,zap2 ps hps];obtain ⟨l,h1,h2⟩:=T_jn ps (p+(encs (a::(w++(sepR b++jn ps)))).length-(encs (jn ps)).length) hps;rw[h1];refine ⟨_,rfl,?_⟩;simp only[List.map_cons,h2];rfl
theorem zavq (ps:List (List Int×Token×Bool)) (h:∀ x∈ps,whole x.1 x.2.1) (hl:(encs (jn ps)).length≤4000) :
  ∃ l a,qag (encs (jn ps))=some (l++[⟨5,[],0,a⟩],⟨0,0,[]⟩)∧l.map core=ps.map (fun x=>core x.2.1):=by
 have h1:=zai9 (jn ps) (zakw ps h) hl;have e:=zasp (jn ps) (zakw ps h);unfold p0 at e;rw[e] at h1;rw[zap2 ps h] at h1;obtain ⟨l,h2,h3⟩:=T_jn ps (((encs (jn ps)).length:Int)-(encs (jn ps)).length) h;rw[h2] at h1;exact ⟨l,_,h1,h3⟩
end Lift.A4
namespace Lift.A3
open Go Go.RowKit Lift Go.IntWalk Lift.Fn
set_option linter.unusedVariables false
set_option linter.unusedSimpArgs false
end Lift.A3
namespace Lift.A3
open Go Go.RowKit Lift Go.IntWalk Lift.Fn
set_option linter.unusedVariables false
set_option linter.unusedSimpArgs false
def two {α:Type} (f:α→α→Bool):List α→List α→Bool
 |[],[]=>true
 |x::l,y::r=>f x y&&two f l r
 |_,_=>false
theorem zap9 {α:Type} (f:α→α→Bool):∀ (l r:List α),l.length≠r.length→two f l r=false
 |[],[],h=>absurd rfl h
 |[],_::_,_=>rfl
 |_::_,[],_=>rfl
 |x::l,y::r,h=>by
  rw[two,zap9 f l r (by simpa using h),Bool.and_false]
theorem zaql {α : Type} (f : α → α → Bool) : ∀ (l r : List α), l.length = r.length → two f l r = (l.zip r).all fun p => f p.1 p.2
 |[],[],h=>rfl
 |x::l,y::r,h=>by
  rw[two,zaql f l r (by simpa using h),List.zip_cons_cons,List.all_cons]
theorem zaf5 {α:Type} (f:α→α→Bool):∀ (l:List α),(∀ x∈l,f x x=true)→two f l l=true
 |[],h=>rfl
 |x::l,h=>by
  rw[two,h x (by simp),zaf5 f l (fun y hy=>h y (by simp[hy]))];rfl
theorem zaga {α τ:Type} (f:α→α→Bool) (l r:List α) (e:τ) (L:Nat→Int→Option (Bool⊕τ)) (hlen:l.length=r.length)
  (h0:∀ n i,0≤i→¬ i<(l.length:Int)→L (n+1) i=some (.inr e))
  (h1:∀ n i x y,0≤i→i<(l.length:Int)→l[i.toNat]? = some x→r[i.toNat]? = some y→x∈l→y∈r→L (n+1) i=bif f x y then L n (i+1) else some (.inl false))
  (n:Nat) (hn:l.length<n):L n 0=some (bif two f l r then .inr e else .inl false):=by
 have hz:(l.zip r).length=l.length:=by rw[List.length_zip]; omega
 have := zaux (σ := Unit) (l.zip r) (fun _ _ => True) (fun q _ => (bif q.all fun p => f p.1 p.2 then .inr e else .inl false : Bool ⊕ τ)) (fun m i _ => L m i)
  (fun m i s h h' _=>h0 m i h (by rw[← hz]; exact h'))
  (fun m i s p q h h' hp hm _=>by
   obtain ⟨x,y⟩:=p;obtain ⟨e1,e2⟩:=List.getElem?_zip_eq_some.1 hp;have:=h1 m i x y h (by rw[← hz]; exact h') e1 e2 (List.mem_of_getElem? e1) (List.mem_of_getElem? e2);cases hf:f x y with
   |true=>
    rw[hf,cond_true] at this;exact Or.inl ⟨(),trivial,this,by rw[List.all_cons,hf,Bool.true_and]⟩
   |false=>
    rw[hf,cond_false] at this;refine Or.inr ?_;rw[List.all_cons,hf,Bool.false_and];exact this)
  n () (by omega) trivial
 rw[zaql f l r hlen];exact this
mutual
def sE:TExpr→TExpr→Bool
 |⟨k,n,m,l⟩,⟨k',n',m',l'⟩=>k==k'&&(n==n'&&(m==m'&&sEs l l'))
def sEs:List TExpr→List TExpr→Bool
 |[],[]=>true
 |x::l,y::r=>sE x y&&sEs l r
 |_,_=>false
end
theorem zaqb:∀ l r,sEs l r=two sE l r
 |[],[]=>by simp[sEs,two]
 |[],_::_=>by simp[sEs,two]
 |_::_,[]=>by simp[sEs,two]
 |x::l,y::r=>by rw[sEs,two,zaqb l r]
theorem sE_eq (x y:TExpr):sE x y=(x.kind==y.kind&&(x.num==y.num&&(x.name==y.name&&two sE x.args y.args))):=by
 cases x; cases y; rw[sE,zaqb]
mutual
def sS:TStmt→TStmt→Bool
 |⟨k,r,m,x,c,t,o⟩,⟨k',r',m',x',c',t',o'⟩=>k==k'&&(r==r'&&(m==m'&&(c==c'&&(sE x x'&&(sSs t t'&&sSs o o')))))
def sSs:List TStmt→List TStmt→Bool
 |[],[]=>true
 |x::l,y::r=>sS x y&&sSs l r
 |_,_=>false
end
theorem zamc:∀ l r,sSs l r=two sS l r
 |[],[]=>by simp[sSs,two]
 |[],_::_=>by simp[sSs,two]
 |_::_,[]=>by simp[sSs,two]
 |x::l,y::r=>by rw[sSs,two,zamc l r]
theorem sS_eq (x y:TStmt):sS x y=(x.kind==y.kind&&(x.reg==y.reg&&(x.name==y.name&&(x.count==y.count&&(sE x.expr y.expr&&(two sS x.then_ y.then_&&two sS x.else_ y.else_)))))):=by
 cases x; cases y; rw[sS,zamc,zamc]
def sT (x y:TThread):Bool:=x.name==y.name&&two sS x.body y.body
def sP (p q:TProg):Bool:=two (fun x y=>decide (x=y)) p.cells q.cells&&(two (fun x y=>x==y) p.mutexes q.mutexes&&two sT p.threads q.threads)
mutual
theorem zaqj:∀ x,sE x x=true
 |⟨k,n,m,l⟩=>by rw[sE,zaod l]; simp
theorem zaod:∀ l,sEs l l=true
 |[]=>by rw[sEs]
 |x::l=>by rw[sEs,zaqj x,zaod l]; rfl
end
mutual
theorem zaqk:∀ x,sS x x=true
 |⟨k,r,m,x,c,t,o⟩=>by rw[sS,zakg t,zakg o,zaqj x]; simp
theorem zakg:∀ l,sSs l l=true
 |[]=>by rw[sSs]
 |x::l=>by rw[sSs,zaqk x,zakg l]; rfl
end
theorem zauz (x:TThread):sT x x=true:=by
 rw[sT,zaf5 sS _ (fun y _=>zaqk y)];simp
theorem zaus (p:TProg):sP p p=true:=by
 rw[sP,zaf5 sT _ (fun y _=>zauz y),zaf5 _ _ (fun y _=>by simp),zaf5 _ _ (fun y _=>by simp)];rfl
end Lift.A3
namespace Lift.A3
open Go Go.RowKit Lift Go.IntWalk Lift.Fn
set_option linter.unusedVariables false
set_option linter.unusedSimpArgs false
theorem zac5 {α:Type} (f:α→α→Bool) (l r:List α) (L:Option (Bool⊕Unit)) (hL:l.length=r.length→L=some (bif two f l r then .inr () else .inl false)) :
  (bif (l.length:Int) != (r.length:Int) then some false else Option.bind L fun y0=>match y0 with|.inl y1=>some y1|.inr y1=>some true)=some (two f l r):=by
 by_cases h:l.length=r.length
 ·have h4':((l.length:Int)==(r.length:Int))=true:=by rw[h]; simp
  simp only[bne,h4',Bool.not_true,cond_false];rw[hL h];cases two f l r<;>rfl
 ·have h4':((l.length:Int)==(r.length:Int))=false:=by
   rw[beq_eq_false_iff_ne]; omega
  simp only[bne,h4',Bool.not_false,cond_true];rw[zap9 f _ _ h]
theorem zasq:∀ (k n:Nat) (x y:TExpr),nE x≤k→k<n→k≤100000000→qa1_i n x y=some (sE x y):=by
 intro k;induction k with
 |zero=>intro n x y h; have:=nE_eq x; omega
 |succ k ih=>
  intro n x y h hn hb;obtain ⟨n,rfl⟩:∃ q,n=q+1:=⟨n-1,by omega⟩;have hx:=nE_eq x;have hl:=zal6 x.args;have e:qaN (qa1_i n) x.args y.args=some (two sE x.args y.args):=by
   rw[qaN,zaaa];refine zac5 sE x.args y.args _ (fun h4=>?_);rw[qaN_l4,zaaa]
   exact zaga sE x.args y.args () (fun m i => qaN_i4 (qa1_i n) m y.args x.args x.args.length i) h4
    (fun m i h0 h=>by
     simp only[qaN_i4,qaN_t4,decide_eq_false h,cond_false])
    (fun m i a b h0 h ha hb' ma mb=>by
     have:=zal4 ma;simp only[qaN_i4,qaN_t4,decide_eq_true h,decide_eq_true h0,cond_true,ha,hb',Option.bind_some,zaa0];rw[ih n a b (by omega) (by omega) (by omega),Option.bind_some,i64_in (i+1) (by omega)];cases sE a b<;>rfl)
    fuel (by unfold fuel; omega)
  show qa1_f (qa1_i n) x y=_;unfold qa1_f;rw[sE_eq,e];cases (x.kind==y.kind) with
  |false=>rfl
  |true=>
  cases (x.num==y.num) with
  |false=>rfl
  |true=>
  cases (x.name==y.name) with
  |false=>rfl
  |true=>rfl
theorem zaog (x y:TExpr) (h:nE x≤100000000):qa1 x y=some (sE x y):=by
 rw[qa1,zaaa,zasq (nE x) fuel x y (Nat.le_refl _) (by unfold fuel; omega) (by omega)]
theorem zasc:∀ (k n:Nat) (l r:List TStmt),nSs l≤k→k<n→k≤100000000→qaO_i n l r=some (two sS l r):=by
 intro k;induction k with
 |zero=>
  intro n l r h hn hb;obtain ⟨n,rfl⟩:∃ q,n=q+1:=⟨n-1,by omega⟩;have hl:=zahl l;obtain rfl:l=[]:=List.eq_nil_of_length_eq_zero (by omega);refine zac5 sS [] r _ (fun h4=>?_);obtain rfl:r=[]:=List.eq_nil_of_length_eq_zero (by simpa using h4.symm);rw[qaO_l4,zaaa];rfl
 |succ k ih=>
  intro n l r h hn hb;obtain ⟨n,rfl⟩:∃ q,n=q+1:=⟨n-1,by omega⟩;have hl:=zahl l;refine zac5 sS l r _ (fun h4=>?_);rw[qaO_l4,zaaa]
  exact zaga sS l r () (fun m i => qaO_i4 (qaO_i n) m r l l.length i) h4
    (fun m i h0 h=>by
     simp only[qaO_i4,qaO_t4,decide_eq_false h,cond_false])
    (fun m i a b h0 h ha hb' ma mb=>by
     have h5:=zal8 ma;have h6:=nS_eq a;simp only[qaO_i4,qaO_t4,decide_eq_true h,decide_eq_true h0,cond_true,ha,hb',Option.bind_some,zaa0,zaki];have e:qa2 (qaO_i n) a b=some (sS a b):=by
      rw[qa2,zaaa];unfold qa2_f;rw[ih n a.then_ b.then_ (by omega) (by omega) (by omega),ih n a.else_ b.else_ (by omega) (by omega) (by omega),zaa0,zaa0,zaog a.expr b.expr (by omega),sS_eq];cases (a.kind==b.kind) with
      |false=>rfl
      |true=>
      cases (a.reg==b.reg) with
      |false=>rfl
      |true=>
      cases (a.name==b.name) with
      |false=>rfl
      |true=>
      cases (a.count==b.count) with
      |false=>rfl
      |true=>
      cases sE a.expr b.expr with
      |false=>rfl
      |true=>
      cases two sS a.then_ b.then_ with
      |false=>rfl
      |true=>rfl
     rw[e,Option.bind_some,i64_in (i+1) (by omega)];cases sS a b<;>rfl)
    fuel (by unfold fuel; omega)
theorem zatz (p q:TProg) (h:nT p.threads≤100000000) (h1:p.cells.length≤100000000) (h2:p.mutexes.length≤100000000) :
  qaZ p q=some (sP p q):=by
 rw[qaZ,zaaa];unfold qaZ_f;have hl:=zale p.threads;have e1:qaQ p.cells q.cells=some (two (fun x y=>decide (x=y)) p.cells q.cells):=by
  rw[qaQ,zaaa];refine zac5 _ p.cells q.cells _ (fun h4=>?_);rw[qaQ_l4,zaaa]
  exact zaga (fun x y => decide (x = y)) p.cells q.cells () (fun m i => qaQ_i4 m p.cells q.cells p.cells.length i) h4
    (fun m i h0 h=>by
     simp only[qaQ_i4,qaQ_t4,decide_eq_false h,cond_false])
    (fun m i a b h0 h ha hb' ma mb=>by
     simp only[qaQ_i4,qaQ_t4,decide_eq_true h,decide_eq_true h0,cond_true,ha,hb',Option.bind_some];rw[i64_in (i+1) (by omega)];cases decide (a=b)<;>rfl)
    fuel (by unfold fuel; omega)
 have e2:qaR p.mutexes q.mutexes=some (two (fun x y=>x==y) p.mutexes q.mutexes):=by
  rw[qaR,zaaa];refine zac5 _ p.mutexes q.mutexes _ (fun h4=>?_);rw[qaR_l4,zaaa]
  exact zaga (fun x y => x == y) p.mutexes q.mutexes () (fun m i => qaR_i4 m p.mutexes q.mutexes p.mutexes.length i) h4
    (fun m i h0 h=>by
     simp only[qaR_i4,qaR_t4,decide_eq_false h,cond_false])
    (fun m i a b h0 h ha hb' ma mb=>by
     simp only[qaR_i4,qaR_t4,decide_eq_true h,decide_eq_true h0,cond_true,ha,hb',Option.bind_some];rw[i64_in (i+1) (by omega)];cases (a==b)<;>rfl)
    fuel (by unfold fuel; omega)
 have e3:qaP p.threads q.threads=some (two sT p.threads q.threads):=by
  rw[qaP,zaaa];refine zac5 _ p.threads q.threads _ (fun h4=>?_);rw[qaP_l4,zaaa]
  exact zaga sT p.threads q.threads () (fun m i => qaP_i4 m q.threads p.threads p.threads.length i) h4
    (fun m i h0 h=>by
     simp only[qaP_i4,qaP_t4,decide_eq_false h,cond_false])
    (fun m i a b h0 h ha hb' ma mb=>by
     have h5:=zak7 ma;simp only[qaP_i4,qaP_t4,decide_eq_true h,decide_eq_true h0,cond_true,ha,hb',Option.bind_some];have e:qa0 (TThread.mk a.name a.body) (TThread.mk b.name b.body)=some (sT a b):=by
      rw[qa0,zaaa];unfold qa0_f;show Option.bind (bif a.name==b.name then Option.bind (qaO a.body b.body) fun y0=>some y0 else some false) (fun y1=>some y1)=_;rw[qaO,zaaa,zasc (nSs a.body) fuel a.body b.body (Nat.le_refl _) (by unfold fuel; omega) (by omega),sT];cases (a.name==b.name)<;>rfl
     rw[e,Option.bind_some,i64_in (i+1) (by omega)];cases sT a b<;>rfl)
    fuel (by unfold fuel; omega)
 rw[e1,e2,e3,sP];cases two (fun x y=>decide (x=y)) p.cells q.cells with
 |false=>rfl
 |true=>
 cases two (fun x y=>x==y) p.mutexes q.mutexes with
 |false=>rfl
 |true=>rfl
end Lift.A3
namespace Lift.A4
open Go Go.RowKit Lift Go.IntWalk Lift.Fn Lift.A1P Lift.A3
set_option linter.unusedVariables false
set_option linter.unusedSimpArgs false
theorem sep_t:encs (sepR true)=[(9:UInt8),35,32,120,32,123,32,59,10]:=by decide +kernel
theorem sep_f:encs (sepR false)=[(32:UInt8),13,10]:=by decide +kernel
theorem zauj (a0:List UInt8) (ev:Int) (he:0≤ev) (l:List Token) (e:Token) (hl:l.length≤4000) (hb:∀ x∈l,x.text.length≤4000∧∃ w t,whole w t∧core x=core t) :
  ∀ (k n:Nat) (i:Nat) (acc:List UInt8),i+k=l.length→k<n→acc.length≤i*5000 →
   ∃ ps : List (List Int × Token × Bool), (∀ x ∈ ps, whole x.1 x.2.1) ∧ ps.map (fun x => core x.2.1) = (l.drop i).map core ∧
    qaE_i9 n a0 ev (l++[e]) acc i=some (a0,acc++encs (jn ps)):=by
 have hw:IntKind.wrap IntKind.i64 ((↑(List.length (l++[e])):Int)-(1:Int))=(l.length:Int):=by
  rw[List.length_append,List.length_cons,List.length_nil,i64_in _ (by omega)];omega
 have hm0:0≤Int.tmod ev 5:=Int.tmod_nonneg 5 he;have hm5:Int.tmod ev 5<5:=Int.tmod_lt_of_pos ev (by omega);have hmw:IntKind.wrap IntKind.i64 (Int.tmod ev (5:Int)+(1:Int))=Int.tmod ev 5+1:=i64_in _ (by omega);have hz:(Int.tmod ev 5+1==0)=false:=by rw[beq_eq_false_iff_ne]; omega
 intro k;induction k with
 |zero=>
  intro n i acc hi hn ha;obtain ⟨n,rfl⟩:∃ q,n=q+1:=⟨n-1,by omega⟩;refine ⟨[],fun x hx=>(by cases hx),?_,?_⟩
  ·rw[List.drop_eq_nil_of_le (by omega)]; rfl
  ·have e1:decide ((i:Int)<(l.length:Int))=false:=by simp only[decide_eq_false_iff_not]; omega
   simp only[qaE_i9,qaE_t9,hw,e1,cond_false];simp[jn,encs]
 |succ k ih=>
  intro n i acc hi hn ha;obtain ⟨n,rfl⟩:∃ q,n=q+1:=⟨n-1,by omega⟩;have hlt:i<l.length:=by omega
  have e1:decide ((i:Int)<(l.length:Int))=true:=by simp only[decide_eq_true_eq]; omega
  have e0:decide ((0:Int)≤(i:Int))=true:=by simp only[decide_eq_true_eq]; omega
  have eg:(l++[e])[Int.toNat (i:Int)]? = some l[i]:=by rw[Int.toNat_natCast,List.getElem?_append_left hlt]; exact List.getElem?_eq_getElem hlt
  obtain ⟨hx,w,t,hwh,hc⟩:=hb l[i] (List.getElem_mem hlt);have hd:l.drop i=l[i]::l.drop (i+1):=List.drop_eq_getElem_cons hlt;have ei:IntKind.wrap IntKind.i64 ((i:Int)+(1:Int))=((i+1:Nat):Int):=by rw[i64_in _ (by omega)]; omega
  have hte:l[i].text=encs w:=by
   have:=(Prod.mk.inj (Prod.mk.inj hc).2).1;rw[this];exact hwh.2.2.2
  have d1:decide (List.length acc+List.length (Token.text l[i])≤(9223372036854775807:Nat))=true:=by simp only[decide_eq_true_eq]; omega
  have d2:decide (List.length (acc++Token.text l[i])+(9:Nat)≤(9223372036854775807:Nat))=true:=by simp only[decide_eq_true_eq,List.length_append]; omega
  have d3:decide (List.length (acc++Token.text l[i])+(3:Nat)≤(9223372036854775807:Nat))=true:=by simp only[decide_eq_true_eq,List.length_append]; omega
  have step:∀ b:Bool,qaE_i9 (n+1) a0 ev (l++[e]) acc i=qaE_i9 n a0 ev (l++[e]) (acc++Token.text l[i]++encs (sepR b)) ((i+1:Nat):Int) →
    ∃ ps:List (List Int×Token×Bool),(∀ x∈ps,whole x.1 x.2.1)∧ps.map (fun x=>core x.2.1)=(l.drop i).map core ∧
    qaE_i9 (n+1) a0 ev (l++[e]) acc i=some (a0,acc++encs (jn ps)):=by
   intro b hstep;have hbl:(encs (sepR b)).length≤9:=by cases b<;>decide +kernel
   obtain ⟨ps,p1,p2,p3⟩:=ih n (i+1) (acc++Token.text l[i]++encs (sepR b)) (by omega) (by omega) (by simp only[List.length_append]; omega);refine ⟨(w,t,b)::ps,?_,?_,?_⟩
   ·intro x hx;simp only[List.mem_cons] at hx;rcases hx with rfl|hx
    ·exact hwh
    ·exact p1 x hx
   ·rw[hd,List.map_cons,List.map_cons,p2,hc]
   ·rw[hstep,p3,jn,zaag,zaag,hte];simp only[List.append_assoc]
  cases hb2:(Int.tmod (i:Int) (Int.tmod ev 5+1)==0) with
  |true=>
   refine step true ?_;simp only[qaE_i9,qaE_t9,hw,e1,e0,eg,d1,d2,hmw,hz,hb2,ei,cond_true,cond_false,Option.bind_some,sep_t]
  |false=>
   refine step false ?_;simp only[qaE_i9,qaE_t9,hw,e1,e0,eg,d1,d3,hmw,hz,hb2,ei,cond_true,cond_false,Option.bind_some,sep_f]
theorem zao4 {s t:List UInt8} {l m:List Token} (hl:qag s=some (l,⟨0,0,[]⟩)) (hm:qag t=some (m,⟨0,0,[]⟩)) (he:Ends l) (hb:l.length<1000000) (hc:m.map core=l.map core) :
  ∃ p c a1 a2,qao s=some (p,⟨c,a1,[]⟩)∧qao t=some (p,⟨c,a2,[]⟩)∧nT p.threads≤100000000∧p.cells.length≤100000000∧p.mutexes.length≤100000000:=by
 obtain ⟨u,x,r,e1,e2,e3⟩:=zate l he hb;have hlen:m.length=l.length:=by have:=congrArg List.length hc; simpa using this
 have hul:u.length<l.length:=by rw[e1,List.length_append,List.length_cons]; omega
 have hu:List.map core (m.take u.length)=List.map core u:=by
  rw[List.map_take,hc,e1,List.map_append,← List.length_map (f:=core),List.take_left]
 have hlt:u.length<m.length:=by omega
 have hd:m=m.take u.length++m[u.length]::m.drop (u.length+1):=by
  rw[← List.drop_eq_getElem_cons hlt,List.take_append_drop]
 have hx:core m[u.length]=core x:=by
  have h1:(m.map core)[u.length]? = some (core m[u.length]):=by rw[List.getElem?_map,List.getElem?_eq_getElem hlt]; rfl
  rw[hc,e1,List.map_append,List.getElem?_append_right (by simp)] at h1;simp only[List.length_map,Nat.sub_self,List.map_cons,List.getElem?_cons_zero,Option.some.injEq] at h1;exact h1.symm
 rcases e3 with ⟨p,c,hp⟩|hp
 ·have hp1:=hp u x r rfl rfl;have hp2:=hp (m.take u.length) m[u.length] (m.drop (u.length+1)) hu hx;rw[← e1] at hp1;rw[← hd] at hp2;have hn0:nT []=0:=by simp[nT]
  obtain ⟨c1,c2,c3⟩:=c;rw[hn0] at c3;simp only[List.length_nil] at c1 c2;have q1:=zakq hl hp1 (by omega);have q2:=zakq hm hp2 (by omega);unfold fin at q1 q2;by_cases k1:maxEv (evP p) 0>16
  ·rw[if_pos k1] at q1 q2;exact ⟨_,_,_,_,q1,q2,by rw[hn0]; omega,by simp,by simp⟩
  ·rw[if_neg k1] at q1 q2;by_cases k2:(cT p.threads:Int)>500
   ·rw[if_pos k2] at q1 q2;exact ⟨_,_,_,_,q1,q2,by rw[hn0]; omega,by simp,by simp⟩
   ·rw[if_neg k2] at q1 q2;exact ⟨_,_,_,_,q1,q2,by omega,by omega,by omega⟩
 ·have hp1:=hp u x r rfl rfl;have hp2:=hp (m.take u.length) m[u.length] (m.drop (u.length+1)) hu hx;rw[← e1] at hp1;rw[← hd] at hp2;have hn0:nT []=0:=by simp[nT]
  exact ⟨_,_,_,_,zait hl hp1,zait hm hp2,by rw[hn0]; omega,by simp,by simp⟩
end Lift.A4
namespace Lift.A4
open Go Go.RowKit Lift Go.IntWalk Lift.Fn Lift.A1P Lift.A3
set_option linter.unusedVariables false
set_option linter.unusedSimpArgs false
theorem zak9 (text:List UInt8) (ev:Int) (he:0≤ev) (rs:List Int) (l:List Token) (h1:text=encs rs) (h2:rs.all Sp.isRune=true) (h3:text.length≤4000)
  (h4:T (p0 rs) (skip false rs)=.inr l) (h5:qag text=some (l++[⟨5,[],0,(text.length:Int)⟩],⟨0,0,[]⟩)) :
  (Option.bind (qaE_l9 text ev (l++[⟨5,[],0,(text.length:Int)⟩]) [] (0:Int)) fun y10=>
    bif decide ((↑(List.length (Prod.snd y10)):Int)>(4000:Int)) then
     some (true)
    else
     Option.bind (qao (Prod.fst y10)) fun y11=>
     Option.bind (qao (Prod.snd y10)) fun y12=>
     Option.bind (qaZ (TProg.mk (TProg.cells (Prod.fst y11)) (TProg.mutexes (Prod.fst y11)) (TProg.threads (Prod.fst y11))) (TProg.mk (TProg.cells (Prod.fst y12)) (TProg.mutexes (Prod.fst y12)) (TProg.threads (Prod.fst y12)))) fun y13=>
     Option.bind (α:=Bool) (
       bif Fault.code (Prod.snd y11)==Fault.code (Prod.snd y12) then
        some (y13)
       else
        some (false)) fun y14=>
     some (y14))=some true:=by
 obtain ⟨q1,q2⟩:=T_ok _ _ _ _ (Nat.le_refl _) (zaf7 h2) h4;have hlen:l.length≤4000:=by
  have:=zakb _ _ _ (zaf7 h2) l h4;have:=zae1 false rs;have:=zabi rs;rw[← h1] at this;omega
 have hb:∀ x∈l,x.text.length≤4000∧∃ w t,whole w t∧core x=core t:=by
  intro x hx;obtain ⟨x1,_,_,x4⟩:=q1 x hx;obtain ⟨u',v',hx'⟩:=List.append_of_mem hx;obtain ⟨_,a2,_⟩:=zar5 h1 h2 h4 hx';have hp:0≤p0 rs:=by
   unfold p0;obtain ⟨sep,hsep⟩:=zaa8 rs false;have:=congrArg (fun l=>((encs l).length:Int)) hsep;rw[zabd] at this;omega
  exact ⟨by omega,x4⟩
 obtain ⟨ps,p1,p2,p3⟩:=zauj text ev he l ⟨5,[],0,(text.length:Int)⟩ hlen hb l.length fuel 0 [] (by omega) (by unfold fuel; omega) (by simp);rw[qaE_l9,zaaa];rw[show ((0:Nat):Int)=0 from rfl] at p3;rw[p3,Option.bind_some,List.nil_append];dsimp only;by_cases hs:((encs (jn ps)).length:Int)>4000
 ·rw[decide_eq_true hs];rfl
 ·rw[decide_eq_false hs,cond_false];obtain ⟨m,a,m1,m2⟩:=zavq ps p1 (by omega);have hc:(m++[(⟨5,[],0,a⟩:Token)]).map core=(l++[(⟨5,[],0,(text.length:Int)⟩:Token)]).map core:=by
   rw[List.map_append,List.map_append,m2,p2,List.drop_zero];rfl
  obtain ⟨p,c,b1,b2,r1,r2,r3,r4,r5⟩:=zao4 h5 m1 (zatn l _) (by rw[List.length_append,List.length_cons,List.length_nil]; omega) hc;rw[r1,r2,Option.bind_some,Option.bind_some];dsimp only;rw[zajg,zatz p p r3 r4 r5,zaus,Option.bind_some];simp
theorem parseBlanks (hs:qaF=some true) (text:List UInt8) (ev:Int) (h0:-9223372036854775808≤ev):qaE text ev=some true:=by
 rw[qaE,zaaa];unfold qaE_f;rw[hs,Option.bind_some];rcases zam2 text with ⟨f,h1,h2,h3⟩|⟨rs,l,h1,h2,h3,h4,h5⟩
 ·rw[h1,Option.bind_some];have e:(f.code != 0)=true:=by simp[h2]
  simp only[Bool.not_true,cond_false,e,Option.bind_some,cond_true]
 ·rw[h5,Option.bind_some];have e1:((↑(List.length (l++[(⟨5,[],0,(text.length:Int)⟩:Token)])):Int)==0)=false:=by
   rw[beq_eq_false_iff_ne,List.length_append,List.length_cons,List.length_nil];omega
  simp only[Bool.not_true,cond_false,bne_self_eq_false,e1,Option.bind_some];by_cases hn:ev<0
  ·rw[decide_eq_true hn,cond_true];have e2:IntKind.wrap IntKind.i64 ((0:Int)-IntKind.wrap IntKind.i64 (ev+(1:Int)))=-(ev+1):=by
    rw[i64_in (ev+1) (by omega),i64_in _ (by omega)];omega
   rw[e2];exact zak9 text (-(ev+1)) (by omega) rs l h1 h2 h3 h4 h5
  ·rw[decide_eq_false hn,cond_false];exact zak9 text ev (by omega) rs l h1 h2 h3 h4 h5
theorem parseBlanks1 (text:List UInt8) (ev:Int) (h0:-9223372036854775808≤ev):qaE text ev=some true:=parseBlanks zau3 text ev h0
end Lift.A4
namespace Lift
open Go Go.RowKit Go.ChangeShapes
theorem int_range {H:Type} {enc:TypeId×Value→H} {P:Program} {W:World} {base:Nat} {T:TypeId} {k:IntKind} {v:Value} {d:DataW H} {ps:List MemPlace} {y:Int} {u:Uni} (hval:Value.okWide P W .any base T v) (ht:P.underlying T=some (.int k)) (hd:DataW.Trod enc P W 0 (fun _=>true) true T v d ps) (t:TRel u (fun j=>W.heap[j]?) ⟨.int k,y⟩ v):(Lit.int k y).wf=true:=by
 obtain ⟨m,rfl,_,_,hw⟩:=open_int ht hval hd;cases t;exact hw
end Lift
namespace Lift.A4
open Go
theorem lo_of {n:Int} (h:(Lit.int .i64 n).wf=true):-9223372036854775808≤n:=by
 simp only[Lit.wf,Bool.and_eq_true,decide_eq_true_eq] at h;exact h.1
end Lift.A4
