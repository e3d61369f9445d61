/-
  DERIVED. The Lean functions answer as the laws say. Conditions: as each theorem says.
-/
import Derived.Test.YtcmhkcpheehlhaaGreatDoorWalk
import Derived.IntWalk
set_option linter.unusedVariables false
set_option linter.unusedSimpArgs false
set_option linter.unusedSectionVars false
namespace Lift.A1P
open Go Go.RowKit Lift Go.IntWalk
namespace Sp
def isRune (r:Int):Bool:=decide (0≤r∧r≤1114111∧(r<55296∨r>57343))
def letter (r:Int):Bool:=isRune r&&decide ((65≤r∧r≤90)∨r=95∨(97≤r∧r≤122)∨192≤r)
def digit (r:Int):Bool:=decide (48≤r∧r≤57)
def blank (r:Int):Bool:=decide (r=9∨r=10∨r=13∨r=32)
def long (r:Int):Int:=if r<128 then 1 else if r<2048 then 2 else if r<65536 then 3 else 4
def enc (r:Int):List Int:=
 if r<128 then [r] else if r<2048 then [192+r / 64,128+r % 64] else if r<65536 then [224+r / 4096,128+r / 64 % 64,128+r % 64]
 else [240+r / 262144,128+r / 4096 % 64,128+r / 64 % 64,128+r % 64]
def dc (t:List UInt8) (p:Nat):Nat×Nat:=Utf8.decode ⟨t.toArray⟩ p
def bad (t:List UInt8) (p:Nat):Bool:=decide ((dc t p).1=65533)&&!(((t.take (min t.length (p+3))).drop p)==[239,191,189])
def at1 (t:List UInt8) (p:Int):Int:=if bad t p.toNat then 0 else ((dc t p.toNat).1:Int)
def at2 (t:List UInt8) (p:Int):Int:=if bad t p.toNat then 0 else ((dc t p.toNat).2:Int)
def on (s:Spot) (r n:Int):Spot:=if r=10 then ⟨s.rune,s.at_+n,s.line+1,1⟩ else ⟨s.rune,s.at_+n,s.line,s.col+1⟩
def spotsFrom (t:List UInt8):Nat→List Spot→Spot→List Spot×Spot
 |0,acc,s=>(acc,s)
 | n + 1, acc, s => if s.at_ < t.length then (if bad t s.at_.toNat then (acc, s) else
   spotsFrom t n (acc++[⟨at1 t s.at_,s.at_,s.line,s.col⟩]) (on ⟨at1 t s.at_,s.at_,s.line,s.col⟩ (at1 t s.at_) (at2 t s.at_))) else (acc,s)
def cont (t:List UInt8) (p:Int):Nat→Int→Int→Option Int
 |0,r,_=>some r
 |k+1,r,i=>match t[(p+i).toNat]? with
  |none=>none
  |some d=>if d.toNat<128∨191<d.toNat then none else cont t p k (64*r+d.toNat-128) (i+1)
def ended (s:Spot):Spot:=⟨-1,s.at_,s.line,s.col⟩
def spots1 (t:List UInt8):List Spot:=(spotsFrom t t.length [] ⟨0,0,1,1⟩).1
def spots2 (t:List UInt8):Spot:=ended (spotsFrom t t.length [] ⟨0,0,1,1⟩).2
def runes1 (t:List UInt8):List Spot:=if 4000<t.length then [] else if (spots2 t).at_<t.length then [] else spots1 t
def runes2 (t:List UInt8):Fault:=if 4000<t.length then ⟨10,4000,[]⟩ else if (spots2 t).at_<t.length then ⟨11,(spots2 t).at_,[]⟩ else ⟨0,0,[]⟩
def same (a b:List Spot):Bool:=decide (a=b)
end Sp
namespace Sp
def by_ (l:List UInt8) (k:Nat):Nat:=(l.getD k 0).toNat
def ct (l:List UInt8) (k:Nat):Bool:=decide (k<l.length)&&(by_ l k / 64==2)
def dl (l:List UInt8):Nat×Nat:=
 if by_ l 0<0x80 then (by_ l 0,1)
 else if by_ l 0 / 32 == 6 && ct l 1 then
  if (by_ l 0 % 32)*64+by_ l 1 % 64≥0x80 then ((by_ l 0 % 32)*64+by_ l 1 % 64,2) else (65533,1)
 else if by_ l 0 / 16 == 14 && ct l 1 && ct l 2 then
  if (by_ l 0 % 16)*4096+(by_ l 1 % 64)*64+by_ l 2 % 64≥0x800&&Utf8.valid (((by_ l 0 % 16)*4096+(by_ l 1 % 64)*64+by_ l 2 % 64:Nat):Int) then ((by_ l 0 % 16)*4096+(by_ l 1 % 64)*64+by_ l 2 % 64,3) else (65533,1)
 else if by_ l 0 / 8 == 30 && ct l 1 && ct l 2 && ct l 3 then
  if (by_ l 0 % 8)*262144+(by_ l 1 % 64)*4096+(by_ l 2 % 64)*64+by_ l 3 % 64≥0x10000&&Utf8.valid (((by_ l 0 % 8)*262144+(by_ l 1 % 64)*4096+(by_ l 2 % 64)*64+by_ l 3 % 64:Nat):Int) then ((by_ l 0 % 8)*262144+(by_ l 1 % 64)*4096+(by_ l 2 % 64)*64+by_ l 3 % 64,4) else (65533,1)
 else (65533,1)
def badl (l:List UInt8):Bool:=decide ((dl l).1=65533)&&!(l.take 3==[239,191,189])
theorem zapz (t:List UInt8) (q k:Nat):by_ (t.drop q) k=(t.getD (q+k) 0).toNat:=by
 simp[by_,List.getD_eq_getElem?_getD]
theorem dc_eq (t:List UInt8) (q:Nat):dc t q=dl (t.drop q):=by
 have hb:∀ k,((⟨t.toArray⟩:ByteArray).get! (q+k)).toNat=by_ (t.drop q) k:=by
  intro k;rw[zapz];simp[ByteArray.get!,List.getD_eq_getElem?_getD,getElem!_def];cases t[q+k]?<;>rfl
 have hs:(⟨t.toArray⟩:ByteArray).size=t.length:=by simp[ByteArray.size]
 have hc:∀ k,(decide (q+k<t.length)&&((by_ (t.drop q) k) / 64==2))=ct (t.drop q) k:=by
  intro k;unfold ct;have:(q+k<t.length)↔(k<(t.drop q).length):=by simp; omega
  simp only[this]
 unfold dc Utf8.decode;simp only[hb,hs,hc];unfold dl;rfl
theorem bad_eq (t:List UInt8) (q:Nat):bad t q=badl (t.drop q):=by
 unfold bad badl;rw[dc_eq];congr 2;have:(t.take (min t.length (q+3))).drop q=(t.drop q).take 3:=by
  have h1:t.take (min t.length (q+3))=t.take (q+3):=by
   rcases Nat.le_total t.length (q+3) with h|h
   ·rw[Nat.min_eq_left h,List.take_of_length_le h,List.take_of_length_le (Nat.le_refl _)]
   ·rw[Nat.min_eq_right h]
  rw[h1,List.drop_take];simp
 rw[this]
end Sp
namespace Sp
theorem take3 (l:List UInt8):(l.take 3==[239,191,189])=decide (3≤l.length∧by_ l 0=239∧by_ l 1=191∧by_ l 2=189):=by
 have e:∀ (a b:UInt8),(a==b)=decide (a.toNat=b.toNat):=fun a b=>by
  rw[Bool.eq_iff_iff]; simp[UInt8.toNat_inj]
 match l with
 |[]=>simp[by_]
 |[a]=>simp[by_]
 |[a,b]=>simp[by_]
 |a::b::c::r=>
  have:List.take 3 (a::b::c::r)=[a,b,c]:=rfl;rw[this];rw[Bool.eq_iff_iff];simp[by_,← UInt8.toNat_inj]
theorem get_by {t:List UInt8} {p:Int} {j:Nat} (hp:0≤p) (h:p+j<t.length):∃ x,t[(p+j).toNat]? = some x∧x.toNat=by_ (t.drop p.toNat) j:=by
 have hlt:(p+j).toNat<t.length:=by omega
 refine ⟨t[(p+j).toNat],List.getElem?_eq_getElem hlt,?_⟩;rw[zapz];have:p.toNat+j=(p+j).toNat:=by omega
 rw[this,List.getD_eq_getElem?_getD,List.getElem?_eq_getElem hlt];rfl
theorem zaea {t:List UInt8} {p:Int} {j k:Nat} {r:Int} (hp:0≤p) (h:p+j<t.length) :
  cont t p (k+1) r j=if by_ (t.drop p.toNat) j<128∨191<by_ (t.drop p.toNat) j then none else cont t p k (64*r+by_ (t.drop p.toNat) j-128) (j+1:Nat):=by
 obtain ⟨x,h1,h2⟩:=get_by hp h;simp only[cont,h1,h2];rfl
theorem cont1 {t:List UInt8} {p:Int} {r:Int} (hp:0≤p) (h:p+2≤t.length):cont t p 1 r 1 =
  if by_ (t.drop p.toNat) 1<128∨191<by_ (t.drop p.toNat) 1 then none else some (64*r+by_ (t.drop p.toNat) 1-128):=by
 have:=zaea (t:=t) (k:=0) (r:=r) (j:=1) hp (by omega);simpa [cont] using this
theorem cont2 {t:List UInt8} {p:Int} {r:Int} (hp:0≤p) (h:p+3≤t.length):cont t p 2 r 1 =
  if by_ (t.drop p.toNat) 1<128∨191<by_ (t.drop p.toNat) 1 then none else if by_ (t.drop p.toNat) 2<128∨191<by_ (t.drop p.toNat) 2 then none else some (64*(64*r+by_ (t.drop p.toNat) 1-128)+by_ (t.drop p.toNat) 2-128):=by
 have h1:=zaea (t:=t) (k:=1) (r:=r) (j:=1) hp (by omega);have h2:=zaea (t:=t) (k:=0) (r:=64*r+by_ (t.drop p.toNat) 1-128) (j:=2) hp (by omega);rw[show ((1:Nat):Int)=1 from rfl] at h1;rw[h1];rw[show (1+1:Nat)=2 from rfl,h2];rfl
theorem cont3 {t:List UInt8} {p:Int} {r:Int} (hp:0≤p) (h:p+4≤t.length):cont t p 3 r 1 =
  if by_ (t.drop p.toNat) 1<128∨191<by_ (t.drop p.toNat) 1 then none else if by_ (t.drop p.toNat) 2<128∨191<by_ (t.drop p.toNat) 2 then none else
  if by_ (t.drop p.toNat) 3<128∨191<by_ (t.drop p.toNat) 3 then none else some (64*(64*(64*r+by_ (t.drop p.toNat) 1-128)+by_ (t.drop p.toNat) 2-128)+by_ (t.drop p.toNat) 3-128):=by
 have h1:=zaea (t:=t) (k:=2) (r:=r) (j:=1) hp (by omega);have h2:=zaea (t:=t) (k:=1) (r:=64*r+by_ (t.drop p.toNat) 1-128) (j:=2) hp (by omega);have h3:=zaea (t:=t) (k:=0) (r:=64*(64*r+by_ (t.drop p.toNat) 1-128)+by_ (t.drop p.toNat) 2-128) (j:=3) hp (by omega);rw[show ((1:Nat):Int)=1 from rfl] at h1;rw[h1];rw[show (1+1:Nat)=2 from rfl,h2];rw[show (2+1:Nat)=3 from rfl,h3];rfl
end Sp
def ansA (n b0 b1 b2 b3:Nat):Int×Int:=
 let ok (r:Int) (k:Int):Int×Int:=if (0≤r∧r≤1114111∧(r<55296∨r>57343))∧Sp.long r=k then (r,k) else (0,0)
 if 240≤b0 then (if n<4 then (0,0) else if b1<128∨191<b1 then (0,0) else if b2<128∨191<b2 then (0,0) else if b3<128∨191<b3 then (0,0) else ok (64*(64*(64*(b0-240)+b1-128)+b2-128)+b3-128) 4)
 else if 224≤b0 then (if n<3 then (0,0) else if b1<128∨191<b1 then (0,0) else if b2<128∨191<b2 then (0,0) else ok (64*(64*(b0-224)+b1-128)+b2-128) 3)
 else if 192≤b0 then (if n<2 then (0,0) else if b1<128∨191<b1 then (0,0) else ok (64*(b0-192)+b1-128) 2)
 else if 128≤b0 then (0,0) else (b0,1)
theorem zagx (r:Int):Utf8.valid r=true↔(0≤r∧r<55296)∨(57344≤r∧r≤1114111):=by
 unfold Utf8.valid;simp only[Bool.or_eq_true,Bool.and_eq_true,decide_eq_true_eq]
theorem zans (l:List UInt8) (hl:0<l.length):ansA l.length (Sp.by_ l 0) (Sp.by_ l 1) (Sp.by_ l 2) (Sp.by_ l 3)=if Sp.badl l then (0,0) else (((Sp.dl l).1:Int),((Sp.dl l).2:Int)):=by
 have hb:∀ k,Sp.by_ l k<256:=fun k=>(l.getD k 0).toNat_lt
 have h0:=hb 0;have h1:=hb 1;have h2:=hb 2;have h3:=hb 3;unfold Sp.badl;rw[Sp.take3];obtain ⟨D,hD⟩:∃ D,D=Sp.dl l:=⟨_,rfl⟩;rw[← hD];unfold Sp.dl Sp.ct at hD;generalize Sp.by_ l 0=b0 at *;generalize Sp.by_ l 1=b1 at *;generalize Sp.by_ l 2=b2 at *;generalize Sp.by_ l 3=b3 at *;generalize l.length=n at *;clear hb;have small:∀ r:Int,r<128→Sp.long r=1:=fun r h=>by unfold Sp.long; rw[if_pos h]
 have two:∀ r:Int,128≤r→r<2048→Sp.long r=2:=fun r h h'=>by unfold Sp.long; rw[if_neg (by omega),if_pos h']
 have three:∀ r:Int,2048≤r→r<65536→Sp.long r=3:=fun r h h'=>by unfold Sp.long; rw[if_neg (by omega),if_neg (by omega),if_pos h']
 have four:∀ r:Int,65536≤r→Sp.long r=4:=fun r h=>by unfold Sp.long; rw[if_neg (by omega),if_neg (by omega),if_neg (by omega)]
 simp only[Bool.and_eq_true,decide_eq_true_eq,beq_iff_eq,zagx,ge_iff_le] at hD;simp only[Bool.and_eq_true,decide_eq_true_eq,Bool.not_eq_true',decide_eq_false_iff_not];have good:∀ (r k:Nat),D=(r,k)→¬ (r=65533∧¬ (3≤n∧b0=239∧b1=191∧b2=189))→(if D.1=65533∧¬ (3≤n∧b0=239∧b1=191∧b2=189) then ((0:Int),(0:Int)) else (↑D.1,↑D.2))=((r:Int),(k:Int)):=by
  intro r k h1 h2;rw[h1];exact if_neg h2
 have badd:D=(65533,1)→¬ (3≤n∧b0=239∧b1=191∧b2=189)→(if D.1=65533∧¬ (3≤n∧b0=239∧b1=191∧b2=189) then ((0:Int),(0:Int)) else (↑D.1,↑D.2))=(0,0):=by
  intro h1 h2;rw[h1];exact if_pos ⟨rfl,h2⟩
 unfold ansA;by_cases k0:b0<128
 ·rw[if_neg (by omega),if_neg (by omega),if_neg (by omega),if_neg (by omega)];rw[if_pos k0] at hD;rw[good _ _ hD (by omega)];rfl
 rw[if_neg k0] at hD;by_cases k1:b0<192
 ·rw[if_neg (by omega),if_neg (by omega),if_neg (by omega),if_pos (by omega)];rw[if_neg (by omega),if_neg (by omega),if_neg (by omega)] at hD;rw[badd hD (by omega)]
 by_cases k2:b0<224
 ·rw[if_neg (by omega),if_neg (by omega),if_pos (by omega)];by_cases c1:n<2
  ·rw[if_neg (by omega),if_neg (by omega),if_neg (by omega)] at hD;rw[if_pos c1,badd hD (by omega)]
  rw[if_neg c1];by_cases c2:b1<128∨191<b1
  ·rw[if_neg (by omega),if_neg (by omega),if_neg (by omega)] at hD;rw[if_pos c2,badd hD (by omega)]
  rw[if_neg c2];rw[if_pos (by omega)] at hD;by_cases c3:128≤b0 % 32*64+b1 % 64
  ·rw[if_pos c3] at hD;rw[good _ _ hD (by omega)];have:=two (64*((b0:Int)-192)+b1-128) (by omega) (by omega);show (if _ then _ else _)=_;rw[if_pos ⟨by omega,this⟩];simp only[Prod.mk.injEq];omega
  ·rw[if_neg c3] at hD;rw[badd hD (by omega)];show (if _ then _ else _)=_;rw[if_neg];intro hh;have:=small (64*((b0:Int)-192)+b1-128) (by omega);omega
 by_cases k3:b0<240
 ·rw[if_neg (by omega),if_pos (by omega)];by_cases c1:n<3
  ·rw[if_neg (by omega),if_neg (by omega),if_neg (by omega)] at hD;rw[if_pos c1,badd hD (by omega)]
  rw[if_neg c1];by_cases c2:b1<128∨191<b1
  ·rw[if_neg (by omega),if_neg (by omega),if_neg (by omega)] at hD;rw[if_pos c2,badd hD (by omega)]
  rw[if_neg c2];by_cases c3:b2<128∨191<b2
  ·rw[if_neg (by omega),if_neg (by omega),if_neg (by omega)] at hD;rw[if_pos c3,badd hD (by omega)]
  rw[if_neg c3];rw[if_neg (by omega),if_pos (by omega)] at hD;have hv:(64*(64*((b0:Int)-224)+b1-128)+b2-128)=((b0 % 16*4096+b1 % 64*64+b2 % 64:Nat):Int):=by omega
  show (if _ then _ else _)=_;rw[hv];obtain ⟨N,hN⟩:∃ N,N=b0 % 16*4096+b1 % 64*64+b2 % 64:=⟨_,rfl⟩;rw[← hN] at hD ⊢;by_cases c4:2048≤N∧(0≤(N:Int)∧(N:Int)<55296∨57344≤(N:Int)∧(N:Int)≤1114111)
  ·rw[if_pos c4] at hD;have h5:=three (N:Int) (by omega) (by omega);rw[good N 3 hD (by omega),if_pos (And.intro (by omega) h5)];exact Prod.ext rfl rfl
  ·rw[if_neg c4] at hD;rw[badd hD (by omega),if_neg];intro hh;by_cases c5:N<128
   ·have:=small (N:Int) (by omega); omega
   by_cases c6:N<2048
   ·have:=two (N:Int) (by omega) (by omega); omega
   ·omega
 ·rw[if_pos (by omega)];by_cases c1:n<4
  ·rw[if_neg (by omega),if_neg (by omega),if_neg (by omega)] at hD;rw[if_pos c1,badd hD (by omega)]
  rw[if_neg c1];by_cases c2:b1<128∨191<b1
  ·rw[if_neg (by omega),if_neg (by omega),if_neg (by omega)] at hD;rw[if_pos c2,badd hD (by omega)]
  rw[if_neg c2];by_cases c3:b2<128∨191<b2
  ·rw[if_neg (by omega),if_neg (by omega),if_neg (by omega)] at hD;rw[if_pos c3,badd hD (by omega)]
  rw[if_neg c3];by_cases c3':b3<128∨191<b3
  ·rw[if_neg (by omega),if_neg (by omega),if_neg (by omega)] at hD;rw[if_pos c3',badd hD (by omega)]
  rw[if_neg c3'];rw[if_neg (by omega),if_neg (by omega)] at hD;have hv:(64*(64*(64*((b0:Int)-240)+b1-128)+b2-128)+b3-128)=(((b0-240)*262144+(b1-128)*4096+(b2-128)*64+(b3-128):Nat):Int):=by omega
  show (if _ then _ else _)=_;rw[hv];by_cases k4:b0<248
  ·rw[if_pos (by omega)] at hD;have hm:b0 % 8*262144+b1 % 64*4096+b2 % 64*64+b3 % 64=(b0-240)*262144+(b1-128)*4096+(b2-128)*64+(b3-128):=by omega
   rw[hm] at hD;obtain ⟨N,hN⟩:∃ N,N=(b0-240)*262144+(b1-128)*4096+(b2-128)*64+(b3-128):=⟨_,rfl⟩;rw[← hN] at hD ⊢;by_cases c4:65536≤N∧(0≤(N:Int)∧(N:Int)<55296∨57344≤(N:Int)∧(N:Int)≤1114111)
   ·rw[if_pos c4] at hD;have h5:=four (N:Int) (by omega);rw[good N 4 hD (by omega),if_pos (And.intro (by omega) h5)];exact Prod.ext rfl rfl
   ·rw[if_neg c4] at hD;rw[badd hD (by omega),if_neg];intro hh;by_cases c5:N<128
    ·have:=small (N:Int) (by omega); omega
    by_cases c6:N<2048
    ·have:=two (N:Int) (by omega) (by omega); omega
    by_cases c7:N<65536
    ·have:=three (N:Int) (by omega) (by omega); omega
    ·omega
  ·rw[if_neg (by omega)] at hD;rw[badd hD (by omega),if_neg];intro hh;omega
def zaer (t:List UInt8) (s:Spot):Prop:=t.length≤4000∧0≤s.at_∧s.at_≤t.length∧1≤s.line∧s.line≤s.at_+1∧1≤s.col∧s.col≤s.at_+1
noncomputable def zaaq (t:List UInt8) (l:List Spot) (s:Spot):List Spot×Spot:=Sp.spotsFrom t (t.length-s.at_.toNat) l s
namespace Sp
theorem dl_pos (l:List UInt8) (h:0<l.length):1≤(dl l).2∧(dl l).2≤4∧(dl l).2≤l.length:=by
 unfold dl ct;simp only[Bool.and_eq_true,decide_eq_true_eq];repeat' split
 all_goals simp only
 all_goals omega
theorem ansA_ok (n b0 b1 b2 b3:Nat) (h:b0<256):ansA n b0 b1 b2 b3=(0,0)∨(isRune (ansA n b0 b1 b2 b3).1=true∧long (ansA n b0 b1 b2 b3).1=(ansA n b0 b1 b2 b3).2):=by
 unfold ansA;simp only;by_cases a1:240≤b0
 ·rw[if_pos a1];repeat' split
  all_goals first|exact .inl rfl|(rename_i hc; exact .inr ⟨by simpa only[isRune,decide_eq_true_eq] using hc.1,hc.2⟩)
 rw[if_neg a1];by_cases a2:224≤b0
 ·rw[if_pos a2];repeat' split
  all_goals first|exact .inl rfl|(rename_i hc; exact .inr ⟨by simpa only[isRune,decide_eq_true_eq] using hc.1,hc.2⟩)
 rw[if_neg a2];by_cases a3:192≤b0
 ·rw[if_pos a3];repeat' split
  all_goals first|exact .inl rfl|(rename_i hc; exact .inr ⟨by simpa only[isRune,decide_eq_true_eq] using hc.1,hc.2⟩)
 rw[if_neg a3];by_cases a4:128≤b0
 ·rw[if_pos a4]; exact .inl rfl
 rw[if_neg a4];exact .inr ⟨by simp only[isRune,decide_eq_true_eq]; omega,by unfold long; rw[if_pos (by omega)]⟩
theorem good_at {t:List UInt8} {p:Int} (hp:0≤p) (h:p<t.length) (hb:bad t p.toNat=false):isRune (at1 t p)=true∧long (at1 t p)=at2 t p∧1≤at2 t p∧at2 t p≤4∧p+at2 t p≤t.length ∧
  at1 t p=(dc t p.toNat).1∧at2 t p=(dc t p.toNat).2:=by
 have hl:0<(t.drop p.toNat).length:=by simp; omega
 obtain ⟨h1,h2,h3⟩:=dl_pos _ hl;have h4:=zans _ hl;rw[← bad_eq,hb,← dc_eq] at h4;rw[← dc_eq] at h1 h2 h3;have hlen:((t.drop p.toNat).length:Int)=t.length-p:=by simp; omega
 unfold at1 at2;rw[hb];simp only[Bool.false_eq_true,if_false] at h4 ⊢;rcases ansA_ok (t.drop p.toNat).length (by_ (t.drop p.toNat) 0) (by_ (t.drop p.toNat) 1) (by_ (t.drop p.toNat) 2) (by_ (t.drop p.toNat) 3) ((t.drop p.toNat).getD 0 0).toNat_lt with h5|⟨h5,h6⟩
 ·rw[h4] at h5;simp only[Prod.mk.injEq] at h5;omega
 ·rw[h4] at h5 h6;exact ⟨h5,h6,by omega,by omega,by omega,by simp⟩
theorem bad_at {t:List UInt8} {p:Int} (hb:bad t p.toNat=true):at1 t p=0∧at2 t p=0:=by
 unfold at1 at2;simp[hb]
theorem fuel (t:List UInt8):∀ (n m:Nat) (l:List Spot) (s:Spot),0≤s.at_→t.length-s.at_.toNat≤n→t.length-s.at_.toNat≤m→spotsFrom t n l s=spotsFrom t m l s:=by
 intro n;induction n with
 |zero=>
  intro m l s h0 h1 h2;have hc:¬ s.at_<t.length:=by omega
  cases m with
  |zero=>rfl
  |succ m=>simp only[spotsFrom,if_neg hc]
 |succ n ih=>
  intro m l s h0 h1 h2;by_cases hc:s.at_<t.length
  ·cases m with
   |zero=>omega
   |succ m=>
    simp only[spotsFrom,if_pos hc];cases hb:bad t s.at_.toNat with
    |true=>rfl
    |false=>
     simp only[Bool.false_eq_true,if_false];obtain ⟨g1,g2,g3,g4,g5,_⟩:=good_at h0 hc hb;have ha:∀ x:Spot,(on x (at1 t s.at_) (at2 t s.at_)).at_=x.at_+at2 t s.at_:=fun x=>by unfold on; split<;>rfl
     refine ih m _ _ ?_ ?_ ?_<;>rw[ha]<;>simp only<;>omega
  ·cases m with
   |zero=>simp only[spotsFrom,if_neg hc]
   |succ m=>simp only[spotsFrom,if_neg hc]
end Sp
theorem zafz {t:List UInt8} {l:List Spot} {s:Spot} (h:¬ s.at_<t.length):zaaq t l s=(l,s):=by
 unfold zaaq;cases t.length-s.at_.toNat with
 |zero=>rfl
 |succ n=>simp only[Sp.spotsFrom,if_neg h]
theorem zak7 {t:List UInt8} {l:List Spot} {s:Spot} (hb:Sp.bad t s.at_.toNat=true):zaaq t l s=(l,s):=by
 unfold zaaq;cases t.length-s.at_.toNat with
 |zero=>rfl
 |succ n=>simp only[Sp.spotsFrom,hb,if_true]; split<;>rfl
def here (t:List UInt8) (s:Spot):Spot:=⟨Sp.at1 t s.at_,s.at_,s.line,s.col⟩
def after (t:List UInt8) (s:Spot):Spot:=Sp.on (here t s) (Sp.at1 t s.at_) (Sp.at2 t s.at_)
theorem zaku (t:List UInt8) (s:Spot):(after t s).at_=s.at_+Sp.at2 t s.at_:=by
 unfold after Sp.on here;split<;>rfl
theorem zaj4 {t:List UInt8} {l:List Spot} {s:Spot} (h0:0≤s.at_) (h:s.at_<t.length) (hb:Sp.bad t s.at_.toNat=false):zaaq t l s=zaaq t (l++[here t s]) (after t s):=by
 unfold zaaq;obtain ⟨n,hn⟩:∃ n,t.length-s.at_.toNat=n+1:=⟨t.length-s.at_.toNat-1,by omega⟩;obtain ⟨g1,g2,g3,g4,g5,_⟩:=Sp.good_at h0 h hb;rw[hn];simp only[Sp.spotsFrom,if_pos h,hb,Bool.false_eq_true,if_false];have ha:=zaku t s;exact Sp.fuel t _ _ _ _ (by unfold after here at ha; omega) (by unfold after here at ha; omega) (Nat.le_refl _)
theorem zair {t:List UInt8} {s:Spot} (h:zaer t s) (hlt:s.at_<t.length) (hb:Sp.bad t s.at_.toNat=false):zaer t (after t s):=by
 obtain ⟨h1,h2,h3,h4,h5,h6,h7⟩:=h;obtain ⟨g1,g2,g3,g4,g5,_⟩:=Sp.good_at h2 hlt hb;unfold zaer after Sp.on here;split<;>simp only<;>omega
theorem zasp (t:List UInt8):∀ (n:Nat) (l:List Spot) (s s':Spot),Sp.ended s=Sp.ended s'→(Sp.spotsFrom t n l s).1=(Sp.spotsFrom t n l s').1∧Sp.ended (Sp.spotsFrom t n l s).2=Sp.ended (Sp.spotsFrom t n l s').2:=by
 intro n l s s' h;obtain ⟨r,a,b,c⟩:=s;obtain ⟨r',a',b',c'⟩:=s';simp only[Sp.ended,Spot.mk.injEq,true_and] at h;obtain ⟨rfl,rfl,rfl⟩:=h;cases n with
 |zero=>exact ⟨rfl,rfl⟩
 |succ n=>
  simp only[Sp.spotsFrom];split
  ·split
   ·exact ⟨rfl,rfl⟩
   ·exact ⟨rfl,rfl⟩
  ·exact ⟨rfl,rfl⟩
theorem zamp (t:List UInt8) (l:List Spot) (r r' a b c:Int):(zaaq t l ⟨r,a,b,c⟩).1=(zaaq t l ⟨r',a,b,c⟩).1∧(zaaq t l ⟨r,a,b,c⟩).2.at_=(zaaq t l ⟨r',a,b,c⟩).2.at_ ∧
  (zaaq t l ⟨r,a,b,c⟩).2.line=(zaaq t l ⟨r',a,b,c⟩).2.line∧(zaaq t l ⟨r,a,b,c⟩).2.col=(zaaq t l ⟨r',a,b,c⟩).2.col:=by
 have:=zasp t (t.length-a.toNat) l ⟨r,a,b,c⟩ ⟨r',a,b,c⟩ rfl;unfold zaaq;obtain ⟨h1,h2⟩:=this;simp only[Sp.ended,Spot.mk.injEq,true_and] at h2;exact ⟨h1,h2.1,h2.2.1,h2.2.2⟩
end Lift.A1P
namespace Lift.A1P
open Go Go.RowKit Lift Go.IntWalk Lift.Fn
theorem zaga {a b:Bool} (h:a=true↔b=true):some a=some b:=by rw[Bool.eq_iff_iff.2 h]
theorem zanw (r:Int):qaZ r=some (Sp.digit r):=by
 rw[qaZ,zaaa];unfold qaZ_f;simp only[cond_eq_ite];split;all_goals refine zaga ?_
 all_goals simp only[Sp.digit,decide_eq_true_eq,decide_eq_false_iff_not,Bool.false_eq_true,false_iff,Bool.not_eq_true] at *
 all_goals omega
theorem zasg (r:Int):qaY r=some (Sp.blank r):=by
 rw[qaY,zaaa];unfold qaY_f;simp only[cond_eq_ite];repeat' split
 all_goals refine zaga ?_
 all_goals simp only[Sp.blank,beq_iff_eq,decide_eq_true_eq,decide_eq_false_iff_not,Bool.false_eq_true,false_iff,true_iff,Bool.not_eq_true] at *
 all_goals omega
theorem zau0 (r:Int):qaH r=some (Sp.blank r):=by
 rw[← zasg,qaH,qaY,zaaa,zaaa];rfl
theorem zauz (r:Int):qbd r=some (Sp.isRune r):=by
 rw[qbd,zaaa];unfold qbd_f;simp only[cond_eq_ite];repeat' split
 all_goals refine zaga ?_
 all_goals simp only[Sp.isRune,beq_iff_eq,decide_eq_true_eq,decide_eq_false_iff_not,Bool.false_eq_true,false_iff,true_iff,Bool.not_eq_true] at *
 all_goals omega
theorem zavq (r:Int):qa3 r=some (Sp.isRune r):=by
 rw[qa3,zaaa];unfold qa3_f;simp only[cond_eq_ite];repeat' split
 ·simp only[decide_eq_true_eq] at *;rw[zauz,i32_in r (by omega)];rfl
 all_goals refine zaga ?_
 all_goals simp only[Sp.isRune,beq_iff_eq,decide_eq_true_eq,decide_eq_false_iff_not,Bool.false_eq_true,false_iff,true_iff,Bool.not_eq_true] at *
 all_goals omega
theorem zapy (r:Int):qaJ r=some (Sp.isRune r):=by
 rw[qaJ,zaaa];unfold qaJ_f;simp only[cond_eq_ite];repeat' split
 all_goals refine zaga ?_
 all_goals simp only[Sp.isRune,beq_iff_eq,decide_eq_true_eq,decide_eq_false_iff_not,Bool.false_eq_true,false_iff,true_iff,Bool.not_eq_true] at *
 all_goals omega
theorem zat8 (r:Int):qa0 r=some (Sp.letter r):=by
 rw[qa0,zaaa];unfold qa0_f;simp only[cond_eq_ite,zavq,Option.bind_some];repeat' split
 all_goals refine zaga ?_
 all_goals simp only[Sp.letter,Sp.isRune,beq_iff_eq,Bool.and_eq_true,decide_eq_true_eq,decide_eq_false_iff_not,Bool.false_eq_true,false_iff,true_iff,Bool.not_eq_true] at *
 all_goals omega
theorem long2 (r:Int):qaM r=some (Sp.long r):=by
 rw[qaM,zaaa];unfold qaM_f Sp.long;simp only[cond_eq_ite,decide_eq_true_eq];repeat' split
 all_goals rfl
theorem len1 (r:Int) (h:Sp.isRune r=true):qbc r=some (Sp.long r):=by
 simp only[Sp.isRune,decide_eq_true_eq] at h;rw[qbc,zaaa];unfold qbc_f Sp.long;simp only[cond_eq_ite,decide_eq_true_eq];repeat' split
 all_goals first|rfl|omega
theorem atLq (t:List UInt8) (p:Int) (m:Int) (hp:0≤p) (hm:p+m≤t.length) (ht:t.length≤4000) (h4:m≤4):∀ (k n:Nat) (r i:Int),1≤i→(m-i).toNat=k→i≤m→k<n→0≤r→r<64 ^ (i.toNat)*64 →
  qaG_i18 n t p m r i=some (match Sp.cont t p k r i with|none=>.inl (0,0)|some x=>.inr (m,x)):=by
 intro k;induction k with
 |zero=>
  intro n r i h1 hk him hn h0 hr;obtain ⟨n,rfl⟩:∃ q,n=q+1:=⟨n-1,by omega⟩;have c:¬ i<m:=by omega
  simp only[qaG_i18,qaG_t18,c,decide_false,cond_false,Sp.cont]
 |succ k ih=>
  intro n r i h1 hk him hn h0 hr;obtain ⟨n,rfl⟩:∃ q,n=q+1:=⟨n-1,by omega⟩;have c:i<m:=by omega
  have hi:i=1∨i=2∨i=3:=by omega
  have hr':r≤64*64*64*64:=by
   rcases hi with rfl|rfl|rfl<;>simp at hr<;>omega
  have hlt:(p+i).toNat<t.length:=by omega
  have h0':0≤p+i:=by omega
  simp only[qaG_i18,qaG_t18,Sp.cont];rw[i64_in (p+i) (by omega)];simp only[c,h0',decide_true,cond_true,List.getElem?_eq_getElem hlt,Option.bind_some];generalize t[(p+i).toNat]=d;have hb:d.toNat<256:=d.toNat_lt;rw[i64_in (d.toNat:Int) (by omega)];by_cases c1:d.toNat<128
  ·have:((d.toNat:Int)<128):=by omega
   simp only[c1,this,true_or,if_true,decide_true,cond_true]
  ·by_cases c2:191<d.toNat
   ·have e1:¬ ((d.toNat:Int)<128):=by omega
    have e2:((d.toNat:Int)>191):=by omega
    simp only[c2,e1,e2,or_true,if_true,decide_true,decide_false,cond_true,cond_false]
   ·have e1:¬ ((d.toNat:Int)<128):=by omega
    have e2:¬ ((d.toNat:Int)>191):=by omega
    simp only[c1,c2,e1,e2,or_self,if_false,decide_false,cond_false];rw[i64_in (64*r) (by omega),i64_in (64*r+d.toNat) (by omega),i64_in (64*r+d.toNat-128) (by omega),i64_in (i+1) (by omega)];refine ih n _ _ (by omega) (by omega) (by omega) (by omega) (by omega) ?_;rcases hi with rfl|rfl|rfl<;>simp at hr ⊢<;>omega
theorem atLq' (t:List UInt8) (p m r:Int) (hp:0≤p) (hm:p+m≤t.length) (ht:t.length≤4000) (h4:m≤4) (h1:1≤m) (h0:0≤r) (hr:r≤255) :
  qaG_l18 t p m r 1=some (match Sp.cont t p (m-1).toNat r 1 with|none=>.inl (0,0)|some x=>.inr (m,x)):=by
 rw[qaG_l18,zaaa];exact atLq t p m hp hm ht h4 _ fuel _ _ (by omega) rfl h1 (by unfold fuel; omega) h0 (by simp; omega)
theorem at2_ (t:List UInt8) (p:Int) (hp:0≤p) (h:p<t.length) (h4:t.length≤4000):qaG t p =
  some (Sp.at1 t p,Sp.at2 t p):=by
 have main:qaG t p=some (ansA (t.drop p.toNat).length (Sp.by_ (t.drop p.toNat) 0) (Sp.by_ (t.drop p.toNat) 1) (Sp.by_ (t.drop p.toNat) 2) (Sp.by_ (t.drop p.toNat) 3)):=by
  obtain ⟨x,h1,h2⟩:=Sp.get_by (t:=t) (j:=0) hp (by omega);have hb:x.toNat<256:=x.toNat_lt;have hl:((t.drop p.toNat).length:Int)=t.length-p:=by simp; omega
  rw[show p+(0:Nat)=p by omega] at h1;have h1':t[Int.toNat p]? = some x:=h1;rw[qaG,zaaa];unfold qaG_f;rw[h1',i64_in (t.length-p) (by omega)];simp only[Option.bind_some];rw[i64_in (x.toNat:Int) (by omega),i64_in ((x.toNat:Int)-240) (by omega),i64_in ((x.toNat:Int)-224) (by omega),i64_in ((x.toNat:Int)-192) (by omega)];simp only[cond_eq_ite,decide_eq_true_eq,Bool.not_eq_true',bne_iff_ne,ne_eq];rw[if_pos hp]
  have fin : ∀ (c : Option Int) (k : Int) (a : Int × Int), (match c with | none => a = (0, 0) | some r => a = if (0 ≤ r ∧ r ≤ 1114111 ∧ (r < 55296 ∨ r > 57343)) ∧ Sp.long r = k then (r, k) else (0, 0)) →
    ((some (match c with|none=>Sum.inl ((0:Int),(0:Int))|some x=>Sum.inr (k,x)):Option ((Int×Int)⊕(Int×Int))).bind fun y1=>
     match y1 with
     |.inl y2=>some ((Prod.fst y2),(Prod.snd y2))
     |.inr y2=>
      Option.bind (qaJ (Prod.snd y2)) fun y3=>
      if y3=false then
       some (((0:Int)),((0:Int)))
      else
       Option.bind (qaM (Prod.snd y2)) fun y4=>
       if ¬ y4=Prod.fst y2 then
        some (((0:Int)),((0:Int)))
       else
        some ((Prod.snd y2),(Prod.fst y2)))=some a:=by
   intro c k a hh;cases c with
   |none=>simp only at hh; subst hh; rfl
   |some r=>
    simp only at hh;subst hh;simp only[Option.bind_some,zapy,long2,Sp.isRune,decide_eq_false_iff_not];by_cases q1:(0≤r∧r≤1114111∧(r<55296∨r>57343))
    ·by_cases q2:Sp.long r=k
     ·simp only[q1,q2,not_true_eq_false,if_false,true_and,if_true]
     ·simp only[q1,q2,not_true_eq_false,if_false,true_and,not_false_eq_true,if_true]
    ·rw[if_pos q1,if_neg (fun hh=>q1 hh.1)]
  by_cases a1:240≤x.toNat
  ·rw[if_pos (show (x.toNat:Int)≥240 by omega)];by_cases a2:(t.drop p.toNat).length<4
   ·rw[if_pos (show (t.length:Int)-p<4 by omega)];simp only[ansA,← h2,a1,a2,if_true]
   ·rw[if_neg (show ¬ (t.length:Int)-p<4 by omega),atLq' t p 4 _ hp (by omega) h4 (by omega) (by omega) (by omega) (by omega)];refine fin _ _ _ ?_;rw[show ((4:Int)-1).toNat=3 from rfl,Sp.cont3 hp (by omega)];simp only[ansA,← h2,a1,a2,if_true,if_false];by_cases q1:Sp.by_ (t.drop p.toNat) 1<128∨191<Sp.by_ (t.drop p.toNat) 1
    ·simp only[q1,if_true]
    by_cases q2:Sp.by_ (t.drop p.toNat) 2<128∨191<Sp.by_ (t.drop p.toNat) 2
    ·simp only[q1,q2,if_true,if_false]
    by_cases q3:Sp.by_ (t.drop p.toNat) 3<128∨191<Sp.by_ (t.drop p.toNat) 3
    ·simp only[q1,q2,q3,if_true,if_false]
    simp only[q1,q2,q3,if_false]
  ·rw[if_neg (show ¬ (x.toNat:Int)≥240 by omega)];by_cases b1:224≤x.toNat
   ·rw[if_pos (show (x.toNat:Int)≥224 by omega)];by_cases a2:(t.drop p.toNat).length<3
    ·rw[if_pos (show (t.length:Int)-p<3 by omega)];simp only[ansA,← h2,a1,b1,a2,if_true,if_false]
    ·rw[if_neg (show ¬ (t.length:Int)-p<3 by omega),atLq' t p 3 _ hp (by omega) h4 (by omega) (by omega) (by omega) (by omega)];refine fin _ _ _ ?_;rw[show ((3:Int)-1).toNat=2 from rfl,Sp.cont2 hp (by omega)];simp only[ansA,← h2,a1,b1,a2,if_true,if_false];by_cases q1:Sp.by_ (t.drop p.toNat) 1<128∨191<Sp.by_ (t.drop p.toNat) 1
     ·simp only[q1,if_true]
     by_cases q2:Sp.by_ (t.drop p.toNat) 2<128∨191<Sp.by_ (t.drop p.toNat) 2
     ·simp only[q1,q2,if_true,if_false]
     simp only[q1,q2,if_false]
   ·rw[if_neg (show ¬ (x.toNat:Int)≥224 by omega)];by_cases c1:192≤x.toNat
    ·rw[if_pos (show (x.toNat:Int)≥192 by omega)];by_cases a2:(t.drop p.toNat).length<2
     ·rw[if_pos (show (t.length:Int)-p<2 by omega)];simp only[ansA,← h2,a1,b1,c1,a2,if_true,if_false]
     ·rw[if_neg (show ¬ (t.length:Int)-p<2 by omega),atLq' t p 2 _ hp (by omega) h4 (by omega) (by omega) (by omega) (by omega)];refine fin _ _ _ ?_;rw[show ((2:Int)-1).toNat=1 from rfl,Sp.cont1 hp (by omega)];simp only[ansA,← h2,a1,b1,c1,a2,if_true,if_false];by_cases q1:Sp.by_ (t.drop p.toNat) 1<128∨191<Sp.by_ (t.drop p.toNat) 1
      ·simp only[q1,if_true]
      simp only[q1,if_false]
    ·rw[if_neg (show ¬ (x.toNat:Int)≥192 by omega)];by_cases d1:128≤x.toNat
     ·rw[if_pos (show (x.toNat:Int)≥128 by omega)];simp only[ansA,← h2,a1,b1,c1,d1,if_true,if_false]
     ·rw[if_neg (show ¬ (x.toNat:Int)≥128 by omega),if_neg (show ¬ (t.length:Int)-p<1 by omega),atLq' t p 1 _ hp (by omega) h4 (by omega) (by omega) (by omega) (by omega)];refine fin (Sp.cont t p ((1:Int)-1).toNat (x.toNat:Int) 1) 1 _ ?_;have r1:(0≤(x.toNat:Int)∧(x.toNat:Int)≤1114111∧((x.toNat:Int)<55296∨(x.toNat:Int)>57343)):=by omega
      have r2:Sp.long (x.toNat:Int)=1:=by unfold Sp.long; rw[if_pos (by omega)]
      rw[show ((1:Int)-1).toNat=0 from rfl];simp only[Sp.cont,ansA,← h2,a1,b1,c1,d1,if_false];rw[if_pos (And.intro r1 r2)]
 rw[main,zans _ (by simp; omega)];unfold Sp.at1 Sp.at2;rw[Sp.bad_eq,Sp.dc_eq];split<;>rfl
theorem on2 (s:Spot) (r n:Int) (h1:-9000≤s.at_∧s.at_≤9000∧-9000≤s.line∧s.line≤9000∧-9000≤s.col∧s.col≤9000∧0≤n∧n≤4):qaN s r n=some (Sp.on s r n):=by
 rw[qaN,zaaa];unfold qaN_f Sp.on;rw[i64_in (s.at_+n) (by omega),i64_in (s.line+1) (by omega),i64_in (s.col+1) (by omega)];simp only[cond_eq_ite,beq_iff_eq];split<;>rfl
theorem zagw {t:List UInt8} {s:Spot} (h:zaer t s):0≤s.at_∧s.at_≤t.length∧t.length≤4000∧1≤s.line∧s.line≤s.at_+1∧1≤s.col∧s.col≤s.at_+1:=
 ⟨h.2.1,h.2.2.1,h.1,h.2.2.2.1,h.2.2.2.2.1,h.2.2.2.2.2.1,h.2.2.2.2.2.2⟩
theorem zau5 (t:List UInt8) (a1 a2 a3 a4:Int):∀ (k n:Nat) (c1 c2 c3 c4:Int) (l:List Spot),t.length-c2.toNat≤k→k<n→zaer t ⟨c1,c2,c3,c4⟩→(l.length:Int)≤c2 →
  qaO_i3 n t a1 a2 a3 a4 c1 c2 c3 c4 l=some (a1,a2,a3,a4,(zaaq t l ⟨c1,c2,c3,c4⟩).2.rune,(zaaq t l ⟨c1,c2,c3,c4⟩).2.at_,(zaaq t l ⟨c1,c2,c3,c4⟩).2.line,(zaaq t l ⟨c1,c2,c3,c4⟩).2.col,(zaaq t l ⟨c1,c2,c3,c4⟩).1):=by
 intro k;induction k with
 |zero=>
  intro n c1 c2 c3 c4 l hk hn hok hl;obtain ⟨n,rfl⟩:∃ q,n=q+1:=⟨n-1,by omega⟩;have:=zagw hok;simp only at this;have c:¬ c2<t.length:=by omega
  rw[zafz (s:=⟨c1,c2,c3,c4⟩) c];simp only[qaO_i3,qaO_t3,c,decide_false,cond_false]
 |succ k ih=>
  intro n c1 c2 c3 c4 l hk hn hok hl;obtain ⟨n,rfl⟩:∃ q,n=q+1:=⟨n-1,by omega⟩;obtain ⟨h2,h3,h1,h4,h5,h6,h7⟩:=zagw hok;simp only at h2 h3 h4 h5 h6 h7;simp only[qaO_i3,qaO_t3];by_cases c:c2<t.length
  ·rw[at2_ t c2 h2 c h1];simp only[c,decide_true,cond_true,Option.bind_some];cases hb:Sp.bad t c2.toNat with
   |true=>
    have:=(Sp.bad_at hb).2;rw[zak7 (s:=⟨c1,c2,c3,c4⟩) hb];simp only[this,beq_self_eq_true,cond_true]
   |false=>
    obtain ⟨g1,g2,g3,g4,g5,_⟩:=Sp.good_at h2 c hb;have e0:(Sp.at2 t c2==0)=false:=by rw[beq_eq_false_iff_ne]; omega
    rw[zaj4 (s:=⟨c1,c2,c3,c4⟩) h2 c hb];have hk':=zair hok c hb;have haf:=zaku t ⟨c1,c2,c3,c4⟩;simp only at haf;rw[e0,cond_false,on2 _ _ _ (by simp only; omega),cond_eq_ite,if_pos,Option.bind_some]
    ·show qaO_i3 n t a1 a2 a3 a4 (after t ⟨c1,c2,c3,c4⟩).rune (after t ⟨c1,c2,c3,c4⟩).at_ (after t ⟨c1,c2,c3,c4⟩).line (after t ⟨c1,c2,c3,c4⟩).col (l++[here t ⟨c1,c2,c3,c4⟩])=_;refine ih n _ _ _ _ _ ?_ (by omega) hk' ?_
     ·omega
     ·simp only[List.length_append,List.length_cons,List.length_nil];omega
    ·simp only[decide_eq_true_eq,List.length_cons,List.length_nil]; omega
  ·simp only[c,decide_false,cond_false];rw[zafz (s:=⟨c1,c2,c3,c4⟩) c]
theorem zaus (t:List UInt8) (h:t.length≤4000):qaO t=some (Sp.spots2 t,Sp.spots1 t):=by
 rw[qaO,zaaa];unfold qaO_f;rw[qaO_l3,zaaa,zau5 t _ _ _ _ t.length fuel 0 0 1 1 [] (by simp) (by unfold fuel; omega) (by unfold zaer; simp only; omega) (by simp)];rfl
theorem goneL (s:List UInt8) (a1 a2 a3 a4:Int):∀ (k n:Nat) (c2 c3 c4:Int) (pos:Nat) (l:List Spot),s.length-c2.toNat≤k→k<n→zaer s ⟨-1,c2,c3,c4⟩→(l.length:Int)≤c2→(pos:Int)=c2 →
  qa2_i4 n s a1 a2 a3 a4 (-1) c2 c3 c4 s pos l=some (if (zaaq s l ⟨-1,c2,c3,c4⟩).2.at_<s.length then
   .inl (-1,(zaaq s l ⟨-1,c2,c3,c4⟩).2.at_,(zaaq s l ⟨-1,c2,c3,c4⟩).2.line,(zaaq s l ⟨-1,c2,c3,c4⟩).2.col,(zaaq s l ⟨-1,c2,c3,c4⟩).1)
   else .inr (a1,a2,a3,a4,-1,(zaaq s l ⟨-1,c2,c3,c4⟩).2.at_,(zaaq s l ⟨-1,c2,c3,c4⟩).2.line,(zaaq s l ⟨-1,c2,c3,c4⟩).2.col,(zaaq s l ⟨-1,c2,c3,c4⟩).1)):=by
 intro k;induction k with
 |zero=>
  intro n c2 c3 c4 pos l hk hn hok hl hp;obtain ⟨n,rfl⟩:∃ q,n=q+1:=⟨n-1,by omega⟩;have:=zagw hok;simp only at this;have c:¬ c2<s.length:=by omega
  have c':¬ pos<s.length:=by omega
  rw[zafz (s:=⟨-1,c2,c3,c4⟩) c,if_neg c];simp only[qa2_i4,qa2_t4,c',decide_false,cond_false]
 |succ k ih=>
  intro n c2 c3 c4 pos l hk hn hok hl hp;obtain ⟨n,rfl⟩:∃ q,n=q+1:=⟨n-1,by omega⟩;obtain ⟨h2,h3,h1,h4,h5,h6,h7⟩:=zagw hok;simp only at h2 h3 h4 h5 h6 h7;have hq:pos=c2.toNat:=by omega
  simp only[qa2_i4,qa2_t4];by_cases c:c2<s.length
  ·have hlt:pos<s.length:=by omega
   have hdc:Utf8.decode ⟨s.toArray⟩ pos=Sp.dc s c2.toNat:=by rw[hq]; rfl
   rw[hdc];rw[i64_in ((pos:Int)+3) (by omega)];have hmin:(if (pos:Int)+3<(s.length:Int) then (pos:Int)+3 else (s.length:Int))=(min s.length (c2.toNat+3):Nat):=by
    split<;>omega
   rw[hmin];have hslice:List.drop (Int.toNat (pos:Int)) (List.take (Int.toNat ((min s.length (c2.toNat+3):Nat):Int)) s)=(s.take (min s.length (c2.toNat+3))).drop c2.toNat:=by
    rw[Int.toNat_natCast,Int.toNat_natCast,hq]
   rw[hslice];have hbnd:(decide ((0:Int)≤(pos:Int))&&(decide ((pos:Int)≤(min s.length (c2.toNat+3):Nat))&&decide (((min s.length (c2.toNat+3):Nat):Int)≤(s.length:Int))))=true:=by
    simp only[Bool.and_eq_true,decide_eq_true_eq]; omega
   rw[hbnd];have hbad:Sp.bad s c2.toNat=(decide ((Sp.dc s c2.toNat).1=65533)&&!(((s.take (min s.length (c2.toNat+3))).drop c2.toNat)==[239,191,189])):=rfl;simp only[hlt,decide_true,cond_true];cases hb:Sp.bad s c2.toNat with
   |true=>
    rw[hb] at hbad;have hbad:=hbad.symm;simp only[Bool.and_eq_true,decide_eq_true_eq] at hbad;have e1:(((Sp.dc s c2.toNat).1:Int)==65533)=true:=by rw[beq_iff_eq]; omega
    rw[e1,hbad.2];simp only[cond_true];rw[zak7 (s:=⟨-1,c2,c3,c4⟩) hb,if_pos c]
   |false=>
    obtain ⟨g1,g2,g3,g4,g5,g6,g7⟩:=Sp.good_at h2 c hb;rw[zaj4 (s:=⟨-1,c2,c3,c4⟩) h2 c hb];generalize hR:(some (ite ((zaaq s (l++[here s ⟨-1,c2,c3,c4⟩]) (after s ⟨-1,c2,c3,c4⟩)).2.at_<(s.length:Int)) _ _):Option _)=R;have hk':=zair hok c hb;have haf:=zaku s ⟨-1,c2,c3,c4⟩;simp only at haf;have hrune:Sp.isRune ((Sp.dc s c2.toNat).1:Int)=true:=by rw[← g6]; exact g1
    have hlong:Sp.long ((Sp.dc s c2.toNat).1:Int)=Sp.at2 s c2:=by rw[← g6]; exact g2
    have hr:(0:Int)≤(Sp.dc s c2.toNat).1∧((Sp.dc s c2.toNat).1:Int)≤1114111:=by
     simp only[Sp.isRune,decide_eq_true_eq] at hrune; omega
    rw[len1 _ hrune,hlong,Option.bind_some];rw[i64_in ((Sp.dc s c2.toNat).1:Int) (by omega),i64_in (c2+Sp.at2 s c2) (by omega),i64_in (c3+1) (by omega),i64_in (c4+1) (by omega)];have hhere:here s ⟨-1,c2,c3,c4⟩=⟨((Sp.dc s c2.toNat).1:Int),c2,c3,c4⟩:=by unfold here; rw[g6]
    have go:∀ (b3 b4:Int),(after s ⟨-1,c2,c3,c4⟩).line=b3→(after s ⟨-1,c2,c3,c4⟩).col=b4 →
      qa2_i4 n s a1 a2 a3 a4 (-1) (c2+Sp.at2 s c2) b3 b4 s (pos+(Sp.dc s c2.toNat).2) (l++[⟨((Sp.dc s c2.toNat).1:Int),c2,c3,c4⟩]) =
       R:=by
     intro b3 b4 e3 e4;rw[← hR];have hk2:zaer s ⟨-1,c2+Sp.at2 s c2,b3,b4⟩:=by
      obtain ⟨q1,q2,q3,q4,q5,q6,q7⟩:=hk';rw[haf] at q2 q3 q5 q7;rw[e3] at q4 q5;rw[e4] at q6 q7;exact ⟨q1,q2,q3,q4,q5,q6,q7⟩
     have heta:after s ⟨-1,c2,c3,c4⟩=⟨(after s ⟨-1,c2,c3,c4⟩).rune,c2+Sp.at2 s c2,b3,b4⟩:=by
      rw[← haf,← e3,← e4]
     rw[ih n _ _ _ _ _ (by omega) (by omega) hk2 (by simp only[List.length_append,List.length_cons,List.length_nil]; omega) (by omega)];rw[hhere,heta];obtain ⟨y1,y2,y3,y4⟩:=zamp s (l++[⟨((Sp.dc s c2.toNat).1:Int),c2,c3,c4⟩]) (-1) (after s ⟨-1,c2,c3,c4⟩).rune (c2+Sp.at2 s c2) b3 b4;rw[y1,y2,y3,y4]
    have main:(bif decide ((List.length l+List.length [Spot.mk ((Sp.dc s c2.toNat).1:Int) c2 c3 c4])*(32:Nat)≤(140737488355328:Nat)∧List.length l+List.length [Spot.mk ((Sp.dc s c2.toNat).1:Int) c2 c3 c4]≤(9223372036854775807:Nat)) then
       bif ((Sp.dc s c2.toNat).1:Int)==(10:Int) then
        qa2_i4 n s a1 a2 a3 a4 (-1) (c2+Sp.at2 s c2) (c3+1) 1 s (pos+(Sp.dc s c2.toNat).2) (l++[⟨((Sp.dc s c2.toNat).1:Int),c2,c3,c4⟩])
       else
        qa2_i4 n s a1 a2 a3 a4 (-1) (c2+Sp.at2 s c2) c3 (c4+1) s (pos+(Sp.dc s c2.toNat).2) (l++[⟨((Sp.dc s c2.toNat).1:Int),c2,c3,c4⟩])
      else none)=R:=by
     have hlen1:((List.length l+List.length [Spot.mk ((Sp.dc s c2.toNat).1:Int) c2 c3 c4])*(32:Nat)≤(140737488355328:Nat)∧List.length l+List.length [Spot.mk ((Sp.dc s c2.toNat).1:Int) c2 c3 c4]≤(9223372036854775807:Nat)):=by
      simp only[List.length_cons,List.length_nil]; omega
     rw[decide_eq_true hlen1,cond_true];cases e10:(((Sp.dc s c2.toNat).1:Int)==10) with
     |true=>
      have:Sp.at1 s c2=10:=by rw[g6]; exact beq_iff_eq.1 e10
      exact go _ _ (by simp[after,here,Sp.on,this]) (by simp[after,here,Sp.on,this])
     |false=>
      have:¬ Sp.at1 s c2=10:=by rw[g6]; exact beq_eq_false_iff_ne.1 e10
      exact go _ _ (by simp[after,here,Sp.on,this]) (by simp[after,here,Sp.on,this])
    cases e1:(((Sp.dc s c2.toNat).1:Int)==65533) with
    |true=>
     rw[hb] at hbad;have e2:decide ((Sp.dc s c2.toNat).1=65533)=true:=by
      have:=beq_iff_eq.1 e1;rw[decide_eq_true_eq]; omega
     rw[e2,Bool.true_and] at hbad;rw[← hbad];simp only[cond_true,cond_false];exact main
    |false=>
     simp only[cond_false];exact main
  ·have hlt:¬ pos<s.length:=by omega
   simp only[hlt,decide_false,cond_false];rw[zafz (s:=⟨-1,c2,c3,c4⟩) c,if_neg c]
theorem gone1 (t:List UInt8) (h:t.length≤4000):qa2 t=some (Sp.spots2 t,Sp.spots1 t):=by
 have g:zaaq t [] ⟨0,0,1,1⟩=Sp.spotsFrom t t.length [] ⟨0,0,1,1⟩:=rfl;obtain ⟨y1,y2,y3,y4⟩:=zamp t [] (-1) 0 0 1 1;rw[g] at y1 y2 y3 y4;have e2:(⟨-1,(zaaq t [] ⟨-1,0,1,1⟩).2.at_,(zaaq t [] ⟨-1,0,1,1⟩).2.line,(zaaq t [] ⟨-1,0,1,1⟩).2.col⟩:Spot)=Sp.spots2 t:=by
  rw[y2,y3,y4]; rfl
 have e1:(zaaq t [] ⟨-1,0,1,1⟩).1=Sp.spots1 t:=y1;rw[qa2,zaaa];unfold qa2_f;rw[qa2_l4,zaaa,goneL t _ _ _ _ t.length fuel 0 1 1 0 [] (by simp) (by unfold fuel; omega) (by unfold zaer; simp only; omega) (by simp) (by simp),Option.bind_some];split
 ·rename_i y heq;split at heq
  ·cases heq;simp only[e1,e2]
  ·cases heq
 ·rename_i y heq;split at heq
  ·cases heq
  ·cases heq;simp only[e1,e2]
theorem zal6 (t:List UInt8):qaL t=some (Sp.runes2 t,Sp.runes1 t):=by
 rw[qaL,zaaa];unfold qaL_f Sp.runes1 Sp.runes2;simp only[cond_eq_ite,decide_eq_true_eq];by_cases h:4000<t.length
 ·rw[if_pos (show (t.length:Int)>4000 by omega),if_pos h,if_pos h]
 ·rw[if_neg (show ¬ (t.length:Int)>4000 by omega),if_neg h,if_neg h,zaus t (by omega),Option.bind_some];by_cases h2:(Sp.spots2 t).at_<t.length
  ·rw[if_pos h2,if_pos h2,if_pos h2]
  ·rw[if_neg h2,if_neg h2,if_neg h2]
theorem zap0 (t:List UInt8):qa1 t=some (Sp.runes2 t,Sp.runes1 t):=by
 rw[qa1,zaaa];unfold qa1_f Sp.runes1 Sp.runes2;simp only[cond_eq_ite,decide_eq_true_eq];by_cases h:4000<t.length
 ·rw[if_pos (show (t.length:Int)>4000 by omega),if_pos h,if_pos h]
 ·rw[if_neg (show ¬ (t.length:Int)>4000 by omega),if_neg h,if_neg h,gone1 t (by omega),Option.bind_some];by_cases h2:(Sp.spots2 t).at_<t.length
  ·rw[if_pos h2,if_pos h2,if_pos h2]
  ·rw[if_neg h2,if_neg h2,if_neg h2]
end Lift.A1P
namespace Lift.A1P
open Go Go.RowKit Lift Go.IntWalk Lift.Fn
theorem zas2 (l:List Int):(bytesOf l).length=l.length:=by simp[bytesOf]
def encB (r:Int):List UInt8:=bytesOf (Sp.enc r)
def encs (rs:List Int):List UInt8:=rs.flatMap encB
theorem zaam (r:Int) (rs:List Int):encs (r::rs)=encB r++encs rs:=rfl
theorem zaaf (a b:List Int):encs (a++b)=encs a++encs b:=by simp[encs]
theorem zabq (n:Nat) (h:n<256):(UInt8.ofNat n).toNat=n:=by
 simp[UInt8.toNat_ofNat'];omega
theorem zacv (r:Int):(encB r).length=(Sp.long r).toNat:=by
 unfold encB Sp.enc Sp.long;rw[zas2];repeat' split
 all_goals rfl
theorem by0 (a:UInt8) (l:List UInt8):Sp.by_ (a::l) 0=a.toNat:=rfl
theorem by1 (a b:UInt8) (l:List UInt8):Sp.by_ (a::b::l) 1=b.toNat:=rfl
theorem by2 (a b c:UInt8) (l:List UInt8):Sp.by_ (a::b::c::l) 2=c.toNat:=rfl
theorem by3 (a b c d:UInt8) (l:List UInt8):Sp.by_ (a::b::c::d::l) 3=d.toNat:=rfl
theorem zajg {l:List UInt8} {r k:Nat} (h:Sp.dl l=(r,k)) (h2:r≠65533∨(3≤l.length∧Sp.by_ l 0=239∧Sp.by_ l 1=191∧Sp.by_ l 2=189)):Sp.badl l=false:=by
 unfold Sp.badl;rw[h,Sp.take3];rcases h2 with h2|h2
 ·simp[h2]
 ·simp[h2]
theorem zak3 (r:Int) (rest:List UInt8) (h:Sp.isRune r=true):Sp.dl (encB r++rest)=(r.toNat,(Sp.long r).toNat)∧Sp.badl (encB r++rest)=false:=by
 simp only[Sp.isRune,decide_eq_true_eq] at h;by_cases a1:r<128
 ·have e:encB r++rest=UInt8.ofNat r.toNat::rest:=by simp[encB,bytesOf,Sp.enc,a1]
  have hl:(Sp.long r).toNat=1:=by unfold Sp.long; rw[if_pos a1]; rfl
  rw[e,hl];have hd:Sp.dl (UInt8.ofNat r.toNat::rest)=(r.toNat,1):=by
   unfold Sp.dl;rw[by0,zabq _ (by omega),if_pos (by omega)]
  exact ⟨hd,zajg hd (.inl (by omega))⟩
 by_cases a2:r<2048
 ·have e:encB r++rest=UInt8.ofNat (192+r.toNat / 64)::UInt8.ofNat (128+r.toNat % 64)::rest:=by
   unfold encB Sp.enc bytesOf;rw[if_neg a1,if_pos a2];simp only[List.map_cons,List.map_nil,List.cons_append,List.nil_append];rw[show (192+r / 64).toNat=192+r.toNat / 64 by omega,show (128+r % 64).toNat=128+r.toNat % 64 by omega]
  have hl:(Sp.long r).toNat=2:=by unfold Sp.long; rw[if_neg a1,if_pos a2]; rfl
  rw[e,hl];have hd:Sp.dl (UInt8.ofNat (192+r.toNat / 64)::UInt8.ofNat (128+r.toNat % 64)::rest)=(r.toNat,2):=by
   unfold Sp.dl Sp.ct;rw[by0,by1,zabq _ (by omega),zabq _ (by omega)];simp only[List.length_cons,Bool.and_eq_true,decide_eq_true_eq,beq_iff_eq];rw[if_neg (by omega),if_pos (by omega),if_pos (by omega)];rw[show (192+r.toNat / 64) % 32*64+(128+r.toNat % 64) % 64=r.toNat by omega]
  exact ⟨hd,zajg hd (.inl (by omega))⟩
 by_cases a3:r<65536
 ·have e:encB r++rest=UInt8.ofNat (224+r.toNat / 4096)::UInt8.ofNat (128+r.toNat / 64 % 64)::UInt8.ofNat (128+r.toNat % 64)::rest:=by
   unfold encB Sp.enc bytesOf;rw[if_neg a1,if_neg a2,if_pos a3];simp only[List.map_cons,List.map_nil,List.cons_append,List.nil_append];rw[show (224+r / 4096).toNat=224+r.toNat / 4096 by omega,show (128+r / 64 % 64).toNat=128+r.toNat / 64 % 64 by omega,show (128+r % 64).toNat=128+r.toNat % 64 by omega]
  have hl:(Sp.long r).toNat=3:=by unfold Sp.long; rw[if_neg a1,if_neg a2,if_pos a3]; rfl
  rw[e,hl];have hd:Sp.dl (UInt8.ofNat (224+r.toNat / 4096)::UInt8.ofNat (128+r.toNat / 64 % 64)::UInt8.ofNat (128+r.toNat % 64)::rest)=(r.toNat,3):=by
   unfold Sp.dl Sp.ct;rw[by0,by1,by2,zabq _ (by omega),zabq _ (by omega),zabq _ (by omega)];simp only[List.length_cons,Bool.and_eq_true,decide_eq_true_eq,beq_iff_eq,zagx,ge_iff_le];have hv:(224+r.toNat / 4096) % 16*4096+(128+r.toNat / 64 % 64) % 64*64+(128+r.toNat % 64) % 64=r.toNat:=by omega
   rw[hv,if_neg (by omega),if_neg (by omega),if_pos (by omega),if_pos (by omega)]
  refine ⟨hd,zajg hd ?_⟩;simp only[List.length_cons,by0,by1,by2];rw[zabq _ (by omega),zabq _ (by omega),zabq _ (by omega)];omega
 ·have e:encB r++rest=UInt8.ofNat (240+r.toNat / 262144)::UInt8.ofNat (128+r.toNat / 4096 % 64)::UInt8.ofNat (128+r.toNat / 64 % 64)::UInt8.ofNat (128+r.toNat % 64)::rest:=by
   unfold encB Sp.enc bytesOf;rw[if_neg a1,if_neg a2,if_neg a3];simp only[List.map_cons,List.map_nil,List.cons_append,List.nil_append];rw[show (240+r / 262144).toNat=240+r.toNat / 262144 by omega,show (128+r / 4096 % 64).toNat=128+r.toNat / 4096 % 64 by omega,show (128+r / 64 % 64).toNat=128+r.toNat / 64 % 64 by omega,show (128+r % 64).toNat=128+r.toNat % 64 by omega]
  have hl:(Sp.long r).toNat=4:=by unfold Sp.long; rw[if_neg a1,if_neg a2,if_neg a3]; rfl
  rw[e,hl];have hd:Sp.dl (UInt8.ofNat (240+r.toNat / 262144)::UInt8.ofNat (128+r.toNat / 4096 % 64)::UInt8.ofNat (128+r.toNat / 64 % 64)::UInt8.ofNat (128+r.toNat % 64)::rest)=(r.toNat,4):=by
   unfold Sp.dl Sp.ct;rw[by0,by1,by2,by3,zabq _ (by omega),zabq _ (by omega),zabq _ (by omega),zabq _ (by omega)];simp only[List.length_cons,Bool.and_eq_true,decide_eq_true_eq,beq_iff_eq,zagx,ge_iff_le];have hv:(240+r.toNat / 262144) % 8*262144+(128+r.toNat / 4096 % 64) % 64*4096+(128+r.toNat / 64 % 64) % 64*64+(128+r.toNat % 64) % 64=r.toNat:=by omega
   rw[hv,if_neg (by omega),if_neg (by omega),if_neg (by omega),if_pos (by omega),if_pos (by omega)]
  exact ⟨hd,zajg hd (.inl (by omega))⟩
theorem zacj {n:Int} {a:UInt8} (h:n.toNat=a.toNat):UInt8.ofNat n.toNat=a:=by
 rw[h]; simp
theorem zau8 {l:List UInt8} (h:1<l.length):∃ a b r,l=a::b::r:=by
 match l,h with
 |a::b::r,_=>exact ⟨a,b,r,rfl⟩
theorem zas5 {l:List UInt8} (h:2<l.length):∃ a b c r,l=a::b::c::r:=by
 match l,h with
 |a::b::c::r,_=>exact ⟨a,b,c,r,rfl⟩
theorem zaua {l:List UInt8} (h:3<l.length):∃ a b c d r,l=a::b::c::d::r:=by
 match l,h with
 |a::b::c::d::r,_=>exact ⟨a,b,c,d,r,rfl⟩
theorem zas6 (l:List UInt8) (hl:l≠[]) (hb:Sp.badl l=false):Sp.isRune ((Sp.dl l).1:Int)=true∧∃ rest,l=encB ((Sp.dl l).1:Int)++rest:=by
 have hlen:0<l.length:=by cases l with|nil=>exact absurd rfl hl|cons _ _=>simp
 have hr:Sp.isRune ((Sp.dl l).1:Int)=true:=by
  have h4:=zans _ hlen;obtain ⟨h1,h2,h3⟩:=Sp.dl_pos _ hlen;rw[hb] at h4;simp only[Bool.false_eq_true,if_false] at h4;rcases Sp.ansA_ok l.length (Sp.by_ l 0) (Sp.by_ l 1) (Sp.by_ l 2) (Sp.by_ l 3) (l.getD 0 0).toNat_lt with h5|⟨h5,h6⟩
  ·rw[h4] at h5;simp only[Prod.mk.injEq] at h5;omega
  ·rw[h4] at h5;exact h5
 refine ⟨hr,?_⟩;have hg:¬ ((Sp.dl l).1=65533∧¬ (3≤l.length∧Sp.by_ l 0=239∧Sp.by_ l 1=191∧Sp.by_ l 2=189)):=by
  unfold Sp.badl at hb;rw[Sp.take3] at hb;intro hh;simp[hh.1] at hb;exact hh.2 hb
 obtain ⟨D,hD⟩:∃ D,D=Sp.dl l:=⟨_,rfl⟩;rw[← hD] at hg ⊢;unfold Sp.dl Sp.ct at hD;simp only[Bool.and_eq_true,decide_eq_true_eq,beq_iff_eq,zagx,ge_iff_le] at hD;have hb0:Sp.by_ l 0<256:=(l.getD 0 0).toNat_lt;have hb1:Sp.by_ l 1<256:=(l.getD 1 0).toNat_lt;have hb2:Sp.by_ l 2<256:=(l.getD 2 0).toNat_lt;have hb3:Sp.by_ l 3<256:=(l.getD 3 0).toNat_lt;by_cases k0:Sp.by_ l 0<128
 ·rw[if_pos k0] at hD;rw[hD];match l,hlen with
  |a::l,_=>
   rw[by0] at *;refine ⟨l,?_⟩;unfold encB Sp.enc bytesOf;rw[if_pos (by simp only; omega)];simp
 rw[if_neg k0] at hD;by_cases k1:Sp.by_ l 0 / 32=6∧1<l.length∧Sp.by_ l 1 / 64=2
 ·rw[if_pos k1] at hD;by_cases k2:128≤Sp.by_ l 0 % 32*64+Sp.by_ l 1 % 64
  ·rw[if_pos k2] at hD;rw[hD];obtain ⟨a,b,l,rfl⟩:=zau8 k1.2.1
   next=>
    rw[by0,by1] at *;refine ⟨l,?_⟩;unfold encB Sp.enc bytesOf;rw[if_neg (by simp only; omega),if_pos (by simp only; omega)];simp only[List.map_cons,List.map_nil,List.cons_append,List.nil_append];rw[zacj (a:=a) (by omega),zacj (a:=b) (by omega)]
  ·rw[if_neg k2] at hD;rw[hD] at hg;have hg':=Classical.byContradiction fun hh=>hg ⟨rfl,hh⟩
   omega
 rw[if_neg k1] at hD;by_cases k2:(Sp.by_ l 0 / 16=14∧1<l.length∧Sp.by_ l 1 / 64=2)∧2<l.length∧Sp.by_ l 2 / 64=2
 ·rw[if_pos k2] at hD;by_cases k3:2048≤Sp.by_ l 0 % 16*4096+Sp.by_ l 1 % 64*64+Sp.by_ l 2 % 64∧(0≤((Sp.by_ l 0 % 16*4096+Sp.by_ l 1 % 64*64+Sp.by_ l 2 % 64:Nat):Int)∧((Sp.by_ l 0 % 16*4096+Sp.by_ l 1 % 64*64+Sp.by_ l 2 % 64:Nat):Int)<55296∨57344≤((Sp.by_ l 0 % 16*4096+Sp.by_ l 1 % 64*64+Sp.by_ l 2 % 64:Nat):Int)∧((Sp.by_ l 0 % 16*4096+Sp.by_ l 1 % 64*64+Sp.by_ l 2 % 64:Nat):Int)≤1114111)
  ·rw[if_pos k3] at hD;rw[hD];obtain ⟨a,b,c,l,rfl⟩:=zas5 k2.2.1
   next=>
    rw[by0,by1,by2] at *;refine ⟨l,?_⟩;unfold encB Sp.enc bytesOf;rw[if_neg (by simp only; omega),if_neg (by simp only; omega),if_pos (by simp only; omega)];simp only[List.map_cons,List.map_nil,List.cons_append,List.nil_append];rw[zacj (a:=a) (by omega),zacj (a:=b) (by omega),zacj (a:=c) (by omega)]
  ·rw[if_neg k3] at hD;rw[hD] at hg;have hg':=Classical.byContradiction fun hh=>hg ⟨rfl,hh⟩
   omega
 rw[if_neg k2] at hD;by_cases k3:((Sp.by_ l 0 / 8=30∧1<l.length∧Sp.by_ l 1 / 64=2)∧2<l.length∧Sp.by_ l 2 / 64=2)∧3<l.length∧Sp.by_ l 3 / 64=2
 ·rw[if_pos k3] at hD;by_cases k4:65536≤Sp.by_ l 0 % 8*262144+Sp.by_ l 1 % 64*4096+Sp.by_ l 2 % 64*64+Sp.by_ l 3 % 64∧(0≤((Sp.by_ l 0 % 8*262144+Sp.by_ l 1 % 64*4096+Sp.by_ l 2 % 64*64+Sp.by_ l 3 % 64:Nat):Int)∧((Sp.by_ l 0 % 8*262144+Sp.by_ l 1 % 64*4096+Sp.by_ l 2 % 64*64+Sp.by_ l 3 % 64:Nat):Int)<55296∨57344≤((Sp.by_ l 0 % 8*262144+Sp.by_ l 1 % 64*4096+Sp.by_ l 2 % 64*64+Sp.by_ l 3 % 64:Nat):Int)∧((Sp.by_ l 0 % 8*262144+Sp.by_ l 1 % 64*4096+Sp.by_ l 2 % 64*64+Sp.by_ l 3 % 64:Nat):Int)≤1114111)
  ·rw[if_pos k4] at hD;rw[hD];obtain ⟨a,b,c,d,l,rfl⟩:=zaua k3.2.1
   next=>
    rw[by0,by1,by2,by3] at *;refine ⟨l,?_⟩;unfold encB Sp.enc bytesOf;rw[if_neg (by simp only; omega),if_neg (by simp only; omega),if_neg (by simp only; omega)];simp only[List.map_cons,List.map_nil,List.cons_append,List.nil_append];rw[zacj (a:=a) (by omega),zacj (a:=b) (by omega),zacj (a:=c) (by omega),zacj (a:=d) (by omega)]
  ·rw[if_neg k4] at hD;rw[hD] at hg;have hg':=Classical.byContradiction fun hh=>hg ⟨rfl,hh⟩
   omega
 ·rw[if_neg k3] at hD;rw[hD] at hg;have hg':=Classical.byContradiction fun hh=>hg ⟨rfl,hh⟩
  omega
def put:List Int→Spot→List Spot×Spot
 |[],s=>([],s)
 |r::rs,s=>(⟨r,s.at_,s.line,s.col⟩::(put rs (Sp.on ⟨r,s.at_,s.line,s.col⟩ r (Sp.long r))).1,(put rs (Sp.on ⟨r,s.at_,s.line,s.col⟩ r (Sp.long r))).2)
theorem on_at (s:Spot) (r n:Int):(Sp.on s r n).at_=s.at_+n:=by unfold Sp.on; split<;>rfl
theorem zakk : ∀ (rs : List Int) (s : Spot), (put rs s).1.map (·.rune) = rs
 |[],_=>rfl
 |r::rs,s=>by simp only[put,List.map_cons]; rw[zakk rs]
theorem zap6 (rs:List Int) (s:Spot):(put rs s).1.length=rs.length:=by
 have:=congrArg List.length (zakk rs s);simpa using this
theorem zacx (r:Int):1≤Sp.long r:=by unfold Sp.long; (repeat' split)<;>omega
theorem zan3:∀ (rs:List Int) (s:Spot),(put rs s).2.at_=s.at_+(encs rs).length
 |[],s=>by simp[put,encs]
 |r::rs,s=>by
  simp only[put];rw[zan3 rs,on_at,zaam,List.length_append,zacv];have:=zacx r;simp only;omega
theorem zaql:∀ (rs:List Int) (s:Spot) (k:Nat) (x:Spot),(put rs s).1[k]? = some x→x.at_=s.at_+(encs (rs.take k)).length
 |[],s,k,x=>by simp[put]
 |r::rs,s,0,x=>by
  intro h;simp only[put,List.getElem?_cons_zero,Option.some.injEq] at h;subst h;simp[encs]
 |r::rs,s,k+1,x=>by
  intro h;simp only[put,List.getElem?_cons_succ] at h;rw[zaql rs _ k x h,on_at,List.take_succ_cons,zaam,List.length_append,zacv];have:=zacx r;simp only;omega
theorem zani (t:List UInt8):∀ (rs:List Int) (n:Nat) (acc:List Spot) (s:Spot) (rest:List UInt8),rs.all Sp.isRune=true→0≤s.at_→t.drop s.at_.toNat=encs rs++rest→(rest=[]∨Sp.badl rest=true) →
  t.length-s.at_.toNat≤n→Sp.spotsFrom t n acc s=(acc++(put rs s).1,(put rs s).2)
 |[],n,acc,s,rest=>by
  intro _ h0 hd hr hn;simp only[encs,List.flatMap_nil,List.nil_append] at hd;simp only[put,List.append_nil];cases n with
  |zero=>rfl
  |succ n=>
   simp only[Sp.spotsFrom];by_cases hc:s.at_<t.length
   ·rw[if_pos hc];have hne:t.drop s.at_.toNat≠[]:=by
     intro hh;have:=congrArg List.length hh;simp at this;omega
    rcases hr with rfl|hr
    ·exact absurd hd hne
    ·rw[if_pos];rw[Sp.bad_eq,hd];exact hr
   ·rw[if_neg hc]
 |r::rs,n,acc,s,rest=>by
  intro ha h0 hd hr hn;simp only[List.all_cons,Bool.and_eq_true] at ha;rw[zaam,List.append_assoc] at hd;obtain ⟨h1,h2⟩:=zak3 r (encs rs++rest) ha.1;have hlen:=congrArg List.length hd;have hl:=zacx r;have hel:=zacv r;simp only[List.length_drop,List.length_append] at hlen;have hc:s.at_<t.length:=by omega
  have hb:Sp.bad t s.at_.toNat=false:=by rw[Sp.bad_eq,hd]; exact h2
  have hr':0≤r:=by
   have:=ha.1;simp only[Sp.isRune,decide_eq_true_eq] at this;exact this.1
  have e1:Sp.at1 t s.at_=r:=by
   unfold Sp.at1;rw[hb,Sp.dc_eq,hd,h1];simp;omega
  have e2:Sp.at2 t s.at_=Sp.long r:=by
   unfold Sp.at2;rw[hb,Sp.dc_eq,hd,h1];simp;omega
  obtain ⟨n,rfl⟩:∃ m,n=m+1:=⟨n-1,by omega⟩;simp only[Sp.spotsFrom,if_pos hc,hb,Bool.false_eq_true,if_false];rw[e1,e2];have hat:=on_at ⟨r,s.at_,s.line,s.col⟩ r (Sp.long r);simp only at hat;rw[zani t rs n _ _ rest ha.2 (by rw[hat]; omega) ?_ hr (by rw[hat]; omega)]
  ·simp only[put,List.append_assoc,List.cons_append,List.nil_append]
  ·rw[hat,show (s.at_+Sp.long r).toNat=s.at_.toNat+(encB r).length by omega,← List.drop_drop,hd,List.drop_left]
def s0:Spot:=⟨0,0,1,1⟩
theorem zamk (rs:List Int) (rest:List UInt8) (ha:rs.all Sp.isRune=true) (hr:rest=[]∨Sp.badl rest=true):Sp.spots1 (encs rs++rest)=(put rs s0).1∧Sp.spots2 (encs rs++rest)=Sp.ended (put rs s0).2:=by
 have:=zani (encs rs++rest) rs (encs rs++rest).length [] s0 rest ha (by simp[s0]) (by simp[s0]) hr (by omega);unfold Sp.spots1 Sp.spots2;unfold s0 at this ⊢;rw[this];simp
theorem zalk:∀ (n:Nat) (t:List UInt8),t.length≤n→∃ rs rest,t=encs rs++rest∧rs.all Sp.isRune=true∧(rest=[]∨Sp.badl rest=true)
 |0,t,h=>⟨[],[],by cases t<;>simp_all[encs],rfl,.inl rfl⟩
 |n+1,t,h=>by
  by_cases h0:t=[]
  ·exact ⟨[],[],by simp[h0,encs],rfl,.inl rfl⟩
  cases hb:Sp.badl t with
  |true=>exact ⟨[],t,by simp[encs],rfl,.inr hb⟩
  |false=>
   obtain ⟨h1,rest,h2⟩:=zas6 t h0 hb;have hl:=zacv ((Sp.dl t).1:Int);have hp:=zacx ((Sp.dl t).1:Int);have hlen:rest.length≤n:=by
    have:=congrArg List.length h2;rw[List.length_append] at this;omega
   obtain ⟨rs,r2,h3,h4,h5⟩:=zalk n rest hlen;refine ⟨((Sp.dl t).1:Int)::rs,r2,?_,?_,h5⟩
   ·rw[zaam,List.append_assoc,← h3]; exact h2
   ·simp[h1,h4]
theorem zaoe (s:Spot):(Sp.ended s).at_=s.at_:=rfl
theorem zako (rs:List Int) (ha:rs.all Sp.isRune=true) (hl:(encs rs).length≤4000):Sp.runes1 (encs rs)=(put rs s0).1∧Sp.runes2 (encs rs)=⟨0,0,[]⟩:=by
 obtain ⟨h1,h2⟩:=zamk rs [] ha (.inl rfl);rw[List.append_nil] at h1 h2;have h3:=zan3 rs s0;unfold Sp.runes1 Sp.runes2;rw[h1,h2,zaoe,h3];have h5:¬ (s0.at_+((encs rs).length:Int)<(encs rs).length):=by simp[s0]
 have h4:¬ 4000<(encs rs).length:=by omega
 simp only[if_neg h4,if_neg h5,and_self]
theorem zas1 (rs:List Int) (rest:List UInt8) (ha:rs.all Sp.isRune=true) (hne:rest≠[]) (hb:Sp.badl rest=true) (hl:(encs rs++rest).length≤4000):Sp.runes1 (encs rs++rest)=[]∧Sp.runes2 (encs rs++rest)=⟨11,(encs rs).length,[]⟩:=by
 obtain ⟨h1,h2⟩:=zamk rs rest ha (.inr hb);have h3:=zan3 rs s0;have hpos:0<rest.length:=by cases rest with|nil=>exact absurd rfl hne|cons _ _=>simp
 unfold Sp.runes1 Sp.runes2;rw[h2,zaoe,h3];have h5:(s0.at_+((encs rs).length:Int)<(encs rs++rest).length):=by simp[s0]; omega
 have h4:¬ 4000<(encs rs++rest).length:=by omega
 simp only[if_neg h4,if_pos h5];simp[s0]
theorem zaj1 (t:List UInt8):(Sp.runes1 t=[]∧Sp.runes2 t=⟨10,4000,[]⟩) ∨
  (t.length≤4000∧∃ rs rest,t=encs rs++rest∧rs.all Sp.isRune=true∧rest≠[]∧Sp.badl rest=true∧Sp.runes1 t=[]∧Sp.runes2 t=⟨11,(encs rs).length,[]⟩) ∨
  (t.length≤4000∧∃ rs,t=encs rs∧rs.all Sp.isRune=true∧Sp.runes1 t=(put rs s0).1∧Sp.runes2 t=⟨0,0,[]⟩):=by
 by_cases h:4000<t.length
 ·left;unfold Sp.runes1 Sp.runes2;rw[if_pos h,if_pos h];exact ⟨rfl,rfl⟩
 right;obtain ⟨rs,rest,h1,h2,h3⟩:=zalk t.length t (Nat.le_refl _);by_cases h0:rest=[]
 ·right;subst h0;rw[List.append_nil] at h1;subst h1;obtain ⟨q1,q2⟩:=zako rs h2 (by omega);exact ⟨by omega,rs,rfl,h2,q1,q2⟩
 ·left;have hb:Sp.badl rest=true:=by rcases h3 with h3|h3; exact absurd h3 h0; exact h3
  subst h1;obtain ⟨q1,q2⟩:=zas1 rs rest h2 h0 hb (by omega);exact ⟨by omega,rs,rest,rfl,h2,h0,hb,q1,q2⟩
end Lift.A1P
namespace Lift.A1P
open Go Go.RowKit Lift Go.IntWalk Lift.Fn
def goesR (r:Int):Bool:=Sp.letter r||Sp.digit r
theorem goes1 (r:Int) (h:0≤r∧r≤1114111):qai r=some (goesR r):=by
 rw[qai,zaaa];unfold qai_f goesR;rw[i64_in r (by omega),zat8,zanw,Option.bind_some,Option.bind_some];cases Sp.letter r<;>rfl
theorem zado {r:Int} (h:Sp.isRune r=true):0≤r∧r≤1114111:=by
 simp only[Sp.isRune,decide_eq_true_eq] at h;omega
theorem zak0 (t:List UInt8) (p:Nat) (r:Int) (l:List UInt8) (hd:t.drop p=encB r++l) (hr:Sp.isRune r=true):Utf8.decode ⟨t.toArray⟩ p=(r.toNat,(Sp.long r).toNat):=by
 have h1:=Sp.dc_eq t p;unfold Sp.dc at h1;rw[h1,hd];exact (zak3 r l hr).1
theorem zaeg (ds rs:List Int):(encs (ds++rs)).drop (encs ds).length=encs rs:=by
 rw[zaaf,List.drop_left]
theorem zagd (ds rs:List Int) (r:Int):(encs ds).length<(encs (ds++r::rs)).length:=by
 rw[zaaf,zaam,List.length_append,List.length_append,zacv];have:=zacx r;omega
theorem zakl (ds:List Int) (r:Int):(encs (ds++[r])).length=(encs ds).length+(Sp.long r).toNat:=by
 rw[zaaf,zaam,List.length_append,List.length_append,zacv];simp[encs]
theorem wordL:∀ (rs ds:List Int) (n:Nat),rs.all Sp.isRune=true→rs.length<n→(encs (ds++rs)).length≤9000000 →
  qan_i2 n (encs (ds++rs)) (encs (ds++rs)) (encs ds).length=some (if rs.all goesR then .inr (encs (ds++rs)) else .inl (encs (ds++rs.takeWhile goesR)))
 |[],ds,n,_,hn,hl=>by
  obtain ⟨n,rfl⟩:∃ q,n=q+1:=⟨n-1,by simp at hn; omega⟩;simp only[List.append_nil,qan_i2,qan_t2];simp
 |r::rs,ds,n,ha,hn,hl=>by
  obtain ⟨n,rfl⟩:∃ q,n=q+1:=⟨n-1,by simp at hn; omega⟩;simp only[List.all_cons,Bool.and_eq_true] at ha;have hlt:=zagd ds rs r;have hd:Utf8.decode ⟨(encs (ds++r::rs)).toArray⟩ (encs ds).length=(r.toNat,(Sp.long r).toNat):=zak0 _ _ r (encs rs) (by rw[zaeg,zaam]) ha.1;have hr:=zado ha.1;simp only[qan_i2,qan_t2,hd,hlt,decide_true,cond_true];rw[show ((r.toNat:Nat):Int)=r by omega,goes1 r hr,Option.bind_some];cases hg:goesR r with
  |false=>
   have hb:(decide ((0:Int)≤0)&&(decide ((0:Int)≤((encs ds).length:Int))&&decide (((encs ds).length:Int)≤((encs (ds++r::rs)).length:Int))))=true:=by
    simp only[Bool.and_eq_true,decide_eq_true_eq]; omega
   simp only[Bool.not_false,cond_true,hb,List.all_cons,hg,Bool.false_and,Bool.false_eq_true,if_false,List.takeWhile_cons,List.append_nil,List.drop_zero,Int.toNat_natCast];rw[zaaf,List.take_left]
  |true=>
   have ih:=wordL rs (ds++[r]) n ha.2 (by simp at hn; omega) (by simpa using hl);rw[List.append_assoc,List.singleton_append,zakl] at ih;simp only[Bool.not_true,cond_false,ih,List.all_cons,hg,Bool.true_and,List.takeWhile_cons,if_true,List.append_assoc,List.singleton_append]
theorem zano {p:Int→Bool} {l:List Int} (h:l.all p=true):l.takeWhile p=l:=by
 induction l with
 |nil=>rfl
 |cons a l ih=>
  simp only[List.all_cons,Bool.and_eq_true] at h;rw[List.takeWhile_cons,if_pos h.1,ih h.2]
theorem zaa5 (rs:List Int):rs.length≤(encs rs).length:=by
 induction rs with
 |nil=>simp
 |cons r l ih=>
  rw[zaam,List.length_append,zacv,List.length_cons];have:=zacx r;omega
theorem word1 (rs:List Int) (ha:rs.all Sp.isRune=true) (hl:(encs rs).length≤9000000):qan (encs rs)=some (encs (rs.takeWhile goesR)):=by
 rw[qan,zaaa];unfold qan_f;have:=wordL rs [] fuel ha (by have:=zaa5 rs; unfold fuel; omega) (by simpa using hl);simp only[List.nil_append] at this;rw[qan_l2,zaaa,show (0:Nat)=(encs []).length from rfl,this];cases hg:rs.all goesR with
 |true=>simp only[if_true,Option.bind_some,zano hg]
 |false=>simp
def skip:Bool→List Int→List Int
 |_,[]=>[]
 |true,r::rs=>skip (r != 10) rs
 |false,r::rs=>if r=35 then skip true rs else if Sp.blank r then skip false rs else r::rs
theorem zap3:∀ (rs ds:List Int) (c:Bool) (n:Nat),rs.all Sp.isRune=true→rs.length<n →
  qak_i3 n (encs (ds++rs)) c (encs (ds++rs)) (encs ds).length=some (if skip c rs=[] then .inr (encs (ds++rs)) else .inl (((encs (ds++rs)).length:Int)-(encs (skip c rs)).length))
 |[],ds,c,n,_,hn=>by
  obtain ⟨n,rfl⟩:∃ q,n=q+1:=⟨n-1,by simp at hn; omega⟩;simp only[List.append_nil,qak_i3,qak_t3];cases c<;>simp[skip]
 |r::rs,ds,c,n,ha,hn=>by
  obtain ⟨n,rfl⟩:∃ q,n=q+1:=⟨n-1,by simp at hn; omega⟩;simp only[List.all_cons,Bool.and_eq_true] at ha;have hlt:=zagd ds rs r;have hd:Utf8.decode ⟨(encs (ds++r::rs)).toArray⟩ (encs ds).length=(r.toNat,(Sp.long r).toNat):=zak0 _ _ r (encs rs) (by rw[zaeg,zaam]) ha.1;have hr:=zado ha.1;have ih:=fun c=>zap3 rs (ds++[r]) c n ha.2 (by simp at hn; omega)
  simp only[List.append_assoc,List.singleton_append,zakl] at ih;simp only[qak_i3,qak_t3,hd,hlt,decide_true,cond_true];rw[show ((r.toNat:Nat):Int)=r by omega];cases c with
  |true=>
   rw[cond_true,ih];rfl
  |false=>
   rw[cond_false];by_cases h35:r=35
   ·have:(r==35)=true:=by simp[h35]
    rw[this,cond_true,ih];simp only[skip,h35,if_true]
   ·have:(r==35)=false:=by simp[h35]
    rw[this,cond_false,i64_in r (by omega),zasg,Option.bind_some];cases hb:Sp.blank r with
    |true=>
     simp only[Bool.not_true,cond_false,ih,skip,h35,if_false,hb,if_true]
    |false=>
     have hne:skip false (r::rs)=r::rs:=by simp[skip,h35,hb]
     rw[hne];simp only[Bool.not_false,cond_true,if_neg (List.cons_ne_nil r rs)];congr 2;rw[zaaf,List.length_append];omega
theorem zap8 (rs:List Int) (ha:rs.all Sp.isRune=true) (hl:(encs rs).length≤9000000):qak (encs rs)=some (((encs rs).length:Int)-(encs (skip false rs)).length):=by
 rw[qak,zaaa];unfold qak_f;have:=zap3 rs [] false fuel ha (by have:=zaa5 rs; unfold fuel; omega);simp only[List.nil_append] at this;rw[qak_l3,zaaa,show (0:Nat)=(encs []).length from rfl,this];by_cases hs:skip false rs=[]
 ·rw[if_pos hs,hs]; simp[encs]
 ·rw[if_neg hs]; simp
theorem zau9 (l:List (List UInt8)) (x:List UInt8) (hl:l.length≤4000):∀ (k n:Nat) (i:Int),0≤i→l.length-i.toNat≤k→k<n →
  ∃ r,qa5_i2 n l x l.length i=some r∧((l.drop i.toNat).contains x=match r with|.inl j=>decide (0≤j)|.inr _=>false):=by
 intro k;have fin:∀ (n:Nat) (i:Int),0≤i→¬ i<l.length→∃ r,qa5_i2 (n+1) l x l.length i=some r∧((l.drop i.toNat).contains x=match r with|.inl j=>decide (0≤j)|.inr _=>false):=by
  intro n i h0 c;refine ⟨.inr (),?_,?_⟩
  ·simp only[qa5_i2,qa5_t2,c,decide_false,cond_false]
  ·rw[List.drop_eq_nil_of_le (by omega)]; rfl
 induction k with
 |zero=>
  intro n i h0 hk hn;obtain ⟨n,rfl⟩:∃ q,n=q+1:=⟨n-1,by omega⟩;exact fin n i h0 (by omega)
 |succ k ih=>
  intro n i h0 hk hn;obtain ⟨n,rfl⟩:∃ q,n=q+1:=⟨n-1,by omega⟩;by_cases c:i<l.length
  ·have ha:i.toNat<l.length:=by omega
   rw[List.drop_eq_getElem_cons ha];simp only[qa5_i2,qa5_t2,c,h0,decide_true,cond_true,List.getElem?_eq_getElem ha,Option.bind_some,List.contains_cons];cases hx:(x==l[i.toNat]) with
   |true=>exact ⟨.inl i,rfl,by simp[h0]⟩
   |false=>
    rw[i64_in (i+1) (by omega)];obtain ⟨r,h1,h2⟩:=ih n (i+1) (by omega) (by omega) (by omega);refine ⟨r,h1,?_⟩;rw[show (i+1).toNat=i.toNat+1 by omega] at h2;rw[Bool.false_or,h2]
  ·exact fin n i h0 c
theorem zamj (l:List (List UInt8)) (x:List UInt8) (hl:l.length≤4000):qa4 l x=some (l.contains x):=by
 obtain ⟨r,h1,h2⟩:=zau9 l x hl l.length fuel 0 (by omega) (by omega) (by unfold fuel; omega);simp only[Int.toNat_zero,List.drop_zero] at h2;rw[qa4,zaaa];unfold qa4_f;rw[qa5,zaaa];unfold qa5_f;rw[qa5_l2,zaaa,h1,h2];cases r with
 |inl j=>simp
 |inr u=>simp
def ones:List UInt8:=[61,60,62,33,43,45,42,47,37,59,123,125,40,41]
def twos:List (List UInt8):=[[58,61],[60,45],[61,61],[33,61],[60,61],[62,61],[38,38],[124,124]]
def sgn (t:List UInt8):List UInt8:=if 1<t.length∧twos.contains (t.take 2)=true then t.take 2 else if ones.contains (t.headD 0)=true then t.take 1 else []
theorem zato:∀ i:Fin 256,Lib.contains ones [UInt8.ofNat i.val]=ones.contains (UInt8.ofNat i.val):=by decide +kernel
theorem zate (b:UInt8):Lib.contains ones [b]=ones.contains b:=by
 have:=zato ⟨b.toNat,b.toNat_lt⟩;simpa using this
theorem sign1 (b:UInt8) (t:List UInt8) (hl:(b::t).length≤9000000):qal (b::t)=some (sgn (b::t)):=by
 rw[qal,zaaa];unfold qal_f;have ht:List.take 1 (b::t)=[b]:=rfl;have hc:strings_Contains ones [b]=some (ones.contains b):=by
  rw[strings_Contains,zaaa];unfold zadf;rw[decide_eq_true (by decide),cond_true,zate]
 have hc':strings_Contains [61,60,62,33,43,45,42,47,37,59,123,125,40,41] [b]=some (ones.contains b):=hc;have b1:(decide ((0:Int)≤0)&&(decide ((0:Int)≤1)&&decide ((1:Int)≤((b::t).length:Int))))=true:=by
  simp only[Bool.and_eq_true,decide_eq_true_eq,List.length_cons]; omega
 simp only[List.drop_zero,ht,b1,cond_true,hc',Option.bind_some];unfold sgn;by_cases h1:1<(b::t).length
 ·have h1':decide (((b::t).length:Int)>1)=true:=decide_eq_true (by omega);have b2:(decide ((0:Int)≤0)&&(decide ((0:Int)≤2)&&decide ((2:Int)≤((b::t).length:Int))))=true:=by
   simp only[Bool.and_eq_true,decide_eq_true_eq]; omega
  have hc2:=zamj twos ((b::t).take 2) (by decide);have hc2':qa4 [[58,61],[60,45],[61,61],[33,61],[60,61],[62,61],[38,38],[124,124]] ((b::t).take 2)=some (twos.contains ((b::t).take 2)):=hc2;rw[h1',cond_true,b2,cond_true,hc2',Option.bind_some];cases h2:twos.contains ((b::t).take 2) with
  |true=>rw[if_pos ⟨h1,rfl⟩]; rfl
  |false=>
   rw[if_neg (fun hh=>by cases hh.2)];cases h3:ones.contains b with
   |true=>simp only[List.headD_cons,h3,if_true]; rfl
   |false=>simp only[List.headD_cons,h3,Bool.false_eq_true,if_false]; rfl
 ·have h1':decide (((b::t).length:Int)>1)=false:=decide_eq_false (by omega);rw[h1',cond_false,if_neg (fun hh=>h1 hh.1)];cases h3:ones.contains b with
  |true=>simp only[List.headD_cons,h3,if_true]; rfl
  |false=>simp only[List.headD_cons,h3,Bool.false_eq_true,if_false]; rfl
end Lift.A1P
namespace Lift.A1P
open Go Go.RowKit Lift Go.IntWalk Lift.Fn
def tens:List UInt8:=[48,49,50,51,52,53,54,55,56,57]
def numS (t:List UInt8):Int×Bool:=
 if 1<t.length∧(t.headD 0).toNat=48 then (0,false) else if Lib.trimS t tens≠[] then (0,false) else if (zaav t).2=true then ((zaav t).1,false) else ((zaav t).1,decide ((zaav t).1≤2147483647))
theorem zat9 (t:List UInt8) (hl:t.length≤9000000):qaj t=some (numS t):=by
 rw[qaj,zaaa];unfold qaj_f numS;have hT:zacr t [48,49,50,51,52,53,54,55,56,57]=some (Lib.trimS t tens):=by
  rw[zacr,zaaa];unfold zaey;rw[decide_eq_true (show _∧_ by constructor; omega; decide)];rfl
 have hA:zacq t=some (zaav t):=by
  rw[zacq,zaaa];unfold zae6;rw[decide_eq_true (by omega)];rfl
 have rest:(bif !Lib.trimS t tens==[] then some ((0:Int),false) else bif !(zaav t).2 then some ((zaav t).1,decide ((zaav t).1≤2147483647)) else some ((zaav t).1,false)) =
   some (if Lib.trimS t tens≠[] then (0,false) else if (zaav t).2=true then ((zaav t).1,false) else ((zaav t).1,decide ((zaav t).1≤2147483647))):=by
  by_cases h:Lib.trimS t tens=[]
  ·rw[if_neg (fun hh=>hh h),h];cases (zaav t).2<;>rfl
  ·rw[if_pos h];have:(Lib.trimS t tens==[])=false:=by simpa using h
   rw[this]; rfl
 rw[hT,hA];by_cases h1:1<t.length
 ·rw[decide_eq_true (show (t.length:Int)>1 by omega),cond_true];match t,h1 with
  |b::t,h1=>
   simp only[List.getElem?_cons_zero,Option.bind_some];by_cases h2:b.toNat=48
   ·have:(((b.toNat:Nat):Int)==48)=true:=by rw[beq_iff_eq]; omega
    rw[this,cond_true,if_pos (show 1<(b::t).length∧((b::t).headD 0).toNat=48 from ⟨h1,h2⟩)]
   ·have:(((b.toNat:Nat):Int)==48)=false:=by rw[beq_eq_false_iff_ne]; omega
    rw[this,cond_false,if_neg (show ¬ (1<(b::t).length∧((b::t).headD 0).toNat=48) from fun hh=>h2 hh.2)];exact rest
 ·rw[decide_eq_false (show ¬ (t.length:Int)>1 by omega),cond_false,if_neg (show ¬ (1<t.length∧(t.headD 0).toNat=48) from fun hh=>h1 hh.1)];simp only[Option.bind_some];exact rest
theorem zau1:qah=qah_f:=by rw[qah,zaaa]
noncomputable def words:List (List UInt8):=qah_f.getD []
theorem zati:qah=some words:=by rw[zau1]; rfl
theorem zarr:∀ (rs ds:List Int) (n:Nat),rs.all Sp.isRune=true→rs.length≤n→Lib.runeCountFrom ⟨(encs (ds++rs)).toArray⟩ n (encs ds).length=rs.length
 |[],ds,n,_,_=>by
  cases n with
  |zero=>rfl
  |succ n=>simp[Lib.runeCountFrom,ByteArray.size]
 |r::rs,ds,n,ha,hn=>by
  obtain ⟨n,rfl⟩:∃ q,n=q+1:=⟨n-1,by simp at hn; omega⟩;simp only[List.all_cons,Bool.and_eq_true] at ha;have hlt:=zagd ds rs r;have hd:Utf8.decode ⟨(encs (ds++r::rs)).toArray⟩ (encs ds).length=(r.toNat,(Sp.long r).toNat):=zak0 _ _ r (encs rs) (by rw[zaeg,zaam]) ha.1;have ih:=zarr rs (ds++[r]) n ha.2 (by simp at hn; omega);simp only[List.append_assoc,List.singleton_append,zakl] at ih;simp only[Lib.runeCountFrom,hd];rw[if_pos (by simpa [ByteArray.size] using hlt),ih,List.length_cons];omega
theorem zava (rs:List Int) (ha:rs.all Sp.isRune=true) (hl:(encs rs).length≤9000000):zaay (encs rs)=some (rs.length:Int):=by
 rw[zaay,zaaa];unfold zabp Lib.runeCount;rw[decide_eq_true (by omega),cond_true];have:=zarr rs [] (encs rs).length ha (zaa5 rs);simp only[List.nil_append] at this;have hs:(⟨(encs rs).toArray⟩:ByteArray).size=(encs rs).length:=by simp[ByteArray.size]
 rw[hs,show (0:Nat)=(encs []).length from rfl,this]
theorem zat6 (r:Int) (rs:List Int) (hr:Sp.isRune r=true):zaaw (encs (r::rs))=some (r,Sp.long r):=by
 rw[zaaw,zaaa];unfold zabm Lib.decodeGo;have hp:=zacx r;have hs:¬ (⟨(encs (r::rs)).toArray⟩:ByteArray).size=0:=by
  have:=zagd [] rs r;simp only[List.nil_append] at this;simp[ByteArray.size];intro hh;rw[hh] at this;simp at this
 have hd:Utf8.decode ⟨(encs (r::rs)).toArray⟩ 0=(r.toNat,(Sp.long r).toNat):=zak0 _ 0 r (encs rs) (by rw[List.drop_zero,zaam]) hr;have h0:=zado hr;rw[if_neg hs,hd];simp only;rw[show ((r.toNat:Nat):Int)=r by omega,show (((Sp.long r).toNat:Nat):Int)=Sp.long r by omega]
noncomputable def tokR (rs:List Int):Token×Int:=
  bif goesR (rs.headD 0) then
    (bif Sp.digit (rs.headD 0) then (bif (numS (encs (rs.takeWhile goesR))).2 then (⟨2,encs (rs.takeWhile goesR),(numS (encs (rs.takeWhile goesR))).1,0⟩,0) else (⟨1,encs (rs.takeWhile goesR),0,0⟩,22))
     else bif words.contains (encs (rs.takeWhile goesR)) then (⟨4,encs (rs.takeWhile goesR),0,0⟩,0)
     else bif decide (16<(rs.takeWhile goesR).length) then (⟨1,encs (rs.takeWhile goesR),0,0⟩,21) else (⟨1,encs (rs.takeWhile goesR),0,0⟩,0))
  else bif sgn (encs rs)==[] then (⟨0,[],0,0⟩,20) else (⟨3,sgn (encs rs),0,0⟩,0)
theorem zail {p:Int→Bool} {rs:List Int} (ha:rs.all Sp.isRune=true):(rs.takeWhile p).all Sp.isRune=true:=by
 rw[List.all_eq_true] at ha ⊢;intro r hr;exact ha r ((List.takeWhile_sublist _).subset hr)
theorem zao0 (p:Int→Bool) (rs:List Int):(encs (rs.takeWhile p)).length≤(encs rs).length:=by
 have:encs rs=encs (rs.takeWhile p)++encs (rs.dropWhile p):=by rw[← zaaf,List.takeWhile_append_dropWhile]
 rw[this,List.length_append];omega
theorem zau2 (rs:List Int) (hne:rs≠[]) (ha:rs.all Sp.isRune=true) (hl:(encs rs).length≤9000000):qam (encs rs)=some (tokR rs):=by
 match rs,hne with
 |r::rs,_=>
  have ha':=ha;simp only[List.all_cons,Bool.and_eq_true] at ha';have hr:=zado ha'.1;have hw:=word1 (r::rs) ha hl;have hwl:=zao0 goesR (r::rs);rw[qam,zaaa];unfold qam_f tokR;rw[zat6 r rs ha'.1,Option.bind_some];simp only;rw[goes1 r hr,Option.bind_some];simp only[List.headD_cons];cases hg:goesR r with
  |false=>
   obtain ⟨b,t,hbt⟩:∃ b t,encs (r::rs)=b::t:=by
    cases he:encs (r::rs) with
    |nil=>
     have:=zagd [] rs r;simp only[List.nil_append,he] at this;simp[encs] at this
    |cons b t=>exact ⟨b,t,rfl⟩
   have hs:=sign1 b t (by rw[← hbt]; exact hl);rw[← hbt] at hs;simp only[Bool.not_false,cond_true,cond_false,hs,Option.bind_some];cases (sgn (encs (r::rs))==[])<;>rfl
  |true=>
   simp only[Bool.not_true,cond_false,cond_true,hw,Option.bind_some];rw[i64_in r (by omega),zanw,Option.bind_some];cases hd:Sp.digit r with
   |true=>
    rw[cond_true,cond_true,zat9 _ (by omega),Option.bind_some];cases (numS (encs ((r::rs).takeWhile goesR))).2<;>rfl
   |false=>
    rw[cond_false,cond_false,zati,Option.bind_some,zamj _ _ (by decide),Option.bind_some];cases words.contains (encs ((r::rs).takeWhile goesR)) with
    |true=>rfl
    |false=>
     rw[cond_false,cond_false,zava _ (zail ha) (by omega),Option.bind_some];have:decide ((((r::rs).takeWhile goesR).length:Int)>16)=decide (16<((r::rs).takeWhile goesR).length):=by
      rw[Bool.eq_iff_iff,decide_eq_true_eq,decide_eq_true_eq]; omega
     rw[this];cases decide (16<((r::rs).takeWhile goesR).length)<;>rfl
noncomputable def restR (rs:List Int):List Int:=bif goesR (rs.headD 0) then rs.dropWhile goesR else rs.drop (sgn (encs rs)).length
theorem zaev {r:Int} {rs:List Int} {b:UInt8} {t:List UInt8} (hr:Sp.isRune r=true) (h:encs (r::rs)=b::t) (hb:b.toNat<128):encB r=[b]∧t=encs rs:=by
 rw[zaam] at h;simp only[Sp.isRune,decide_eq_true_eq] at hr;by_cases a1:r<128
 ·have e:encB r=[UInt8.ofNat r.toNat]:=by simp[encB,bytesOf,Sp.enc,a1]
  rw[e] at h ⊢;simp only[List.singleton_append,List.cons.injEq] at h;exact ⟨by rw[h.1],h.2.symm⟩
 ·exfalso;have hh:∀ x l,encB r=UInt8.ofNat x::l→128≤x→x<256→False:=by
   intro x l he h1 h2;rw[he,List.cons_append,List.cons.injEq] at h;have:=congrArg UInt8.toNat h.1;rw[zabq _ h2] at this;omega
  unfold encB Sp.enc bytesOf at hh;rw[if_neg a1] at hh;by_cases a2:r<2048
  ·rw[if_pos a2] at hh;exact hh _ _ rfl (by omega) (by omega)
  ·rw[if_neg a2] at hh;by_cases a3:r<65536
   ·rw[if_pos a3] at hh;exact hh _ _ rfl (by omega) (by omega)
   ·rw[if_neg a3] at hh;exact hh _ _ rfl (by omega) (by omega)
end Lift.A1P
namespace Lift.A1P
open Go Go.RowKit Lift Go.IntWalk Lift.Fn
theorem zaap:∀ (l:List Int) (c:Bool),∃ ds,l=ds++skip c l
 |[],c=>⟨[],by cases c<;>rfl⟩
 |r::l,true=>by
  obtain ⟨ds,h⟩:=zaap l (r != 10);exact ⟨r::ds,by simp only[skip,List.cons_append]; rw[← h]⟩
 |r::l,false=>by
  simp only[skip];split
  ·obtain ⟨ds,h⟩:=zaap l true;exact ⟨r::ds,by rw[List.cons_append,← h]⟩
  ·split
   ·obtain ⟨ds,h⟩:=zaap l false;exact ⟨r::ds,by rw[List.cons_append,← h]⟩
   ·exact ⟨[],rfl⟩
theorem zajd:∀ x∈twos,x.length=2∧x.all (fun b=>decide (b.toNat<128))=true:=by decide
theorem zap7:∀ b∈ones,b.toNat<128:=by decide
theorem zalm (r:Int) (rs:List Int):∃ b t,encs (r::rs)=b::t:=by
 cases he:encs (r::rs) with
 |nil=>
  have:=zagd [] rs r;simp only[List.nil_append,he] at this;simp[encs] at this
 |cons b t=>exact ⟨b,t,rfl⟩
theorem zagu (r:Int) (rs:List Int) (ha:(r::rs).all Sp.isRune=true) (h:sgn (encs (r::rs))≠[]):encs ((r::rs).take (sgn (encs (r::rs))).length)=sgn (encs (r::rs))∧0<(sgn (encs (r::rs))).length:=by
 refine ⟨?_,List.length_pos_iff.2 h⟩;simp only[List.all_cons,Bool.and_eq_true] at ha;obtain ⟨b,t,hbt⟩:=zalm r rs;rw[hbt] at h ⊢;unfold sgn at h ⊢;by_cases h1:1<(b::t).length∧twos.contains ((b::t).take 2)=true
 ·rw[if_pos h1];have hm:(b::t).take 2∈twos:=by simpa using h1.2
  obtain ⟨hl,hall⟩:=zajd _ hm;match t,hl with
  |c::t,_=>
   simp only[List.take_succ_cons,List.take_zero,List.all_cons,List.all_nil,Bool.and_true,Bool.and_eq_true,decide_eq_true_eq] at hall;obtain ⟨e1,e2⟩:=zaev ha.1 hbt hall.1;match rs,ha.2,e2 with
   |[],_,e2=>simp[encs] at e2
   |r2::rs,ha2,e2=>
    simp only[List.all_cons,Bool.and_eq_true] at ha2;obtain ⟨e3,_⟩:=zaev ha2.1 e2.symm hall.2;show encs [r,r2]=[b,c];rw[zaam,zaam,e1,e3];rfl
 ·rw[if_neg h1] at h ⊢;by_cases h2:ones.contains ((b::t).headD 0)=true
  ·rw[if_pos h2];have hb:b∈ones:=by simpa using h2
   obtain ⟨e1,_⟩:=zaev ha.1 hbt (zap7 b hb);show encs [r]=[b];rw[zaam,e1];rfl
  ·rw[if_neg h2] at h;exact absurd rfl h
theorem zahu (r:Int) (rs:List Int) (ha:(r::rs).all Sp.isRune=true) (h0:(tokR (r::rs)).2=0):∃ ds,ds≠[]∧r::rs=ds++restR (r::rs)∧encs ds=(tokR (r::rs)).1.text:=by
 unfold tokR at h0 ⊢;unfold restR;simp only[List.headD_cons] at h0 ⊢;cases hg:goesR r with
 |true=>
  refine ⟨(r::rs).takeWhile goesR,by simp[hg],(List.takeWhile_append_dropWhile).symm,?_⟩;simp only[cond_true];cases Sp.digit r with
  |true=>
   cases (numS (encs ((r::rs).takeWhile goesR))).2<;>rfl
  |false=>
   cases words.contains (encs ((r::rs).takeWhile goesR)) with
   |true=>rfl
   |false=>cases decide (16<((r::rs).takeWhile goesR).length)<;>rfl
 |false=>
  rw[hg] at h0;simp only[cond_false] at h0 ⊢;cases hs:(sgn (encs (r::rs))==[]) with
  |true=>rw[hs] at h0; simp at h0
  |false=>
   have hne:sgn (encs (r::rs))≠[]:=by simpa using hs
   obtain ⟨h1,h2⟩:=zagu r rs ha hne;refine ⟨(r::rs).take (sgn (encs (r::rs))).length,?_,(List.take_append_drop _ _).symm,h1⟩;intro hh;have:=congrArg List.length hh;simp only[List.length_take,List.length_nil,List.length_cons] at this;omega
noncomputable def toks:Nat→Int→List Int→(Int×Int)⊕List Token
 |0,_,_=>.inr []
 |_+1,_,[]=>.inr []
 | n + 1, p, r :: rs => bif (tokR (r :: rs)).2 != 0 then .inl ((tokR (r :: rs)).2, p) else
   match toks n (p+(encs (r::rs)).length-(encs (skip false (restR (r::rs)))).length) (skip false (restR (r::rs))) with
   |.inl e=>.inl e
   |.inr l=>.inr (⟨(tokR (r::rs)).1.kind,(tokR (r::rs)).1.text,(tokR (r::rs)).1.num,p⟩::l)
theorem zaaz {ds rs:List Int} (h:(ds++rs).all Sp.isRune=true):rs.all Sp.isRune=true:=by
 rw[List.all_append,Bool.and_eq_true] at h;exact h.2
theorem zauq (a2 a3:Int) (a4:List UInt8):∀ (k n:Nat) (rs ds:List Int) (out:List Token),rs.length≤k→k<n→(ds++rs).all Sp.isRune=true→(encs (ds++rs)).length≤4000→out.length≤(encs ds).length →
  qag_i6 n (encs (ds++rs)) ((encs ds).length:Int) a2 a3 a4 out=some (match toks k ((encs ds).length:Int) rs with|.inl e=>.inl (e.1,e.2,[])|.inr l=>.inr (encs (ds++rs),a2,a3,a4,out++l)):=by
 intro k;have fin:∀ (n k:Nat) (ds:List Int) (out:List Token),qag_i6 (n+1) (encs (ds++[])) ((encs ds).length:Int) a2 a3 a4 out=some (match toks k ((encs ds).length:Int) [] with|.inl e=>.inl (e.1,e.2,[])|.inr l=>.inr (encs (ds++[]),a2,a3,a4,out++l)):=by
  intro n k ds out;have:toks k ((encs ds).length:Int) []=.inr []:=by cases k<;>rfl
  rw[this];simp only[List.append_nil,qag_i6,qag_t6];have:decide (((encs ds).length:Int)<((encs ds).length:Int))=false:=decide_eq_false (by omega);rw[this,cond_false]
 induction k with
 |zero=>
  intro n rs ds out hk hn ha hl ho;obtain ⟨n,rfl⟩:∃ q,n=q+1:=⟨n-1,by omega⟩;match rs,hk with
  |[],_=>exact fin n 0 ds out
 |succ k ih=>
  intro n rs ds out hk hn ha hl ho;obtain ⟨n,rfl⟩:∃ q,n=q+1:=⟨n-1,by omega⟩;match rs,hk,ha,hl with
  |[],_,_,_=>exact fin n (k+1) ds out
  |r::rs,hk,ha,hl=>
   have har:=zaaz ha;have hlt:=zagd ds rs r;have hlen:(encs (ds++r::rs)).length=(encs ds).length+(encs (r::rs)).length:=by rw[zaaf,List.length_append]
   simp only[qag_i6,qag_t6];have b0:decide (((encs ds).length:Int)<((encs (ds++r::rs)).length:Int))=true:=decide_eq_true (by omega);have b1:(decide ((0:Int)≤((encs ds).length:Int))&&(decide (((encs ds).length:Int)≤((encs (ds++r::rs)).length:Int))&&decide (((encs (ds++r::rs)).length:Int)≤((encs (ds++r::rs)).length:Int))))=true:=by
    simp only[Bool.and_eq_true,decide_eq_true_eq]; omega
   have hd:List.drop (Int.toNat ((encs ds).length:Int)) (List.take (Int.toNat ((encs (ds++r::rs)).length:Int)) (encs (ds++r::rs)))=encs (r::rs):=by
    rw[Int.toNat_natCast,Int.toNat_natCast,List.take_length,zaeg]
   rw[b0,cond_true,b1,cond_true,hd,zau2 _ (List.cons_ne_nil _ _) har (by omega),Option.bind_some];simp only[toks];cases hc:((tokR (r::rs)).2 != 0) with
   |true=>rfl
   |false=>
    have h0:(tokR (r::rs)).2=0:=by simpa using hc
    obtain ⟨es,hes,hsp,htx⟩:=zahu r rs har h0;obtain ⟨fs,hfs⟩:=zaap (restR (r::rs)) false;have hall:((ds++es)++restR (r::rs)).all Sp.isRune=true:=by rw[List.append_assoc,← hsp]; exact ha
    have hres:=zaaz hall;have l1:(encs (r::rs)).length=(encs es).length+(encs (restR (r::rs))).length:=by
     conv=>lhs; rw[hsp]
     rw[zaaf,List.length_append]
    have l2:(encs (restR (r::rs))).length=(encs fs).length+(encs (skip false (restR (r::rs)))).length:=by
     conv=>lhs; rw[hfs]
     rw[zaaf,List.length_append]
    have hes1:1≤(encs es).length:=by
     have:=zaa5 es;have:0<es.length:=List.length_pos_iff.2 hes;omega
    rw[← htx];simp only[cond_false];rw[decide_eq_true (show _∧_ by simp only[List.length_cons,List.length_nil]; omega),cond_true,i64_in (((encs ds).length:Int)+(encs es).length) (by omega)];have b2:(decide ((0:Int)≤((encs ds).length:Int)+(encs es).length)&&(decide (((encs ds).length:Int)+(encs es).length≤((encs (ds++r::rs)).length:Int))&&decide (((encs (ds++r::rs)).length:Int)≤((encs (ds++r::rs)).length:Int))))=true:=by
     simp only[Bool.and_eq_true,decide_eq_true_eq]; omega
    have hd2:List.drop (Int.toNat (((encs ds).length:Int)+(encs es).length)) (List.take (Int.toNat ((encs (ds++r::rs)).length:Int)) (encs (ds++r::rs)))=encs (restR (r::rs)):=by
     have e:ds++r::rs=(ds++es)++restR (r::rs):=by rw[List.append_assoc,← hsp]
     have e2:(((encs ds).length:Int)+(encs es).length).toNat=(encs (ds++es)).length:=by rw[zaaf,List.length_append]; omega
     rw[Int.toNat_natCast,List.take_length,e2,e,zaeg]
    rw[b2,cond_true,hd2,zap8 _ hres (by omega),Option.bind_some];have hat:IntKind.wrap IntKind.i64 (((encs ds).length:Int)+(encs es).length+(((encs (restR (r::rs))).length:Int)-(encs (skip false (restR (r::rs)))).length))=((encs (ds++es++fs)).length:Int):=by
     rw[i64_in _ (by omega),zaaf,zaaf,List.length_append,List.length_append];omega
    have hp:((encs ds).length:Int)+(encs (r::rs)).length-(encs (skip false (restR (r::rs)))).length=((encs (ds++es++fs)).length:Int):=by
     rw[zaaf,zaaf,List.length_append,List.length_append];omega
    have hT:ds++r::rs=(ds++es++fs)++skip false (restR (r::rs)):=by
     rw[List.append_assoc,← hfs,List.append_assoc,← hsp]
    have hk':(skip false (restR (r::rs))).length≤k:=by
     have q1:=congrArg List.length hsp;have q2:=congrArg List.length hfs;have q3:0<es.length:=List.length_pos_iff.2 hes;simp only[List.length_append,List.length_cons] at q1 q2 hk;omega
    rw[hat,hp]
    have:=ih n (skip false (restR (r::rs))) (ds++es++fs) (out++[⟨(tokR (r::rs)).1.kind,encs es,(tokR (r::rs)).1.num,((encs ds).length:Int)⟩]) hk' (by omega) (by rw[← hT]; exact ha) (by rw[← hT]; exact hl) (by
     rw[zaaf,zaaf];simp only[List.length_append,List.length_cons,List.length_nil];omega)
    rw[← hT] at this;rw[this];cases toks k ((encs (ds++es++fs)).length:Int) (skip false (restR (r::rs))) with
    |inl e=>rfl
    |inr l=>simp only[List.append_assoc,List.singleton_append]
theorem zah0:∀ (k:Nat) (p:Int) (rs:List Int),rs.all Sp.isRune=true→∀ l,toks k p rs=.inr l→l.length≤rs.length
 |0,p,rs,_,l,h=>by simp only[toks,Sum.inr.injEq] at h; subst h; simp
 |k+1,p,[],_,l,h=>by simp only[toks,Sum.inr.injEq] at h; subst h; simp
 |k+1,p,r::rs,ha,l,h=>by
  simp only[toks] at h;cases hc:((tokR (r::rs)).2 != 0) with
  |true=>rw[hc] at h; simp at h
  |false=>
   rw[hc] at h;have h0:(tokR (r::rs)).2=0:=by simpa using hc
   obtain ⟨es,hes,hsp,_⟩:=zahu r rs ha h0;obtain ⟨fs,hfs⟩:=zaap (restR (r::rs)) false;have q1:=congrArg List.length hsp;have q2:=congrArg List.length hfs;have q3:0<es.length:=List.length_pos_iff.2 hes;simp only[List.length_append,List.length_cons] at q1 q2;simp only[cond_false] at h;have hs:(skip false (restR (r::rs))).all Sp.isRune=true:=zaaz (ds:=es++fs) (by rw[List.append_assoc,← hfs,← hsp]; exact ha);split at h
   ·cases h
   ·rename_i l' hl';simp only[Sum.inr.injEq] at h;subst h;have:=zah0 k _ _ hs l' hl';simp only[List.length_cons];omega
theorem zajf (rs:List Int) (ha:rs.all Sp.isRune=true) (hl:(encs rs).length≤4000):qag (encs rs)=some (match toks rs.length (((encs rs).length:Int)-(encs (skip false rs)).length) (skip false rs) with
  |.inl e=>([],⟨e.1,e.2,[]⟩)
  |.inr l=>(l++[⟨5,[],0,((encs rs).length:Int)⟩],⟨0,0,[]⟩)):=by
 obtain ⟨fs,hfs⟩:=zaap rs false;obtain ⟨q1,q2⟩:=zako rs ha hl;have hsk:((encs rs).length:Int)-(encs (skip false rs)).length=((encs fs).length:Int):=by
  have:(encs rs).length=(encs fs).length+(encs (skip false rs)).length:=by
   conv=>lhs; rw[hfs]
   rw[zaaf,List.length_append]
  omega
 have hL:=zauq 0 0 [] rs.length fuel (skip false rs) fs [] (by have:=congrArg List.length hfs; rw[List.length_append] at this; omega) (by have:=zaa5 rs; unfold fuel; omega) (by rw[← hfs]; exact ha) (by rw[← hfs]; exact hl) (by simp);rw[← hfs] at hL;rw[qag,zaaa];unfold qag_f;rw[zap0,q1,q2,Option.bind_some];simp only[bne_self_eq_false,cond_false];rw[zap8 rs ha (by omega),Option.bind_some,hsk,qag_l6,zaaa,hL,Option.bind_some];have hlen:=zah0 rs.length ((encs fs).length:Int) (skip false rs) (zaaz (ds:=fs) (by rw[← hfs]; exact ha));cases ht:toks rs.length ((encs fs).length:Int) (skip false rs) with
 |inl e=>rfl
 |inr l=>
  have hl2:=hlen l ht;have h3:(skip false rs).length≤rs.length:=by
   have:=congrArg List.length hfs;rw[List.length_append] at this;omega
  have h4:=zaa5 rs;simp only[List.nil_append];rw[decide_eq_true (show _∧_ by simp only[List.length_cons,List.length_nil]; omega),cond_true]
end Lift.A1P
namespace Lift.A1P
open Go Go.RowKit Lift Go.IntWalk Lift.Fn
theorem zatb:qaR=some words:=by
 rw[qaR,zaaa];rfl
end Lift.A1P
namespace Lift.A1P
open Go Go.RowKit Lift Go.IntWalk Lift.Fn
def whole (w:List Int) (t:Token):Prop:=w≠[]∧w.all Sp.isRune=true∧tokR w=(t,0)∧t.text=encs w
theorem zaie {w:List Int} (h:goesR (w.headD 0)=true):(tokR w).1.text=encs (w.takeWhile goesR):=by
 unfold tokR;rw[h,cond_true];cases Sp.digit (w.headD 0) with
 |true=>cases (numS (encs (w.takeWhile goesR))).2<;>rfl
 |false=>
  cases words.contains (encs (w.takeWhile goesR)) with
  |true=>rfl
  |false=>cases decide (16<(w.takeWhile goesR).length)<;>rfl
theorem zaq3 {a b:List Int} (h:encs (a++b)=encs a):b=[]:=by
 have h1:=congrArg List.length h;rw[zaaf,List.length_append] at h1;have h2:=zaa5 b;have:b.length=0:=by omega
 exact List.eq_nil_of_length_eq_zero this
theorem zarq {w:List Int} {t:Token} (h:whole w t) (hg:goesR (w.headD 0)=true):w.takeWhile goesR=w:=by
 obtain ⟨_,_,h3,h4⟩:=h;have h5:=zaie hg;rw[h3] at h5;have h6:encs (w.takeWhile goesR++w.dropWhile goesR)=encs (w.takeWhile goesR):=by
  rw[List.takeWhile_append_dropWhile,← h5,← h4]
 have h7:=zaq3 h6;have h8:=List.takeWhile_append_dropWhile (p:=goesR) (l:=w);rw[h7,List.append_nil] at h8;exact h8
theorem zakh {w:List Int} (h:w≠[]) (r:List Int):(w++r).headD 0=w.headD 0:=by
 cases w with
 |nil=>exact absurd rfl h
 |cons a w=>rfl
theorem zarg:goesR 32=false:=by decide +kernel
theorem zao1 {w r:List Int} (h:w.takeWhile goesR=w):(w++32::r).takeWhile goesR=w:=by
 have hall:∀ x∈w,goesR x=true:=fun x hx=>by
  rw[← h] at hx;exact List.all_eq_true.1 (List.all_takeWhile) x hx
 rw[List.takeWhile_append_of_pos hall,List.takeWhile_cons,zarg];simp
theorem zatz {w r:List Int} (h:w.takeWhile goesR=w):(w++32::r).dropWhile goesR=32::r:=by
 have h1:=zao1 (r:=r) h;have h2:=List.takeWhile_append_dropWhile (p:=goesR) (l:=w++32::r);rw[h1] at h2;exact List.append_cancel_left h2
theorem zar5:∀ b∈ones,twos.contains [b,32]=false:=by decide
theorem zaml:encB 32=[32]:=by decide +kernel
theorem zaui {w:List Int} {r:List Int} (h0:encs w≠[]) (h:sgn (encs w)=encs w):sgn (encs (w++32::r))=encs w:=by
 rw[zaaf,zaam,zaml];unfold sgn at h;by_cases h1:1<(encs w).length∧twos.contains ((encs w).take 2)=true
 ·rw[if_pos h1] at h;have hl:(encs w).length=2:=by
   have:=congrArg List.length h;rw[List.length_take] at this;omega
  have ht:(encs w++([32]++encs r)).take 2=encs w:=by rw[← hl,List.take_left]
  unfold sgn;rw[if_pos ⟨by rw[List.length_append]; omega,by rw[ht]; rw[h] at h1; exact h1.2⟩,ht]
 ·rw[if_neg h1] at h;by_cases h2:ones.contains ((encs w).headD 0)=true
  ·rw[if_pos h2] at h;match hw:encs w,h0 with
   |b::t,_=>
    rw[hw] at h h2;have ht:t=[]:=by
     have:=congrArg List.length h;simp only[List.take_succ_cons,List.take_zero,List.length_cons,List.length_nil] at this;exact List.eq_nil_of_length_eq_zero (by omega)
    subst ht;have hb:b∈ones:=by simpa using h2
    have h3:=zar5 b hb;unfold sgn;refine (if_neg fun hh=>?_).trans ((if_pos ?_).trans rfl)
    ·have h9:twos.contains [b,32]=true:=hh.2;rw[h3] at h9;cases h9
    ·exact h2
  ·rw[if_neg h2] at h;exact absurd h.symm h0
theorem zas3 {w:List Int} {t:Token} (h:whole w t) (r:List Int):tokR (w++32::r)=(t,0)∧restR (w++32::r)=32::r:=by
 obtain ⟨h1,h2,h3,h4⟩:=h;have hh:=zakh h1 (32::r);cases hg:goesR (w.headD 0) with
 |true=>
  have hw:=zarq ⟨h1,h2,h3,h4⟩ hg;have ht:=zao1 (r:=r) hw;constructor
  ·rw[← h3];unfold tokR;rw[hh,hg,ht,hw];rfl
  ·unfold restR;rw[hh,hg,cond_true,zatz hw]
 |false=>
  have h0:encs w≠[]:=by
   match w,h1 with
   |a::w,_=>obtain ⟨b,u,hb⟩:=zalm a w; rw[hb]; exact List.cons_ne_nil _ _
  have hs:sgn (encs w)=encs w:=by
   have h5:=h3;unfold tokR at h5;rw[hg,cond_false] at h5;cases hc:(sgn (encs w)==[]) with
   |true=>rw[hc] at h5; simp at h5
   |false=>
    rw[hc,cond_false] at h5;have:=congrArg (fun x=>x.1.text) h5;simp only at this;rw[this,h4]
  have ha:=zaui (r:=r) h0 hs;constructor
  ·rw[← h3];unfold tokR;rw[hh,hg,ha,hs];rfl
  ·unfold restR;rw[hh,hg,cond_false,ha];have hlen:(encs w).length=w.length:=by
    match w,h1 with
    |a::w,_=>
     obtain ⟨q1,q2⟩:=zagu a w h2 (by rw[hs]; exact h0);rw[hs] at q1;have q3:encs ((a::w).take (encs (a::w)).length++(a::w).drop (encs (a::w)).length)=encs ((a::w).take (encs (a::w)).length):=by rw[List.take_append_drop,q1]
     have q5:=zaa5 (a::w)
     -- every byte of a sign is a rune
     have q6:(sgn (encs (a::w))).length≤2:=by
      unfold sgn;split
      ·rw[List.length_take]; omega
      ·split
       ·rw[List.length_take]; omega
       ·simp
     rw[hs] at q6;have q7:=zaa5 w;have q8:(encs (a::w)).length=(encB a).length+(encs w).length:=by rw[zaam,List.length_append]
     have q9:=zacv a;have q10:=zacx a;by_cases hz:w.length=0
     ·have hwn:w=[]:=List.eq_nil_of_length_eq_zero hz;subst hwn;obtain ⟨b,u,hb⟩:=zalm a [];simp only[List.all_cons,Bool.and_eq_true] at h2;have hbn:b.toNat<128:=by
       unfold sgn at hs;by_cases k1:1<(encs [a]).length∧twos.contains ((encs [a]).take 2)=true
       ·have hm:(encs [a]).take 2∈twos:=by simpa using k1.2
        have:=(zajd _ hm).2;rw[hb] at this;cases u with
        |nil=>simp only[List.take_succ_cons,List.take_nil,List.all_cons,List.all_nil,Bool.and_true,decide_eq_true_eq] at this; exact this
        |cons c u=>simp only[List.take_succ_cons,List.take_zero,List.all_cons,Bool.and_eq_true,decide_eq_true_eq] at this; exact this.1
       ·rw[if_neg k1] at hs;by_cases k2:ones.contains ((encs [a]).headD 0)=true
        ·rw[hb] at k2;exact zap7 b (by simpa using k2)
        ·rw[if_neg k2] at hs;exact absurd hs.symm h0
      obtain ⟨e1,_⟩:=zaev h2.1 hb hbn;rw[zaam,e1];rfl
     ·simp only[List.length_cons];omega
   rw[hlen,List.drop_left]
end Lift.A1P
namespace Lift.A1P
open Go Go.RowKit Lift Go.IntWalk Lift.Fn
end Lift.A1P
namespace Lift.A1P
open Go Go.RowKit Lift Go.IntWalk Lift.Fn
end Lift.A1P
namespace Lift.A1P
open Go Go.RowKit Lift Go.IntWalk Lift.Fn
def core (t:Token):Int×List UInt8×Int:=(t.kind,t.text,t.num)
end Lift.A1P
namespace Lift.A4
open Go Go.RowKit Lift Go.IntWalk Lift.Fn Lift.A1P
set_option linter.unusedVariables false
def Ends (l:List Token):Prop:=∃ u e,l=u++[e]∧e.kind=5
theorem zae5 {l:List Token} (h:Ends l):∃ t r,l=t::r:=by
 obtain ⟨u,e,rfl,_⟩:=h;cases u with
 |nil=>exact ⟨e,[],rfl⟩
 |cons a u=>exact ⟨a,u++[e],rfl⟩
theorem zafh {t:Token} {r:List Token} (h:Ends (t::r)) (hk:t.kind≠5):Ends r:=by
 obtain ⟨u,e,he,h5⟩:=h;cases u with
 |nil=>
  simp only[List.nil_append,List.cons.injEq] at he;exact absurd (he.1▸h5) hk
 |cons a u=>
  simp only[List.cons_append,List.cons.injEq] at he;exact ⟨u,e,he.2,h5⟩
variable {R S X Y:Type}
def Good (P:List Token→Option R) (ok:X→List Token→R) (bad:Wrong→R) (C:X→Nat→Prop) (ts:List Token):Prop:=
  ∃ (u:List Token) (t:Token) (r:List Token),ts=u++t::r∧Ends (t::r) ∧
    ((∃ x,C x u.length∧∀ u' t' r',List.map core u'=List.map core u→core t'=core t→P (u'++t'::r')=some (ok x (t'::r'))) ∨
     (∀ u' t' r',List.map core u'=List.map core u→core t'=core t→P (u'++t'::r')=some (bad ⟨t'.at_⟩)))
theorem zadg {P:List Token→Option R} {ok:X→List Token→R} {bad:Wrong→R} {C D:X→Nat→Prop} {ts:List Token}
  (h:Good P ok bad C ts) (hc:∀ x n,n<ts.length→C x n→D x n):Good P ok bad D ts:=by
 obtain ⟨u,t,r,h1,h2,h3⟩:=h;refine ⟨u,t,r,h1,h2,?_⟩;rcases h3 with ⟨x,c,h⟩|h
 ·refine .inl ⟨x,hc x _ ?_ c,h⟩;rw[h1,List.length_append,List.length_cons];omega
 ·exact .inr h
theorem zaan (ok:X→List Token→R) (bad:Wrong→R) {C:X→Nat→Prop} {ts:List Token} (x:X) (he:Ends ts) (hc:C x 0) :
  Good (fun z=>some (ok x z)) ok bad C ts:=by
 obtain ⟨t,r,rfl⟩:=zae5 he;refine ⟨[],t,r,rfl,he,.inl ⟨x,hc,fun u' t' r' hu ht=>?_⟩⟩
 have:u'=[]:=by cases u' with
  |nil=>rfl
  |cons a u'=>cases hu
 rw[this];rfl
theorem zaas {P:List Token→Option R} {ok:X→List Token→R} {bad:Wrong→R} {C:X→Nat→Prop} {ts:List Token}
  {F:R→Option S} {ok':Y→List Token→S} {bad':Wrong→S} {D:Y→Nat→Prop}
  (h:Good P ok bad C ts)
  (hk:∀ x n t1,C x n→Ends t1→n+t1.length=ts.length→Good (fun z=>F (ok x z)) ok' bad' (fun y m=>D y (n+m)) t1)
  (hb:∀ w,F (bad w)=some (bad' w)):Good (fun z=>Option.bind (P z) F) ok' bad' D ts:=by
 obtain ⟨u,t,r,rfl,h2,h3⟩:=h;rcases h3 with ⟨x,c,h⟩|h
 ·obtain ⟨u2,t2,r2,e,h5,h6⟩:=hk x u.length (t::r) c h2 (by rw[List.length_append]);refine ⟨u++u2,t2,r2,by rw[e,List.append_assoc],h5,?_⟩;have key:∀ u' t' r',List.map core u'=List.map core (u++u2)→core t'=core t2→∃ v w,u'=v++w∧List.map core w=List.map core u2∧P (u'++t'::r')=some (ok x (w++t'::r')):=by
   intro u' t' r' hu ht;refine ⟨u'.take u.length,u'.drop u.length,(List.take_append_drop _ _).symm,?_,?_⟩
   ·rw[List.map_drop,hu,List.map_append,← List.length_map (f:=core),List.drop_left]
   ·have e1:List.map core (u'.take u.length)=List.map core u:=by
     rw[List.map_take,hu,List.map_append,← List.length_map (f:=core),List.take_left]
    have e2:List.map core (u'.drop u.length)=List.map core u2:=by
     rw[List.map_drop,hu,List.map_append,← List.length_map (f:=core),List.drop_left]
    rw[show u'++t'::r'=u'.take u.length++(u'.drop u.length++t'::r') by rw[← List.append_assoc,List.take_append_drop]];generalize u'.drop u.length=w at e2 ⊢;cases u2 with
    |nil=>
     have:w=[]:=by cases w with
      |nil=>rfl
      |cons a w=>cases e2
     rw[this];simp only[List.nil_append,List.cons.injEq] at e;exact h _ _ _ e1 (by rw[ht,e.1])
    |cons a u2=>
     cases w with
     |nil=>cases e2
     |cons b w=>
      simp only[List.map_cons,List.cons.injEq] at e2;simp only[List.cons_append,List.cons.injEq] at e;exact h _ _ _ e1 (by rw[e2.1,e.1])
  rcases h6 with ⟨y,d,h7⟩|h7
  ·refine .inl ⟨y,by rw[List.length_append]; exact d,fun u' t' r' hu ht=>?_⟩;obtain ⟨v,w,rfl,hw,hp⟩:=key u' t' r' hu ht;show Option.bind (P _) F=_;rw[hp,Option.bind_some];exact h7 w t' r' hw ht
  ·refine .inr fun u' t' r' hu ht=>?_
   obtain ⟨v,w,rfl,hw,hp⟩:=key u' t' r' hu ht;show Option.bind (P _) F=_;rw[hp,Option.bind_some];exact h7 w t' r' hw ht
 ·refine ⟨u,t,r,rfl,h2,.inr fun u' t' r' hu ht=>?_⟩;show Option.bind (P _) F=_;rw[h u' t' r' hu ht,Option.bind_some,hb]
theorem zafk {P:List Token→Option R} {Q:List Token→Option R} {ok:X→List Token→R} {bad:Wrong→R} {C:X→Nat→Prop} {t:Token} {r:List Token}
  (h:Good Q ok bad (fun x n=>C x (n+1)) r) (hp:∀ t' z,core t'=core t→z≠[]→P (t'::z)=Q z):Good P ok bad C (t::r):=by
 obtain ⟨u,s,q,rfl,h2,h3⟩:=h;refine ⟨t::u,s,q,rfl,h2,?_⟩;have key:∀ u' t' r',List.map core u'=List.map core (t::u)→∃ v,List.map core v=List.map core u∧P (u'++t'::r')=Q (v++t'::r'):=by
  intro u' t' r' hu;cases u' with
  |nil=>cases hu
  |cons a v=>
   simp only[List.map_cons,List.cons.injEq] at hu;exact ⟨v,hu.2,hp a _ hu.1 (by simp)⟩
 rcases h3 with ⟨x,c,h⟩|h
 ·refine .inl ⟨x,c,fun u' t' r' hu ht=>?_⟩;obtain ⟨v,hv,e⟩:=key u' t' r' hu;rw[e,h v t' r' hv ht]
 ·refine .inr fun u' t' r' hu ht=>?_
  obtain ⟨v,hv,e⟩:=key u' t' r' hu;rw[e,h v t' r' hv ht]
theorem zam0 {P:List Token→Option R} {Q:List Token→Option R} {ok:X→List Token→R} {bad:Wrong→R} {C:X→Nat→Prop} {t:Token} {r:List Token}
  (h:Good Q ok bad C (t::r)) (hp:∀ t' z,core t'=core t→P (t'::z)=Q (t'::z)):Good P ok bad C (t::r):=by
 obtain ⟨u,s,q,e,h2,h3⟩:=h;refine ⟨u,s,q,e,h2,?_⟩;have key:∀ u' t' r',List.map core u'=List.map core u→core t'=core s→P (u'++t'::r')=Q (u'++t'::r'):=by
  intro u' t' r' hu ht;cases u with
  |nil=>
   have:u'=[]:=by cases u' with
    |nil=>rfl
    |cons a v=>cases hu
   subst this;simp only[List.nil_append,List.cons.injEq] at e ⊢;exact hp t' r' (by rw[ht,e.1])
  |cons a u=>
   cases u' with
   |nil=>cases hu
   |cons b v=>
    simp only[List.map_cons,List.cons.injEq] at hu;simp only[List.cons_append,List.cons.injEq] at e ⊢;exact hp b _ (by rw[hu.1,e.1])
 rcases h3 with ⟨x,c,h⟩|h
 ·exact .inl ⟨x,c,fun u' t' r' hu ht=>by rw[key u' t' r' hu ht,h u' t' r' hu ht]⟩
 ·exact .inr fun u' t' r' hu ht=>by rw[key u' t' r' hu ht,h u' t' r' hu ht]
theorem zah2 {P:List Token→Option R} {ok:X→List Token→R} {bad:Wrong→R} {C:X→Nat→Prop} {t:Token} {r:List Token} (he:Ends (t::r))
  (hp:∀ t' z,core t'=core t→P (t'::z)=some (bad ⟨t'.at_⟩)):Good P ok bad C (t::r):=by
 refine ⟨[],t,r,rfl,he,.inr fun u' t' r' hu ht=>?_⟩
 have:u'=[]:=by cases u' with
  |nil=>rfl
  |cons a v=>cases hu
 subst this;exact hp t' r' ht
end Lift.A4
namespace Lift.A4
open Go Go.RowKit Lift Go.IntWalk Lift.Fn Lift.A1P
set_option linter.unusedVariables false
set_option linter.unusedSimpArgs false
theorem next1 (t:Token) (r:List Token):qau (t::r)=some (t,t::r):=by
 rw[qau,zaaa]; rfl
def hit (s:List UInt8) (t:Token):Bool:=(bif t.kind==4 then true else t.kind==3)&&t.text==s
theorem is1 (s:List UInt8) (t:Token) (r:List Token):qas s (t::r)=some (hit s t,t::r):=by
 rw[qas,zaaa];unfold qas_f hit;rw[next1,Option.bind_some];cases t.kind==4<;>cases t.kind==3<;>rfl
theorem take1 (t:Token) (r:List Token):qaA (t::r)=some (t,r):=by
 rw[qaA,zaaa];unfold qaA_f;rw[next1,Option.bind_some];dsimp only;have e:(decide ((0:Int)≤(1:Int))&&(decide ((1:Int)≤(↑(List.length (t::r)):Int))&&decide ((↑(List.length (t::r)):Int)≤(↑(List.length (t::r)):Int))))=true:=by
  simp only[Bool.and_eq_true,decide_eq_true_eq,List.length_cons];omega
 rw[e,cond_true];have:List.take (Int.toNat (↑(List.length (t::r)):Int)) (t::r)=t::r:=by
  rw[Int.toNat_natCast,List.take_length]
 rw[this];rfl
theorem took1 (s:List UInt8) (t:Token) (r:List Token):qaB s (t::r)=some (hit s t,bif hit s t then r else t::r):=by
 rw[qaB,zaaa];unfold qaB_f;rw[is1,Option.bind_some];dsimp only;cases h:hit s t with
 |false=>rfl
 |true=>rw[cond_true,take1]; rfl
theorem zamc (t:Token) (r:List Token):qay (t::r)=some ⟨t.at_⟩:=by
 rw[qay,zaaa];unfold qay_f;rw[next1];rfl
theorem of1 (k:Int) (t:Token) (r:List Token):qav k (t::r)=some (bif t.kind != k then .inr ⟨t.at_⟩ else .inl (t,r)):=by
 rw[qav,zaaa];unfold qav_f;rw[next1,Option.bind_some];dsimp only;cases t.kind != k with
 |true=>rw[cond_true,zamc]; rfl
 |false=>rw[cond_false,take1]; rfl
theorem name1 (t:Token) (r:List Token):qat (t::r)=some (bif t.kind != 1 then .inr ⟨t.at_⟩ else .inl (t.text,r)):=by
 rw[qat,zaaa];unfold qat_f;rw[of1,Option.bind_some];cases t.kind != 1<;>rfl
theorem want1 (s:List UInt8) (t:Token) (r:List Token):qaD s (t::r)=some (bif hit s t then .inl r else .inr ⟨t.at_⟩):=by
 rw[qaD,zaaa];unfold qaD_f;rw[took1,Option.bind_some];cases hit s t with
 |true=>rfl
 |false=>
  simp only[Bool.not_false,cond_true,cond_false];rw[zamc];rfl
theorem zahy {s:List UInt8} {t t':Token} (h:core t'=core t):hit s t'=hit s t:=by
 simp only[core,Prod.mk.injEq] at h;unfold hit;rw[h.1,h.2.1]
theorem zaqk {s:List UInt8} {t:Token} (h:hit s t=true):t.kind≠5:=by
 intro h5;unfold hit at h;rw[h5] at h;cases h
variable {S X:Type} {ok:X→List Token→S} {bad:Wrong→S} {D:X→Nat→Prop} {ts:List Token}
theorem zabe {s:List UInt8} {F:Bool×List Token→Option S} (he:Ends ts)
  (hy:∀ r,Ends r→r.length+1=ts.length→Good (fun z=>F (true,z)) ok bad (fun x n=>D x (n+1)) r)
  (hn:Good (fun z=>F (false,z)) ok bad D ts):Good (fun z=>Option.bind (qaB s z) F) ok bad D ts:=by
 obtain ⟨t,r,rfl⟩:=zae5 he;cases h:hit s t with
 |true=>
  refine zafk (hy r (zafh he (zaqk h)) rfl) fun t' z ht _=>?_
  show Option.bind (qaB s (t'::z)) F=_;rw[took1,zahy ht,h];rfl
 |false=>
  refine zam0 hn fun t' z ht=>?_
  show Option.bind (qaB s (t'::z)) F=_;rw[took1,zahy ht,h];rfl
theorem zabc {s:List UInt8} {F:(List Token)⊕Wrong→Option S} (he:Ends ts)
  (hy:∀ r,Ends r→r.length+1=ts.length→Good (fun z=>F (.inl z)) ok bad (fun x n=>D x (n+1)) r)
  (hb:∀ w,F (.inr w)=some (bad w)):Good (fun z=>Option.bind (qaD s z) F) ok bad D ts:=by
 obtain ⟨t,r,rfl⟩:=zae5 he;cases h:hit s t with
 |true=>
  refine zafk (hy r (zafh he (zaqk h)) rfl) fun t' z ht _=>?_
  show Option.bind (qaD s (t'::z)) F=_;rw[want1,zahy ht,h];rfl
 |false=>
  refine zah2 he fun t' z ht=>?_
  show Option.bind (qaD s (t'::z)) F=_;rw[want1,zahy ht,h,cond_false,Option.bind_some,hb]
theorem zap2 {k:Int} {F:(Token×List Token)⊕Wrong→Option S} (he:Ends ts) (hk:k≠5)
  (hF:∀ c x n a b z,F (.inl (⟨c,x,n,a⟩,z))=F (.inl (⟨c,x,n,b⟩,z)))
  (hy:∀ t r,Ends r→r.length+1=ts.length→Good (fun z=>F (.inl (t,z))) ok bad (fun x n=>D x (n+1)) r)
  (hb:∀ w,F (.inr w)=some (bad w)):Good (fun z=>Option.bind (qav k z) F) ok bad D ts:=by
 obtain ⟨t,r,rfl⟩:=zae5 he;by_cases h:t.kind=k
 ·refine zafk (hy t r (zafh he (by rw[h]; exact hk)) rfl) fun t' z ht _=>?_
  show Option.bind (qav k (t'::z)) F=_;simp only[core,Prod.mk.injEq] at ht;have e:(t'.kind != k)=false:=by rw[ht.1,h]; simp
  rw[of1,e,cond_false,Option.bind_some];obtain ⟨c,x,n,a⟩:=t;obtain ⟨c',x',n',a'⟩:=t';obtain ⟨rfl,rfl,rfl⟩:=ht;exact hF _ _ _ _ _ _
 ·refine zah2 he fun t' z ht=>?_
  show Option.bind (qav k (t'::z)) F=_;simp only[core,Prod.mk.injEq] at ht;have e:(t'.kind != k)=true:=by rw[ht.1]; simpa using h
  rw[of1,e,cond_true,Option.bind_some,hb]
theorem zacs {F:((List UInt8)×List Token)⊕Wrong→Option S} (he:Ends ts)
  (hy:∀ x r,Ends r→r.length+1=ts.length→Good (fun z=>F (.inl (x,z))) ok bad (fun x n=>D x (n+1)) r)
  (hb:∀ w,F (.inr w)=some (bad w)):Good (fun z=>Option.bind (qat z) F) ok bad D ts:=by
 obtain ⟨t,r,rfl⟩:=zae5 he;by_cases h:t.kind=1
 ·refine zafk (hy t.text r (zafh he (by rw[h]; decide)) rfl) fun t' z ht _=>?_
  show Option.bind (qat (t'::z)) F=_;simp only[core,Prod.mk.injEq] at ht;have e:(t'.kind != 1)=false:=by rw[ht.1,h]; rfl
  rw[name1,e,cond_false,Option.bind_some,ht.2.1]
 ·refine zah2 he fun t' z ht=>?_
  show Option.bind (qat (t'::z)) F=_;simp only[core,Prod.mk.injEq] at ht;have e:(t'.kind != 1)=true:=by rw[ht.1]; simpa using h
  rw[name1,e,cond_true,Option.bind_some,hb]
theorem zaee {F:Token×List Token→Option S} (he:Ends ts)
  (hF:∀ c x n a b z,F (⟨c,x,n,a⟩,z)=F (⟨c,x,n,b⟩,z))
  (h:∀ t r,ts=t::r→Good (fun z=>F (t,z)) ok bad D (t::r)):Good (fun z=>Option.bind (qau z) F) ok bad D ts:=by
 obtain ⟨t,r,rfl⟩:=zae5 he;refine zam0 (h t r rfl) fun t' z ht=>?_
 show Option.bind (qau (t'::z)) F=F (t,t'::z);rw[next1,Option.bind_some];simp only[core,Prod.mk.injEq] at ht;obtain ⟨c,x,n,a⟩:=t;obtain ⟨c',x',n',a'⟩:=t';obtain ⟨rfl,rfl,rfl⟩:=ht;exact hF _ _ _ _ _ _
theorem zamu {t:Token} {r:List Token} {F:Token×List Token→Option S} (he:Ends (t::r)) (hk:t.kind≠5)
  (hF:∀ c x n a b z,F (⟨c,x,n,a⟩,z)=F (⟨c,x,n,b⟩,z))
  (h:Ends r→Good (fun z=>F (t,z)) ok bad (fun x n=>D x (n+1)) r):Good (fun z=>Option.bind (qaA z) F) ok bad D (t::r):=by
 refine zafk (h (zafh he hk)) fun t' z ht _=>?_
 show Option.bind (qaA (t'::z)) F=F (t,z);rw[take1,Option.bind_some];simp only[core,Prod.mk.injEq] at ht;obtain ⟨c,x,n,a⟩:=t;obtain ⟨c',x',n',a'⟩:=t';obtain ⟨rfl,rfl,rfl⟩:=ht;exact hF _ _ _ _ _ _
theorem zapv {F:Wrong→Option S} (he:Ends ts) (h:∀ w,F w=some (bad w)):Good (fun z=>Option.bind (qay z) F) ok bad D ts:=by
 obtain ⟨t,r,rfl⟩:=zae5 he;refine zah2 he fun t' z ht=>?_
 show Option.bind (qay (t'::z)) F=_;rw[zamc,Option.bind_some,h]
end Lift.A4
namespace Lift.A3
open Go Go.RowKit Lift Go.IntWalk Lift.Fn
set_option linter.unusedVariables false
set_option linter.unusedSimpArgs false
theorem zad8 {α σ:Type} (l:List α) (body:α→σ→Option σ) (L:Nat→Int→σ→Option σ)
  (h0:∀ n i s,0≤i→¬ i<(l.length:Int)→L (n+1) i s=some s)
  (h1:∀ n i s (x:α),0≤i→i<(l.length:Int)→l[i.toNat]? = some x→L (n+1) i s=(body x s).bind fun s'=>L n (i+1) s') :
  ∀ (k n:Nat) (i:Int) (s:σ),0≤i→l.length-i.toNat≤k→k<n→L n i s=(l.drop i.toNat).foldlM (fun s x=>body x s) s:=by
 intro k;induction k with
 |zero=>
  intro n i s hi hk hn;obtain ⟨n,rfl⟩:∃ q,n=q+1:=⟨n-1,by omega⟩;rw[h0 n i s hi (by omega),List.drop_eq_nil_of_le (by omega)];rfl
 |succ k ih=>
  intro n i s hi hk hn;obtain ⟨n,rfl⟩:∃ q,n=q+1:=⟨n-1,by omega⟩;by_cases c:i<(l.length:Int)
  ·have hlt:i.toNat<l.length:=by omega
   rw[h1 n i s l[i.toNat] hi c (List.getElem?_eq_getElem hlt),List.drop_eq_getElem_cons hlt,List.foldlM_cons];congr 1;funext s';rw[ih n (i+1) s' (by omega) (by omega) (by omega)];congr 2;omega
  ·rw[h0 n i s hi c,List.drop_eq_nil_of_le (by omega)];rfl
inductive Ev where
 |s (x:TStmt) (d:Int)
 |e (x:TExpr) (d:Int)
mutual
def evE:TExpr→Int→List Ev
 |⟨k,n,m,l⟩,d=>.e ⟨k,n,m,l⟩ d::evEs l (d+1)
def evEs:List TExpr→Int→List Ev
 |[],_=>[]
 |x::l,d=>evE x d++evEs l d
end
def zacc (x:TExpr):Bool:=(x.kind != 0)||decide (0<x.args.length)
mutual
def evS:TStmt→Int→List Ev
 |⟨k,r,m,x,c,t,o⟩,d=>.s ⟨k,r,m,x,c,t,o⟩ d::((if zacc x then evE x 1 else [])++(evSs t (d+1)++evSs o (d+1)))
def evSs:List TStmt→Int→List Ev
 |[],_=>[]
 |x::l,d=>evS x d++evSs l d
end
def evP (p:TProg):List Ev:=p.threads.flatMap fun t=>evSs t.body 1
mutual
def nE:TExpr→Nat
 |⟨_,_,_,l⟩=>1+nEs l
def nEs:List TExpr→Nat
 |[]=>0
 |x::l=>nE x+nEs l
end
mutual
def nS:TStmt→Nat
 |⟨_,_,_,x,_,t,o⟩=>1+nE x+nSs t+nSs o
def nSs:List TStmt→Nat
 |[]=>0
 |x::l=>nS x+nSs l
end
def nT:List TThread→Nat
 |[]=>0
 |t::l=>1+nSs t.body+nT l
theorem nE_eq (x:TExpr):nE x=1+nEs x.args:=by cases x; simp[nE]
theorem nS_eq (x:TStmt):nS x=1+nE x.expr+nSs x.then_+nSs x.else_:=by cases x; simp[nS]
theorem zavc (x:TExpr) (d:Int):evE x d=.e x d::evEs x.args (d+1):=by cases x; simp[evE]
theorem zauy (x:TStmt) (d:Int):evS x d=.s x d::((if zacc x.expr then evE x.expr 1 else [])++(evSs x.then_ (d+1)++evSs x.else_ (d+1))):=by cases x; simp[evS]
theorem zaqa:∀ l:List TExpr,l.length≤nEs l
 |[]=>by simp[nEs]
 |x::l=>by have:=zaqa l; have:=nE_eq x; simp only[nEs,List.length_cons]; omega
theorem zamd:∀ l:List TStmt,l.length≤nSs l
 |[]=>by simp[nSs]
 |x::l=>by have:=zamd l; have:=nS_eq x; simp only[nSs,List.length_cons]; omega
theorem zanq:∀ l:List TThread,l.length≤nT l
 |[]=>by simp[nT]
 |x::l=>by have:=zanq l; simp only[nT,List.length_cons]; omega
theorem zaqp:∀ {l:List TExpr} {x:TExpr},x∈l→nE x≤nEs l
 |y::l,x,h=>by
  simp only[nEs];cases h with
  |head=>omega
  |tail _ h=>have:=zaqp h; omega
theorem zaqd:∀ {l:List TStmt} {x:TStmt},x∈l→nS x≤nSs l
 |y::l,x,h=>by
  simp only[nSs];cases h with
  |head=>omega
  |tail _ h=>have:=zaqd h; omega
theorem zanr:∀ {l:List TThread} {x:TThread},x∈l→nSs x.body<nT l
 |y::l,x,h=>by
  simp only[nT];cases h with
  |head=>omega
  |tail _ h=>have:=zanr h; omega
theorem zamz : ∀ (l : List TExpr) (d : Int), evEs l d = l.flatMap fun x => evE x d
 |[],d=>by simp[evEs]
 |x::l,d=>by simp[evEs,zamz l d]
theorem zamm : ∀ (l : List TStmt) (d : Int), evSs l d = l.flatMap fun x => evS x d
 |[],d=>by simp[evSs]
 |x::l,d=>by simp[evSs,zamm l d]
theorem zad1 {α β σ : Type} (f : α → List β) (g : σ → β → Option σ) : ∀ (l : List α) (s : σ), (l.flatMap f).foldlM g s = l.foldlM (fun s x => (f x).foldlM g s) s
 |[],s=>rfl
 |x::l,s=>by
  rw[List.flatMap_cons,List.foldlM_append,List.foldlM_cons];congr 1;funext s';exact zad1 f g l s'
theorem zaei {α β:Type} (o:Option (α×β)):(o.bind fun y=>some (y.1,y.2))=o:=by cases o<;>rfl
theorem zabl (x:TExpr):TExpr.mk x.kind x.num x.name x.args=x:=by cases x; rfl
theorem zauv (x:TStmt):TStmt.mk x.kind x.reg x.name (TExpr.mk x.expr.kind x.expr.num x.expr.name x.expr.args) x.count x.then_ x.else_=x:=by
 obtain ⟨k,r,n,⟨_,_,_,_⟩,c,t,o⟩:=x;rfl
theorem zan5 (x:TStmt):TStmt.mk x.kind x.reg x.name x.expr x.count x.then_ x.else_=x:=by cases x; rfl
theorem zama (x:TProg):TProg.mk x.cells x.mutexes x.threads=x:=by cases x; rfl
def atEv {σ:Type} (g:TStmt→Int→σ→Option σ) (h:TExpr→Int→σ→Option σ) (s:σ):Ev→Option σ
 |.s x d=>g x d s
 |.e x d=>h x d s
structure WalksE {σ:Type} (h:TExpr→Int→σ→Option σ) (F:Nat→TExpr→Int→σ→Option σ):Prop where
 step:∀ n x d s,(d:Int)+1≤4611686018427387904→-4611686018427387904≤d→x.args.length≤4611686018427387904→F (n+1) x d s=(h x d s).bind fun s'=>x.args.foldlM (fun s y=>F n y (d+1) s) s'
theorem zar1 {σ:Type} {g:TStmt→Int→σ→Option σ} {h:TExpr→Int→σ→Option σ} {F:Nat→TExpr→Int→σ→Option σ} (hW:WalksE h F) :
  ∀ (k n:Nat) (x:TExpr) (d:Int) (s:σ),nE x≤k→k<n→0≤d→d+k≤1000000000000000000→F n x d s=(evE x d).foldlM (atEv g h) s:=by
 intro k;induction k with
 |zero=>intro n x d s hk; have:=nE_eq x; omega
 |succ k ih=>
  intro n x d s hk hn h0 hd;obtain ⟨n,rfl⟩:∃ q,n=q+1:=⟨n-1,by omega⟩;have hx:=nE_eq x;have hl:=zaqa x.args;rw[hW.step n x d s (by omega) (by omega) (by omega),zavc,List.foldlM_cons];show _=(h x d s).bind _;congr 1;funext s';rw[zamz,zad1];have:∀ (l:List TExpr) (s:σ),(∀ y∈l,nE y≤k)→l.foldlM (fun s y=>F n y (d+1) s) s=l.foldlM (fun s y=>(evE y (d+1)).foldlM (atEv g h) s) s:=by
   intro l;induction l with
   |nil=>intro s _; rfl
   |cons y l ihl=>
    intro s hy;rw[List.foldlM_cons,List.foldlM_cons,ih n y (d+1) s (hy y (by simp)) (by omega) (by omega) (by omega)];congr 1;funext s';exact ihl s' (fun z hz=>hy z (by simp[hz]))
  exact this _ _ (fun y hy=>by have:=zaqp hy; omega)
structure WalksS {σ:Type} (g:TStmt→Int→σ→Option σ) (E:TExpr→Int→σ→Option σ) (F:Nat→List TStmt→Int→σ→Option σ):Prop where
 step:∀ n l d s,(d:Int)+1≤4611686018427387904→-4611686018427387904≤d→l.length≤4611686018427387904→F (n+1) l d s=l.foldlM (fun s x=>(g x d s).bind fun s1=>(if zacc x.expr then E x.expr 1 s1 else some s1).bind fun s2=>(F n x.then_ (d+1) s2).bind fun s3=>F n x.else_ (d+1) s3) s
theorem zart {σ:Type} {g:TStmt→Int→σ→Option σ} {h:TExpr→Int→σ→Option σ} {E:TExpr→Int→σ→Option σ} {F:Nat→List TStmt→Int→σ→Option σ}
  (hE:∀ x s,nE x≤100000000000000000→E x 1 s=(evE x 1).foldlM (atEv g h) s) (hW:WalksS g E F) :
  ∀ (k n:Nat) (l:List TStmt) (d:Int) (s:σ),nSs l≤k→k<n→0≤d→d+k≤100000000000000000→F n l d s=(evSs l d).foldlM (atEv g h) s:=by
 intro k;induction k with
 |zero=>
  intro n l d s hk hn h0 hd;obtain ⟨n,rfl⟩:∃ q,n=q+1:=⟨n-1,by omega⟩;have hl:=zamd l;obtain rfl:l=[]:=List.eq_nil_of_length_eq_zero (by omega);rw[hW.step n [] d s (by omega) (by omega) (by simp)];simp[evSs]
 |succ k ih=>
  intro n l d s hk hn h0 hd;obtain ⟨n,rfl⟩:∃ q,n=q+1:=⟨n-1,by omega⟩;have hl:=zamd l;rw[hW.step n l d s (by omega) (by omega) (by omega),zamm,zad1]
  have : ∀ (l : List TStmt) (s : σ), (∀ y ∈ l, nS y ≤ k + 1) → l.foldlM (fun s x => (g x d s).bind fun s1 => (if zacc x.expr then E x.expr 1 s1 else some s1).bind fun s2 => (F n x.then_ (d + 1) s2).bind fun s3 => F n x.else_ (d + 1) s3) s =
    l.foldlM (fun s y=>(evS y d).foldlM (atEv g h) s) s:=by
   intro l;induction l with
   |nil=>intro s _; rfl
   |cons y l ihl=>
    intro s hy;have hy1:=hy y (by simp);have hy2:=nS_eq y;rw[List.foldlM_cons,List.foldlM_cons];have e:∀ s,((g y d s).bind fun s1=>(if zacc y.expr then E y.expr 1 s1 else some s1).bind fun s2=>(F n y.then_ (d+1) s2).bind fun s3=>F n y.else_ (d+1) s3)=(evS y d).foldlM (atEv g h) s:=by
     intro s;rw[zauy,List.foldlM_cons];show _=(g y d s).bind _;congr 1;funext s1;rw[List.foldlM_append];have e1:(if zacc y.expr then E y.expr 1 s1 else some s1)=(if zacc y.expr then evE y.expr 1 else []).foldlM (atEv g h) s1:=by
      split
      ·exact hE _ _ (by omega)
      ·rfl
     rw[e1];congr 1;funext s2;rw[List.foldlM_append];rw[ih n y.then_ (d+1) s2 (by omega) (by omega) (by omega) (by omega)];congr 1;funext s3;exact ih n y.else_ (d+1) s3 (by omega) (by omega) (by omega) (by omega)
    rw[e];congr 1;funext s';exact ihl s' (fun z hz=>hy z (by simp[hz]))
  exact this _ _ (fun y hy=>by have:=zaqd hy; omega)
end Lift.A3
namespace Lift.A4
open Go Go.RowKit Lift Go.IntWalk Lift.Fn Lift.A1P Lift.A3
set_option linter.unusedVariables false
set_option linter.unusedSimpArgs false
abbrev RE:=(Int×Int×(List UInt8)×(List Token)×(List TExpr))⊕(Wrong)
abbrev R5:=((List Token)×Int×Int×(List UInt8)×Int×Int×(List UInt8)×(List TExpr))⊕(Wrong)
def okE (e:TExpr) (z:List Token):RE:=.inl (e.kind,e.num,e.name,z,e.args)
def ok5 (e:TExpr) (z:List Token):R5:=.inl (z,0,0,[],e.kind,e.num,e.name,e.args)
def CE (e:TExpr) (n:Nat):Prop:=0<n∧nE e≤n
theorem zary (k n:Int) (s:List UInt8) (x:TExpr):nE (TExpr.mk k n s [x])=1+nE x:=by simp[nE,nEs]
theorem zavb (k n:Int) (s:List UInt8) (x y:TExpr):nE (TExpr.mk k n s [x,y])=1+nE x+nE y:=by simp only[nE,nEs]; omega
theorem zahc (k n:Int) (s:List UInt8):nE (TExpr.mk k n s [])=1:=by simp[nE,nEs]
theorem zavj (E : Int → List Token → Option RE) (N : Nat) (hE : ∀ l, Ends l → l.length < N → Good (fun z => E 0 z) okE .inr CE l) :
  ∀ (f:Nat) (ts:List Token),Ends ts→ts.length<f→ts.length≤N→Good (fun z=>qaC_i E f z) okE .inr CE ts:=by
 intro f;induction f with
 |zero=>intro ts _ h; omega
 |succ f ih=>
  intro ts he hf hN;show Good (fun z=>qaC_f (qaC_i E f) E z) okE .inr CE ts;unfold qaC_f;refine zabe he (fun r hr hl=>?_) ?_
  ·dsimp only[cond_true];refine zaas (ih r hr (by omega) (by omega)) (fun x n t1 c h1 h2=>?_) (fun w=>rfl);dsimp only[okE];refine zaan okE .inr (TExpr.mk 3 0 [] [TExpr.mk x.kind x.num x.name x.args]) h1 ⟨by omega,?_⟩;rw[zabl,zary];have:=c.2;omega
  dsimp only[cond_false];refine zabe he (fun r hr hl=>?_) ?_
  ·dsimp only[cond_true];refine zaas (ih r hr (by omega) (by omega)) (fun x n t1 c h1 h2=>?_) (fun w=>rfl);dsimp only[okE];refine zaan okE .inr (TExpr.mk 4 0 [] [TExpr.mk x.kind x.num x.name x.args]) h1 ⟨by omega,?_⟩;rw[zabl,zary];have:=c.2;omega
  dsimp only[cond_false];refine zabe he (fun r hr hl=>?_) ?_
  ·dsimp only[cond_true];refine zaas (hE r hr (by omega)) (fun x n t1 c h1 h2=>?_) (fun w=>rfl);dsimp only[okE];refine zabc h1 (fun r2 h3 h4=>?_) (fun w=>rfl);dsimp only;refine zaan okE .inr x h3 ⟨by omega,?_⟩;have:=c.2;omega
  dsimp only[cond_false];refine zaee he (fun _ _ _ _ _ _=>rfl) fun t r e=>?_
  subst e;dsimp only;by_cases hk:t.kind=2
  ·have e2:(t.kind==2)=true:=by simp[hk]
   simp only[e2,cond_true];refine zamu he (by rw[hk]; decide) (fun _ _ _ _ _ _=>rfl) fun hr=>?_
   dsimp only;refine zaan okE .inr (TExpr.mk 1 t.num [] []) hr ⟨by omega,?_⟩;rw[zahc];omega
  ·have e2:(t.kind==2)=false:=by simp[hk]
   simp only[e2,cond_false];refine zacs he (fun x r2 h3 h4=>?_) (fun w=>rfl);dsimp only;refine zaan okE .inr (TExpr.mk 2 0 x []) h3 ⟨by omega,?_⟩;rw[zahc];omega
theorem zaue:∃ L,qap=some L∧L.length=5:=by
 rw[qap,zaaa];exact ⟨_,rfl,rfl⟩
theorem exprL (E:Int→List Token→Option RE) (L:List (List ((List UInt8)×Int))) (N:Nat) (lvl:Int) (h0:0≤lvl) (h5:lvl<(L.length:Int)) (hl:L.length=5)
  (hE:∀ l,Ends l→l.length<N→Good (fun z=>E (lvl+1) z) okE .inr CE l) :
  ∀ (f:Nat) (ts:List Token) (e:TExpr),Ends ts→ts.length<f→ts.length≤N →
   Good (fun z=>qar_i5 E f lvl z 0 0 [] e.kind e.num e.name L e.args) ok5 .inr (fun x n=>nE x≤nE e+n) ts:=by
 intro f;induction f with
 |zero=>intro ts _ _ h; omega
 |succ f ih=>
  intro ts e he hf hN;show Good (fun z=>qar_t5 E (qar_i5 E f) lvl z 0 0 [] e.kind e.num e.name L e.args) ok5 .inr (fun x n=>nE x≤nE e+n) ts;unfold qar_t5;refine zaee he (fun _ _ _ _ _ _=>rfl) fun t r e1=>?_
  subst e1;dsimp only;by_cases hk:t.kind=3
  ·have e2:(t.kind==3)=true:=by simp[hk]
   have e3:(decide ((0:Int)≤lvl)&&decide (lvl<(↑(List.length L):Int)))=true:=by simp only[Bool.and_eq_true,decide_eq_true_eq]; exact ⟨h0,h5⟩
   have hlt:lvl.toNat<L.length:=by omega
   simp only[e2,e3,cond_true];rw[List.getElem?_eq_getElem hlt];generalize L[lvl.toNat]=M;simp only[Option.bind_some];refine zaee he (fun _ _ _ _ _ _=>rfl) fun t2 r2 e1=>?_
   simp only[List.cons.injEq] at e1;obtain ⟨rfl,rfl⟩:=e1;dsimp only;cases hm:Option.isSome (mapAt M t.text) with
   |false=>
    simp only[Bool.not_false,cond_true];exact zaan ok5 .inr e he (Nat.le_refl _)
   |true=>
    simp only[Bool.not_true,cond_false];refine zamu he (by rw[hk]; decide) (fun _ _ _ _ _ _=>rfl) fun hr=>?_
    dsimp only;have hw:IntKind.wrap IntKind.i64 (lvl+(1:Int))=lvl+1:=i64_in _ (by omega);rw[hw];simp only[List.length_cons] at hf hN;refine zaas (hE r hr (by omega)) (fun x n t1 c h1 h2=>?_) (fun w=>rfl);dsimp only[okE];have hn:=c.2;generalize hop:Option.getD (mapAt M t.text) 0=op;have hsz:nE (TExpr.mk op 0 [] [TExpr.mk e.kind e.num e.name e.args,TExpr.mk x.kind x.num x.name x.args])=1+nE e+nE x:=by rw[zabl,zabl,zavb]
    by_cases h22:lvl=2
    ·have e4:(lvl==2)=true:=by simp[h22]
     simp only[e4,cond_true];refine zaan ok5 .inr (TExpr.mk op 0 [] [TExpr.mk e.kind e.num e.name e.args,TExpr.mk x.kind x.num x.name x.args]) h1 ?_;rw[hsz];omega
    ·have e4:(lvl==2)=false:=by simp[h22]
     simp only[e4,cond_false];refine zadg (ih t1 (TExpr.mk op 0 [] [TExpr.mk e.kind e.num e.name e.args,TExpr.mk x.kind x.num x.name x.args]) h1 (by omega) (by omega)) fun y m _ hy=>?_
     rw[hsz] at hy;omega
  ·have e2:(t.kind==3)=false:=by simp[hk]
   simp only[e2,cond_false];exact zaan ok5 .inr e he (Nat.le_refl _)
theorem exprI:∀ (n:Nat) (lvl:Int) (ts:List Token),Ends ts→0≤lvl→lvl≤5→10*ts.length+(5-lvl).toNat<n→ts.length<1000000 →
  Good (fun z=>qar_i n lvl z) okE .inr CE ts:=by
 intro n;induction n with
 |zero=>intro lvl ts _ _ _ h; omega
 |succ n ih=>
  intro lvl ts he h0 h5 hn hb;obtain ⟨L,hL,hl⟩:=zaue;show Good (fun z=>qar_f (qar_i n) lvl z) okE .inr CE ts;unfold qar_f;rw[hL];simp only[Option.bind_some];by_cases h:lvl=5
  ·have e1:(lvl==(↑(List.length L):Int))=true:=by rw[hl,h]; rfl
   simp only[e1,cond_true];rw[qaC,zaaa];refine zaas (zavj (qar_i n) ts.length (fun l h1 h2=>ih 0 l h1 (by omega) (by omega) (by simp only[h] at hn; omega) (by omega)) fuel ts he (by unfold fuel; omega) (Nat.le_refl _)) (fun x n t1 c h1 h2=>?_) (fun w=>rfl);dsimp only[okE];refine zaan okE .inr x h1 ⟨by have:=c.1; omega,by have:=c.2; omega⟩
  ·have e1:(lvl==(↑(List.length L):Int))=false:=by rw[hl]; simpa using h
   have hw:IntKind.wrap IntKind.i64 (lvl+(1:Int))=lvl+1:=i64_in _ (by omega);simp only[e1,cond_false];rw[hw];refine zaas (ih (lvl+1) ts he (by omega) (by omega) (by omega) hb) (fun x m t1 c h1 h2=>?_) (fun w=>rfl);dsimp only[okE];have hc:=c.1;rw[qar_l5,zaaa];refine zaas (exprL (qar_i n) L (ts.length) lvl h0 (by omega) hl (fun l h1 h2=>ih (lvl+1) l h1 (by omega) (by omega) (by omega) (by omega)) fuel t1 x h1 (by unfold fuel; omega) (by omega)) (fun y k t2 c2 h3 h4=>?_) (fun w=>rfl);dsimp only[ok5];refine zaan okE .inr y h3 ⟨by omega,?_⟩;have:=c.2;omega
theorem exprG (ts:List Token) (he:Ends ts) (hb:ts.length<1000000):Good (fun z=>qar 0 z) okE .inr CE ts:=by
 rw[qar,zaaa];exact exprI fuel 0 ts he (by omega) (by omega) (by unfold fuel; omega) hb
end Lift.A4
namespace Lift.A4
open Go Go.RowKit Lift Go.IntWalk Lift.Fn Lift.A1P Lift.A3
set_option linter.unusedVariables false
set_option linter.unusedSimpArgs false
abbrev RS:=(TStmt×(List Token))⊕(Wrong)
abbrev RB:=((List TStmt)×(List Token))⊕(Wrong)
abbrev R4:=((List Token)×Int×(List UInt8)×(List UInt8)×Int×Int×(List UInt8)×(List TExpr)×Int×(List TStmt)×(List TStmt))
def okS (s:TStmt) (z:List Token):RS:=.inl (s,z)
def okB (b:List TStmt) (z:List Token):RB:=.inl (b,z)
def CS (s:TStmt) (n:Nat):Prop:=0<n∧nS s≤2*n
def CB (b:List TStmt) (n:Nat):Prop:=0<n∧nSs b≤2*n
theorem nS_mk (k:Int) (a b:List UInt8) (e:TExpr) (c:Int) (t o:List TStmt):nS (TStmt.mk k a b e c t o)=1+nE e+nSs t+nSs o:=by simp[nS]
theorem zadw:nSs []=0:=by simp[nSs]
theorem zaqe:∀ (a b:List TStmt),nSs (a++b)=nSs a+nSs b
 |[],b=>by simp[nSs]
 |x::a,b=>by simp only[List.cons_append,nSs,zaqe a b]; omega
theorem zat7 (x:TStmt):nSs [x]=nS x:=by simp[nSs]
theorem zau3 (ts:List Token) (he:Ends ts) (hb:ts.length<1000000):Good (fun z=>qaw z) okS .inr CS ts:=by
 rw[qaw,zaaa];unfold qaw_f;refine zacs he (fun a r h1 h2=>?_) (fun w=>rfl);dsimp only;refine zabe h1 (fun r2 h3 h4=>?_) ?_
 ·dsimp only[cond_true];refine zaas (exprG r2 h3 (by omega)) (fun x n t1 c h5 h6=>?_) (fun w=>rfl);dsimp only[okE];refine zabc h5 (fun r3 h7 h8=>?_) (fun w=>rfl);dsimp only;refine zaan okS .inr _ h7 ⟨by omega,?_⟩;rw[nS_mk,zabl,zadw];have:=c.2;omega
 dsimp only[cond_false];refine zabe h1 (fun r2 h3 h4=>?_) ?_
 ·dsimp only[cond_true];refine zaas (exprG r2 h3 (by omega)) (fun x n t1 c h5 h6=>?_) (fun w=>rfl);dsimp only[okE];refine zabc h5 (fun r3 h7 h8=>?_) (fun w=>rfl);dsimp only;refine zaan okS .inr _ h7 ⟨by omega,?_⟩;rw[nS_mk,zabl,zadw];have:=c.2;omega
 dsimp only[cond_false];refine zabc h1 (fun r2 h3 h4=>?_) (fun w=>rfl);dsimp only;refine zabe h3 (fun r3 h5 h6=>?_) ?_
 ·dsimp only[cond_true];refine zacs h5 (fun b r4 h7 h8=>?_) (fun w=>rfl);dsimp only;refine zaas (exprG r4 h7 (by omega)) (fun x n t1 c h9 h10=>?_) (fun w=>rfl);dsimp only[okE];refine zabc h9 (fun r5 h11 h12=>?_) (fun w=>rfl);dsimp only;refine zaan okS .inr _ h11 ⟨by omega,?_⟩;rw[nS_mk,zabl,zadw];have:=c.2;omega
 dsimp only[cond_false];refine zacs h3 (fun b r4 h7 h8=>?_) (fun w=>rfl);dsimp only;refine zabc h7 (fun r5 h9 h10=>?_) (fun w=>rfl);dsimp only;refine zaan okS .inr _ h9 ⟨by omega,?_⟩;rw[nS_mk,zadw,zahc];omega
abbrev four:List (List UInt8):=[[(108:UInt8),(111:UInt8),(99:UInt8),(107:UInt8)],[(117:UInt8),(110:UInt8),(108:UInt8),(111:UInt8),(99:UInt8),(107:UInt8)],[(115:UInt8),(116:UInt8),(97:UInt8),(114:UInt8),(116:UInt8)],[(106:UInt8),(111:UInt8),(105:UInt8),(110:UInt8)]]
def okO (s:Option (Int×List UInt8)) (z:List Token):R4⊕((Wrong)⊕((List Token)×Int×(List UInt8)×(List UInt8)×Int×Int×(List UInt8)×Int)):=
 match s with
 |some k=>.inl (z,k.1,[],k.2,0,0,[],[],0,[],[])
 |none=>.inr (.inr (z,0,[],[],0,0,[],0))
def badO (w:Wrong):R4⊕((Wrong)⊕((List Token)×Int×(List UInt8)×(List UInt8)×Int×Int×(List UInt8)×Int)):=.inr (.inl w)
def CO (s:Option (Int×List UInt8)) (n:Nat):Prop:=match s with|some _=>3≤n|none=>n=0
theorem fourG (B:List Token→Option RB):∀ (k f:Nat) (i:Nat) (ts:List Token),i+k=4→k<f→Ends ts →
  Good (fun z=>qaz_i4 B f 4 i z 0 [] [] 0 0 [] 0 four) okO badO CO ts:=by
 intro k;induction k with
 |zero=>
  intro f i ts hi hf he;obtain ⟨f,rfl⟩:∃ q,f=q+1:=⟨f-1,by omega⟩;show Good (fun z=>qaz_t4 B (qaz_i4 B f) 4 i z 0 [] [] 0 0 [] 0 four) okO badO CO ts;unfold qaz_t4;have e1:decide ((i:Int)<4)=false:=by simp only[decide_eq_false_iff_not]; omega
  simp only[e1,cond_false];exact zaan okO badO none he rfl
 |succ k ih=>
  intro f i ts hi hf he;obtain ⟨f,rfl⟩:∃ q,f=q+1:=⟨f-1,by omega⟩;show Good (fun z=>qaz_t4 B (qaz_i4 B f) 4 i z 0 [] [] 0 0 [] 0 four) okO badO CO ts;unfold qaz_t4;have e1:decide ((i:Int)<4)=true:=by simp only[decide_eq_true_eq]; omega
  have e2:(decide ((0:Int)≤(i:Int))&&decide ((i:Int)<(↑(List.length four):Int)))=true:=by
   simp only[Bool.and_eq_true,decide_eq_true_eq];exact ⟨by omega,by show (i:Int)<4; omega⟩
  have hlt:(i:Int).toNat<four.length:=by show (i:Int).toNat<4; omega
  simp only[e1,e2,cond_true];rw[List.getElem?_eq_getElem hlt];generalize four[(i:Int).toNat]=word;simp only[Option.bind_some];refine zabe he (fun r h1 h2=>?_) ?_
  ·dsimp only[cond_true];refine zacs h1 (fun a r2 h3 h4=>?_) (fun w=>rfl);dsimp only;refine zabc h3 (fun r3 h5 h6=>?_) (fun w=>rfl);dsimp only;exact zaan okO badO (some (IntKind.wrap IntKind.i64 ((5:Int)+i),a)) h5 (by show 3≤_; omega)
  ·dsimp only[cond_false];rw[i64_in ((i:Int)+1) (by omega)];exact ih f (i+1) ts (by omega) (by omega) he
end Lift.A4
namespace Lift.A4
open Go Go.RowKit Lift Go.IntWalk Lift.Fn Lift.A1P Lift.A3
set_option linter.unusedVariables false
set_option linter.unusedSimpArgs false
theorem stmtG (B : List Token → Option RB) (N : Nat) (hB : ∀ l, Ends l → l.length < N → Good (fun z => B z) okB .inr CB l) (ts : List Token) (he : Ends ts) (hN : ts.length ≤ N) (hb : ts.length < 1000000) :
  Good (fun z=>qaz B z) okS .inr CS ts:=by
 rw[qaz,zaaa];unfold qaz_f;refine zaee he (fun _ _ _ _ _ _=>rfl) fun t r e=>?_
 subst e;dsimp only;by_cases hk:t.kind=1
 ·have e2:(t.kind==1)=true:=by simp[hk]
  simp only[e2,cond_true];refine zaas (zau3 (t::r) he hb) (fun x n t1 c h1 h2=>?_) (fun w=>rfl);dsimp only[okS];refine zaan okS .inr _ h1 ⟨by have:=c.1; omega,?_⟩;rw[zauv];have:=c.2;omega
 have e2:(t.kind==1)=false:=by simp[hk]
 simp only[e2,cond_false];rw[qaz_l4,zaaa];refine zaas (fourG B 4 fuel 0 (t::r) rfl (by unfold fuel; omega) he) (fun o n t1 c h1 h2=>?_) (fun w=>rfl);cases o with
 |some p=>
  dsimp only[okO];refine zaan okS .inr _ h1 ⟨by have:3≤n:=c; omega,?_⟩;rw[nS_mk,zadw,zahc];have:3≤n:=c;omega
 |none=>
  have hn:n=0:=c;subst hn;dsimp only[okO];refine zabe h1 (fun r2 h3 h4=>?_) ?_
  ·dsimp only[cond_true];refine zaas (exprG r2 h3 (by omega)) (fun x m t2 c2 h5 h6=>?_) (fun w=>rfl);dsimp only[okE];refine zabc h5 (fun r3 h7 h8=>?_) (fun w=>rfl);dsimp only;refine zaan okS .inr _ h7 ⟨by omega,?_⟩;rw[nS_mk,zabl,zadw];have:=c2.2;omega
  dsimp only[cond_false];refine zabe h1 (fun r2 h3 h4=>?_) ?_
  ·dsimp only[cond_true];refine zaas (exprG r2 h3 (by omega)) (fun x m t2 c2 h5 h6=>?_) (fun w=>rfl);dsimp only[okE];refine zaas (hB t2 h5 (by omega)) (fun b m2 t3 c3 h7 h8=>?_) (fun w=>rfl);dsimp only[okB];refine zabe h7 (fun r4 h9 h10=>?_) ?_
   ·dsimp only[cond_true];refine zaas (hB r4 h9 (by omega)) (fun b2 m3 t4 c4 h11 h12=>?_) (fun w=>rfl);dsimp only[okB];refine zaan okS .inr _ h11 ⟨by omega,?_⟩;rw[nS_mk,zabl];have:=c2.2;have:=c3.2;have:=c4.2;omega
   ·dsimp only[cond_false];refine zaan okS .inr _ h7 ⟨by omega,?_⟩;rw[nS_mk,zabl,zadw];have:=c2.2;have:=c3.2;omega
  dsimp only[cond_false];refine zabc h1 (fun r2 h3 h4=>?_) (fun w=>rfl);dsimp only;refine zaee h3 (fun _ _ _ _ _ _=>rfl) fun t5 r5 e=>?_
  subst e;dsimp only;have tail:Good (fun z=>Option.bind (qav 2 z) fun y24=>
         match y24 with
         |.inl y25=>
          Option.bind (B (Prod.snd y25)) fun y26=>
          match y26 with
          |.inl y27=>
           some (.inl ((TStmt.mk (11:Int) [] [] (TExpr.mk 0 0 [] []) (Token.num (Prod.fst y25)) (Prod.fst y27) []),(Prod.snd y27)))
          |.inr y27=>
           some (.inr (y27))
         |.inr y25=>
          some (.inr (y25))) okS .inr (fun x n=>CS x (0+(n+1))) (t5::r5):=by
   refine zap2 h3 (by decide) (fun _ _ _ _ _ _=>rfl) (fun t6 r6 h7 h8=>?_) (fun w=>rfl);dsimp only;refine zaas (hB r6 h7 (by omega)) (fun b m2 t3 c3 h9 h10=>?_) (fun w=>rfl);dsimp only[okB];refine zaan okS .inr _ h9 ⟨by omega,?_⟩;rw[nS_mk,zahc,zadw];have:=c3.2;omega
  by_cases h6:t5.kind=2
  ·have e6:(t5.kind==2)=true:=by simp[h6]
   simp only[e6,cond_true,Option.bind_some];by_cases h7:t5.num>(1000:Int)
   ·simp only[decide_eq_true h7,cond_true];exact zapv h3 (fun w=>rfl)
   ·simp only[decide_eq_false h7,cond_false];exact tail
  ·have e6:(t5.kind==2)=false:=by simp[h6]
   simp only[e6,cond_false,Option.bind_some];exact tail
abbrev R3:=(Wrong)⊕((List Token)×(List TStmt))
def ok3 (b:List TStmt) (z:List Token):R3:=.inr (z,b)
theorem zavo (B : List Token → Option RB) (N : Nat) (hB : ∀ l, Ends l → l.length < N → Good (fun z => B z) okB .inr CB l) (hN : N < 1000000) :
  ∀ (f:Nat) (ts:List Token) (b:List TStmt),Ends ts→ts.length<f→ts.length≤N→b.length+ts.length<1000000 →
   Good (fun z=>qaq_i3 B f z b) ok3 .inl (fun x n=>0<n∧nSs x≤nSs b+2*n) ts:=by
 intro f;induction f with
 |zero=>intro ts _ _ h; omega
 |succ f ih=>
  intro ts b he hf hl hb;show Good (fun z=>qaq_t3 B (qaq_i3 B f) z b) ok3 .inl (fun x n=>0<n∧nSs x≤nSs b+2*n) ts;unfold qaq_t3;refine zabe he (fun r h1 h2=>?_) ?_
  ·simp only[Bool.not_true,cond_false];exact zaan ok3 .inl b h1 ⟨by omega,by omega⟩
  ·simp only[Bool.not_false,cond_true];refine zaas (stmtG B N hB ts he hl (by omega)) (fun s n t1 c h1 h2=>?_) (fun w=>rfl);dsimp only[okS];have hc:=c.1;have e1:decide ((List.length b+List.length [s])*(152:Nat)≤(140737488355328:Nat)∧List.length b+List.length [s]≤(9223372036854775807:Nat))=true:=by
    simp only[decide_eq_true_eq,List.length_cons,List.length_nil];omega
   simp only[e1,cond_true];refine zadg (ih t1 (b++[s]) h1 (by omega) (by omega) (by rw[List.length_append,List.length_cons,List.length_nil]; omega)) fun y m _ hy=>?_
   rw[zaqe,zat7] at hy;have:=c.2;omega
theorem zave:∀ (n:Nat) (ts:List Token),Ends ts→ts.length<n→ts.length<1000000→Good (fun z=>qaq_i n z) okB .inr CB ts:=by
 intro n;induction n with
 |zero=>intro ts _ h; omega
 |succ n ih=>
  intro ts he hn hb;show Good (fun z=>qaq_f (qaq_i n) z) okB .inr CB ts;unfold qaq_f;refine zabc he (fun r h1 h2=>?_) (fun w=>rfl);dsimp only;rw[qaq_l3,zaaa];refine zaas (zavo (qaq_i n) r.length (fun l h3 h4=>ih l h3 (by omega) (by omega)) (by omega) fuel r [] h1 (by unfold fuel; omega) (Nat.le_refl _) (by simp only[List.length_nil]; omega)) (fun x m t1 c h3 h4=>?_) (fun w=>rfl);dsimp only[ok3];refine zaan okB .inr x h3 ⟨by omega,?_⟩;have:=c.2;rw[zadw] at this;omega
theorem zavg (ts:List Token) (he:Ends ts) (hb:ts.length<1000000):Good (fun z=>qaq z) okB .inr CB ts:=by
 rw[qaq,zaaa];exact zave fuel ts he (by unfold fuel; omega) hb
end Lift.A4
namespace Lift.A4
open Go Go.RowKit Lift Go.IntWalk Lift.Fn Lift.A1P Lift.A3
set_option linter.unusedVariables false
set_option linter.unusedSimpArgs false
abbrev R2:=(Wrong)⊕((List Token)×(List TCell)×(List (List UInt8))×(List TThread))
abbrev RP:=((List Token)×(List TCell)×(List (List UInt8))×(List TThread))⊕(Wrong)
def ok2 (p:TProg) (z:List Token):R2:=.inr (z,p.cells,p.mutexes,p.threads)
def okP (p:TProg) (z:List Token):RP:=.inl (z,p.cells,p.mutexes,p.threads)
def CP (q p:TProg) (n:Nat):Prop:=p.cells.length≤q.cells.length+n∧p.mutexes.length≤q.mutexes.length+n∧nT p.threads≤nT q.threads+2*n
theorem zasn:∀ (a b:List TThread),nT (a++b)=nT a+nT b
 |[],b=>by simp[nT]
 |x::a,b=>by simp only[List.cons_append,nT,zasn a b]; omega
theorem zau7 (x:TThread):nT [x]=1+nSs x.body:=by simp[nT]
theorem zat4:∀ (f:Nat) (ts:List Token) (q:TProg),Ends ts→ts.length<f→ts.length+q.cells.length<1000000→ts.length+q.mutexes.length<1000000→ts.length+q.threads.length<1000000 →
  Good (fun z=>qax_i2 f z q.cells q.mutexes q.threads) ok2 .inl (CP q) ts:=by
 intro f;induction f with
 |zero=>intro ts q _ h; omega
 |succ f ih=>
  intro ts q he hf hc hm ht;show Good (fun z=>qax_t2 (qax_i2 f) z q.cells q.mutexes q.threads) ok2 .inl (CP q) ts;unfold qax_t2;have g1:∀ c:TCell,decide ((List.length q.cells+List.length [c])*(24:Nat)≤(140737488355328:Nat)∧List.length q.cells+List.length [c]≤(9223372036854775807:Nat))=true:=by
   intro c;simp only[decide_eq_true_eq,List.length_cons,List.length_nil];omega
  have g2:∀ a:List UInt8,decide ((List.length q.mutexes+List.length [a])*(16:Nat)≤(140737488355328:Nat)∧List.length q.mutexes+List.length [a]≤(9223372036854775807:Nat))=true:=by
   intro c;simp only[decide_eq_true_eq,List.length_cons,List.length_nil];omega
  have g3:∀ x:TThread,decide ((List.length q.threads+List.length [x])*(40:Nat)≤(140737488355328:Nat)∧List.length q.threads+List.length [x]≤(9223372036854775807:Nat))=true:=by
   intro c;simp only[decide_eq_true_eq,List.length_cons,List.length_nil];omega
  simp only[g1,g2,g3,cond_true]
  have cell:∀ (r:List Token) (c:TCell) (k:Nat),Ends r→r.length+k=ts.length→0<k →
    Good (fun z=>qax_i2 f z (q.cells++[c]) q.mutexes q.threads) ok2 .inl (fun x n=>CP q x (n+k)) r:=by
   intro r c k h1 h2 h3;refine zadg (ih r ⟨q.cells++[c],q.mutexes,q.threads⟩ h1 (by omega) (by simp only[List.length_append,List.length_cons,List.length_nil]; omega) (by show _+q.mutexes.length<_; omega) (by show _+q.threads.length<_; omega)) fun y m _ hy=>?_
   simp only[CP,List.length_append,List.length_cons,List.length_nil] at hy ⊢;omega
  refine zaee he (fun _ _ _ _ _ _=>rfl) fun t r e=>?_
  subst e;dsimp only;by_cases hk:t.kind=5
  ·have e2:(t.kind != 5)=false:=by simp[hk]
   simp only[e2,cond_false];exact zaan ok2 .inl q he ⟨by omega,by omega,by omega⟩
  have e2:(t.kind != 5)=true:=by simp[hk]
  simp only[e2,cond_true];refine zabe he (fun r1 h1 h2=>?_) ?_
  ·dsimp only[cond_true];refine zacs h1 (fun a r2 h3 h4=>?_) (fun w=>rfl);dsimp only;refine zabe h3 (fun r3 h5 h6=>?_) ?_
   ·dsimp only[cond_true];have num:∀ (ngt:Bool) (r4:List Token) (k:Nat),Ends r4→r4.length+k=(t::r).length→0<k→Good (fun z=>Option.bind (qav 2 z) fun y6=>
      match y6 with
      |.inl y7=>
       bif ngt then
        Option.bind (qaD [(59:UInt8)] (Prod.snd y7)) fun y8=>
        match y8 with
        |.inl y9=>
         qax_i2 f y9 (q.cells++[TCell.mk a (IntKind.wrap IntKind.i64 ((0:Int)-Token.num (Prod.fst y7)))]) q.mutexes q.threads
        |.inr y9=>
         some (.inl (y9))
       else
        Option.bind (qaD [(59:UInt8)] (Prod.snd y7)) fun y10=>
        match y10 with
        |.inl y11=>
         qax_i2 f y11 (q.cells++[TCell.mk a (Token.num (Prod.fst y7))]) q.mutexes q.threads
        |.inr y11=>
         some (.inl (y11))
      |.inr y7=>
       some (.inl (y7))) ok2 .inl (fun x n=>CP q x (n+k)) r4:=by
     intro ngt r4 k h7 h8 h9;refine zap2 h7 (by decide) (fun _ _ _ _ _ _=>rfl) (fun t6 r6 h10 h11=>?_) (fun w=>rfl);dsimp only;cases ngt with
     |true=>
      dsimp only[cond_true];refine zabc h10 (fun r7 h12 h13=>?_) (fun w=>rfl);dsimp only;exact zadg (cell r7 _ (k+2) h12 (by omega) (by omega)) fun y m _ hy=>by rw[show m+1+1+k=m+(k+2) by omega]; exact hy
     |false=>
      dsimp only[cond_false];refine zabc h10 (fun r7 h12 h13=>?_) (fun w=>rfl);dsimp only;exact zadg (cell r7 _ (k+2) h12 (by omega) (by omega)) fun y m _ hy=>by rw[show m+1+1+k=m+(k+2) by omega]; exact hy
    refine zabe h5 (fun r4 h7 h8=>?_) ?_
    ·exact num true r4 (1+1+1+1) h7 (by omega) (by omega)
    ·exact num false r3 (1+1+1) h5 (by omega) (by omega)
   ·dsimp only[cond_false];refine zabc h3 (fun r3 h5 h6=>?_) (fun w=>rfl);dsimp only;exact cell r3 _ (1+1+1) h5 (by omega) (by omega)
  dsimp only[cond_false];refine zabe he (fun r1 h1 h2=>?_) ?_
  ·dsimp only[cond_true];refine zacs h1 (fun a r2 h3 h4=>?_) (fun w=>rfl);dsimp only;refine zabc h3 (fun r3 h5 h6=>?_) (fun w=>rfl);dsimp only;refine zadg (ih r3 ⟨q.cells,q.mutexes++[a],q.threads⟩ h5 (by omega) (by show _+q.cells.length<_; omega) (by simp only[List.length_append,List.length_cons,List.length_nil]; omega) (by show _+q.threads.length<_; omega)) fun y m _ hy=>?_
   simp only[CP,List.length_append,List.length_cons,List.length_nil] at hy ⊢;omega
  dsimp only[cond_false];refine zabc he (fun r1 h1 h2=>?_) (fun w=>rfl);dsimp only;refine zacs h1 (fun a r2 h3 h4=>?_) (fun w=>rfl);dsimp only;refine zaas (zavg r2 h3 (by omega)) (fun b n t1 c h5 h6=>?_) (fun w=>rfl);dsimp only[okB];refine zadg (ih t1 ⟨q.cells,q.mutexes,q.threads++[TThread.mk a b]⟩ h5 (by omega) (by show _+q.cells.length<_; omega) (by show _+q.mutexes.length<_; omega) (by simp only[List.length_append,List.length_cons,List.length_nil]; omega)) fun y m _ hy=>?_
  have:=c.2;simp only[CP,zasn,zau7] at hy ⊢;omega
theorem zata (ts:List Token) (he:Ends ts) (hb:ts.length<1000000):Good (fun z=>qax z) okP .inr (CP ⟨[],[],[]⟩) ts:=by
 rw[qax,zaaa];unfold qax_f;rw[qax_l2,zaaa];refine zaas (zat4 fuel ts ⟨[],[],[]⟩ he (by unfold fuel; omega) (by simp only[List.length_nil]; omega) (by simp only[List.length_nil]; omega) (by simp only[List.length_nil]; omega)) (fun x n t1 c h1 h2=>?_) (fun w=>rfl);dsimp only[ok2];exact zaan okP .inr x h1 c
end Lift.A4
namespace Lift.A1P
open Go Go.RowKit Lift Go.IntWalk Lift.Fn
theorem zaor:∀ (l:List UInt8) (acc u:Nat),Lib.parseUint10 acc l=.ok u→acc*10 ^ l.length≤u
 |[],acc,u,h=>by
  simp only[Lib.parseUint10] at h;injection h with h
  simp[h]
 |c::r,acc,u,h=>by
  simp only[Lib.parseUint10] at h;split at h
  ·split at h
   ·cases h
   ·split at h
    ·cases h
    ·have:=zaor r _ u h;rw[List.length_cons,Nat.pow_succ];refine Nat.le_trans ?_ this;rw[show acc*(10 ^ r.length*10)=(acc*10)*10 ^ r.length by rw[Nat.mul_comm (10 ^ r.length) 10,← Nat.mul_assoc]];exact Nat.mul_le_mul_right _ (by omega)
  ·cases h
end Lift.A1P
namespace Lift.A1P
open Go Go.RowKit Lift Go.IntWalk Lift.Fn
theorem zat0 (x:List UInt8):sgn (sgn x)=sgn x:=by
 by_cases k1:1<x.length∧twos.contains (x.take 2)=true
 ·have e:sgn x=x.take 2:=by unfold sgn; rw[if_pos k1]
  rw[e];have hl:(x.take 2).length=2:=by rw[List.length_take]; omega
  have ht:(x.take 2).take 2=x.take 2:=by rw[List.take_take]; rfl
  unfold sgn;rw[if_pos ⟨by omega,by rw[ht]; exact k1.2⟩,ht]
 ·by_cases k2:ones.contains (x.headD 0)=true
  ·have e:sgn x=x.take 1:=by unfold sgn; rw[if_neg k1,if_pos k2]
   rw[e];match x,k2 with
   |[],k2=>exact absurd k2 (by decide)
   |b::x,k2=>
    show sgn [b]=[b];unfold sgn;rw[if_neg (fun hh=>by have:=hh.1; simp at this)];exact if_pos k2
  ·have e:sgn x=[]:=by unfold sgn; rw[if_neg k1,if_neg k2]
   rw[e];decide
theorem alone (a:Int) (rs:List Int) (ha:(a::rs).all Sp.isRune=true) (h0:(tokR (a::rs)).2=0):∃ ds,whole ds (tokR (a::rs)).1∧a::rs=ds++restR (a::rs):=by
 cases hg:goesR a with
 |true=>
  have ht:=zaie (w:=a::rs) hg;have hd:((a::rs).takeWhile goesR).headD 0=a:=by rw[List.takeWhile_cons,if_pos hg]; rfl
  have htt:((a::rs).takeWhile goesR).takeWhile goesR=(a::rs).takeWhile goesR:=zano List.all_takeWhile;refine ⟨(a::rs).takeWhile goesR,⟨by simp[hg],zail ha,?_,ht⟩,?_⟩
  ·refine Prod.ext ?_ ?_
   ·show (tokR ((a::rs).takeWhile goesR)).1=_;unfold tokR;rw[hd,htt,List.headD_cons,hg];rfl
   ·show (tokR ((a::rs).takeWhile goesR)).2=0;rw[← h0];unfold tokR;rw[hd,htt,List.headD_cons,hg];rfl
  ·unfold restR;rw[List.headD_cons,hg];exact (List.takeWhile_append_dropWhile).symm
 |false=>
  have hc:(sgn (encs (a::rs))==[])=false:=by
   unfold tokR at h0;rw[List.headD_cons,hg,cond_false] at h0;cases hc:(sgn (encs (a::rs))==[]) with
   |true=>rw[hc] at h0; simp at h0
   |false=>rfl
  have hne:sgn (encs (a::rs))≠[]:=by simpa using hc
  obtain ⟨h1,h2⟩:=zagu a rs ha hne;have htok:tokR (a::rs)=(⟨3,sgn (encs (a::rs)),0,0⟩,0):=by
   unfold tokR;rw[List.headD_cons,hg,cond_false,hc,cond_false]
  obtain ⟨n,hn⟩:∃ n,(sgn (encs (a::rs))).length=n+1:=⟨(sgn (encs (a::rs))).length-1,by omega⟩;have htk:(a::rs).take (sgn (encs (a::rs))).length=a::rs.take n:=by rw[hn]; rfl
  refine ⟨(a::rs).take (sgn (encs (a::rs))).length,⟨by rw[htk]; exact List.cons_ne_nil _ _,?_,?_,?_⟩,?_⟩
  ·rw[List.all_eq_true] at ha ⊢;exact fun r hr=>ha r (List.mem_of_mem_take hr)
  ·rw[htok];rw[htk] at h1 ⊢;unfold tokR;rw[List.headD_cons,hg,cond_false,h1,zat0,hc,cond_false]
  ·rw[htok,h1]
  ·unfold restR;rw[List.headD_cons,hg,cond_false,List.take_append_drop]
end Lift.A1P
namespace Lift.A1P
open Go Go.RowKit Lift Go.IntWalk Lift.Fn
theorem zafu (t:List UInt8) (h:(Sp.runes2 t).code≠0):qag t=some ([],⟨(Sp.runes2 t).code,(Sp.runes2 t).at_,(Sp.runes2 t).name⟩):=by
 rw[qag,zaaa];unfold qag_f;rw[zap0,Option.bind_some];have:((Sp.runes2 t).code != 0)=true:=by simp[h]
 simp only[this,cond_true]
end Lift.A1P
namespace Lift.A1P
open Go Go.RowKit Lift Go.IntWalk Lift.Fn
theorem zasv (r:Int):qaI r=some (Sp.digit r):=by
 rw[← zanw,qaI,qaZ,zaaa,zaaa];rfl
theorem zaqj (r:Int):qaK r=some (Sp.letter r):=by
 rw[qaK,zaaa];unfold qaK_f;simp only[cond_eq_ite,zapy,Option.bind_some];repeat' split
 all_goals refine zaga ?_
 all_goals simp only[Sp.letter,Sp.isRune,beq_iff_eq,Bool.and_eq_true,decide_eq_true_eq,decide_eq_false_iff_not,Bool.false_eq_true,false_iff,true_iff,Bool.not_eq_true] at *
 all_goals omega
theorem zaf6 (ds:List Int) (r:Int) (es:List Int):∃ s,((put (ds++r::es) s0).1)[ds.length]? = some s∧s.rune=r∧s.at_=((encs ds).length:Int):=by
 have hl:ds.length<(put (ds++r::es) s0).1.length:=by rw[zap6,List.length_append,List.length_cons]; omega
 refine ⟨_,List.getElem?_eq_getElem hl,?_,?_⟩
 ·have h:=congrArg (fun l=>l[ds.length]?) (zakk (ds++r::es) s0);simp only[List.getElem?_map,List.getElem?_eq_getElem hl,Option.map_some] at h;rw[List.getElem?_append_right (Nat.le_refl _)] at h;simpa using h
 ·have h:=zaql (ds++r::es) s0 ds.length _ (List.getElem?_eq_getElem hl);rw[h,List.take_left];simp[s0]
theorem zadj (rs:List Int):(put rs s0).1.length=rs.length:=zap6 rs s0
theorem runL:∀ (es ds:List Int) (n:Nat),es.length<n→(ds++es).length≤9000000 →
  qaU_i2 n (put (ds++es) s0).1 (ds.length:Int)=some ((ds.length:Int)+((es.takeWhile goesR).length:Int))
 |[],ds,n,hn,hl=>by
  obtain ⟨n,rfl⟩:∃ q,n=q+1:=⟨n-1,by simp at hn; omega⟩;simp only[qaU_i2,qaU_t2,zadj,List.append_nil];rw[decide_eq_false (by omega),cond_false];simp
 |r::es,ds,n,hn,hl=>by
  obtain ⟨n,rfl⟩:∃ q,n=q+1:=⟨n-1,by simp at hn; omega⟩;obtain ⟨s,h1,h2,_⟩:=zaf6 ds r es;simp only[qaU_i2,qaU_t2,zadj];rw[decide_eq_true (by rw[List.length_append,List.length_cons]; omega),cond_true,decide_eq_true (by omega),cond_true,Int.toNat_natCast,h1,Option.bind_some,zaqj,Option.bind_some,h2];simp only[Option.bind_some,zasv,h2,cond_true];rw[List.length_append,List.length_cons] at hl;have ih:=runL es (ds++[r]) n (by simp at hn; omega) (by rw[List.append_assoc,List.singleton_append,List.length_append,List.length_cons]; omega);rw[List.append_assoc,List.singleton_append,List.length_append,List.length_cons,List.length_nil] at ih;rw[i64_in ((ds.length:Int)+1) (by omega)];rw[show ((ds.length+(0+1):Nat):Int)=(ds.length:Int)+1 by omega] at ih;rw[List.takeWhile_cons];unfold goesR at ih ⊢;cases hL:Sp.letter r with
  |true=>
   simp only[Bool.not_true,cond_false,ih,Bool.true_or,if_true,List.length_cons];congr 1;omega
  |false=>
   cases hD:Sp.digit r with
   |true=>
    simp only[Bool.not_true,Bool.not_false,cond_true,cond_false,ih,Bool.or_true,if_true,List.length_cons];congr 1;omega
   |false=>
    simp only[Bool.not_false,cond_true,Bool.or_self,Bool.false_eq_true,if_false,List.length_nil];congr 1
theorem zauj (es ds:List Int) (hl:(ds++es).length≤9000000):qaU (put (ds++es) s0).1 (ds.length:Int)=some ((ds.length:Int)+((es.takeWhile goesR).length:Int)):=by
 rw[qaU,zaaa];unfold qaU_f;rw[qaU_l2,zaaa,runL es ds fuel (by rw[List.length_append] at hl; unfold fuel; omega) hl];rfl
theorem part1 (ds w es:List Int) (hw:w≠[]):qaT (put (ds++(w++es)) s0).1 (encs (ds++(w++es))) (ds.length:Int) ((ds.length:Int)+(w.length:Int))=some (encs w):=by
 obtain ⟨a,w',rfl⟩:∃ a w',w=a::w':=by
  cases w with
  |nil=>exact absurd rfl hw
  |cons a w=>exact ⟨a,w,rfl⟩
 obtain ⟨s,h1,_,h3⟩:=zaf6 ds a (w'++es);have hlen:(encs (ds++(a::w'++es))).length=(encs ds).length+((encs (a::w')).length+(encs es).length):=by
  rw[zaaf,zaaf,List.length_append,List.length_append]
 rw[qaT,zaaa];unfold qaT_f;rw[zadj];have htake:(encs (ds++(a::w'++es))).drop (encs ds).length=encs (a::w')++encs es:=by
  rw[zaaf,List.drop_left,zaaf]
 cases es with
 |nil=>
  rw[decide_eq_false (by rw[List.append_nil,List.length_append]; omega),cond_false,decide_eq_true (by omega),cond_true,Int.toNat_natCast];rw[List.cons_append,h1,Option.bind_some,h3];rw[List.cons_append] at hlen htake;rw[show (decide ((0:Int)≤((encs ds).length:Int))&&(decide (((encs ds).length:Int)≤((encs (ds++a::(w'++[]))).length:Int))&&decide (((encs (ds++a::(w'++[]))).length:Int)≤((encs (ds++a::(w'++[]))).length:Int))))=true by
   simp only[Bool.and_eq_true,decide_eq_true_eq]; omega]
  rw[cond_true,Int.toNat_natCast,Int.toNat_natCast,List.take_length,htake];simp[encs]
 |cons b es=>
  obtain ⟨s2,g1,_,g3⟩:=zaf6 (ds++(a::w')) b es;rw[List.append_assoc,List.length_append] at g1;rw[decide_eq_true (by simp only[List.length_append,List.length_cons]; omega),cond_true,decide_eq_true (by omega),cond_true];rw[show ((ds.length:Int)+((a::w').length:Int)).toNat=ds.length+(a::w').length by omega,g1,Option.bind_some,decide_eq_true (by omega),cond_true,Int.toNat_natCast];rw[List.cons_append,h1,Option.bind_some,h3,g3,zaaf ds (a::w'),List.length_append];rw[List.cons_append] at hlen htake;rw[show (decide ((0:Int)≤((encs ds).length:Int))&&(decide (((encs ds).length:Int)≤(((encs ds).length+(encs (a::w')).length:Nat):Int))&&decide ((((encs ds).length+(encs (a::w')).length:Nat):Int)≤((encs (ds++a::(w'++b::es))).length:Int))))=true by
   simp only[Bool.and_eq_true,decide_eq_true_eq]; omega]
  rw[cond_true,Int.toNat_natCast,Int.toNat_natCast,List.drop_take,htake,show (encs ds).length+(encs (a::w')).length-(encs ds).length=(encs (a::w')).length by omega,List.take_left]
theorem inL (l:List (List UInt8)) (x:List UInt8) (hl:l.length≤4000):∀ (k n:Nat) (i:Int),0≤i→l.length-i.toNat≤k→k<n →
  qaP_i2 n l x i=some (if (l.drop i.toNat).contains x then .inl true else .inr ()):=by
 intro k;have fin:∀ (n:Nat) (i:Int),0≤i→¬ i<l.length→qaP_i2 (n+1) l x i=some (if (l.drop i.toNat).contains x then .inl true else .inr ()):=by
  intro n i h0 c;rw[List.drop_eq_nil_of_le (by omega)];simp only[qaP_i2,qaP_t2,c,decide_false,cond_false,List.contains_nil,Bool.false_eq_true,if_false]
 induction k with
 |zero=>
  intro n i h0 hk hn;obtain ⟨n,rfl⟩:∃ q,n=q+1:=⟨n-1,by omega⟩;exact fin n i h0 (by omega)
 |succ k ih=>
  intro n i h0 hk hn;obtain ⟨n,rfl⟩:∃ q,n=q+1:=⟨n-1,by omega⟩;by_cases c:i<l.length
  ·have ha:i.toNat<l.length:=by omega
   rw[List.drop_eq_getElem_cons ha];simp only[qaP_i2,qaP_t2,c,h0,decide_true,cond_true,List.getElem?_eq_getElem ha,Option.bind_some,List.contains_cons];rw[i64_in (i+1) (by omega)];cases hx:(l[i.toNat]==x) with
   |true=>
    have:(x==l[i.toNat])=true:=by rw[beq_iff_eq] at hx ⊢; exact hx.symm
    rw[cond_true,this,Bool.true_or,if_pos rfl]
   |false=>
    have:(x==l[i.toNat])=false:=by rw[beq_eq_false_iff_ne] at hx ⊢; exact fun h=>hx h.symm
    rw[cond_false,this,Bool.false_or,ih n (i+1) (by omega) (by omega) (by omega),show (i+1).toNat=i.toNat+1 by omega]
  ·exact fin n i h0 c
theorem in1 (l:List (List UInt8)) (x:List UInt8) (hl:l.length≤4000):qaP l x=some (l.contains x):=by
 rw[qaP,zaaa];unfold qaP_f;rw[qaP_l2,zaaa,inL l x hl l.length fuel 0 (by omega) (by omega) (by unfold fuel; omega),Int.toNat_zero,List.drop_zero];cases l.contains x<;>rfl
def signs:List (List UInt8):=twos++ones.map (fun b=>[b])
theorem zavr (text:List UInt8) (at_:Nat) (ha:at_≤text.length) (ht:text.length≤9000000):∀ (k n:Nat) (i:Int),0≤i→signs.length-i.toNat≤k→k<n →
  qaV_i3 n text at_ i signs=some (match (signs.drop i.toNat).find? (fun s=>decide (s.length≤(text.drop at_).length)&&((text.drop at_).take s.length==s)) with|some s=>.inl s|none=>.inr ()):=by
 have hs:signs.length=22:=rfl;intro k;have fin:∀ (n:Nat) (i:Int),0≤i→¬ i<signs.length→qaV_i3 (n+1) text at_ i signs=some (match (signs.drop i.toNat).find? (fun s=>decide (s.length≤(text.drop at_).length)&&((text.drop at_).take s.length==s)) with|some s=>.inl s|none=>.inr ()):=by
  intro n i h0 c;have hd:signs.drop i.toNat=[]:=List.drop_eq_nil_of_le (by omega);rw[hd];simp only[qaV_i3,qaV_t3,c,decide_false,cond_false,List.find?_nil]
 induction k with
 |zero=>
  intro n i h0 hk hn;obtain ⟨n,rfl⟩:∃ q,n=q+1:=⟨n-1,by omega⟩;exact fin n i h0 (by omega)
 |succ k ih=>
  intro n i h0 hk hn;obtain ⟨n,rfl⟩:∃ q,n=q+1:=⟨n-1,by omega⟩;by_cases c:i<signs.length
  ·have hi:i.toNat<signs.length:=by omega
   have hsl:∀ s∈signs,s.length≤2:=by decide
   have h2:=hsl signs[i.toNat] (List.getElem_mem hi);rw[List.drop_eq_getElem_cons hi,List.find?_cons,List.length_drop];simp only[qaV_i3,qaV_t3,c,h0,decide_true,cond_true,Bool.and_self,List.getElem?_eq_getElem hi,Option.bind_some];rw[i64_in ((text.length:Int)-(at_:Int)) (by omega),i64_in ((at_:Int)+(signs[i.toNat].length:Int)) (by omega),i64_in (i+1) (by omega)];have ih':=ih n (i+1) (by omega) (by omega) (by omega);rw[show (i+1).toNat=i.toNat+1 by omega,List.length_drop] at ih';by_cases hle:signs[i.toNat].length≤text.length-at_
   ·rw[decide_eq_true (show (text.length:Int)-(at_:Int)≥(signs[i.toNat].length:Int) by omega),cond_true,decide_eq_true hle,Bool.true_and];have b1:(decide ((0:Int)≤(at_:Int))&&(decide ((at_:Int)≤(at_:Int)+(signs[i.toNat].length:Int))&&decide ((at_:Int)+(signs[i.toNat].length:Int)≤(text.length:Int))))=true:=by
     simp only[Bool.and_eq_true,decide_eq_true_eq]; omega
    have hd:List.drop (Int.toNat (at_:Int)) (List.take (Int.toNat ((at_:Int)+(signs[i.toNat].length:Int))) text)=(text.drop at_).take signs[i.toNat].length:=by
     rw[Int.toNat_natCast,show ((at_:Int)+(signs[i.toNat].length:Int)).toNat=at_+signs[i.toNat].length by omega,List.drop_take,show at_+signs[i.toNat].length-at_=signs[i.toNat].length by omega]
    rw[b1,cond_true,hd];cases hq:((text.drop at_).take signs[i.toNat].length==signs[i.toNat]) with
    |true=>simp only[cond_true]
    |false=>simp only[cond_false]; exact ih'
   ·rw[decide_eq_false (show ¬ (text.length:Int)-(at_:Int)≥(signs[i.toNat].length:Int) by omega),cond_false,decide_eq_false hle,Bool.false_and];exact ih'
  ·exact fin n i h0 c
theorem zaom (L:List (List UInt8)) (m:Nat) (hL:∀ s∈L,s.length=m) (d:List UInt8):L.find? (fun s=>decide (s.length≤d.length)&&(d.take s.length==s))=if m≤d.length∧L.contains (d.take m)=true then some (d.take m) else none:=by
 induction L with
 |nil=>simp
 |cons s L ih=>
  have hs:=hL s (by simp);have ih':=ih (fun x hx=>hL x (by simp[hx]));rw[List.find?_cons,hs,ih',List.contains_cons];by_cases hm:m≤d.length
  ·rw[decide_eq_true hm,Bool.true_and];cases hq:(d.take m==s) with
   |true=>
    have:d.take m=s:=by simpa using hq
    rw[this];exact (if_pos ⟨hm,rfl⟩).symm
   |false=>simp only[Bool.false_or]
  ·rw[decide_eq_false hm,Bool.false_and,if_neg (fun h=>hm h.1),if_neg (fun h=>hm h.1)]
theorem zatd (b:UInt8):(ones.map (fun b=>[b])).contains [b]=ones.contains b:=by
 simp only[ones,List.map_cons,List.map_nil,List.contains_cons,List.contains_nil];have:∀ c:UInt8,([b]==[c])=(b==c):=fun c=>by
  rw[Bool.eq_iff_iff];simp
 simp only[this]
theorem zatp (d:List UInt8):signs.find? (fun s=>decide (s.length≤d.length)&&(d.take s.length==s))=if sgn d=[] then none else some (sgn d):=by
 unfold signs;rw[List.find?_append,zaom twos 2 (fun s hs=>(zajd s hs).1),zaom (ones.map fun b=>[b]) 1 (by intro s hs; obtain ⟨b,_,rfl⟩:=List.mem_map.1 hs; rfl)];unfold sgn;by_cases h1:1<d.length∧twos.contains (d.take 2)=true
 ·have hne:d.take 2≠[]:=by
   intro h;have:=congrArg List.length h;rw[List.length_take,List.length_nil] at this;omega
  rw[if_pos (show 2≤d.length∧twos.contains (d.take 2)=true from ⟨by omega,h1.2⟩),if_pos h1,if_neg hne];rfl
 ·rw[if_neg (show ¬ (2≤d.length∧twos.contains (d.take 2)=true) from fun h=>h1 ⟨by omega,h.2⟩),if_neg h1];cases d with
  |nil=>
   rw[if_neg (by simp)];have:ones.contains (([]:List UInt8).headD 0)=false:=by decide
   rw[this]; rfl
  |cons b d=>
   have ht:(b::d).take 1=[b]:=rfl;rw[ht,zatd,List.headD_cons];cases ones.contains b with
   |true=>rw[if_pos ⟨by simp,rfl⟩]; rfl
   |false=>rw[if_neg (by simp)]; rfl
theorem sign2 (text:List UInt8) (at_:Nat) (ha:at_≤text.length) (ht:text.length≤9000000):qaV text at_=some (sgn (text.drop at_)):=by
 rw[qaV,zaaa];unfold qaV_f;have hs:qaW=some signs:=by rw[qaW,zaaa]; rfl
 have hsl:signs.length=22:=rfl;rw[hs,Option.bind_some,qaV_l3,zaaa,zavr text at_ ha ht 22 fuel 0 (by omega) (by omega) (by unfold fuel; omega),Int.toNat_zero,List.drop_zero,zatp];by_cases h:sgn (text.drop at_)=[]
 ·rw[if_pos h,h]; rfl
 ·rw[if_neg h]; rfl
end Lift.A1P
namespace Lift.A1P
open Go Go.RowKit Lift Go.IntWalk Lift.Fn
def dig (c:UInt8):Bool:=decide (48≤c.toNat∧c.toNat≤57)
theorem zat3:∀ i:Fin 256,tens.contains (UInt8.ofNat i.val)=dig (UInt8.ofNat i.val):=by decide +kernel
theorem zatq (c:UInt8):tens.contains c=dig c:=by
 have:=zat3 ⟨c.toNat,c.toNat_lt⟩;simpa using this
theorem zad6 {α:Type} {p:α→Bool}:∀ {l:List α},l.dropWhile p=[]↔l.all p=true
 |[]=>by simp
 |a::l=>by
  rw[List.dropWhile_cons,List.all_cons];cases p a with
  |true=>simp only[if_true,Bool.true_and]; exact zad6
  |false=>simp
theorem zahq {α:Type} {p:α→Bool}:∀ {l:List α} {a:α} {r:List α},l.dropWhile p=a::r→p a=false
 |[],_,_,h=>by simp at h
 |b::l,a,r,h=>by
  rw[List.dropWhile_cons] at h;cases hb:p b with
  |true=>rw[hb,if_pos rfl] at h; exact zahq h
  |false=>
   rw[hb,if_neg (by decide)] at h;cases h;exact hb
theorem zaon (t:List UInt8):Lib.trimS t tens=[]↔t.all dig=true:=by
 have hp:(fun c=>tens.contains c)=dig:=funext zatq;unfold Lib.trimS Lib.trimLeftS Lib.trimRightS;rw[hp];constructor
 ·intro h;rw[zad6] at h;cases hm:t.reverse.dropWhile dig with
  |nil=>
   rw[zad6] at hm;simpa using hm
  |cons a r=>
   have ha:=zahq hm;rw[hm,List.all_eq_true] at h;have:=h a (by simp);rw[ha] at this;cases this
 ·intro h;have:t.reverse.dropWhile dig=[]:=zad6.2 (by simpa using h);rw[this];rfl
def dvl:Nat→List UInt8→Nat
 |acc,[]=>acc
 |acc,c::r=>dvl (acc*10+(c.toNat-48)) r
theorem zajn:∀ (l:List UInt8) (acc k:Nat),l.all dig=true→acc<10 ^ k→k+l.length≤18→Lib.parseUint10 acc l=.ok (dvl acc l)∧dvl acc l<10 ^ (k+l.length)
 |[],acc,k,_,h,_=>⟨rfl,by rw[List.length_nil,Nat.add_zero]; exact h⟩
 |c::r,acc,k,ha,h,hk=>by
  simp only[List.all_cons,Bool.and_eq_true] at ha;have hc:48≤c.toNat∧c.toNat≤57:=by simpa [dig] using ha.1
  simp only[List.length_cons] at hk;have hacc:acc<100000000000000000:=Nat.lt_of_lt_of_le h (Nat.le_trans (Nat.pow_le_pow_right (by decide) (show k≤17 by omega)) (by decide));have h1:acc*10+(c.toNat-48)<10 ^ (k+1):=by rw[Nat.pow_succ]; omega
  clear h;obtain ⟨q1,q2⟩:=zajn r (acc*10+(c.toNat-48)) (k+1) ha.2 h1 (by omega);refine ⟨?_,?_⟩
  ·simp only[Lib.parseUint10];rw[if_pos hc,if_neg (by omega),if_neg (by omega),q1];rfl
  ·rw[List.length_cons,show k+(r.length+1)=k+1+r.length by omega];exact q2
theorem zaqm (t:List UInt8) (ht:t.length≤10):∀ (k n:Nat) (i:Int) (acc:Nat),0≤i→i≤t.length→t.length-i.toNat≤k→k<n→acc<10 ^ i.toNat →
  qaS_i5 n t (acc:Int) i=some (if (t.drop i.toNat).all dig then .inr ((dvl acc (t.drop i.toNat):Nat):Int) else .inl (0,false)):=by
 intro k;have fin:∀ (n:Nat) (i:Int) (acc:Nat),0≤i→¬ i<t.length→qaS_i5 (n+1) t (acc:Int) i=some (if (t.drop i.toNat).all dig then .inr ((dvl acc (t.drop i.toNat):Nat):Int) else .inl (0,false)):=by
  intro n i acc h0 c;have hd:t.drop i.toNat=[]:=List.drop_eq_nil_of_le (by omega);rw[hd,List.all_nil,if_pos rfl];simp only[qaS_i5,qaS_t5,c,decide_false,cond_false];rfl
 induction k with
 |zero=>
  intro n i acc h0 hi hk hn ha;obtain ⟨n,rfl⟩:∃ q,n=q+1:=⟨n-1,by omega⟩;exact fin n i acc h0 (by omega)
 |succ k ih=>
  intro n i acc h0 hi hk hn ha;obtain ⟨n,rfl⟩:∃ q,n=q+1:=⟨n-1,by omega⟩;by_cases c:i<t.length
  ·have hx:i.toNat<t.length:=by omega
   rw[List.drop_eq_getElem_cons hx,List.all_cons];simp only[qaS_i5,qaS_t5,c,h0,decide_true,cond_true,List.getElem?_eq_getElem hx,Option.bind_some];generalize t[i.toNat]=b;have hb:=b.toNat_lt;by_cases hd:48≤b.toNat∧b.toNat≤57
   ·have e1:dig b=true:=by simp[dig,hd]
    have hacc:acc<1000000000:=Nat.lt_of_lt_of_le ha (Nat.le_trans (Nat.pow_le_pow_right (by decide) (show i.toNat≤9 by omega)) (by decide));have ha':acc*10+(b.toNat-48)<10 ^ (i.toNat+1):=by rw[Nat.pow_succ]; omega
    clear ha;rw[decide_eq_false (show ¬ ((b.toNat:Nat):Int)<48 by omega),cond_false,decide_eq_false (show ¬ ((b.toNat:Nat):Int)>57 by omega),cond_false,e1,Bool.true_and];rw[i64_in ((b.toNat:Nat):Int) (by omega),i64_in (10*(acc:Int)) (by omega),i64_in (10*(acc:Int)+((b.toNat:Nat):Int)) (by omega),i64_in (10*(acc:Int)+((b.toNat:Nat):Int)-48) (by omega),i64_in (i+1) (by omega)];have:=ih n (i+1) (acc*10+(b.toNat-48)) (by omega) (by omega) (by omega) (by omega) (by rw[show (i+1).toNat=i.toNat+1 by omega]; exact ha');rw[show ((acc*10+(b.toNat-48):Nat):Int)=10*(acc:Int)+((b.toNat:Nat):Int)-48 by omega,show (i+1).toNat=i.toNat+1 by omega] at this;rw[this];rfl
   ·have e1:dig b=false:=by simp only[dig,decide_eq_false_iff_not]; exact hd
    rw[e1,Bool.false_and,if_neg (by decide)];by_cases h48:b.toNat<48
    ·rw[decide_eq_true (by omega),cond_true]
    ·rw[decide_eq_false (by omega),cond_false,decide_eq_true (by omega),cond_true]
  ·exact fin n i acc h0 c
theorem zauf (c:UInt8) (r:List UInt8) (hc:48≤c.toNat∧c.toNat≤57) (hl:(c::r).length≤9000000):∃ n,qaS (c::r)=some (n,(numS (c::r)).2)∧((numS (c::r)).2=true→n=(numS (c::r)).1):=by
 have main:¬ (1<(c::r).length∧c.toNat=48)→∃ n,(bif decide ((↑(List.length (c::r)):Int)>(10:Int)) then
     some (((0:Int)),(false))
    else
     bif (↑(List.length (c::r)):Int)==(0:Int) then
      some (((0:Int)),(false))
     else
      Option.bind (qaS_l5 (c::r) (0:Int) (0:Int)) fun y1=>
      match y1 with
      |.inl y2=>
       some ((Prod.fst y2),(Prod.snd y2))
      |.inr y2=>
       some ((y2),(decide (y2≤(2147483647:Int)))))=some (n,(numS (c::r)).2)∧((numS (c::r)).2=true→n=(numS (c::r)).1):=by
  intro hA;have hN:numS (c::r)=if Lib.trimS (c::r) tens≠[] then (0,false) else if (zaav (c::r)).2=true then ((zaav (c::r)).1,false) else ((zaav (c::r)).1,decide ((zaav (c::r)).1≤2147483647)):=by
   conv=>lhs; unfold numS
   rw[if_neg (show ¬ (1<(c::r).length∧((c::r).headD 0).toNat=48) from hA)]
  rw[hN];have e0:(((c::r).length:Int)==0)=false:=by rw[beq_eq_false_iff_ne,List.length_cons]; omega
  cases hall:(c::r).all dig with
  |false=>
   have ht:Lib.trimS (c::r) tens≠[]:=fun h=>by rw[(zaon _).1 h] at hall; cases hall
   rw[if_pos ht];refine ⟨0,?_,fun h=>by cases h⟩;by_cases h10:(c::r).length≤10
   ·rw[decide_eq_false (by omega),cond_false,e0,cond_false,qaS_l5,zaaa];have:=zaqm (c::r) h10 (c::r).length fuel 0 0 (by omega) (by omega) (by omega) (by unfold fuel; omega) (by simp);rw[Int.toNat_zero,List.drop_zero,hall,if_neg (by decide)] at this;rw[show ((0:Nat):Int)=0 from rfl] at this;rw[this];rfl
   ·rw[decide_eq_true (by omega),cond_true]
  |true=>
   have ht:¬ Lib.trimS (c::r) tens≠[]:=fun h=>h ((zaon _).2 hall)
   rw[if_neg ht];have hpm:¬ (c.toNat=43∨c.toNat=45):=by omega
   by_cases h10:(c::r).length≤10
   ·obtain ⟨p1,p2⟩:=zajn (c::r) 0 0 hall (by simp) (by omega);have hb:dvl 0 (c::r)<10 ^ 10:=Nat.lt_of_lt_of_le p2 (Nat.pow_le_pow_right (by omega) (by omega));have e10:(10:Nat) ^ 10=10000000000:=by decide
    have ha:zaav (c::r)=(((dvl 0 (c::r):Nat):Int),false):=by
     unfold zaav Lib.atoiAll;simp only;rw[if_neg hpm];unfold Lib.parseMag;rw[if_neg (List.cons_ne_nil _ _),p1];simp only;rw[if_neg (by omega),if_neg (by omega),if_neg (by omega)]
    rw[ha];refine ⟨((dvl 0 (c::r):Nat):Int),?_,fun _=>rfl⟩;rw[decide_eq_false (by omega),cond_false,e0,cond_false,qaS_l5,zaaa];have:=zaqm (c::r) h10 (c::r).length fuel 0 0 (by omega) (by omega) (by omega) (by unfold fuel; omega) (by simp);rw[Int.toNat_zero,List.drop_zero,hall,if_pos rfl] at this;rw[show ((0:Nat):Int)=0 from rfl] at this;rw[this];rfl
   ·
    rw[decide_eq_true (by omega),cond_true];have hf:(if (zaav (c::r)).2=true then ((zaav (c::r)).1,false) else ((zaav (c::r)).1,decide ((zaav (c::r)).1≤2147483647))).2=false:=by
     cases ho:(zaav (c::r)).2 with
     |true=>rfl
     |false=>
      rw[if_neg (by decide)];unfold zaav at ho ⊢;cases hq:Lib.atoiAll (c::r) with
      |ok v=>
       unfold Lib.atoiAll at hq;simp only at hq;rw[if_neg hpm] at hq;cases hp:Lib.parseMag (c::r) with
       |ok u=>
        rw[hp] at hq;simp only at hq;rw[if_neg (show ¬ (c.toNat=45∧9223372036854775808<u) by omega)] at hq;split at hq
        ·cases hq
        ·rw[if_neg (show ¬ c.toNat=45 by omega)] at hq;cases hq;have hu:=hp;unfold Lib.parseMag at hu;rw[if_neg (List.cons_ne_nil _ _)] at hu;simp only[Lib.parseUint10] at hu;rw[if_pos hc] at hu;split at hu
         ·cases hu
         ·split at hu
          ·cases hu
          ·have h3:=zaor r _ u hu;have h4:10 ^ 10≤10 ^ r.length:=Nat.pow_le_pow_right (by omega) (by simp only[List.length_cons] at h10; omega);have h48:c.toNat≠48:=fun hh=>hA ⟨by omega,hh⟩
           have h5:1*10 ^ r.length≤(0*10+(c.toNat-48))*10 ^ r.length:=Nat.mul_le_mul_right _ (by omega);have h6:(10000000000:Nat)=10 ^ 10:=by decide
           simp only;rw[decide_eq_false_iff_not];omega
       |range=>rw[hp] at hq; cases hq
       |_=>rw[hp] at hq; cases hq
      |range=>rw[hq] at ho; cases ho
      |_=>rw[hq] at ho; cases ho
    rw[hf];exact ⟨0,rfl,fun h=>by cases h⟩
 rw[qaS,zaaa];unfold qaS_f;by_cases h1:1<(c::r).length
 ·rw[decide_eq_true (by omega),cond_true,List.getElem?_cons_zero,Option.bind_some];by_cases h2:c.toNat=48
  ·have e:(((c.toNat:Nat):Int)==48)=true:=by rw[beq_iff_eq]; omega
   rw[e,cond_true];have hN:numS (c::r)=(0,false):=by
    unfold numS;rw[if_pos (show 1<(c::r).length∧((c::r).headD 0).toNat=48 from ⟨h1,h2⟩)]
   rw[hN];exact ⟨0,rfl,fun h=>by cases h⟩
  ·have e:(((c.toNat:Nat):Int)==48)=false:=by rw[beq_eq_false_iff_ne]; omega
   rw[e,cond_false];exact main (fun h=>h2 h.2)
 ·rw[decide_eq_false (by omega),cond_false];exact main (fun h=>h1 h.1)
end Lift.A1P
namespace Lift.A1P
open Go Go.RowKit Lift Go.IntWalk Lift.Fn
theorem zaec:∀ (k k':Nat) (p:Int) (rs:List Int),rs.all Sp.isRune=true→rs.length≤k→rs.length≤k'→toks k p rs=toks k' p rs
 |k,k',p,[],_,_,_=>by
  have e:∀ k p,toks k p []=.inr []:=fun k p=>by cases k<;>rfl
  rw[e,e]
 |0,_,_,r::rs,_,hk,_=>by simp at hk
 |_+1,0,_,r::rs,_,_,hk=>by simp at hk
 |k+1,k'+1,p,r::rs,ha,hk,hk'=>by
  simp only[toks];cases hc:((tokR (r::rs)).2 != 0) with
  |true=>rfl
  |false=>
   have h0:(tokR (r::rs)).2=0:=by simpa using hc
   obtain ⟨w,hw,hsp⟩:=alone r rs ha h0;have hR:(restR (r::rs)).all Sp.isRune=true:=zaaz (ds:=w) (by rw[← hsp]; exact ha);have hwl:0<w.length:=List.length_pos_iff.2 hw.1;have hl:=congrArg List.length hsp;rw[List.length_append,List.length_cons] at hl;obtain ⟨fs,hfs⟩:=zaap (restR (r::rs)) false;have hsl:(skip false (restR (r::rs))).length≤(restR (r::rs)).length:=by
    have:=congrArg List.length hfs;rw[List.length_append] at this;omega
   simp only[List.length_cons] at hk hk';have hS:(skip false (restR (r::rs))).all Sp.isRune=true:=zaaz (ds:=fs) (by rw[← hfs]; exact hR);rw[zaec k k' _ _ hS (by omega) (by omega)]
theorem zavi (ds:List Int) (r:Int) (es:List Int) (ha:(ds++r::es).all Sp.isRune=true) (hl:(encs (ds++r::es)).length≤4000) :
  ∃ (T:Token) (i:Int),qaX (put (ds++r::es) s0).1 (encs (ds++r::es)) (ds.length:Int)=some (T,i,(tokR (r::es)).2)∧T.at_=((encs ds).length:Int) ∧
   ((tokR (r::es)).2=0→T=⟨(tokR (r::es)).1.kind,(tokR (r::es)).1.text,(tokR (r::es)).1.num,((encs ds).length:Int)⟩∧∃ w,w≠[]∧r::es=w++restR (r::es)∧i=(ds.length:Int)+(w.length:Int)):=by
 have har:=zaaz ha;have har':=har;simp only[List.all_cons,Bool.and_eq_true] at har';obtain ⟨s,h1,h2,h3⟩:=zaf6 ds r es;have hlr:=zaa5 (ds++r::es);have hlen:(encs (ds++r::es)).length=(encs ds).length+(encs (r::es)).length:=by rw[zaaf,List.length_append]
 have hwl:=zao0 goesR (r::es);rw[qaX,zaaa];unfold qaX_f;rw[decide_eq_true (show (0:Int)≤(ds.length:Int) by omega),cond_true,Int.toNat_natCast,h1,Option.bind_some,zaqj,Option.bind_some,zasv,Option.bind_some,h2,cond_true];simp only[Option.bind_some,h3];cases hg:goesR r with
 |true=>
  have hw:(r::es).takeWhile goesR≠[]:=by rw[List.takeWhile_cons,if_pos hg]; exact List.cons_ne_nil _ _
  have hrun:=zauj (r::es) ds (by omega);have hpart:=part1 ds ((r::es).takeWhile goesR) ((r::es).dropWhile goesR) hw;rw[List.takeWhile_append_dropWhile] at hpart;have hin:=in1 words (encs ((r::es).takeWhile goesR)) (by decide +kernel);have hwrap:IntKind.wrap IntKind.i64 ((ds.length:Int)+(((r::es).takeWhile goesR).length:Int)-(ds.length:Int))=(((r::es).takeWhile goesR).length:Int):=by
   have:=zaa5 ((r::es).takeWhile goesR);rw[i64_in _ (by omega)];omega
  have split:r::es=(r::es).takeWhile goesR++restR (r::es):=by
   unfold restR;rw[List.headD_cons,hg,cond_true,List.takeWhile_append_dropWhile]
  -- both ways to it are one
  have both:∀ (b:Bool),b=Sp.digit r→∃ (T:Token) (i:Int),(Option.bind (qaU (put (ds++r::es) s0).1 (ds.length:Int)) fun y4=>
     Option.bind (qaT (put (ds++r::es) s0).1 (encs (ds++r::es)) (ds.length:Int) y4) fun y5=>
     Option.bind (qaR) fun y6=>
     Option.bind (qaP y6 y5) fun y7=>
     bif b then
      Option.bind (qaS y5) fun y8=>
      bif !Prod.snd y8 then
       some ((Token.mk (0:Int) y5 (0:Int) ((encs ds).length:Int)),((ds.length:Int)),((22:Int)))
      else
       some ((Token.mk (2:Int) y5 (Prod.fst y8) ((encs ds).length:Int)),(y4),((0:Int)))
     else
      bif y7 then
       some ((Token.mk (4:Int) y5 (0:Int) ((encs ds).length:Int)),(y4),((0:Int)))
      else
       bif decide (IntKind.wrap IntKind.i64 (y4-(ds.length:Int))>(16:Int)) then
        some ((Token.mk (0:Int) y5 (0:Int) ((encs ds).length:Int)),((ds.length:Int)),((21:Int)))
       else
        some ((Token.mk (1:Int) y5 (0:Int) ((encs ds).length:Int)),(y4),((0:Int))))=some (T,i,(tokR (r::es)).2)∧T.at_=((encs ds).length:Int) ∧
   ((tokR (r::es)).2=0→T=⟨(tokR (r::es)).1.kind,(tokR (r::es)).1.text,(tokR (r::es)).1.num,((encs ds).length:Int)⟩∧∃ w,w≠[]∧r::es=w++restR (r::es)∧i=(ds.length:Int)+(w.length:Int)):=by
   intro b hb;subst hb;rw[hrun,Option.bind_some,hpart,Option.bind_some,zatb,Option.bind_some,hin,Option.bind_some,hwrap];unfold tokR;rw[List.headD_cons,hg,cond_true];cases hd:Sp.digit r with
   |true=>
    rw[cond_true,cond_true];have hda:48≤r∧r≤57:=by simpa [Sp.digit] using hd
    have ht:(r::es).takeWhile goesR=r::es.takeWhile goesR:=by rw[List.takeWhile_cons,if_pos hg]
    have he:encs ((r::es).takeWhile goesR)=UInt8.ofNat r.toNat::encs (es.takeWhile goesR):=by
     rw[ht,zaam];have:r<128:=by omega
     simp[encB,bytesOf,Sp.enc,this]
    obtain ⟨n,hn1,hn2⟩:=zauf (UInt8.ofNat r.toNat) (encs (es.takeWhile goesR)) (by rw[zabq _ (by omega)]; omega) (by rw[← he]; omega);rw[← he] at hn1 hn2;rw[hn1,Option.bind_some];cases hq:(numS (encs ((r::es).takeWhile goesR))).2 with
    |false=>exact ⟨_,_,rfl,rfl,fun h=>absurd (show (22:Int)=0 from h) (by decide)⟩
    |true=>
     rw[hn2 hq];exact ⟨_,_,rfl,rfl,fun _=>⟨rfl,_,hw,split,rfl⟩⟩
   |false=>
    rw[cond_false,cond_false];cases words.contains (encs ((r::es).takeWhile goesR)) with
    |true=>exact ⟨_,_,rfl,rfl,fun _=>⟨rfl,_,hw,split,rfl⟩⟩
    |false=>
     rw[cond_false,cond_false];have:decide ((((r::es).takeWhile goesR).length:Int)>16)=decide (16<((r::es).takeWhile goesR).length):=by
      rw[Bool.eq_iff_iff,decide_eq_true_eq,decide_eq_true_eq]; omega
     rw[this];cases decide (16<((r::es).takeWhile goesR).length) with
     |true=>exact ⟨_,_,rfl,rfl,fun h=>absurd (show (21:Int)=0 from h) (by decide)⟩
     |false=>exact ⟨_,_,rfl,rfl,fun _=>⟨rfl,_,hw,split,rfl⟩⟩
  cases hL:Sp.letter r with
  |true=>rw[cond_true]; exact both _ rfl
  |false=>
   have hd:Sp.digit r=true:=by unfold goesR at hg; rw[hL,Bool.false_or] at hg; exact hg
   have:=both _ rfl;rw[hd] at this ⊢;rw[cond_false,cond_true];exact this
 |false=>
  have hL:Sp.letter r=false:=by unfold goesR at hg; exact (Bool.or_eq_false_iff.1 hg).1
  have hD:Sp.digit r=false:=by unfold goesR at hg; exact (Bool.or_eq_false_iff.1 hg).2
  rw[hL,hD,cond_false,cond_false];have hsg:=sign2 (encs (ds++r::es)) (encs ds).length (by omega) (by omega);rw[zaeg] at hsg;rw[hsg,Option.bind_some];unfold tokR;rw[List.headD_cons,hg,cond_false];cases hc:(sgn (encs (r::es))==[]) with
  |true=>exact ⟨_,_,rfl,rfl,fun h=>absurd (show (20:Int)=0 from h) (by decide)⟩
  |false=>
   have hne:sgn (encs (r::es))≠[]:=by simpa using hc
   obtain ⟨q1,q2⟩:=zagu r es har hne;have hsl:(sgn (encs (r::es))).length≤2:=by
    unfold sgn;split
    ·rw[List.length_take]; omega
    ·split
     ·rw[List.length_take]; omega
     ·simp
   have hle:(sgn (encs (r::es))).length≤(r::es).length:=by
    have:=congrArg List.length q1;have h9:=zaa5 ((r::es).take (sgn (encs (r::es))).length);rcases Nat.lt_or_ge (r::es).length (sgn (encs (r::es))).length with hlt|hge
    ·
     exfalso;have h1:(r::es).length=1:=by simp only[List.length_cons] at hlt ⊢; omega
     have h2:(sgn (encs (r::es))).length=2:=by simp only[List.length_cons] at hlt; omega
     have hes:es=[]:=by simp only[List.length_cons] at h1; exact List.eq_nil_of_length_eq_zero (by omega)
     subst hes;rw[h2] at q1;have q3:encs [r]=sgn (encs [r]):=q1;obtain ⟨b,u,hb⟩:=zalm r [];have hbb:b.toNat<128:=by
      unfold sgn at q3 h2;by_cases k1:1<(encs [r]).length∧twos.contains ((encs [r]).take 2)=true
      ·have hm:(encs [r]).take 2∈twos:=by simpa using k1.2
       have:=(zajd _ hm).2;rw[hb] at this;cases u with
       |nil=>simp only[List.take_succ_cons,List.take_nil,List.all_cons,List.all_nil,Bool.and_true,decide_eq_true_eq] at this; exact this
       |cons c u=>simp only[List.take_succ_cons,List.take_zero,List.all_cons,Bool.and_eq_true,decide_eq_true_eq] at this; exact this.1
      ·rw[if_neg k1] at h2;by_cases k2:ones.contains ((encs [r]).headD 0)=true
       ·rw[if_pos k2,List.length_take] at h2; omega
       ·rw[if_neg k2] at h2; simp at h2
     obtain ⟨e1,e2⟩:=zaev har'.1 hb hbb;rw[← q3,zaam,e1] at h2;simp[encs] at h2
    ·exact hge
   have hwrap:IntKind.wrap IntKind.i64 ((ds.length:Int)+((sgn (encs (r::es))).length:Int))=(ds.length:Int)+((sgn (encs (r::es))).length:Int):=by
    rw[List.length_append] at hlr;rw[i64_in _ (by omega)]
   rw[hwrap];refine ⟨_,_,rfl,rfl,fun _=>⟨rfl,(r::es).take (sgn (encs (r::es))).length,?_,?_,?_⟩⟩
   ·intro hh;have:=congrArg List.length hh;rw[List.length_take,List.length_cons,List.length_nil] at this;omega
   ·unfold restR;rw[List.headD_cons,hg,cond_false,List.take_append_drop]
   ·rw[List.length_take];omega
end Lift.A1P
namespace Lift.A1P
open Go Go.RowKit Lift Go.IntWalk Lift.Fn
def jr:List (List Int)→List Int
 |[]=>[]
 |[w]=>w
 |w::v::ws=>w++32::jr (v::ws)
theorem zaun:Sp.blank 32=true:=by decide
end Lift.A1P
namespace Lift.A4
open Go Go.RowKit Lift Go.IntWalk Lift.Fn Lift.A1P
set_option linter.unusedVariables false
set_option linter.unusedSimpArgs false
theorem zaup {u:List UInt8} (h:2≤u.length) (y:List UInt8):sgn (u++y)=sgn u:=by
 have h1:(u++y).take 2=u.take 2:=List.take_append_of_le_length h;have h2:(u++y).take 1=u.take 1:=List.take_append_of_le_length (by omega);have h3:(u++y).headD 0=u.headD 0:=by
  cases u with
  |nil=>simp at h
  |cons a u=>rfl
 unfold sgn;rw[h1,h2,h3];by_cases k:twos.contains (u.take 2)=true
 ·rw[if_pos ⟨by rw[List.length_append]; omega,k⟩,if_pos ⟨by omega,k⟩]
 ·have k1:¬ (1<(u++y).length∧twos.contains (u.take 2)=true):=fun hh=>k hh.2
  have k2:¬ (1<u.length∧twos.contains (u.take 2)=true):=fun hh=>k hh.2
  rw[if_neg k1,if_neg k2]
theorem zaux (c:Int):1≤(encB c).length:=by
 rw[zacv];have:=zacx c;omega
theorem zatv (w:List Int) (c:Int) (x x':List Int) (hw:w≠[]) (h:restR (w++c::x)=c::x) :
  tokR (w++c::x')=tokR (w++c::x)∧restR (w++c::x')=c::x':=by
 have h1:(w++c::x).headD 0=w.headD 0:=zakh hw _;have h2:(w++c::x').headD 0=w.headD 0:=zakh hw _;cases hg:goesR (w.headD 0) with
 |true=>
  have e1:(w++c::x).dropWhile goesR=c::x:=by
   have:=h;unfold restR at this;rwa [h1,hg,cond_true] at this
  have e2:(w++c::x).takeWhile goesR=w:=by
   have:=List.takeWhile_append_dropWhile (p:=goesR) (l:=w++c::x);rw[e1] at this;exact List.append_cancel_right this
  have e3:∀ r∈w,goesR r=true:=fun r hr=>by
   rw[← e2] at hr;exact List.all_eq_true.1 List.all_takeWhile r hr
  have e4:goesR c=false:=by
   cases hc:goesR c with
   |false=>rfl
   |true=>
    rw[List.takeWhile_append_of_pos e3,List.takeWhile_cons,if_pos hc] at e2;have:=congrArg List.length e2;simp only[List.length_append,List.length_cons] at this;omega
  have e5:(w++c::x').takeWhile goesR=w:=by
   rw[List.takeWhile_append_of_pos e3,List.takeWhile_cons,if_neg (by rw[e4]; decide),List.append_nil]
  have e6:(w++c::x').dropWhile goesR=c::x':=by
   have:=List.takeWhile_append_dropWhile (p:=goesR) (l:=w++c::x');rw[e5] at this;exact List.append_cancel_left this
  constructor
  ·unfold tokR;rw[h1,h2,hg,e2,e5];rfl
  ·unfold restR;rw[h2,hg,cond_true,e6]
 |false=>
  have hl:2≤(encs (w++[c])).length:=by
   have:=zaa5 (w++[c]);rw[List.length_append,List.length_cons,List.length_nil] at this;have:0<w.length:=List.length_pos_iff.2 hw;omega
  have s1:∀ y,sgn (encs (w++c::y))=sgn (encs (w++[c])):=by
   intro y;rw[show w++c::y=(w++[c])++y by simp,zaaf];exact zaup hl _
  have e1:(w++c::x).drop (sgn (encs (w++[c]))).length=c::x:=by
   have:=h;unfold restR at this;rwa [h1,hg,cond_false,s1] at this
  have e2:(sgn (encs (w++[c]))).length=w.length:=by
   have:=congrArg List.length e1;simp only[List.length_drop,List.length_append,List.length_cons] at this;omega
  constructor
  ·unfold tokR;rw[h1,h2,hg,cond_false,cond_false,s1 x,s1 x']
  ·unfold restR;rw[h2,hg,cond_false,s1,e2,List.drop_left]
theorem zaez (c:Bool) (l:List Int):(skip c l).length≤l.length:=by
 obtain ⟨ds,h⟩:=zaap l c;have:=congrArg List.length h;rw[List.length_append] at this;omega
theorem zafe:∀ (sep:List Int) (c:Bool) (x:Int) (y y':List Int),skip c (sep++x::y)=x::y→skip c (sep++x::y')=x::y'
 |[],c,x,y,y',h=>by
  simp only[List.nil_append] at h ⊢;cases c with
  |true=>
   simp only[skip] at h;have:=zaez (x != 10) y;rw[h,List.length_cons] at this;omega
  |false=>
   simp only[skip] at h ⊢;by_cases h1:x=35
   ·rw[if_pos h1] at h;have:=zaez true y;rw[h,List.length_cons] at this;omega
   ·rw[if_neg h1] at h ⊢;cases h2:Sp.blank x with
    |true=>
     rw[h2] at h;simp only[if_true] at h;have:=zaez false y;rw[h,List.length_cons] at this;omega
    |false=>rfl
 |q::sep,c,x,y,y',h=>by
  simp only[List.cons_append] at h ⊢;cases c with
  |true=>
   simp only[skip] at h ⊢;exact zafe sep _ x y y' h
  |false=>
   simp only[skip] at h ⊢;by_cases h1:q=35
   ·rw[if_pos h1] at h ⊢;exact zafe sep _ x y y' h
   ·rw[if_neg h1] at h ⊢;cases h2:Sp.blank q with
    |true=>
     rw[h2] at h;simp only[if_true] at h ⊢;exact zafe sep _ x y y' h
    |false=>
     rw[h2] at h;have:=congrArg List.length h;simp only[Bool.false_eq_true,if_false,List.length_cons,List.length_append] at this;omega
noncomputable def T (p:Int) (rs:List Int):(Int×Int)⊕List Token:=toks rs.length p rs
theorem T_nil (p:Int):T p []=.inr []:=rfl
theorem zah1 {r:Int} {rs:List Int} (ha:(r::rs).all Sp.isRune=true) (h0:(tokR (r::rs)).2=0):(skip false (restR (r::rs))).all Sp.isRune=true∧(skip false (restR (r::rs))).length≤rs.length:=by
 obtain ⟨ds,h1,h2,_⟩:=zahu r rs ha h0;obtain ⟨es,h3⟩:=zaap (restR (r::rs)) false;have h4:r::rs=(ds++es)++skip false (restR (r::rs)):=by rw[List.append_assoc,← h3,← h2]
 refine ⟨zaaz (ds:=ds++es) (by rw[← h4]; exact ha),?_⟩;have:=congrArg List.length h2;have q:=zaez false (restR (r::rs));have q2:0<ds.length:=List.length_pos_iff.2 h1;simp only[List.length_cons,List.length_append] at this;omega
theorem zaix (p:Int) (r:Int) (rs:List Int) (ha:(r::rs).all Sp.isRune=true):T p (r::rs)=bif (tokR (r::rs)).2 != 0 then .inl ((tokR (r::rs)).2,p) else
   match T (p+(encs (r::rs)).length-(encs (skip false (restR (r::rs)))).length) (skip false (restR (r::rs))) with
   |.inl e=>.inl e
   |.inr l=>.inr (⟨(tokR (r::rs)).1.kind,(tokR (r::rs)).1.text,(tokR (r::rs)).1.num,p⟩::l):=by
 show toks (rs.length+1) p (r::rs)=_;rw[toks];by_cases h0:(tokR (r::rs)).2=0
 ·obtain ⟨q1,q2⟩:=zah1 ha h0;have e:((tokR (r::rs)).2 != 0)=false:=by simp[h0]
  rw[e,cond_false,cond_false];unfold T;rw[zaec rs.length (skip false (restR (r::rs))).length _ _ q1 q2 (Nat.le_refl _)];all_goals (cases toks (skip false (restR (r::rs))).length (p+(encs (r::rs)).length-(encs (skip false (restR (r::rs)))).length) (skip false (restR (r::rs)))<;>rfl)
 ·have e:((tokR (r::rs)).2 != 0)=true:=by simp[h0]
  rw[e,cond_true,cond_true]
theorem zabf (a b:List Int):((encs (a++b)).length:Int)=(encs a).length+(encs b).length:=by rw[zaaf,List.length_append]; omega
theorem T_cut:∀ (n:Nat) (rs:List Int) (p:Int) (l:List Token),rs.length≤n→rs.all Sp.isRune=true→T p rs=.inr l→∀ (u:List Token) (t:Token) (v:List Token),l=u++t::v →
  ∃ a b,rs=a++b∧a≠[]∧t.at_+t.text.length=p+(encs a).length∧∀ s:List Int,s.all Sp.isRune=true →
   T p (a++32::s)=match T (p+(encs a).length+1+(encs s).length-(encs (skip false s)).length) (skip false s) with
    |.inl e=>.inl e
    |.inr m=>.inr (u++t::m):=by
 intro n;induction n with
 |zero=>
  intro rs p l hn ha h u t v hl;have:rs=[]:=List.eq_nil_of_length_eq_zero (by omega);subst this;rw[T_nil,Sum.inr.injEq] at h;subst h;cases u<;>cases hl
 |succ n ih=>
  intro rs p l hn ha h u t v hl;cases rs with
  |nil=>
   rw[T_nil,Sum.inr.injEq] at h;subst h;cases u<;>cases hl
  |cons r rs=>
   rw[zaix p r rs ha] at h;by_cases h0:(tokR (r::rs)).2=0
   ·have e:((tokR (r::rs)).2 != 0)=false:=by simp[h0]
    rw[e,cond_false] at h;obtain ⟨q1,q2⟩:=zah1 ha h0;obtain ⟨w,hw,hsp⟩:=alone r rs ha h0;simp only[List.length_cons] at hn;have hwl:=hw.2.2.2;have hne:=hw.1;have hws:=hw.2.1;cases hT:T (p+(encs (r::rs)).length-(encs (skip false (restR (r::rs)))).length) (skip false (restR (r::rs))) with
    |inl e=>rw[hT] at h; cases h
    |inr l'=>
     rw[hT] at h;simp only[Sum.inr.injEq] at h;cases u with
     |nil=>
      rw[← h,List.nil_append,List.cons.injEq] at hl;obtain ⟨rfl,rfl⟩:=hl;refine ⟨w,restR (r::rs),hsp,hne,?_,fun s hs=>?_⟩
      ·show p+_=_;rw[hwl]
      ·obtain ⟨b1,b2⟩:=zas3 hw s;have hall:(w++32::s).all Sp.isRune=true:=by
        rw[List.all_append,hws,List.all_cons,hs];rfl
       have hsk:skip false (32::s)=skip false s:=by
        simp only[skip,zaun];rfl
       have hlen:((encs (w++32::s)).length:Int)=(encs w).length+1+(encs s).length:=by
        rw[zabf,zaam,zaml,List.length_append];show ((encs w).length:Int)+((1+(encs s).length:Nat):Int)=_;omega
       cases w with
       |nil=>exact absurd rfl hne
       |cons a w=>
        rw[List.cons_append] at b1 b2 hall hlen ⊢;rw[zaix p a (w++32::s) hall,b1,b2,hsk,hlen];simp only[bne_self_eq_false,cond_false,List.nil_append];rw[show p+(((encs (a::w)).length:Int)+1+(encs s).length)-(encs (skip false s)).length=p+(encs (a::w)).length+1+(encs s).length-(encs (skip false s)).length by omega]
     |cons t0 u=>
      rw[← h,List.cons_append,List.cons.injEq] at hl;obtain ⟨ht0,hl⟩:=hl;obtain ⟨a,b,hab,hane,hat,hs⟩:=ih _ _ _ (by omega) q1 hT u t v hl;obtain ⟨sep,hsep⟩:=zaap (restR (r::rs)) false;rw[hab] at hsep;obtain ⟨c,x,hcx⟩:∃ c x,sep++a=c::x:=by
       cases sep with
       |nil=>
        cases a with
        |nil=>exact absurd rfl hane
        |cons c x=>exact ⟨c,x,rfl⟩
       |cons c sep=>exact ⟨c,sep++a,rfl⟩
      obtain ⟨y,z,hyz⟩:∃ y z,a=y::z:=by
       cases a with
       |nil=>exact absurd rfl hane
       |cons c x=>exact ⟨c,x,rfl⟩
      have hrest:restR (r::rs)=c::(x++b):=by rw[hsep,← List.append_assoc,hcx]; rfl
      have hwhole:r::rs=w++c::(x++b):=by rw[← hrest]; exact hsp
      have hfull:r::rs=(w++sep)++(a++b):=by rw[List.append_assoc,← hsep]; exact hsp
      have hpp:p+(encs (r::rs)).length-(encs (skip false (restR (r::rs)))).length=p+(encs (w++sep)).length:=by
       rw[hab];have:=congrArg (fun l=>((encs l).length:Int)) hfull;rw[zabf (w++sep) (a++b)] at this;omega
      rw[hpp] at hat hs;refine ⟨w++sep++a,b,by rw[List.append_assoc (w++sep)]; exact hfull,?_,?_,fun s hs'=>?_⟩
      ·rw[hyz]; simp
      ·rw[hat,zabf (w++sep) a]; omega
      ·have hsa:a.all Sp.isRune=true:=by
        rw[hab,List.all_append,Bool.and_eq_true] at q1;exact q1.1
       have hwsep:(w++sep).all Sp.isRune=true:=by
        rw[hfull,List.all_append,Bool.and_eq_true] at ha;exact ha.1
       have hskip:skip false (sep++(a++32::s))=a++32::s:=by
        have h5:skip false (sep++(a++b))=a++b:=by rw[← hsep]; exact hab
        rw[hyz,List.cons_append] at h5 ⊢;exact zafe sep false y _ _ h5
       obtain ⟨n1,n2⟩:=zatv w c (x++b) (x++32::s) hne (by rw[← hwhole]; exact hrest);have hnew:w++c::(x++32::s)=w++sep++a++32::s:=by
        rw[← List.cons_append,← hcx];simp
       have hrest2:c::(x++32::s)=sep++(a++32::s):=by
        rw[← List.cons_append,← hcx,List.append_assoc]
       rw[hnew] at n1 n2;rw[← hwhole] at n1;rw[hrest2] at n2;have hall:(w++sep++a++32::s).all Sp.isRune=true:=by
        rw[List.all_append,List.all_append,hwsep,hsa,List.all_cons,hs'];rfl
       have hlen:((encs (w++sep++a++32::s)).length:Int)=(encs (w++sep)).length+(encs (a++32::s)).length:=by
        rw[List.append_assoc (w++sep),zabf]
       have hhead:∃ q qs,w++sep++a++32::s=q::qs:=by
        cases w with
        |nil=>exact absurd rfl hne
        |cons q qs=>exact ⟨q,qs++sep++a++32::s,by simp⟩
       obtain ⟨q,qs,hq⟩:=hhead;rw[hq] at n1 n2 hall hlen ⊢;rw[zaix p q qs hall,n1,n2,hskip,e,cond_false,hlen];rw[show p+(((encs (w++sep)).length:Int)+(encs (a++32::s)).length)-(encs (a++32::s)).length=p+(encs (w++sep)).length by omega];rw[hs s hs'];rw[show p+((encs (w++sep++a)).length:Int)=p+(encs (w++sep)).length+(encs a).length by rw[zabf (w++sep) a]; omega];cases T (p+(encs (w++sep)).length+(encs a).length+1+(encs s).length-(encs (skip false s)).length) (skip false s) with
       |inl e=>rfl
       |inr m=>
        show Sum.inr (_::(u++t::m))=Sum.inr (t0::u++t::m);rw[← ht0];rfl
   ·have e:((tokR (r::rs)).2 != 0)=true:=by simp[h0]
    rw[e,cond_true] at h;cases h
end Lift.A4
namespace Lift.A1P
open Go Go.RowKit Lift Go.IntWalk Lift.Fn
theorem noteR (text:List UInt8) (a3 a4:Int) (a5:List UInt8) (a6:List Token):∀ (es ds:List Int) (n:Nat),es.length<n→(ds++es).length≤9000000 →
  qaQ_i11 n text (put (ds++es) s0).1 (ds.length:Int) a3 a4 a5 a6=some (text,(put (ds++es) s0).1,(ds.length:Int)+((es.takeWhile (fun r=>r != 10)).length:Int),a3,a4,a5,a6)
 |[],ds,n,hn,hl=>by
  obtain ⟨n,rfl⟩:∃ q,n=q+1:=⟨n-1,by simp at hn; omega⟩;simp only[qaQ_i11,qaQ_t11,zadj,List.append_nil];rw[decide_eq_false (by omega),cond_false];simp
 |r::es,ds,n,hn,hl=>by
  obtain ⟨n,rfl⟩:∃ q,n=q+1:=⟨n-1,by simp at hn; omega⟩;obtain ⟨s,h1,h2,_⟩:=zaf6 ds r es;simp only[qaQ_i11,qaQ_t11,zadj];rw[decide_eq_true (by rw[List.length_append,List.length_cons]; omega),cond_true,decide_eq_true (by omega),cond_true,Int.toNat_natCast,h1,Option.bind_some,h2,List.takeWhile_cons];cases hr:(r != 10) with
  |true=>
   rw[List.length_append,List.length_cons] at hl;have ih:=noteR text a3 a4 a5 a6 es (ds++[r]) n (by simp at hn; omega) (by rw[List.append_assoc,List.singleton_append,List.length_append,List.length_cons]; omega);rw[List.append_assoc,List.singleton_append,List.length_append,List.length_cons,List.length_nil] at ih;rw[cond_true,i64_in ((ds.length:Int)+1) (by omega)];rw[show ((ds.length+(0+1):Nat):Int)=(ds.length:Int)+1 by omega] at ih;rw[ih,if_pos rfl,List.length_cons];congr 4;omega
  |false=>
   rw[cond_false,if_neg (by decide)];simp
theorem zasr (l:List Int):skip true l=skip false (l.dropWhile (fun r=>r != 10)):=by
 induction l with
 |nil=>rfl
 |cons r l ih=>
  rw[List.dropWhile_cons];simp only[skip];cases hr:(r != 10) with
  |true=>rw[if_pos rfl]; exact ih
  |false=>
   have:r=10:=by simpa using hr
   subst this;rw[if_neg (by decide)];simp only[skip];rw[if_neg (by decide),if_pos (by decide)]
theorem zaud (a3 a4:Int) (a5:List UInt8):∀ (k n:Nat) (es ds:List Int) (out:List Token),es.length≤k→k<n→(ds++es).all Sp.isRune=true→(encs (ds++es)).length≤4000→out.length≤ds.length →
  qaQ_i6 n (encs (ds++es)) (put (ds++es) s0).1 (ds.length:Int) a3 a4 a5 out =
   some (match toks es.length (((encs ds).length:Int)+((encs es).length:Int)-((encs (skip false es)).length:Int)) (skip false es) with|.inl e=>.inl (e.1,e.2,[])|.inr l=>.inr (encs (ds++es),a3,a4,a5,out++l)):=by
 intro k
 have fin:∀ (n:Nat) (ds:List Int) (out:List Token),qaQ_i6 (n+1) (encs (ds++[])) (put (ds++[]) s0).1 (ds.length:Int) a3 a4 a5 out =
   some (match toks ([]:List Int).length (((encs ds).length:Int)+((encs []).length:Int)-((encs (skip false [])).length:Int)) (skip false []) with|.inl e=>.inl (e.1,e.2,[])|.inr l=>.inr (encs (ds++[]),a3,a4,a5,out++l)):=by
  intro n ds out;simp only[qaQ_i6,qaQ_t6,zadj,List.append_nil];rw[decide_eq_false (by omega),cond_false];simp only[skip,List.length_nil,toks,List.append_nil]
 induction k with
 |zero=>
  intro n es ds out hk hn ha hl ho;obtain ⟨n,rfl⟩:∃ q,n=q+1:=⟨n-1,by omega⟩;match es,hk with
  |[],_=>exact fin n ds out
 |succ k ih=>
  intro n es ds out hk hn ha hl ho;obtain ⟨n,rfl⟩:∃ q,n=q+1:=⟨n-1,by omega⟩;match es,hk,ha,hl with
  |[],_,_,_=>exact fin n ds out
  |r::es,hk,ha,hl=>
   have har:=zaaz ha;have har':=har;simp only[List.all_cons,Bool.and_eq_true] at har';obtain ⟨s,h1,h2,h3⟩:=zaf6 ds r es;have hlr:=zaa5 (ds++r::es);rw[List.length_append,List.length_cons] at hlr;have hlen:(encs (ds++r::es)).length=(encs ds).length+(encs (r::es)).length:=by rw[zaaf,List.length_append]
   have hone:(encs (r::es)).length=(encB r).length+(encs es).length:=by rw[zaam,List.length_append]
   have hds1:(encs (ds++[r])).length=(encs ds).length+(encB r).length:=by rw[zaaf,List.length_append,zaam,List.length_append]; simp[encs]
   simp only[List.length_cons] at hk;simp only[qaQ_i6,qaQ_t6,zadj];rw[decide_eq_true (by rw[List.length_append,List.length_cons]; omega),cond_true,decide_eq_true (by omega),cond_true,Int.toNat_natCast,h1,Option.bind_some,h2,zau0,Option.bind_some];simp only[Option.bind_some,h2,cond_true];cases hb:Sp.blank r with
   |true=>
    have h35:r≠35:=by intro h; subst h; exact absurd hb (by decide)
    have hsk:skip false (r::es)=skip false es:=by simp only[skip]; rw[if_neg h35,if_pos hb]
    have i1:=ih n es (ds++[r]) out (by omega) (by omega) (by rw[List.append_assoc,List.singleton_append]; exact ha) (by rw[List.append_assoc,List.singleton_append]; exact hl) (by rw[List.length_append]; omega);rw[List.append_assoc,List.singleton_append,List.length_append,List.length_cons,List.length_nil] at i1;rw[cond_true,i64_in ((ds.length:Int)+1) (by omega),hsk];rw[show ((ds.length+(0+1):Nat):Int)=(ds.length:Int)+1 by omega,hds1] at i1;rw[i1,hone,List.length_cons];have hS:(skip false es).all Sp.isRune=true:=by
     obtain ⟨fs,hfs⟩:=zaap es false;exact zaaz (ds:=fs) (by rw[← hfs]; exact har'.2)
    have hsl:(skip false es).length≤es.length:=by
     obtain ⟨fs,hfs⟩:=zaap es false;have:=congrArg List.length hfs;rw[List.length_append] at this;omega
    rw[zaec (es.length+1) es.length _ _ hS (by omega) hsl];rw[show (((encs ds).length+(encB r).length:Nat):Int)+((encs es).length:Int)-((encs (skip false es)).length:Int)=((encs ds).length:Int)+(((encB r).length+(encs es).length:Nat):Int)-((encs (skip false es)).length:Int) by omega]
   |false=>
    rw[cond_false];by_cases h35:r=35
    ·subst h35;have e35:((35:Int)==35)=true:=by decide
     rw[e35,cond_true,qaQ_l11,zaaa,noteR (encs (ds++35::es)) a3 a4 a5 out (35::es) ds fuel (by simp only[List.length_cons]; unfold fuel; omega) (by rw[List.length_append,List.length_cons]; omega),Option.bind_some];simp only;have htd:=List.takeWhile_append_dropWhile (p:=fun r:Int=>r != 10) (l:=35::es);have ht1:0<((35::es).takeWhile (fun r:Int=>r != 10)).length:=by
      rw[List.takeWhile_cons,if_pos (by decide)]; simp
     have hll:=congrArg List.length htd;rw[List.length_append,List.length_cons] at hll;have hdd:(ds++(35::es).takeWhile (fun r:Int=>r != 10))++(35::es).dropWhile (fun r:Int=>r != 10)=ds++35::es:=by rw[List.append_assoc,htd]
     have i1:=ih n ((35::es).dropWhile (fun r:Int=>r != 10)) (ds++(35::es).takeWhile (fun r:Int=>r != 10)) out (by omega) (by omega) (by rw[hdd]; exact ha) (by rw[hdd]; exact hl) (by rw[List.length_append]; omega);rw[hdd,List.length_append] at i1;rw[show ((ds.length+((35::es).takeWhile (fun r:Int=>r != 10)).length:Nat):Int)=(ds.length:Int)+(((35::es).takeWhile (fun r:Int=>r != 10)).length:Int) by omega] at i1;rw[i1];have hsk:skip false (35::es)=skip false ((35::es).dropWhile (fun r:Int=>r != 10)):=by
      rw[← zasr];simp only[skip];rw[if_pos trivial];have:((35:Int) != 10)=true:=by decide
      rw[this]
     have hle:(encs (35::es)).length=(encs ((35::es).takeWhile (fun r:Int=>r != 10))).length+(encs ((35::es).dropWhile (fun r:Int=>r != 10))).length:=by
      conv=>lhs; rw[← htd]
      rw[zaaf,List.length_append]
     have hde:(encs (ds++(35::es).takeWhile (fun r:Int=>r != 10))).length=(encs ds).length+(encs ((35::es).takeWhile (fun r:Int=>r != 10))).length:=by rw[zaaf,List.length_append]
     have hD:((35::es).dropWhile (fun r:Int=>r != 10)).all Sp.isRune=true:=zaaz (ds:=(35::es).takeWhile (fun r:Int=>r != 10)) (by rw[htd]; exact har);have hS:(skip false ((35::es).dropWhile (fun r:Int=>r != 10))).all Sp.isRune=true:=by
      obtain ⟨fs,hfs⟩:=zaap ((35::es).dropWhile (fun r:Int=>r != 10)) false;exact zaaz (ds:=fs) (by rw[← hfs]; exact hD)
     have hsl:(skip false ((35::es).dropWhile (fun r:Int=>r != 10))).length≤((35::es).dropWhile (fun r:Int=>r != 10)).length:=by
      obtain ⟨fs,hfs⟩:=zaap ((35::es).dropWhile (fun r:Int=>r != 10)) false;have:=congrArg List.length hfs;rw[List.length_append] at this;omega
     rw[hsk,hde,hle,zaec (35::es).length ((35::es).dropWhile (fun r:Int=>r != 10)).length _ _ hS (by simp only[List.length_cons]; omega) hsl];rw[show (((encs ds).length+(encs ((35::es).takeWhile (fun r:Int=>r != 10))).length:Nat):Int)+((encs ((35::es).dropWhile (fun r:Int=>r != 10))).length:Int)=((encs ds).length:Int)+(((encs ((35::es).takeWhile (fun r:Int=>r != 10))).length+(encs ((35::es).dropWhile (fun r:Int=>r != 10))).length:Nat):Int) by omega]
    ·have e35:(r==35)=false:=by simp[h35]
     have hsk:skip false (r::es)=r::es:=by simp[skip,h35,hb]
     obtain ⟨T,i,t1,t2,t3⟩:=zavi ds r es ha hl;rw[e35,cond_false,t1,Option.bind_some,hsk,show (r::es).length=es.length+1 from rfl];simp only[toks];cases hc:((tokR (r::es)).2 != 0) with
     |true=>
      have e:((encs ds).length:Int)+((encs (r::es)).length:Int)-((encs (r::es)).length:Int)=((encs ds).length:Int):=by omega
      rw[cond_true,cond_true,t2,e]
     |false=>
      have h0:(tokR (r::es)).2=0:=by simpa using hc
      obtain ⟨t4,w,hw,hsp,t5⟩:=t3 h0;rw[cond_false,cond_false,decide_eq_true (by simp only[List.length_cons,List.length_nil]; omega),cond_true];have hll:=congrArg List.length hsp;rw[List.length_append,List.length_cons] at hll;have hwl:0<w.length:=List.length_pos_iff.2 hw;have hww:w.length≤es.length+1:=by omega
      have hde:(encs (ds++w)).length=(encs ds).length+(encs w).length:=by rw[zaaf,List.length_append]
      have hle:(encs (r::es)).length=(encs w).length+(encs (restR (r::es))).length:=by
       conv=>lhs; rw[hsp]
       rw[zaaf,List.length_append]
      have hdd:(ds++w)++restR (r::es)=ds++r::es:=by rw[List.append_assoc,← hsp]
      have i1:=ih n (restR (r::es)) (ds++w) (out++[⟨T.kind,T.text,T.num,T.at_⟩]) (by omega) (by omega) (by rw[hdd]; exact ha) (by rw[hdd]; exact hl) (by simp only[List.length_append,List.length_cons,List.length_nil]; omega);rw[hdd,List.length_append] at i1;rw[show ((ds.length+w.length:Nat):Int)=i by rw[t5]; omega] at i1;rw[i1];have hR:(restR (r::es)).all Sp.isRune=true:=zaaz (ds:=w) (by rw[← hsp]; exact har);have hS:(skip false (restR (r::es))).all Sp.isRune=true:=by
       obtain ⟨fs,hfs⟩:=zaap (restR (r::es)) false;exact zaaz (ds:=fs) (by rw[← hfs]; exact hR)
      have hsl:(skip false (restR (r::es))).length≤(restR (r::es)).length:=by
       obtain ⟨fs,hfs⟩:=zaap (restR (r::es)) false;have:=congrArg List.length hfs;rw[List.length_append] at this;omega
      rw[zaec (restR (r::es)).length es.length _ _ hS hsl (by omega),hde]
      rw[show (((encs ds).length+(encs w).length:Nat):Int)+((encs (restR (r::es))).length:Int)-((encs (skip false (restR (r::es)))).length:Int) =
       ((encs ds).length:Int)+((encs (r::es)).length:Int)-((encs (r::es)).length:Int)+((encs (r::es)).length:Int)-((encs (skip false (restR (r::es)))).length:Int) by omega]
      rw[show ((encs ds).length:Int)+((encs (r::es)).length:Int)-((encs (r::es)).length:Int)=((encs ds).length:Int) by omega];cases toks es.length (((encs ds).length:Int)+((encs (r::es)).length:Int)-((encs (skip false (restR (r::es)))).length:Int)) (skip false (restR (r::es))) with
      |inl e=>rfl
      |inr l=>simp only[List.append_assoc,List.singleton_append]; rw[t4]
theorem zaur (t:List UInt8):qaQ t=(qag t).map (fun p=>(p.2,p.1)):=by
 rcases zaj1 t with ⟨h1,h2⟩|⟨h0,rs,rest,_,_,_,_,h1,h2⟩|⟨h0,rs,rfl,ha,h1,h2⟩
 ·rw[zafu t (by rw[h2]; decide),qaQ,zaaa];unfold qaQ_f;rw[zal6,Option.bind_some,h2];rfl
 ·rw[zafu t (by rw[h2]; show (11:Int)≠0; decide),qaQ,zaaa];unfold qaQ_f;rw[zal6,Option.bind_some,h2];rfl
 ·obtain ⟨q1,q2⟩:=zako rs ha h0;have hlr:=zaa5 rs;have hR:=zaud 0 0 [] rs.length fuel rs [] [] (Nat.le_refl _) (by unfold fuel; omega) ha h0 (by simp);simp only[List.nil_append,List.length_nil] at hR;rw[zajf rs ha h0,qaQ,zaaa];unfold qaQ_f;rw[zal6,Option.bind_some,q1,q2];simp only[bne_self_eq_false,cond_false];rw[qaQ_l6,zaaa];rw[show ((0:Nat):Int)=0 from rfl] at hR;rw[hR,Option.bind_some];have e:((encs ([]:List Int)).length:Int)+((encs rs).length:Int)-((encs (skip false rs)).length:Int)=((encs rs).length:Int)-((encs (skip false rs)).length:Int):=by simp[encs]
  rw[e];have hS:(skip false rs).all Sp.isRune=true:=by
   obtain ⟨fs,hfs⟩:=zaap rs false;exact zaaz (ds:=fs) (by rw[← hfs]; exact ha)
  have hsl:(skip false rs).length≤rs.length:=by
   obtain ⟨fs,hfs⟩:=zaap rs false;have:=congrArg List.length hfs;rw[List.length_append] at this;omega
  cases ht:toks rs.length (((encs rs).length:Int)-((encs (skip false rs)).length:Int)) (skip false rs) with
  |inl e=>rfl
  |inr l=>
   have:=zah0 _ _ _ hS l ht;simp only;rw[decide_eq_true (by simp only[List.length_cons,List.length_nil]; omega),cond_true];rfl
end Lift.A1P
namespace Lift.A4
open Go Go.RowKit Lift Go.IntWalk Lift.Fn Lift.A1P
set_option linter.unusedVariables false
set_option linter.unusedSimpArgs false
theorem zaog (rs:List Int):(tokR rs).1.kind≠5∧(tokR rs).2≠40:=by
 unfold tokR;cases goesR (rs.headD 0) with
 |true=>
  rw[cond_true];cases Sp.digit (rs.headD 0) with
  |true=>
   rw[cond_true];cases (numS (encs (rs.takeWhile goesR))).2<;>constructor<;>simp
  |false=>
   rw[cond_false];cases words.contains (encs (rs.takeWhile goesR)) with
   |true=>constructor<;>simp
   |false=>
    rw[cond_false];cases decide (16<(rs.takeWhile goesR).length)<;>constructor<;>simp
 |false=>
  rw[cond_false];cases (sgn (encs rs)==[])<;>constructor<;>simp
theorem T_bad:∀ (n:Nat) (rs:List Int) (p:Int) (e:Int×Int),rs.length≤n→rs.all Sp.isRune=true→T p rs=.inl e→e.1≠0∧e.1≠40:=by
 intro n;induction n with
 |zero=>
  intro rs p e hn ha h;have:rs=[]:=List.eq_nil_of_length_eq_zero (by omega);subst this;cases h
 |succ n ih=>
  intro rs p e hn ha h;cases rs with
  |nil=>cases h
  |cons r rs=>
   simp only[List.length_cons] at hn;rw[zaix p r rs ha] at h;by_cases h0:(tokR (r::rs)).2=0
   ·have e1:((tokR (r::rs)).2 != 0)=false:=by simp[h0]
    rw[e1,cond_false] at h;obtain ⟨q1,q2⟩:=zah1 ha h0;cases hT:T (p+(encs (r::rs)).length-(encs (skip false (restR (r::rs)))).length) (skip false (restR (r::rs))) with
    |inl e2=>
     rw[hT] at h;simp only[Sum.inl.injEq] at h;rw[← h];exact ih _ _ _ (by omega) q1 hT
    |inr l'=>rw[hT] at h; cases h
   ·have e1:((tokR (r::rs)).2 != 0)=true:=by simp[h0]
    rw[e1,cond_true,Sum.inl.injEq] at h;rw[← h];exact ⟨h0,(zaog _).2⟩
theorem T_ok:∀ (n:Nat) (rs:List Int) (p:Int) (l:List Token),rs.length≤n→rs.all Sp.isRune=true→T p rs=.inr l →
  (∀ x∈l,p≤x.at_∧x.at_<p+(encs rs).length∧x.kind≠5∧∃ w t,whole w t∧core x=core t)∧l.Pairwise (fun x y=>x.at_<y.at_):=by
 intro n;induction n with
 |zero=>
  intro rs p l hn ha h;have:rs=[]:=List.eq_nil_of_length_eq_zero (by omega);subst this;rw[T_nil,Sum.inr.injEq] at h;subst h;exact ⟨fun x hx=>(by cases hx),.nil⟩
 |succ n ih=>
  intro rs p l hn ha h;cases rs with
  |nil=>
   rw[T_nil,Sum.inr.injEq] at h;subst h;exact ⟨fun x hx=>(by cases hx),.nil⟩
  |cons r rs=>
   simp only[List.length_cons] at hn;rw[zaix p r rs ha] at h;by_cases h0:(tokR (r::rs)).2=0
   ·have e1:((tokR (r::rs)).2 != 0)=false:=by simp[h0]
    rw[e1,cond_false] at h;obtain ⟨q1,q2⟩:=zah1 ha h0;obtain ⟨w,hw,hsp⟩:=alone r rs ha h0;obtain ⟨sep,hsep⟩:=zaap (restR (r::rs)) false;have hlen:((encs (r::rs)).length:Int)=(encs w).length+(encs sep).length+(encs (skip false (restR (r::rs)))).length:=by
     have h1:=congrArg (fun l=>((encs l).length:Int)) hsp;have h2:=congrArg (fun l=>((encs l).length:Int)) hsep;rw[zabf] at h1 h2;omega
    have hwl:0<(encs w).length:=by
     have:=zaa5 w;have:0<w.length:=List.length_pos_iff.2 hw.1;omega
    cases hT:T (p+(encs (r::rs)).length-(encs (skip false (restR (r::rs)))).length) (skip false (restR (r::rs))) with
    |inl e2=>rw[hT] at h; cases h
    |inr l'=>
     rw[hT] at h;simp only[Sum.inr.injEq] at h;obtain ⟨i1,i2⟩:=ih _ _ _ (by omega) q1 hT;subst h;constructor
     ·intro x hx;simp only[List.mem_cons] at hx;rcases hx with rfl|hx
      ·exact ⟨Int.le_refl _,by show p<_; omega,(zaog _).1,w,_,hw,rfl⟩
      ·obtain ⟨a1,a2,a3,a4⟩:=i1 x hx;exact ⟨by omega,by omega,a3,a4⟩
     ·refine List.Pairwise.cons (fun x hx=>?_) i2;obtain ⟨a1,a2,a3,a4⟩:=i1 x hx;show p<x.at_;omega
   ·have e1:((tokR (r::rs)).2 != 0)=true:=by simp[h0]
    rw[e1,cond_true] at h;cases h
noncomputable def p0 (rs:List Int):Int:=((encs rs).length:Int)-(encs (skip false rs)).length
theorem zagg {rs:List Int} (ha:rs.all Sp.isRune=true):(skip false rs).all Sp.isRune=true:=by
 obtain ⟨ds,h⟩:=zaap rs false;exact zaaz (ds:=ds) (by rw[← h]; exact ha)
theorem zavf (rs:List Int) (ha:rs.all Sp.isRune=true):toks rs.length (p0 rs) (skip false rs)=T (p0 rs) (skip false rs):=by
 unfold T;exact zaec _ _ _ _ (zagg ha) (zaez _ _) (Nat.le_refl _)
theorem zam1 (t:List UInt8):(∃ f,qag t=some ([],f)∧f.code≠0∧f.code≠40) ∨
  (∃ rs l,t=encs rs∧rs.all Sp.isRune=true∧t.length≤4000∧T (p0 rs) (skip false rs)=.inr l∧qag t=some (l++[⟨5,[],0,(t.length:Int)⟩],⟨0,0,[]⟩)):=by
 rcases zaj1 t with ⟨h1,h2⟩|⟨h0,rs,rest,_,_,_,_,h1,h2⟩|⟨h0,rs,rfl,ha,h1,h2⟩
 ·refine .inl ⟨_,zafu t (by rw[h2]; decide),?_,?_⟩<;>· rw[h2]; decide
 ·refine .inl ⟨_,zafu t (by rw[h2]; show (11:Int)≠0; decide),?_,?_⟩
  ·rw[h2]; show (11:Int)≠0; decide
  ·rw[h2]; show (11:Int)≠40; decide
 ·have h:=zajf rs ha h0;have e:=zavf rs ha;unfold p0 at e;rw[e] at h;cases hT:T (((encs rs).length:Int)-(encs (skip false rs)).length) (skip false rs) with
  |inl e2=>
   rw[hT] at h;obtain ⟨b1,b2⟩:=T_bad _ _ _ _ (Nat.le_refl _) (zagg ha) hT;exact .inl ⟨_,h,b1,b2⟩
  |inr l=>
   rw[hT] at h;exact .inr ⟨rs,l,rfl,ha,h0,hT,h⟩
theorem zaqb:∀ (u rs:List Int) (more:List UInt8),u.all Sp.isRune=true→rs.all Sp.isRune=true→encs rs=encs u++more→∃ s,rs=u++s
 |[],rs,_,_,_,_=>⟨rs,rfl⟩
 |r::u,[],more,_,_,h=>by
  rw[zaam] at h;have:=congrArg List.length h;have h2:=zaux r;simp only[List.length_append,encs,List.flatMap_nil,List.length_nil] at this;omega
 |r::u,q::rs,more,hu,hr,h=>by
  simp only[List.all_cons,Bool.and_eq_true] at hu hr;rw[zaam,zaam,List.append_assoc] at h;have d1:=(zak3 r (encs u++more) hu.1).1;have d2:=(zak3 q (encs rs) hr.1).1;rw[h,d1] at d2;have e1:=(Prod.mk.inj d2).1;have hrr:=zado hu.1;have hqq:=zado hr.1;have e:r=q:=by omega
  subst e;obtain ⟨s,hs⟩:=zaqb u rs more hu.2 hr.2 (List.append_cancel_left h);exact ⟨s,by rw[hs]; rfl⟩
end Lift.A4
namespace Lift.A3
open Go Go.RowKit Lift Go.IntWalk Lift.Fn
set_option linter.unusedVariables false
set_option linter.unusedSimpArgs false
theorem wE_1 : WalksE (fun (x : TExpr) (d : Int) (s : Int) => qbb x d s) (fun (n : Nat) (x : TExpr) (d : Int) (s : Int) => qaa_i n x d s) where
 step:=by
  intro n x d s hd1 hd2 hl;show qaa_f (qaa_i n) x d s=_;unfold qaa_f;rw[zabl];congr 1;funext y0
  have hL := zad8 (σ := Int) x.args (fun y s => qaa_i n y (d + 1) s) (fun m i s => qaa_i3 (qaa_i n) m d x.args (x.args.length : Int) i s)
   (fun m i s h0 h=>by simp only[qaa_i3,qaa_t3,decide_eq_false h,cond_false])
   (fun m i s y h0 h hy=>by
    simp only[qaa_i3,qaa_t3,decide_eq_true h,decide_eq_true h0,cond_true,hy,Option.bind_some,zabl];rw[i64_in (i+1) (by omega),i64_in (d+1) (by omega)])
   x.args.length fuel 0 y0 (by omega) (by omega) (by unfold fuel; omega)
  try simp only at hL
  rw[qaa_l3,zaaa,hL];simp[zaei]
theorem wEx_1 (x:TExpr) (s:Int) (hx:nE x≤100000000000000000):qaa x 1 s=(evE x 1).foldlM (atEv (fun (x:TStmt) (d:Int) (s:Int)=>qba x d s) (fun (x:TExpr) (d:Int) (s:Int)=>qbb x d s)) s:=by
 rw[qaa,zaaa];exact zar1 (g:=(fun (x:TStmt) (d:Int) (s:Int)=>qba x d s)) wE_1 (nE x) fuel x 1 s (Nat.le_refl _) (by unfold fuel; omega) (by omega) (by omega)
theorem wS_1 : WalksS (fun (x : TStmt) (d : Int) (s : Int) => qba x d s) (fun (x : TExpr) (d : Int) (s : Int) => qaa x d s) (fun (n : Nat) (l : List TStmt) (d : Int) (s : Int) => qae_i n l d s) where
 step:=by
  intro n l d s hd1 hd2 hl;show qae_f (qae_i n) l d s=_;unfold qae_f
  have hL := zad8 (σ := Int) l (fun x s => (qba x d s).bind fun s1 => (if zacc x.expr then qaa x.expr 1 s1 else some s1).bind fun s2 => (qae_i n x.then_ (d + 1) s2).bind fun s3 => qae_i n x.else_ (d + 1) s3)
   (fun m i s=>qae_i2 (qae_i n) m d l (l.length:Int) i s)
   (fun m i s h0 h=>by simp only[qae_i2,qae_t2,decide_eq_false h,cond_false])
   (fun m i s y h0 h hy=>by
    have e:(bif TExpr.kind (TStmt.expr y) != (0:Int) then some true else some (decide ((↑(List.length (TExpr.args (TStmt.expr y))):Int)>(0:Int))))=some (zacc y.expr):=by
     unfold zacc;cases (y.expr.kind != 0)
     ·simp
     ·rfl
    simp only[qae_i2,qae_t2,decide_eq_true h,decide_eq_true h0,cond_true,hy,Option.bind_some,zabl,zan5,e];rw[i64_in (i+1) (by omega),i64_in (d+1) (by omega)];cases zacc y.expr<;>simp[Option.bind_assoc])
   l.length fuel 0 s (by omega) (by omega) (by unfold fuel; omega)
  try simp only at hL
  rw[qae_l2,zaaa,hL];simp[zaei]
theorem wSt_1 (l:List TStmt) (s:Int) (hl:nSs l≤10000000000000000):qae l 1 s=(evSs l 1).foldlM (atEv (fun (x:TStmt) (d:Int) (s:Int)=>qba x d s) (fun (x:TExpr) (d:Int) (s:Int)=>qbb x d s)) s:=by
 rw[qae,zaaa];exact zart (g:=(fun (x:TStmt) (d:Int) (s:Int)=>qba x d s)) (h:=(fun (x:TExpr) (d:Int) (s:Int)=>qbb x d s)) (fun x s hx=>wEx_1 x s hx) wS_1 (nSs l) fuel l 1 s (Nat.le_refl _) (by unfold fuel; omega) (by omega) (by omega)
theorem wP_1 (p:TProg) (s:Int) (hl:nT p.threads≤10000000000000000):qac p s=(evP p).foldlM (atEv (fun (x:TStmt) (d:Int) (s:Int)=>qba x d s) (fun (x:TExpr) (d:Int) (s:Int)=>qbb x d s)) s:=by
 rw[qac,zaaa];unfold qac_f;have hn:=zanq p.threads
 have hL := zad8 (σ := Int) p.threads (fun t s => qae t.body 1 s) (fun m i s => qac_i2 m p.threads (p.threads.length : Int) i s)
  (fun m i s h0 h=>by simp only[qac_i2,qac_t2,decide_eq_false h,cond_false])
  (fun m i s y h0 h hy=>by
   simp only[qac_i2,qac_t2,decide_eq_true h,decide_eq_true h0,cond_true,hy,Option.bind_some];rw[i64_in (i+1) (by omega)])
  p.threads.length fuel 0 s (by omega) (by omega) (by unfold fuel; omega)
 try simp only at hL
 rw[qac_l2,zaaa,hL];unfold evP;rw[zad1];have:∀ (l:List TThread) (s:Int),(∀ t∈l,nSs t.body≤10000000000000000)→l.foldlM (fun s t=>qae t.body 1 s) s=l.foldlM (fun s t=>(evSs t.body 1).foldlM (atEv (fun (x:TStmt) (d:Int) (s:Int)=>qba x d s) (fun (x:TExpr) (d:Int) (s:Int)=>qbb x d s)) s) s:=by
  intro l;induction l with
  |nil=>intro s _; rfl
  |cons t l ih=>
   intro s ht;rw[List.foldlM_cons,List.foldlM_cons,wSt_1 t.body s (ht t (by simp))];congr 1;funext s';exact ih s' (fun z hz=>ht z (by simp[hz]))
 rw[Int.toNat_zero,List.drop_zero,this _ _ (fun t ht=>by have:=zanr ht; omega)];simp[zaei]
theorem wE_2 : WalksE (fun (x : TExpr) (d : Int) (s : Int) => qa8 x d s) (fun (n : Nat) (x : TExpr) (d : Int) (s : Int) => qab_i n x d s) where
 step:=by
  intro n x d s hd1 hd2 hl;show qab_f (qab_i n) x d s=_;unfold qab_f;rw[zabl];congr 1;funext y0
  have hL := zad8 (σ := Int) x.args (fun y s => qab_i n y (d + 1) s) (fun m i s => qab_i3 (qab_i n) m d x.args (x.args.length : Int) i s)
   (fun m i s h0 h=>by simp only[qab_i3,qab_t3,decide_eq_false h,cond_false])
   (fun m i s y h0 h hy=>by
    simp only[qab_i3,qab_t3,decide_eq_true h,decide_eq_true h0,cond_true,hy,Option.bind_some,zabl];rw[i64_in (i+1) (by omega),i64_in (d+1) (by omega)])
   x.args.length fuel 0 y0 (by omega) (by omega) (by unfold fuel; omega)
  try simp only at hL
  rw[qab_l3,zaaa,hL];simp[zaei]
theorem wEx_2 (x:TExpr) (s:Int) (hx:nE x≤100000000000000000):qab x 1 s=(evE x 1).foldlM (atEv (fun (x:TStmt) (d:Int) (s:Int)=>qa7 x d s) (fun (x:TExpr) (d:Int) (s:Int)=>qa8 x d s)) s:=by
 rw[qab,zaaa];exact zar1 (g:=(fun (x:TStmt) (d:Int) (s:Int)=>qa7 x d s)) wE_2 (nE x) fuel x 1 s (Nat.le_refl _) (by unfold fuel; omega) (by omega) (by omega)
theorem wS_2 : WalksS (fun (x : TStmt) (d : Int) (s : Int) => qa7 x d s) (fun (x : TExpr) (d : Int) (s : Int) => qab x d s) (fun (n : Nat) (l : List TStmt) (d : Int) (s : Int) => qaf_i n l d s) where
 step:=by
  intro n l d s hd1 hd2 hl;show qaf_f (qaf_i n) l d s=_;unfold qaf_f
  have hL := zad8 (σ := Int) l (fun x s => (qa7 x d s).bind fun s1 => (if zacc x.expr then qab x.expr 1 s1 else some s1).bind fun s2 => (qaf_i n x.then_ (d + 1) s2).bind fun s3 => qaf_i n x.else_ (d + 1) s3)
   (fun m i s=>qaf_i2 (qaf_i n) m d l (l.length:Int) i s)
   (fun m i s h0 h=>by simp only[qaf_i2,qaf_t2,decide_eq_false h,cond_false])
   (fun m i s y h0 h hy=>by
    have e:(bif TExpr.kind (TStmt.expr y) != (0:Int) then some true else some (decide ((↑(List.length (TExpr.args (TStmt.expr y))):Int)>(0:Int))))=some (zacc y.expr):=by
     unfold zacc;cases (y.expr.kind != 0)
     ·simp
     ·rfl
    simp only[qaf_i2,qaf_t2,decide_eq_true h,decide_eq_true h0,cond_true,hy,Option.bind_some,zabl,zan5,e];rw[i64_in (i+1) (by omega),i64_in (d+1) (by omega)];cases zacc y.expr<;>simp[Option.bind_assoc])
   l.length fuel 0 s (by omega) (by omega) (by unfold fuel; omega)
  try simp only at hL
  rw[qaf_l2,zaaa,hL];simp[zaei]
theorem wSt_2 (l:List TStmt) (s:Int) (hl:nSs l≤10000000000000000):qaf l 1 s=(evSs l 1).foldlM (atEv (fun (x:TStmt) (d:Int) (s:Int)=>qa7 x d s) (fun (x:TExpr) (d:Int) (s:Int)=>qa8 x d s)) s:=by
 rw[qaf,zaaa];exact zart (g:=(fun (x:TStmt) (d:Int) (s:Int)=>qa7 x d s)) (h:=(fun (x:TExpr) (d:Int) (s:Int)=>qa8 x d s)) (fun x s hx=>wEx_2 x s hx) wS_2 (nSs l) fuel l 1 s (Nat.le_refl _) (by unfold fuel; omega) (by omega) (by omega)
theorem wP_2 (p:TProg) (s:Int) (hl:nT p.threads≤10000000000000000):qad p s=(evP p).foldlM (atEv (fun (x:TStmt) (d:Int) (s:Int)=>qa7 x d s) (fun (x:TExpr) (d:Int) (s:Int)=>qa8 x d s)) s:=by
 rw[qad,zaaa];unfold qad_f;have hn:=zanq p.threads
 have hL := zad8 (σ := Int) p.threads (fun t s => qaf t.body 1 s) (fun m i s => qad_i2 m p.threads (p.threads.length : Int) i s)
  (fun m i s h0 h=>by simp only[qad_i2,qad_t2,decide_eq_false h,cond_false])
  (fun m i s y h0 h hy=>by
   simp only[qad_i2,qad_t2,decide_eq_true h,decide_eq_true h0,cond_true,hy,Option.bind_some];rw[i64_in (i+1) (by omega)])
  p.threads.length fuel 0 s (by omega) (by omega) (by unfold fuel; omega)
 try simp only at hL
 rw[qad_l2,zaaa,hL];unfold evP;rw[zad1];have:∀ (l:List TThread) (s:Int),(∀ t∈l,nSs t.body≤10000000000000000)→l.foldlM (fun s t=>qaf t.body 1 s) s=l.foldlM (fun s t=>(evSs t.body 1).foldlM (atEv (fun (x:TStmt) (d:Int) (s:Int)=>qa7 x d s) (fun (x:TExpr) (d:Int) (s:Int)=>qa8 x d s)) s) s:=by
  intro l;induction l with
  |nil=>intro s _; rfl
  |cons t l ih=>
   intro s ht;rw[List.foldlM_cons,List.foldlM_cons,wSt_2 t.body s (ht t (by simp))];congr 1;funext s';exact ih s' (fun z hz=>ht z (by simp[hz]))
 rw[Int.toNat_zero,List.drop_zero,this _ _ (fun t ht=>by have:=zanr ht; omega)];simp[zaei]
end Lift.A3
namespace Lift.A3
open Go Go.RowKit Lift Go.IntWalk Lift.Fn
set_option linter.unusedVariables false
set_option linter.unusedSimpArgs false
mutual
theorem lenE:∀ (x:TExpr) (d:Int),(evE x d).length=nE x
 |⟨k,n,m,l⟩,d=>by simp[evE,nE,lenEs l (d+1)]; omega
theorem lenEs:∀ (l:List TExpr) (d:Int),(evEs l d).length=nEs l
 |[],d=>by simp[evEs,nEs]
 |x::l,d=>by simp[evEs,nEs,lenE x d,lenEs l d]
end
mutual
def cS:TStmt→Nat
 |⟨_,_,_,x,_,t,o⟩=>1+(if zacc x then nE x else 0)+cSs t+cSs o
def cSs:List TStmt→Nat
 |[]=>0
 |x::l=>cS x+cSs l
end
def cT:List TThread→Nat
 |[]=>0
 |t::l=>cSs t.body+cT l
mutual
theorem lenS:∀ (x:TStmt) (d:Int),(evS x d).length=cS x
 |⟨k,r,m,x,c,t,o⟩,d=>by
  have h1:=lenSs t (d+1);have h2:=lenSs o (d+1);have h3:=lenE x 1;simp only[evS,cS,List.length_cons,List.length_append,h1,h2];split<;>simp[h3]<;>omega
theorem lenSs:∀ (l:List TStmt) (d:Int),(evSs l d).length=cSs l
 |[],d=>by simp[evSs,cSs]
 |x::l,d=>by simp[evSs,cSs,lenS x d,lenSs l d]
end
mutual
theorem cS_le:∀ x:TStmt,cS x≤nS x
 |⟨k,r,m,x,c,t,o⟩=>by
  have h1:=zald t;have h2:=zald o;simp only[cS,nS];split<;>omega
theorem zald:∀ l:List TStmt,cSs l≤nSs l
 |[]=>by simp[cSs]
 |x::l=>by have:=cS_le x; have:=zald l; simp only[cSs,nSs]; omega
end
theorem cT_le:∀ l:List TThread,cT l≤nT l
 |[]=>by simp[cT]
 |x::l=>by have:=zald x.body; have:=cT_le l; simp only[cT,nT]; omega
theorem lenP : ∀ (l : List TThread), (l.flatMap fun t => evSs t.body 1).length = cT l
 |[]=>rfl
 |t::l=>by simp only[List.flatMap_cons,List.length_append,lenSs,lenP l,cT]
theorem zak1:∀ (l:List Ev) (s:Int),0≤s→s+l.length≤1000000000000000000 →
  l.foldlM (atEv (fun (x:TStmt) (d:Int) (s:Int)=>qa7 x d s) (fun (x:TExpr) (d:Int) (s:Int)=>qa8 x d s)) s=some (s+l.length)
 |[],s,_,_=>by simp
 |e::l,s,h0,h=>by
  simp only[List.length_cons] at h;have e1:atEv (fun (x:TStmt) (d:Int) (s:Int)=>qa7 x d s) (fun (x:TExpr) (d:Int) (s:Int)=>qa8 x d s) s e=some (s+1):=by
   cases e with
   |s x d=>show qa7 x d s=_; rw[qa7,zaaa]; unfold qa7_f; rw[i64_in (s+1) (by omega)]
   |e x d=>show qa8 x d s=_; rw[qa8,zaaa]; unfold qa8_f; rw[i64_in (s+1) (by omega)]
  rw[List.foldlM_cons,e1];show List.foldlM _ (s+1) l=_;rw[zak1 l (s+1) (by omega) (by omega),List.length_cons];congr 1;omega
theorem zar9 (p:TProg) (h:nT p.threads≤10000000000000000):qa6 p=some (cT p.threads:Int):=by
 rw[qa6,zaaa];unfold qa6_f;have hc:=cT_le p.threads;have hl:=lenP p.threads;rw[zama,wP_2 p 0 h,zak1 _ 0 (by omega) (by unfold evP; rw[hl]; omega),Option.bind_some];unfold evP;rw[hl];simp
def evD:Ev→Int
 |.s _ d=>d
 |.e _ d=>d
def maxEv (l:List Ev) (s:Int):Int:=l.foldl (fun s e=>max s (evD e)) s
theorem zaqi (a b:Int):(if a>b then a else b)=max b a:=by
 rw[Int.max_def];split<;>split<;>omega
theorem zami : ∀ (l : List Ev) (s : Int), l.foldlM (atEv (fun (x : TStmt) (d : Int) (s : Int) => qba x d s) (fun (x : TExpr) (d : Int) (s : Int) => qbb x d s)) s = some (maxEv l s)
 |[],s=>rfl
 |e::l,s=>by
  have e1:atEv (fun (x:TStmt) (d:Int) (s:Int)=>qba x d s) (fun (x:TExpr) (d:Int) (s:Int)=>qbb x d s) s e=some (max s (evD e)):=by
   cases e with
   |s x d=>show qba x d s=_; rw[qba,zaaa]; unfold qba_f; rw[zaqi]; rfl
   |e x d=>show qbb x d s=_; rw[qbb,zaaa]; unfold qbb_f; rw[zaqi]; rfl
  rw[List.foldlM_cons,e1];exact zami l _
theorem zas8 (p:TProg) (h:nT p.threads≤10000000000000000):qa9 p=some (maxEv (evP p) 0):=by
 rw[qa9,zaaa];unfold qa9_f;rw[zama,wP_1 p 0 h,zami];rfl
end Lift.A3
namespace Lift.A4
open Go Go.RowKit Lift Go.IntWalk Lift.Fn Lift.A1P Lift.A3
set_option linter.unusedVariables false
set_option linter.unusedSimpArgs false
def fin (p:TProg):TProg×Fault:=
 if maxEv (evP p) 0>16 then (⟨[],[],[]⟩,⟨41,0,[]⟩) else if (cT p.threads:Int)>500 then (⟨[],[],[]⟩,⟨42,0,[]⟩) else (p,⟨0,0,[]⟩)
theorem zatk (p:TProg):(fin p).2.code≠40:=by
 unfold fin;split
 ·simp
 ·split<;>simp
theorem zamg {t:List UInt8} {l:List Token} {f:Fault} (h:qag t=some (l,f)) (hf:f.code≠0):qao t=some (⟨[],[],[]⟩,f):=by
 rw[qao,zaaa];unfold qao_f;have e:(f.code != 0)=true:=by simp[hf]
 rw[h,Option.bind_some];dsimp only;rw[e];rfl
theorem zanj {t:List UInt8} {l:List Token} {p:TProg} {z:List Token} (h:qag t=some (l,⟨0,0,[]⟩)) (hp:qax l=some (okP p z)) (hn:nT p.threads≤10000000000000000) :
  qao t=some (fin p):=by
 rw[qao,zaaa];unfold qao_f;rw[h,Option.bind_some];dsimp only;rw[hp,Option.bind_some];dsimp only[okP];rw[zama,zas8 p hn,zar9 p hn];unfold fin;simp only[bne_self_eq_false,cond_false,Option.bind_some];by_cases h1:maxEv (evP p) 0>16
 ·rw[if_pos h1,decide_eq_true h1]; rfl
 ·rw[if_neg h1,decide_eq_false h1,cond_false];by_cases h2:(cT p.threads:Int)>500
  ·rw[if_pos h2,decide_eq_true h2]; rfl
  ·rw[if_neg h2,decide_eq_false h2]; rfl
theorem zai3 {t:List UInt8} {l:List Token} {a:Int} (h:qag t=some (l,⟨0,0,[]⟩)) (hp:qax l=some (.inr ⟨a⟩)) :
  qao t=some (⟨[],[],[]⟩,⟨40,a,[]⟩):=by
 rw[qao,zaaa];unfold qao_f;rw[h,Option.bind_some];dsimp only;rw[hp,Option.bind_some];rfl
theorem zatn (l:List Token) (a:Int):Ends (l++[⟨5,[],0,a⟩]):=⟨l,_,rfl,rfl⟩
def look (A:Int):List Token→Int→Bool⊕Int
 |[],at_=>.inr at_
 |t::r,at_=>
  if t.at_=A∧t.kind≠5 then look A r (t.at_+t.text.length)
  else if t.at_=A∧t.kind=5∧at_<0 then .inl true
  else look A r at_
theorem look_cons (A:Int) (t:Token) (r:List Token) (at_:Int):look A (t::r) at_ =
  if t.at_=A∧t.kind≠5 then look A r (t.at_+t.text.length)
  else if t.at_=A∧t.kind=5∧at_<0 then .inl true
  else look A r at_:=rfl
theorem zavd (a0 a1:List UInt8) (L:List Token) (c A:Int) (nm:List UInt8) (hL:L.length≤4001) (hb:∀ x∈L,0≤x.at_∧x.at_+x.text.length≤4000) :
  ∀ (k n:Nat) (i:Nat) (at_:Int),i+k=L.length→k<n→qaE_i10 n a0 a1 L at_ i c A nm=some (match look A (L.drop i) at_ with|.inl b=>.inl b|.inr at2=>.inr (a0,a1,at2,c,A,nm)):=by
 intro k;induction k with
 |zero=>
  intro n i at_ hi hn;obtain ⟨n,rfl⟩:∃ q,n=q+1:=⟨n-1,by omega⟩;have e:decide ((i:Int)<(↑(List.length L):Int))=false:=by simp only[decide_eq_false_iff_not]; omega
  simp only[qaE_i10,qaE_t10,e,cond_false];rw[List.drop_eq_nil_of_le (by omega)];rfl
 |succ k ih=>
  intro n i at_ hi hn;obtain ⟨n,rfl⟩:∃ q,n=q+1:=⟨n-1,by omega⟩;have hlt:i<L.length:=by omega
  have e:decide ((i:Int)<(↑(List.length L):Int))=true:=by simp only[decide_eq_true_eq]; omega
  have e0:decide ((0:Int)≤(i:Int))=true:=by simp only[decide_eq_true_eq]; omega
  have eg:L[Int.toNat (i:Int)]? = some L[i]:=by rw[Int.toNat_natCast]; exact List.getElem?_eq_getElem hlt
  have hx:=hb L[i] (List.getElem_mem hlt);have hd:L.drop i=L[i]::L.drop (i+1):=List.drop_eq_getElem_cons hlt;have ei:IntKind.wrap IntKind.i64 ((i:Int)+(1:Int))=((i+1:Nat):Int):=by rw[i64_in _ (by omega)]; omega
  have ew:IntKind.wrap IntKind.i64 (Token.at_ L[i]+(↑(List.length (Token.text L[i])):Int))=L[i].at_+(L[i].text.length:Int):=i64_in _ (by omega);simp only[qaE_i10,qaE_t10,e,e0,eg,cond_true,Option.bind_some,ei,ew];rw[hd];generalize L[i]=x at hx;rw[ih n (i+1) at_ (by omega) (by omega),ih n (i+1) (x.at_+x.text.length) (by omega) (by omega)];rw[look_cons];by_cases h1:x.at_=A
  ·have f1:(x.at_==A)=true:=by simp[h1]
   by_cases h2:x.kind=5
   ·have f2:(x.kind==5)=true:=by simp[h2]
    have f3:(x.kind != 5)=false:=by simp[h2]
    have g1:¬ (x.at_=A∧x.kind≠5):=fun hh=>hh.2 h2
    rw[if_neg g1];simp only[f1,f2,f3,cond_true,cond_false];by_cases h3:at_<0
    ·rw[if_pos ⟨h1,h2,h3⟩,decide_eq_true h3]; rfl
    ·have g2:¬ (x.at_=A∧x.kind=5∧at_<0):=fun hh=>h3 hh.2.2
     rw[if_neg g2,decide_eq_false h3]; rfl
   ·have f2:(x.kind==5)=false:=by simp[h2]
    have f3:(x.kind != 5)=true:=by simp[h2]
    rw[if_pos ⟨h1,h2⟩];simp only[f1,f2,f3,cond_true,cond_false]
  ·have f1:(x.at_==A)=false:=by simp[h1]
   have g1:¬ (x.at_=A∧x.kind≠5):=fun hh=>h1 hh.1
   have g2:¬ (x.at_=A∧x.kind=5∧at_<0):=fun hh=>h1 hh.1
   rw[if_neg g1,if_neg g2];simp only[f1,cond_false]
theorem look_none (A:Int):∀ (L:List Token) (r:List Token) (at_:Int),(∀ x∈L,x.at_≠A)→look A (L++r) at_=look A r at_
 |[],r,at_,_=>rfl
 |x::L,r,at_,h=>by
  have hx:=h x (by simp);have g1:¬ (x.at_=A∧x.kind≠5):=fun hh=>hx hh.1
  have g2:¬ (x.at_=A∧x.kind=5∧at_<0):=fun hh=>hx hh.1
  rw[List.cons_append,look_cons,if_neg g1,if_neg g2];exact look_none A L r at_ fun y hy=>h y (by simp[hy])
end Lift.A4
namespace Lift.A4
open Go Go.RowKit Lift Go.IntWalk Lift.Fn Lift.A1P Lift.A3
set_option linter.unusedVariables false
set_option linter.unusedSimpArgs false
theorem zar4 (u v:List Int):(encs (u++v)).take (encs u).length=encs u:=by rw[zaaf,List.take_left]
theorem zatw {a b:List Int} (h:(a++b).all Sp.isRune=true):a.all Sp.isRune=true:=by
 rw[List.all_append,Bool.and_eq_true] at h;exact h.1
theorem zamh {text:List UInt8} {rs:List Int} {l:List Token} (ht:text=encs rs) (ha:rs.all Sp.isRune=true) (hT:T (p0 rs) (skip false rs)=.inr l)
  {u:List Token} {t:Token} {v:List Token} (hl:l=u++t::v) :
  0≤t.at_+t.text.length∧t.at_+t.text.length≤text.length ∧
  ∀ more:List UInt8,(∃ f,qag (text.take (t.at_+t.text.length).toNat++[32]++more)=some ([],f)∧f.code≠0) ∨
   (∃ m a,qag (text.take (t.at_+t.text.length).toNat++[32]++more)=some (u++t::(m++[⟨5,[],0,a⟩]),⟨0,0,[]⟩)):=by
 obtain ⟨a,b,hab,hane,hat,hs⟩:=T_cut _ _ _ _ (Nat.le_refl _) (zagg ha) hT u t v hl;obtain ⟨sep,hsep⟩:=zaap rs false;have hrs:rs=(sep++a)++b:=by rw[List.append_assoc,← hab]; exact hsep
 have hp:p0 rs=((encs sep).length:Int):=by
  have h1:=congrArg (fun l=>((encs l).length:Int)) hsep;rw[zabf] at h1;unfold p0;omega
 have hat2:t.at_+t.text.length=((encs (sep++a)).length:Int):=by rw[hat,hp,zabf]
 have hle:((encs (sep++a)).length:Int)+(encs b).length=text.length:=by rw[ht,← zabf,← hrs]
 have htake:text.take (t.at_+t.text.length).toNat=encs (sep++a):=by
  rw[hat2,Int.toNat_natCast,ht];conv=>lhs; rw[hrs]
  exact zar4 _ _
 refine ⟨by omega,by omega,fun more=>?_⟩;rw[htake];rcases zam1 (encs (sep++a)++[32]++more) with ⟨f,h1,h2,_⟩|⟨rs',l',h1,h2,h3,h4,h5⟩
 ·exact .inl ⟨f,h1,h2⟩
 ·have hsa:(sep++a).all Sp.isRune=true:=zatw (by rw[← hrs]; exact ha);have hu:(sep++a++[32]).all Sp.isRune=true:=by
   rw[List.all_append,hsa];rfl
  obtain ⟨s,hs'⟩:=zaqb (sep++a++[32]) rs' more hu h2 (by
   rw[← h1,zaaf (sep++a) [32]];have:encs [32]=[32]:=by decide +kernel
   rw[this])
  have hss:s.all Sp.isRune=true:=zaaz (ds:=sep++a++[32]) (by rw[← hs']; exact h2);have hrs':rs'=sep++(a++32::s):=by rw[hs']; simp
  obtain ⟨y,z,hyz⟩:∃ y z,a=y::z:=by
   cases a with
   |nil=>exact absurd rfl hane
   |cons c x=>exact ⟨c,x,rfl⟩
  have hskip:skip false rs'=a++32::s:=by
   have h6:skip false (sep++(a++b))=a++b:=by rw[← hab,← hsep]
   rw[hrs',hyz];rw[hyz] at h6;exact zafe sep false y _ _ h6
  have hp':p0 rs'=p0 rs:=by
   rw[hp];unfold p0;rw[hskip,hrs',zabf];omega
  rw[hskip,hp',hs s hss] at h4;cases hm:T (p0 rs+(encs a).length+1+(encs s).length-(encs (skip false s)).length) (skip false s) with
  |inl e=>rw[hm] at h4; cases h4
  |inr m=>
   rw[hm] at h4;simp only[Sum.inr.injEq] at h4;refine .inr ⟨m,((encs (sep++a)++[32]++more).length:Int),?_⟩;rw[h5,← h4,List.append_assoc,List.cons_append]
theorem zaq6 {α:Type} {l u r:List α} {e t:α} (h:l++[e]=u++t::r):(r=[]∧u=l∧t=e)∨∃ v,r=v++[e]∧l=u++t::v:=by
 rcases List.eq_nil_or_concat r with rfl|⟨v,x,rfl⟩
 ·obtain ⟨h1,h2⟩:=List.append_inj' h (by simp);simp only[List.cons.injEq,and_true] at h2;exact .inl ⟨rfl,h1.symm,h2.symm⟩
 ·rw[List.concat_eq_append,← List.cons_append,← List.append_assoc] at h;obtain ⟨h1,h2⟩:=List.append_inj' h (by simp);simp only[List.cons.injEq,and_true] at h2;exact .inr ⟨v,by rw[List.concat_eq_append,h2],h1⟩
theorem parseStops (hs:qaF=some true) (text more:List UInt8) (hm:more.length≤4000000):qaE text more=some true:=by
 rw[qaE,zaaa];unfold qaE_f;rw[hs,Option.bind_some];rcases zam1 text with ⟨f,h1,h2,h3⟩|⟨rs,l,h1,h2,h3,h4,h5⟩
 ·rw[zamg h1 h2,Option.bind_some];have e:(f.code != 40)=true:=by simp[h3]
  simp only[Bool.not_true,cond_false,e,Option.bind_some,cond_true]
 ·obtain ⟨q1,q2⟩:=T_ok _ _ _ _ (Nat.le_refl _) (zagg h2) h4;have hlen:l.length≤4000:=by
   have:=zah0 _ _ _ (zagg h2) l h4;have:=zaez false rs;have:=zaa5 rs;rw[← h1] at this;omega
  have he:=zatn l (text.length:Int);have hp00:0≤p0 rs∧p0 rs+(encs (skip false rs)).length=text.length:=by
   unfold p0;rw[h1];obtain ⟨sep,hsep⟩:=zaap rs false;have:=congrArg (fun l=>((encs l).length:Int)) hsep;rw[zabf] at this;omega
  obtain ⟨u,t,r,e1,e2,e3⟩:=zata _ he (by rw[List.length_append,List.length_cons,List.length_nil]; omega);rcases e3 with ⟨p,c,hp⟩|hp
  ·have hp:=hp u t r rfl rfl;rw[← e1] at hp;have hc:=c.2.2;have hu:=congrArg List.length e1;simp only[List.length_append,List.length_cons,List.length_nil] at hu;have hn:nT p.threads≤10000000000000000:=by
    have:nT []=0:=by simp[nT]
    rw[this] at hc;omega
   rw[zanj h5 hp hn,Option.bind_some];have e:((fin p).2.code != 40)=true:=by have:=zatk p; simp[this]
   simp only[Bool.not_true,cond_false,e,Option.bind_some,cond_true]
  ·have hp1:=hp u t r rfl rfl;rw[← e1] at hp1;rw[zai3 h5 hp1,Option.bind_some,h5];simp only[Bool.not_true,cond_false,bne_self_eq_false,Option.bind_some];rw[qaE_l10,zaaa];have hall:∀ x∈l++[(⟨5,[],0,(text.length:Int)⟩:Token)],0≤x.at_∧x.at_+x.text.length≤4000:=by
    intro x hx;simp only[List.mem_append,List.mem_cons,List.not_mem_nil,or_false] at hx;rcases hx with hx|rfl
    ·obtain ⟨x1,_,_,_⟩:=q1 x hx;obtain ⟨u',v',hx'⟩:=List.append_of_mem hx;obtain ⟨_,a2,_⟩:=zamh h1 h2 h4 hx';omega
    ·show 0≤(text.length:Int)∧(text.length:Int)+((0:Nat):Int)≤4000;omega
   have hloop:=zavd text more (l++[⟨5,[],0,(text.length:Int)⟩]) 40 t.at_ [] (by rw[List.length_append,List.length_cons,List.length_nil]; omega) hall _ fuel 0 (-1) (Nat.zero_add _) (by rw[List.length_append,List.length_cons,List.length_nil]; unfold fuel; omega);rw[show (((0:Nat):Int))=0 from rfl,List.drop_zero] at hloop;rw[hloop,Option.bind_some];rcases zaq6 e1 with ⟨_,hu,ht⟩|⟨v,hr,hl⟩
   ·
    have hno:∀ x∈l,x.at_≠t.at_:=by
     intro x hx;have:=(q1 x hx).2.1;rw[ht];show x.at_≠(text.length:Int);omega
    rw[look_none t.at_ l _ _ hno,look_cons,ht];have g1:¬ ((⟨5,[],0,(text.length:Int)⟩:Token).at_=(⟨5,[],0,(text.length:Int)⟩:Token).at_∧(⟨5,[],0,(text.length:Int)⟩:Token).kind≠5):=fun hh=>hh.2 rfl
    rw[if_neg g1,if_pos ⟨rfl,rfl,by decide⟩]
   ·have htl:t∈l:=by rw[hl]; simp
    obtain ⟨x1,x2,x3,_⟩:=q1 t htl;have hpw:=q2;rw[hl,List.pairwise_append,List.pairwise_cons] at hpw;have hno1:∀ x∈u,x.at_≠t.at_:=fun x hx=>by have:=hpw.2.2 x hx t (by simp); omega
    have hno2:∀ x∈v,x.at_≠t.at_:=fun x hx=>by have:=hpw.2.1.1 x hx; omega
    have hnoe:(⟨5,[],0,(text.length:Int)⟩:Token).at_≠t.at_:=by show (text.length:Int)≠t.at_; omega
    obtain ⟨a1,a2,a3⟩:=zamh h1 h2 h4 hl;have hlook:look t.at_ (l++[⟨5,[],0,(text.length:Int)⟩]) (-1)=.inr (t.at_+t.text.length):=by
     rw[hl,List.append_assoc,look_none t.at_ u _ _ hno1,List.cons_append,look_cons,if_pos ⟨rfl,x3⟩,look_none t.at_ v _ _ hno2,look_cons];have g1:¬ ((⟨5,[],0,(text.length:Int)⟩:Token).at_=t.at_∧(⟨5,[],0,(text.length:Int)⟩:Token).kind≠5):=fun hh=>hh.2 rfl
     have g2:¬ ((⟨5,[],0,(text.length:Int)⟩:Token).at_=t.at_∧(⟨5,[],0,(text.length:Int)⟩:Token).kind=5∧t.at_+(t.text.length:Int)<0):=fun hh=>hnoe hh.1
     rw[if_neg g1,if_neg g2];rfl
    rw[hlook];dsimp only;generalize hA:t.at_+(t.text.length:Int)=A at a1 a2 a3;have d1:decide (A<0)=false:=by simp only[decide_eq_false_iff_not]; omega
    have d2:decide (A>(↑(List.length text):Int))=false:=by simp only[decide_eq_false_iff_not]; omega
    have d3:(decide ((0:Int)≤(0:Int))&&(decide ((0:Int)≤A)&&decide (A≤(↑(List.length text):Int))))=true:=by simp only[Bool.and_eq_true,decide_eq_true_eq]; omega
    have hd:List.drop (0:Nat) (List.take (Int.toNat A) text)=List.take (Int.toNat A) text:=List.drop_zero;have hk:(List.take (Int.toNat A) text).length≤4000:=by rw[List.length_take]; omega
    have d4:decide (List.length (List.take (Int.toNat A) text)+(1:Nat)≤(9223372036854775807:Nat))=true:=by simp only[decide_eq_true_eq]; omega
    have d5:decide (List.length (List.take (Int.toNat A) text++[(32:UInt8)])+List.length more≤(9223372036854775807:Nat))=true:=by
     simp only[decide_eq_true_eq,List.length_append,List.length_cons,List.length_nil];omega
    simp only[d1,d2,d3,hd,d4,d5,cond_true,cond_false,Option.bind_some];rw[zaur];rcases a3 more with ⟨f,f1,f2⟩|⟨m,a,f1⟩
    ·rw[zamg f1 f2,f1];have e:(f.code != 0)=true:=by simp[f2]
     simp only[Option.map_some,Option.bind_some,e,cond_true];simp
    ·have hp2:=hp u t (m++[⟨5,[],0,a⟩]) rfl rfl;rw[zai3 f1 hp2,f1];simp only[Option.map_some,Option.bind_some,bne_self_eq_false,cond_false];simp
end Lift.A4
namespace Lift.A4
open Go Go.RowKit Lift Go.IntWalk Lift.Fn Lift.A1P Lift.A3
set_option linter.unusedVariables false
set_option linter.unusedSimpArgs false
def tx1:List UInt8:=[99,101,108,108,32,120,32,61,32,45,51,59,32,116,104,114,101,97,100,32,116,32,123,32,114,32,60,45,32,97,100,100,32,120,32,45,49,32,42,32,50,59,32,125]
def rx1:List Int:=[99,101,108,108,32,120,32,61,32,45,51,59,32,116,104,114,101,97,100,32,116,32,123,32,114,32,60,45,32,97,100,100,32,120,32,45,49,32,42,32,50,59,32,125]
def tk1:List Token:=[⟨4,[99,101,108,108],0,0⟩,⟨1,[120],0,5⟩,⟨3,[61],0,7⟩,⟨3,[45],0,9⟩,⟨2,[51],3,10⟩,⟨3,[59],0,11⟩,⟨4,[116,104,114,101,97,100],0,13⟩,⟨1,[116],0,20⟩,⟨3,[123],0,22⟩,⟨1,[114],0,24⟩,⟨3,[60,45],0,26⟩,⟨4,[97,100,100],0,29⟩,⟨1,[120],0,33⟩,⟨3,[45],0,35⟩,⟨2,[49],1,36⟩,⟨3,[42],0,38⟩,⟨2,[50],2,40⟩,⟨3,[59],0,41⟩,⟨3,[125],0,43⟩,⟨5,[],0,44⟩]
def tx2:List UInt8:=[116,104,114,101,97,100,32,116,32,123,32,97,115,115,101,114,116,32,97,32,60,32,98,32,60,32,99,59,32,125]
def rx2:List Int:=[116,104,114,101,97,100,32,116,32,123,32,97,115,115,101,114,116,32,97,32,60,32,98,32,60,32,99,59,32,125]
def tk2:List Token:=[⟨4,[116,104,114,101,97,100],0,0⟩,⟨1,[116],0,7⟩,⟨3,[123],0,9⟩,⟨4,[97,115,115,101,114,116],0,11⟩,⟨1,[97],0,18⟩,⟨3,[60],0,20⟩,⟨1,[98],0,22⟩,⟨3,[60],0,24⟩,⟨1,[99],0,26⟩,⟨3,[59],0,27⟩,⟨3,[125],0,29⟩,⟨5,[],0,30⟩]
theorem lex1:qag tx1=some (tk1,⟨0,0,[]⟩):=by
 have h:=zajf rx1 (by decide +kernel) (by decide +kernel);have e:encs rx1=tx1:=by decide +kernel
 rw[e] at h;rw[h];decide +kernel
theorem lex2:qag tx2=some (tk2,⟨0,0,[]⟩):=by
 have h:=zajf rx2 (by decide +kernel) (by decide +kernel);have e:encs rx2=tx2:=by decide +kernel
 rw[e] at h;rw[h];decide +kernel
end Lift.A4
namespace Lift.A4
open Go Go.RowKit Lift Go.IntWalk Lift.Fn Lift.A1P Lift.A3
set_option linter.unusedVariables false
set_option linter.unusedSimpArgs false
def lv:List (List ((List UInt8)×Int)):=[[([124,124],17)],[([38,38],16)],[([61,61],10),([33,61],11),([60],12),([60,61],13),([62],14),([62,61],15)],[([43],5),([45],6)],[([42],7),([47],8),([37],9)]]
theorem zaqh:qap=some lv:=by
 rw[qap,zaaa];rfl
theorem ex1 (r:List Token) (E:Int→List Token→Option RE) (f:Nat) (x:List UInt8) (n a:Int):qaC_i E (f+1) (⟨2,x,n,a⟩::r)=some (.inl (1,n,[],r,[])):=by
 show qaC_f (qaC_i E f) E (⟨2,x,n,a⟩::r)=_;unfold qaC_f;have h:∀ s,hit s ⟨2,x,n,a⟩=false:=fun s=>rfl
 simp only[took1,h,cond_false,Option.bind_some,next1,take1];rfl
theorem ex2 (r:List Token) (E:Int→List Token→Option RE) (f:Nat) (x:List UInt8) (n a:Int):qaC_i E (f+1) (⟨1,x,n,a⟩::r)=some (.inl (2,0,x,r,[])):=by
 show qaC_f (qaC_i E f) E (⟨1,x,n,a⟩::r)=_;unfold qaC_f;have h:∀ s,hit s ⟨1,x,n,a⟩=false:=fun s=>rfl
 simp only[took1,h,cond_false,Option.bind_some,next1,name1];rfl
theorem ex3 (r:List Token) (E:Int→List Token→Option RE) (f:Nat) (m a:Int) (k n:Int) (x:List UInt8) (z:List Token) (l:List TExpr) (h:qaC_i E f r=some (.inl (k,n,x,z,l))):qaC_i E (f+1) (⟨3,[45],m,a⟩::r)=some (.inl (3,0,[],z,[TExpr.mk k n x l])):=by
 show qaC_f (qaC_i E f) E (⟨3,[45],m,a⟩::r)=_;unfold qaC_f;have h1:hit [45] ⟨3,[45],m,a⟩=true:=rfl;simp only[took1,h1,cond_true,Option.bind_some,h]
theorem ex4 (n:Nat) (ts:List Token):qar_i (n+1) 5 ts=qaC_i (qar_i n) fuel ts:=by
 show qar_f (qar_i n) 5 ts=_;unfold qar_f;rw[zaqh,Option.bind_some];have e:((5:Int)==(↑(List.length lv):Int))=true:=rfl;rw[e,cond_true,qaC,zaaa];cases qaC_i (qar_i n) fuel ts with
 |none=>rfl
 |some y=>cases y<;>rfl
theorem ex5 (n:Nat) (lvl:Int) (ts:List Token) (h0:0≤lvl) (h5:lvl<5) (e:TExpr) (z:List Token) (h:qar_i n (lvl+1) ts=some (okE e z))
  (e2:TExpr) (z2:List Token) (h2:qar_i5 (qar_i n) fuel lvl z 0 0 [] e.kind e.num e.name lv e.args=some (ok5 e2 z2)) :
  qar_i (n+1) lvl ts=some (okE e2 z2):=by
 show qar_f (qar_i n) lvl ts=_;unfold qar_f;rw[zaqh,Option.bind_some];have e1:(lvl==(↑(List.length lv):Int))=false:=by
  have:(↑(List.length lv):Int)=5:=rfl;rw[this,beq_eq_false_iff_ne];omega
 rw[e1,cond_false,i64_in (lvl+1) (by omega),h,Option.bind_some];dsimp only[okE];rw[qar_l5,zaaa,h2];rfl
theorem ex6 (E : Int → List Token → Option RE) (f : Nat) (lvl : Int) (t : Token) (r : List Token) (e : TExpr) (h0 : 0 ≤ lvl) (h5 : lvl < 5) (h : (lv.getD lvl.toNat []).find? (fun y => y.1 == t.text) = none) :
  qar_i5 E (f+1) lvl (t::r) 0 0 [] e.kind e.num e.name lv e.args=some (ok5 e (t::r)):=by
 show qar_t5 E (qar_i5 E f) lvl (t::r) 0 0 [] e.kind e.num e.name lv e.args=_;unfold qar_t5;rw[next1,Option.bind_some];dsimp only;cases t.kind==3 with
 |false=>rfl
 |true=>
  have hl:(↑(List.length lv):Int)=5:=rfl;have e1:(decide ((0:Int)≤lvl)&&decide (lvl<(↑(List.length lv):Int)))=true:=by rw[hl]; simp only[Bool.and_eq_true,decide_eq_true_eq]; exact ⟨h0,h5⟩
  have hlt:lvl.toNat<lv.length:=by show lvl.toNat<5; omega
  rw[cond_true,e1,cond_true,List.getElem?_eq_getElem hlt,Option.bind_some,next1,Option.bind_some];rw[List.getD_eq_getElem?_getD,List.getElem?_eq_getElem hlt,Option.getD_some] at h;have e2:mapAt lv[lvl.toNat] t.text=none:=by unfold mapAt; rw[h]; rfl
  dsimp only;rw[e2];rfl
theorem ex7 (E : Int → List Token → Option RE) (f : Nat) (lvl : Int) (t : Token) (r : List Token) (e : TExpr) (h0 : 0 ≤ lvl) (h5 : lvl < 5) (hk : t.kind = 3) (key : List UInt8) (op : Int) (h : (lv.getD lvl.toNat []).find? (fun y => y.1 == t.text) = some (key, op))
  (x:TExpr) (z:List Token) (hE:E (lvl+1) r=some (okE x z)) :
  qar_i5 E (f+1) lvl (t::r) 0 0 [] e.kind e.num e.name lv e.args=bif lvl==2 then some (ok5 ⟨op,0,[],[e,x]⟩ z) else qar_i5 E f lvl z 0 0 [] op 0 [] lv [e,x]:=by
 show qar_t5 E (qar_i5 E f) lvl (t::r) 0 0 [] e.kind e.num e.name lv e.args=_;unfold qar_t5;rw[next1,Option.bind_some];dsimp only;have hl:(↑(List.length lv):Int)=5:=rfl;have e0:(t.kind==3)=true:=by simp[hk]
 have e1:(decide ((0:Int)≤lvl)&&decide (lvl<(↑(List.length lv):Int)))=true:=by rw[hl]; simp only[Bool.and_eq_true,decide_eq_true_eq]; exact ⟨h0,h5⟩
 have hlt:lvl.toNat<lv.length:=by show lvl.toNat<5; omega
 rw[e0,cond_true,e1,cond_true,List.getElem?_eq_getElem hlt,Option.bind_some,next1,Option.bind_some];rw[List.getD_eq_getElem?_getD,List.getElem?_eq_getElem hlt,Option.getD_some] at h;have e2:mapAt lv[lvl.toNat] t.text=some op:=by unfold mapAt; rw[h]; rfl
 dsimp only;rw[e2];simp only[Option.isSome_some,Bool.not_true,cond_false];rw[take1,Option.bind_some];dsimp only;rw[i64_in (lvl+1) (by omega),hE,Option.bind_some];dsimp only[okE];rw[zabl,zabl];rfl
end Lift.A4
namespace Lift.A4
open Go Go.RowKit Lift Go.IntWalk Lift.Fn Lift.A1P Lift.A3
set_option linter.unusedVariables false
set_option linter.unusedSimpArgs false
theorem ex8 (n:Nat) (lvl:Int) (ts:List Token) (h0:0≤lvl) (h5:lvl<5) (e:TExpr) (t:Token) (r:List Token) (h:qar_i n (lvl+1) ts=some (okE e (t::r)))
  (hf:(lv.getD lvl.toNat []).find? (fun y=>y.1==t.text)=none):qar_i (n+1) lvl ts=some (okE e (t::r)):=by
 refine ex5 n lvl ts h0 h5 e (t::r) h e (t::r) ?_;rw[show fuel=1180591620717411303423+1 from rfl];exact ex6 _ _ lvl t r e h0 h5 hf
theorem ex9 (r:List Token) (m:Nat):qar_i (m+6) 0 (⟨3,[45],0,35⟩::⟨2,[49],1,36⟩::⟨3,[42],0,38⟩::⟨2,[50],2,40⟩::⟨3,[59],0,41⟩::r) =
  some (okE ⟨7,0,[],[⟨3,0,[],[⟨1,1,[],[]⟩]⟩,⟨1,2,[],[]⟩]⟩ (⟨3,[59],0,41⟩::r)):=by
 have a4:qar_i (m+2) 4 (⟨3,[45],0,35⟩::⟨2,[49],1,36⟩::⟨3,[42],0,38⟩::⟨2,[50],2,40⟩::⟨3,[59],0,41⟩::r) =
   some (okE ⟨7,0,[],[⟨3,0,[],[⟨1,1,[],[]⟩]⟩,⟨1,2,[],[]⟩]⟩ (⟨3,[59],0,41⟩::r)):=by
  refine ex5 (m+1) 4 _ (by decide) (by decide) ⟨3,0,[],[⟨1,1,[],[]⟩]⟩ (⟨3,[42],0,38⟩::⟨2,[50],2,40⟩::⟨3,[59],0,41⟩::r) ?_ _ _ ?_
  ·show qar_i (m+1) 5 _=_;rw[ex4,show fuel=1180591620717411303422+1+1 from rfl];exact ex3 _ _ _ _ _ _ _ _ _ _ (ex1 _ _ _ _ _ _)
  ·rw[show fuel=1180591620717411303422+1+1 from rfl];rw[ex7 (qar_i (m+1)) _ 4 ⟨3,[42],0,38⟩ _ ⟨3,0,[],[⟨1,1,[],[]⟩]⟩ (by decide) (by decide) rfl [42] 7 (by decide) ⟨1,2,[],[]⟩ (⟨3,[59],0,41⟩::r) ?_]
   ·rw[show ((4:Int)==2)=false from rfl,cond_false];exact ex6 _ _ 4 ⟨3,[59],0,41⟩ r ⟨7,0,[],[⟨3,0,[],[⟨1,1,[],[]⟩]⟩,⟨1,2,[],[]⟩]⟩ (by decide) (by decide) (by decide)
   ·show qar_i (m+1) 5 _=_;rw[ex4,show fuel=1180591620717411303423+1 from rfl];exact ex1 _ _ _ _ _ _
 have a3:=ex8 (m+2) 3 _ (by decide) (by decide) _ _ _ a4 (by decide);have a2:=ex8 (m+3) 2 _ (by decide) (by decide) _ _ _ a3 (by decide);have a1:=ex8 (m+4) 1 _ (by decide) (by decide) _ _ _ a2 (by decide);exact ex8 (m+5) 0 _ (by decide) (by decide) _ _ _ a1 (by decide)
theorem ex10 (r:List Token) (m:Nat):qar_i (m+6) 0 (⟨1,[97],0,18⟩::⟨3,[60],0,20⟩::⟨1,[98],0,22⟩::⟨3,[60],0,24⟩::r) =
  some (okE ⟨12,0,[],[⟨2,0,[97],[]⟩,⟨2,0,[98],[]⟩]⟩ (⟨3,[60],0,24⟩::r)):=by
 have up : ∀ (x : List UInt8) (a : Int) (t : Token) (q : List Token), (lv.getD 4 []).find? (fun y => y.1 == t.text) = none → (lv.getD 3 []).find? (fun y => y.1 == t.text) = none →
   qar_i (m+3) 3 (⟨1,x,0,a⟩::t::q)=some (okE ⟨2,0,x,[]⟩ (t::q)):=by
  intro x a t q h4 h3;have a5:qar_i (m+1) (4+1) (⟨1,x,0,a⟩::t::q)=some (okE ⟨2,0,x,[]⟩ (t::q)):=by
   show qar_i (m+1) 5 _=_;rw[ex4,show fuel=1180591620717411303423+1 from rfl];exact ex2 _ _ _ _ _ _
  have a4:=ex8 (m+1) 4 _ (by decide) (by decide) _ _ _ a5 h4;exact ex8 (m+2) 3 _ (by decide) (by decide) _ _ _ a4 h3
 have a2:qar_i (m+4) 2 (⟨1,[97],0,18⟩::⟨3,[60],0,20⟩::⟨1,[98],0,22⟩::⟨3,[60],0,24⟩::r) =
   some (okE ⟨12,0,[],[⟨2,0,[97],[]⟩,⟨2,0,[98],[]⟩]⟩ (⟨3,[60],0,24⟩::r)):=by
  refine ex5 (m+3) 2 _ (by decide) (by decide) ⟨2,0,[97],[]⟩ (⟨3,[60],0,20⟩::⟨1,[98],0,22⟩::⟨3,[60],0,24⟩::r) (up _ _ _ _ (by decide) (by decide)) _ _ ?_;rw[show fuel=1180591620717411303422+1+1 from rfl];rw[ex7 (qar_i (m+3)) _ 2 ⟨3,[60],0,20⟩ _ ⟨2,0,[97],[]⟩ (by decide) (by decide) rfl [60] 12 (by decide) ⟨2,0,[98],[]⟩ (⟨3,[60],0,24⟩::r) (up _ _ _ _ (by decide) (by decide))];rfl
 have a1:=ex8 (m+4) 1 _ (by decide) (by decide) _ _ _ a2 (by decide);exact ex8 (m+5) 0 _ (by decide) (by decide) _ _ _ a1 (by decide)
end Lift.A4
namespace Lift.A4
open Go Go.RowKit Lift Go.IntWalk Lift.Fn Lift.A1P Lift.A3
set_option linter.unusedVariables false
set_option linter.unusedSimpArgs false
theorem name2 (x:List UInt8) (n a:Int) (r:List Token):qat (⟨1,x,n,a⟩::r)=some (.inl (x,r)):=by rw[name1]; rfl
theorem of2 (x:List UInt8) (n a:Int) (r:List Token):qav 2 (⟨2,x,n,a⟩::r)=some (.inl (⟨2,x,n,a⟩,r)):=by rw[of1]; rfl
theorem zap9 (ts:List Token) (e:TExpr) (z:List Token) (h:qar_i (1180591620717411303418+6) 0 ts=some (okE e z)):qar 0 ts=some (okE e z):=by
 rw[qar,zaaa];exact h
def e1:TExpr:=⟨7,0,[],[⟨3,0,[],[⟨1,1,[],[]⟩]⟩,⟨1,2,[],[]⟩]⟩
def s1:TStmt:=⟨4,[114],[120],e1,0,[],[]⟩
theorem st1 (r:List Token):qaw (⟨1,[114],0,24⟩::⟨3,[60,45],0,26⟩::⟨4,[97,100,100],0,29⟩::⟨1,[120],0,33⟩::⟨3,[45],0,35⟩::⟨2,[49],1,36⟩::⟨3,[42],0,38⟩::⟨2,[50],2,40⟩::⟨3,[59],0,41⟩::r) =
  some (okS s1 r):=by
 rw[qaw,zaaa];unfold qaw_f;have h1:hit [58,61] ⟨3,[60,45],0,26⟩=false:=by decide
 have h2:hit [61] ⟨3,[60,45],0,26⟩=false:=by decide
 have h3:hit [60,45] ⟨3,[60,45],0,26⟩=true:=by decide
 have h4:hit [97,100,100] ⟨4,[97,100,100],0,29⟩=true:=by decide
 have h5:hit [59] ⟨3,[59],0,41⟩=true:=by decide
 simp only[name2,took1,want1,h1,h2,h3,h4,cond_true,cond_false,Option.bind_some];rw[zap9 _ _ _ (ex9 r _),Option.bind_some];dsimp only[okE];rw[want1,h5,cond_true,Option.bind_some];rfl
theorem stmt1 (B:List Token→Option RB) (r:List Token):qaz B (⟨1,[114],0,24⟩::⟨3,[60,45],0,26⟩::⟨4,[97,100,100],0,29⟩::⟨1,[120],0,33⟩::⟨3,[45],0,35⟩::⟨2,[49],1,36⟩::⟨3,[42],0,38⟩::⟨2,[50],2,40⟩::⟨3,[59],0,41⟩::r) =
  some (okS s1 r):=by
 rw[qaz,zaaa];unfold qaz_f;have h6:((1:Int)==1)=true:=rfl;rw[next1,Option.bind_some];dsimp only;rw[h6,cond_true,st1,Option.bind_some];rfl
theorem zavm (r:List Token):qaq (⟨3,[123],0,22⟩::⟨1,[114],0,24⟩::⟨3,[60,45],0,26⟩::⟨4,[97,100,100],0,29⟩::⟨1,[120],0,33⟩::⟨3,[45],0,35⟩::⟨2,[49],1,36⟩::⟨3,[42],0,38⟩::⟨2,[50],2,40⟩::⟨3,[59],0,41⟩::⟨3,[125],0,43⟩::r) =
  some (okB [s1] r):=by
 rw[qaq,zaaa,show fuel=1180591620717411303423+1 from rfl];show qaq_f _ _=_;unfold qaq_f;have h1:hit [123] ⟨3,[123],0,22⟩=true:=by decide
 have h2:hit [125] ⟨1,[114],0,24⟩=false:=by decide
 have h3:hit [125] ⟨3,[125],0,43⟩=true:=by decide
 rw[want1,h1,cond_true,Option.bind_some];dsimp only;rw[qaq_l3,zaaa,show fuel=1180591620717411303422+1+1 from rfl];have e2:∀ B f,qaq_i3 B (f+1) (⟨3,[125],0,43⟩::r) [s1]=some (.inr (r,[s1])):=by
  intro B f;show qaq_t3 B _ _ _=_;unfold qaq_t3;rw[took1,h3,Option.bind_some];rfl
 have e1:∀ B f,qaq_i3 B (f+1+1) (⟨1,[114],0,24⟩::⟨3,[60,45],0,26⟩::⟨4,[97,100,100],0,29⟩::⟨1,[120],0,33⟩::⟨3,[45],0,35⟩::⟨2,[49],1,36⟩::⟨3,[42],0,38⟩::⟨2,[50],2,40⟩::⟨3,[59],0,41⟩::⟨3,[125],0,43⟩::r) []=some (.inr (r,[s1])):=by
  intro B f;show qaq_t3 B (qaq_i3 B (f+1)) _ _=_;unfold qaq_t3;rw[took1,h2,Option.bind_some];simp only[Bool.not_false,cond_true,cond_false];rw[stmt1,Option.bind_some];dsimp only[okS];rw[List.nil_append,e2];rfl
 rw[e1];rfl
def g1:TProg:=⟨[⟨[120],-3⟩],[],[⟨[116],[s1]⟩]⟩
theorem prog1:qax tk1=some (okP g1 [⟨5,[],0,44⟩]):=by
 rw[qax,zaaa];unfold qax_f;rw[qax_l2,zaaa,show fuel=1180591620717411303421+1+1+1 from rfl];have a3:∀ f,qax_i2 (f+1) [⟨5,[],0,44⟩] [⟨[120],-3⟩] [] [⟨[116],[s1]⟩]=some (ok2 g1 [⟨5,[],0,44⟩]):=by
  intro f;show qax_t2 _ _ _ _ _=_;unfold qax_t2;rw[next1,Option.bind_some];rfl
 have a2:∀ f,qax_i2 (f+1+1) (⟨4,[116,104,114,101,97,100],0,13⟩::⟨1,[116],0,20⟩::⟨3,[123],0,22⟩::⟨1,[114],0,24⟩::⟨3,[60,45],0,26⟩::⟨4,[97,100,100],0,29⟩::⟨1,[120],0,33⟩::⟨3,[45],0,35⟩::⟨2,[49],1,36⟩::⟨3,[42],0,38⟩::⟨2,[50],2,40⟩::⟨3,[59],0,41⟩::⟨3,[125],0,43⟩::[⟨5,[],0,44⟩]) [⟨[120],-3⟩] [] []=some (ok2 g1 [⟨5,[],0,44⟩]):=by
  intro f;show qax_t2 (qax_i2 (f+1)) _ _ _ _=_;unfold qax_t2;have h0:((4:Int) != 5)=true:=rfl;have h1:hit [99,101,108,108] ⟨4,[116,104,114,101,97,100],0,13⟩=false:=by decide
  have h2:hit [109,117,116,101,120] ⟨4,[116,104,114,101,97,100],0,13⟩=false:=by decide
  have h3:hit [116,104,114,101,97,100] ⟨4,[116,104,114,101,97,100],0,13⟩=true:=by decide
  rw[next1,Option.bind_some];dsimp only;simp only[h0,took1,h1,h2,want1,h3,name2,cond_true,cond_false,Option.bind_some];rw[zavm,Option.bind_some];dsimp only[okB];rw[List.nil_append,a3];rfl
 have a1:∀ f,qax_i2 (f+1+1+1) tk1 [] [] []=some (ok2 g1 [⟨5,[],0,44⟩]):=by
  intro f;show qax_t2 (qax_i2 (f+1+1)) _ _ _ _=_;unfold qax_t2 tk1;have h0:((4:Int) != 5)=true:=rfl;have h1:hit [99,101,108,108] ⟨4,[99,101,108,108],0,0⟩=true:=by decide
  have h2:hit [61] ⟨3,[61],0,7⟩=true:=by decide
  have h3:hit [45] ⟨3,[45],0,9⟩=true:=by decide
  have h5:hit [59] ⟨3,[59],0,11⟩=true:=by decide
  rw[next1,Option.bind_some];dsimp only;simp only[h0,took1,h1,h2,h3,of2,want1,h5,name2,cond_true,cond_false,Option.bind_some];rw[List.nil_append,show (IntKind.i64.wrap ((0:Int)-3))=-3 by decide,a2];rfl
 rw[a1];rfl
def e2:TExpr:=⟨12,0,[],[⟨2,0,[97],[]⟩,⟨2,0,[98],[]⟩]⟩
theorem zauh (B:List Token→Option RB) (t:Token) (r:List Token) (h:∀ w∈four,hit w t=false):∀ (k f i:Nat),i+k=4→k<f →
  qaz_i4 B f 4 i (t::r) 0 [] [] 0 0 [] 0 four=some (okO none (t::r)):=by
 intro k;induction k with
 |zero=>
  intro f i hi hf;obtain ⟨f,rfl⟩:∃ q,f=q+1:=⟨f-1,by omega⟩;show qaz_t4 B (qaz_i4 B f) 4 i (t::r) 0 [] [] 0 0 [] 0 four=_;unfold qaz_t4;have e1:decide ((i:Int)<4)=false:=by simp only[decide_eq_false_iff_not]; omega
  rw[e1];rfl
 |succ k ih=>
  intro f i hi hf;obtain ⟨f,rfl⟩:∃ q,f=q+1:=⟨f-1,by omega⟩;show qaz_t4 B (qaz_i4 B f) 4 i (t::r) 0 [] [] 0 0 [] 0 four=_;unfold qaz_t4;have e1:decide ((i:Int)<4)=true:=by simp only[decide_eq_true_eq]; omega
  have e2:(decide ((0:Int)≤(i:Int))&&decide ((i:Int)<(↑(List.length four):Int)))=true:=by
   simp only[Bool.and_eq_true,decide_eq_true_eq];exact ⟨by omega,by show (i:Int)<4; omega⟩
  have hlt:(i:Int).toNat<four.length:=by show (i:Int).toNat<4; omega
  have hw:=h four[(i:Int).toNat] (List.getElem_mem hlt);rw[e1,e2,cond_true,cond_true,List.getElem?_eq_getElem hlt,Option.bind_some,took1,hw,Option.bind_some];dsimp only[cond_false];rw[i64_in ((i:Int)+1) (by omega)];exact ih f (i+1) (by omega) (by omega)
theorem stmt2 (B:List Token→Option RB) (r:List Token):qaz B (⟨4,[97,115,115,101,114,116],0,11⟩::⟨1,[97],0,18⟩::⟨3,[60],0,20⟩::⟨1,[98],0,22⟩::⟨3,[60],0,24⟩::r)=some (.inr ⟨24⟩):=by
 rw[qaz,zaaa];unfold qaz_f;have h6:((4:Int)==1)=false:=rfl;have h1:hit [97,115,115,101,114,116] ⟨4,[97,115,115,101,114,116],0,11⟩=true:=by decide
 have h2:hit [59] ⟨3,[60],0,24⟩=false:=by decide
 rw[next1,Option.bind_some];dsimp only;rw[h6,cond_false,qaz_l4,zaaa];have hf:=zauh B ⟨4,[97,115,115,101,114,116],0,11⟩ (⟨1,[97],0,18⟩::⟨3,[60],0,20⟩::⟨1,[98],0,22⟩::⟨3,[60],0,24⟩::r) (by decide) 4 fuel 0 rfl (by unfold fuel; omega);rw[show ((0:Nat):Int)=0 from rfl] at hf;rw[show (↑(4:Nat):Int)=4 from rfl,hf,Option.bind_some];dsimp only[okO];rw[took1,h1,Option.bind_some];dsimp only[cond_true];rw[zap9 _ _ _ (ex10 r _),Option.bind_some];dsimp only[okE];rw[want1,h2,cond_false,Option.bind_some]
theorem zavh (r:List Token):qaq (⟨3,[123],0,9⟩::⟨4,[97,115,115,101,114,116],0,11⟩::⟨1,[97],0,18⟩::⟨3,[60],0,20⟩::⟨1,[98],0,22⟩::⟨3,[60],0,24⟩::r)=some (.inr ⟨24⟩):=by
 rw[qaq,zaaa,show fuel=1180591620717411303423+1 from rfl];show qaq_f _ _=_;unfold qaq_f;have h1:hit [123] ⟨3,[123],0,9⟩=true:=by decide
 have h2:hit [125] ⟨4,[97,115,115,101,114,116],0,11⟩=false:=by decide
 rw[want1,h1,cond_true,Option.bind_some];dsimp only;rw[qaq_l3,zaaa,show fuel=1180591620717411303423+1 from rfl];have e1:∀ B f,qaq_i3 B (f+1) (⟨4,[97,115,115,101,114,116],0,11⟩::⟨1,[97],0,18⟩::⟨3,[60],0,20⟩::⟨1,[98],0,22⟩::⟨3,[60],0,24⟩::r) []=some (.inl ⟨24⟩):=by
  intro B f;show qaq_t3 B (qaq_i3 B f) _ _=_;unfold qaq_t3;rw[took1,h2,Option.bind_some];simp only[Bool.not_false,cond_true,cond_false];rw[stmt2,Option.bind_some]
 rw[e1];rfl
theorem prog2:qax tk2=some (.inr ⟨24⟩):=by
 rw[qax,zaaa];unfold qax_f;rw[qax_l2,zaaa,show fuel=1180591620717411303423+1 from rfl];have a1:∀ f,qax_i2 (f+1) tk2 [] [] []=some (.inl ⟨24⟩):=by
  intro f;show qax_t2 (qax_i2 f) _ _ _ _=_;unfold qax_t2 tk2;have h0:((4:Int) != 5)=true:=rfl;have h1:hit [99,101,108,108] ⟨4,[116,104,114,101,97,100],0,0⟩=false:=by decide
  have h2:hit [109,117,116,101,120] ⟨4,[116,104,114,101,97,100],0,0⟩=false:=by decide
  have h3:hit [116,104,114,101,97,100] ⟨4,[116,104,114,101,97,100],0,0⟩=true:=by decide
  rw[next1,Option.bind_some];dsimp only;simp only[h0,took1,h1,h2,want1,h3,name2,cond_true,cond_false,Option.bind_some];rw[zavh,Option.bind_some]
 rw[a1];rfl
theorem zavp:qao tx1=some (g1,⟨0,0,[]⟩):=by
 rw[zanj lex1 prog1 (by decide)];unfold fin;rw[if_neg (by decide +kernel),if_neg (by decide +kernel)]
theorem zavn:qao tx2=some (⟨[],[],[]⟩,⟨40,24,[]⟩):=zai3 lex2 prog2
theorem zavl:qaF=some true:=by
 rw[qaF,zaaa];unfold qaF_f;have h1:=zavp;have h2:=zavn;unfold tx1 at h1;unfold tx2 at h2;rw[h1,Option.bind_some,h2,Option.bind_some];rfl
theorem parseStops1 (text more:List UInt8) (hm:more.length≤4000000):qaE text more=some true:=parseStops zavl text more hm
end Lift.A4
