/-
  DERIVED. The Lean functions answer as the laws say. Conditions: as each theorem says.
-/
import Derived.Test.YtcmhkcpheehlhaaGreatDoorWalk
import Derived.IntWalk
import Derived.Lib.AtoiAllCases
set_option linter.unusedVariables false
set_option linter.unusedSimpArgs false
set_option linter.unusedSectionVars false
namespace Lift.A1P
open Go Go.RowKit Lift Go.IntWalk
namespace Sp
def isRune (r:Int):Bool:=decide (0<=r/\r<=1114111/\(r<55296\/r>57343))
def letter (r:Int):Bool:=isRune r&&decide ((65<=r/\r<=90)\/r=95\/(97<=r/\r<=122)\/192<=r)
def digit (r:Int):Bool:=decide (48<=r/\r<=57)
def blank (r:Int):Bool:=decide (r=9\/r=10\/r=13\/r=32)
def long (r:Int):Int:=if r<128 then 1 else if r<2048 then 2 else if r<65536 then 3 else 4
def enc (r:Int):List Int:=
 if r<128 then [r] else if r<2048 then [192+r / 64,128+r % 64] else if r<65536 then [224+r / 4096,128+r / 64 % 64,128+r % 64]
 else [240+r / 262144,128+r / 4096 % 64,128+r / 64 % 64,128+r % 64]
def dc (t:List UInt8) (p:Nat):Nat×Nat:=Utf8.decode ⟨t.toArray⟩ p
def bad (t:List UInt8) (p:Nat):Bool:=decide ((dc t p).1=65533)&&!(((t.take (min t.length (p+3))).drop p)==[239,191,189])
def at1 (t:List UInt8) (p:Int):Int:=if bad t p.toNat then 0 else ((dc t p.toNat).1:Int)
def at2 (t:List UInt8) (p:Int):Int:=if bad t p.toNat then 0 else ((dc t p.toNat).2:Int)
def on (s:Spot) (r n:Int):Spot:=if r=10 then ⟨s.rune,s.at_+n,s.line+1,1⟩ else ⟨s.rune,s.at_+n,s.line,s.col+1⟩
def spotsFrom (t:List UInt8):Nat->List Spot->Spot->List Spot×Spot
 |0,acc,s=>(acc,s)
 | n + 1, acc, s => if s.at_ < t.length then (if bad t s.at_.toNat then (acc, s) else
   spotsFrom t n (acc++[⟨at1 t s.at_,s.at_,s.line,s.col⟩]) (on ⟨at1 t s.at_,s.at_,s.line,s.col⟩ (at1 t s.at_) (at2 t s.at_))) else (acc,s)
def cont (t:List UInt8) (p:Int):Nat->Int->Int->Option Int
 |0,r,_=>some r
 |k+1,r,i=>match t[(p+i).toNat]? with
  |none=>none
  |some d=>if d.toNat<128\/191<d.toNat then none else cont t p k (64*r+d.toNat-128) (i+1)
def ended (s:Spot):Spot:=⟨-1,s.at_,s.line,s.col⟩
def spots1 (t:List UInt8):List Spot:=(spotsFrom t t.length [] ⟨0,0,1,1⟩).1
def spots2 (t:List UInt8):Spot:=ended (spotsFrom t t.length [] ⟨0,0,1,1⟩).2
def runes1 (t:List UInt8):List Spot:=if 4000<t.length then [] else if (spots2 t).at_<t.length then [] else spots1 t
def runes2 (t:List UInt8):Fault:=if 4000<t.length then ⟨10,4000,[]⟩ else if (spots2 t).at_<t.length then ⟨11,(spots2 t).at_,[]⟩ else ⟨0,0,[]⟩
def same (a b:List Spot):Bool:=decide (a=b)
end Sp
namespace Sp
def by_ (l:List UInt8) (k:Nat):Nat:=(l.getD k 0).toNat
def ct (l:List UInt8) (k:Nat):Bool:=decide (k<l.length)&&(by_ l k / 64==2)
def dl (l:List UInt8):Nat×Nat:=
 if by_ l 0<0x80 then (by_ l 0,1)
 else if by_ l 0 / 32 == 6 && ct l 1 then
  if (by_ l 0 % 32)*64+by_ l 1 % 64>=0x80 then ((by_ l 0 % 32)*64+by_ l 1 % 64,2) else (65533,1)
 else if by_ l 0 / 16 == 14 && ct l 1 && ct l 2 then
  if (by_ l 0 % 16)*4096+(by_ l 1 % 64)*64+by_ l 2 % 64>=0x800&&Utf8.valid (((by_ l 0 % 16)*4096+(by_ l 1 % 64)*64+by_ l 2 % 64:Nat):Int) then ((by_ l 0 % 16)*4096+(by_ l 1 % 64)*64+by_ l 2 % 64,3) else (65533,1)
 else if by_ l 0 / 8 == 30 && ct l 1 && ct l 2 && ct l 3 then
  if (by_ l 0 % 8)*262144+(by_ l 1 % 64)*4096+(by_ l 2 % 64)*64+by_ l 3 % 64>=0x10000&&Utf8.valid (((by_ l 0 % 8)*262144+(by_ l 1 % 64)*4096+(by_ l 2 % 64)*64+by_ l 3 % 64:Nat):Int) then ((by_ l 0 % 8)*262144+(by_ l 1 % 64)*4096+(by_ l 2 % 64)*64+by_ l 3 % 64,4) else (65533,1)
 else (65533,1)
def badl (l:List UInt8):Bool:=decide ((dl l).1=65533)&&!(l.take 3==[239,191,189])
theorem zatk (t:List UInt8) (q k:Nat):by_ (t.drop q) k=(t.getD (q+k) 0).toNat:=by
 simp[by_,List.getD_eq_getElem?_getD]
theorem dc_eq (t:List UInt8) (q:Nat):dc t q=dl (t.drop q):=by
 have hb:∀ k,((⟨t.toArray⟩:ByteArray).get! (q+k)).toNat=by_ (t.drop q) k:=by
  intro k;rw[zatk];simp[ByteArray.get!,List.getD_eq_getElem?_getD,getElem!_def];cases t[q+k]?<;>rfl
 have hs:(⟨t.toArray⟩:ByteArray).size=t.length:=by simp[ByteArray.size]
 have hc:∀ k,(decide (q+k<t.length)&&((by_ (t.drop q) k) / 64==2))=ct (t.drop q) k:=by
  intro k;unfold ct;have:(q+k<t.length)↔(k<(t.drop q).length):=by simp; omega
  simp only[this]
 unfold dc Utf8.decode;simp only[hb,hs,hc];unfold dl;rfl
theorem bad_eq (t:List UInt8) (q:Nat):bad t q=badl (t.drop q):=by
 unfold bad badl;rw[dc_eq];congr 2;have:(t.take (min t.length (q+3))).drop q=(t.drop q).take 3:=by
  have h1:t.take (min t.length (q+3))=t.take (q+3):=by
   rcases Nat.le_total t.length (q+3) with h|h
   ·rw[Nat.min_eq_left h,List.take_of_length_le h,List.take_of_length_le (qz _)]
   ·rw[Nat.min_eq_right h]
  rw[h1,List.drop_take];simp
 rw[this]
end Sp
namespace Sp
theorem take3 (l:List UInt8):(l.take 3==[239,191,189])=decide (3<=l.length/\by_ l 0=239/\by_ l 1=191/\by_ l 2=189):=by
 have e:∀ (a b:UInt8),(a==b)=decide (a.toNat=b.toNat):=fun a b=>by
  rw[Bool.eq_iff_iff]; simp[UInt8.toNat_inj]
 match l with
 |[]=>simp[by_]
 |[a]=>simp[by_]
 |[a,b]=>simp[by_]
 |a::b::c::r=>
  have:List.take 3 (a::b::c::r)=[a,b,c]:=rfl;rw[this];rw[Bool.eq_iff_iff];simp[by_,<-UInt8.toNat_inj]
theorem get_by {t:List UInt8} {p:Int} {j:Nat} (hp:0<=p) (h:p+j<t.length):∃ x,t[(p+j).toNat]? = some x/\x.toNat=by_ (t.drop p.toNat) j:=by
 have hlt:(p+j).toNat<t.length:=by omega
 refine ⟨t[(p+j).toNat],xp hlt,?_⟩;rw[zatk];have:p.toNat+j=(p+j).toNat:=by omega
 rw[this,List.getD_eq_getElem?_getD,xp hlt];rfl
theorem zae6 {t:List UInt8} {p:Int} {j k:Nat} {r:Int} (hp:0<=p) (h:p+j<t.length) :
  cont t p (k+1) r j=if by_ (t.drop p.toNat) j<128\/191<by_ (t.drop p.toNat) j then none else cont t p k (64*r+by_ (t.drop p.toNat) j-128) (j+1:Nat):=by
 obtain ⟨x,h1,h2⟩:=get_by hp h;simp only[cont,h1,h2];rfl
theorem cont1 {t:List UInt8} {p:Int} {r:Int} (hp:0<=p) (h:p+2<=t.length):cont t p 1 r 1 =
  if by_ (t.drop p.toNat) 1<128\/191<by_ (t.drop p.toNat) 1 then none else some (64*r+by_ (t.drop p.toNat) 1-128):=by
 have:=zae6 (t:=t) (k:=0) (r:=r) (j:=1) hp (by omega);simpa [cont] using this
theorem cont2 {t:List UInt8} {p:Int} {r:Int} (hp:0<=p) (h:p+3<=t.length):cont t p 2 r 1 =
  if by_ (t.drop p.toNat) 1<128\/191<by_ (t.drop p.toNat) 1 then none else if by_ (t.drop p.toNat) 2<128\/191<by_ (t.drop p.toNat) 2 then none else some (64*(64*r+by_ (t.drop p.toNat) 1-128)+by_ (t.drop p.toNat) 2-128):=by
 have h1:=zae6 (t:=t) (k:=1) (r:=r) (j:=1) hp (by omega);have h2:=zae6 (t:=t) (k:=0) (r:=64*r+by_ (t.drop p.toNat) 1-128) (j:=2) hp (by omega);rw[show ((1:Nat):Int)=1 from rfl] at h1;rw[h1];rw[show (1+1:Nat)=2 from rfl,h2];rfl
theorem cont3 {t:List UInt8} {p:Int} {r:Int} (hp:0<=p) (h:p+4<=t.length):cont t p 3 r 1 =
  if by_ (t.drop p.toNat) 1<128\/191<by_ (t.drop p.toNat) 1 then none else if by_ (t.drop p.toNat) 2<128\/191<by_ (t.drop p.toNat) 2 then none else
  if by_ (t.drop p.toNat) 3<128\/191<by_ (t.drop p.toNat) 3 then none else some (64*(64*(64*r+by_ (t.drop p.toNat) 1-128)+by_ (t.drop p.toNat) 2-128)+by_ (t.drop p.toNat) 3-128):=by
 have h1:=zae6 (t:=t) (k:=2) (r:=r) (j:=1) hp (by omega);have h2:=zae6 (t:=t) (k:=1) (r:=64*r+by_ (t.drop p.toNat) 1-128) (j:=2) hp (by omega);have h3:=zae6 (t:=t) (k:=0) (r:=64*(64*r+by_ (t.drop p.toNat) 1-128)+by_ (t.drop p.toNat) 2-128) (j:=3) hp (by omega);rw[show ((1:Nat):Int)=1 from rfl] at h1;rw[h1];rw[show (1+1:Nat)=2 from rfl,h2];rw[show (2+1:Nat)=3 from rfl,h3];rfl
end Sp
def ansA (n b0 b1 b2 b3:Nat):Int×Int:=
 let ok (r:Int) (k:Int):Int×Int:=if (0<=r/\r<=1114111/\(r<55296\/r>57343))/\Sp.long r=k then (r,k) else (0,0)
 if 240<=b0 then (if n<4 then (0,0) else if b1<128\/191<b1 then (0,0) else if b2<128\/191<b2 then (0,0) else if b3<128\/191<b3 then (0,0) else ok (64*(64*(64*(b0-240)+b1-128)+b2-128)+b3-128) 4)
 else if 224<=b0 then (if n<3 then (0,0) else if b1<128\/191<b1 then (0,0) else if b2<128\/191<b2 then (0,0) else ok (64*(64*(b0-224)+b1-128)+b2-128) 3)
 else if 192<=b0 then (if n<2 then (0,0) else if b1<128\/191<b1 then (0,0) else ok (64*(b0-192)+b1-128) 2)
 else if 128<=b0 then (0,0) else (b0,1)
theorem zaie (r:Int):Utf8.valid r=true↔(0<=r/\r<55296)\/(57344<=r/\r<=1114111):=by
 unfold Utf8.valid;simp only[Bool.or_eq_true,qd,qj]
theorem zaqt (l:List UInt8) (hl:0<l.length):ansA l.length (Sp.by_ l 0) (Sp.by_ l 1) (Sp.by_ l 2) (Sp.by_ l 3)=if Sp.badl l then (0,0) else (((Sp.dl l).1:Int),((Sp.dl l).2:Int)):=by
 have hb:∀ k,Sp.by_ l k<256:=fun k=>(l.getD k 0).toNat_lt
 have h0:=hb 0;have h1:=hb 1;have h2:=hb 2;have h3:=hb 3;unfold Sp.badl;rw[Sp.take3];obtain ⟨D,hD⟩:∃ D,D=Sp.dl l:=⟨_,rfl⟩;rw[<-hD];unfold Sp.dl Sp.ct at hD;generalize Sp.by_ l 0=b0 at *;generalize Sp.by_ l 1=b1 at *;generalize Sp.by_ l 2=b2 at *;generalize Sp.by_ l 3=b3 at *;generalize l.length=n at *;clear hb;have small:∀ r:Int,r<128->Sp.long r=1:=fun r h=>by unfold Sp.long; rw[if_pos h]
 have two:∀ r:Int,128<=r->r<2048->Sp.long r=2:=fun r h h'=>by unfold Sp.long; rw[if_neg (by omega),if_pos h']
 have three:∀ r:Int,2048<=r->r<65536->Sp.long r=3:=fun r h h'=>by unfold Sp.long; rw[if_neg (by omega),if_neg (by omega),if_pos h']
 have four:∀ r:Int,65536<=r->Sp.long r=4:=fun r h=>by unfold Sp.long; rw[if_neg (by omega),if_neg (by omega),if_neg (by omega)]
 simp only[qd,qj,beq_iff_eq,zaie,ge_iff_le] at hD;simp only[qd,qj,Bool.not_eq_true',ya];have good:∀ (r k:Nat),D=(r,k)->¬ (r=65533/\¬ (3<=n/\b0=239/\b1=191/\b2=189))->(if D.1=65533/\¬ (3<=n/\b0=239/\b1=191/\b2=189) then ((0:Int),(0:Int)) else (↑D.1,↑D.2))=((r:Int),(k:Int)):=by
  intro r k h1 h2;rw[h1];exact if_neg h2
 have badd:D=(65533,1)->¬ (3<=n/\b0=239/\b1=191/\b2=189)->(if D.1=65533/\¬ (3<=n/\b0=239/\b1=191/\b2=189) then ((0:Int),(0:Int)) else (↑D.1,↑D.2))=(0,0):=by
  intro h1 h2;rw[h1];exact if_pos ⟨rfl,h2⟩
 unfold ansA;by_cases k0:b0<128
 ·rw[if_neg (by omega),if_neg (by omega),if_neg (by omega),if_neg (by omega)];rw[if_pos k0] at hD;rw[good _ _ hD (by omega)];rfl
 rw[if_neg k0] at hD;by_cases k1:b0<192
 ·rw[if_neg (by omega),if_neg (by omega),if_neg (by omega),if_pos (by omega)];rw[if_neg (by omega),if_neg (by omega),if_neg (by omega)] at hD;rw[badd hD (by omega)]
 by_cases k2:b0<224
 ·rw[if_neg (by omega),if_neg (by omega),if_pos (by omega)];by_cases c1:n<2
  ·rw[if_neg (by omega),if_neg (by omega),if_neg (by omega)] at hD;rw[if_pos c1,badd hD (by omega)]
  rw[if_neg c1];by_cases c2:b1<128\/191<b1
  ·rw[if_neg (by omega),if_neg (by omega),if_neg (by omega)] at hD;rw[if_pos c2,badd hD (by omega)]
  rw[if_neg c2];rw[if_pos (by omega)] at hD;by_cases c3:128<=b0 % 32*64+b1 % 64
  ·rw[if_pos c3] at hD;rw[good _ _ hD (by omega)];have:=two (64*((b0:Int)-192)+b1-128) (by omega) (by omega);show (if _ then _ else _)=_;rw[if_pos ⟨by omega,this⟩];simp only[xa];omega
  ·rw[if_neg c3] at hD;rw[badd hD (by omega)];show (if _ then _ else _)=_;rw[if_neg];intro hh;have:=small (64*((b0:Int)-192)+b1-128) (by omega);omega
 by_cases k3:b0<240
 ·rw[if_neg (by omega),if_pos (by omega)];by_cases c1:n<3
  ·rw[if_neg (by omega),if_neg (by omega),if_neg (by omega)] at hD;rw[if_pos c1,badd hD (by omega)]
  rw[if_neg c1];by_cases c2:b1<128\/191<b1
  ·rw[if_neg (by omega),if_neg (by omega),if_neg (by omega)] at hD;rw[if_pos c2,badd hD (by omega)]
  rw[if_neg c2];by_cases c3:b2<128\/191<b2
  ·rw[if_neg (by omega),if_neg (by omega),if_neg (by omega)] at hD;rw[if_pos c3,badd hD (by omega)]
  rw[if_neg c3];rw[if_neg (by omega),if_pos (by omega)] at hD;have hv:(64*(64*((b0:Int)-224)+b1-128)+b2-128)=((b0 % 16*4096+b1 % 64*64+b2 % 64:Nat):Int):=by omega
  show (if _ then _ else _)=_;rw[hv];obtain ⟨N,hN⟩:∃ N,N=b0 % 16*4096+b1 % 64*64+b2 % 64:=⟨_,rfl⟩;rw[<-hN] at hD ⊢;by_cases c4:2048<=N/\(0<=(N:Int)/\(N:Int)<55296\/57344<=(N:Int)/\(N:Int)<=1114111)
  ·rw[if_pos c4] at hD;have h5:=three (N:Int) (by omega) (by omega);rw[good N 3 hD (by omega),if_pos (And.intro (by omega) h5)];exact Prod.ext rfl rfl
  ·rw[if_neg c4] at hD;rw[badd hD (by omega),if_neg];intro hh;by_cases c5:N<128
   ·have:=small (N:Int) (by omega); omega
   by_cases c6:N<2048
   ·have:=two (N:Int) (by omega) (by omega); omega
   ·omega
 ·rw[if_pos (by omega)];by_cases c1:n<4
  ·rw[if_neg (by omega),if_neg (by omega),if_neg (by omega)] at hD;rw[if_pos c1,badd hD (by omega)]
  rw[if_neg c1];by_cases c2:b1<128\/191<b1
  ·rw[if_neg (by omega),if_neg (by omega),if_neg (by omega)] at hD;rw[if_pos c2,badd hD (by omega)]
  rw[if_neg c2];by_cases c3:b2<128\/191<b2
  ·rw[if_neg (by omega),if_neg (by omega),if_neg (by omega)] at hD;rw[if_pos c3,badd hD (by omega)]
  rw[if_neg c3];by_cases c3':b3<128\/191<b3
  ·rw[if_neg (by omega),if_neg (by omega),if_neg (by omega)] at hD;rw[if_pos c3',badd hD (by omega)]
  rw[if_neg c3'];rw[if_neg (by omega),if_neg (by omega)] at hD;have hv:(64*(64*(64*((b0:Int)-240)+b1-128)+b2-128)+b3-128)=(((b0-240)*262144+(b1-128)*4096+(b2-128)*64+(b3-128):Nat):Int):=by omega
  show (if _ then _ else _)=_;rw[hv];by_cases k4:b0<248
  ·rw[if_pos (by omega)] at hD;have hm:b0 % 8*262144+b1 % 64*4096+b2 % 64*64+b3 % 64=(b0-240)*262144+(b1-128)*4096+(b2-128)*64+(b3-128):=by omega
   rw[hm] at hD;obtain ⟨N,hN⟩:∃ N,N=(b0-240)*262144+(b1-128)*4096+(b2-128)*64+(b3-128):=⟨_,rfl⟩;rw[<-hN] at hD ⊢;by_cases c4:65536<=N/\(0<=(N:Int)/\(N:Int)<55296\/57344<=(N:Int)/\(N:Int)<=1114111)
   ·rw[if_pos c4] at hD;have h5:=four (N:Int) (by omega);rw[good N 4 hD (by omega),if_pos (And.intro (by omega) h5)];exact Prod.ext rfl rfl
   ·rw[if_neg c4] at hD;rw[badd hD (by omega),if_neg];intro hh;by_cases c5:N<128
    ·have:=small (N:Int) (by omega); omega
    by_cases c6:N<2048
    ·have:=two (N:Int) (by omega) (by omega); omega
    by_cases c7:N<65536
    ·have:=three (N:Int) (by omega) (by omega); omega
    ·omega
  ·rw[if_neg (by omega)] at hD;rw[badd hD (by omega),if_neg];intro hh;omega
def zafx (t:List UInt8) (s:Spot):Prop:=t.length<=4000/\0<=s.at_/\s.at_<=t.length/\1<=s.line/\s.line<=s.at_+1/\1<=s.col/\s.col<=s.at_+1
noncomputable def zaa2 (t:List UInt8) (l:List Spot) (s:Spot):List Spot×Spot:=Sp.spotsFrom t (t.length-s.at_.toNat) l s
namespace Sp
theorem dl_pos (l:List UInt8) (h:0<l.length):1<=(dl l).2/\(dl l).2<=4/\(dl l).2<=l.length:=by
 unfold dl ct;simp only[qd,qj];repeat' split
 all_goals simp only
 all_goals omega
theorem ansA_ok (n b0 b1 b2 b3:Nat) (h:b0<256):ansA n b0 b1 b2 b3=(0,0)\/(isRune (ansA n b0 b1 b2 b3).1=true/\long (ansA n b0 b1 b2 b3).1=(ansA n b0 b1 b2 b3).2):=by
 unfold ansA;simp only;by_cases a1:240<=b0
 ·rw[if_pos a1];repeat' split
  all_goals first|exact .inl rfl|(rename_i hc; exact .inr ⟨by simpa only[isRune,qj] using hc.1,hc.2⟩)
 rw[if_neg a1];by_cases a2:224<=b0
 ·rw[if_pos a2];repeat' split
  all_goals first|exact .inl rfl|(rename_i hc; exact .inr ⟨by simpa only[isRune,qj] using hc.1,hc.2⟩)
 rw[if_neg a2];by_cases a3:192<=b0
 ·rw[if_pos a3];repeat' split
  all_goals first|exact .inl rfl|(rename_i hc; exact .inr ⟨by simpa only[isRune,qj] using hc.1,hc.2⟩)
 rw[if_neg a3];by_cases a4:128<=b0
 ·rw[if_pos a4]; exact .inl rfl
 rw[if_neg a4];exact .inr ⟨by simp only[isRune,qj]; omega,by unfold long; rw[if_pos (by omega)]⟩
theorem good_at {t:List UInt8} {p:Int} (hp:0<=p) (h:p<t.length) (hb:bad t p.toNat=false):isRune (at1 t p)=true/\long (at1 t p)=at2 t p/\1<=at2 t p/\at2 t p<=4/\p+at2 t p<=t.length /\
  at1 t p=(dc t p.toNat).1/\at2 t p=(dc t p.toNat).2:=by
 have hl:0<(t.drop p.toNat).length:=by simp; omega
 obtain ⟨h1,h2,h3⟩:=dl_pos _ hl;have h4:=zaqt _ hl;rw[<-bad_eq,hb,<-dc_eq] at h4;rw[<-dc_eq] at h1 h2 h3;have hlen:((t.drop p.toNat).length:Int)=t.length-p:=by simp; omega
 unfold at1 at2;rw[hb];simp only[xg,if_false] at h4 ⊢;rcases ansA_ok (t.drop p.toNat).length (by_ (t.drop p.toNat) 0) (by_ (t.drop p.toNat) 1) (by_ (t.drop p.toNat) 2) (by_ (t.drop p.toNat) 3) ((t.drop p.toNat).getD 0 0).toNat_lt with h5|⟨h5,h6⟩
 ·rw[h4] at h5;simp only[xa] at h5;omega
 ·rw[h4] at h5 h6;exact ⟨h5,h6,by omega,by omega,by omega,by simp⟩
theorem bad_at {t:List UInt8} {p:Int} (hb:bad t p.toNat=true):at1 t p=0/\at2 t p=0:=by
 unfold at1 at2;simp[hb]
theorem fuel (t:List UInt8):∀ (n m:Nat) (l:List Spot) (s:Spot),0<=s.at_->t.length-s.at_.toNat<=n->t.length-s.at_.toNat<=m->spotsFrom t n l s=spotsFrom t m l s:=by
 intro n;induction n with
 |zero=>
  intro m l s h0 h1 h2;have hc:¬ s.at_<t.length:=by omega
  cases m with
  |zero=>rfl
  |succ m=>simp only[spotsFrom,if_neg hc]
 |succ n ih=>
  intro m l s h0 h1 h2;by_cases hc:s.at_<t.length
  ·cases m with
   |zero=>omega
   |succ m=>
    simp only[spotsFrom,if_pos hc];cases hb:bad t s.at_.toNat with
    |true=>rfl
    |false=>
     simp only[xg,if_false];obtain ⟨g1,g2,g3,g4,g5,_⟩:=good_at h0 hc hb;have ha:∀ x:Spot,(on x (at1 t s.at_) (at2 t s.at_)).at_=x.at_+at2 t s.at_:=fun x=>by unfold on; split<;>rfl
     refine ih m _ _ ?_ ?_ ?_<;>rw[ha]<;>simp only<;>omega
  ·cases m with
   |zero=>simp only[spotsFrom,if_neg hc]
   |succ m=>simp only[spotsFrom,if_neg hc]
end Sp
theorem zagx {t:List UInt8} {l:List Spot} {s:Spot} (h:¬ s.at_<t.length):zaa2 t l s=(l,s):=by
 unfold zaa2;cases t.length-s.at_.toNat with
 |zero=>rfl
 |succ n=>simp only[Sp.spotsFrom,if_neg h]
theorem zana {t:List UInt8} {l:List Spot} {s:Spot} (hb:Sp.bad t s.at_.toNat=true):zaa2 t l s=(l,s):=by
 unfold zaa2;cases t.length-s.at_.toNat with
 |zero=>rfl
 |succ n=>simp only[Sp.spotsFrom,hb,if_true]; split<;>rfl
def here (t:List UInt8) (s:Spot):Spot:=⟨Sp.at1 t s.at_,s.at_,s.line,s.col⟩
def after (t:List UInt8) (s:Spot):Spot:=Sp.on (here t s) (Sp.at1 t s.at_) (Sp.at2 t s.at_)
theorem zamj (t:List UInt8) (s:Spot):(after t s).at_=s.at_+Sp.at2 t s.at_:=by
 unfold after Sp.on here;split<;>rfl
theorem zal1 {t:List UInt8} {l:List Spot} {s:Spot} (h0:0<=s.at_) (h:s.at_<t.length) (hb:Sp.bad t s.at_.toNat=false):zaa2 t l s=zaa2 t (l++[here t s]) (after t s):=by
 unfold zaa2;obtain ⟨n,hn⟩:∃ n,t.length-s.at_.toNat=n+1:=⟨t.length-s.at_.toNat-1,by omega⟩;obtain ⟨g1,g2,g3,g4,g5,_⟩:=Sp.good_at h0 h hb;rw[hn];simp only[Sp.spotsFrom,if_pos h,hb,xg,if_false];have ha:=zamj t s;exact Sp.fuel t _ _ _ _ (by unfold after here at ha; omega) (by unfold after here at ha; omega) (qz _)
theorem zak0 {t:List UInt8} {s:Spot} (h:zafx t s) (hlt:s.at_<t.length) (hb:Sp.bad t s.at_.toNat=false):zafx t (after t s):=by
 obtain ⟨h1,h2,h3,h4,h5,h6,h7⟩:=h;obtain ⟨g1,g2,g3,g4,g5,_⟩:=Sp.good_at h2 hlt hb;unfold zafx after Sp.on here;split<;>simp only<;>omega
theorem zavn (t:List UInt8):∀ (n:Nat) (l:List Spot) (s s':Spot),Sp.ended s=Sp.ended s'->(Sp.spotsFrom t n l s).1=(Sp.spotsFrom t n l s').1/\Sp.ended (Sp.spotsFrom t n l s).2=Sp.ended (Sp.spotsFrom t n l s').2:=by
 intro n l s s' h;obtain ⟨r,a,b,c⟩:=s;obtain ⟨r',a',b',c'⟩:=s';simp only[Sp.ended,Spot.mk.injEq,true_and] at h;obtain ⟨rfl,rfl,rfl⟩:=h;cases n with
 |zero=>exact ⟨rfl,rfl⟩
 |succ n=>
  simp only[Sp.spotsFrom];split
  ·split
   ·exact ⟨rfl,rfl⟩
   ·exact ⟨rfl,rfl⟩
  ·exact ⟨rfl,rfl⟩
theorem zao4 (t:List UInt8) (l:List Spot) (r r' a b c:Int):(zaa2 t l ⟨r,a,b,c⟩).1=(zaa2 t l ⟨r',a,b,c⟩).1/\(zaa2 t l ⟨r,a,b,c⟩).2.at_=(zaa2 t l ⟨r',a,b,c⟩).2.at_ /\
  (zaa2 t l ⟨r,a,b,c⟩).2.line=(zaa2 t l ⟨r',a,b,c⟩).2.line/\(zaa2 t l ⟨r,a,b,c⟩).2.col=(zaa2 t l ⟨r',a,b,c⟩).2.col:=by
 have:=zavn t (t.length-a.toNat) l ⟨r,a,b,c⟩ ⟨r',a,b,c⟩ rfl;unfold zaa2;obtain ⟨h1,h2⟩:=this;simp only[Sp.ended,Spot.mk.injEq,true_and] at h2;exact ⟨h1,h2.1,h2.2.1,h2.2.2⟩
open Lift.Fn
theorem zahw {a b:Bool} (h:a=true↔b=true):some a=some b:=by rw[Bool.eq_iff_iff.2 h]
theorem zaqx (r:Int):qby r=some (Sp.digit r):=by
 rw[qby,zaaa];unfold qby_f;simp only[cond_eq_ite];split;all_goals refine zahw ?_
 all_goals simp only[Sp.digit,qj,ya,xg,false_iff,Bool.not_eq_true] at *
 all_goals omega
theorem zaw9 (r:Int):qbx r=some (Sp.blank r):=by
 rw[qbx,zaaa];unfold qbx_f;simp only[cond_eq_ite];repeat' split
 all_goals refine zahw ?_
 all_goals simp only[Sp.blank,beq_iff_eq,qj,ya,xg,false_iff,true_iff,Bool.not_eq_true] at *
 all_goals omega
theorem za09 (r:Int):qaO r=some (Sp.blank r):=by
 rw[<-zaw9,qaO,qbx,zaaa,zaaa];rfl
theorem za0m (r:Int):qbV r=some (Sp.isRune r):=by
 rw[qbV,zaaa];unfold qbV_f;simp only[cond_eq_ite];repeat' split
 all_goals refine zahw ?_
 all_goals simp only[Sp.isRune,beq_iff_eq,qj,ya,xg,false_iff,true_iff,Bool.not_eq_true] at *
 all_goals omega
theorem za0l (r:Int):qbC r=some (Sp.isRune r):=by
 rw[qbC,zaaa];unfold qbC_f;simp only[cond_eq_ite];repeat' split
 ·simp only[qj] at *;rw[za0m,i32_in r (by omega)];rfl
 all_goals refine zahw ?_
 all_goals simp only[Sp.isRune,beq_iff_eq,qj,ya,xg,false_iff,true_iff,Bool.not_eq_true] at *
 all_goals omega
theorem zatv (r:Int):qaQ r=some (Sp.isRune r):=by
 rw[qaQ,zaaa];unfold qaQ_f;simp only[cond_eq_ite];repeat' split
 all_goals refine zahw ?_
 all_goals simp only[Sp.isRune,beq_iff_eq,qj,ya,xg,false_iff,true_iff,Bool.not_eq_true] at *
 all_goals omega
theorem zazq (r:Int):qbz r=some (Sp.letter r):=by
 rw[qbz,zaaa];unfold qbz_f;simp only[cond_eq_ite,za0l,qa];repeat' split
 all_goals refine zahw ?_
 all_goals simp only[Sp.letter,Sp.isRune,beq_iff_eq,qd,qj,ya,xg,false_iff,true_iff,Bool.not_eq_true] at *
 all_goals omega
theorem long2 (r:Int):qaT r=some (Sp.long r):=by
 rw[qaT,zaaa];unfold qaT_f Sp.long;simp only[cond_eq_ite,qj];repeat' split
 all_goals rfl
theorem len1 (r:Int) (h:Sp.isRune r=true):qbU r=some (Sp.long r):=by
 simp only[Sp.isRune,qj] at h;rw[qbU,zaaa];unfold qbU_f Sp.long;simp only[cond_eq_ite,qj];repeat' split
 all_goals first|rfl|omega
theorem atLq (t:List UInt8) (p:Int) (m:Int) (hp:0<=p) (hm:p+m<=t.length) (ht:t.length<=4000) (h4:m<=4):∀ (k n:Nat) (r i:Int),1<=i->(m-i).toNat=k->i<=m->k<n->0<=r->r<64 ^ (i.toNat)*64 ->
  qaN_i18 n t p m r i=some (match Sp.cont t p k r i with|none=>.inl (0,0)|some x=>.inr (m,x)):=by
 intro k;induction k with
 |zero=>
  intro n r i h1 hk him hn h0 hr;obtain ⟨n,rfl⟩:∃ q,n=q+1:=⟨n-1,by omega⟩;have c:¬ i<m:=by omega
  simp only[qaN_i18,qaN_t18,c,decide_false,qf,Sp.cont]
 |succ k ih=>
  intro n r i h1 hk him hn h0 hr;obtain ⟨n,rfl⟩:∃ q,n=q+1:=⟨n-1,by omega⟩;have c:i<m:=by omega
  have hi:i=1\/i=2\/i=3:=by omega
  have hr':r<=64*64*64*64:=by
   rcases hi with rfl|rfl|rfl<;>simp at hr<;>omega
  have hlt:(p+i).toNat<t.length:=by omega
  have h0':0<=p+i:=by omega
  simp only[qaN_i18,qaN_t18,Sp.cont];rw[i64_in (p+i) (by omega)];simp only[c,h0',decide_true,qg,xp hlt,qa];generalize t[(p+i).toNat]=d;have hb:d.toNat<256:=d.toNat_lt;rw[i64_in (d.toNat:Int) (by omega)];by_cases c1:d.toNat<128
  ·have:((d.toNat:Int)<128):=by omega
   simp only[c1,this,true_or,if_true,decide_true,qg]
  ·by_cases c2:191<d.toNat
   ·have e1:¬ ((d.toNat:Int)<128):=by omega
    have e2:((d.toNat:Int)>191):=by omega
    simp only[c2,e1,e2,or_true,if_true,decide_true,decide_false,qg,qf]
   ·have e1:¬ ((d.toNat:Int)<128):=by omega
    have e2:¬ ((d.toNat:Int)>191):=by omega
    simp only[c1,c2,e1,e2,or_self,if_false,decide_false,qf];rw[i64_in (64*r) (by omega),i64_in (64*r+d.toNat) (by omega),i64_in (64*r+d.toNat-128) (by omega),i64_in (i+1) (by omega)];refine ih n _ _ (by omega) (by omega) (by omega) (by omega) (by omega) ?_;rcases hi with rfl|rfl|rfl<;>simp at hr ⊢<;>omega
theorem atLq' (t:List UInt8) (p m r:Int) (hp:0<=p) (hm:p+m<=t.length) (ht:t.length<=4000) (h4:m<=4) (h1:1<=m) (h0:0<=r) (hr:r<=255) :
  qaN_l18 t p m r 1=some (match Sp.cont t p (m-1).toNat r 1 with|none=>.inl (0,0)|some x=>.inr (m,x)):=by
 rw[qaN_l18,zaaa];exact atLq t p m hp hm ht h4 _ fuel _ _ (by omega) rfl h1 (by unfold fuel; omega) h0 (by simp; omega)
theorem at2_ (t:List UInt8) (p:Int) (hp:0<=p) (h:p<t.length) (h4:t.length<=4000):qaN t p =
  some (Sp.at1 t p,Sp.at2 t p):=by
 have main:qaN t p=some (ansA (t.drop p.toNat).length (Sp.by_ (t.drop p.toNat) 0) (Sp.by_ (t.drop p.toNat) 1) (Sp.by_ (t.drop p.toNat) 2) (Sp.by_ (t.drop p.toNat) 3)):=by
  obtain ⟨x,h1,h2⟩:=Sp.get_by (t:=t) (j:=0) hp (by omega);have hb:x.toNat<256:=x.toNat_lt;have hl:((t.drop p.toNat).length:Int)=t.length-p:=by simp; omega
  rw[show p+(0:Nat)=p by omega] at h1;have h1':t[Int.toNat p]? = some x:=h1;rw[qaN,zaaa];unfold qaN_f;rw[h1',i64_in (t.length-p) (by omega)];simp only[qa];rw[i64_in (x.toNat:Int) (by omega),i64_in ((x.toNat:Int)-240) (by omega),i64_in ((x.toNat:Int)-224) (by omega),i64_in ((x.toNat:Int)-192) (by omega)];simp only[cond_eq_ite,qj,Bool.not_eq_true',bne_iff_ne,ne_eq];rw[if_pos hp]
  have fin : ∀ (c : Option Int) (k : Int) (a : Int × Int), (match c with | none => a = (0, 0) | some r => a = if (0 <= r /\ r <= 1114111 /\ (r < 55296 \/ r > 57343)) /\ Sp.long r = k then (r, k) else (0, 0)) ->
    ((some (match c with|none=>Sum.inl ((0:Int),(0:Int))|some x=>Sum.inr (k,x)):Option ((Int×Int)⊕(Int×Int))).bind fun y1=>
     match y1 with
     |.inl y2=>some ((Prod.fst y2),(Prod.snd y2))
     |.inr y2=>
      Option.bind (qaQ (Prod.snd y2)) fun y3=>
      if y3=false then
       some (((0:Int)),((0:Int)))
      else
       Option.bind (qaT (Prod.snd y2)) fun y4=>
       if ¬ y4=Prod.fst y2 then
        some (((0:Int)),((0:Int)))
       else
        some ((Prod.snd y2),(Prod.fst y2)))=some a:=by
   intro c k a hh;cases c with
   |none=>simp only at hh; subst hh; rfl
   |some r=>
    simp only at hh;subst hh;simp only[qa,zatv,long2,Sp.isRune,ya];by_cases q1:(0<=r/\r<=1114111/\(r<55296\/r>57343))
    ·by_cases q2:Sp.long r=k
     ·simp only[q1,q2,not_true_eq_false,if_false,true_and,if_true]
     ·simp only[q1,q2,not_true_eq_false,if_false,true_and,not_false_eq_true,if_true]
    ·rw[if_pos q1,if_neg (fun hh=>q1 hh.1)]
  by_cases a1:240<=x.toNat
  ·rw[if_pos (show (x.toNat:Int)>=240 by omega)];by_cases a2:(t.drop p.toNat).length<4
   ·rw[if_pos (show (t.length:Int)-p<4 by omega)];simp only[ansA,<-h2,a1,a2,if_true]
   ·rw[if_neg (show ¬ (t.length:Int)-p<4 by omega),atLq' t p 4 _ hp (by omega) h4 (by omega) (by omega) (by omega) (by omega)];refine fin _ _ _ ?_;rw[show ((4:Int)-1).toNat=3 from rfl,Sp.cont3 hp (by omega)];simp only[ansA,<-h2,a1,a2,if_true,if_false];by_cases q1:Sp.by_ (t.drop p.toNat) 1<128\/191<Sp.by_ (t.drop p.toNat) 1
    ·simp only[q1,if_true]
    by_cases q2:Sp.by_ (t.drop p.toNat) 2<128\/191<Sp.by_ (t.drop p.toNat) 2
    ·simp only[q1,q2,if_true,if_false]
    by_cases q3:Sp.by_ (t.drop p.toNat) 3<128\/191<Sp.by_ (t.drop p.toNat) 3
    ·simp only[q1,q2,q3,if_true,if_false]
    simp only[q1,q2,q3,if_false]
  ·rw[if_neg (show ¬ (x.toNat:Int)>=240 by omega)];by_cases b1:224<=x.toNat
   ·rw[if_pos (show (x.toNat:Int)>=224 by omega)];by_cases a2:(t.drop p.toNat).length<3
    ·rw[if_pos (show (t.length:Int)-p<3 by omega)];simp only[ansA,<-h2,a1,b1,a2,if_true,if_false]
    ·rw[if_neg (show ¬ (t.length:Int)-p<3 by omega),atLq' t p 3 _ hp (by omega) h4 (by omega) (by omega) (by omega) (by omega)];refine fin _ _ _ ?_;rw[show ((3:Int)-1).toNat=2 from rfl,Sp.cont2 hp (by omega)];simp only[ansA,<-h2,a1,b1,a2,if_true,if_false];by_cases q1:Sp.by_ (t.drop p.toNat) 1<128\/191<Sp.by_ (t.drop p.toNat) 1
     ·simp only[q1,if_true]
     by_cases q2:Sp.by_ (t.drop p.toNat) 2<128\/191<Sp.by_ (t.drop p.toNat) 2
     ·simp only[q1,q2,if_true,if_false]
     simp only[q1,q2,if_false]
   ·rw[if_neg (show ¬ (x.toNat:Int)>=224 by omega)];by_cases c1:192<=x.toNat
    ·rw[if_pos (show (x.toNat:Int)>=192 by omega)];by_cases a2:(t.drop p.toNat).length<2
     ·rw[if_pos (show (t.length:Int)-p<2 by omega)];simp only[ansA,<-h2,a1,b1,c1,a2,if_true,if_false]
     ·rw[if_neg (show ¬ (t.length:Int)-p<2 by omega),atLq' t p 2 _ hp (by omega) h4 (by omega) (by omega) (by omega) (by omega)];refine fin _ _ _ ?_;rw[show ((2:Int)-1).toNat=1 from rfl,Sp.cont1 hp (by omega)];simp only[ansA,<-h2,a1,b1,c1,a2,if_true,if_false];by_cases q1:Sp.by_ (t.drop p.toNat) 1<128\/191<Sp.by_ (t.drop p.toNat) 1
      ·simp only[q1,if_true]
      simp only[q1,if_false]
    ·rw[if_neg (show ¬ (x.toNat:Int)>=192 by omega)];by_cases d1:128<=x.toNat
     ·rw[if_pos (show (x.toNat:Int)>=128 by omega)];simp only[ansA,<-h2,a1,b1,c1,d1,if_true,if_false]
     ·rw[if_neg (show ¬ (x.toNat:Int)>=128 by omega),if_neg (show ¬ (t.length:Int)-p<1 by omega),atLq' t p 1 _ hp (by omega) h4 (by omega) (by omega) (by omega) (by omega)];refine fin (Sp.cont t p ((1:Int)-1).toNat (x.toNat:Int) 1) 1 _ ?_;have r1:(0<=(x.toNat:Int)/\(x.toNat:Int)<=1114111/\((x.toNat:Int)<55296\/(x.toNat:Int)>57343)):=by omega
      have r2:Sp.long (x.toNat:Int)=1:=by unfold Sp.long; rw[if_pos (by omega)]
      rw[show ((1:Int)-1).toNat=0 from rfl];simp only[Sp.cont,ansA,<-h2,a1,b1,c1,d1,if_false];rw[if_pos (And.intro r1 r2)]
 rw[main,zaqt _ (by simp; omega)];unfold Sp.at1 Sp.at2;rw[Sp.bad_eq,Sp.dc_eq];split<;>rfl
theorem on2 (s:Spot) (r n:Int) (h1:-9000<=s.at_/\s.at_<=9000/\-9000<=s.line/\s.line<=9000/\-9000<=s.col/\s.col<=9000/\0<=n/\n<=4):qaU s r n=some (Sp.on s r n):=by
 rw[qaU,zaaa];unfold qaU_f Sp.on;rw[i64_in (s.at_+n) (by omega),i64_in (s.line+1) (by omega),i64_in (s.col+1) (by omega)];simp only[cond_eq_ite,beq_iff_eq];split<;>rfl
theorem zaij {t:List UInt8} {s:Spot} (h:zafx t s):0<=s.at_/\s.at_<=t.length/\t.length<=4000/\1<=s.line/\s.line<=s.at_+1/\1<=s.col/\s.col<=s.at_+1:=
 ⟨h.2.1,h.2.2.1,h.1,h.2.2.2.1,h.2.2.2.2.1,h.2.2.2.2.2.1,h.2.2.2.2.2.2⟩
theorem za0i (t:List UInt8) (a1 a2 a3 a4:Int):∀ (k n:Nat) (c1 c2 c3 c4:Int) (l:List Spot),t.length-c2.toNat<=k->k<n->zafx t ⟨c1,c2,c3,c4⟩->(l.length:Int)<=c2 ->
  qaV_i3 n t a1 a2 a3 a4 c1 c2 c3 c4 l=some (a1,a2,a3,a4,(zaa2 t l ⟨c1,c2,c3,c4⟩).2.rune,(zaa2 t l ⟨c1,c2,c3,c4⟩).2.at_,(zaa2 t l ⟨c1,c2,c3,c4⟩).2.line,(zaa2 t l ⟨c1,c2,c3,c4⟩).2.col,(zaa2 t l ⟨c1,c2,c3,c4⟩).1):=by
 intro k;induction k with
 |zero=>
  intro n c1 c2 c3 c4 l hk hn hok hl;obtain ⟨n,rfl⟩:∃ q,n=q+1:=⟨n-1,by omega⟩;have:=zaij hok;simp only at this;have c:¬ c2<t.length:=by omega
  rw[zagx (s:=⟨c1,c2,c3,c4⟩) c];simp only[qaV_i3,qaV_t3,c,decide_false,qf]
 |succ k ih=>
  intro n c1 c2 c3 c4 l hk hn hok hl;obtain ⟨n,rfl⟩:∃ q,n=q+1:=⟨n-1,by omega⟩;obtain ⟨h2,h3,h1,h4,h5,h6,h7⟩:=zaij hok;simp only at h2 h3 h4 h5 h6 h7;simp only[qaV_i3,qaV_t3];by_cases c:c2<t.length
  ·rw[at2_ t c2 h2 c h1];simp only[c,decide_true,qg,qa];cases hb:Sp.bad t c2.toNat with
   |true=>
    have:=(Sp.bad_at hb).2;rw[zana (s:=⟨c1,c2,c3,c4⟩) hb];simp only[this,beq_self_eq_true,qg]
   |false=>
    obtain ⟨g1,g2,g3,g4,g5,_⟩:=Sp.good_at h2 c hb;have e0:(Sp.at2 t c2==0)=false:=by rw[beq_eq_false_iff_ne]; omega
    rw[zal1 (s:=⟨c1,c2,c3,c4⟩) h2 c hb];have hk':=zak0 hok c hb;have haf:=zamj t ⟨c1,c2,c3,c4⟩;simp only at haf;rw[e0,qf,on2 _ _ _ (by simp only; omega),cond_eq_ite,if_pos,qa]
    ·show qaV_i3 n t a1 a2 a3 a4 (after t ⟨c1,c2,c3,c4⟩).rune (after t ⟨c1,c2,c3,c4⟩).at_ (after t ⟨c1,c2,c3,c4⟩).line (after t ⟨c1,c2,c3,c4⟩).col (l++[here t ⟨c1,c2,c3,c4⟩])=_;refine ih n _ _ _ _ _ ?_ (by omega) hk' ?_
     ·omega
     ·simp only[qc,qe,qr];omega
    ·simp only[qj,qe,qr]; omega
  ·simp only[c,decide_false,qf];rw[zagx (s:=⟨c1,c2,c3,c4⟩) c]
theorem zazc (t:List UInt8) (h:t.length<=4000):qaV t=some (Sp.spots2 t,Sp.spots1 t):=by
 rw[qaV,zaaa];unfold qaV_f;rw[qaV_l3,zaaa,za0i t _ _ _ _ t.length fuel 0 0 1 1 [] (by simp) (by unfold fuel; omega) (by unfold zafx; simp only; omega) (by simp)];rfl
theorem goneL (s:List UInt8) (a1 a2 a3 a4:Int):∀ (k n:Nat) (c2 c3 c4:Int) (pos:Nat) (l:List Spot),s.length-c2.toNat<=k->k<n->zafx s ⟨-1,c2,c3,c4⟩->(l.length:Int)<=c2->(pos:Int)=c2 ->
  qbB_i4 n s a1 a2 a3 a4 (-1) c2 c3 c4 s pos l=some (if (zaa2 s l ⟨-1,c2,c3,c4⟩).2.at_<s.length then
   .inl (-1,(zaa2 s l ⟨-1,c2,c3,c4⟩).2.at_,(zaa2 s l ⟨-1,c2,c3,c4⟩).2.line,(zaa2 s l ⟨-1,c2,c3,c4⟩).2.col,(zaa2 s l ⟨-1,c2,c3,c4⟩).1)
   else .inr (a1,a2,a3,a4,-1,(zaa2 s l ⟨-1,c2,c3,c4⟩).2.at_,(zaa2 s l ⟨-1,c2,c3,c4⟩).2.line,(zaa2 s l ⟨-1,c2,c3,c4⟩).2.col,(zaa2 s l ⟨-1,c2,c3,c4⟩).1)):=by
 intro k;induction k with
 |zero=>
  intro n c2 c3 c4 pos l hk hn hok hl hp;obtain ⟨n,rfl⟩:∃ q,n=q+1:=⟨n-1,by omega⟩;have:=zaij hok;simp only at this;have c:¬ c2<s.length:=by omega
  have c':¬ pos<s.length:=by omega
  rw[zagx (s:=⟨-1,c2,c3,c4⟩) c,if_neg c];simp only[qbB_i4,qbB_t4,c',decide_false,qf]
 |succ k ih=>
  intro n c2 c3 c4 pos l hk hn hok hl hp;obtain ⟨n,rfl⟩:∃ q,n=q+1:=⟨n-1,by omega⟩;obtain ⟨h2,h3,h1,h4,h5,h6,h7⟩:=zaij hok;simp only at h2 h3 h4 h5 h6 h7;have hq:pos=c2.toNat:=by omega
  simp only[qbB_i4,qbB_t4];by_cases c:c2<s.length
  ·have hlt:pos<s.length:=by omega
   have hdc:Utf8.decode ⟨s.toArray⟩ pos=Sp.dc s c2.toNat:=by rw[hq]; rfl
   rw[hdc];rw[i64_in ((pos:Int)+3) (by omega)];have hmin:(if (pos:Int)+3<(s.length:Int) then (pos:Int)+3 else (s.length:Int))=(min s.length (c2.toNat+3):Nat):=by
    split<;>omega
   rw[hmin];have hslice:List.drop (Int.toNat (pos:Int)) (List.take (Int.toNat ((min s.length (c2.toNat+3):Nat):Int)) s)=(s.take (min s.length (c2.toNat+3))).drop c2.toNat:=by
    rw[xt,xt,hq]
   rw[hslice];have hbnd:(decide ((0:Int)<=(pos:Int))&&(decide ((pos:Int)<=(min s.length (c2.toNat+3):Nat))&&decide (((min s.length (c2.toNat+3):Nat):Int)<=(s.length:Int))))=true:=by
    simp only[qd,qj]; omega
   rw[hbnd];have hbad:Sp.bad s c2.toNat=(decide ((Sp.dc s c2.toNat).1=65533)&&!(((s.take (min s.length (c2.toNat+3))).drop c2.toNat)==[239,191,189])):=rfl;simp only[hlt,decide_true,qg];cases hb:Sp.bad s c2.toNat with
   |true=>
    rw[hb] at hbad;have hbad:=hbad.symm;simp only[qd,qj] at hbad;have e1:(((Sp.dc s c2.toNat).1:Int)==65533)=true:=by rw[beq_iff_eq]; omega
    rw[e1,hbad.2];simp only[qg];rw[zana (s:=⟨-1,c2,c3,c4⟩) hb,if_pos c]
   |false=>
    obtain ⟨g1,g2,g3,g4,g5,g6,g7⟩:=Sp.good_at h2 c hb;rw[zal1 (s:=⟨-1,c2,c3,c4⟩) h2 c hb];generalize hR:(some (ite ((zaa2 s (l++[here s ⟨-1,c2,c3,c4⟩]) (after s ⟨-1,c2,c3,c4⟩)).2.at_<(s.length:Int)) _ _):Option _)=R;have hk':=zak0 hok c hb;have haf:=zamj s ⟨-1,c2,c3,c4⟩;simp only at haf;have hrune:Sp.isRune ((Sp.dc s c2.toNat).1:Int)=true:=by rw[<-g6]; exact g1
    have hlong:Sp.long ((Sp.dc s c2.toNat).1:Int)=Sp.at2 s c2:=by rw[<-g6]; exact g2
    have hr:(0:Int)<=(Sp.dc s c2.toNat).1/\((Sp.dc s c2.toNat).1:Int)<=1114111:=by
     simp only[Sp.isRune,qj] at hrune; omega
    rw[len1 _ hrune,hlong,qa];rw[i64_in ((Sp.dc s c2.toNat).1:Int) (by omega),i64_in (c2+Sp.at2 s c2) (by omega),i64_in (c3+1) (by omega),i64_in (c4+1) (by omega)];have hhere:here s ⟨-1,c2,c3,c4⟩=⟨((Sp.dc s c2.toNat).1:Int),c2,c3,c4⟩:=by unfold here; rw[g6]
    have go:∀ (b3 b4:Int),(after s ⟨-1,c2,c3,c4⟩).line=b3->(after s ⟨-1,c2,c3,c4⟩).col=b4 ->
      qbB_i4 n s a1 a2 a3 a4 (-1) (c2+Sp.at2 s c2) b3 b4 s (pos+(Sp.dc s c2.toNat).2) (l++[⟨((Sp.dc s c2.toNat).1:Int),c2,c3,c4⟩]) =
       R:=by
     intro b3 b4 e3 e4;rw[<-hR];have hk2:zafx s ⟨-1,c2+Sp.at2 s c2,b3,b4⟩:=by
      obtain ⟨q1,q2,q3,q4,q5,q6,q7⟩:=hk';rw[haf] at q2 q3 q5 q7;rw[e3] at q4 q5;rw[e4] at q6 q7;exact ⟨q1,q2,q3,q4,q5,q6,q7⟩
     have heta:after s ⟨-1,c2,c3,c4⟩=⟨(after s ⟨-1,c2,c3,c4⟩).rune,c2+Sp.at2 s c2,b3,b4⟩:=by
      rw[<-haf,<-e3,<-e4]
     rw[ih n _ _ _ _ _ (by omega) (by omega) hk2 (by simp only[qc,qe,qr]; omega) (by omega)];rw[hhere,heta];obtain ⟨y1,y2,y3,y4⟩:=zao4 s (l++[⟨((Sp.dc s c2.toNat).1:Int),c2,c3,c4⟩]) (-1) (after s ⟨-1,c2,c3,c4⟩).rune (c2+Sp.at2 s c2) b3 b4;rw[y1,y2,y3,y4]
    have main:(bif decide ((List.length l+List.length [Spot.mk ((Sp.dc s c2.toNat).1:Int) c2 c3 c4])*(32:Nat)<=(140737488355328:Nat)/\List.length l+List.length [Spot.mk ((Sp.dc s c2.toNat).1:Int) c2 c3 c4]<=(9223372036854775807:Nat)) then
       bif ((Sp.dc s c2.toNat).1:Int)==(10:Int) then
        qbB_i4 n s a1 a2 a3 a4 (-1) (c2+Sp.at2 s c2) (c3+1) 1 s (pos+(Sp.dc s c2.toNat).2) (l++[⟨((Sp.dc s c2.toNat).1:Int),c2,c3,c4⟩])
       else
        qbB_i4 n s a1 a2 a3 a4 (-1) (c2+Sp.at2 s c2) c3 (c4+1) s (pos+(Sp.dc s c2.toNat).2) (l++[⟨((Sp.dc s c2.toNat).1:Int),c2,c3,c4⟩])
      else none)=R:=by
     have hlen1:((List.length l+List.length [Spot.mk ((Sp.dc s c2.toNat).1:Int) c2 c3 c4])*(32:Nat)<=(140737488355328:Nat)/\List.length l+List.length [Spot.mk ((Sp.dc s c2.toNat).1:Int) c2 c3 c4]<=(9223372036854775807:Nat)):=by
      simp only[qe,qr]; omega
     rw[qm hlen1,qg];cases e10:(((Sp.dc s c2.toNat).1:Int)==10) with
     |true=>
      have:Sp.at1 s c2=10:=by rw[g6]; exact beq_iff_eq.1 e10
      exact go _ _ (by simp[after,here,Sp.on,this]) (by simp[after,here,Sp.on,this])
     |false=>
      have:¬ Sp.at1 s c2=10:=by rw[g6]; exact beq_eq_false_iff_ne.1 e10
      exact go _ _ (by simp[after,here,Sp.on,this]) (by simp[after,here,Sp.on,this])
    cases e1:(((Sp.dc s c2.toNat).1:Int)==65533) with
    |true=>
     rw[hb] at hbad;have e2:decide ((Sp.dc s c2.toNat).1=65533)=true:=by
      have:=beq_iff_eq.1 e1;rw[qj]; omega
     rw[e2,Bool.true_and] at hbad;rw[<-hbad];simp only[qg,qf];exact main
    |false=>
     simp only[qf];exact main
  ·have hlt:¬ pos<s.length:=by omega
   simp only[hlt,decide_false,qf];rw[zagx (s:=⟨-1,c2,c3,c4⟩) c,if_neg c]
theorem gone1 (t:List UInt8) (h:t.length<=4000):qbB t=some (Sp.spots2 t,Sp.spots1 t):=by
 have g:zaa2 t [] ⟨0,0,1,1⟩=Sp.spotsFrom t t.length [] ⟨0,0,1,1⟩:=rfl;obtain ⟨y1,y2,y3,y4⟩:=zao4 t [] (-1) 0 0 1 1;rw[g] at y1 y2 y3 y4;have e2:(⟨-1,(zaa2 t [] ⟨-1,0,1,1⟩).2.at_,(zaa2 t [] ⟨-1,0,1,1⟩).2.line,(zaa2 t [] ⟨-1,0,1,1⟩).2.col⟩:Spot)=Sp.spots2 t:=by
  rw[y2,y3,y4]; rfl
 have e1:(zaa2 t [] ⟨-1,0,1,1⟩).1=Sp.spots1 t:=y1;rw[qbB,zaaa];unfold qbB_f;rw[qbB_l4,zaaa,goneL t _ _ _ _ t.length fuel 0 1 1 0 [] (by simp) (by unfold fuel; omega) (by unfold zafx; simp only; omega) (by simp) (by simp),qa];split
 ·rename_i y heq;split at heq
  ·cases heq;simp only[e1,e2]
  ·cases heq
 ·rename_i y heq;split at heq
  ·cases heq
  ·cases heq;simp only[e1,e2]
theorem zaoo (t:List UInt8):qaS t=some (Sp.runes2 t,Sp.runes1 t):=by
 rw[qaS,zaaa];unfold qaS_f Sp.runes1 Sp.runes2;simp only[cond_eq_ite,qj];by_cases h:4000<t.length
 ·rw[if_pos (show (t.length:Int)>4000 by omega),if_pos h,if_pos h]
 ·rw[if_neg (show ¬ (t.length:Int)>4000 by omega),if_neg h,if_neg h,zazc t (by omega),qa];by_cases h2:(Sp.spots2 t).at_<t.length
  ·rw[if_pos h2,if_pos h2,if_pos h2]
  ·rw[if_neg h2,if_neg h2,if_neg h2]
theorem zatg (t:List UInt8):qbA t=some (Sp.runes2 t,Sp.runes1 t):=by
 rw[qbA,zaaa];unfold qbA_f Sp.runes1 Sp.runes2;simp only[cond_eq_ite,qj];by_cases h:4000<t.length
 ·rw[if_pos (show (t.length:Int)>4000 by omega),if_pos h,if_pos h]
 ·rw[if_neg (show ¬ (t.length:Int)>4000 by omega),if_neg h,if_neg h,gone1 t (by omega),qa];by_cases h2:(Sp.spots2 t).at_<t.length
  ·rw[if_pos h2,if_pos h2,if_pos h2]
  ·rw[if_neg h2,if_neg h2,if_neg h2]
theorem zawa (l:List Int):(bytesOf l).length=l.length:=by simp[bytesOf]
def encB (r:Int):List UInt8:=bytesOf (Sp.enc r)
def encs (rs:List Int):List UInt8:=rs.flatMap encB
theorem zaa0 (r:Int) (rs:List Int):encs (r::rs)=encB r++encs rs:=rfl
theorem zaaj (a b:List Int):encs (a++b)=encs a++encs b:=by simp[encs]
theorem zabr (n:Nat) (h:n<256):(UInt8.ofNat n).toNat=n:=by
 simp[UInt8.toNat_ofNat'];omega
theorem zacq (r:Int):(encB r).length=(Sp.long r).toNat:=by
 unfold encB Sp.enc Sp.long;rw[zawa];repeat' split
 all_goals rfl
theorem by0 (a:UInt8) (l:List UInt8):Sp.by_ (a::l) 0=a.toNat:=rfl
theorem by1 (a b:UInt8) (l:List UInt8):Sp.by_ (a::b::l) 1=b.toNat:=rfl
theorem by2 (a b c:UInt8) (l:List UInt8):Sp.by_ (a::b::c::l) 2=c.toNat:=rfl
theorem by3 (a b c d:UInt8) (l:List UInt8):Sp.by_ (a::b::c::d::l) 3=d.toNat:=rfl
theorem zali {l:List UInt8} {r k:Nat} (h:Sp.dl l=(r,k)) (h2:r≠65533\/(3<=l.length/\Sp.by_ l 0=239/\Sp.by_ l 1=191/\Sp.by_ l 2=189)):Sp.badl l=false:=by
 unfold Sp.badl;rw[h,Sp.take3];rcases h2 with h2|h2
 ·simp[h2]
 ·simp[h2]
theorem zavc (r:Int) (rest:List UInt8) (h:Sp.isRune r=true):Sp.dl (encB r++rest)=(r.toNat,(Sp.long r).toNat)/\Sp.badl (encB r++rest)=false:=by
 simp only[Sp.isRune,qj] at h;by_cases a1:r<128
 ·have e:encB r++rest=UInt8.ofNat r.toNat::rest:=by simp[encB,bytesOf,Sp.enc,a1]
  have hl:(Sp.long r).toNat=1:=by unfold Sp.long; rw[if_pos a1]; rfl
  rw[e,hl];have hd:Sp.dl (UInt8.ofNat r.toNat::rest)=(r.toNat,1):=by
   unfold Sp.dl;rw[by0,zabr _ (by omega),if_pos (by omega)]
  exact ⟨hd,zali hd (.inl (by omega))⟩
 by_cases a2:r<2048
 ·have e:encB r++rest=UInt8.ofNat (192+r.toNat / 64)::UInt8.ofNat (128+r.toNat % 64)::rest:=by
   unfold encB Sp.enc bytesOf;rw[if_neg a1,if_pos a2];simp only[xn,List.map_nil,qp,qu];rw[show (192+r / 64).toNat=192+r.toNat / 64 by omega,show (128+r % 64).toNat=128+r.toNat % 64 by omega]
  have hl:(Sp.long r).toNat=2:=by unfold Sp.long; rw[if_neg a1,if_pos a2]; rfl
  rw[e,hl];have hd:Sp.dl (UInt8.ofNat (192+r.toNat / 64)::UInt8.ofNat (128+r.toNat % 64)::rest)=(r.toNat,2):=by
   unfold Sp.dl Sp.ct;rw[by0,by1,zabr _ (by omega),zabr _ (by omega)];simp only[qe,qd,qj,beq_iff_eq];rw[if_neg (by omega),if_pos (by omega),if_pos (by omega)];rw[show (192+r.toNat / 64) % 32*64+(128+r.toNat % 64) % 64=r.toNat by omega]
  exact ⟨hd,zali hd (.inl (by omega))⟩
 by_cases a3:r<65536
 ·have e:encB r++rest=UInt8.ofNat (224+r.toNat / 4096)::UInt8.ofNat (128+r.toNat / 64 % 64)::UInt8.ofNat (128+r.toNat % 64)::rest:=by
   unfold encB Sp.enc bytesOf;rw[if_neg a1,if_neg a2,if_pos a3];simp only[xn,List.map_nil,qp,qu];rw[show (224+r / 4096).toNat=224+r.toNat / 4096 by omega,show (128+r / 64 % 64).toNat=128+r.toNat / 64 % 64 by omega,show (128+r % 64).toNat=128+r.toNat % 64 by omega]
  have hl:(Sp.long r).toNat=3:=by unfold Sp.long; rw[if_neg a1,if_neg a2,if_pos a3]; rfl
  rw[e,hl];have hd:Sp.dl (UInt8.ofNat (224+r.toNat / 4096)::UInt8.ofNat (128+r.toNat / 64 % 64)::UInt8.ofNat (128+r.toNat % 64)::rest)=(r.toNat,3):=by
   unfold Sp.dl Sp.ct;rw[by0,by1,by2,zabr _ (by omega),zabr _ (by omega),zabr _ (by omega)];simp only[qe,qd,qj,beq_iff_eq,zaie,ge_iff_le];have hv:(224+r.toNat / 4096) % 16*4096+(128+r.toNat / 64 % 64) % 64*64+(128+r.toNat % 64) % 64=r.toNat:=by omega
   rw[hv,if_neg (by omega),if_neg (by omega),if_pos (by omega),if_pos (by omega)]
  refine ⟨hd,zali hd ?_⟩;simp only[qe,by0,by1,by2];rw[zabr _ (by omega),zabr _ (by omega),zabr _ (by omega)];omega
 ·have e:encB r++rest=UInt8.ofNat (240+r.toNat / 262144)::UInt8.ofNat (128+r.toNat / 4096 % 64)::UInt8.ofNat (128+r.toNat / 64 % 64)::UInt8.ofNat (128+r.toNat % 64)::rest:=by
   unfold encB Sp.enc bytesOf;rw[if_neg a1,if_neg a2,if_neg a3];simp only[xn,List.map_nil,qp,qu];rw[show (240+r / 262144).toNat=240+r.toNat / 262144 by omega,show (128+r / 4096 % 64).toNat=128+r.toNat / 4096 % 64 by omega,show (128+r / 64 % 64).toNat=128+r.toNat / 64 % 64 by omega,show (128+r % 64).toNat=128+r.toNat % 64 by omega]
  have hl:(Sp.long r).toNat=4:=by unfold Sp.long; rw[if_neg a1,if_neg a2,if_neg a3]; rfl
  rw[e,hl];have hd:Sp.dl (UInt8.ofNat (240+r.toNat / 262144)::UInt8.ofNat (128+r.toNat / 4096 % 64)::UInt8.ofNat (128+r.toNat / 64 % 64)::UInt8.ofNat (128+r.toNat % 64)::rest)=(r.toNat,4):=by
   unfold Sp.dl Sp.ct;rw[by0,by1,by2,by3,zabr _ (by omega),zabr _ (by omega),zabr _ (by omega),zabr _ (by omega)];simp only[qe,qd,qj,beq_iff_eq,zaie,ge_iff_le];have hv:(240+r.toNat / 262144) % 8*262144+(128+r.toNat / 4096 % 64) % 64*4096+(128+r.toNat / 64 % 64) % 64*64+(128+r.toNat % 64) % 64=r.toNat:=by omega
   rw[hv,if_neg (by omega),if_neg (by omega),if_neg (by omega),if_pos (by omega),if_pos (by omega)]
  exact ⟨hd,zali hd (.inl (by omega))⟩
theorem zacx {n:Int} {a:UInt8} (h:n.toNat=a.toNat):UInt8.ofNat n.toNat=a:=by
 rw[h]; simp
theorem za0v {l:List UInt8} (h:1<l.length):∃ a b r,l=a::b::r:=by
 match l,h with
 |a::b::r,_=>exact ⟨a,b,r,rfl⟩
theorem zax0 {l:List UInt8} (h:2<l.length):∃ a b c r,l=a::b::c::r:=by
 match l,h with
 |a::b::c::r,_=>exact ⟨a,b,c,r,rfl⟩
theorem zaza {l:List UInt8} (h:3<l.length):∃ a b c d r,l=a::b::c::d::r:=by
 match l,h with
 |a::b::c::d::r,_=>exact ⟨a,b,c,d,r,rfl⟩
theorem zaxd (l:List UInt8) (hl:l≠[]) (hb:Sp.badl l=false):Sp.isRune ((Sp.dl l).1:Int)=true/\∃ rest,l=encB ((Sp.dl l).1:Int)++rest:=by
 have hlen:0<l.length:=by cases l with|nil=>exact absurd rfl hl|cons _ _=>simp
 have hr:Sp.isRune ((Sp.dl l).1:Int)=true:=by
  have h4:=zaqt _ hlen;obtain ⟨h1,h2,h3⟩:=Sp.dl_pos _ hlen;rw[hb] at h4;simp only[xg,if_false] at h4;rcases Sp.ansA_ok l.length (Sp.by_ l 0) (Sp.by_ l 1) (Sp.by_ l 2) (Sp.by_ l 3) (l.getD 0 0).toNat_lt with h5|⟨h5,h6⟩
  ·rw[h4] at h5;simp only[xa] at h5;omega
  ·rw[h4] at h5;exact h5
 refine ⟨hr,?_⟩;have hg:¬ ((Sp.dl l).1=65533/\¬ (3<=l.length/\Sp.by_ l 0=239/\Sp.by_ l 1=191/\Sp.by_ l 2=189)):=by
  unfold Sp.badl at hb;rw[Sp.take3] at hb;intro hh;simp[hh.1] at hb;exact hh.2 hb
 obtain ⟨D,hD⟩:∃ D,D=Sp.dl l:=⟨_,rfl⟩;rw[<-hD] at hg ⊢;unfold Sp.dl Sp.ct at hD;simp only[qd,qj,beq_iff_eq,zaie,ge_iff_le] at hD;have hb0:Sp.by_ l 0<256:=(l.getD 0 0).toNat_lt;have hb1:Sp.by_ l 1<256:=(l.getD 1 0).toNat_lt;have hb2:Sp.by_ l 2<256:=(l.getD 2 0).toNat_lt;have hb3:Sp.by_ l 3<256:=(l.getD 3 0).toNat_lt;by_cases k0:Sp.by_ l 0<128
 ·rw[if_pos k0] at hD;rw[hD];match l,hlen with
  |a::l,_=>
   rw[by0] at *;refine ⟨l,?_⟩;unfold encB Sp.enc bytesOf;rw[if_pos (by simp only; omega)];simp
 rw[if_neg k0] at hD;by_cases k1:Sp.by_ l 0 / 32=6/\1<l.length/\Sp.by_ l 1 / 64=2
 ·rw[if_pos k1] at hD;by_cases k2:128<=Sp.by_ l 0 % 32*64+Sp.by_ l 1 % 64
  ·rw[if_pos k2] at hD;rw[hD];obtain ⟨a,b,l,rfl⟩:=za0v k1.2.1
   next=>
    rw[by0,by1] at *;refine ⟨l,?_⟩;unfold encB Sp.enc bytesOf;rw[if_neg (by simp only; omega),if_pos (by simp only; omega)];simp only[xn,List.map_nil,qp,qu];rw[zacx (a:=a) (by omega),zacx (a:=b) (by omega)]
  ·rw[if_neg k2] at hD;rw[hD] at hg;have hg':=Classical.byContradiction fun hh=>hg ⟨rfl,hh⟩
   omega
 rw[if_neg k1] at hD;by_cases k2:(Sp.by_ l 0 / 16=14/\1<l.length/\Sp.by_ l 1 / 64=2)/\2<l.length/\Sp.by_ l 2 / 64=2
 ·rw[if_pos k2] at hD;by_cases k3:2048<=Sp.by_ l 0 % 16*4096+Sp.by_ l 1 % 64*64+Sp.by_ l 2 % 64/\(0<=((Sp.by_ l 0 % 16*4096+Sp.by_ l 1 % 64*64+Sp.by_ l 2 % 64:Nat):Int)/\((Sp.by_ l 0 % 16*4096+Sp.by_ l 1 % 64*64+Sp.by_ l 2 % 64:Nat):Int)<55296\/57344<=((Sp.by_ l 0 % 16*4096+Sp.by_ l 1 % 64*64+Sp.by_ l 2 % 64:Nat):Int)/\((Sp.by_ l 0 % 16*4096+Sp.by_ l 1 % 64*64+Sp.by_ l 2 % 64:Nat):Int)<=1114111)
  ·rw[if_pos k3] at hD;rw[hD];obtain ⟨a,b,c,l,rfl⟩:=zax0 k2.2.1
   next=>
    rw[by0,by1,by2] at *;refine ⟨l,?_⟩;unfold encB Sp.enc bytesOf;rw[if_neg (by simp only; omega),if_neg (by simp only; omega),if_pos (by simp only; omega)];simp only[xn,List.map_nil,qp,qu];rw[zacx (a:=a) (by omega),zacx (a:=b) (by omega),zacx (a:=c) (by omega)]
  ·rw[if_neg k3] at hD;rw[hD] at hg;have hg':=Classical.byContradiction fun hh=>hg ⟨rfl,hh⟩
   omega
 rw[if_neg k2] at hD;by_cases k3:((Sp.by_ l 0 / 8=30/\1<l.length/\Sp.by_ l 1 / 64=2)/\2<l.length/\Sp.by_ l 2 / 64=2)/\3<l.length/\Sp.by_ l 3 / 64=2
 ·rw[if_pos k3] at hD;by_cases k4:65536<=Sp.by_ l 0 % 8*262144+Sp.by_ l 1 % 64*4096+Sp.by_ l 2 % 64*64+Sp.by_ l 3 % 64/\(0<=((Sp.by_ l 0 % 8*262144+Sp.by_ l 1 % 64*4096+Sp.by_ l 2 % 64*64+Sp.by_ l 3 % 64:Nat):Int)/\((Sp.by_ l 0 % 8*262144+Sp.by_ l 1 % 64*4096+Sp.by_ l 2 % 64*64+Sp.by_ l 3 % 64:Nat):Int)<55296\/57344<=((Sp.by_ l 0 % 8*262144+Sp.by_ l 1 % 64*4096+Sp.by_ l 2 % 64*64+Sp.by_ l 3 % 64:Nat):Int)/\((Sp.by_ l 0 % 8*262144+Sp.by_ l 1 % 64*4096+Sp.by_ l 2 % 64*64+Sp.by_ l 3 % 64:Nat):Int)<=1114111)
  ·rw[if_pos k4] at hD;rw[hD];obtain ⟨a,b,c,d,l,rfl⟩:=zaza k3.2.1
   next=>
    rw[by0,by1,by2,by3] at *;refine ⟨l,?_⟩;unfold encB Sp.enc bytesOf;rw[if_neg (by simp only; omega),if_neg (by simp only; omega),if_neg (by simp only; omega)];simp only[xn,List.map_nil,qp,qu];rw[zacx (a:=a) (by omega),zacx (a:=b) (by omega),zacx (a:=c) (by omega),zacx (a:=d) (by omega)]
  ·rw[if_neg k4] at hD;rw[hD] at hg;have hg':=Classical.byContradiction fun hh=>hg ⟨rfl,hh⟩
   omega
 ·rw[if_neg k3] at hD;rw[hD] at hg;have hg':=Classical.byContradiction fun hh=>hg ⟨rfl,hh⟩
  omega
def put:List Int->Spot->List Spot×Spot
 |[],s=>([],s)
 |r::rs,s=>(⟨r,s.at_,s.line,s.col⟩::(put rs (Sp.on ⟨r,s.at_,s.line,s.col⟩ r (Sp.long r))).1,(put rs (Sp.on ⟨r,s.at_,s.line,s.col⟩ r (Sp.long r))).2)
theorem on_at (s:Spot) (r n:Int):(Sp.on s r n).at_=s.at_+n:=by unfold Sp.on; split<;>rfl
theorem zams : ∀ (rs : List Int) (s : Spot), (put rs s).1.map (·.rune) = rs
 |[],_=>rfl
 |r::rs,s=>by simp only[put,xn]; rw[zams rs]
theorem zatw (rs:List Int) (s:Spot):(put rs s).1.length=rs.length:=by
 have:=congrArg List.length (zams rs s);simpa using this
theorem zadi (r:Int):1<=Sp.long r:=by unfold Sp.long; (repeat' split)<;>omega
theorem zap7:∀ (rs:List Int) (s:Spot),(put rs s).2.at_=s.at_+(encs rs).length
 |[],s=>by simp[put,encs]
 |r::rs,s=>by
  simp only[put];rw[zap7 rs,on_at,zaa0,qc,zacq];have:=zadi r;simp only;omega
theorem zat4:∀ (rs:List Int) (s:Spot) (k:Nat) (x:Spot),(put rs s).1[k]? = some x->x.at_=s.at_+(encs (rs.take k)).length
 |[],s,k,x=>by simp[put]
 |r::rs,s,0,x=>by
  intro h;simp only[put,List.getElem?_cons_zero,qk] at h;subst h;simp[encs]
 |r::rs,s,k+1,x=>by
  intro h;simp only[put,List.getElem?_cons_succ] at h;rw[zat4 rs _ k x h,on_at,List.take_succ_cons,zaa0,qc,zacq];have:=zadi r;simp only;omega
theorem zaqg (t:List UInt8):∀ (rs:List Int) (n:Nat) (acc:List Spot) (s:Spot) (rest:List UInt8),rs.all Sp.isRune=true->0<=s.at_->t.drop s.at_.toNat=encs rs++rest->(rest=[]\/Sp.badl rest=true) ->
  t.length-s.at_.toNat<=n->Sp.spotsFrom t n acc s=(acc++(put rs s).1,(put rs s).2)
 |[],n,acc,s,rest=>by
  intro _ h0 hd hr hn;simp only[encs,List.flatMap_nil,qu] at hd;simp only[put,xj];cases n with
  |zero=>rfl
  |succ n=>
   simp only[Sp.spotsFrom];by_cases hc:s.at_<t.length
   ·rw[if_pos hc];have hne:t.drop s.at_.toNat≠[]:=by
     intro hh;have:=congrArg List.length hh;simp at this;omega
    rcases hr with rfl|hr
    ·exact absurd hd hne
    ·rw[if_pos];rw[Sp.bad_eq,hd];exact hr
   ·rw[if_neg hc]
 |r::rs,n,acc,s,rest=>by
  intro ha h0 hd hr hn;simp only[xv,qd] at ha;rw[zaa0,qq] at hd;obtain ⟨h1,h2⟩:=zavc r (encs rs++rest) ha.1;have hlen:=congrArg List.length hd;have hl:=zadi r;have hel:=zacq r;simp only[List.length_drop,qc] at hlen;have hc:s.at_<t.length:=by omega
  have hb:Sp.bad t s.at_.toNat=false:=by rw[Sp.bad_eq,hd]; exact h2
  have hr':0<=r:=by
   have:=ha.1;simp only[Sp.isRune,qj] at this;exact this.1
  have e1:Sp.at1 t s.at_=r:=by
   unfold Sp.at1;rw[hb,Sp.dc_eq,hd,h1];simp;omega
  have e2:Sp.at2 t s.at_=Sp.long r:=by
   unfold Sp.at2;rw[hb,Sp.dc_eq,hd,h1];simp;omega
  obtain ⟨n,rfl⟩:∃ m,n=m+1:=⟨n-1,by omega⟩;simp only[Sp.spotsFrom,if_pos hc,hb,xg,if_false];rw[e1,e2];have hat:=on_at ⟨r,s.at_,s.line,s.col⟩ r (Sp.long r);simp only at hat;rw[zaqg t rs n _ _ rest ha.2 (by rw[hat]; omega) ?_ hr (by rw[hat]; omega)]
  ·simp only[put,qq,qp,qu]
  ·rw[hat,show (s.at_+Sp.long r).toNat=s.at_.toNat+(encB r).length by omega,<-List.drop_drop,hd,List.drop_left]
def s0:Spot:=⟨0,0,1,1⟩
theorem zapg (rs:List Int) (rest:List UInt8) (ha:rs.all Sp.isRune=true) (hr:rest=[]\/Sp.badl rest=true):Sp.spots1 (encs rs++rest)=(put rs s0).1/\Sp.spots2 (encs rs++rest)=Sp.ended (put rs s0).2:=by
 have:=zaqg (encs rs++rest) rs (encs rs++rest).length [] s0 rest ha (by simp[s0]) (by simp[s0]) hr (by omega);unfold Sp.spots1 Sp.spots2;unfold s0 at this ⊢;rw[this];simp
theorem zanf:∀ (n:Nat) (t:List UInt8),t.length<=n->∃ rs rest,t=encs rs++rest/\rs.all Sp.isRune=true/\(rest=[]\/Sp.badl rest=true)
 |0,t,h=>⟨[],[],by cases t<;>simp_all[encs],rfl,.inl rfl⟩
 |n+1,t,h=>by
  by_cases h0:t=[]
  ·exact ⟨[],[],by simp[h0,encs],rfl,.inl rfl⟩
  cases hb:Sp.badl t with
  |true=>exact ⟨[],t,by simp[encs],rfl,.inr hb⟩
  |false=>
   obtain ⟨h1,rest,h2⟩:=zaxd t h0 hb;have hl:=zacq ((Sp.dl t).1:Int);have hp:=zadi ((Sp.dl t).1:Int);have hlen:rest.length<=n:=by
    have:=congrArg List.length h2;rw[qc] at this;omega
   obtain ⟨rs,r2,h3,h4,h5⟩:=zanf n rest hlen;refine ⟨((Sp.dl t).1:Int)::rs,r2,?_,?_,h5⟩
   ·rw[zaa0,qq,<-h3]; exact h2
   ·simp[h1,h4]
theorem zary (s:Spot):(Sp.ended s).at_=s.at_:=rfl
theorem zamp (rs:List Int) (ha:rs.all Sp.isRune=true) (hl:(encs rs).length<=4000):Sp.runes1 (encs rs)=(put rs s0).1/\Sp.runes2 (encs rs)=⟨0,0,[]⟩:=by
 obtain ⟨h1,h2⟩:=zapg rs [] ha (.inl rfl);rw[xj] at h1 h2;have h3:=zap7 rs s0;unfold Sp.runes1 Sp.runes2;rw[h1,h2,zary,h3];have h5:¬ (s0.at_+((encs rs).length:Int)<(encs rs).length):=by simp[s0]
 have h4:¬ 4000<(encs rs).length:=by omega
 simp only[if_neg h4,if_neg h5,and_self]
theorem zavj (rs:List Int) (rest:List UInt8) (ha:rs.all Sp.isRune=true) (hne:rest≠[]) (hb:Sp.badl rest=true) (hl:(encs rs++rest).length<=4000):Sp.runes1 (encs rs++rest)=[]/\Sp.runes2 (encs rs++rest)=⟨11,(encs rs).length,[]⟩:=by
 obtain ⟨h1,h2⟩:=zapg rs rest ha (.inr hb);have h3:=zap7 rs s0;have hpos:0<rest.length:=by cases rest with|nil=>exact absurd rfl hne|cons _ _=>simp
 unfold Sp.runes1 Sp.runes2;rw[h2,zary,h3];have h5:(s0.at_+((encs rs).length:Int)<(encs rs++rest).length):=by simp[s0]; omega
 have h4:¬ 4000<(encs rs++rest).length:=by omega
 simp only[if_neg h4,if_pos h5];simp[s0]
theorem zaim (t:List UInt8):(Sp.runes1 t=[]/\Sp.runes2 t=⟨10,4000,[]⟩) \/
  (t.length<=4000/\∃ rs rest,t=encs rs++rest/\rs.all Sp.isRune=true/\rest≠[]/\Sp.badl rest=true/\Sp.runes1 t=[]/\Sp.runes2 t=⟨11,(encs rs).length,[]⟩) \/
  (t.length<=4000/\∃ rs,t=encs rs/\rs.all Sp.isRune=true/\Sp.runes1 t=(put rs s0).1/\Sp.runes2 t=⟨0,0,[]⟩):=by
 by_cases h:4000<t.length
 ·left;unfold Sp.runes1 Sp.runes2;rw[if_pos h,if_pos h];exact ⟨rfl,rfl⟩
 right;obtain ⟨rs,rest,h1,h2,h3⟩:=zanf t.length t (qz _);by_cases h0:rest=[]
 ·right;subst h0;rw[xj] at h1;subst h1;obtain ⟨q1,q2⟩:=zamp rs h2 (by omega);exact ⟨by omega,rs,rfl,h2,q1,q2⟩
 ·left;have hb:Sp.badl rest=true:=by rcases h3 with h3|h3; exact absurd h3 h0; exact h3
  subst h1;obtain ⟨q1,q2⟩:=zavj rs rest h2 h0 hb (by omega);exact ⟨by omega,rs,rest,rfl,h2,h0,hb,q1,q2⟩
def goesR (r:Int):Bool:=Sp.letter r||Sp.digit r
theorem goes1 (r:Int) (h:0<=r/\r<=1114111):qal r=some (goesR r):=by
 rw[qal,zaaa];unfold qal_f goesR;rw[i64_in r (by omega),zazq,zaqx,qa,qa];cases Sp.letter r<;>rfl
theorem zafy {r:Int} (h:Sp.isRune r=true):0<=r/\r<=1114111:=by
 simp only[Sp.isRune,qj] at h;omega
theorem zam6 (t:List UInt8) (p:Nat) (r:Int) (l:List UInt8) (hd:t.drop p=encB r++l) (hr:Sp.isRune r=true):Utf8.decode ⟨t.toArray⟩ p=(r.toNat,(Sp.long r).toNat):=by
 have h1:=Sp.dc_eq t p;unfold Sp.dc at h1;rw[h1,hd];exact (zavc r l hr).1
theorem zafc (ds rs:List Int):(encs (ds++rs)).drop (encs ds).length=encs rs:=by
 rw[zaaj,List.drop_left]
theorem zahn (ds rs:List Int) (r:Int):(encs ds).length<(encs (ds++r::rs)).length:=by
 rw[zaaj,zaa0,qc,qc,zacq];have:=zadi r;omega
theorem zamu (ds:List Int) (r:Int):(encs (ds++[r])).length=(encs ds).length+(Sp.long r).toNat:=by
 rw[zaaj,zaa0,qc,qc,zacq];simp[encs]
theorem wordL:∀ (rs ds:List Int) (n:Nat),rs.all Sp.isRune=true->rs.length<n->(encs (ds++rs)).length<=9000000 ->
  qaq_i2 n (encs (ds++rs)) (encs (ds++rs)) (encs ds).length=some (if rs.all goesR then .inr (encs (ds++rs)) else .inl (encs (ds++rs.takeWhile goesR)))
 |[],ds,n,_,hn,hl=>by
  obtain ⟨n,rfl⟩:∃ q,n=q+1:=⟨n-1,by simp at hn; omega⟩;simp only[xj,qaq_i2,qaq_t2];simp
 |r::rs,ds,n,ha,hn,hl=>by
  obtain ⟨n,rfl⟩:∃ q,n=q+1:=⟨n-1,by simp at hn; omega⟩;simp only[xv,qd] at ha;have hlt:=zahn ds rs r;have hd:Utf8.decode ⟨(encs (ds++r::rs)).toArray⟩ (encs ds).length=(r.toNat,(Sp.long r).toNat):=zam6 _ _ r (encs rs) (by rw[zafc,zaa0]) ha.1;have hr:=zafy ha.1;simp only[qaq_i2,qaq_t2,hd,hlt,decide_true,qg];rw[show ((r.toNat:Nat):Int)=r by omega,goes1 r hr,qa];cases hg:goesR r with
  |false=>
   have hb:(decide ((0:Int)<=0)&&(decide ((0:Int)<=((encs ds).length:Int))&&decide (((encs ds).length:Int)<=((encs (ds++r::rs)).length:Int))))=true:=by
    simp only[qd,qj]; omega
   simp only[xd,qg,hb,xv,hg,Bool.false_and,xg,if_false,List.takeWhile_cons,xj,List.drop_zero,xt];rw[zaaj,List.take_left]
  |true=>
   have ih:=wordL rs (ds++[r]) n ha.2 (by simp at hn; omega) (by simpa using hl);rw[qq,List.singleton_append,zamu] at ih;simp only[xf,qf,ih,xv,hg,Bool.true_and,List.takeWhile_cons,if_true,qq,List.singleton_append]
theorem zaqf {p:Int->Bool} {l:List Int} (h:l.all p=true):l.takeWhile p=l:=by
 induction l with
 |nil=>rfl
 |cons a l ih=>
  simp only[xv,qd] at h;rw[List.takeWhile_cons,if_pos h.1,ih h.2]
theorem zabl (rs:List Int):rs.length<=(encs rs).length:=by
 induction rs with
 |nil=>simp
 |cons r l ih=>
  rw[zaa0,qc,zacq,qe];have:=zadi r;omega
theorem word1 (rs:List Int) (ha:rs.all Sp.isRune=true) (hl:(encs rs).length<=9000000):qaq (encs rs)=some (encs (rs.takeWhile goesR)):=by
 rw[qaq,zaaa];unfold qaq_f;have:=wordL rs [] fuel ha (by have:=zabl rs; unfold fuel; omega) (by simpa using hl);simp only[qu] at this;rw[qaq_l2,zaaa,show (0:Nat)=(encs []).length from rfl,this];cases hg:rs.all goesR with
 |true=>simp only[if_true,qa,zaqf hg]
 |false=>simp
def skip:Bool->List Int->List Int
 |_,[]=>[]
 |true,r::rs=>skip (r != 10) rs
 |false,r::rs=>if r=35 then skip true rs else if Sp.blank r then skip false rs else r::rs
theorem zato:∀ (rs ds:List Int) (c:Bool) (n:Nat),rs.all Sp.isRune=true->rs.length<n ->
  qan_i3 n (encs (ds++rs)) c (encs (ds++rs)) (encs ds).length=some (if skip c rs=[] then .inr (encs (ds++rs)) else .inl (((encs (ds++rs)).length:Int)-(encs (skip c rs)).length))
 |[],ds,c,n,_,hn=>by
  obtain ⟨n,rfl⟩:∃ q,n=q+1:=⟨n-1,by simp at hn; omega⟩;simp only[xj,qan_i3,qan_t3];cases c<;>simp[skip]
 |r::rs,ds,c,n,ha,hn=>by
  obtain ⟨n,rfl⟩:∃ q,n=q+1:=⟨n-1,by simp at hn; omega⟩;simp only[xv,qd] at ha;have hlt:=zahn ds rs r;have hd:Utf8.decode ⟨(encs (ds++r::rs)).toArray⟩ (encs ds).length=(r.toNat,(Sp.long r).toNat):=zam6 _ _ r (encs rs) (by rw[zafc,zaa0]) ha.1;have hr:=zafy ha.1;have ih:=fun c=>zato rs (ds++[r]) c n ha.2 (by simp at hn; omega)
  simp only[qq,List.singleton_append,zamu] at ih;simp only[qan_i3,qan_t3,hd,hlt,decide_true,qg];rw[show ((r.toNat:Nat):Int)=r by omega];cases c with
  |true=>
   rw[qg,ih];rfl
  |false=>
   rw[qf];by_cases h35:r=35
   ·have:(r==35)=true:=by simp[h35]
    rw[this,qg,ih];simp only[skip,h35,if_true]
   ·have:(r==35)=false:=by simp[h35]
    rw[this,qf,i64_in r (by omega),zaw9,qa];cases hb:Sp.blank r with
    |true=>
     simp only[xf,qf,ih,skip,h35,if_false,hb,if_true]
    |false=>
     have hne:skip false (r::rs)=r::rs:=by simp[skip,h35,hb]
     rw[hne];simp only[xd,qg,if_neg (List.cons_ne_nil r rs)];congr 2;rw[zaaj,qc];omega
theorem zate (rs:List Int) (ha:rs.all Sp.isRune=true) (hl:(encs rs).length<=9000000):qan (encs rs)=some (((encs rs).length:Int)-(encs (skip false rs)).length):=by
 rw[qan,zaaa];unfold qan_f;have:=zato rs [] false fuel ha (by have:=zabl rs; unfold fuel; omega);simp only[qu] at this;rw[qan_l3,zaaa,show (0:Nat)=(encs []).length from rfl,this];by_cases hs:skip false rs=[]
 ·rw[if_pos hs,hs]; simp[encs]
 ·rw[if_neg hs]; simp
theorem za0c (l:List (List UInt8)) (x:List UInt8) (hl:l.length<=4000):∀ (k n:Nat) (i:Int),0<=i->l.length-i.toNat<=k->k<n ->
  ∃ r,qbE_i2 n l x l.length i=some r/\((l.drop i.toNat).contains x=match r with|.inl j=>decide (0<=j)|.inr _=>false):=by
 intro k;have fin:∀ (n:Nat) (i:Int),0<=i->¬ i<l.length->∃ r,qbE_i2 (n+1) l x l.length i=some r/\((l.drop i.toNat).contains x=match r with|.inl j=>decide (0<=j)|.inr _=>false):=by
  intro n i h0 c;refine ⟨.inr (),?_,?_⟩
  ·simp only[qbE_i2,qbE_t2,c,decide_false,qf]
  ·rw[List.drop_eq_nil_of_le (by omega)]; rfl
 induction k with
 |zero=>
  intro n i h0 hk hn;obtain ⟨n,rfl⟩:∃ q,n=q+1:=⟨n-1,by omega⟩;exact fin n i h0 (by omega)
 |succ k ih=>
  intro n i h0 hk hn;obtain ⟨n,rfl⟩:∃ q,n=q+1:=⟨n-1,by omega⟩;by_cases c:i<l.length
  ·have ha:i.toNat<l.length:=by omega
   rw[List.drop_eq_getElem_cons ha];simp only[qbE_i2,qbE_t2,c,h0,decide_true,qg,xp ha,qa,List.contains_cons];cases hx:(x==l[i.toNat]) with
   |true=>exact ⟨.inl i,rfl,by simp[h0]⟩
   |false=>
    rw[i64_in (i+1) (by omega)];obtain ⟨r,h1,h2⟩:=ih n (i+1) (by omega) (by omega) (by omega);refine ⟨r,h1,?_⟩;rw[show (i+1).toNat=i.toNat+1 by omega] at h2;rw[Bool.false_or,h2]
  ·exact fin n i h0 c
theorem zaph (l:List (List UInt8)) (x:List UInt8) (hl:l.length<=4000):qbD l x=some (l.contains x):=by
 obtain ⟨r,h1,h2⟩:=za0c l x hl l.length fuel 0 (by omega) (by omega) (by unfold fuel; omega);simp only[Int.toNat_zero,List.drop_zero] at h2;rw[qbD,zaaa];unfold qbD_f;rw[qbE,zaaa];unfold qbE_f;rw[qbE_l2,zaaa,h1,h2];cases r with
 |inl j=>simp
 |inr u=>simp
def ones:List UInt8:=[61,60,62,33,43,45,42,47,37,59,123,125,40,41]
def twos:List (List UInt8):=[[58,61],[60,45],[61,61],[33,61],[60,61],[62,61],[38,38],[124,124]]
def sgn (t:List UInt8):List UInt8:=if 1<t.length/\twos.contains (t.take 2)=true then t.take 2 else if ones.contains (t.headD 0)=true then t.take 1 else []
theorem zaxj:∀ i:Fin 256,Lib.contains ones [UInt8.ofNat i.val]=ones.contains (UInt8.ofNat i.val):=by decide +kernel
theorem zayl (b:UInt8):Lib.contains ones [b]=ones.contains b:=by
 have:=zaxj ⟨b.toNat,b.toNat_lt⟩;simpa using this
theorem sign1 (b:UInt8) (t:List UInt8) (hl:(b::t).length<=9000000):qao (b::t)=some (sgn (b::t)):=by
 rw[qao,zaaa];unfold qao_f;have ht:List.take 1 (b::t)=[b]:=rfl;have hc:strings_Contains ones [b]=some (ones.contains b):=by
  rw[strings_Contains,zaaa];unfold zad5;rw[qm (by decide),qg,zayl]
 have hc':strings_Contains [61,60,62,33,43,45,42,47,37,59,123,125,40,41] [b]=some (ones.contains b):=hc;have b1:(decide ((0:Int)<=0)&&(decide ((0:Int)<=1)&&decide ((1:Int)<=((b::t).length:Int))))=true:=by
  simp only[qd,qj,qe]; omega
 simp only[List.drop_zero,ht,b1,qg,hc',qa];unfold sgn;by_cases h1:1<(b::t).length
 ·have h1':decide (((b::t).length:Int)>1)=true:=qm (by omega);have b2:(decide ((0:Int)<=0)&&(decide ((0:Int)<=2)&&decide ((2:Int)<=((b::t).length:Int))))=true:=by
   simp only[qd,qj]; omega
  have hc2:=zaph twos ((b::t).take 2) (by decide);have hc2':qbD [[58,61],[60,45],[61,61],[33,61],[60,61],[62,61],[38,38],[124,124]] ((b::t).take 2)=some (twos.contains ((b::t).take 2)):=hc2;rw[h1',qg,b2,qg,hc2',qa];cases h2:twos.contains ((b::t).take 2) with
  |true=>rw[if_pos ⟨h1,rfl⟩]; rfl
  |false=>
   rw[if_neg (fun hh=>by cases hh.2)];cases h3:ones.contains b with
   |true=>simp only[List.headD_cons,h3,if_true]; rfl
   |false=>simp only[List.headD_cons,h3,xg,if_false]; rfl
 ·have h1':decide (((b::t).length:Int)>1)=false:=qn (by omega);rw[h1',qf,if_neg (fun hh=>h1 hh.1)];cases h3:ones.contains b with
  |true=>simp only[List.headD_cons,h3,if_true]; rfl
  |false=>simp only[List.headD_cons,h3,xg,if_false]; rfl
def tens:List UInt8:=[48,49,50,51,52,53,54,55,56,57]
def numS (t:List UInt8):Int×Bool:=
 if 1<t.length/\(t.headD 0).toNat=48 then (0,false) else if Lib.trimS t tens≠[] then (0,false) else if (zaa9 t).2=true then ((zaa9 t).1,false) else ((zaa9 t).1,decide ((zaa9 t).1<=2147483647))
theorem zazl (t:List UInt8) (hl:t.length<=9000000):qam t=some (numS t):=by
 rw[qam,zaaa];unfold qam_f numS;have hT:zadf t [48,49,50,51,52,53,54,55,56,57]=some (Lib.trimS t tens):=by
  rw[zadf,zaaa];unfold zaf1;rw[qm (show _/\_ by constructor; omega; decide)];rfl
 have hA:zac9 t=some (zaa9 t):=by
  rw[zac9,zaaa];unfold zaf6;rw[qm (by omega)];rfl
 have rest:(bif !Lib.trimS t tens==[] then some ((0:Int),false) else bif !(zaa9 t).2 then some ((zaa9 t).1,decide ((zaa9 t).1<=2147483647)) else some ((zaa9 t).1,false)) =
   some (if Lib.trimS t tens≠[] then (0,false) else if (zaa9 t).2=true then ((zaa9 t).1,false) else ((zaa9 t).1,decide ((zaa9 t).1<=2147483647))):=by
  by_cases h:Lib.trimS t tens=[]
  ·rw[if_neg (fun hh=>hh h),h];cases (zaa9 t).2<;>rfl
  ·rw[if_pos h];have:(Lib.trimS t tens==[])=false:=by simpa using h
   rw[this]; rfl
 rw[hT,hA];by_cases h1:1<t.length
 ·rw[qm (show (t.length:Int)>1 by omega),qg];match t,h1 with
  |b::t,h1=>
   simp only[List.getElem?_cons_zero,qa];by_cases h2:b.toNat=48
   ·have:(((b.toNat:Nat):Int)==48)=true:=by rw[beq_iff_eq]; omega
    rw[this,qg,if_pos (show 1<(b::t).length/\((b::t).headD 0).toNat=48 from ⟨h1,h2⟩)]
   ·have:(((b.toNat:Nat):Int)==48)=false:=by rw[beq_eq_false_iff_ne]; omega
    rw[this,qf,if_neg (show ¬ (1<(b::t).length/\((b::t).headD 0).toNat=48) from fun hh=>h2 hh.2)];exact rest
 ·rw[qn (show ¬ (t.length:Int)>1 by omega),qf,if_neg (show ¬ (1<t.length/\(t.headD 0).toNat=48) from fun hh=>h1 hh.1)];simp only[qa];exact rest
theorem za0k:qak=qak_f:=by rw[qak,zaaa]
noncomputable def words:List (List UInt8):=qak_f.getD []
theorem zayb:qak=some words:=by rw[za0k]; rfl
theorem zawc:∀ (rs ds:List Int) (n:Nat),rs.all Sp.isRune=true->rs.length<=n->Lib.runeCountFrom ⟨(encs (ds++rs)).toArray⟩ n (encs ds).length=rs.length
 |[],ds,n,_,_=>by
  cases n with
  |zero=>rfl
  |succ n=>simp[Lib.runeCountFrom,ByteArray.size]
 |r::rs,ds,n,ha,hn=>by
  obtain ⟨n,rfl⟩:∃ q,n=q+1:=⟨n-1,by simp at hn; omega⟩;simp only[xv,qd] at ha;have hlt:=zahn ds rs r;have hd:Utf8.decode ⟨(encs (ds++r::rs)).toArray⟩ (encs ds).length=(r.toNat,(Sp.long r).toNat):=zam6 _ _ r (encs rs) (by rw[zafc,zaa0]) ha.1;have ih:=zawc rs (ds++[r]) n ha.2 (by simp at hn; omega);simp only[qq,List.singleton_append,zamu] at ih;simp only[Lib.runeCountFrom,hd];rw[if_pos (by simpa [ByteArray.size] using hlt),ih,qe];omega
theorem za0n (rs:List Int) (ha:rs.all Sp.isRune=true) (hl:(encs rs).length<=9000000):zabh (encs rs)=some (rs.length:Int):=by
 rw[zabh,zaaa];unfold zab0 Lib.runeCount;rw[qm (by omega),qg];have:=zawc rs [] (encs rs).length ha (zabl rs);simp only[qu] at this;have hs:(⟨(encs rs).toArray⟩:ByteArray).size=(encs rs).length:=by simp[ByteArray.size]
 rw[hs,show (0:Nat)=(encs []).length from rfl,this]
theorem zaz4 (r:Int) (rs:List Int) (hr:Sp.isRune r=true):zabb (encs (r::rs))=some (r,Sp.long r):=by
 rw[zabb,zaaa];unfold zabw Lib.decodeGo;have hp:=zadi r;have hs:¬ (⟨(encs (r::rs)).toArray⟩:ByteArray).size=0:=by
  have:=zahn [] rs r;simp only[qu] at this;simp[ByteArray.size];intro hh;rw[hh] at this;simp at this
 have hd:Utf8.decode ⟨(encs (r::rs)).toArray⟩ 0=(r.toNat,(Sp.long r).toNat):=zam6 _ 0 r (encs rs) (by rw[List.drop_zero,zaa0]) hr;have h0:=zafy hr;rw[if_neg hs,hd];simp only;rw[show ((r.toNat:Nat):Int)=r by omega,show (((Sp.long r).toNat:Nat):Int)=Sp.long r by omega]
noncomputable def tokR (rs:List Int):Token×Int:=
  bif goesR (rs.headD 0) then
    (bif Sp.digit (rs.headD 0) then (bif (numS (encs (rs.takeWhile goesR))).2 then (⟨2,encs (rs.takeWhile goesR),(numS (encs (rs.takeWhile goesR))).1,0⟩,0) else (⟨1,encs (rs.takeWhile goesR),0,0⟩,22))
     else bif words.contains (encs (rs.takeWhile goesR)) then (⟨4,encs (rs.takeWhile goesR),0,0⟩,0)
     else bif decide (16<(rs.takeWhile goesR).length) then (⟨1,encs (rs.takeWhile goesR),0,0⟩,21) else (⟨1,encs (rs.takeWhile goesR),0,0⟩,0))
  else bif sgn (encs rs)==[] then (⟨0,[],0,0⟩,20) else (⟨3,sgn (encs rs),0,0⟩,0)
theorem zake {p:Int->Bool} {rs:List Int} (ha:rs.all Sp.isRune=true):(rs.takeWhile p).all Sp.isRune=true:=by
 rw[qy] at ha ⊢;intro r hr;exact ha r ((List.takeWhile_sublist _).subset hr)
theorem zap6 (p:Int->Bool) (rs:List Int):(encs (rs.takeWhile p)).length<=(encs rs).length:=by
 have:encs rs=encs (rs.takeWhile p)++encs (rs.dropWhile p):=by rw[<-zaaj,List.takeWhile_append_dropWhile]
 rw[this,qc];omega
theorem za0w (rs:List Int) (hne:rs≠[]) (ha:rs.all Sp.isRune=true) (hl:(encs rs).length<=9000000):qap (encs rs)=some (tokR rs):=by
 match rs,hne with
 |r::rs,_=>
  have ha':=ha;simp only[xv,qd] at ha';have hr:=zafy ha'.1;have hw:=word1 (r::rs) ha hl;have hwl:=zap6 goesR (r::rs);rw[qap,zaaa];unfold qap_f tokR;rw[zaz4 r rs ha'.1,qa];simp only;rw[goes1 r hr,qa];simp only[List.headD_cons];cases hg:goesR r with
  |false=>
   obtain ⟨b,t,hbt⟩:∃ b t,encs (r::rs)=b::t:=by
    cases he:encs (r::rs) with
    |nil=>
     have:=zahn [] rs r;simp only[qu,he] at this;simp[encs] at this
    |cons b t=>exact ⟨b,t,rfl⟩
   have hs:=sign1 b t (by rw[<-hbt]; exact hl);rw[<-hbt] at hs;simp only[xd,qg,qf,hs,qa];cases (sgn (encs (r::rs))==[])<;>rfl
  |true=>
   simp only[xf,qf,qg,hw,qa];rw[i64_in r (by omega),zaqx,qa];cases hd:Sp.digit r with
   |true=>
    rw[qg,qg,zazl _ (by omega),qa];cases (numS (encs ((r::rs).takeWhile goesR))).2<;>rfl
   |false=>
    rw[qf,qf,zayb,qa,zaph _ _ (by decide),qa];cases words.contains (encs ((r::rs).takeWhile goesR)) with
    |true=>rfl
    |false=>
     rw[qf,qf,za0n _ (zake ha) (by omega),qa];have:decide ((((r::rs).takeWhile goesR).length:Int)>16)=decide (16<((r::rs).takeWhile goesR).length):=by
      rw[Bool.eq_iff_iff,qj,qj]; omega
     rw[this];cases decide (16<((r::rs).takeWhile goesR).length)<;>rfl
noncomputable def restR (rs:List Int):List Int:=bif goesR (rs.headD 0) then rs.dropWhile goesR else rs.drop (sgn (encs rs)).length
theorem zaep {r:Int} {rs:List Int} {b:UInt8} {t:List UInt8} (hr:Sp.isRune r=true) (h:encs (r::rs)=b::t) (hb:b.toNat<128):encB r=[b]/\t=encs rs:=by
 rw[zaa0] at h;simp only[Sp.isRune,qj] at hr;by_cases a1:r<128
 ·have e:encB r=[UInt8.ofNat r.toNat]:=by simp[encB,bytesOf,Sp.enc,a1]
  rw[e] at h ⊢;simp only[List.singleton_append,xh] at h;exact ⟨by rw[h.1],h.2.symm⟩
 ·exfalso;have hh:∀ x l,encB r=UInt8.ofNat x::l->128<=x->x<256->False:=by
   intro x l he h1 h2;rw[he,qp,xh] at h;have:=congrArg UInt8.toNat h.1;rw[zabr _ h2] at this;omega
  unfold encB Sp.enc bytesOf at hh;rw[if_neg a1] at hh;by_cases a2:r<2048
  ·rw[if_pos a2] at hh;exact hh _ _ rfl (by omega) (by omega)
  ·rw[if_neg a2] at hh;by_cases a3:r<65536
   ·rw[if_pos a3] at hh;exact hh _ _ rfl (by omega) (by omega)
   ·rw[if_neg a3] at hh;exact hh _ _ rfl (by omega) (by omega)
theorem zaa4:∀ (l:List Int) (c:Bool),∃ ds,l=ds++skip c l
 |[],c=>⟨[],by cases c<;>rfl⟩
 |r::l,true=>by
  obtain ⟨ds,h⟩:=zaa4 l (r != 10);exact ⟨r::ds,by simp only[skip,qp]; rw[<-h]⟩
 |r::l,false=>by
  simp only[skip];split
  ·obtain ⟨ds,h⟩:=zaa4 l true;exact ⟨r::ds,by rw[qp,<-h]⟩
  ·split
   ·obtain ⟨ds,h⟩:=zaa4 l false;exact ⟨r::ds,by rw[qp,<-h]⟩
   ·exact ⟨[],rfl⟩
theorem zajc:∀ x∈twos,x.length=2/\x.all (fun b=>decide (b.toNat<128))=true:=by decide
theorem zaoe:∀ b∈ones,b.toNat<128:=by decide
theorem zakn (r:Int) (rs:List Int):∃ b t,encs (r::rs)=b::t:=by
 cases he:encs (r::rs) with
 |nil=>
  have:=zahn [] rs r;simp only[qu,he] at this;simp[encs] at this
 |cons b t=>exact ⟨b,t,rfl⟩
theorem zaih (r:Int) (rs:List Int) (ha:(r::rs).all Sp.isRune=true) (h:sgn (encs (r::rs))≠[]):encs ((r::rs).take (sgn (encs (r::rs))).length)=sgn (encs (r::rs))/\0<(sgn (encs (r::rs))).length:=by
 refine ⟨?_,List.length_pos_iff.2 h⟩;simp only[xv,qd] at ha;obtain ⟨b,t,hbt⟩:=zakn r rs;rw[hbt] at h ⊢;unfold sgn at h ⊢;by_cases h1:1<(b::t).length/\twos.contains ((b::t).take 2)=true
 ·rw[if_pos h1];have hm:(b::t).take 2∈twos:=by simpa using h1.2
  obtain ⟨hl,hall⟩:=zajc _ hm;match t,hl with
  |c::t,_=>
   simp only[List.take_succ_cons,List.take_zero,xv,List.all_nil,Bool.and_true,qd,qj] at hall;obtain ⟨e1,e2⟩:=zaep ha.1 hbt hall.1;match rs,ha.2,e2 with
   |[],_,e2=>simp[encs] at e2
   |r2::rs,ha2,e2=>
    simp only[xv,qd] at ha2;obtain ⟨e3,_⟩:=zaep ha2.1 e2.symm hall.2;show encs [r,r2]=[b,c];rw[zaa0,zaa0,e1,e3];rfl
 ·rw[if_neg h1] at h ⊢;by_cases h2:ones.contains ((b::t).headD 0)=true
  ·rw[if_pos h2];have hb:b∈ones:=by simpa using h2
   obtain ⟨e1,_⟩:=zaep ha.1 hbt (zaoe b hb);show encs [r]=[b];rw[zaa0,e1];rfl
  ·rw[if_neg h2] at h;exact absurd rfl h
theorem zag0 (r:Int) (rs:List Int) (ha:(r::rs).all Sp.isRune=true) (h0:(tokR (r::rs)).2=0):∃ ds,ds≠[]/\r::rs=ds++restR (r::rs)/\encs ds=(tokR (r::rs)).1.text:=by
 unfold tokR at h0 ⊢;unfold restR;simp only[List.headD_cons] at h0 ⊢;cases hg:goesR r with
 |true=>
  refine ⟨(r::rs).takeWhile goesR,by simp[hg],(List.takeWhile_append_dropWhile).symm,?_⟩;simp only[qg];cases Sp.digit r with
  |true=>
   cases (numS (encs ((r::rs).takeWhile goesR))).2<;>rfl
  |false=>
   cases words.contains (encs ((r::rs).takeWhile goesR)) with
   |true=>rfl
   |false=>cases decide (16<((r::rs).takeWhile goesR).length)<;>rfl
 |false=>
  rw[hg] at h0;simp only[qf] at h0 ⊢;cases hs:(sgn (encs (r::rs))==[]) with
  |true=>rw[hs] at h0; simp at h0
  |false=>
   have hne:sgn (encs (r::rs))≠[]:=by simpa using hs
   obtain ⟨h1,h2⟩:=zaih r rs ha hne;refine ⟨(r::rs).take (sgn (encs (r::rs))).length,?_,(List.take_append_drop _ _).symm,h1⟩;intro hh;have:=congrArg List.length hh;simp only[xy,qr,qe] at this;omega
noncomputable def toks:Nat->Int->List Int->(Int×Int)⊕List Token
 |0,_,_=>.inr []
 |_+1,_,[]=>.inr []
 | n + 1, p, r :: rs => bif (tokR (r :: rs)).2 != 0 then .inl ((tokR (r :: rs)).2, p) else
   match toks n (p+(encs (r::rs)).length-(encs (skip false (restR (r::rs)))).length) (skip false (restR (r::rs))) with
   |.inl e=>.inl e
   |.inr l=>.inr (⟨(tokR (r::rs)).1.kind,(tokR (r::rs)).1.text,(tokR (r::rs)).1.num,p⟩::l)
theorem zabg {ds rs:List Int} (h:(ds++rs).all Sp.isRune=true):rs.all Sp.isRune=true:=by
 rw[List.all_append,qd] at h;exact h.2
theorem zay8 (a2 a3:Int) (a4:List UInt8):∀ (k n:Nat) (rs ds:List Int) (out:List Token),rs.length<=k->k<n->(ds++rs).all Sp.isRune=true->(encs (ds++rs)).length<=4000->out.length<=(encs ds).length ->
  qaj_i6 n (encs (ds++rs)) ((encs ds).length:Int) a2 a3 a4 out=some (match toks k ((encs ds).length:Int) rs with|.inl e=>.inl (e.1,e.2,[])|.inr l=>.inr (encs (ds++rs),a2,a3,a4,out++l)):=by
 intro k;have fin:∀ (n k:Nat) (ds:List Int) (out:List Token),qaj_i6 (n+1) (encs (ds++[])) ((encs ds).length:Int) a2 a3 a4 out=some (match toks k ((encs ds).length:Int) [] with|.inl e=>.inl (e.1,e.2,[])|.inr l=>.inr (encs (ds++[]),a2,a3,a4,out++l)):=by
  intro n k ds out;have:toks k ((encs ds).length:Int) []=.inr []:=by cases k<;>rfl
  rw[this];simp only[xj,qaj_i6,qaj_t6];have:decide (((encs ds).length:Int)<((encs ds).length:Int))=false:=qn (by omega);rw[this,qf]
 induction k with
 |zero=>
  intro n rs ds out hk hn ha hl ho;obtain ⟨n,rfl⟩:∃ q,n=q+1:=⟨n-1,by omega⟩;match rs,hk with
  |[],_=>exact fin n 0 ds out
 |succ k ih=>
  intro n rs ds out hk hn ha hl ho;obtain ⟨n,rfl⟩:∃ q,n=q+1:=⟨n-1,by omega⟩;match rs,hk,ha,hl with
  |[],_,_,_=>exact fin n (k+1) ds out
  |r::rs,hk,ha,hl=>
   have har:=zabg ha;have hlt:=zahn ds rs r;have hlen:(encs (ds++r::rs)).length=(encs ds).length+(encs (r::rs)).length:=by rw[zaaj,qc]
   simp only[qaj_i6,qaj_t6];have b0:decide (((encs ds).length:Int)<((encs (ds++r::rs)).length:Int))=true:=qm (by omega);have b1:(decide ((0:Int)<=((encs ds).length:Int))&&(decide (((encs ds).length:Int)<=((encs (ds++r::rs)).length:Int))&&decide (((encs (ds++r::rs)).length:Int)<=((encs (ds++r::rs)).length:Int))))=true:=by
    simp only[qd,qj]; omega
   have hd:List.drop (Int.toNat ((encs ds).length:Int)) (List.take (Int.toNat ((encs (ds++r::rs)).length:Int)) (encs (ds++r::rs)))=encs (r::rs):=by
    rw[xt,xt,List.take_length,zafc]
   rw[b0,qg,b1,qg,hd,za0w _ (List.cons_ne_nil _ _) har (by omega),qa];simp only[toks];cases hc:((tokR (r::rs)).2 != 0) with
   |true=>rfl
   |false=>
    have h0:(tokR (r::rs)).2=0:=by simpa using hc
    obtain ⟨es,hes,hsp,htx⟩:=zag0 r rs har h0;obtain ⟨fs,hfs⟩:=zaa4 (restR (r::rs)) false;have hall:((ds++es)++restR (r::rs)).all Sp.isRune=true:=by rw[qq,<-hsp]; exact ha
    have hres:=zabg hall;have l1:(encs (r::rs)).length=(encs es).length+(encs (restR (r::rs))).length:=by
     conv=>lhs; rw[hsp]
     rw[zaaj,qc]
    have l2:(encs (restR (r::rs))).length=(encs fs).length+(encs (skip false (restR (r::rs)))).length:=by
     conv=>lhs; rw[hfs]
     rw[zaaj,qc]
    have hes1:1<=(encs es).length:=by
     have:=zabl es;have:0<es.length:=List.length_pos_iff.2 hes;omega
    rw[<-htx];simp only[qf];rw[qm (show _/\_ by simp only[qe,qr]; omega),qg,i64_in (((encs ds).length:Int)+(encs es).length) (by omega)];have b2:(decide ((0:Int)<=((encs ds).length:Int)+(encs es).length)&&(decide (((encs ds).length:Int)+(encs es).length<=((encs (ds++r::rs)).length:Int))&&decide (((encs (ds++r::rs)).length:Int)<=((encs (ds++r::rs)).length:Int))))=true:=by
     simp only[qd,qj]; omega
    have hd2:List.drop (Int.toNat (((encs ds).length:Int)+(encs es).length)) (List.take (Int.toNat ((encs (ds++r::rs)).length:Int)) (encs (ds++r::rs)))=encs (restR (r::rs)):=by
     have e:ds++r::rs=(ds++es)++restR (r::rs):=by rw[qq,<-hsp]
     have e2:(((encs ds).length:Int)+(encs es).length).toNat=(encs (ds++es)).length:=by rw[zaaj,qc]; omega
     rw[xt,List.take_length,e2,e,zafc]
    rw[b2,qg,hd2,zate _ hres (by omega),qa];have hat:IntKind.wrap IntKind.i64 (((encs ds).length:Int)+(encs es).length+(((encs (restR (r::rs))).length:Int)-(encs (skip false (restR (r::rs)))).length))=((encs (ds++es++fs)).length:Int):=by
     rw[i64_in _ (by omega),zaaj,zaaj,qc,qc];omega
    have hp:((encs ds).length:Int)+(encs (r::rs)).length-(encs (skip false (restR (r::rs)))).length=((encs (ds++es++fs)).length:Int):=by
     rw[zaaj,zaaj,qc,qc];omega
    have hT:ds++r::rs=(ds++es++fs)++skip false (restR (r::rs)):=by
     rw[qq,<-hfs,qq,<-hsp]
    have hk':(skip false (restR (r::rs))).length<=k:=by
     have q1:=congrArg List.length hsp;have q2:=congrArg List.length hfs;have q3:0<es.length:=List.length_pos_iff.2 hes;simp only[qc,qe] at q1 q2 hk;omega
    rw[hat,hp]
    have:=ih n (skip false (restR (r::rs))) (ds++es++fs) (out++[⟨(tokR (r::rs)).1.kind,encs es,(tokR (r::rs)).1.num,((encs ds).length:Int)⟩]) hk' (by omega) (by rw[<-hT]; exact ha) (by rw[<-hT]; exact hl) (by
     rw[zaaj,zaaj];simp only[qc,qe,qr];omega)
    rw[<-hT] at this;rw[this];cases toks k ((encs (ds++es++fs)).length:Int) (skip false (restR (r::rs))) with
    |inl e=>rfl
    |inr l=>simp only[qq,List.singleton_append]
theorem toks_len:∀ (k:Nat) (p:Int) (rs:List Int),rs.all Sp.isRune=true->∀ l,toks k p rs=.inr l->l.length<=rs.length
 |0,p,rs,_,l,h=>by simp only[toks,Sum.inr.injEq] at h; subst h; simp
 |k+1,p,[],_,l,h=>by simp only[toks,Sum.inr.injEq] at h; subst h; simp
 |k+1,p,r::rs,ha,l,h=>by
  simp only[toks] at h;cases hc:((tokR (r::rs)).2 != 0) with
  |true=>rw[hc] at h; simp at h
  |false=>
   rw[hc] at h;have h0:(tokR (r::rs)).2=0:=by simpa using hc
   obtain ⟨es,hes,hsp,_⟩:=zag0 r rs ha h0;obtain ⟨fs,hfs⟩:=zaa4 (restR (r::rs)) false;have q1:=congrArg List.length hsp;have q2:=congrArg List.length hfs;have q3:0<es.length:=List.length_pos_iff.2 hes;simp only[qc,qe] at q1 q2;simp only[qf] at h;have hs:(skip false (restR (r::rs))).all Sp.isRune=true:=zabg (ds:=es++fs) (by rw[qq,<-hfs,<-hsp]; exact ha);split at h
   ·cases h
   ·rename_i l' hl';simp only[Sum.inr.injEq] at h;subst h;have:=toks_len k _ _ hs l' hl';simp only[qe];omega
theorem zahh (rs:List Int) (ha:rs.all Sp.isRune=true) (hl:(encs rs).length<=4000):qaj (encs rs)=some (match toks rs.length (((encs rs).length:Int)-(encs (skip false rs)).length) (skip false rs) with
  |.inl e=>([],⟨e.1,e.2,[]⟩)
  |.inr l=>(l++[⟨5,[],0,((encs rs).length:Int)⟩],⟨0,0,[]⟩)):=by
 obtain ⟨fs,hfs⟩:=zaa4 rs false;obtain ⟨q1,q2⟩:=zamp rs ha hl;have hsk:((encs rs).length:Int)-(encs (skip false rs)).length=((encs fs).length:Int):=by
  have:(encs rs).length=(encs fs).length+(encs (skip false rs)).length:=by
   conv=>lhs; rw[hfs]
   rw[zaaj,qc]
  omega
 have hL:=zay8 0 0 [] rs.length fuel (skip false rs) fs [] (by have:=congrArg List.length hfs; rw[qc] at this; omega) (by have:=zabl rs; unfold fuel; omega) (by rw[<-hfs]; exact ha) (by rw[<-hfs]; exact hl) (by simp);rw[<-hfs] at hL;rw[qaj,zaaa];unfold qaj_f;rw[zatg,q1,q2,qa];simp only[bne_self_eq_false,qf];rw[zate rs ha (by omega),qa,hsk,qaj_l6,zaaa,hL,qa];have hlen:=toks_len rs.length ((encs fs).length:Int) (skip false rs) (zabg (ds:=fs) (by rw[<-hfs]; exact ha));cases ht:toks rs.length ((encs fs).length:Int) (skip false rs) with
 |inl e=>rfl
 |inr l=>
  have hl2:=hlen l ht;have h3:(skip false rs).length<=rs.length:=by
   have:=congrArg List.length hfs;rw[qc] at this;omega
  have h4:=zabl rs;simp only[qu];rw[qm (show _/\_ by simp only[qe,qr]; omega),qg]
theorem zax1:qaY=some words:=by
 rw[qaY,zaaa];rfl
def whole (w:List Int) (t:Token):Prop:=w≠[]/\w.all Sp.isRune=true/\tokR w=(t,0)/\t.text=encs w
theorem zakb {w:List Int} (h:goesR (w.headD 0)=true):(tokR w).1.text=encs (w.takeWhile goesR):=by
 unfold tokR;rw[h,qg];cases Sp.digit (w.headD 0) with
 |true=>cases (numS (encs (w.takeWhile goesR))).2<;>rfl
 |false=>
  cases words.contains (encs (w.takeWhile goesR)) with
  |true=>rfl
  |false=>cases decide (16<(w.takeWhile goesR).length)<;>rfl
theorem zank {a b:List Int} (h:encs (a++b)=encs a):b=[]:=by
 have h1:=congrArg List.length h;rw[zaaj,qc] at h1;have h2:=zabl b;have:b.length=0:=by omega
 exact qt this
theorem zajt {w:List Int} {t:Token} (h:whole w t) (hg:goesR (w.headD 0)=true):w.takeWhile goesR=w:=by
 obtain ⟨_,_,h3,h4⟩:=h;have h5:=zakb hg;rw[h3] at h5;have h6:encs (w.takeWhile goesR++w.dropWhile goesR)=encs (w.takeWhile goesR):=by
  rw[List.takeWhile_append_dropWhile,<-h5,<-h4]
 have h7:=zank h6;have h8:=List.takeWhile_append_dropWhile (p:=goesR) (l:=w);rw[h7,xj] at h8;exact h8
theorem zayr {w:List Int} (h:w≠[]) (r:List Int):(w++r).headD 0=w.headD 0:=by
 cases w with
 |nil=>exact absurd rfl h
 |cons a w=>rfl
def core (t:Token):Int×List UInt8×Int:=(t.kind,t.text,t.num)
end Lift.A1P
namespace Lift.A4
open Go Go.RowKit Lift Go.IntWalk Lift.Fn Lift.A1P
abbrev Tk:=Int×List UInt8×Int
def Ends (l:List Token):Prop:=∃ u e,l=u++[e]/\e.kind=5
theorem zaf0 {l:List Token} (h:Ends l):∃ t r,l=t::r:=by
 obtain ⟨u,e,rfl,_⟩:=h;cases u with
 |nil=>exact ⟨e,[],rfl⟩
 |cons a u=>exact ⟨a,u++[e],rfl⟩
theorem zafe {t:Token} {r:List Token} (h:Ends (t::r)) (hk:t.kind≠5):Ends r:=by
 obtain ⟨u,e,he,h5⟩:=h;cases u with
 |nil=>
  simp only[qu,xh] at he;exact absurd (he.1▸h5) hk
 |cons a u=>
  simp only[qp,xh] at he;exact ⟨u,e,he.2,h5⟩
variable {R S X Y:Type}
def GoodT (P:List Token->Option R) (ok:X->List Token->R) (bad:Wrong->R) (C:X->List Tk->Prop) (ts:List Token):Prop:=
  ∃ (u:List Token) (t:Token) (r:List Token),ts=u++t::r/\Ends (t::r) /\
    ((∃ x,C x (u.map core)/\∀ u' t' r',List.map core u'=List.map core u->core t'=core t->P (u'++t'::r')=some (ok x (t'::r'))) \/
     (∀ u' t' r',List.map core u'=List.map core u->core t'=core t->P (u'++t'::r')=some (bad ⟨t'.at_⟩)))
theorem zacc {P:List Token->Option R} {ok:X->List Token->R} {bad:Wrong->R} {C D:X->List Tk->Prop} {ts:List Token}
  (h:GoodT P ok bad C ts) (hc:∀ x n,n.length<ts.length->C x n->D x n):GoodT P ok bad D ts:=by
 obtain ⟨u,t,r,h1,h2,h3⟩:=h;refine ⟨u,t,r,h1,h2,?_⟩;rcases h3 with ⟨x,c,h⟩|h
 ·refine .inl ⟨x,hc x _ ?_ c,h⟩;rw[h1,qc,qe,List.length_map];omega
 ·exact .inr h
theorem zaat (ok:X->List Token->R) (bad:Wrong->R) {C:X->List Tk->Prop} {ts:List Token} (x:X) (he:Ends ts) (hc:C x []) :
  GoodT (fun z=>some (ok x z)) ok bad C ts:=by
 obtain ⟨t,r,rfl⟩:=zaf0 he;refine ⟨[],t,r,rfl,he,.inl ⟨x,hc,fun u' t' r' hu ht=>?_⟩⟩
 have:u'=[]:=by cases u' with
  |nil=>rfl
  |cons a u'=>cases hu
 rw[this];rfl
theorem zaa5 {P:List Token->Option R} {ok:X->List Token->R} {bad:Wrong->R} {C:X->List Tk->Prop} {ts:List Token}
  {F:R->Option S} {ok':Y->List Token->S} {bad':Wrong->S} {D:Y->List Tk->Prop}
  (h:GoodT P ok bad C ts)
  (hk:∀ x n t1,C x n->Ends t1->n.length+t1.length=ts.length->GoodT (fun z=>F (ok x z)) ok' bad' (fun y m=>D y (n++m)) t1)
  (hb:∀ w,F (bad w)=some (bad' w)):GoodT (fun z=>Option.bind (P z) F) ok' bad' D ts:=by
 obtain ⟨u,t,r,rfl,h2,h3⟩:=h;rcases h3 with ⟨x,c,h⟩|h
 ·obtain ⟨u2,t2,r2,e,h5,h6⟩:=hk x (u.map core) (t::r) c h2 (by rw[qc,List.length_map]);refine ⟨u++u2,t2,r2,by rw[e,qq],h5,?_⟩;have key:∀ u' t' r',List.map core u'=List.map core (u++u2)->core t'=core t2->∃ v w,u'=v++w/\List.map core w=List.map core u2/\P (u'++t'::r')=some (ok x (w++t'::r')):=by
   intro u' t' r' hu ht;refine ⟨u'.take u.length,u'.drop u.length,(List.take_append_drop _ _).symm,?_,?_⟩
   ·rw[List.map_drop,hu,List.map_append,<-List.length_map (f:=core),List.drop_left]
   ·have e1:List.map core (u'.take u.length)=List.map core u:=by
     rw[List.map_take,hu,List.map_append,<-List.length_map (f:=core),List.take_left]
    have e2:List.map core (u'.drop u.length)=List.map core u2:=by
     rw[List.map_drop,hu,List.map_append,<-List.length_map (f:=core),List.drop_left]
    rw[show u'++t'::r'=u'.take u.length++(u'.drop u.length++t'::r') by rw[<-qq,List.take_append_drop]];generalize u'.drop u.length=w at e2 ⊢;cases u2 with
    |nil=>
     have:w=[]:=by cases w with
      |nil=>rfl
      |cons a w=>cases e2
     rw[this];simp only[qu,xh] at e;exact h _ _ _ e1 (by rw[ht,e.1])
    |cons a u2=>
     cases w with
     |nil=>cases e2
     |cons b w=>
      simp only[xn,xh] at e2;simp only[qp,xh] at e;exact h _ _ _ e1 (by rw[e2.1,e.1])
  rcases h6 with ⟨y,d,h7⟩|h7
  ·refine .inl ⟨y,by rw[List.map_append]; exact d,fun u' t' r' hu ht=>?_⟩;obtain ⟨v,w,rfl,hw,hp⟩:=key u' t' r' hu ht;show Option.bind (P _) F=_;rw[hp,qa];exact h7 w t' r' hw ht
  ·refine .inr fun u' t' r' hu ht=>?_
   obtain ⟨v,w,rfl,hw,hp⟩:=key u' t' r' hu ht;show Option.bind (P _) F=_;rw[hp,qa];exact h7 w t' r' hw ht
 ·refine ⟨u,t,r,rfl,h2,.inr fun u' t' r' hu ht=>?_⟩;show Option.bind (P _) F=_;rw[h u' t' r' hu ht,qa,hb]
theorem zaej {P:List Token->Option R} {Q:List Token->Option R} {ok:X->List Token->R} {bad:Wrong->R} {C:X->List Tk->Prop} {t:Token} {r:List Token}
  (h:GoodT Q ok bad (fun x n=>C x (core t::n)) r) (hp:∀ t' z,core t'=core t->z≠[]->P (t'::z)=Q z):GoodT P ok bad C (t::r):=by
 obtain ⟨u,s,q,rfl,h2,h3⟩:=h;refine ⟨t::u,s,q,rfl,h2,?_⟩;have key:∀ u' t' r',List.map core u'=List.map core (t::u)->∃ v,List.map core v=List.map core u/\P (u'++t'::r')=Q (v++t'::r'):=by
  intro u' t' r' hu;cases u' with
  |nil=>cases hu
  |cons a v=>
   simp only[xn,xh] at hu;exact ⟨v,hu.2,hp a _ hu.1 (by simp)⟩
 rcases h3 with ⟨x,c,h⟩|h
 ·refine .inl ⟨x,c,fun u' t' r' hu ht=>?_⟩;obtain ⟨v,hv,e⟩:=key u' t' r' hu;rw[e,h v t' r' hv ht]
 ·refine .inr fun u' t' r' hu ht=>?_
  obtain ⟨v,hv,e⟩:=key u' t' r' hu;rw[e,h v t' r' hv ht]
theorem zam5 {P:List Token->Option R} {Q:List Token->Option R} {ok:X->List Token->R} {bad:Wrong->R} {C:X->List Tk->Prop} {t:Token} {r:List Token}
  (h:GoodT Q ok bad C (t::r)) (hp:∀ t' z,core t'=core t->P (t'::z)=Q (t'::z)):GoodT P ok bad C (t::r):=by
 obtain ⟨u,s,q,e,h2,h3⟩:=h;refine ⟨u,s,q,e,h2,?_⟩;have key:∀ u' t' r',List.map core u'=List.map core u->core t'=core s->P (u'++t'::r')=Q (u'++t'::r'):=by
  intro u' t' r' hu ht;cases u with
  |nil=>
   have:u'=[]:=by cases u' with
    |nil=>rfl
    |cons a v=>cases hu
   subst this;simp only[qu,xh] at e ⊢;exact hp t' r' (by rw[ht,e.1])
  |cons a u=>
   cases u' with
   |nil=>cases hu
   |cons b v=>
    simp only[xn,xh] at hu;simp only[qp,xh] at e ⊢;exact hp b _ (by rw[hu.1,e.1])
 rcases h3 with ⟨x,c,h⟩|h
 ·exact .inl ⟨x,c,fun u' t' r' hu ht=>by rw[key u' t' r' hu ht,h u' t' r' hu ht]⟩
 ·exact .inr fun u' t' r' hu ht=>by rw[key u' t' r' hu ht,h u' t' r' hu ht]
theorem zagk {P:List Token->Option R} {ok:X->List Token->R} {bad:Wrong->R} {C:X->List Tk->Prop} {t:Token} {r:List Token} (he:Ends (t::r))
  (hp:∀ t' z,core t'=core t->P (t'::z)=some (bad ⟨t'.at_⟩)):GoodT P ok bad C (t::r):=by
 refine ⟨[],t,r,rfl,he,.inr fun u' t' r' hu ht=>?_⟩
 have:u'=[]:=by cases u' with
  |nil=>rfl
  |cons a v=>cases hu
 subst this;exact hp t' r' ht
theorem next1 (t:Token) (r:List Token):qax (t::r)=some (t,t::r):=by
 rw[qax,zaaa]; rfl
def hit (s:List UInt8) (t:Token):Bool:=(bif t.kind==4 then true else t.kind==3)&&t.text==s
theorem rdIs1 (s:List UInt8) (t:Token) (r:List Token):qav s (t::r)=some (hit s t,t::r):=by
 rw[qav,zaaa];unfold qav_f hit;rw[next1,qa];cases t.kind==4<;>cases t.kind==3<;>rfl
theorem take1 (t:Token) (r:List Token):qaD (t::r)=some (t,r):=by
 rw[qaD,zaaa];unfold qaD_f;rw[next1,Option.bind_some];dsimp only;have e:(decide ((0:Int)<=(1:Int))&&(decide ((1:Int)<=(↑(List.length (t::r)):Int))&&decide ((↑(List.length (t::r)):Int)<=(↑(List.length (t::r)):Int))))=true:=by
  simp only[qd,qj,qe];omega
 rw[e,qg];have:List.take (Int.toNat (↑(List.length (t::r)):Int)) (t::r)=t::r:=by
  rw[xt,List.take_length]
 rw[this];rfl
theorem took1 (s:List UInt8) (t:Token) (r:List Token):qaE s (t::r)=some (hit s t,bif hit s t then r else t::r):=by
 rw[qaE,zaaa];unfold qaE_f;rw[rdIs1,Option.bind_some];dsimp only;cases h:hit s t with
 |false=>rfl
 |true=>rw[qg,take1]; rfl
theorem zaoh (t:Token) (r:List Token):qaB (t::r)=some ⟨t.at_⟩:=by
 rw[qaB,zaaa];unfold qaB_f;rw[next1];rfl
theorem of1 (k:Int) (t:Token) (r:List Token):qay k (t::r)=some (bif t.kind != k then .inr ⟨t.at_⟩ else .inl (t,r)):=by
 rw[qay,zaaa];unfold qay_f;rw[next1,Option.bind_some];dsimp only;cases t.kind != k with
 |true=>rw[qg,zaoh]; rfl
 |false=>rw[qf,take1]; rfl
theorem name1 (t:Token) (r:List Token):qaw (t::r)=some (bif t.kind != 1 then .inr ⟨t.at_⟩ else .inl (t.text,r)):=by
 rw[qaw,zaaa];unfold qaw_f;rw[of1,qa];cases t.kind != 1<;>rfl
theorem want1 (s:List UInt8) (t:Token) (r:List Token):qaG s (t::r)=some (bif hit s t then .inl r else .inr ⟨t.at_⟩):=by
 rw[qaG,zaaa];unfold qaG_f;rw[took1,qa];cases hit s t with
 |true=>rfl
 |false=>
  simp only[xd,qg,qf];rw[zaoh];rfl
theorem zaka {s:List UInt8} {t t':Token} (h:core t'=core t):hit s t'=hit s t:=by
 simp only[core,xa] at h;unfold hit;rw[h.1,h.2.1]
theorem zalf {s:List UInt8} {t:Token} (h:hit s t=true):t.kind≠5:=by
 intro h5;unfold hit at h;rw[h5] at h;cases h
variable {S X:Type} {ok:X->List Token->S} {bad:Wrong->S} {D:X->List Tk->Prop} {ts:List Token}
theorem zabn {s:List UInt8} {F:Bool×List Token->Option S} (he:Ends ts)
  (hy:∀ t r,hit s t=true->Ends r->r.length+1=ts.length->GoodT (fun z=>F (true,z)) ok bad (fun x n=>D x (core t::n)) r)
  (hn:(∀ t r,ts=t::r->hit s t=false)->GoodT (fun z=>F (false,z)) ok bad D ts):GoodT (fun z=>Option.bind (qaE s z) F) ok bad D ts:=by
 obtain ⟨t,r,rfl⟩:=zaf0 he;cases h:hit s t with
 |true=>
  refine zaej (hy t r h (zafe he (zalf h)) rfl) fun t' z ht _=>?_
  show Option.bind (qaE s (t'::z)) F=_;rw[took1,zaka ht,h];rfl
 |false=>
  refine zam5 (hn (fun a b e=>by cases e; exact h)) fun t' z ht=>?_
  show Option.bind (qaE s (t'::z)) F=_;rw[took1,zaka ht,h];rfl
theorem zabm {s:List UInt8} {F:(List Token)⊕Wrong->Option S} (he:Ends ts)
  (hy:∀ t r,hit s t=true->Ends r->r.length+1=ts.length->GoodT (fun z=>F (.inl z)) ok bad (fun x n=>D x (core t::n)) r)
  (hb:∀ w,F (.inr w)=some (bad w)):GoodT (fun z=>Option.bind (qaG s z) F) ok bad D ts:=by
 obtain ⟨t,r,rfl⟩:=zaf0 he;cases h:hit s t with
 |true=>
  refine zaej (hy t r h (zafe he (zalf h)) rfl) fun t' z ht _=>?_
  show Option.bind (qaG s (t'::z)) F=_;rw[want1,zaka ht,h];rfl
 |false=>
  refine zagk he fun t' z ht=>?_
  show Option.bind (qaG s (t'::z)) F=_;rw[want1,zaka ht,h,qf,qa,hb]
theorem zacw {F:((List UInt8)×List Token)⊕Wrong->Option S} (he:Ends ts)
  (hy:∀ t r,t.kind=1->Ends r->r.length+1=ts.length->GoodT (fun z=>F (.inl (t.text,z))) ok bad (fun x n=>D x (core t::n)) r)
  (hb:∀ w,F (.inr w)=some (bad w)):GoodT (fun z=>Option.bind (qaw z) F) ok bad D ts:=by
 obtain ⟨t,r,rfl⟩:=zaf0 he;by_cases h:t.kind=1
 ·refine zaej (hy t r h (zafe he (by rw[h]; decide)) rfl) fun t' z ht _=>?_
  show Option.bind (qaw (t'::z)) F=_;simp only[core,xa] at ht;have e:(t'.kind != 1)=false:=by rw[ht.1,h]; rfl
  rw[name1,e,qf,qa,ht.2.1]
 ·refine zagk he fun t' z ht=>?_
  show Option.bind (qaw (t'::z)) F=_;simp only[core,xa] at ht;have e:(t'.kind != 1)=true:=by rw[ht.1]; simpa using h
  rw[name1,e,qg,qa,hb]
theorem zaem {F:Token×List Token->Option S} (he:Ends ts)
  (hF:∀ c x n a b z,F (⟨c,x,n,a⟩,z)=F (⟨c,x,n,b⟩,z))
  (h:∀ t r,ts=t::r->GoodT (fun z=>F (t,z)) ok bad D (t::r)):GoodT (fun z=>Option.bind (qax z) F) ok bad D ts:=by
 obtain ⟨t,r,rfl⟩:=zaf0 he;refine zam5 (h t r rfl) fun t' z ht=>?_
 show Option.bind (qax (t'::z)) F=F (t,t'::z);rw[next1,qa];simp only[core,xa] at ht;obtain ⟨c,x,n,a⟩:=t;obtain ⟨c',x',n',a'⟩:=t';obtain ⟨rfl,rfl,rfl⟩:=ht;exact hF _ _ _ _ _ _
theorem zanb {t:Token} {r:List Token} {F:Token×List Token->Option S} (he:Ends (t::r)) (hk:t.kind≠5)
  (hF:∀ c x n a b z,F (⟨c,x,n,a⟩,z)=F (⟨c,x,n,b⟩,z))
  (h:Ends r->GoodT (fun z=>F (t,z)) ok bad (fun x n=>D x (core t::n)) r):GoodT (fun z=>Option.bind (qaD z) F) ok bad D (t::r):=by
 refine zaej (h (zafe he hk)) fun t' z ht _=>?_
 show Option.bind (qaD (t'::z)) F=F (t,z);rw[take1,qa];simp only[core,xa] at ht;obtain ⟨c,x,n,a⟩:=t;obtain ⟨c',x',n',a'⟩:=t';obtain ⟨rfl,rfl,rfl⟩:=ht;exact hF _ _ _ _ _ _
theorem zaqq {F:Wrong->Option S} (he:Ends ts) (h:∀ w,F w=some (bad w)):GoodT (fun z=>Option.bind (qaB z) F) ok bad D ts:=by
 obtain ⟨t,r,rfl⟩:=zaf0 he;refine zagk he fun t' z ht=>?_
 show Option.bind (qaB (t'::z)) F=_;rw[zaoh,qa,h]
end Lift.A4
namespace Lift.A3
open Go Go.RowKit Lift Go.IntWalk Lift.Fn
theorem zaco {α σ:Type} (l:List α) (body:α->σ->Option σ) (L:Nat->Int->σ->Option σ)
  (h0:∀ n i s,0<=i->¬ i<(l.length:Int)->L (n+1) i s=some s)
  (h1:∀ n i s (x:α),0<=i->i<(l.length:Int)->l[i.toNat]? = some x->L (n+1) i s=(body x s).bind fun s'=>L n (i+1) s') :
  ∀ (k n:Nat) (i:Int) (s:σ),0<=i->l.length-i.toNat<=k->k<n->L n i s=(l.drop i.toNat).foldlM (fun s x=>body x s) s:=by
 intro k;induction k with
 |zero=>
  intro n i s hi hk hn;obtain ⟨n,rfl⟩:∃ q,n=q+1:=⟨n-1,by omega⟩;rw[h0 n i s hi (by omega),List.drop_eq_nil_of_le (by omega)];rfl
 |succ k ih=>
  intro n i s hi hk hn;obtain ⟨n,rfl⟩:∃ q,n=q+1:=⟨n-1,by omega⟩;by_cases c:i<(l.length:Int)
  ·have hlt:i.toNat<l.length:=by omega
   rw[h1 n i s l[i.toNat] hi c (xp hlt),List.drop_eq_getElem_cons hlt,List.foldlM_cons];congr 1;funext s';rw[ih n (i+1) s' (by omega) (by omega) (by omega)];congr 2;omega
  ·rw[h0 n i s hi c,List.drop_eq_nil_of_le (by omega)];rfl
inductive Ev where
 |s (x:TStmt) (d:Int)
 |e (x:TExpr) (d:Int)
mutual
def evE:TExpr->Int->List Ev
 |⟨k,n,m,l⟩,d=>.e ⟨k,n,m,l⟩ d::evEs l (d+1)
def evEs:List TExpr->Int->List Ev
 |[],_=>[]
 |x::l,d=>evE x d++evEs l d
end
def zaa8 (x:TExpr):Bool:=(x.kind != 0)||decide (0<x.args.length)
mutual
def evS:TStmt->Int->List Ev
 |⟨k,r,m,x,c,t,o⟩,d=>.s ⟨k,r,m,x,c,t,o⟩ d::((if zaa8 x then evE x 1 else [])++(evSs t (d+1)++evSs o (d+1)))
def evSs:List TStmt->Int->List Ev
 |[],_=>[]
 |x::l,d=>evS x d++evSs l d
end
def evP (p:TProg):List Ev:=p.threads.flatMap fun t=>evSs t.body 1
mutual
def nE:TExpr->Nat
 |⟨_,_,_,l⟩=>1+nEs l
def nEs:List TExpr->Nat
 |[]=>0
 |x::l=>nE x+nEs l
end
mutual
def nS:TStmt->Nat
 |⟨_,_,_,x,_,t,o⟩=>1+nE x+nSs t+nSs o
def nSs:List TStmt->Nat
 |[]=>0
 |x::l=>nS x+nSs l
end
def nT:List TThread->Nat
 |[]=>0
 |t::l=>1+nSs t.body+nT l
theorem nE_eq (x:TExpr):nE x=1+nEs x.args:=by cases x; simp[nE]
theorem nS_eq (x:TStmt):nS x=1+nE x.expr+nSs x.then_+nSs x.else_:=by cases x; simp[nS]
theorem za00 (x:TExpr) (d:Int):evE x d=.e x d::evEs x.args (d+1):=by cases x; simp[evE]
theorem zavo (x:TStmt) (d:Int):evS x d=.s x d::((if zaa8 x.expr then evE x.expr 1 else [])++(evSs x.then_ (d+1)++evSs x.else_ (d+1))):=by cases x; simp[evS]
theorem zafa:∀ l:List TExpr,l.length<=nEs l
 |[]=>by simp[nEs]
 |x::l=>by have:=zafa l; have:=nE_eq x; simp only[nEs,qe]; omega
theorem zacj:∀ l:List TStmt,l.length<=nSs l
 |[]=>by simp[nSs]
 |x::l=>by have:=zacj l; have:=nS_eq x; simp only[nSs,qe]; omega
theorem zafk:∀ l:List TThread,l.length<=nT l
 |[]=>by simp[nT]
 |x::l=>by have:=zafk l; simp only[nT,qe]; omega
theorem zae8:∀ {l:List TExpr} {x:TExpr},x∈l->nE x<=nEs l
 |y::l,x,h=>by
  simp only[nEs];cases h with
  |head=>omega
  |tail _ h=>have:=zae8 h; omega
theorem zaed:∀ {l:List TStmt} {x:TStmt},x∈l->nS x<=nSs l
 |y::l,x,h=>by
  simp only[nSs];cases h with
  |head=>omega
  |tail _ h=>have:=zaed h; omega
theorem zafn:∀ {l:List TThread} {x:TThread},x∈l->nSs x.body<nT l
 |y::l,x,h=>by
  simp only[nT];cases h with
  |head=>omega
  |tail _ h=>have:=zafn h; omega
theorem zapk : ∀ (l : List TExpr) (d : Int), evEs l d = l.flatMap fun x => evE x d
 |[],d=>by simp[evEs]
 |x::l,d=>by simp[evEs,zapk l d]
theorem zao3 : ∀ (l : List TStmt) (d : Int), evSs l d = l.flatMap fun x => evS x d
 |[],d=>by simp[evSs]
 |x::l,d=>by simp[evSs,zao3 l d]
theorem zadq {α β σ : Type} (f : α -> List β) (g : σ -> β -> Option σ) : ∀ (l : List α) (s : σ), (l.flatMap f).foldlM g s = l.foldlM (fun s x => (f x).foldlM g s) s
 |[],s=>rfl
 |x::l,s=>by
  rw[List.flatMap_cons,List.foldlM_append,List.foldlM_cons];congr 1;funext s';exact zadq f g l s'
theorem zac2 {α β:Type} (o:Option (α×β)):(o.bind fun y=>some (y.1,y.2))=o:=by cases o<;>rfl
theorem zaaw (x:TExpr):TExpr.mk x.kind x.num x.name x.args=x:=by cases x; rfl
theorem zag7 (x:TStmt):TStmt.mk x.kind x.reg x.name (TExpr.mk x.expr.kind x.expr.num x.expr.name x.expr.args) x.count x.then_ x.else_=x:=by
 obtain ⟨k,r,n,⟨_,_,_,_⟩,c,t,o⟩:=x;rfl
theorem zajs (x:TStmt):TStmt.mk x.kind x.reg x.name x.expr x.count x.then_ x.else_=x:=by cases x; rfl
theorem zafd (x:TProg):TProg.mk x.cells x.mutexes x.threads=x:=by cases x; rfl
def atEv {σ:Type} (g:TStmt->Int->σ->Option σ) (h:TExpr->Int->σ->Option σ) (s:σ):Ev->Option σ
 |.s x d=>g x d s
 |.e x d=>h x d s
structure WalksE {σ:Type} (h:TExpr->Int->σ->Option σ) (F:Nat->TExpr->Int->σ->Option σ):Prop where
 step:∀ n x d s,(d:Int)+1<=4611686018427387904->-4611686018427387904<=d->x.args.length<=4611686018427387904->F (n+1) x d s=(h x d s).bind fun s'=>x.args.foldlM (fun s y=>F n y (d+1) s) s'
theorem zarr {σ:Type} {g:TStmt->Int->σ->Option σ} {h:TExpr->Int->σ->Option σ} {F:Nat->TExpr->Int->σ->Option σ} (hW:WalksE h F) :
  ∀ (k n:Nat) (x:TExpr) (d:Int) (s:σ),nE x<=k->k<n->0<=d->d+k<=1000000000000000000->F n x d s=(evE x d).foldlM (atEv g h) s:=by
 intro k;induction k with
 |zero=>intro n x d s hk; have:=nE_eq x; omega
 |succ k ih=>
  intro n x d s hk hn h0 hd;obtain ⟨n,rfl⟩:∃ q,n=q+1:=⟨n-1,by omega⟩;have hx:=nE_eq x;have hl:=zafa x.args;rw[hW.step n x d s (by omega) (by omega) (by omega),za00,List.foldlM_cons];show _=(h x d s).bind _;congr 1;funext s';rw[zapk,zadq];have:∀ (l:List TExpr) (s:σ),(∀ y∈l,nE y<=k)->l.foldlM (fun s y=>F n y (d+1) s) s=l.foldlM (fun s y=>(evE y (d+1)).foldlM (atEv g h) s) s:=by
   intro l;induction l with
   |nil=>intro s _; rfl
   |cons y l ihl=>
    intro s hy;rw[List.foldlM_cons,List.foldlM_cons,ih n y (d+1) s (hy y (by simp)) (by omega) (by omega) (by omega)];congr 1;funext s';exact ihl s' (fun z hz=>hy z (by simp[hz]))
  exact this _ _ (fun y hy=>by have:=zae8 hy; omega)
structure WalksS {σ:Type} (g:TStmt->Int->σ->Option σ) (E:TExpr->Int->σ->Option σ) (F:Nat->List TStmt->Int->σ->Option σ):Prop where
 step:∀ n l d s,(d:Int)+1<=4611686018427387904->-4611686018427387904<=d->l.length<=4611686018427387904->F (n+1) l d s=l.foldlM (fun s x=>(g x d s).bind fun s1=>(if zaa8 x.expr then E x.expr 1 s1 else some s1).bind fun s2=>(F n x.then_ (d+1) s2).bind fun s3=>F n x.else_ (d+1) s3) s
theorem zaqr {σ:Type} {g:TStmt->Int->σ->Option σ} {h:TExpr->Int->σ->Option σ} {E:TExpr->Int->σ->Option σ} {F:Nat->List TStmt->Int->σ->Option σ}
  (hE:∀ x s,nE x<=100000000000000000->E x 1 s=(evE x 1).foldlM (atEv g h) s) (hW:WalksS g E F) :
  ∀ (k n:Nat) (l:List TStmt) (d:Int) (s:σ),nSs l<=k->k<n->0<=d->d+k<=100000000000000000->F n l d s=(evSs l d).foldlM (atEv g h) s:=by
 intro k;induction k with
 |zero=>
  intro n l d s hk hn h0 hd;obtain ⟨n,rfl⟩:∃ q,n=q+1:=⟨n-1,by omega⟩;have hl:=zacj l;obtain rfl:l=[]:=qt (by omega);rw[hW.step n [] d s (by omega) (by omega) (by simp)];simp[evSs]
 |succ k ih=>
  intro n l d s hk hn h0 hd;obtain ⟨n,rfl⟩:∃ q,n=q+1:=⟨n-1,by omega⟩;have hl:=zacj l;rw[hW.step n l d s (by omega) (by omega) (by omega),zao3,zadq]
  have : ∀ (l : List TStmt) (s : σ), (∀ y ∈ l, nS y <= k + 1) -> l.foldlM (fun s x => (g x d s).bind fun s1 => (if zaa8 x.expr then E x.expr 1 s1 else some s1).bind fun s2 => (F n x.then_ (d + 1) s2).bind fun s3 => F n x.else_ (d + 1) s3) s =
    l.foldlM (fun s y=>(evS y d).foldlM (atEv g h) s) s:=by
   intro l;induction l with
   |nil=>intro s _; rfl
   |cons y l ihl=>
    intro s hy;have hy1:=hy y (by simp);have hy2:=nS_eq y;rw[List.foldlM_cons,List.foldlM_cons];have e:∀ s,((g y d s).bind fun s1=>(if zaa8 y.expr then E y.expr 1 s1 else some s1).bind fun s2=>(F n y.then_ (d+1) s2).bind fun s3=>F n y.else_ (d+1) s3)=(evS y d).foldlM (atEv g h) s:=by
     intro s;rw[zavo,List.foldlM_cons];show _=(g y d s).bind _;congr 1;funext s1;rw[List.foldlM_append];have e1:(if zaa8 y.expr then E y.expr 1 s1 else some s1)=(if zaa8 y.expr then evE y.expr 1 else []).foldlM (atEv g h) s1:=by
      split
      ·exact hE _ _ (by omega)
      ·rfl
     rw[e1];congr 1;funext s2;rw[List.foldlM_append];rw[ih n y.then_ (d+1) s2 (by omega) (by omega) (by omega) (by omega)];congr 1;funext s3;exact ih n y.else_ (d+1) s3 (by omega) (by omega) (by omega) (by omega)
    rw[e];congr 1;funext s';exact ihl s' (fun z hz=>hy z (by simp[hz]))
  exact this _ _ (fun y hy=>by have:=zaed hy; omega)
end Lift.A3
namespace Lift.A4
open Go Go.RowKit Lift Go.IntWalk Lift.Fn Lift.A1P Lift.A3
abbrev RE:=(Int×Int×(List UInt8)×(List Token)×(List TExpr))⊕(Wrong)
abbrev R5:=((List Token)×Int×Int×(List UInt8)×Int×Int×(List UInt8)×(List TExpr))⊕(Wrong)
def okE (e:TExpr) (z:List Token):RE:=.inl (e.kind,e.num,e.name,z,e.args)
def ok5 (e:TExpr) (z:List Token):R5:=.inl (z,0,0,[],e.kind,e.num,e.name,e.args)
def hitc (s:List UInt8) (c:Tk):Bool:=(bif c.1==4 then true else c.1==3)&&c.2.1==s
theorem hit_c (s:List UInt8) (t:Token):hitc s (core t)=hit s t:=rfl
def LV:List (List ((List UInt8)×Int)):=
 [[([124,124],17)],[([38,38],16)],[([61,61],10),([33,61],11),([60],12),([60,61],13),([62],14),([62,61],15)],[([43],5),([45],6)],[([42],7),([47],8),([37],9)]]
theorem zaoj:qas=some LV:=by
 rw[qas,zaaa];decide +kernel
def opAt (l:Nat) (c:Tk):Option Int:=if c.1=3 then (LV[l]?).bind (fun M=>mapAt M c.2.1) else none
inductive DE:Nat->TExpr->List Tk->Prop
 |up {l:Nat} {x:TExpr} {c:List Tk}:l<5->DE (l+1) x c->DE l x c
 |bin {l:Nat} {x y:TExpr} {c d:List Tk} {o:Tk} {k:Int}:l<5->l≠2->DE l x c->opAt l o=some k->DE (l+1) y d->DE l ⟨k,0,[],[x,y]⟩ (c++o::d)
 |cmp {x y:TExpr} {c d:List Tk} {o:Tk} {k:Int}:DE 3 x c->opAt 2 o=some k->DE 3 y d->DE 2 ⟨k,0,[],[x,y]⟩ (c++o::d)
 |neg {x:TExpr} {c:List Tk} {o:Tk}:hitc [45] o=true->DE 5 x c->DE 5 ⟨3,0,[],[x]⟩ (o::c)
 |not {x:TExpr} {c:List Tk} {o:Tk}:hitc [33] o=true->DE 5 x c->DE 5 ⟨4,0,[],[x]⟩ (o::c)
 |par {x:TExpr} {c:List Tk} {o q:Tk}:hitc [40] o=true->hitc [41] q=true->DE 0 x c->DE 5 x (o::(c++[q]))
 |num {o:Tk}:o.1=2->DE 5 ⟨1,o.2.2,[],[]⟩ [o]
 |reg {o:Tk}:o.1=1->DE 5 ⟨2,0,o.2.1,[]⟩ [o]
theorem zavm (k n:Int) (s:List UInt8) (x:TExpr):nE (TExpr.mk k n s [x])=1+nE x:=by simp[nE,nEs]
theorem zawx (k n:Int) (s:List UInt8) (x y:TExpr):nE (TExpr.mk k n s [x,y])=1+nE x+nE y:=by simp only[nE,nEs]; omega
theorem zajd (k n:Int) (s:List UInt8):nE (TExpr.mk k n s [])=1:=by simp[nE,nEs]
theorem DE.size {l:Nat} {x:TExpr} {c:List Tk} (h:DE l x c):0<c.length/\nE x<=c.length:=by
 induction h with
 |up _ _ ih=>exact ih
 |bin _ _ _ _ _ ih1 ih2=>rw[zawx,qc,qe]; omega
 |cmp _ _ _ ih1 ih2=>rw[zawx,qc,qe]; omega
 |neg _ _ ih=>rw[zavm,qe]; omega
 |not _ _ ih=>rw[zavm,qe]; omega
 |par _ _ _ ih=>simp only[qe,qc,qr]; omega
 |num _=>rw[zajd]; simp
 |reg _=>rw[zajd]; simp
theorem za0h (E : Int -> List Token -> Option RE) (N : Nat) (hE : ∀ l, Ends l -> l.length < N -> GoodT (fun z => E 0 z) okE .inr (DE 0) l) :
  ∀ (f:Nat) (ts:List Token),Ends ts->ts.length<f->ts.length<=N->GoodT (fun z=>qaF_i E f z) okE .inr (DE 5) ts:=by
 intro f;induction f with
 |zero=>intro ts _ h; omega
 |succ f ih=>
  intro ts he hf hN;show GoodT (fun z=>qaF_f (qaF_i E f) E z) okE .inr (DE 5) ts;unfold qaF_f;refine zabn he (fun o r ho hr hl=>?_) (fun _=>?_)
  ·dsimp only[cond_true];refine zaa5 (ih r hr (by omega) (by omega)) (fun x n t1 c h1 h2=>?_) (fun w=>rfl);dsimp only[okE];refine zaat okE .inr (TExpr.mk 3 0 [] [TExpr.mk x.kind x.num x.name x.args]) h1 ?_;rw[zaaw,List.append_nil];exact .neg ho c
  dsimp only[cond_false];refine zabn he (fun o r ho hr hl=>?_) (fun _=>?_)
  ·dsimp only[cond_true];refine zaa5 (ih r hr (by omega) (by omega)) (fun x n t1 c h1 h2=>?_) (fun w=>rfl);dsimp only[okE];refine zaat okE .inr (TExpr.mk 4 0 [] [TExpr.mk x.kind x.num x.name x.args]) h1 ?_;rw[zaaw,List.append_nil];exact .not ho c
  dsimp only[cond_false];refine zabn he (fun o r ho hr hl=>?_) (fun _=>?_)
  ·dsimp only[cond_true];refine zaa5 (hE r hr (by omega)) (fun x n t1 c h1 h2=>?_) (fun w=>rfl);dsimp only[okE];refine zabm h1 (fun q r2 hq h3 h4=>?_) (fun w=>rfl);dsimp only;refine zaat okE .inr x h3 ?_;exact .par ho hq c
  dsimp only[cond_false];refine zaem he (fun _ _ _ _ _ _=>rfl) fun t r e=>?_
  subst e;dsimp only;by_cases hk:t.kind=2
  ·have e2:(t.kind==2)=true:=by simp[hk]
   simp only[e2,qg];refine zanb he (by rw[hk]; decide) (fun _ _ _ _ _ _=>rfl) fun hr=>?_
   dsimp only;refine zaat okE .inr (TExpr.mk 1 t.num [] []) hr ?_;exact DE.num (o:=core t) hk
  ·have e2:(t.kind==2)=false:=by simp[hk]
   simp only[e2,cond_false];refine zacw he (fun x r2 hx h3 h4=>?_) (fun w=>rfl);dsimp only;refine zaat okE .inr (TExpr.mk 2 0 x.text []) h3 ?_;exact DE.reg (o:=core x) hx
def pre (l:Nat) (e:TExpr) (c:List Tk):Prop:=if l=2 then DE 3 e c else DE l e c
theorem za0f (E:Int->List Token->Option RE) (N:Nat) (lvl:Int) (h0:0<=lvl) (h5:lvl<5)
  (hE:∀ l,Ends l->l.length<N->GoodT (fun z=>E (lvl+1) z) okE .inr (DE (lvl.toNat+1)) l) :
  ∀ (f:Nat) (ts:List Token) (e:TExpr),Ends ts->ts.length<f->ts.length<=N ->
   GoodT (fun z=>qau_i5 E f lvl z 0 0 [] e.kind e.num e.name LV e.args) ok5 .inr (fun x n=>∀ c,pre lvl.toNat e c->DE lvl.toNat x (c++n)) ts:=by
 intro f;induction f with
 |zero=>intro ts _ _ h; omega
 |succ f ih=>
  intro ts e he hf hN;show GoodT (fun z=>qau_t5 E (qau_i5 E f) lvl z 0 0 [] e.kind e.num e.name LV e.args) ok5 .inr (fun x n=>∀ c,pre lvl.toNat e c->DE lvl.toNat x (c++n)) ts;have stay:∀ c,pre lvl.toNat e c->DE lvl.toNat e (c++[]):=by
   intro c hc;rw[xj];unfold pre at hc;split at hc
   ·rename_i h2; rw[h2]; exact .up (by omega) hc
   ·exact hc
  unfold qau_t5;refine zaem he (fun _ _ _ _ _ _=>rfl) fun t r e1=>?_
  subst e1;dsimp only;by_cases hk:t.kind=3
  ·have e2:(t.kind==3)=true:=by simp[hk]
   have e3:(decide ((0:Int)<=lvl)&&decide (lvl<(↑(List.length LV):Int)))=true:=by simp only[qd,qj]; exact ⟨h0,h5⟩
   have hlt:lvl.toNat<LV.length:=by show lvl.toNat<5; omega
   have hop:∀ k,mapAt LV[lvl.toNat] t.text=some k->opAt lvl.toNat (core t)=some k:=by
    intro k hk2;unfold opAt;rw[if_pos (show (core t).1=3 from hk),xp hlt,qa];exact hk2
   simp only[e2,e3,qg];rw[xp hlt];generalize LV[lvl.toNat]=M at hop;simp only[qa];refine zaem he (fun _ _ _ _ _ _=>rfl) fun t2 r2 e1=>?_
   simp only[List.cons.injEq] at e1;obtain ⟨rfl,rfl⟩:=e1;dsimp only;cases hm:mapAt M t.text with
   |none=>
    simp only[Option.isSome_none,xd,qg];exact zaat ok5 .inr e he stay
   |some op=>
    have hop:=hop op hm;simp only[Option.isSome_some,xf,qf,Option.getD_some];refine zanb he (by rw[hk]; decide) (fun _ _ _ _ _ _=>rfl) fun hr=>?_
    dsimp only;have hw:IntKind.wrap IntKind.i64 (lvl+(1:Int))=lvl+1:=i64_in _ (by omega);rw[hw];simp only[List.length_cons] at hf hN;refine zaa5 (hE r hr (by omega)) (fun x n t1 c h1 h2=>?_) (fun w=>rfl);dsimp only[okE];by_cases h22:lvl=2
    ·have e4:(lvl==2)=true:=by simp[h22]
     simp only[e4,qg];refine zaat ok5 .inr (TExpr.mk op 0 [] [TExpr.mk e.kind e.num e.name e.args,TExpr.mk x.kind x.num x.name x.args]) h1 ?_;rw[zaaw,zaaw,xj];intro c0 hc0;subst h22;exact .cmp hc0 hop c
    ·have e4:(lvl==2)=false:=by simp[h22]
     simp only[e4,qf];refine zacc (ih t1 (TExpr.mk op 0 [] [TExpr.mk e.kind e.num e.name e.args,TExpr.mk x.kind x.num x.name x.args]) h1 (by omega) (by omega)) fun y m _ hy=>?_
     rw[zaaw,zaaw] at hy;intro c0 hc0;have hne:lvl.toNat≠2:=by omega
     have:=hy (c0++core t::n) (by
      unfold pre at hc0 ⊢;rw[if_neg hne] at hc0 ⊢;exact .bin (by omega) hne hc0 hop c)
     simpa using this
  ·have e2:(t.kind==3)=false:=by simp[hk]
   simp only[e2,qf];exact zaat ok5 .inr e he stay
theorem za0o:∀ (n:Nat) (lvl:Int) (ts:List Token),Ends ts->0<=lvl->lvl<=5->10*ts.length+(5-lvl).toNat<n->ts.length<1000000 ->
  GoodT (fun z=>qau_i n lvl z) okE .inr (DE lvl.toNat) ts:=by
 intro n;induction n with
 |zero=>intro lvl ts _ _ _ h; omega
 |succ n ih=>
  intro lvl ts he h0 h5 hn hb;show GoodT (fun z=>qau_f (qau_i n) lvl z) okE .inr (DE lvl.toNat) ts;unfold qau_f;rw[zaoj];simp only[qa];by_cases h:lvl=5
  ·have e1:(lvl==(↑(List.length LV):Int))=true:=by rw[h]; rfl
   simp only[e1,cond_true];rw[qaF,zaaa];refine zaa5 (za0h (qau_i n) ts.length (fun l h1 h2=>ih 0 l h1 (by omega) (by omega) (by simp only[h] at hn; omega) (by omega)) fuel ts he (by unfold fuel; omega) (Nat.le_refl _)) (fun x n t1 c h1 h2=>?_) (fun w=>rfl);dsimp only[okE];refine zaat okE .inr x h1 ?_;rw[List.append_nil,h];exact c
  ·have e1:(lvl==(↑(List.length LV):Int))=false:=by
    have:(↑(List.length LV):Int)=5:=rfl;rw[this]; simpa using h
   have hw:IntKind.wrap IntKind.i64 (lvl+(1:Int))=lvl+1:=i64_in _ (by omega);have hlt:(lvl+1).toNat=lvl.toNat+1:=by omega
   simp only[e1,cond_false];rw[hw];refine zaa5 (ih (lvl+1) ts he (by omega) (by omega) (by omega) hb) (fun x m t1 c h1 h2=>?_) (fun w=>rfl);dsimp only[okE];rw[hlt] at c;have hc:=c.size.1;rw[qau_l5,zaaa];refine zaa5 (za0f (qau_i n) (ts.length) lvl h0 (by omega) (fun l h1 h2=>by rw[<-hlt]; exact ih (lvl+1) l h1 (by omega) (by omega) (by omega) (by omega)) fuel t1 x h1 (by unfold fuel; omega) (by omega)) (fun y k t2 c2 h3 h4=>?_) (fun w=>rfl);dsimp only[ok5];refine zaat okE .inr y h3 ?_;rw[List.append_nil];refine c2 m ?_;unfold pre;split
   ·rename_i h2; rw[h2] at c; exact c
   ·exact .up (by omega) c
theorem exprT (ts:List Token) (he:Ends ts) (hb:ts.length<1000000):GoodT (fun z=>qau 0 z) okE .inr (DE 0) ts:=by
 rw[qau,zaaa];exact za0o fuel 0 ts he (by omega) (by omega) (by unfold fuel; omega) hb
abbrev RS:=(Int×(List UInt8)×(List UInt8)×Int×Int×(List UInt8)×Int×(List Token)×(List TExpr)×(List TStmt)×(List TStmt))⊕(Wrong)
abbrev RB:=((List Token)×(List TStmt))⊕(Wrong)
abbrev R4:=((List Token)×Int×(List UInt8)×(List UInt8)×Int×Int×(List UInt8)×Int)
def okS (s:TStmt) (z:List Token):RS:=.inl (s.kind,s.reg,s.name,s.expr.kind,s.expr.num,s.expr.name,s.count,z,s.expr.args,s.then_,s.else_)
def okB (b:List TStmt) (z:List Token):RB:=.inl (z,b)
abbrev four:List (List UInt8):=[[(108:UInt8),(111:UInt8),(99:UInt8),(107:UInt8)],[(117:UInt8),(110:UInt8),(108:UInt8),(111:UInt8),(99:UInt8),(107:UInt8)],[(115:UInt8),(116:UInt8),(97:UInt8),(114:UInt8),(116:UInt8)],[(106:UInt8),(111:UInt8),(105:UInt8),(110:UInt8)]]
abbrev zE:TExpr:=⟨0,0,[],[]⟩
abbrev wAdd:List UInt8:=[97,100,100]
abbrev zat0:List UInt8:=[97,115,115,101,114,116]
abbrev wIf:List UInt8:=[105,102]
abbrev wElse:List UInt8:=[101,108,115,101]
abbrev zata:List UInt8:=[114,101,112,101,97,116]
mutual
inductive DS:TStmt->List Tk->Prop
 |set {a o q:Tk} {x:TExpr} {c:List Tk}:a.1=1->hitc [58,61] o=true->DE 0 x c->hitc [59] q=true->DS ⟨1,a.2.1,[],x,0,[],[]⟩ (a::o::(c++[q]))
 |write {a o q:Tk} {x:TExpr} {c:List Tk}:a.1=1->hitc [61] o=true->DE 0 x c->hitc [59] q=true->DS ⟨3,[],a.2.1,x,0,[],[]⟩ (a::o::(c++[q]))
 |add {a o w b q:Tk} {x:TExpr} {c:List Tk}:a.1=1->hitc [60,45] o=true->hitc wAdd w=true->b.1=1->DE 0 x c->hitc [59] q=true->DS ⟨4,a.2.1,b.2.1,x,0,[],[]⟩ (a::o::w::b::(c++[q]))
 |read {a o b q:Tk}:a.1=1->hitc [60,45] o=true->b.1=1->hitc [59] q=true->DS ⟨2,a.2.1,b.2.1,zE,0,[],[]⟩ [a,o,b,q]
 |about {i:Nat} {s:List UInt8} {w b q:Tk}:four[i]? = some s->hitc s w=true->b.1=1->hitc [59] q=true->DS ⟨5+(i:Int),[],b.2.1,zE,0,[],[]⟩ [w,b,q]
 |assert {w q:Tk} {x:TExpr} {c:List Tk}:hitc zat0 w=true->DE 0 x c->hitc [59] q=true->DS ⟨9,[],[],x,0,[],[]⟩ (w::(c++[q]))
 |if_ {w o q:Tk} {x:TExpr} {c d:List Tk} {b:List TStmt}:hitc wIf w=true->DE 0 x c->hitc [123] o=true->DL b d->hitc [125] q=true->DS ⟨10,[],[],x,0,b,[]⟩ (w::(c++o::(d++[q])))
 |ife {w o q v o2 q2:Tk} {x:TExpr} {c d d2:List Tk} {b b2:List TStmt}:hitc wIf w=true->DE 0 x c->hitc [123] o=true->DL b d->hitc [125] q=true->hitc wElse v=true->hitc [123] o2=true->DL b2 d2->hitc [125] q2=true ->
   DS ⟨10,[],[],x,0,b,b2⟩ (w::(c++o::(d++q::v::o2::(d2++[q2]))))
 |rep {w n o q:Tk} {d:List Tk} {b:List TStmt}:hitc zata w=true->n.1=2->n.2.2<=1000->hitc [123] o=true->DL b d->hitc [125] q=true->DS ⟨11,[],[],zE,n.2.2,b,[]⟩ (w::n::o::(d++[q]))
inductive DL:List TStmt->List Tk->Prop
 |nil:DL [] []
 |cons {s:TStmt} {b:List TStmt} {c d:List Tk}:DS s c->DL b d->DL (s::b) (c++d)
end
def DB (b:List TStmt) (c:List Tk):Prop:=∃ o d q,hitc [123] o=true/\DL b d/\hitc [125] q=true/\c=o::(d++[q])
theorem nS_mk (k:Int) (a b:List UInt8) (e:TExpr) (c:Int) (t o:List TStmt):nS (TStmt.mk k a b e c t o)=1+nE e+nSs t+nSs o:=by simp[nS]
theorem zaek:nSs []=0:=by simp[nSs]
theorem zaxy (x:TStmt) (b:List TStmt):nSs (x::b)=nS x+nSs b:=by simp[nSs]
mutual
theorem DS.size:∀ {s:TStmt} {c:List Tk},DS s c->0<c.length/\nS s<=2*c.length
 |_,_,.set _ _ hx _=>by have:=hx.size; rw[nS_mk,zaek]; simp only[qe,qc,qr]; omega
 |_,_,.write _ _ hx _=>by have:=hx.size; rw[nS_mk,zaek]; simp only[qe,qc,qr]; omega
 |_,_,.add _ _ _ _ hx _=>by have:=hx.size; rw[nS_mk,zaek]; simp only[qe,qc,qr]; omega
 |_,_,.read _ _ _ _=>by rw[nS_mk,zaek,zajd]; simp only[qe,qr]; omega
 |_,_,.about _ _ _ _=>by rw[nS_mk,zaek,zajd]; simp only[qe,qr]; omega
 |_,_,.assert _ hx _=>by have:=hx.size; rw[nS_mk,zaek]; simp only[qe,qc,qr]; omega
 |_,_,.if_ _ hx _ hb _=>by have:=hx.size; have:=hb.size; rw[nS_mk,zaek]; simp only[qe,qc,qr]; omega
 |_,_,.ife _ hx _ hb _ _ _ hb2 _=>by have:=hx.size; have:=hb.size; have:=hb2.size; rw[nS_mk]; simp only[qe,qc,qr]; omega
 |_,_,.rep _ _ _ _ hb _=>by have:=hb.size; rw[nS_mk,zaek,zajd]; simp only[qe,qc,qr]; omega
theorem DL.size:∀ {b:List TStmt} {c:List Tk},DL b c->nSs b<=2*c.length
 |_,_,.nil=>by rw[zaek]; omega
 |_,_,.cons hs hb=>by have:=hs.size; have:=hb.size; rw[zaxy,qc]; omega
end
theorem za0b (ts:List Token) (he:Ends ts) (hb:ts.length<1000000):GoodT (fun z=>qaz z) okS .inr DS ts:=by
 rw[qaz,zaaa];unfold qaz_f;refine zacw he (fun a r ha h1 h2=>?_) (fun w=>rfl);dsimp only;refine zabn h1 (fun o r2 ho h3 h4=>?_) (fun _=>?_)
 ·dsimp only[cond_true];refine zaa5 (exprT r2 h3 (by omega)) (fun x n t1 c h5 h6=>?_) (fun w=>rfl);dsimp only[okE];refine zabm h5 (fun q r3 hq h7 h8=>?_) (fun w=>rfl);dsimp only;refine zaat okS .inr ⟨1,a.text,[],x,0,[],[]⟩ h7 ?_;exact DS.set (a:=core a) (o:=core o) (q:=core q) ha ho c hq
 dsimp only[cond_false];refine zabn h1 (fun o r2 ho h3 h4=>?_) (fun _=>?_)
 ·dsimp only[cond_true];refine zaa5 (exprT r2 h3 (by omega)) (fun x n t1 c h5 h6=>?_) (fun w=>rfl);dsimp only[okE];refine zabm h5 (fun q r3 hq h7 h8=>?_) (fun w=>rfl);dsimp only;refine zaat okS .inr ⟨3,[],a.text,x,0,[],[]⟩ h7 ?_;exact DS.write (a:=core a) (o:=core o) (q:=core q) ha ho c hq
 dsimp only[cond_false];refine zabm h1 (fun o r2 ho h3 h4=>?_) (fun w=>rfl);dsimp only;refine zabn h3 (fun w r3 hw h5 h6=>?_) (fun _=>?_)
 ·dsimp only[cond_true];refine zacw h5 (fun b r4 hb2 h7 h8=>?_) (fun w=>rfl);dsimp only;refine zaa5 (exprT r4 h7 (by omega)) (fun x n t1 c h9 h10=>?_) (fun w=>rfl);dsimp only[okE];refine zabm h9 (fun q r5 hq h11 h12=>?_) (fun w=>rfl);dsimp only;refine zaat okS .inr ⟨4,a.text,b.text,x,0,[],[]⟩ h11 ?_;exact DS.add (a:=core a) (o:=core o) (w:=core w) (b:=core b) (q:=core q) ha ho hw hb2 c hq
 dsimp only[cond_false];refine zacw h3 (fun b r4 hb2 h7 h8=>?_) (fun w=>rfl);dsimp only;refine zabm h7 (fun q r5 hq h9 h10=>?_) (fun w=>rfl);dsimp only;refine zaat okS .inr ⟨2,a.text,b.text,zE,0,[],[]⟩ h9 ?_;exact DS.read (a:=core a) (o:=core o) (b:=core b) (q:=core q) ha ho hb2 hq
def okO (s:Option (Int×List UInt8)) (z:List Token):R4⊕((Wrong)⊕((List Token)×Int×(List UInt8)×(List UInt8)×Int×Int×(List UInt8)×Int)):=
 match s with
 |some k=>.inl (z,k.1,[],k.2,0,0,[],0)
 |none=>.inr (.inr (z,0,[],[],0,0,[],0))
def badO (w:Wrong):R4⊕((Wrong)⊕((List Token)×Int×(List UInt8)×(List UInt8)×Int×Int×(List UInt8)×Int)):=.inr (.inl w)
def CO (s:Option (Int×List UInt8)) (n:List Tk):Prop:=match s with|some k=>DS ⟨k.1,[],k.2,zE,0,[],[]⟩ n|none=>n=[]
theorem fourT (B:List Token->Option RB):∀ (k f:Nat) (i:Nat) (ts:List Token),i+k=4->k<f->Ends ts ->
  GoodT (fun z=>qaC_i4 B f 4 i z 0 [] [] 0 0 [] 0 four) okO badO CO ts:=by
 intro k;induction k with
 |zero=>
  intro f i ts hi hf he;obtain ⟨f,rfl⟩:∃ q,f=q+1:=⟨f-1,by omega⟩;show GoodT (fun z=>qaC_t4 B (qaC_i4 B f) 4 i z 0 [] [] 0 0 [] 0 four) okO badO CO ts;unfold qaC_t4;have e1:decide ((i:Int)<4)=false:=by simp only[ya]; omega
  simp only[e1,qf];exact zaat okO badO none he rfl
 |succ k ih=>
  intro f i ts hi hf he;obtain ⟨f,rfl⟩:∃ q,f=q+1:=⟨f-1,by omega⟩;show GoodT (fun z=>qaC_t4 B (qaC_i4 B f) 4 i z 0 [] [] 0 0 [] 0 four) okO badO CO ts;unfold qaC_t4;have e1:decide ((i:Int)<4)=true:=by simp only[qj]; omega
  have e2:(decide ((0:Int)<=(i:Int))&&decide ((i:Int)<(↑(List.length four):Int)))=true:=by
   simp only[qd,qj];exact ⟨by omega,by show (i:Int)<4; omega⟩
  have hlt:(i:Int).toNat<four.length:=by show (i:Int).toNat<4; omega
  have hgw:four[i]? = some (four[(i:Int).toNat]):=by
   rw[<-xp hlt,xt]
  simp only[e1,e2,qg];rw[xp hlt];generalize four[(i:Int).toNat]=word at hgw;simp only[qa];refine zabn he (fun w r hw h1 h2=>?_) (fun _=>?_)
  ·dsimp only[cond_true];refine zacw h1 (fun a r2 ha h3 h4=>?_) (fun w=>rfl);dsimp only;refine zabm h3 (fun q r3 hq h5 h6=>?_) (fun w=>rfl);dsimp only;refine zaat okO badO (some (IntKind.wrap IntKind.i64 ((5:Int)+i),a.text)) h5 ?_;rw[i64_in ((5:Int)+i) (by omega)];exact DS.about (w:=core w) (b:=core a) (q:=core q) hgw hw ha hq
  ·dsimp only[cond_false];rw[i64_in ((i:Int)+1) (by omega)];exact ih f (i+1) ts (by omega) (by omega) he
theorem DB.size {b:List TStmt} {c:List Tk} (h:DB b c):0<c.length/\nSs b<=2*c.length:=by
 obtain ⟨o,d,q,_,h,_,rfl⟩:=h;have:=h.size;simp only[qe,qc,qr];omega
theorem stmtT (B : List Token -> Option RB) (N : Nat) (hB : ∀ l, Ends l -> l.length < N -> GoodT (fun z => B z) okB .inr DB l) (ts : List Token) (he : Ends ts) (hN : ts.length <= N) (hb : ts.length < 1000000) :
  GoodT (fun z=>qaC B z) okS .inr DS ts:=by
 rw[qaC,zaaa];unfold qaC_f;refine zaem he (fun _ _ _ _ _ _=>rfl) fun t r e=>?_
 subst e;dsimp only;by_cases hk:t.kind=1
 ·have e2:(t.kind==1)=true:=by simp[hk]
  simp only[e2,cond_true];refine zaa5 (za0b (t::r) he hb) (fun x n t1 c h1 h2=>?_) (fun w=>rfl);dsimp only[okS];refine zaat okS .inr x h1 ?_;rw[List.append_nil];exact c
 have e2:(t.kind==1)=false:=by simp[hk]
 simp only[e2,qf];rw[qaC_l4,zaaa];refine zaa5 (fourT B 4 fuel 0 (t::r) rfl (by unfold fuel; omega) he) (fun o n t1 c h1 h2=>?_) (fun w=>rfl);cases o with
 |some p=>
  dsimp only[okO];refine zaat okS .inr ⟨p.1,[],p.2,zE,0,[],[]⟩ h1 ?_;rw[List.append_nil];exact c
 |none=>
  have hn:n=[]:=c;subst hn;simp only[List.length_nil] at h2;dsimp only[okO];refine zabn h1 (fun w r2 hw h3 h4=>?_) (fun _=>?_)
  ·dsimp only[cond_true];refine zaa5 (exprT r2 h3 (by omega)) (fun x m t2 c2 h5 h6=>?_) (fun w=>rfl);dsimp only[okE];refine zabm h5 (fun q r3 hq h7 h8=>?_) (fun w=>rfl);dsimp only;refine zaat okS .inr ⟨9,[],[],x,0,[],[]⟩ h7 ?_;exact DS.assert (w:=core w) (q:=core q) hw c2 hq
  dsimp only[cond_false];refine zabn h1 (fun w r2 hw h3 h4=>?_) (fun _=>?_)
  ·dsimp only[cond_true];refine zaa5 (exprT r2 h3 (by omega)) (fun x m t2 c2 h5 h6=>?_) (fun w=>rfl);dsimp only[okE];refine zaa5 (hB t2 h5 (by omega)) (fun b m2 t3 c3 h7 h8=>?_) (fun w=>rfl);dsimp only[okB];obtain ⟨o1,d1,q1,g1,g2,g3,rfl⟩:=c3;refine zabn h7 (fun v r4 hv h9 h10=>?_) (fun _=>?_)
   ·dsimp only[cond_true];refine zaa5 (hB r4 h9 (by simp only[List.length_cons] at h6 h8; omega)) (fun b2 m3 t4 c4 h11 h12=>?_) (fun w=>rfl);dsimp only[okB];refine zaat okS .inr ⟨10,[],[],x,0,b,b2⟩ h11 ?_;obtain ⟨o2,d2,q2,k1,k2,k3,rfl⟩:=c4;simpa using DS.ife (w:=core w) (v:=core v) hw c2 g1 g2 g3 hv k1 k2 k3
   ·dsimp only[cond_false];refine zaat okS .inr ⟨10,[],[],x,0,b,[]⟩ h7 ?_;simpa using DS.if_ (w:=core w) hw c2 g1 g2 g3
  dsimp only[cond_false];refine zabm h1 (fun w r2 hw h3 h4=>?_) (fun w=>rfl);dsimp only;refine zaem h3 (fun _ _ _ _ _ _=>rfl) fun t5 r5 e=>?_
  subst e;dsimp only;have tail:¬ (t5.kind=2/\t5.num>1000)->GoodT (fun z=>Option.bind (qay 2 z) fun y24=>
         match y24 with
         |.inl y25=>
          Option.bind (B (Prod.snd y25)) fun y26=>
          match y26 with
          |.inl y27=>
           some (.inl (((11:Int)),([]),([]),((0:Int)),((0:Int)),([]),(Token.num (Prod.fst y25)),(Prod.fst y27),([]),(Prod.snd y27),([])))
          |.inr y27=>
           some (.inr (y27))
         |.inr y25=>
          some (.inr (y25))) okS .inr (fun x n=>DS x ([]++core w::n)) (t5::r5):=by
   intro hno;obtain ⟨t5',r5',e5⟩:∃ a b,t5::r5=a::b:=⟨_,_,rfl⟩;by_cases h6:t5.kind=2
   ·have hle:t5.num<=1000:=by
     have:¬ t5.num>1000:=fun h=>hno ⟨h6,h⟩
     omega
    refine zaej (Q:=fun z=>Option.bind (B z) fun y26=>
          match y26 with
          |.inl y27=>
           some (.inl (((11:Int)),([]),([]),((0:Int)),((0:Int)),([]),t5.num,(Prod.fst y27),([]),(Prod.snd y27),([])))
          |.inr y27=>
           some (.inr (y27))) ?_ (fun t' z ht _=>?_)
    ·refine zaa5 (hB r5 (zafe h3 (by rw[h6]; decide)) (by simp only[List.length_cons] at h4; omega)) (fun b m2 t3 c3 h9 h10=>?_) (fun w=>rfl);dsimp only[okB];refine zaat okS .inr ⟨11,[],[],zE,t5.num,b,[]⟩ h9 ?_;obtain ⟨o1,d1,q1,g1,g2,g3,rfl⟩:=c3;have h9:=DS.rep (w:=core w) (n:=core t5) hw h6 hle g1 g2 g3;simp only[List.nil_append,List.append_nil];exact h9
    ·show Option.bind (qay 2 (t'::z)) _=_;simp only[core,xa] at ht;have e:(t'.kind != 2)=false:=by rw[ht.1,h6]; rfl
     rw[of1,e,cond_false,Option.bind_some];dsimp only;rw[ht.2.2]
   ·refine zagk h3 fun t' z ht=>?_
    show Option.bind (qay 2 (t'::z)) _=_;simp only[core,xa] at ht;have e:(t'.kind != 2)=true:=by rw[ht.1]; simpa using h6
    rw[of1,e,qg,qa]
  by_cases h6:t5.kind=2
  ·have e6:(t5.kind==2)=true:=by simp[h6]
   simp only[e6,qg,qa];by_cases h7:t5.num>(1000:Int)
   ·simp only[qm h7,qg];exact zaqq h3 (fun w=>rfl)
   ·simp only[qn h7,qf];exact tail (fun hh=>h7 hh.2)
  ·have e6:(t5.kind==2)=false:=by simp[h6]
   simp only[e6,qf,qa];exact tail (fun hh=>h6 hh.1)
abbrev R3:=(Wrong)⊕((List Token)×(List TStmt))
def ok3 (b:List TStmt) (z:List Token):R3:=.inr (z,b)
theorem zazh (B : List Token -> Option RB) (N : Nat) (hB : ∀ l, Ends l -> l.length < N -> GoodT (fun z => B z) okB .inr DB l) (hN : N < 1000000) :
  ∀ (f:Nat) (ts:List Token) (b:List TStmt),Ends ts->ts.length<f->ts.length<=N->b.length+ts.length<1000000 ->
   GoodT (fun z=>qat_i3 B f z b) ok3 .inl (fun x n=>∃ d m q,hitc [125] q=true/\DL d m/\x=b++d/\n=m++[q]) ts:=by
 intro f;induction f with
 |zero=>intro ts _ _ h; omega
 |succ f ih=>
  intro ts b he hf hl hb;show GoodT (fun z=>qat_t3 B (qat_i3 B f) z b) ok3 .inl (fun x n=>∃ d m q,hitc [125] q=true/\DL d m/\x=b++d/\n=m++[q]) ts;unfold qat_t3;refine zabn he (fun q r hq h1 h2=>?_) (fun _=>?_)
  ·simp only[xf,qf];exact zaat ok3 .inl b h1 ⟨[],[],core q,hq,.nil,(xj _).symm,rfl⟩
  ·simp only[Bool.not_false,cond_true];refine zaa5 (stmtT B N hB ts he hl (by omega)) (fun s n t1 c h1 h2=>?_) (fun w=>rfl);dsimp only[okS];have hc:=c.size.1;have e1:decide ((List.length b+List.length [s])*(152:Nat)<=(140737488355328:Nat)/\List.length b+List.length [s]<=(9223372036854775807:Nat))=true:=by
    simp only[qj,qe,qr];omega
   rw[zag7];simp only[e1,qg];refine zacc (ih t1 (b++[s]) h1 (by omega) (by omega) (by rw[qc,qe,qr]; omega)) fun y m _ hy=>?_
   obtain ⟨d,m',q,g1,g2,rfl,rfl⟩:=hy;exact ⟨s::d,n++m',q,g1,.cons c g2,by simp,by simp⟩
theorem zay1:∀ (n:Nat) (ts:List Token),Ends ts->ts.length<n->ts.length<1000000->GoodT (fun z=>qat_i n z) okB .inr DB ts:=by
 intro n;induction n with
 |zero=>intro ts _ h; omega
 |succ n ih=>
  intro ts he hn hb;show GoodT (fun z=>qat_f (qat_i n) z) okB .inr DB ts;unfold qat_f;refine zabm he (fun o r ho h1 h2=>?_) (fun w=>rfl);dsimp only;rw[qat_l3,zaaa];refine zaa5 (zazh (qat_i n) r.length (fun l h3 h4=>ih l h3 (by omega) (by omega)) (by omega) fuel r [] h1 (by unfold fuel; omega) (Nat.le_refl _) (by simp only[List.length_nil]; omega)) (fun x m t1 c h3 h4=>?_) (fun w=>rfl);dsimp only[ok3];refine zaat okB .inr x h3 ?_;obtain ⟨d,m',q,g1,g2,rfl,rfl⟩:=c;exact ⟨core o,m',q,ho,g2,g1,by simp⟩
theorem za0r (ts:List Token) (he:Ends ts) (hb:ts.length<1000000):GoodT (fun z=>qat z) okB .inr DB ts:=by
 rw[qat,zaaa];exact zay1 fuel ts he (by unfold fuel; omega) hb
abbrev R2:=(Wrong)⊕((List Token)×(List TCell)×(List (List UInt8))×(List TThread))
abbrev RP:=((List Token)×(List TCell)×(List (List UInt8))×(List TThread))⊕(Wrong)
def ok2 (p:TProg) (z:List Token):R2:=.inr (z,p.cells,p.mutexes,p.threads)
def okP (p:TProg) (z:List Token):RP:=.inl (z,p.cells,p.mutexes,p.threads)
abbrev wCell:List UInt8:=[99,101,108,108]
abbrev zaru:List UInt8:=[109,117,116,101,120]
abbrev zaor:List UInt8:=[116,104,114,101,97,100]
inductive DC:TCell->List Tk->Prop
 |bare {w a q:Tk}:hitc wCell w=true->a.1=1->hitc [59] q=true->DC ⟨a.2.1,0⟩ [w,a,q]
 |pos {w a o n q:Tk}:hitc wCell w=true->a.1=1->hitc [61] o=true->hitc [45] n=false->n.1=2->hitc [59] q=true->DC ⟨a.2.1,n.2.2⟩ [w,a,o,n,q]
 |ngt {w a o m n q:Tk}:hitc wCell w=true->a.1=1->hitc [61] o=true->hitc [45] m=true->n.1=2->hitc [59] q=true->DC ⟨a.2.1,IntKind.wrap .i64 (0-n.2.2)⟩ [w,a,o,m,n,q]
inductive DP:TProg->List Tk->Prop
 |nil:DP ⟨[],[],[]⟩ []
 |cell {p:TProg} {c d:List Tk} {x:TCell}:DP p c->DC x d->DP ⟨p.cells++[x],p.mutexes,p.threads⟩ (c++d)
 |mutex {p:TProg} {c:List Tk} {w a q:Tk}:DP p c->hitc zaru w=true->a.1=1->hitc [59] q=true->DP ⟨p.cells,p.mutexes++[a.2.1],p.threads⟩ (c++[w,a,q])
 |thread {p:TProg} {c d:List Tk} {w a:Tk} {b:List TStmt}:DP p c->hitc zaor w=true->a.1=1->DB b d->DP ⟨p.cells,p.mutexes,p.threads++[⟨a.2.1,b⟩]⟩ (c++w::a::d)
theorem zave:∀ (a b:List TThread),nT (a++b)=nT a+nT b
 |[],b=>by simp[nT]
 |x::a,b=>by simp only[qp,nT,zave a b]; omega
theorem zaz6 (x:TThread):nT [x]=1+nSs x.body:=by simp[nT]
theorem DC.len {x:TCell} {c:List Tk} (h:DC x c):3<=c.length:=by cases h<;>simp
theorem DP.size {p:TProg} {c:List Tk} (h:DP p c):p.cells.length<=c.length/\p.mutexes.length<=c.length/\p.threads.length<=c.length/\nT p.threads<=2*c.length:=by
 induction h with
 |nil=>simp[nT]
 |cell _ hd ih=>have:=hd.len; simp only[qc,qe,qr]; omega
 |mutex _ _ _ _ ih=>simp only[qc,qe,qr]; omega
 |thread _ _ _ hb ih=>have:=hb.size; simp only[qc,qe,qr,zave,zaz6]; omega
theorem zav5:∀ (f:Nat) (ts:List Token) (q:TProg),Ends ts->ts.length<f->ts.length+q.cells.length<1000000->ts.length+q.mutexes.length<1000000->ts.length+q.threads.length<1000000 ->
  GoodT (fun z=>qaA_i2 f z q.cells q.mutexes q.threads) ok2 .inl (fun x n=>∀ c,DP q c->DP x (c++n)) ts:=by
 intro f;induction f with
 |zero=>intro ts q _ h; omega
 |succ f ih=>
  intro ts q he hf hc hm ht;show GoodT (fun z=>qaA_t2 (qaA_i2 f) z q.cells q.mutexes q.threads) ok2 .inl (fun x n=>∀ c,DP q c->DP x (c++n)) ts;unfold qaA_t2;have g1:∀ c:TCell,decide ((List.length q.cells+List.length [c])*(24:Nat)<=(140737488355328:Nat)/\List.length q.cells+List.length [c]<=(9223372036854775807:Nat))=true:=by
   intro c;simp only[qj,qe,qr];omega
  have g2:∀ a:List UInt8,decide ((List.length q.mutexes+List.length [a])*(16:Nat)<=(140737488355328:Nat)/\List.length q.mutexes+List.length [a]<=(9223372036854775807:Nat))=true:=by
   intro c;simp only[qj,qe,qr];omega
  have g3:∀ x:TThread,decide ((List.length q.threads+List.length [x])*(40:Nat)<=(140737488355328:Nat)/\List.length q.threads+List.length [x]<=(9223372036854775807:Nat))=true:=by
   intro c;simp only[qj,qe,qr];omega
  simp only[g1,g2,g3,qg]
  have cell:∀ (r:List Token) (c:TCell) (k:List Tk),Ends r->r.length+k.length=ts.length->DC c k ->
    GoodT (fun z=>qaA_i2 f z (q.cells++[c]) q.mutexes q.threads) ok2 .inl (fun x n=>∀ c0,DP q c0->DP x (c0++(k++n))) r:=by
   intro r c k h1 h2 h3;have hk:=h3.len;refine zacc (ih r ⟨q.cells++[c],q.mutexes,q.threads⟩ h1 (by omega) (by simp only[qc,qe,qr]; omega) (by show _+q.mutexes.length<_; omega) (by show _+q.threads.length<_; omega)) fun y m _ hy=>?_
   intro c0 hc0;have:=hy (c0++k) (.cell hc0 h3);simpa using this
  refine zaem he (fun _ _ _ _ _ _=>rfl) fun t r e=>?_
  subst e;dsimp only;by_cases hk:t.kind=5
  ·have e2:(t.kind != 5)=false:=by simp[hk]
   simp only[e2,qf];exact zaat ok2 .inl q he (fun c hc=>by rw[xj]; exact hc)
  have e2:(t.kind != 5)=true:=by simp[hk]
  simp only[e2,qg];refine zabn he (fun w r1 hw h1 h2=>?_) (fun _=>?_)
  ·dsimp only[cond_true];refine zacw h1 (fun a r2 ha h3 h4=>?_) (fun w=>rfl);dsimp only;refine zabn h3 (fun o r3 ho h5 h6=>?_) (fun _=>?_)
   ·dsimp only[cond_true];have num:∀ (ngt:Bool) (r4:List Token) (k:List Tk),Ends r4->r4.length+k.length=(t::r).length->(∀ n z:Token,n.kind=2->hit [59] z=true->(∀ y,r4=n::y->DC ⟨a.text,bif ngt then IntKind.wrap IntKind.i64 ((0:Int)-n.num) else n.num⟩ (k++[core n,core z])))->GoodT (fun z=>Option.bind (qay 2 z) fun y6=>
      match y6 with
      |.inl y7=>
       bif ngt then
        Option.bind (qaG [(59:UInt8)] (Prod.snd y7)) fun y8=>
        match y8 with
        |.inl y9=>
         qaA_i2 f y9 (q.cells++[TCell.mk a.text (IntKind.wrap IntKind.i64 ((0:Int)-Token.num (Prod.fst y7)))]) q.mutexes q.threads
        |.inr y9=>
         some (.inl (y9))
       else
        Option.bind (qaG [(59:UInt8)] (Prod.snd y7)) fun y10=>
        match y10 with
        |.inl y11=>
         qaA_i2 f y11 (q.cells++[TCell.mk a.text (Token.num (Prod.fst y7))]) q.mutexes q.threads
        |.inr y11=>
         some (.inl (y11))
      |.inr y7=>
       some (.inl (y7))) ok2 .inl (fun x n=>∀ c,DP q c->DP x (c++(k++n))) r4:=by
     intro ngt r4 k h7 h8 h9;obtain ⟨n,y,rfl⟩:=zaf0 h7;by_cases hn:n.kind=2
     ·refine zaej (Q := fun z => bif ngt then
        Option.bind (qaG [(59:UInt8)] z) fun y8=>
        match y8 with
        |.inl y9=>
         qaA_i2 f y9 (q.cells++[TCell.mk a.text (IntKind.wrap IntKind.i64 ((0:Int)-n.num))]) q.mutexes q.threads
        |.inr y9=>
         some (.inl (y9))
       else
        Option.bind (qaG [(59:UInt8)] z) fun y10=>
        match y10 with
        |.inl y11=>
         qaA_i2 f y11 (q.cells++[TCell.mk a.text n.num]) q.mutexes q.threads
        |.inr y11=>
         some (.inl (y11))) ?_ (fun t' z ht _=>?_)
      ·have h10:=zafe h7 (by rw[hn]; decide);cases ngt with
       |true=>
        dsimp only[cond_true];refine zabm h10 (fun q7 r7 hq h12 h13=>?_) (fun w=>rfl);dsimp only;have hd:=h9 n q7 hn hq y rfl;refine zacc (cell r7 _ _ h12 (by simp only[List.length_append,List.length_cons,List.length_nil] at h8 ⊢; omega) hd) fun y m _ hy=>?_
        intro c hc;have:=hy c hc;simpa using this
       |false=>
        dsimp only[cond_false];refine zabm h10 (fun q7 r7 hq h12 h13=>?_) (fun w=>rfl);dsimp only;have hd:=h9 n q7 hn hq y rfl;refine zacc (cell r7 _ _ h12 (by simp only[List.length_append,List.length_cons,List.length_nil] at h8 ⊢; omega) hd) fun y m _ hy=>?_
        intro c hc;have:=hy c hc;simpa using this
      ·show Option.bind (qay 2 (t'::z)) _=_;simp only[core,xa] at ht;have e:(t'.kind != 2)=false:=by rw[ht.1,hn]; rfl
       rw[of1,e,cond_false,Option.bind_some];dsimp only;rw[ht.2.2]
     ·refine zagk h7 fun t' z ht=>?_
      show Option.bind (qay 2 (t'::z)) _=_;simp only[core,xa] at ht;have e:(t'.kind != 2)=true:=by rw[ht.1]; simpa using hn
      rw[of1,e,qg,qa]
    refine zabn h5 (fun m r4 hm2 h7 h8=>?_) (fun hno=>?_)
    ·have:=num true r4 [core w,core a,core o,core m] h7 (by simp only[qe,qr] at h2 ⊢; omega) (fun n z hn hz y _=>DC.ngt (w:=core w) (a:=core a) (o:=core o) (m:=core m) (n:=core n) (q:=core z) hw ha ho hm2 hn hz);exact zacc this fun y m _ hy=>by intro c hc; have:=hy c hc; simpa using this
    ·have:=num false r3 [core w,core a,core o] h5 (by simp only[qe,qr] at h2 ⊢; omega) (fun n z hn hz y hy=>DC.pos (w:=core w) (a:=core a) (o:=core o) (n:=core n) (q:=core z) hw ha ho (hno n y hy) hn hz);exact zacc this fun y m _ hy=>by intro c hc; have:=hy c hc; simpa using this
   ·dsimp only[cond_false];refine zabm h3 (fun z r3 hz h5 h6=>?_) (fun w=>rfl);dsimp only;exact zacc (cell r3 _ _ h5 (by simp only[List.length_cons,List.length_nil] at h2 ⊢; omega) (DC.bare (w:=core w) (a:=core a) (q:=core z) hw ha hz)) fun y m _ hy=>by intro c hc; have:=hy c hc; simpa using this
  dsimp only[cond_false];refine zabn he (fun w r1 hw h1 h2=>?_) (fun _=>?_)
  ·dsimp only[cond_true];refine zacw h1 (fun a r2 ha h3 h4=>?_) (fun w=>rfl);dsimp only;refine zabm h3 (fun z r3 hz h5 h6=>?_) (fun w=>rfl);dsimp only;refine zacc (ih r3 ⟨q.cells,q.mutexes++[a.text],q.threads⟩ h5 (by omega) (by show _+q.cells.length<_; omega) (by simp only[List.length_append,List.length_cons,List.length_nil]; omega) (by show _+q.threads.length<_; omega)) fun y m _ hy=>?_
   intro c hc;have:=hy _ (DP.mutex (w:=core w) (a:=core a) (q:=core z) hc hw ha hz);simpa using this
  dsimp only[cond_false];refine zabm he (fun w r1 hw h1 h2=>?_) (fun w=>rfl);dsimp only;refine zacw h1 (fun a r2 ha h3 h4=>?_) (fun w=>rfl);dsimp only;refine zaa5 (za0r r2 h3 (by omega)) (fun b n t1 c h5 h6=>?_) (fun w=>rfl);dsimp only[okB];refine zacc (ih t1 ⟨q.cells,q.mutexes,q.threads++[TThread.mk a.text b]⟩ h5 (by omega) (by show _+q.cells.length<_; omega) (by show _+q.mutexes.length<_; omega) (by simp only[List.length_append,List.length_cons,List.length_nil]; omega)) fun y m _ hy=>?_
  intro c0 hc0;have:=hy _ (DP.thread (w:=core w) (a:=core a) hc0 hw ha c);simpa using this
theorem zaro (ts:List Token) (he:Ends ts) (hb:ts.length<1000000):GoodT (fun z=>qaA z) okP .inr DP ts:=by
 rw[qaA,zaaa];unfold qaA_f;rw[qaA_l2,zaaa];refine zaa5 (zav5 fuel ts ⟨[],[],[]⟩ he (by unfold fuel; omega) (by simp only[List.length_nil]; omega) (by simp only[List.length_nil]; omega) (by simp only[List.length_nil]; omega)) (fun x n t1 c h1 h2=>?_) (fun w=>rfl);dsimp only[ok2];refine zaat okP .inr x h1 ?_;have:=c [] .nil;simpa using this
theorem zakw {α β:Type} [BEq α] [LawfulBEq α] {l:List (α×β)} {x:α} {v:β} (h:mapAt l x=some v):(x,v)∈l:=by
 unfold mapAt at h;cases hf:l.find? (fun y=>y.1==x) with
 |none=>rw[hf] at h; cases h
 |some y=>
  rw[hf] at h;simp only[Option.map_some,qk] at h;have h1:=List.find?_some hf;have h2:=List.mem_of_find?_eq_some hf;simp only[beq_iff_eq] at h1;obtain ⟨a,b⟩:=y;simp only at h1 h;rw[<-h1,<-h];exact h2
theorem LV_41:∀ j,j<5->(LV[j]?).bind (fun M=>mapAt M [41])=none:=by decide +kernel
theorem zawe:∀ i,i<5->∀ j,j<5->i≠j->∀ y∈(LV[i]?).getD [],mapAt ((LV[j]?).getD []) y.1=none:=by decide +kernel
theorem zazk {i j:Nat} {o:Tk} {k:Int} (h:opAt i o=some k) (hi:i<5) (hj:j<5) (hne:i≠j):opAt j o=none:=by
 unfold opAt at h ⊢;split at h
 ·rename_i h3;rw[if_pos h3];have h5:LV.length=5:=rfl;rw[xp (by omega),qa] at h ⊢;have:=zawe i hi j hj hne (o.2.1,k) (by rw[xp (by omega)]; exact zakw h);rw[xp (by omega)] at this;exact this
 ·cases h
def stopE (l:Nat) (o:Tk):Prop:=∀ j,l<=j->j<5->opAt j o=none
theorem stopE.monoS {l m:Nat} {o:Tk} (h:stopE l o) (hl:l<=m):stopE m o:=fun j h1 h2=>h j (by omega) h2
theorem zatf {l:Nat} {o:Tk} {k:Int} (h:opAt l o=some k) (hl:l<5):stopE (l+1) o:=fun j h1 h2=>zazk h hl h2 (by omega)
theorem zadc {u:List Token} {c d:List Tk} {o:Tk} (h:u.map core=c++o::d):∃ u1 t u2,u=u1++t::u2/\u1.map core=c/\core t=o/\u2.map core=d:=by
 obtain ⟨u1,u',rfl,h1,h2⟩:=List.map_eq_append_iff.1 h;obtain ⟨t,u2,rfl,h3,h4⟩:=qh.1 h2;exact ⟨u1,t,u2,rfl,h1,h3,h4⟩
def finE:R5->Option RE:=fun y5=>match y5 with
 |.inl y6=>some (.inl ((Prod.fst (Prod.snd (Prod.snd (Prod.snd (Prod.snd y6))))),(Prod.fst (Prod.snd (Prod.snd (Prod.snd (Prod.snd (Prod.snd y6)))))),(Prod.fst (Prod.snd (Prod.snd (Prod.snd (Prod.snd (Prod.snd (Prod.snd y6))))))),(Prod.fst y6),(Prod.snd (Prod.snd (Prod.snd (Prod.snd (Prod.snd (Prod.snd (Prod.snd y6)))))))))
 |.inr y6=>some (.inr (y6))
noncomputable abbrev loopE (E:Int->List Token->Option RE) (f:Nat) (l:Nat) (z:List Token) (x:TExpr):Option R5:=qau_i5 E f (l:Int) z 0 0 [] x.kind x.num x.name LV x.args
theorem zawy {E:Int->List Token->Option RE} {f l:Nat} {t:Token} {r:List Token} {x:TExpr} (h:opAt l (core t)=none) (hl:l<5):loopE E (f+1) l (t::r) x=some (ok5 x (t::r)):=by
 show qau_t5 E (qau_i5 E f) (l:Int) (t::r) 0 0 [] x.kind x.num x.name LV x.args=_;unfold qau_t5;rw[next1,Option.bind_some];dsimp only;by_cases hk:t.kind=3
 ·have e2:(t.kind==3)=true:=by simp[hk]
  have e3:(decide ((0:Int)<=(l:Int))&&decide ((l:Int)<(↑(List.length LV):Int)))=true:=by
   simp only[qd,qj];exact ⟨by omega,by show (l:Int)<5; omega⟩
  have hlt:(l:Int).toNat<LV.length:=by show (l:Int).toNat<5; omega
  have hm:mapAt LV[(l:Int).toNat] t.text=none:=by
   unfold opAt at h;rw[if_pos (show (core t).1=3 from hk)] at h;have:LV[l]? = some LV[(l:Int).toNat]:=by rw[<-xp hlt,xt]
   rw[this,qa] at h;exact h
  simp only[e2,e3,cond_true];rw[List.getElem?_eq_getElem hlt,Option.bind_some,next1,Option.bind_some];dsimp only;rw[hm];rfl
 ·have e2:(t.kind==3)=false:=by simp[hk]
  simp only[e2,qf];rfl
theorem zatb {E:Int->List Token->Option RE} {f l:Nat} {t:Token} {r z:List Token} {x y:TExpr} {k:Int} (h:opAt l (core t)=some k) (hl:l<5) (hE:E ((l+1:Nat):Int) r=some (okE y z)) :
  loopE E (f+1) l (t::r) x=if l=2 then some (ok5 ⟨k,0,[],[x,y]⟩ z) else loopE E f l z ⟨k,0,[],[x,y]⟩:=by
 show qau_t5 E (qau_i5 E f) (l:Int) (t::r) 0 0 [] x.kind x.num x.name LV x.args=_;unfold qau_t5;rw[next1,Option.bind_some];dsimp only;have hk:t.kind=3:=by
  unfold opAt at h;split at h
  ·assumption
  ·cases h
 have e2:(t.kind==3)=true:=by simp[hk]
 have e3:(decide ((0:Int)<=(l:Int))&&decide ((l:Int)<(↑(List.length LV):Int)))=true:=by
  simp only[qd,qj];exact ⟨by omega,by show (l:Int)<5; omega⟩
 have hlt:(l:Int).toNat<LV.length:=by show (l:Int).toNat<5; omega
 have hm:mapAt LV[(l:Int).toNat] t.text=some k:=by
  unfold opAt at h;rw[if_pos (show (core t).1=3 from hk)] at h;have:LV[l]? = some LV[(l:Int).toNat]:=by rw[<-xp hlt,xt]
  rw[this,qa] at h;exact h
 have hw:IntKind.wrap IntKind.i64 ((l:Int)+(1:Int))=((l+1:Nat):Int):=by rw[i64_in _ (by omega)]; omega
 simp only[e2,e3,cond_true];rw[List.getElem?_eq_getElem hlt,Option.bind_some,next1,Option.bind_some];dsimp only;rw[hm];simp only[Option.isSome_some,Bool.not_true,cond_false,Option.getD_some];rw[take1,Option.bind_some];dsimp only;rw[hw,hE,Option.bind_some];dsimp only[okE];rw[zaaw,zaaw];by_cases h2:l=2
 ·subst h2;rfl
 ·have e4:((l:Int)==2)=false:=by simp; omega
  rw[if_neg h2,e4,qf]
theorem zaqz {n l:Nat} {ts z:List Token} {x:TExpr} (hl:l<5) (h:qau_i n ((l+1:Nat):Int) ts=some (okE x z)) :
  qau_i (n+1) (l:Int) ts=Option.bind (loopE (qau_i n) fuel l z x) finE:=by
 show qau_f (qau_i n) (l:Int) ts=_;unfold qau_f;rw[zaoj];simp only[qa];have e1:((l:Int)==(↑(List.length LV):Int))=false:=by
  have:(↑(List.length LV):Int)=5:=rfl;rw[this]; simp; omega
 have hw:IntKind.wrap IntKind.i64 ((l:Int)+(1:Int))=((l+1:Nat):Int):=by rw[i64_in _ (by omega)]; omega
 rw[e1,cond_false,hw,h,Option.bind_some];dsimp only[okE];rw[qau_l5,zaaa];rfl
theorem zawt {n:Nat} {ts z:List Token} {x:TExpr} (h:qaF_i (qau_i n) fuel ts=some (okE x z)) :
  qau_i (n+1) ((5:Nat):Int) ts=some (okE x z):=by
 show qau_f (qau_i n) ((5:Nat):Int) ts=_;unfold qau_f;rw[zaoj];simp only[qa];have e1:(((5:Nat):Int)==(↑(List.length LV):Int))=true:=by rfl
 rw[e1,qg,qaF,zaaa,h,qa];rfl
theorem zaw6 (x:TExpr) (z:List Token):finE (ok5 x z)=some (okE x z):=rfl
theorem zaak {s s':List UInt8} {t:Token} (h:hit s t=true) (hne:s≠s'):hit s' t=false:=by
 unfold hit at h ⊢;simp only[qd,beq_iff_eq] at h;rw[h.2];have:(s==s')=false:=by simpa using hne
 rw[this,Bool.and_false]
theorem zah1 {s:List UInt8} {t:Token} (h:t.kind≠3) (h':t.kind≠4):hit s t=false:=by
 unfold hit;have e1:(t.kind==4)=false:=by simpa using h'
 have e2:(t.kind==3)=false:=by simpa using h
 rw[e1,e2];rfl
structure Comp (l:Nat) (x:TExpr) (c:List Tk):Prop where
 lv:l<=5
 op:l<5->l≠2->∀ u t r n,u.map core=c->10*(u++t::r).length+(5-l)<=n->(u++t::r).length<1000000->stopE (l+1) (core t)->∃ i,i<=u.length/\qau_i (n+1) (l:Int) (u++t::r)=Option.bind (loopE (qau_i n) (fuel-i) l (t::r) x) finE
 un:l=5->∀ u t r n f,u.map core=c->10*(u++t::r).length<=n->(u++t::r).length<1000000->u.length<=f->qaF_i (qau_i n) f (u++t::r)=some (okE x (t::r))
 all:∀ u t r n,u.map core=c->10*(u++t::r).length+(5-l)<n->(u++t::r).length<1000000->stopE l (core t)->qau_i n (l:Int) (u++t::r)=some (okE x (t::r))
theorem zao1 {l:Nat} {x:TExpr} {c:List Tk} (hl:l<5) (op:∀ u t r n,u.map core=c->10*(u++t::r).length+(5-l)<=n->(u++t::r).length<1000000->stopE (l+1) (core t)->∃ i,i<=u.length/\qau_i (n+1) (l:Int) (u++t::r)=Option.bind (loopE (qau_i n) (fuel-i) l (t::r) x) finE) :
  ∀ u t r n,u.map core=c->10*(u++t::r).length+(5-l)<n->(u++t::r).length<1000000->stopE l (core t)->qau_i n (l:Int) (u++t::r)=some (okE x (t::r)):=by
 intro u t r n hu hn hb hs;obtain ⟨n,rfl⟩:∃ q,n=q+1:=⟨n-1,by omega⟩;obtain ⟨i,hi,h⟩:=op u t r n hu (by omega) hb (hs.monoS (by omega));rw[h];have hlen:u.length<1000000:=by simp only[qc] at hb; omega
 obtain ⟨f,hf⟩:∃ f,fuel-i=f+1:=⟨fuel-i-1,by unfold fuel; omega⟩;rw[hf,zawy (hs l (qz _) hl) hl,qa,zaw6]
theorem zagf {x:TExpr} {c:List Tk} (un:∀ u t r n f,u.map core=c->10*(u++t::r).length<=n->(u++t::r).length<1000000->u.length<=f->qaF_i (qau_i n) f (u++t::r)=some (okE x (t::r))) :
  ∀ u t r n,u.map core=c->10*(u++t::r).length+(5-5)<n->(u++t::r).length<1000000->stopE 5 (core t)->qau_i n ((5:Nat):Int) (u++t::r)=some (okE x (t::r)):=by
 intro u t r n hu hn hb hs;obtain ⟨n,rfl⟩:∃ q,n=q+1:=⟨n-1,by omega⟩;have hlen:u.length<1000000:=by simp only[qc] at hb; omega
 exact zawt (un u t r n fuel hu (by omega) hb (by unfold fuel; omega))
theorem DE.compE {l:Nat} {x:TExpr} {c:List Tk} (h:DE l x c):Comp l x c:=by
 induction h with
 |@up l x c hl hd ih=>
  have op:∀ u t r n,u.map core=c->10*(u++t::r).length+(5-l)<=n->(u++t::r).length<1000000->stopE (l+1) (core t)->∃ i,i<=u.length/\qau_i (n+1) (l:Int) (u++t::r)=Option.bind (loopE (qau_i n) (fuel-i) l (t::r) x) finE:=by
   intro u t r n hu hn hb hs;exact ⟨0,Nat.zero_le _,zaqz hl (ih.all u t r n hu (by omega) hb hs)⟩
  exact ⟨by omega,fun _ _=>op,fun h=>by omega,zao1 hl op⟩
 |@bin l x y c d o k hl h2 hx ho hy ihx ihy=>
  have op:∀ u t r n,u.map core=c++o::d->10*(u++t::r).length+(5-l)<=n->(u++t::r).length<1000000->stopE (l+1) (core t)->∃ i,i<=u.length/\qau_i (n+1) (l:Int) (u++t::r)=Option.bind (loopE (qau_i n) (fuel-i) l (t::r) ⟨k,0,[],[x,y]⟩) finE:=by
   intro u t r n hu hn hb hs;obtain ⟨u1,t1,u2,rfl,e1,rfl,e3⟩:=zadc hu;have hlen:(u1++t1::u2++t::r)=u1++t1::(u2++t::r):=by simp
   rw[hlen] at hn hb ⊢;obtain ⟨i,hi,h⟩:=ihx.op hl h2 u1 t1 (u2++t::r) n e1 hn hb (zatf ho hl);have hsub:(u2++t::r).length<(u1++t1::(u2++t::r)).length:=by simp only[qc,qe]; omega
   have hb2:u1.length<1000000:=by simp only[qc] at hb; omega
   have hy2:=ihy.all u2 t r n e3 (by omega) (by omega) hs;refine ⟨i+1,by simp only[qc,qe]; omega,?_⟩;rw[h];obtain ⟨f,hf⟩:∃ f,fuel-i=f+1:=⟨fuel-i-1,by unfold fuel; omega⟩;rw[hf,zatb ho hl hy2,if_neg h2];have:fuel-(i+1)=f:=by omega
   rw[this]
  exact ⟨by omega,fun _ _=>op,fun h=>by omega,zao1 hl op⟩
 |@cmp x y c d o k hx ho hy ihx ihy=>
  refine ⟨by omega,fun _ h=>absurd rfl h,fun h=>by omega,?_⟩;intro u t r n hu hn hb hs;obtain ⟨n,rfl⟩:∃ q,n=q+1:=⟨n-1,by omega⟩;obtain ⟨u1,t1,u2,rfl,e1,rfl,e3⟩:=zadc hu;have hlen:(u1++t1::u2++t::r)=u1++t1::(u2++t::r):=by simp
  rw[hlen] at hn hb ⊢;have hsub:(u2++t::r).length<(u1++t1::(u2++t::r)).length:=by simp only[qc,qe]; omega
  rw[zaqz (by omega) (ihx.all u1 t1 (u2++t::r) n e1 (by omega) hb (zatf ho (by omega)))];have hy2:=ihy.all u2 t r n e3 (by omega) (by omega) (hs.monoS (by omega));have hf:fuel=(fuel-1)+1:=rfl;rw[hf,zatb ho (by omega) hy2,if_pos rfl,qa,zaw6]
 |@neg x c o ho hd ih=>
  have un:∀ u t r n f,u.map core=o::c->10*(u++t::r).length<=n->(u++t::r).length<1000000->u.length<=f->qaF_i (qau_i n) f (u++t::r)=some (okE ⟨3,0,[],[x]⟩ (t::r)):=by
   intro u t r n f hu hn hb hf;obtain ⟨t1,u1,rfl,rfl,e2⟩:=List.map_eq_cons_iff.1 hu;simp only[List.cons_append,List.length_cons] at hn hb hf ⊢;obtain ⟨f,rfl⟩:∃ q,f=q+1:=⟨f-1,by omega⟩;have h1:=ih.un rfl u1 t r n f e2 (by omega) (by omega) (by omega);show qaF_f (qaF_i (qau_i n) f) (qau_i n) (t1::(u1++t::r))=_;unfold qaF_f;rw[hit_c] at ho;rw[took1,ho,Option.bind_some];dsimp only[cond_true];rw[h1,Option.bind_some];dsimp only[okE];rw[zaaw]
  exact ⟨by omega,fun h=>by omega,fun _=>un,zagf un⟩
 |@not x c o ho hd ih=>
  have un:∀ u t r n f,u.map core=o::c->10*(u++t::r).length<=n->(u++t::r).length<1000000->u.length<=f->qaF_i (qau_i n) f (u++t::r)=some (okE ⟨4,0,[],[x]⟩ (t::r)):=by
   intro u t r n f hu hn hb hf;obtain ⟨t1,u1,rfl,rfl,e2⟩:=List.map_eq_cons_iff.1 hu;simp only[List.cons_append,List.length_cons] at hn hb hf ⊢;obtain ⟨f,rfl⟩:∃ q,f=q+1:=⟨f-1,by omega⟩;have h1:=ih.un rfl u1 t r n f e2 (by omega) (by omega) (by omega);show qaF_f (qaF_i (qau_i n) f) (qau_i n) (t1::(u1++t::r))=_;unfold qaF_f;rw[hit_c] at ho;rw[took1,zaak ho (by decide),Option.bind_some];dsimp only[cond_false];rw[took1,ho,Option.bind_some];dsimp only[cond_true];rw[h1,Option.bind_some];dsimp only[okE];rw[zaaw]
  exact ⟨by omega,fun h=>by omega,fun _=>un,zagf un⟩
 |@par x c o q ho hq hd ih=>
  have un:∀ u t r n f,u.map core=o::(c++[q])->10*(u++t::r).length<=n->(u++t::r).length<1000000->u.length<=f->qaF_i (qau_i n) f (u++t::r)=some (okE x (t::r)):=by
   intro u t r n f hu hn hb hf;obtain ⟨t1,u1,rfl,rfl,e2⟩:=qh.1 hu;obtain ⟨u2,t2,u3,rfl,e3,rfl,e4⟩:=zadc e2;have:u3=[]:=by simpa using e4
   subst this;simp only[qp,qe,qq,qu,qc] at hn hb hf ⊢;obtain ⟨f,rfl⟩:∃ q,f=q+1:=⟨f-1,by omega⟩;have hst:stopE 0 (core t2):=by
    intro j _ hj;rw[hit_c] at hq;unfold opAt;split
    ·have ht:t2.text=[41]:=by
      unfold hit at hq;simp only[qd,beq_iff_eq] at hq;exact hq.2
     show (LV[j]?).bind (fun M=>mapAt M t2.text)=none;rw[ht];exact LV_41 j hj
    ·rfl
   have h1:=ih.all u2 t2 (t::r) n e3 (by simp only[List.length_append,List.length_cons]; omega) (by simp only[List.length_append,List.length_cons]; omega) hst;show qaF_f (qaF_i (qau_i n) f) (qau_i n) (t1::(u2++t2::t::r))=_;unfold qaF_f;rw[hit_c] at ho hq;rw[took1,zaak ho (by decide),Option.bind_some];dsimp only[cond_false];rw[took1,zaak ho (by decide),Option.bind_some];dsimp only[cond_false];rw[took1,ho,Option.bind_some];dsimp only[cond_true];have h1':qau_i n 0 (u2++t2::t::r)=some (okE x (t2::t::r)):=h1;rw[h1',Option.bind_some];dsimp only[okE];rw[want1,hq,Option.bind_some];rfl
  exact ⟨by omega,fun h=>by omega,fun _=>un,zagf un⟩
 |@num o hk=>
  have un:∀ u t r n f,u.map core=[o]->10*(u++t::r).length<=n->(u++t::r).length<1000000->u.length<=f->qaF_i (qau_i n) f (u++t::r)=some (okE ⟨1,o.2.2,[],[]⟩ (t::r)):=by
   intro u t r n f hu hn hb hf;obtain ⟨t1,u1,rfl,rfl,e2⟩:=qh.1 hu;have:u1=[]:=by simpa using e2
   subst this;simp only[qe] at hf;obtain ⟨f,rfl⟩:∃ q,f=q+1:=⟨f-1,by omega⟩;have hk':t1.kind=2:=hk;have hh:∀ s,hit s t1=false:=fun s=>zah1 (by rw[hk']; decide) (by rw[hk']; decide)
   show qaF_f (qaF_i (qau_i n) f) (qau_i n) (t1::t::r)=_;unfold qaF_f;rw[took1,hh,Option.bind_some];dsimp only[cond_false];rw[took1,hh,Option.bind_some];dsimp only[cond_false];rw[took1,hh,Option.bind_some];dsimp only[cond_false];rw[next1,Option.bind_some];dsimp only;have e:(t1.kind==2)=true:=by simp[hk']
   rw[e,qg,take1,qa];rfl
  exact ⟨by omega,fun h=>by omega,fun _=>un,zagf un⟩
 |@reg o hk=>
  have un:∀ u t r n f,u.map core=[o]->10*(u++t::r).length<=n->(u++t::r).length<1000000->u.length<=f->qaF_i (qau_i n) f (u++t::r)=some (okE ⟨2,0,o.2.1,[]⟩ (t::r)):=by
   intro u t r n f hu hn hb hf;obtain ⟨t1,u1,rfl,rfl,e2⟩:=qh.1 hu;have:u1=[]:=by simpa using e2
   subst this;simp only[qe] at hf;obtain ⟨f,rfl⟩:∃ q,f=q+1:=⟨f-1,by omega⟩;have hk':t1.kind=1:=hk;have hh:∀ s,hit s t1=false:=fun s=>zah1 (by rw[hk']; decide) (by rw[hk']; decide)
   show qaF_f (qaF_i (qau_i n) f) (qau_i n) (t1::t::r)=_;unfold qaF_f;rw[took1,hh,Option.bind_some];dsimp only[cond_false];rw[took1,hh,Option.bind_some];dsimp only[cond_false];rw[took1,hh,Option.bind_some];dsimp only[cond_false];rw[next1,Option.bind_some];dsimp only;have e:(t1.kind==2)=false:=by simp[hk']
   have e':(t1.kind != 1)=false:=by simp[hk']
   rw[e,qf,name1,e',qa];rfl
  exact ⟨by omega,fun h=>by omega,fun _=>un,zagf un⟩
theorem exprC {x:TExpr} {c:List Tk} (h:DE 0 x c) {u:List Token} (hu:u.map core=c) (t:Token) (r:List Token) (hs:stopE 0 (core t)) (hb:(u++t::r).length<1000000) :
  qau 0 (u++t::r)=some (okE x (t::r)):=by
 rw[qau,zaaa];exact h.compE.all u t r fuel hu (by unfold fuel; omega) hb hs
theorem snoc1 {u:List Token} {c:List Tk} {q:Tk} (h:u.map core=c++[q]):∃ u1 t,u=u1++[t]/\u1.map core=c/\core t=q:=by
 obtain ⟨u1,t,u2,rfl,h1,h2,h3⟩:=zadc h;have:u2=[]:=by simpa using h3
 subst this;exact ⟨u1,t,rfl,h1,h2⟩
theorem zaf5 {s:List UInt8} (hs:∀ j,j<5->(LV[j]?).bind (fun M=>mapAt M s)=none) {t:Token} (h:hit s t=true):stopE 0 (core t):=by
 intro j _ hj;unfold opAt;split
 ·have ht:t.text=s:=by
   unfold hit at h;simp only[qd,beq_iff_eq] at h;exact h.2
  show (LV[j]?).bind (fun M=>mapAt M t.text)=none;rw[ht];exact hs j hj
 ·rfl
theorem LV_59:∀ j,j<5->(LV[j]?).bind (fun M=>mapAt M [59])=none:=by decide +kernel
theorem zanr:∀ j,j<5->(LV[j]?).bind (fun M=>mapAt M [123])=none:=by decide +kernel
theorem zaf4 {t:Token} (h:t.kind=1) (s:List UInt8):hit s t=false:=zah1 (by rw[h]; decide) (by rw[h]; decide)
theorem DS.headTk {s:TStmt} {c:List Tk} (h:DS s c):∃ o d,c=o::d/\(o.1=1\/∃ w,hitc w o=true/\w≠wElse/\w≠[125]/\w.length<=6):=by
 cases h with
 |set h _ _ _=>exact ⟨_,_,rfl,.inl h⟩
 |write h _ _ _=>exact ⟨_,_,rfl,.inl h⟩
 |add h _ _ _ _ _=>exact ⟨_,_,rfl,.inl h⟩
 |read h _ _ _=>exact ⟨_,_,rfl,.inl h⟩
 |@about i s w b q h1 h2 _ _=>
  refine ⟨_,_,rfl,.inr ⟨s,h2,?_⟩⟩;have hm:=List.mem_of_getElem? h1;revert s;intro s h1 h2 hm;simp only[four,List.mem_cons,List.not_mem_nil,or_false] at hm;rcases hm with rfl|rfl|rfl|rfl<;>decide
 |assert h _ _=>exact ⟨_,_,rfl,.inr ⟨_,h,by decide⟩⟩
 |if_ h _ _ _ _=>exact ⟨_,_,rfl,.inr ⟨_,h,by decide⟩⟩
 |ife h _ _ _ _ _ _ _ _=>exact ⟨_,_,rfl,.inr ⟨_,h,by decide⟩⟩
 |rep h _ _ _ _ _=>exact ⟨_,_,rfl,.inr ⟨_,h,by decide⟩⟩
theorem zalh {s:TStmt} {c:List Tk} (h:DS s c) {u:List Token} (hu:u.map core=c):∃ t r,u=t::r/\hit wElse t=false/\hit [125] t=false:=by
 obtain ⟨o,d,rfl,h1⟩:=h.headTk;obtain ⟨t,r,rfl,rfl,h3⟩:=qh.1 hu;refine ⟨t,r,rfl,?_⟩;rcases h1 with h1|⟨w,h1,h2,h4,_⟩
 ·exact ⟨zaf4 h1 _,zaf4 h1 _⟩
 ·exact ⟨zaak h1 h2,zaak h1 h4⟩
theorem zaxk {B:List Token->Option RB} {t:Token} {r:List Token} {s:List UInt8} {a q:Token} (hs:hit s t=true) (ha:a.kind=1) (hq:hit [59] q=true):∀ (k f i n:Nat),n+k=i->k<f->four[i]? = some s ->
  qaC_i4 B f 4 n (t::a::q::r) 0 [] [] 0 0 [] 0 four=some (okO (some (5+(i:Int),a.text)) r):=by
 intro k;induction k with
 |zero=>
  intro f i n hi hf h4;obtain ⟨f,rfl⟩:∃ q,f=q+1:=⟨f-1,by omega⟩;have hn:n=i:=by omega
  subst hn;have hlt:n<4:=by
   have:=(xr.1 h4).1;exact this
  show qaC_t4 B (qaC_i4 B f) 4 n (t::a::q::r) 0 [] [] 0 0 [] 0 four=_;unfold qaC_t4;have e1:decide ((n:Int)<4)=true:=by simp only[qj]; omega
  have e2:(decide ((0:Int)<=(n:Int))&&decide ((n:Int)<(↑(List.length four):Int)))=true:=by
   simp only[qd,qj];exact ⟨by omega,by show (n:Int)<4; omega⟩
  simp only[e1,e2,cond_true];rw[Int.toNat_natCast,h4,Option.bind_some,took1,hs,Option.bind_some];dsimp only[cond_true];have e3:(a.kind != 1)=false:=by simp[ha]
  rw[name1,e3,Option.bind_some];dsimp only[cond_false];rw[want1,hq,Option.bind_some];dsimp only[cond_true];rw[i64_in ((5:Int)+n) (by omega)];rfl
 |succ k ih=>
  intro f i n hi hf h4;obtain ⟨f,rfl⟩:∃ q,f=q+1:=⟨f-1,by omega⟩;have hlt4:=(xr.1 h4).1;have hlt:i<4:=hlt4;have hnl:n<four.length:=by show n<4; omega
  show qaC_t4 B (qaC_i4 B f) 4 n (t::a::q::r) 0 [] [] 0 0 [] 0 four=_;unfold qaC_t4;have e1:decide ((n:Int)<4)=true:=by simp only[qj]; omega
  have e2:(decide ((0:Int)<=(n:Int))&&decide ((n:Int)<(↑(List.length four):Int)))=true:=by
   simp only[qd,qj];exact ⟨by omega,by show (n:Int)<4; omega⟩
  simp only[e1,e2,qg];have hne:s≠four[n]:=by
   intro e;have h5:four[i]=four[n]:=by rw[<-e]; exact (xr.1 h4).2
   have:∀ (x y:Fin 4),four[x.1]=four[y.1]->x=y:=by decide
   have:=this ⟨i,hlt⟩ ⟨n,hnl⟩ h5;simp only[Fin.mk.injEq] at this;omega
  rw[Int.toNat_natCast,List.getElem?_eq_getElem hnl,Option.bind_some,took1,zaak hs hne,Option.bind_some];dsimp only[cond_false];rw[i64_in ((n:Int)+1) (by omega)];exact ih f i (n+1) (by omega) (by omega) h4
theorem zaig {B:List Token->Option RB} {t:Token} {r:List Token} (hs:∀ s∈four,hit s t=false):∀ (k f n:Nat),n+k=4->k<f ->
  qaC_i4 B f 4 n (t::r) 0 [] [] 0 0 [] 0 four=some (okO none (t::r)):=by
 intro k;induction k with
 |zero=>
  intro f n hi hf;obtain ⟨f,rfl⟩:∃ q,f=q+1:=⟨f-1,by omega⟩;show qaC_t4 B (qaC_i4 B f) 4 n (t::r) 0 [] [] 0 0 [] 0 four=_;unfold qaC_t4;have e1:decide ((n:Int)<4)=false:=by simp only[ya]; omega
  simp only[e1,qf];rfl
 |succ k ih=>
  intro f n hi hf;obtain ⟨f,rfl⟩:∃ q,f=q+1:=⟨f-1,by omega⟩;have hnl:n<four.length:=by show n<4; omega
  show qaC_t4 B (qaC_i4 B f) 4 n (t::r) 0 [] [] 0 0 [] 0 four=_;unfold qaC_t4;have e1:decide ((n:Int)<4)=true:=by simp only[qj]; omega
  have e2:(decide ((0:Int)<=(n:Int))&&decide ((n:Int)<(↑(List.length four):Int)))=true:=by
   simp only[qd,qj];exact ⟨by omega,by show (n:Int)<4; omega⟩
  simp only[e1,e2,cond_true];rw[Int.toNat_natCast,List.getElem?_eq_getElem hnl,Option.bind_some,took1,hs _ (List.getElem_mem hnl),Option.bind_some];dsimp only[cond_false];rw[i64_in ((n:Int)+1) (by omega)];exact ih f (n+1) (by omega) (by omega)
theorem za0a {s:TStmt} {c:List Tk} (h:DS s c) {u:List Token} (hu:u.map core=c) (h1:∃ t u',u=t::u'/\t.kind=1) (t:Token) (r:List Token) (hb:(u++t::r).length<1000000) :
  qaz (u++t::r)=some (okS s (t::r)):=by
 obtain ⟨ta,u',rfl,hk⟩:=h1;have hno:∀ s,hitc s (core ta)=false:=fun s=>by rw[hit_c]; exact zaf4 hk s
 have e1:(ta.kind != 1)=false:=by simp[hk]
 simp only[xn] at hu;cases h with
 |set ha ho hx hq=>
  simp only[List.cons.injEq] at hu;obtain ⟨rfl,hu⟩:=hu;obtain ⟨tq0,u2,rfl,rfl,e2⟩:=List.map_eq_cons_iff.1 hu;obtain ⟨u3,tq,rfl,e3,rfl⟩:=snoc1 e2;rw[hit_c] at ho hq;simp only[List.cons_append,List.append_assoc,List.nil_append] at hb ⊢;rw[qaz,zaaa];unfold qaz_f;rw[name1,e1,Option.bind_some];dsimp only[cond_false];rw[took1,ho,Option.bind_some];dsimp only[cond_true];rw[exprC hx e3 tq (t::r) (zaf5 LV_59 hq) (by simp only[List.length_append,List.length_cons] at hb ⊢; omega),Option.bind_some];dsimp only[okE];rw[want1,hq,Option.bind_some];dsimp only[cond_true];rfl
 |write ha ho hx hq=>
  simp only[List.cons.injEq] at hu;obtain ⟨rfl,hu⟩:=hu;obtain ⟨tq0,u2,rfl,rfl,e2⟩:=List.map_eq_cons_iff.1 hu;obtain ⟨u3,tq,rfl,e3,rfl⟩:=snoc1 e2;rw[hit_c] at ho hq;simp only[List.cons_append,List.append_assoc,List.nil_append] at hb ⊢;rw[qaz,zaaa];unfold qaz_f;rw[name1,e1,Option.bind_some];dsimp only[cond_false];rw[took1,zaak ho (by decide),Option.bind_some];dsimp only[cond_false];rw[took1,ho,Option.bind_some];dsimp only[cond_true];rw[exprC hx e3 tq (t::r) (zaf5 LV_59 hq) (by simp only[List.length_append,List.length_cons] at hb ⊢; omega),Option.bind_some];dsimp only[okE];rw[want1,hq,Option.bind_some];dsimp only[cond_true];rfl
 |add ha ho hw hb2 hx hq=>
  simp only[xh] at hu;obtain ⟨rfl,hu⟩:=hu;obtain ⟨tq0,u2,rfl,rfl,e2⟩:=qh.1 hu;obtain ⟨tw,u3,rfl,rfl,e3⟩:=qh.1 e2;obtain ⟨tb,u4,rfl,rfl,e4⟩:=qh.1 e3;obtain ⟨u5,tq,rfl,e5,rfl⟩:=snoc1 e4;rw[hit_c] at ho hq hw;have e6:(tb.kind != 1)=false:=by simp[show tb.kind=1 from hb2]
  simp only[List.cons_append,List.append_assoc,List.nil_append] at hb ⊢;rw[qaz,zaaa];unfold qaz_f;rw[name1,e1,Option.bind_some];dsimp only[cond_false];rw[took1,zaak ho (by decide),Option.bind_some];dsimp only[cond_false];rw[took1,zaak ho (by decide),Option.bind_some];dsimp only[cond_false];rw[want1,ho,Option.bind_some];dsimp only[cond_true];rw[took1,hw,Option.bind_some];dsimp only[cond_true];rw[name1,e6,Option.bind_some];dsimp only[cond_false];rw[exprC hx e5 tq (t::r) (zaf5 LV_59 hq) (by simp only[List.length_append,List.length_cons] at hb ⊢; omega),Option.bind_some];dsimp only[okE];rw[want1,hq,Option.bind_some];dsimp only[cond_true];rfl
 |read ha ho hb2 hq=>
  simp only[xh] at hu;obtain ⟨rfl,hu⟩:=hu;obtain ⟨tq0,u2,rfl,rfl,e2⟩:=qh.1 hu;obtain ⟨tb,u3,rfl,rfl,e3⟩:=qh.1 e2;obtain ⟨tq,u4,rfl,rfl,e4⟩:=qh.1 e3;have:u4=[]:=by simpa using e4
  subst this;rw[hit_c] at ho hq;have e6:(tb.kind != 1)=false:=by simp[show tb.kind=1 from hb2]
  simp only[List.cons_append,List.append_assoc,List.nil_append] at hb ⊢;rw[qaz,zaaa];unfold qaz_f;rw[name1,e1,Option.bind_some];dsimp only[cond_false];rw[took1,zaak ho (by decide),Option.bind_some];dsimp only[cond_false];rw[took1,zaak ho (by decide),Option.bind_some];dsimp only[cond_false];rw[want1,ho,Option.bind_some];dsimp only[cond_true];rw[took1,zaf4 hb2,Option.bind_some];dsimp only[cond_false];rw[name1,e6,Option.bind_some];dsimp only[cond_false];rw[want1,hq,Option.bind_some];rfl
 |about h4 hw _ _=>
  simp only[xh] at hu;obtain ⟨rfl,hu⟩:=hu;rw[hno] at hw;cases hw
 |assert hw _ _=>
  simp only[xh] at hu;obtain ⟨rfl,hu⟩:=hu;rw[hno] at hw;cases hw
 |if_ hw _ _ _ _=>
  simp only[xh] at hu;obtain ⟨rfl,hu⟩:=hu;rw[hno] at hw;cases hw
 |ife hw _ _ _ _ _ _ _ _=>
  simp only[xh] at hu;obtain ⟨rfl,hu⟩:=hu;rw[hno] at hw;cases hw
 |rep hw _ _ _ _ _=>
  simp only[xh] at hu;obtain ⟨rfl,hu⟩:=hu;rw[hno] at hw;cases hw
def zamx (B:List Token->Option RB) (N:Nat):Prop:=∀ b d,DB b d->d.length<N->∀ u t r,u.map core=d->(u++t::r).length<1000000->B (u++t::r)=some (okB b (t::r))
theorem zay5 {s:List UInt8} {t:Token} (h:hit s t=true):t.kind≠1:=by
 intro hk;rw[zaf4 hk] at h;cases h
theorem stmtC {s:TStmt} {c:List Tk} (h:DS s c) {B:List Token->Option RB} (hB:zamx B c.length) {u:List Token} (hu:u.map core=c) (t:Token) (r:List Token) (hels:hit wElse t=false) (hb:(u++t::r).length<1000000) :
  qaC B (u++t::r)=some (okS s (t::r)):=by
 rw[qaC,zaaa];unfold qaC_f;by_cases hk:∃ ta u',u=ta::u'/\ta.kind=1
 ·have hp:=za0a h hu hk t r hb;obtain ⟨ta,u',rfl,hk⟩:=hk;rw[List.cons_append] at hp ⊢;rw[next1,Option.bind_some];dsimp only;have e:(ta.kind==1)=true:=by simp[hk]
  rw[e,cond_true,hp,Option.bind_some];dsimp only[okS]
 ·
  have word:∀ {w:List UInt8} {o:Tk} {d:List Tk},u.map core=o::d->hitc w o=true->∃ tw u',u=tw::u'/\core tw=o/\u'.map core=d/\hit w tw=true/\(tw.kind==1)=false:=by
   intro w o d hu ho;obtain ⟨tw,u',rfl,rfl,e⟩:=qh.1 hu;exact ⟨tw,u',rfl,rfl,e,ho,by simpa using zay5 (s:=w) (t:=tw) ho⟩
  cases h with
  |set ha _ _ _=>
   obtain ⟨ta,u',rfl,rfl,_⟩:=qh.1 hu;exact absurd ⟨ta,u',rfl,ha⟩ hk
  |write ha _ _ _=>
   obtain ⟨ta,u',rfl,rfl,_⟩:=qh.1 hu;exact absurd ⟨ta,u',rfl,ha⟩ hk
  |add ha _ _ _ _ _=>
   obtain ⟨ta,u',rfl,rfl,_⟩:=qh.1 hu;exact absurd ⟨ta,u',rfl,ha⟩ hk
  |read ha _ _ _=>
   obtain ⟨ta,u',rfl,rfl,_⟩:=qh.1 hu;exact absurd ⟨ta,u',rfl,ha⟩ hk
  |about h4 hw ha hq=>
   obtain ⟨tw,u',rfl,rfl,e1,hw,e2⟩:=word hu hw;obtain ⟨ta,u2,rfl,rfl,e3⟩:=qh.1 e1;obtain ⟨tq,u3,rfl,rfl,e4⟩:=qh.1 e3;have:u3=[]:=by simpa using e4
   subst this;rw[hit_c] at hq;simp only[List.cons_append,List.nil_append];rw[next1,Option.bind_some];dsimp only;have h9:=zaxk (B:=B) (r:=t::r) hw ha hq _ fuel _ 0 (Nat.zero_add _) (by unfold fuel; have:=(List.getElem?_eq_some_iff.1 h4).1; have:four.length=4:=rfl; omega) h4;rw[e2,cond_false,qaC_l4,zaaa];have h9':qaC_i4 B fuel (↑(4:Nat):Int) (0:Int) (tw::ta::tq::t::r) 0 [] [] 0 0 [] 0 four=_:=h9;rw[h9',Option.bind_some];rfl
  |assert hw hx hq=>
   obtain ⟨tw,u',rfl,rfl,e1,hw,e2⟩:=word hu hw;obtain ⟨u2,tq,rfl,e3,rfl⟩:=snoc1 e1;rw[hit_c] at hq;simp only[List.cons_append,List.append_assoc,List.nil_append] at hb ⊢;rw[next1,Option.bind_some];dsimp only;have h9:=zaig (B:=B) (t:=tw) (r:=u2++tq::t::r) (fun s hs=>zaak hw (by revert s; decide)) 4 fuel 0 rfl (by unfold fuel; omega);have h9':qaC_i4 B fuel (↑(4:Nat):Int) (0:Int) (tw::(u2++tq::t::r)) 0 [] [] 0 0 [] 0 four=_:=h9;rw[e2,cond_false,qaC_l4,zaaa,h9',Option.bind_some];dsimp only[okO];rw[took1,hw,Option.bind_some];dsimp only[cond_true];rw[exprC hx e3 tq (t::r) (zaf5 LV_59 hq) (by simp only[List.length_append,List.length_cons] at hb ⊢; omega),Option.bind_some];dsimp only[okE];rw[want1,hq,Option.bind_some];dsimp only[cond_true];rfl
  |@if_ w o q x c d b hw hx ho hd hq=>
   obtain ⟨tw,u',rfl,rfl,e1,hw,e2⟩:=word hu hw;obtain ⟨u2,tq0,u3,rfl,e3,rfl,e4⟩:=zadc e1;obtain ⟨u4,tq,rfl,e5,rfl⟩:=snoc1 e4;have hblk:=hB b (core tq0::(d++[core tq])) ⟨_,_,_,ho,hd,hq,rfl⟩ (by simp only[List.length_cons,List.length_append]; omega) (tq0::(u4++[tq])) t r (by simp[e5]);rw[hit_c] at ho hq;simp only[List.cons_append,List.append_assoc,List.nil_append] at hb hblk ⊢;rw[next1,Option.bind_some];dsimp only;have h9:=zaig (B:=B) (t:=tw) (r:=u2++tq0::(u4++tq::t::r)) (fun s hs=>zaak hw (by revert s; decide)) 4 fuel 0 rfl (by unfold fuel; omega);have h9':qaC_i4 B fuel (↑(4:Nat):Int) (0:Int) (tw::(u2++tq0::(u4++tq::t::r))) 0 [] [] 0 0 [] 0 four=_:=h9;rw[e2,cond_false,qaC_l4,zaaa,h9',Option.bind_some];dsimp only[okO];rw[took1,zaak hw (by decide),Option.bind_some];dsimp only[cond_false];rw[took1,hw,Option.bind_some];dsimp only[cond_true];rw[exprC hx e3 tq0 _ (zaf5 zanr ho) (by simp only[List.length_append,List.length_cons] at hb ⊢; omega),Option.bind_some];dsimp only[okE];rw[hblk (by simp only[List.length_append,List.length_cons] at hb ⊢; omega),Option.bind_some];dsimp only[okB];rw[took1,hels,Option.bind_some];dsimp only[cond_false];rfl
  |@ife w o q v o2 q2 x c d d2 b b2 hw hx ho hd hq hv ho2 hd2 hq2=>
   obtain ⟨tw,u',rfl,rfl,e1,hw,e2⟩:=word hu hw;obtain ⟨u2,tq0,u3,rfl,e3,rfl,e4⟩:=zadc e1;obtain ⟨u4,tq,u5,rfl,e5,rfl,e6⟩:=zadc e4;obtain ⟨tv,u6,rfl,rfl,e7⟩:=List.map_eq_cons_iff.1 e6;obtain ⟨to2,u7,rfl,rfl,e8⟩:=List.map_eq_cons_iff.1 e7;obtain ⟨u8,tq2,rfl,e9,rfl⟩:=snoc1 e8;have hblk:=hB b (core tq0::(d++[core tq])) ⟨_,_,_,ho,hd,hq,rfl⟩ (by simp only[List.length_cons,List.length_append]; omega) (tq0::(u4++[tq])) tv (to2::(u8++tq2::t::r)) (by simp[e5]);have hblk2:=hB b2 (core to2::(d2++[core tq2])) ⟨_,_,_,ho2,hd2,hq2,rfl⟩ (by simp only[List.length_cons,List.length_append]; omega) (to2::(u8++[tq2])) t r (by simp[e9]);rw[hit_c] at ho hq hv ho2 hq2;simp only[List.cons_append,List.append_assoc,List.nil_append] at hb hblk hblk2 ⊢;rw[next1,Option.bind_some];dsimp only;have h9:=zaig (B:=B) (t:=tw) (r:=u2++tq0::(u4++tq::tv::to2::(u8++tq2::t::r))) (fun s hs=>zaak hw (by revert s; decide)) 4 fuel 0 rfl (by unfold fuel; omega);have h9':qaC_i4 B fuel (↑(4:Nat):Int) (0:Int) (tw::(u2++tq0::(u4++tq::tv::to2::(u8++tq2::t::r)))) 0 [] [] 0 0 [] 0 four=_:=h9;rw[e2,cond_false,qaC_l4,zaaa,h9',Option.bind_some];dsimp only[okO];rw[took1,zaak hw (by decide),Option.bind_some];dsimp only[cond_false];rw[took1,hw,Option.bind_some];dsimp only[cond_true];rw[exprC hx e3 tq0 _ (zaf5 zanr ho) (by simp only[List.length_append,List.length_cons] at hb ⊢; omega),Option.bind_some];dsimp only[okE];rw[hblk (by simp only[List.length_append,List.length_cons] at hb ⊢; omega),Option.bind_some];dsimp only[okB];rw[took1,hv,Option.bind_some];dsimp only[cond_true];rw[hblk2 (by simp only[List.length_append,List.length_cons] at hb ⊢; omega),Option.bind_some];dsimp only[okB];rfl
  |@rep w n o q d b hw hn hn2 ho hd hq=>
   obtain ⟨tw,u',rfl,rfl,e1,hw,e2⟩:=word hu hw;obtain ⟨tn,u2,rfl,rfl,e3⟩:=List.map_eq_cons_iff.1 e1;obtain ⟨tq0,u3,rfl,rfl,e4⟩:=List.map_eq_cons_iff.1 e3;obtain ⟨u4,tq,rfl,e5,rfl⟩:=snoc1 e4;have hblk:=hB b (core tq0::(d++[core tq])) ⟨_,_,_,ho,hd,hq,rfl⟩ (by simp only[List.length_cons,List.length_append]; omega) (tq0::(u4++[tq])) t r (by simp[e5]);rw[hit_c] at ho hq;simp only[List.cons_append,List.append_assoc,List.nil_append] at hb hblk ⊢;rw[next1,Option.bind_some];dsimp only;have h9:=zaig (B:=B) (t:=tw) (r:=tn::tq0::(u4++tq::t::r)) (fun s hs=>zaak hw (by revert s; decide)) 4 fuel 0 rfl (by unfold fuel; omega);have h9':qaC_i4 B fuel (↑(4:Nat):Int) (0:Int) (tw::tn::tq0::(u4++tq::t::r)) 0 [] [] 0 0 [] 0 four=_:=h9;rw[e2,cond_false,qaC_l4,zaaa,h9',Option.bind_some];dsimp only[okO];rw[took1,zaak hw (by decide),Option.bind_some];dsimp only[cond_false];rw[took1,zaak hw (by decide),Option.bind_some];dsimp only[cond_false];rw[want1,hw,Option.bind_some];dsimp only[cond_true];rw[next1,Option.bind_some];dsimp only;have f1:(tn.kind==2)=true:=by simp[show tn.kind=2 from hn]
   have f2:decide (tn.num>(1000:Int))=false:=by simp only[ya]; have:tn.num<=1000:=hn2; omega
   have f3:(tn.kind != 2)=false:=by simp[show tn.kind=2 from hn]
   rw[f1,cond_true,f2,Option.bind_some,cond_false,of1,f3,Option.bind_some];dsimp only[cond_false];rw[hblk (by simp only[List.length_append,List.length_cons] at hb ⊢; omega),Option.bind_some];rfl
theorem zayz {B:List Token->Option RB} {N:Nat} (hB:zamx B N):∀ (b:List TStmt) (d:List Tk),DL b d->d.length<=N->∀ (f:Nat) (a:List TStmt) (u:List Token) (q t:Token) (r:List Token),u.map core=d->hit [125] q=true->u.length<f->a.length+(u++q::t::r).length<1000000 ->
  qat_i3 B f (u++q::t::r) a=some (ok3 (a++b) (t::r)):=by
 intro b;induction b with
 |nil=>
  intro d hd hN f a u q t r hu hq hf hb;cases hd;have:u=[]:=by simpa using hu
  subst this;obtain ⟨f,rfl⟩:∃ q,f=q+1:=⟨f-1,by omega⟩;show qat_t3 B (qat_i3 B f) (q::t::r) a=_;unfold qat_t3;rw[took1,hq,qa,xj];rfl
 |cons s b ih=>
  intro d hd hN f a u q t r hu hq hf hb;cases hd with
  |cons hs hl=>
  rename_i c d;obtain ⟨u1,u2,rfl,e1,e2⟩:=List.map_eq_append_iff.1 hu;have hsz:=hs.size.1;have hl1:u1.length=c.length:=by rw[<-e1,List.length_map]
  obtain ⟨t1,r1,hu1,_,hno⟩:=zalh hs e1;obtain ⟨f,rfl⟩:∃ q,f=q+1:=⟨f-1,by omega⟩
  -- the token behind
  obtain ⟨t2,r2,ht2,hels⟩:∃ t2 r2,u2++q::t::r=t2::r2/\hit wElse t2=false:=by
   cases hl with
   |nil=>
    have:u2=[]:=by simpa using e2
    subst this;exact ⟨q,t::r,rfl,zaak hq (by decide)⟩
   |cons hs2 _=>
    obtain ⟨u3,u4,rfl,e3,e4⟩:=List.map_eq_append_iff.1 e2;obtain ⟨t2,r2,rfl,h,_⟩:=zalh hs2 e3;exact ⟨t2,_,rfl,h⟩
  have hst:=stmtC hs (B:=B) (fun b' d' h1 h2=>hB b' d' h1 (by simp only[qc] at hN; omega)) e1 t2 r2 hels (by rw[<-ht2]; simp only[qc,qe] at hb ⊢; omega);rw[<-ht2] at hst;show qat_t3 B (qat_i3 B f) (u1++u2++q::t::r) a=_;rw[qq];unfold qat_t3;have htk:qaE [125] (u1++(u2++q::t::r))=some (false,u1++(u2++q::t::r)):=by
   rw[hu1,qp,took1,hno];rfl
  rw[htk,Option.bind_some];simp only[Bool.not_false,cond_true];rw[hst,Option.bind_some];dsimp only[okS];rw[zag7];have e9:decide ((List.length a+List.length [s])*(152:Nat)<=(140737488355328:Nat)/\List.length a+List.length [s]<=(9223372036854775807:Nat))=true:=by
   simp only[qj,qe,qr];omega
  rw[e9,qg];simp only[qc,qe] at hN hf hb;rw[ih d hl (by omega) f (a++[s]) u2 q t r e2 hq (by omega) (by simp only[qc,qe,qr]; omega)];simp
theorem zazw:∀ n N,N<=n->zamx (qat_i n) N:=by
 intro n;induction n with
 |zero=>intro N h b d hd hl; omega
 |succ n ih=>
  intro N hN b d hd hl u t r hu hb;obtain ⟨o,d',q,ho,hd,hq,rfl⟩:=hd;obtain ⟨tq0,u2,rfl,rfl,e1⟩:=List.map_eq_cons_iff.1 hu;obtain ⟨u3,tq,rfl,e2,rfl⟩:=snoc1 e1;simp only[List.length_cons,List.length_append,List.length_nil] at hl;rw[hit_c] at ho hq;simp only[List.cons_append,List.append_assoc,List.nil_append] at hb ⊢;show qat_f (qat_i n) (tq0::(u3++tq::t::r))=_;unfold qat_f;rw[want1,ho,Option.bind_some];dsimp only[cond_true];have hl3:u3.length=d'.length:=by rw[<-e2,List.length_map]
  rw[qat_l3,zaaa,zayz (ih (d'.length) (by omega)) b d' hd (qz _) fuel [] u3 tq t r e2 hq (by simp only[qc,qe] at hb; unfold fuel; omega) (by simp only[qc,qe,qr] at hb ⊢; omega),qa];rfl
theorem za05 {b:List TStmt} {d:List Tk} (h:DB b d) {u:List Token} (hu:u.map core=d) (t:Token) (r:List Token) (hb:(u++t::r).length<1000000):qat (u++t::r)=some (okB b (t::r)):=by
 have hl:u.length=d.length:=by rw[<-hu,List.length_map]
 rw[qat,zaaa];exact zazw fuel 1000000 (by unfold fuel; omega) b d h (by simp only[qc] at hb; omega) u t r hu hb
noncomputable abbrev progL (f:Nat) (z:List Token) (q:TProg):=qaA_i2 f z q.cells q.mutexes q.threads
theorem zarg {q:TProg} (hc:q.cells.length<1000000) (hm:q.mutexes.length<1000000) (ht:q.threads.length<1000000) :
  (∀ c:TCell,decide ((List.length q.cells+List.length [c])*(24:Nat)<=(140737488355328:Nat)/\List.length q.cells+List.length [c]<=(9223372036854775807:Nat))=true) /\
  (∀ c:List UInt8,decide ((List.length q.mutexes+List.length [c])*(16:Nat)<=(140737488355328:Nat)/\List.length q.mutexes+List.length [c]<=(9223372036854775807:Nat))=true) /\
  (∀ c:TThread,decide ((List.length q.threads+List.length [c])*(40:Nat)<=(140737488355328:Nat)/\List.length q.threads+List.length [c]<=(9223372036854775807:Nat))=true):=by
 refine ⟨fun c=>?_,fun c=>?_,fun c=>?_⟩ <;>
 ·simp only[qj,qe,qr];omega
theorem word5 {s:List UInt8} {t:Token} (h:hit s t=true):(t.kind != 5)=true:=by
 have:=zalf h;simpa using this
theorem zaxp {q:TProg} {x:TCell} {d:List Tk} (h:DC x d) (hc:q.cells.length<1000000) (hm:q.mutexes.length<1000000) (ht:q.threads.length<1000000) {u:List Token} (hu:u.map core=d) (f:Nat) (t:Token) (r:List Token) :
  progL (f+1) (u++t::r) q=progL f (t::r) ⟨q.cells++[x],q.mutexes,q.threads⟩:=by
 obtain ⟨g1,g2,g3⟩:=zarg hc hm ht;show qaA_t2 (qaA_i2 f) (u++t::r) q.cells q.mutexes q.threads=_;unfold qaA_t2;simp only[g1,g2,g3,qg];cases h with
 |bare hw ha hq=>
  obtain ⟨tw,u2,rfl,rfl,e2⟩:=qh.1 hu;obtain ⟨ta,u3,rfl,rfl,e3⟩:=qh.1 e2;obtain ⟨tq,u4,rfl,rfl,e4⟩:=qh.1 e3;have:u4=[]:=by simpa using e4
  subst this;rw[hit_c] at hw hq;have e6:(ta.kind != 1)=false:=by simp[show ta.kind=1 from ha]
  simp only[List.cons_append,List.nil_append];rw[next1,Option.bind_some];dsimp only;rw[word5 hw,cond_true,took1,hw,Option.bind_some];dsimp only[cond_true];rw[name1,e6,Option.bind_some];dsimp only[cond_false];rw[took1,zaak hq (by decide),Option.bind_some];dsimp only[cond_false];rw[want1,hq,Option.bind_some];rfl
 |pos hw ha ho hno hn hq=>
  obtain ⟨tw,u2,rfl,rfl,e2⟩:=qh.1 hu;obtain ⟨ta,u3,rfl,rfl,e3⟩:=qh.1 e2;obtain ⟨tq0,u4,rfl,rfl,e4⟩:=qh.1 e3;obtain ⟨tn,u5,rfl,rfl,e5⟩:=qh.1 e4;obtain ⟨tq,u6,rfl,rfl,e7⟩:=qh.1 e5;have:u6=[]:=by simpa using e7
  subst this;rw[hit_c] at hw hq ho hno;have e6:(ta.kind != 1)=false:=by simp[show ta.kind=1 from ha]
  have e8:(tn.kind != 2)=false:=by simp[show tn.kind=2 from hn]
  simp only[List.cons_append,List.nil_append];rw[next1,Option.bind_some];dsimp only;rw[word5 hw,cond_true,took1,hw,Option.bind_some];dsimp only[cond_true];rw[name1,e6,Option.bind_some];dsimp only[cond_false];rw[took1,ho,Option.bind_some];dsimp only[cond_true];rw[took1,hno,Option.bind_some];dsimp only[cond_false];rw[of1,e8,Option.bind_some];dsimp only[cond_false];rw[want1,hq,Option.bind_some];rfl
 |ngt hw ha ho hm2 hn hq=>
  obtain ⟨tw,u2,rfl,rfl,e2⟩:=qh.1 hu;obtain ⟨ta,u3,rfl,rfl,e3⟩:=qh.1 e2;obtain ⟨tq0,u4,rfl,rfl,e4⟩:=qh.1 e3;obtain ⟨tm,u4,rfl,rfl,e9⟩:=qh.1 e4;obtain ⟨tn,u5,rfl,rfl,e5⟩:=qh.1 e9;obtain ⟨tq,u6,rfl,rfl,e7⟩:=qh.1 e5;have:u6=[]:=by simpa using e7
  subst this;rw[hit_c] at hw hq ho hm2;have e6:(ta.kind != 1)=false:=by simp[show ta.kind=1 from ha]
  have e8:(tn.kind != 2)=false:=by simp[show tn.kind=2 from hn]
  simp only[List.cons_append,List.nil_append];rw[next1,Option.bind_some];dsimp only;rw[word5 hw,cond_true,took1,hw,Option.bind_some];dsimp only[cond_true];rw[name1,e6,Option.bind_some];dsimp only[cond_false];rw[took1,ho,Option.bind_some];dsimp only[cond_true];rw[took1,hm2,Option.bind_some];dsimp only[cond_true];rw[of1,e8,Option.bind_some];dsimp only[cond_false,cond_true];rw[want1,hq,Option.bind_some];rfl
theorem zawp {q:TProg} {w a z:Tk} (hw:hitc zaru w=true) (ha:a.1=1) (hz:hitc [59] z=true) (hc:q.cells.length<1000000) (hm:q.mutexes.length<1000000) (ht:q.threads.length<1000000) {u:List Token} (hu:u.map core=[w,a,z]) (f:Nat) (t:Token) (r:List Token) :
  progL (f+1) (u++t::r) q=progL f (t::r) ⟨q.cells,q.mutexes++[a.2.1],q.threads⟩:=by
 obtain ⟨g1,g2,g3⟩:=zarg hc hm ht;show qaA_t2 (qaA_i2 f) (u++t::r) q.cells q.mutexes q.threads=_;unfold qaA_t2;simp only[g1,g2,g3,qg];obtain ⟨tw,u2,rfl,rfl,e2⟩:=qh.1 hu;obtain ⟨ta,u3,rfl,rfl,e3⟩:=qh.1 e2;obtain ⟨tq,u4,rfl,rfl,e4⟩:=qh.1 e3;have:u4=[]:=by simpa using e4
 subst this;rw[hit_c] at hw hz;have e6:(ta.kind != 1)=false:=by simp[show ta.kind=1 from ha]
 simp only[List.cons_append,List.nil_append];rw[next1,Option.bind_some];dsimp only;rw[word5 hw,cond_true,took1,zaak hw (by decide),Option.bind_some];dsimp only[cond_false];rw[took1,hw,Option.bind_some];dsimp only[cond_true];rw[name1,e6,Option.bind_some];dsimp only[cond_false];rw[want1,hz,Option.bind_some];rfl
theorem zauz {q:TProg} {w a:Tk} {b:List TStmt} {d:List Tk} (hw:hitc zaor w=true) (ha:a.1=1) (hb:DB b d) (hc:q.cells.length<1000000) (hm:q.mutexes.length<1000000) (ht:q.threads.length<1000000) {u:List Token} (hu:u.map core=w::a::d) (f:Nat) (t:Token) (r:List Token) (hl:(u++t::r).length<1000000) :
  progL (f+1) (u++t::r) q=progL f (t::r) ⟨q.cells,q.mutexes,q.threads++[⟨a.2.1,b⟩]⟩:=by
 obtain ⟨g1,g2,g3⟩:=zarg hc hm ht;show qaA_t2 (qaA_i2 f) (u++t::r) q.cells q.mutexes q.threads=_;unfold qaA_t2;simp only[g1,g2,g3,qg];obtain ⟨tw,u2,rfl,rfl,e2⟩:=qh.1 hu;obtain ⟨ta,u3,rfl,rfl,e3⟩:=qh.1 e2;rw[hit_c] at hw;have e6:(ta.kind != 1)=false:=by simp[show ta.kind=1 from ha]
 simp only[List.cons_append,List.nil_append] at hl ⊢;rw[next1,Option.bind_some];dsimp only;rw[word5 hw,cond_true,took1,zaak hw (by decide),Option.bind_some];dsimp only[cond_false];rw[took1,zaak hw (by decide),Option.bind_some];dsimp only[cond_false];rw[want1,hw,Option.bind_some];dsimp only[cond_true];rw[name1,e6,Option.bind_some];dsimp only[cond_false];rw[za05 hb e3 t r (by simp only[List.length_append,List.length_cons] at hl ⊢; omega),Option.bind_some];rfl
theorem zaw8 {p:TProg} {c:List Tk} (h:DP p c):∀ (u:List Token),u.map core=c->∀ (t:Token) (r:List Token),(u++t::r).length<1000000->∃ k,k<=u.length/\progL fuel (u++t::r) ⟨[],[],[]⟩=progL (fuel-k) (t::r) p:=by
 induction h with
 |nil=>
  intro u hu t r _;have:u=[]:=by simpa using hu
  subst this;exact ⟨0,by simp,rfl⟩
 |@cell p c d x hp hx ih=>
  intro u hu t r hb;obtain ⟨u1,u2,rfl,e1,e2⟩:=List.map_eq_append_iff.1 hu;have hsz:=hp.size;have hl1:u1.length=c.length:=by rw[<-e1,List.length_map]
  have hl2:u2.length=d.length:=by rw[<-e2,List.length_map]
  have hd:=hx.len;simp only[qc,qe,qq] at hb ⊢;cases u2 with
  |nil=>simp at hl2; omega
  |cons t2 u2=>
  obtain ⟨k,hk,h⟩:=ih u1 e1 t2 (u2++t::r) (by simp only[qc,qe] at hb ⊢; omega);have hst:=zaxp (q:=p) hx (by omega) (by omega) (by omega) e2 (fuel-k-1) t r;refine ⟨k+1,by simp only[qe]; omega,?_⟩;rw[qp,h];have e:fuel-k=(fuel-k-1)+1:=by unfold fuel; omega
  rw[e,<-qp,hst];rfl
 |@mutex p c w a q hp hw ha hq ih=>
  intro u hu t r hb;obtain ⟨u1,u2,rfl,e1,e2⟩:=List.map_eq_append_iff.1 hu;have hsz:=hp.size;have hl1:u1.length=c.length:=by rw[<-e1,List.length_map]
  have hl2:u2.length=3:=by have:=congrArg List.length e2; simpa using this
  simp only[qc,qe,qq] at hb ⊢;cases u2 with
  |nil=>simp at hl2
  |cons t2 u2=>
  obtain ⟨k,hk,h⟩:=ih u1 e1 t2 (u2++t::r) (by simp only[qc,qe] at hb ⊢; omega);have hst:=zawp (q:=p) hw ha hq (by omega) (by omega) (by omega) e2 (fuel-k-1) t r;refine ⟨k+1,by simp only[qe]; omega,?_⟩;rw[qp,h];have e:fuel-k=(fuel-k-1)+1:=by unfold fuel; omega
  rw[e,<-qp,hst];rfl
 |@thread p c d w a b hp hw ha hbd ih=>
  intro u hu t r hb;obtain ⟨u1,u2,rfl,e1,e2⟩:=List.map_eq_append_iff.1 hu;have hsz:=hp.size;have hl1:u1.length=c.length:=by rw[<-e1,List.length_map]
  simp only[qc,qe,qq] at hb ⊢;cases u2 with
  |nil=>simp at e2
  |cons t2 u2=>
  obtain ⟨k,hk,h⟩:=ih u1 e1 t2 (u2++t::r) (by simp only[qc,qe] at hb ⊢; omega);have hst:=zauz (q:=p) hw ha hbd (by omega) (by omega) (by omega) e2 (fuel-k-1) t r (by simp only[qc,qe] at hb ⊢; omega);refine ⟨k+1,by simp only[qe]; omega,?_⟩;rw[qp,h];have e:fuel-k=(fuel-k-1)+1:=by unfold fuel; omega
  rw[e,<-qp,hst];rfl
theorem name0:qaw []=none:=by
 rw[qaw,zaaa];unfold qaw_f;rw[qay,zaaa];unfold qay_f;rw[qax,zaaa];rfl
theorem zaum {t:Token} (hk:t.kind≠5) (f:Nat) (q:TProg) (p:TProg) (z:List Token):progL (f+1) [t] q≠some (ok2 p z):=by
 show qaA_t2 (qaA_i2 f) [t] q.cells q.mutexes q.threads≠_;unfold qaA_t2;rw[next1,Option.bind_some];dsimp only;have e5:(t.kind != 5)=true:=by simp[hk]
 rw[e5,qg,took1];cases h1:hit [99,101,108,108] t with
 |true=>
  rw[Option.bind_some];dsimp only[cond_true];rw[name0];intro h;cases h
 |false=>
  rw[Option.bind_some];dsimp only[cond_false];rw[took1];cases h2:hit [109,117,116,101,120] t with
  |true=>
   rw[Option.bind_some];dsimp only[cond_true];rw[name0];intro h;cases h
  |false=>
   rw[Option.bind_some];dsimp only[cond_false];rw[want1];cases h3:hit [116,104,114,101,97,100] t with
   |true=>
    rw[Option.bind_some];dsimp only[cond_true];rw[name0];intro h;cases h
   |false=>
    intro h;cases h
theorem zaym {l:List Token} {e:Token} (he:e.kind=5) (hb:(l++[e]).length<1000000) {p:TProg} {z:List Token} (h:qaA (l++[e])=some (okP p z)) (hl:∀ t∈l,t.kind≠5):DP p (l.map core):=by
 obtain ⟨u,t,r,h1,h2,h3⟩:=zaro (l++[e]) ⟨l,e,rfl,he⟩ hb;rcases h3 with ⟨x,c,h3⟩|h3
 ·have h4:qaA (u++t::r)=_:=h3 u t r rfl rfl;rw[<-h1,h] at h4;simp only[qk] at h4;have hx:x=p:=by
   unfold okP at h4;simp only[Sum.inl.injEq,xa] at h4;obtain ⟨_,a,b,c⟩:=h4;obtain ⟨x1,x2,x3⟩:=x;obtain ⟨p1,p2,p3⟩:=p;simp only at a b c;rw[a,b,c]
  subst hx;by_cases hk:t.kind=5
  ·have:r=[]/\u=l:=by
    rcases List.eq_nil_or_concat r with hr|⟨r',b,hr⟩
    ·subst hr;exact ⟨rfl,(List.append_inj_left' h1 rfl).symm⟩
    ·exfalso;subst hr;have h5:l++[e]=(u++t::r')++[b]:=by rw[h1]; simp
     have h6:=List.append_inj_left' h5 rfl;exact hl t (by rw[h6]; simp) hk
   rw[<-this.2];exact c
  ·exfalso;have h5:qaA (u++t::[])=_:=h3 u t [] rfl rfl;have hlen:(u++[t]).length<1000000:=by
    have:=congrArg List.length h1;simp only[qc,qe,qr] at this hb ⊢;omega
   rw[qaA,zaaa] at h5;unfold qaA_f at h5;rw[qaA_l2,zaaa] at h5;obtain ⟨k,hk2,h6⟩:=zaw8 c u rfl t [] hlen;have h6':qaA_i2 fuel (u++[t]) [] [] []=_:=h6;rw[h6'] at h5;simp only[qc] at hlen;obtain ⟨f,hf⟩:∃ f,fuel-k=f+1:=⟨fuel-k-1,by unfold fuel; omega⟩;rw[hf] at h5;cases hq:progL (f+1) [t] x with
   |none=>rw[hq] at h5; cases h5
   |some y=>
    rw[hq] at h5;cases y with
    |inl w=>cases h5
    |inr y=>
     obtain ⟨y1,y2,y3,y4⟩:=y;exact zaum hk f x ⟨y2,y3,y4⟩ y1 hq
 ·have h4:qaA (u++t::r)=_:=h3 u t r rfl rfl;rw[<-h1,h] at h4;cases h4
section
variable {L:List Token} {n:Nat} {t:Token} {r:List Token}
theorem atGet (h:L.drop n=t::r):L[n]? = some t:=by
 have h1:=congrArg (fun l:List Token=>l[0]?) h;simpa using h1
theorem atLt (h:L.drop n=t::r):n<L.length:=(xr.1 (atGet h)).1
theorem zaaz (h:L.drop n=t::r):L.drop (n+1)=r:=by
 have:L.drop (n+1)=(L.drop n).drop 1:=by rw[List.drop_drop]
 rw[this,h]; rfl
theorem zac6 {u z:List Token} (h:L.drop n=u++z):L.drop (n+u.length)=z:=by
 rw[<-List.drop_drop,h,List.drop_left]
theorem inG (h:L.drop n=t::r):(decide ((0:Int)<=(n:Int))&&decide ((n:Int)<(↑(List.length L):Int)))=true:=by
 have:=atLt h;simp only[qd,qj];omega
theorem step1 (h:L.drop n=t::r) (hb:L.length<1000000):IntKind.wrap IntKind.i64 ((n:Int)+(1:Int))=((n+1:Nat):Int):=by
 have:=atLt h;rw[i64_in _ (by omega)]; omega
theorem rIs (s:List UInt8) (h:L.drop n=t::r):qbo s (n:Int) false L=some (hit s t,(n:Int),false,L):=by
 rw[qbo,zaaa];unfold qbo_f hit;rw[inG h,qg,xt,atGet h,qa];cases t.kind==4<;>cases t.kind==3<;>rfl
theorem zach {s:List UInt8} (h:L.drop n=t::r) (hb:L.length<1000000) (hh:hit s t=true):qbu s (n:Int) false L=some (true,((n+1:Nat):Int),false,L):=by
 rw[qbu,zaaa];unfold qbu_f;rw[rIs s h,Option.bind_some];dsimp only;rw[hh,cond_true,step1 h hb]
theorem zabp {s:List UInt8} (h:L.drop n=t::r) (hh:hit s t=false):qbu s (n:Int) false L=some (false,(n:Int),false,L):=by
 rw[qbu,zaaa];unfold qbu_f;rw[rIs s h,Option.bind_some];dsimp only;rw[hh,cond_false]
theorem rWant {s:List UInt8} (h:L.drop n=t::r) (hb:L.length<1000000) (hh:hit s t=true):qbw s (n:Int) false L=some (((n+1:Nat):Int),false,L):=by
 rw[qbw,zaaa];unfold qbw_f;rw[zach h hb hh,qa];rfl
theorem rName (h:L.drop n=t::r) (hb:L.length<1000000) (hk:t.kind=1):qbp (n:Int) false L=some (t.text,((n+1:Nat):Int),false,L):=by
 rw[qbp,zaaa];unfold qbp_f;rw[inG h,qg,xt,atGet h,qa];have e:(t.kind != 1)=false:=by simp[hk]
 simp only[e,qf,qa];rw[step1 h hb]
theorem zalk {most:Int} (h:L.drop n=t::r) (hb:L.length<1000000) (hk:t.kind=2) (hm:t.num<=most):qbq most (n:Int) false L=some (t.num,((n+1:Nat):Int),false,L):=by
 rw[qbq,zaaa];unfold qbq_f;rw[inG h,qg,xt,atGet h,qa];have e:(t.kind != 2)=false:=by simp[hk]
 have e2:decide (t.num>most)=false:=by simp; omega
 simp only[e,e2,qf,qa];rw[step1 h hb]
end
abbrev RX:=Int×Int×(List UInt8)×Int×Bool×(List TExpr)×(List Token)
abbrev EX:=Int->Int->Bool->List Token->Option RX
def LVk (l:Nat):List (List UInt8×Int):=(LV[l]?).getD []
theorem za07 (E:EX):∀ l,l<5->qbk E ((l+1:Nat):Int)=some ((LVk l).map Prod.fst,(LVk l).map Prod.snd):=by
 intro l hl;rw[qbk,zaaa];match l,hl with
 |0,_=>rfl
 |1,_=>rfl
 |2,_=>rfl
 |3,_=>rfl
 |4,_=>rfl
theorem zatl (l:Nat):(LVk l).length<=6:=by
 unfold LVk;by_cases h:l<5
 ·match l,h with
  |0,_=>decide
  |1,_=>decide
  |2,_=>decide
  |3,_=>decide
  |4,_=>decide
 ·have:LV[l]? = none:=List.getElem?_eq_none (by show 5<=l; omega);rw[this]; decide
theorem zazt:∀ l,l<5->∀ y∈LVk l,y.2≠0:=by
 intro l hl;match l,hl with
 |0,_=>decide
 |1,_=>decide
 |2,_=>decide
 |3,_=>decide
 |4,_=>decide
theorem zaxn (E:EX) {L:List Token} {n:Nat} {t:Token} {r:List Token} (h:L.drop n=t::r) (hb:L.length<1000000) (M:List (List UInt8×Int)) (hM:M.length<=6):∀ (k f i:Nat),i+k=M.length->k<f ->
  qbs_i3 E f (i:Int) (n:Int) false (M.map Prod.fst) (M.map Prod.snd) L=some (match (M.drop i).find? (fun y=>hit y.1 t) with|some y=>.inl (y.2,((n+1:Nat):Int),false,L)|none=>.inr ((n:Int),false,L)):=by
 intro k;induction k with
 |zero=>
  intro f i hi hf;obtain ⟨f,rfl⟩:∃ q,f=q+1:=⟨f-1,by omega⟩;show qbs_t3 E (qbs_i3 E f) _ _ _ _ _ _=_;unfold qbs_t3;have e1:decide ((i:Int)<(↑(List.length (M.map Prod.fst)):Int))=false:=by simp; omega
  rw[e1,qf,List.drop_eq_nil_of_le (by omega)];rfl
 |succ k ih=>
  intro f i hi hf;obtain ⟨f,rfl⟩:∃ q,f=q+1:=⟨f-1,by omega⟩;show qbs_t3 E (qbs_i3 E f) _ _ _ _ _ _=_;unfold qbs_t3;have hlt:i<M.length:=by omega
  have e1:decide ((i:Int)<(↑(List.length (M.map Prod.fst)):Int))=true:=by simp; omega
  have e2:(decide ((0:Int)<=(i:Int))&&decide ((i:Int)<(↑(List.length (M.map Prod.fst)):Int)))=true:=by simp; omega
  have e3:(decide ((0:Int)<=(i:Int))&&decide ((i:Int)<(↑(List.length (M.map Prod.snd)):Int)))=true:=by simp; omega
  have g1:(M.map Prod.fst)[i]? = some M[i].1:=by rw[List.getElem?_map,xp hlt]; rfl
  have g2:(M.map Prod.snd)[i]? = some M[i].2:=by rw[List.getElem?_map,xp hlt]; rfl
  rw[e2,e1,qg,qg,xt,g1,qa,List.drop_eq_getElem_cons hlt,List.find?_cons];cases hh:hit M[i].1 t with
  |true=>
   rw[zach h hb hh,Option.bind_some];dsimp only;rw[cond_true,e3,cond_true,g2,Option.bind_some]
  |false=>
   rw[zabp h hh,Option.bind_some];dsimp only;rw[cond_false];have hw:IntKind.wrap IntKind.i64 ((i:Int)+(1:Int))=((i+1:Nat):Int):=by rw[i64_in _ (by omega)]; omega
   rw[hw];exact ih f (i+1) (by omega) (by omega)
theorem rSign (E:EX) {L:List Token} {n l:Nat} {t:Token} {r:List Token} (h:L.drop n=t::r) (hb:L.length<1000000) (hl:l<5) :
  qbs E ((l+1:Nat):Int) (n:Int) false L=some (match (LVk l).find? (fun y=>hit y.1 t) with|some y=>(y.2,((n+1:Nat):Int),false,L)|none=>(0,(n:Int),false,L)):=by
 rw[qbs,zaaa];unfold qbs_f;rw[za07 E l hl,qa,qbs_l3,zaaa];have:=zaxn E h hb (LVk l) (zatl l) (LVk l).length fuel 0 (by omega) (by have:=zatl l; unfold fuel; omega);rw[List.drop_zero] at this;have h0:((0:Nat):Int)=(0:Int):=rfl;rw[h0] at this;rw[this,qa];cases (LVk l).find? (fun y=>hit y.1 t)<;>rfl
theorem za0x (E:EX) {L:List Token} {n l:Nat} {t:Token} {r:List Token} {k:Int} (h:L.drop n=t::r) (hb:L.length<1000000) (hl:l<5) (ho:opAt l (core t)=some k) :
  qbs E ((l+1:Nat):Int) (n:Int) false L=some (k,((n+1:Nat):Int),false,L)/\k≠0:=by
 rw[rSign E h hb hl];unfold opAt at ho;split at ho
 ·rename_i hk;have hk:t.kind=3:=hk;have hg:LV[l]? = some (LVk l):=by
   unfold LVk;have:l<LV.length:=by show l<5; exact hl
   rw[xp this]; rfl
  rw[hg,qa] at ho;unfold mapAt at ho;have e:(fun y:List UInt8×Int=>hit y.1 t)=fun y=>y.1==(core t).2.1:=by
   funext y;unfold hit;have e1:(t.kind==4)=false:=by simp[hk]
   have e2:(t.kind==3)=true:=by simp[hk]
   rw[e1,e2];show (true&&t.text==y.1)=(y.1==t.text);rw[Bool.true_and,Bool.eq_iff_iff,beq_iff_eq,beq_iff_eq];exact ⟨fun h=>h.symm,fun h=>h.symm⟩
  rw[e];cases hf:(LVk l).find? (fun y=>y.1==(core t).2.1) with
  |none=>rw[hf] at ho; cases ho
  |some y=>
   rw[hf] at ho;simp only[Option.map_some,qk] at ho;subst ho;exact ⟨rfl,zazt l hl y (List.mem_of_find?_eq_some hf)⟩
 ·cases ho
theorem za0q (E:EX) {L:List Token} {n l:Nat} {t:Token} {r:List Token} (h:L.drop n=t::r) (hb:L.length<1000000) (hl:l<5) (hs:∀ y∈LVk l,hit y.1 t=false) :
  qbs E ((l+1:Nat):Int) (n:Int) false L=some (0,(n:Int),false,L):=by
 rw[rSign E h hb hl];have:(LVk l).find? (fun y=>hit y.1 t)=none:=List.find?_eq_none.2 (fun y hy=>by rw[hs y hy]; decide);rw[this]
def stopR (l:Nat) (t:Token):Prop:=∀ j,l<=j->j<5->∀ y∈LVk j,hit y.1 t=false
theorem stopR.monoR {l m:Nat} {t:Token} (h:stopR l t) (hl:l<=m):stopR m t:=fun j h1 h2=>h j (by omega) h2
theorem zazy (i:Nat) (hi:i<5) (j:Nat) (hj:j<5) (hne:i≠j) (y:List UInt8×Int) (hy:y∈LVk i) (z:List UInt8×Int) (hz:z∈LVk j):z.1≠y.1:=by
 intro he;have h:mapAt (LVk j) y.1=none:=zawe i hi j hj hne y hy;unfold mapAt at h;simp only[Option.map_eq_none_iff] at h;have:=List.find?_eq_none.1 h z hz;simp[he] at this
theorem za0y (s:List UInt8) (hs:∀ j,j<5->(LV[j]?).bind (fun M=>mapAt M s)=none):∀ j,j<5->∀ y∈LVk j,y.1≠s:=by
 intro j hj y hy he;have hg:LV[j]? = some (LVk j):=by
  unfold LVk;have:j<LV.length:=by show j<5; exact hj
  rw[xp this]; rfl
 have h:=hs j hj;rw[hg,qa] at h;unfold mapAt at h;simp only[Option.map_eq_none_iff] at h;have:=List.find?_eq_none.1 h y hy;simp[he] at this
theorem zarb {l:Nat} {t:Token} {k:Int} (h:opAt l (core t)=some k) (hl:l<5):stopR (l+1) t:=by
 intro j h1 h2 y hy;unfold opAt at h;split at h
 ·rename_i hk;have hg:LV[l]? = some (LVk l):=by
   unfold LVk;have:l<LV.length:=by show l<5; exact hl
   rw[xp this]; rfl
  rw[hg,qa] at h;have hm:=zakw h;have hne:=zazy l hl j h2 (by omega) _ hm y hy;unfold hit;have:(t.text==y.1)=false:=by simpa using fun e=>hne e.symm
  rw[this,Bool.and_false]
 ·cases h
theorem zad0 {s:List UInt8} (hs:∀ j,j<5->(LV[j]?).bind (fun M=>mapAt M s)=none) {t:Token} (h:hit s t=true):stopR 0 t:=by
 intro j _ hj y hy;exact zaak h (fun e=>za0y s hs j hj y hy e.symm)
def okR (L:List Token) (x:TExpr) (m:Nat):RX:=(x.kind,x.num,x.name,(m:Int),false,x.args,L)
abbrev R4X:=Int×Bool×Int×Int×(List UInt8)×Int×Int×(List UInt8)×(List Token)×(List TExpr)
def ok4 (L:List Token) (x:TExpr) (m:Nat):R4X:=((m:Int),false,0,0,[],x.kind,x.num,x.name,L,x.args)
def finR (y2:R4X):Option RX:=some ((Prod.fst (Prod.snd (Prod.snd (Prod.snd (Prod.snd (Prod.snd y2)))))),(Prod.fst (Prod.snd (Prod.snd (Prod.snd (Prod.snd (Prod.snd (Prod.snd y2))))))),(Prod.fst (Prod.snd (Prod.snd (Prod.snd (Prod.snd (Prod.snd (Prod.snd (Prod.snd y2)))))))),(Prod.fst y2),(Prod.fst (Prod.snd y2)),(Prod.snd (Prod.snd (Prod.snd (Prod.snd (Prod.snd (Prod.snd (Prod.snd (Prod.snd (Prod.snd y2))))))))),(Prod.fst (Prod.snd (Prod.snd (Prod.snd (Prod.snd (Prod.snd (Prod.snd (Prod.snd (Prod.snd y2))))))))))
theorem zat2 (L:List Token) (x:TExpr) (m:Nat):finR (ok4 L x m)=some (okR L x m):=rfl
noncomputable abbrev loopX (L:List Token) (E:EX) (f l m:Nat) (x:TExpr):Option R4X:=qbn_i4 E f ((l+1:Nat):Int) (m:Int) false 0 0 [] x.kind x.num x.name L x.args
theorem zaun {L:List Token} {E:EX} {f l m:Nat} {t:Token} {r:List Token} {x:TExpr} (h:L.drop m=t::r) (hb:L.length<1000000) (hl:l<5) (hs:∀ y∈LVk l,hit y.1 t=false) :
  loopX L E (f+1) l m x=some (ok4 L x m):=by
 show qbn_t4 E (qbn_i4 E f) _ _ _ _ _ _ _ _ _ _ _=_;unfold qbn_t4;rw[xd,qg,za0q E h hb hl hs,qa];rfl
theorem zari {L:List Token} {E:EX} {f l m m':Nat} {t:Token} {r:List Token} {x y:TExpr} {k:Int} (h:L.drop m=t::r) (hb:L.length<1000000) (hl:l<5) (ho:opAt l (core t)=some k)
  (hE:E ((l+1+1:Nat):Int) ((m+1:Nat):Int) false L=some (okR L y m')) :
  loopX L E (f+1) l m x=if l=2 then some (ok4 L ⟨k,0,[],[x,y]⟩ m') else loopX L E f l m' ⟨k,0,[],[x,y]⟩:=by
 show qbn_t4 E (qbn_i4 E f) _ _ _ _ _ _ _ _ _ _ _=_;unfold qbn_t4;obtain ⟨h1,h2⟩:=za0x E h hb hl ho;rw[Bool.not_false,cond_true,h1,Option.bind_some];dsimp only;have e:(k==0)=false:=by simpa using h2
 have hw:IntKind.wrap IntKind.i64 (((l+1:Nat):Int)+(1:Int))=((l+1+1:Nat):Int):=by rw[i64_in _ (by omega)]; omega
 rw[e,cond_false,hw,hE,Option.bind_some];dsimp only[okR];rw[zaaw,zaaw];by_cases h3:l=2
 ·subst h3; rfl
 ·have e4:(((l+1:Nat):Int)==3)=false:=by simp; omega
  rw[if_neg h3,e4,qf]
theorem zapl {L:List Token} {N l n m:Nat} {x:TExpr} (hl:l<5) (h:qbn_i N ((l+1+1:Nat):Int) (n:Int) false L=some (okR L x m)) :
  qbn_i (N+1) ((l+1:Nat):Int) (n:Int) false L=Option.bind (loopX L (qbn_i N) fuel l m x) finR:=by
 show qbn_f (qbn_i N) _ _ _ _=_;unfold qbn_f;have e1:(((l+1:Nat):Int)==6)=false:=by simp; omega
 have hw:IntKind.wrap IntKind.i64 (((l+1:Nat):Int)+(1:Int))=((l+1+1:Nat):Int):=by rw[i64_in _ (by omega)]; omega
 rw[e1,cond_false,hw,h,Option.bind_some];dsimp only[okR];rw[qbn_l4,zaaa];rfl
theorem zaw7 {L:List Token} {N n m:Nat} {x:TExpr} (h:qbv_i (qbn_i N) fuel (n:Int) false L=some (okR L x m)) :
  qbn_i (N+1) ((5+1:Nat):Int) (n:Int) false L=some (okR L x m):=by
 show qbn_f (qbn_i N) _ _ _ _=_;unfold qbn_f;have e1:(((5+1:Nat):Int)==6)=true:=by rfl
 rw[e1,qg,qbv,zaaa,h,qa]
structure CompX (l:Nat) (x:TExpr) (c:List Tk):Prop where
 lv:l<=5
 op:l<5->l≠2->∀ (L:List Token) (n:Nat) (u:List Token) (t:Token) (r:List Token) (N:Nat),L.drop n=u++t::r->u.map core=c->10*(u++t::r).length+(5-l)<=N->L.length<1000000->stopR (l+1) t ->
  ∃ i,i<=u.length/\qbn_i (N+1) ((l+1:Nat):Int) (n:Int) false L=Option.bind (loopX L (qbn_i N) (fuel-i) l (n+u.length) x) finR
 un:l=5->∀ (L:List Token) (n:Nat) (u:List Token) (t:Token) (r:List Token) (N f:Nat),L.drop n=u++t::r->u.map core=c->10*(u++t::r).length<=N->L.length<1000000->u.length<=f->qbv_i (qbn_i N) f (n:Int) false L=some (okR L x (n+u.length))
 all:∀ (L:List Token) (n:Nat) (u:List Token) (t:Token) (r:List Token) (N:Nat),L.drop n=u++t::r->u.map core=c->10*(u++t::r).length+(5-l)<N->L.length<1000000->stopR l t->qbn_i N ((l+1:Nat):Int) (n:Int) false L=some (okR L x (n+u.length))
theorem zald {L u:List Token} {n:Nat} {t:Token} {r:List Token} (h:L.drop n=u++t::r):u.length<L.length:=by
 have:=congrArg List.length h;simp only[List.length_drop,qc,qe] at this;omega
theorem zanv {l:Nat} {x:TExpr} {c:List Tk} (hl:l<5) (op:∀ (L:List Token) (n:Nat) (u:List Token) (t:Token) (r:List Token) (N:Nat),L.drop n=u++t::r->u.map core=c->10*(u++t::r).length+(5-l)<=N->L.length<1000000->stopR (l+1) t ->
  ∃ i,i<=u.length/\qbn_i (N+1) ((l+1:Nat):Int) (n:Int) false L=Option.bind (loopX L (qbn_i N) (fuel-i) l (n+u.length) x) finR) :
  ∀ (L:List Token) (n:Nat) (u:List Token) (t:Token) (r:List Token) (N:Nat),L.drop n=u++t::r->u.map core=c->10*(u++t::r).length+(5-l)<N->L.length<1000000->stopR l t->qbn_i N ((l+1:Nat):Int) (n:Int) false L=some (okR L x (n+u.length)):=by
 intro L n u t r N hd hu hN hb hs;obtain ⟨N,rfl⟩:∃ q,N=q+1:=⟨N-1,by omega⟩;obtain ⟨i,hi,h⟩:=op L n u t r N hd hu (by omega) hb (hs.monoR (by omega));rw[h];have hlen:=zald hd;obtain ⟨f,hf⟩:∃ f,fuel-i=f+1:=⟨fuel-i-1,by unfold fuel; omega⟩;rw[hf,zaun (zac6 hd) hb hl (hs l (qz _) hl),qa,zat2]
theorem zafo {x:TExpr} {c:List Tk} (un:∀ (L:List Token) (n:Nat) (u:List Token) (t:Token) (r:List Token) (N f:Nat),L.drop n=u++t::r->u.map core=c->10*(u++t::r).length<=N->L.length<1000000->u.length<=f->qbv_i (qbn_i N) f (n:Int) false L=some (okR L x (n+u.length))) :
  ∀ (L:List Token) (n:Nat) (u:List Token) (t:Token) (r:List Token) (N:Nat),L.drop n=u++t::r->u.map core=c->10*(u++t::r).length+(5-5)<N->L.length<1000000->stopR 5 t->qbn_i N ((5+1:Nat):Int) (n:Int) false L=some (okR L x (n+u.length)):=by
 intro L n u t r N hd hu hN hb hs;obtain ⟨N,rfl⟩:∃ q,N=q+1:=⟨N-1,by omega⟩;have hlen:=zald hd;exact zaw7 (un L n u t r N fuel hd hu (by omega) hb (by unfold fuel; omega))
theorem DE.compX {l:Nat} {x:TExpr} {c:List Tk} (h:DE l x c):CompX l x c:=by
 induction h with
 |@up l x c hl hd ih=>
  have op:∀ (L:List Token) (n:Nat) (u:List Token) (t:Token) (r:List Token) (N:Nat),L.drop n=u++t::r->u.map core=c->10*(u++t::r).length+(5-l)<=N->L.length<1000000->stopR (l+1) t ->
    ∃ i,i<=u.length/\qbn_i (N+1) ((l+1:Nat):Int) (n:Int) false L=Option.bind (loopX L (qbn_i N) (fuel-i) l (n+u.length) x) finR:=by
   intro L n u t r N hd hu hN hb hs;exact ⟨0,Nat.zero_le _,zapl hl (ih.all L n u t r N hd hu (by omega) hb hs)⟩
  exact ⟨by omega,fun _ _=>op,fun h=>by omega,zanv hl op⟩
 |@bin l x y c d o k hl h2 hx ho hy ihx ihy=>
  have op:∀ (L:List Token) (n:Nat) (u:List Token) (t:Token) (r:List Token) (N:Nat),L.drop n=u++t::r->u.map core=c++o::d->10*(u++t::r).length+(5-l)<=N->L.length<1000000->stopR (l+1) t ->
    ∃ i,i<=u.length/\qbn_i (N+1) ((l+1:Nat):Int) (n:Int) false L=Option.bind (loopX L (qbn_i N) (fuel-i) l (n+u.length) ⟨k,0,[],[x,y]⟩) finR:=by
   intro L n u t r N hd hu hN hb hs;obtain ⟨u1,t1,u2,rfl,e1,rfl,e3⟩:=zadc hu;have hlen:(u1++t1::u2++t::r)=u1++t1::(u2++t::r):=by simp
   rw[hlen] at hN hd;obtain ⟨i,hi,h⟩:=ihx.op hl h2 L n u1 t1 (u2++t::r) N hd e1 hN hb (zarb ho hl);have hd1:L.drop (n+u1.length)=t1::(u2++t::r):=zac6 hd;have hd2:L.drop (n+u1.length+1)=u2++t::r:=zaaz hd1;have hsub:(u2++t::r).length<(u1++t1::(u2++t::r)).length:=by simp only[qc,qe]; omega
   have hb2:=zald hd;have hy2:=ihy.all L (n+u1.length+1) u2 t r N hd2 e3 (by omega) hb hs;refine ⟨i+1,by simp only[qc,qe]; omega,?_⟩;rw[h];obtain ⟨f,hf⟩:∃ f,fuel-i=f+1:=⟨fuel-i-1,by unfold fuel; omega⟩;rw[hf,zari hd1 hb hl ho hy2,if_neg h2];have e4:fuel-(i+1)=f:=by omega
   have e5:n+(u1++t1::u2).length=n+u1.length+1+u2.length:=by simp only[qc,qe]; omega
   rw[e4,e5]
  exact ⟨by omega,fun _ _=>op,fun h=>by omega,zanv hl op⟩
 |@cmp x y c d o k hx ho hy ihx ihy=>
  refine ⟨by omega,fun _ h=>absurd rfl h,fun h=>by omega,?_⟩;intro L n u t r N hd hu hN hb hs;obtain ⟨N,rfl⟩:∃ q,N=q+1:=⟨N-1,by omega⟩;obtain ⟨u1,t1,u2,rfl,e1,rfl,e3⟩:=zadc hu;have hlen:(u1++t1::u2++t::r)=u1++t1::(u2++t::r):=by simp
  rw[hlen] at hN hd;have hd1:L.drop (n+u1.length)=t1::(u2++t::r):=zac6 hd;have hd2:L.drop (n+u1.length+1)=u2++t::r:=zaaz hd1;have hsub:(u2++t::r).length<(u1++t1::(u2++t::r)).length:=by simp only[qc,qe]; omega
  rw[zapl (by omega) (ihx.all L n u1 t1 (u2++t::r) N hd e1 (by omega) hb (zarb ho (by omega)))];have hy2:=ihy.all L (n+u1.length+1) u2 t r N hd2 e3 (by omega) hb (hs.monoR (by omega));have hf:fuel=(fuel-1)+1:=rfl;rw[hf,zari hd1 hb (by omega) ho hy2,if_pos rfl,qa,zat2];have e5:n+(u1++t1::u2).length=n+u1.length+1+u2.length:=by simp only[qc,qe]; omega
  rw[e5]
 |@neg x c o ho hd ih=>
  have un:∀ (L:List Token) (n:Nat) (u:List Token) (t:Token) (r:List Token) (N f:Nat),L.drop n=u++t::r->u.map core=o::c->10*(u++t::r).length<=N->L.length<1000000->u.length<=f->qbv_i (qbn_i N) f (n:Int) false L=some (okR L ⟨3,0,[],[x]⟩ (n+u.length)):=by
   intro L n u t r N f hd hu hN hb hf;obtain ⟨t1,u1,rfl,rfl,e2⟩:=List.map_eq_cons_iff.1 hu;simp only[List.cons_append,List.length_cons] at hN hf hd;obtain ⟨f,rfl⟩:∃ q,f=q+1:=⟨f-1,by omega⟩;have h1:=ih.un rfl L (n+1) u1 t r N f (zaaz hd) e2 (by omega) hb (by omega);show qbv_f (qbv_i (qbn_i N) f) (qbn_i N) _ _ _=_;unfold qbv_f;rw[hit_c] at ho;rw[zach hd hb ho,Option.bind_some];dsimp only;rw[cond_true,h1,Option.bind_some];dsimp only[okR];rw[zaaw,List.length_cons,show n+1+u1.length=n+(u1.length+1) by omega]
  exact ⟨by omega,fun h=>by omega,fun _=>un,zafo un⟩
 |@not x c o ho hd ih=>
  have un:∀ (L:List Token) (n:Nat) (u:List Token) (t:Token) (r:List Token) (N f:Nat),L.drop n=u++t::r->u.map core=o::c->10*(u++t::r).length<=N->L.length<1000000->u.length<=f->qbv_i (qbn_i N) f (n:Int) false L=some (okR L ⟨4,0,[],[x]⟩ (n+u.length)):=by
   intro L n u t r N f hd hu hN hb hf;obtain ⟨t1,u1,rfl,rfl,e2⟩:=List.map_eq_cons_iff.1 hu;simp only[List.cons_append,List.length_cons] at hN hf hd;obtain ⟨f,rfl⟩:∃ q,f=q+1:=⟨f-1,by omega⟩;have h1:=ih.un rfl L (n+1) u1 t r N f (zaaz hd) e2 (by omega) hb (by omega);show qbv_f (qbv_i (qbn_i N) f) (qbn_i N) _ _ _=_;unfold qbv_f;rw[hit_c] at ho;rw[zabp hd (zaak ho (by decide)),Option.bind_some];dsimp only;rw[cond_false,zach hd hb ho,Option.bind_some];dsimp only;rw[cond_true,h1,Option.bind_some];dsimp only[okR];rw[zaaw,List.length_cons,show n+1+u1.length=n+(u1.length+1) by omega]
  exact ⟨by omega,fun h=>by omega,fun _=>un,zafo un⟩
 |@par x c o q ho hq hd ih=>
  have un:∀ (L:List Token) (n:Nat) (u:List Token) (t:Token) (r:List Token) (N f:Nat),L.drop n=u++t::r->u.map core=o::(c++[q])->10*(u++t::r).length<=N->L.length<1000000->u.length<=f->qbv_i (qbn_i N) f (n:Int) false L=some (okR L x (n+u.length)):=by
   intro L n u t r N f hd hu hN hb hf;obtain ⟨t1,u1,rfl,rfl,e2⟩:=qh.1 hu;obtain ⟨u2,t2,u3,rfl,e3,rfl,e4⟩:=zadc e2;have:u3=[]:=by simpa using e4
   subst this;simp only[List.cons_append,List.append_assoc,List.nil_append] at hd;simp only[List.length_cons,List.length_append,List.length_nil] at hN hf;obtain ⟨f,rfl⟩:∃ q,f=q+1:=⟨f-1,by omega⟩;rw[hit_c] at ho hq;have hd1:L.drop (n+1)=u2++t2::(t::r):=zaaz hd;have hd2:L.drop (n+1+u2.length)=t2::(t::r):=zac6 hd1;have h1:=ih.all L (n+1) u2 t2 (t::r) N hd1 e3 (by simp only[List.length_append,List.length_cons]; omega) hb (zad0 LV_41 hq);show qbv_f (qbv_i (qbn_i N) f) (qbn_i N) _ _ _=_;unfold qbv_f;rw[zabp hd (zaak ho (by decide)),Option.bind_some];dsimp only;rw[cond_false,zabp hd (zaak ho (by decide)),Option.bind_some];dsimp only;rw[cond_false,zach hd hb ho,Option.bind_some];dsimp only;have h1':qbn_i N 1 ((n+1:Nat):Int) false L=some (okR L x (n+1+u2.length)):=h1;rw[cond_true,h1',Option.bind_some];dsimp only[okR];rw[rWant hd2 hb hq,Option.bind_some];dsimp only;rw[show n+(t1::(u2++[t2])).length=n+1+u2.length+1 by simp only[List.length_cons,List.length_append,List.length_nil]; omega]
  exact ⟨by omega,fun h=>by omega,fun _=>un,zafo un⟩
 |@num o hk=>
  have un:∀ (L:List Token) (n:Nat) (u:List Token) (t:Token) (r:List Token) (N f:Nat),L.drop n=u++t::r->u.map core=[o]->10*(u++t::r).length<=N->L.length<1000000->u.length<=f->qbv_i (qbn_i N) f (n:Int) false L=some (okR L ⟨1,o.2.2,[],[]⟩ (n+u.length)):=by
   intro L n u t r N f hd hu hN hb hf;obtain ⟨t1,u1,rfl,rfl,e2⟩:=qh.1 hu;have:u1=[]:=by simpa using e2
   subst this;simp only[qe] at hf;simp only[qp,qu] at hd;obtain ⟨f,rfl⟩:∃ q,f=q+1:=⟨f-1,by omega⟩;have hk':t1.kind=2:=hk;have hh:∀ s,hit s t1=false:=fun s=>zah1 (by rw[hk']; decide) (by rw[hk']; decide)
   show qbv_f (qbv_i (qbn_i N) f) (qbn_i N) _ _ _=_;unfold qbv_f;rw[zabp hd (hh _),Option.bind_some];dsimp only;rw[cond_false,zabp hd (hh _),Option.bind_some];dsimp only;rw[cond_false,zabp hd (hh _),Option.bind_some];dsimp only;have e:(t1.kind==2)=true:=by simp[hk']
   rw[qf,inG hd,qg,xt,atGet hd,qa,e,qg,zalk hd hb hk' (Int.le_refl _),qa];rfl
  exact ⟨by omega,fun h=>by omega,fun _=>un,zafo un⟩
 |@reg o hk=>
  have un:∀ (L:List Token) (n:Nat) (u:List Token) (t:Token) (r:List Token) (N f:Nat),L.drop n=u++t::r->u.map core=[o]->10*(u++t::r).length<=N->L.length<1000000->u.length<=f->qbv_i (qbn_i N) f (n:Int) false L=some (okR L ⟨2,0,o.2.1,[]⟩ (n+u.length)):=by
   intro L n u t r N f hd hu hN hb hf;obtain ⟨t1,u1,rfl,rfl,e2⟩:=qh.1 hu;have:u1=[]:=by simpa using e2
   subst this;simp only[qe] at hf;simp only[qp,qu] at hd;obtain ⟨f,rfl⟩:∃ q,f=q+1:=⟨f-1,by omega⟩;have hk':t1.kind=1:=hk;have hh:∀ s,hit s t1=false:=fun s=>zah1 (by rw[hk']; decide) (by rw[hk']; decide)
   show qbv_f (qbv_i (qbn_i N) f) (qbn_i N) _ _ _=_;unfold qbv_f;rw[zabp hd (hh _),Option.bind_some];dsimp only;rw[cond_false,zabp hd (hh _),Option.bind_some];dsimp only;rw[cond_false,zabp hd (hh _),Option.bind_some];dsimp only;have e:(t1.kind==2)=false:=by simp[hk']
   rw[qf,inG hd,qg,xt,atGet hd,qa,e,qf,rName hd hb hk',qa];rfl
  exact ⟨by omega,fun h=>by omega,fun _=>un,zafo un⟩
theorem exprX {x:TExpr} {c:List Tk} (h:DE 0 x c) {L:List Token} {n:Nat} {u:List Token} {t:Token} {r:List Token} (hd:L.drop n=u++t::r) (hu:u.map core=c) (hs:stopR 0 t) (hb:L.length<1000000) :
  qbn 1 (n:Int) false L=some (okR L x (n+u.length)):=by
 rw[qbn,zaaa];have hl:(u++t::r).length<=L.length:=by rw[<-hd,List.length_drop]; omega
 exact h.compX.all L n u t r fuel hd hu (by unfold fuel; omega) hb hs
abbrev RSX:=Int×(List UInt8)×(List UInt8)×Int×Int×(List UInt8)×Int×Int×Bool×(List TExpr)×(List TStmt)×(List TStmt)×(List Token)
abbrev RBX:=Int×Bool×(List TStmt)×(List Token)
def okSX (L:List Token) (s:TStmt) (m:Nat):RSX:=(s.kind,s.reg,s.name,s.expr.kind,s.expr.num,s.expr.name,s.count,(m:Int),false,s.expr.args,s.then_,s.else_,L)
def okBX (L:List Token) (b:List TStmt) (m:Nat):RBX:=((m:Int),false,b,L)
def G2 (c:List Tk):Prop:=∀ o∈c,(o.1=2->o.2.2<=2147483647)/\(o.1=3->o.2.1.length<=1\/o.2.1∈twos)
theorem G2.l {a b:List Tk} (h:G2 (a++b)):G2 a:=fun o ho=>h o (List.mem_append_left _ ho)
theorem G2.r {a b:List Tk} (h:G2 (a++b)):G2 b:=fun o ho=>h o (List.mem_append_right _ ho)
theorem G2.hd {a:Tk} {b:List Tk} (h:G2 (a::b)):(a.1=2->a.2.2<=2147483647)/\(a.1=3->a.2.1.length<=1\/a.2.1∈twos):=h a List.mem_cons_self
theorem G2.tl {a:Tk} {b:List Tk} (h:G2 (a::b)):G2 b:=fun o ho=>h o (List.mem_cons_of_mem _ ho)
theorem word4 {w:List UInt8} {t:Token} (h:hit w t=true) (hg:t.kind=3->t.text.length<=1\/t.text∈twos) (hw:2<=w.length) (hn:w∉twos):t.kind=4/\t.text=w:=by
 unfold hit at h;simp only[qd,beq_iff_eq] at h;obtain ⟨h1,h2⟩:=h;refine ⟨?_,h2⟩;by_cases h4:t.kind=4
 ·exact h4
 ·have e:(t.kind==4)=false:=by simpa using h4
  rw[e,qf,beq_iff_eq] at h1;rcases hg h1 with h3|h3
  ·rw[h2] at h3; omega
  ·rw[h2] at h3; exact absurd h3 hn
theorem za1a {s:TStmt} {c:List Tk} (h:DS s c) {u:List Token} (hu:u.map core=c) (h1:∃ t u',u=t::u'/\t.kind=1) {L:List Token} {n:Nat} {t:Token} {r:List Token} (hd:L.drop n=u++t::r) (hb:L.length<1000000) :
  qbr (n:Int) false L=some (okSX L s (n+u.length)):=by
 obtain ⟨ta,u',rfl,hk⟩:=h1;have hno:∀ s,hitc s (core ta)=false:=fun s=>by rw[hit_c]; exact zaf4 hk s
 simp only[List.map_cons] at hu;rw[qbr,zaaa];unfold qbr_f;rw[List.cons_append] at hd;rw[rName hd hb hk,Option.bind_some];dsimp only;have hd1:=zaaz hd;cases h with
 |set ha ho hx hq=>
  simp only[List.cons.injEq] at hu;obtain ⟨rfl,hu⟩:=hu;obtain ⟨tq0,u2,rfl,rfl,e2⟩:=List.map_eq_cons_iff.1 hu;obtain ⟨u3,tq,rfl,e3,rfl⟩:=snoc1 e2;rw[hit_c] at ho hq;simp only[List.cons_append,List.append_assoc,List.nil_append] at hd1;have hd2:=zaaz hd1;have hd3:=zac6 hd2;rw[zach hd1 hb ho,Option.bind_some];dsimp only;rw[Bool.not_true,cond_false,cond_true,exprX hx hd2 e3 (zad0 LV_59 hq) hb,Option.bind_some];dsimp only[okR];rw[rWant hd3 hb hq,Option.bind_some];dsimp only;rw[show n+(ta::tq0::(u3++[tq])).length=n+1+1+u3.length+1 by simp only[List.length_cons,List.length_append,List.length_nil]; omega];rfl
 |write ha ho hx hq=>
  simp only[List.cons.injEq] at hu;obtain ⟨rfl,hu⟩:=hu;obtain ⟨tq0,u2,rfl,rfl,e2⟩:=List.map_eq_cons_iff.1 hu;obtain ⟨u3,tq,rfl,e3,rfl⟩:=snoc1 e2;rw[hit_c] at ho hq;simp only[List.cons_append,List.append_assoc,List.nil_append] at hd1;have hd2:=zaaz hd1;have hd3:=zac6 hd2;rw[zabp hd1 (zaak ho (by decide)),Option.bind_some];dsimp only;rw[Bool.not_false,cond_true,zach hd1 hb ho,Option.bind_some];dsimp only;rw[cond_false,cond_true,exprX hx hd2 e3 (zad0 LV_59 hq) hb,Option.bind_some];dsimp only[okR];rw[rWant hd3 hb hq,Option.bind_some];dsimp only;rw[show n+(ta::tq0::(u3++[tq])).length=n+1+1+u3.length+1 by simp only[List.length_cons,List.length_append,List.length_nil]; omega];rfl
 |add ha ho hw hb2 hx hq=>
  simp only[List.cons.injEq] at hu;obtain ⟨rfl,hu⟩:=hu;obtain ⟨tq0,u2,rfl,rfl,e2⟩:=List.map_eq_cons_iff.1 hu;obtain ⟨tw,u3,rfl,rfl,e3⟩:=List.map_eq_cons_iff.1 e2;obtain ⟨tb,u4,rfl,rfl,e4⟩:=List.map_eq_cons_iff.1 e3;obtain ⟨u5,tq,rfl,e5,rfl⟩:=snoc1 e4;rw[hit_c] at ho hq hw;simp only[List.cons_append,List.append_assoc,List.nil_append] at hd1;have hd2:=zaaz hd1;have hd3:=zaaz hd2;have hd4:=zaaz hd3;have hd5:=zac6 hd4;rw[zabp hd1 (zaak ho (by decide)),Option.bind_some];dsimp only;rw[Bool.not_false,cond_true,zabp hd1 (zaak ho (by decide)),Option.bind_some];dsimp only;rw[cond_false,cond_false,rWant hd1 hb ho,Option.bind_some];dsimp only;rw[zach hd2 hb hw,Option.bind_some];dsimp only;rw[rName hd3 hb hb2,Option.bind_some];dsimp only;rw[cond_true,exprX hx hd4 e5 (zad0 LV_59 hq) hb,Option.bind_some];dsimp only[okR];rw[rWant hd5 hb hq,Option.bind_some];dsimp only;rw[show n+(ta::tq0::tw::tb::(u5++[tq])).length=n+1+1+1+1+u5.length+1 by simp only[List.length_cons,List.length_append,List.length_nil]; omega];rfl
 |read ha ho hb2 hq=>
  simp only[xh] at hu;obtain ⟨rfl,hu⟩:=hu;obtain ⟨tq0,u2,rfl,rfl,e2⟩:=qh.1 hu;obtain ⟨tb,u3,rfl,rfl,e3⟩:=qh.1 e2;obtain ⟨tq,u4,rfl,rfl,e4⟩:=qh.1 e3;have:u4=[]:=by simpa using e4
  subst this;rw[hit_c] at ho hq;simp only[List.cons_append,List.append_assoc,List.nil_append] at hd1;have hd2:=zaaz hd1;have hd3:=zaaz hd2;rw[zabp hd1 (zaak ho (by decide)),Option.bind_some];dsimp only;rw[Bool.not_false,cond_true,zabp hd1 (zaak ho (by decide)),Option.bind_some];dsimp only;rw[cond_false,cond_false,rWant hd1 hb ho,Option.bind_some];dsimp only;rw[zabp hd2 (zaf4 hb2 _),Option.bind_some];dsimp only;rw[rName hd2 hb hb2,Option.bind_some];dsimp only;rw[cond_false,rWant hd3 hb hq,Option.bind_some];rfl
 |about hi hw hb2 hq=>
  simp only[xh] at hu;obtain ⟨rfl,hu⟩:=hu;rw[hno] at hw;cases hw
 |assert hw hx hq=>
  simp only[xh] at hu;obtain ⟨rfl,hu⟩:=hu;rw[hno] at hw;cases hw
 |if_ hw _ _ _ _=>
  simp only[xh] at hu;obtain ⟨rfl,hu⟩:=hu;rw[hno] at hw;cases hw
 |ife hw _ _ _ _ _ _ _ _=>
  simp only[xh] at hu;obtain ⟨rfl,hu⟩:=hu;rw[hno] at hw;cases hw
 |rep hw _ _ _ _ _=>
  simp only[xh] at hu;obtain ⟨rfl,hu⟩:=hu;rw[hno] at hw;cases hw
abbrev EB:=Int->Bool->List Token->Option RBX
def zaod (B:EB) (N:Nat):Prop:=∀ b d,DB b d->G2 d->d.length<N->∀ (L:List Token) (n:Nat) (u:List Token) (t:Token) (r:List Token),L.drop n=u++t::r->u.map core=d->L.length<1000000->B (n:Int) false L=some (okBX L b (n+u.length))
theorem zaz7 {i:Nat} {s:List UInt8} (h:four[i]? = some s):qbj s=some (5+(i:Int))/\(5+(i:Int) != 0)=true/\2<=s.length/\s∉twos:=by
 have hi:i<4:=by have:=(xr.1 h).1; exact this
 have e:(5+(i:Int) != 0)=true:=by simp; omega
 match i,hi with
 |0,_=>cases h; exact ⟨by rw[qbj,zaaa]; rfl,e,by decide,by decide⟩
 |1,_=>cases h; exact ⟨by rw[qbj,zaaa]; rfl,e,by decide,by decide⟩
 |2,_=>cases h; exact ⟨by rw[qbj,zaaa]; rfl,e,by decide,by decide⟩
 |3,_=>cases h; exact ⟨by rw[qbj,zaaa]; rfl,e,by decide,by decide⟩
theorem zan7 {s:List UInt8} (h:s=zat0\/s=wIf\/s=zata):qbj s=some 0:=by
 rw[qbj,zaaa];rcases h with rfl|rfl|rfl<;>rfl
theorem stmtX {s:TStmt} {c:List Tk} (h:DS s c) (hg:G2 c) {B:EB} (hB:zaod B c.length) {u:List Token} (hu:u.map core=c) {L:List Token} {n:Nat} {t:Token} {r:List Token} (hd:L.drop n=u++t::r) (hels:hit wElse t=false) (hb:L.length<1000000) :
  qbt B (n:Int) false L=some (okSX L s (n+u.length)):=by
 rw[qbt,zaaa];unfold qbt_f;by_cases hk:∃ ta u',u=ta::u'/\ta.kind=1
 ·have hp:=za1a h hu hk hd hb;obtain ⟨ta,u',rfl,hk⟩:=hk;rw[qp] at hd;have e:(ta.kind==1)=true:=by simp[hk]
  rw[inG hd,qg,xt,atGet hd,qa,e,qg,hp,qa]
 ·
  have word:∀ {w:List UInt8} {o:Tk} {d:List Tk},u.map core=o::d->hitc w o=true->G2 (o::d)->2<=w.length->w∉twos->∃ tw u',u=tw::u'/\core tw=o/\u'.map core=d/\(tw.kind==1)=false/\(tw.kind != 4)=false/\tw.text=w:=by
   intro w o d hu ho hg hw hn;obtain ⟨tw,u',rfl,rfl,e⟩:=qh.1 hu;obtain ⟨h4,h5⟩:=word4 (t:=tw) ho hg.hd.2 hw hn;exact ⟨tw,u',rfl,rfl,e,by simp[h4],by simp[h4],h5⟩
  cases h with
  |set ha _ _ _=>
   obtain ⟨ta,u',rfl,rfl,_⟩:=qh.1 hu;exact absurd ⟨ta,u',rfl,ha⟩ hk
  |write ha _ _ _=>
   obtain ⟨ta,u',rfl,rfl,_⟩:=qh.1 hu;exact absurd ⟨ta,u',rfl,ha⟩ hk
  |add ha _ _ _ _ _=>
   obtain ⟨ta,u',rfl,rfl,_⟩:=qh.1 hu;exact absurd ⟨ta,u',rfl,ha⟩ hk
  |read ha _ _ _=>
   obtain ⟨ta,u',rfl,rfl,_⟩:=qh.1 hu;exact absurd ⟨ta,u',rfl,ha⟩ hk
  |about h4 hw ha hq=>
   obtain ⟨a1,a2,a3,a4⟩:=zaz7 h4;obtain ⟨tw,u',rfl,rfl,e1,k1,k2,htx⟩:=word hu hw hg a3 a4;obtain ⟨ta,u2,rfl,rfl,e3⟩:=qh.1 e1;obtain ⟨tq,u3,rfl,rfl,e4⟩:=qh.1 e3;have:u3=[]:=by simpa using e4
   subst this;rw[hit_c] at hq;simp only[List.cons_append,List.nil_append] at hd;have hd1:=zaaz hd;have hd2:=zaaz hd1;rw[inG hd,cond_true,Int.toNat_natCast,atGet hd,Option.bind_some,k1,cond_false,k2,cond_false,htx,a1,Option.bind_some,a2,cond_true,step1 hd hb,rName hd1 hb ha,Option.bind_some];dsimp only;rw[rWant hd2 hb hq,Option.bind_some];rfl
  |assert hw hx hq=>
   obtain ⟨tw,u',rfl,rfl,e1,k1,k2,htx⟩:=word hu hw hg (by decide) (by decide);obtain ⟨u2,tq,rfl,e3,rfl⟩:=snoc1 e1;rw[hit_c] at hq;simp only[qp,qq,qu] at hd;have hd1:=zaaz hd;have hd2:=zac6 hd1;have t1:(tw.text==[97,115,115,101,114,116])=true:=by rw[htx]; rfl
   rw[inG hd,qg,xt,atGet hd,qa,k1,qf,k2,qf,zan7 (.inl htx),qa,bne_self_eq_false,qf,t1,qg,step1 hd hb,
    exprX hx hd1 e3 (zad0 LV_59 hq) hb,qa]
   dsimp only[okR];rw[rWant hd2 hb hq,Option.bind_some];dsimp only;rw[show n+(tw::(u2++[tq])).length=n+1+u2.length+1 by simp only[List.length_cons,List.length_append,List.length_nil]; omega];rfl
  |@if_ w o q x c d b hw hx ho hd' hq=>
   obtain ⟨tw,u',rfl,rfl,e1,k1,k2,htx⟩:=word hu hw hg (by decide) (by decide);obtain ⟨u2,tq0,u3,rfl,e3,rfl,e4⟩:=zadc e1;obtain ⟨u4,tq,rfl,e5,rfl⟩:=snoc1 e4;simp only[qp,qq,qu] at hd;have hd1:=zaaz hd;have hd2:L.drop (n+1+u2.length)=(tq0::(u4++[tq]))++t::r:=by rw[zac6 hd1]; simp
   have hd2':L.drop (n+1+u2.length)=tq0::(u4++[tq]++t::r):=hd2;have hd3:=zac6 hd2;have hblk:=hB b (core tq0::(d++[core tq])) ⟨_,_,_,ho,hd',hq,rfl⟩ hg.tl.r (by simp only[qe,qc]; omega) L (n+1+u2.length) (tq0::(u4++[tq])) t r hd2 (by simp[e5]) hb;rw[hit_c] at ho hq;have t1:(tw.text==[97,115,115,101,114,116])=false:=by rw[htx]; rfl
   have t2:(tw.text==[105,102])=true:=by rw[htx]; rfl
   rw[inG hd,qg,xt,atGet hd,qa,k1,qf,k2,qf,zan7 (.inr (.inl htx)),qa,bne_self_eq_false,qf,t1,qf,t2,qg,step1 hd hb,
    exprX hx hd1 e3 (zad0 zanr ho) hb,qa]
   dsimp only[okR];rw[hblk,Option.bind_some];dsimp only[okBX];rw[zabp hd3 hels,Option.bind_some];dsimp only;rw[cond_false];rw[show n+(tw::(u2++tq0::(u4++[tq]))).length=n+1+u2.length+(tq0::(u4++[tq])).length by simp only[List.length_cons,List.length_append,List.length_nil]; omega];rfl
  |@ife w o q v o2 q2 x c d d2 b b2 hw hx ho hd' hq hv ho2 hdd2 hq2=>
   obtain ⟨tw,u',rfl,rfl,e1,k1,k2,htx⟩:=word hu hw hg (by decide) (by decide);obtain ⟨u2,tq0,u3,rfl,e3,rfl,e4⟩:=zadc e1;obtain ⟨u4,tq,u5,rfl,e5,rfl,e6⟩:=zadc e4;obtain ⟨tv,u6,rfl,rfl,e7⟩:=qh.1 e6;obtain ⟨to2,u7,rfl,rfl,e8⟩:=qh.1 e7;obtain ⟨u8,tq2,rfl,e9,rfl⟩:=snoc1 e8;simp only[qp,qq,qu] at hd;have hd1:=zaaz hd;have hd2:L.drop (n+1+u2.length)=(tq0::(u4++[tq]))++tv::(to2::(u8++tq2::t::r)):=by rw[zac6 hd1]; simp
   have hd3:=zac6 hd2;have hd4:L.drop (n+1+u2.length+(tq0::(u4++[tq])).length+1)=(to2::(u8++[tq2]))++t::r:=by rw[zaaz hd3]; simp
   have g1:G2 (core tq0::(d++[core tq])):=by
    have:=hg.tl.r;intro y hy;refine this y ?_;simp only[List.mem_cons,xu,List.not_mem_nil,or_false] at hy ⊢;rcases hy with hy|hy|hy
    ·exact .inl hy
    ·exact .inr (.inl hy)
    ·exact .inr (.inr (.inl hy))
   have g2:G2 (core to2::(d2++[core tq2])):=hg.tl.r.tl.r.tl.tl;have hblk:=hB b (core tq0::(d++[core tq])) ⟨_,_,_,ho,hd',hq,rfl⟩ g1 (by simp only[qe,qc]; omega) L (n+1+u2.length) (tq0::(u4++[tq])) tv (to2::(u8++tq2::t::r)) hd2 (by simp[e5]) hb;have hblk2:=hB b2 (core to2::(d2++[core tq2])) ⟨_,_,_,ho2,hdd2,hq2,rfl⟩ g2 (by simp only[qe,qc]; omega) L _ (to2::(u8++[tq2])) t r hd4 (by simp[e9]) hb;rw[hit_c] at ho hq hv ho2 hq2;have t1:(tw.text==[97,115,115,101,114,116])=false:=by rw[htx]; rfl
   have t2:(tw.text==[105,102])=true:=by rw[htx]; rfl
   rw[inG hd,qg,xt,atGet hd,qa,k1,qf,k2,qf,zan7 (.inr (.inl htx)),qa,bne_self_eq_false,qf,t1,qf,t2,qg,step1 hd hb,
    exprX hx hd1 e3 (zad0 zanr ho) hb,qa]
   dsimp only[okR];rw[hblk,Option.bind_some];dsimp only[okBX];rw[zach hd3 hb hv,Option.bind_some];dsimp only;rw[cond_true,hblk2,Option.bind_some];dsimp only[okBX];rw[show n+(tw::(u2++tq0::(u4++tq::tv::to2::(u8++[tq2])))).length=n+1+u2.length+(tq0::(u4++[tq])).length+1+(to2::(u8++[tq2])).length by simp only[List.length_cons,List.length_append,List.length_nil]; omega];rfl
  |@rep w nn o q d b hw hn hn2 ho hd' hq=>
   obtain ⟨tw,u',rfl,rfl,e1,k1,k2,htx⟩:=word hu hw hg (by decide) (by decide);obtain ⟨tn,u2,rfl,rfl,e3⟩:=qh.1 e1;obtain ⟨tq0,u3,rfl,rfl,e4⟩:=qh.1 e3;obtain ⟨u4,tq,rfl,e5,rfl⟩:=snoc1 e4;simp only[qp,qq,qu] at hd;have hd1:=zaaz hd;have hd2:L.drop (n+1+1)=(tq0::(u4++[tq]))++t::r:=by rw[zaaz hd1]; simp
   have hblk:=hB b (core tq0::(d++[core tq])) ⟨_,_,_,ho,hd',hq,rfl⟩ hg.tl.tl (by simp only[qe,qc]; omega) L (n+1+1) (tq0::(u4++[tq])) t r hd2 (by simp[e5]) hb;have t1:(tw.text==[97,115,115,101,114,116])=false:=by rw[htx]; rfl
   have t2:(tw.text==[105,102])=false:=by rw[htx]; rfl
   have t3:(tw.text==[114,101,112,101,97,116])=true:=by rw[htx]; rfl
   rw[inG hd,qg,xt,atGet hd,qa,k1,qf,k2,qf,zan7 (.inr (.inr htx)),qa,bne_self_eq_false,qf,t1,qf,t2,qf,t3,qg,step1 hd hb,
    zalk hd1 hb hn hn2,qa]
   dsimp only;rw[hblk,Option.bind_some];dsimp only[okBX];rw[show n+(tw::tn::tq0::(u4++[tq])).length=n+1+1+(tq0::(u4++[tq])).length by simp only[List.length_cons,List.length_append,List.length_nil]; omega];rfl
theorem zaz0 {B:EB} {N:Nat} (hB:zaod B N):∀ (b:List TStmt) (d:List Tk),DL b d->G2 d->d.length<=N->∀ (f:Nat) (a:List TStmt) (L:List Token) (n:Nat) (u:List Token) (q t:Token) (r:List Token),L.drop n=u++q::t::r->u.map core=d->hit [125] q=true->u.length<f->a.length+(u++q::t::r).length<1000000->L.length<1000000 ->
  qbl_i3 B f (n:Int) false L a=some (okBX L (a++b) (n+u.length+1)):=by
 intro b;induction b with
 |nil=>
  intro d hd hg hN f a L n u q t r hdr hu hq hf hb hL;cases hd;have:u=[]:=by simpa using hu
  subst this;obtain ⟨f,rfl⟩:∃ q,f=q+1:=⟨f-1,by omega⟩;show qbl_t3 B (qbl_i3 B f) _ _ _ _=_;unfold qbl_t3;rw[xd,qg,zach (r:=t::r) hdr hL hq,qa,xj];rfl
 |cons s b ih=>
  intro d hd hg hN f a L n u q t r hdr hu hq hf hb hL;cases hd with
  |cons hs hl=>
  rename_i c d;obtain ⟨u1,u2,rfl,e1,e2⟩:=List.map_eq_append_iff.1 hu;have hsz:=hs.size.1;have hl1:u1.length=c.length:=by rw[<-e1,List.length_map]
  obtain ⟨t1,r1,hu1,_,hno⟩:=zalh hs e1;obtain ⟨f,rfl⟩:∃ q,f=q+1:=⟨f-1,by omega⟩
  -- the token behind
  obtain ⟨t2,r2,ht2,hels⟩:∃ t2 r2,u2++q::t::r=t2::r2/\hit wElse t2=false:=by
   cases hl with
   |nil=>
    have:u2=[]:=by simpa using e2
    subst this;exact ⟨q,t::r,rfl,zaak hq (by decide)⟩
   |cons hs2 _=>
    obtain ⟨u3,u4,rfl,e3,e4⟩:=List.map_eq_append_iff.1 e2;obtain ⟨t2,r2,rfl,h,_⟩:=zalh hs2 e3;exact ⟨t2,_,rfl,h⟩
  rw[qq] at hdr;have hd1:=hdr;rw[ht2] at hd1;have hst:=stmtX hs hg.l (B:=B) (fun b' d' h1 h2 h3=>hB b' d' h1 h2 (by simp only[qc] at hN; omega)) e1 hd1 hels hL;have hd2:L.drop (n+u1.length)=u2++q::t::r:=zac6 hdr;show qbl_t3 B (qbl_i3 B f) _ _ _ _=_;unfold qbl_t3;have hd0:L.drop n=t1::(r1++(u2++q::t::r)):=by rw[hdr,hu1,qp]
  rw[Bool.not_false,cond_true,zabp hd0 hno,Option.bind_some];dsimp only;rw[cond_false,hst,Option.bind_some];dsimp only[okSX];rw[zag7];have e9:decide ((List.length a+List.length [s])*(152:Nat)<=(140737488355328:Nat)/\List.length a+List.length [s]<=(9223372036854775807:Nat))=true:=by
   simp only[qj,qe,qr];omega
  rw[e9,qg];simp only[qc,qe] at hN hf hb;rw[ih d hl hg.r (by omega) f (a++[s]) L (n+u1.length) u2 q t r hd2 e2 hq (by omega) (by simp only[qc,qe,qr]; omega) hL];rw[show n+(u1++u2).length+1=n+u1.length+u2.length+1 by rw[qc]; omega];simp
theorem zayf:∀ n N,N<=n->zaod (qbl_i n) N:=by
 intro n;induction n with
 |zero=>intro N h b d hd hg hl; omega
 |succ n ih=>
  intro N hN b d hd hg hl L m u t r hdr hu hL;obtain ⟨o,d',q,ho,hd,hq,rfl⟩:=hd;obtain ⟨tq0,u2,rfl,rfl,e1⟩:=List.map_eq_cons_iff.1 hu;obtain ⟨u3,tq,rfl,e2,rfl⟩:=snoc1 e1;simp only[List.length_cons,List.length_append,List.length_nil] at hl;rw[hit_c] at ho hq;simp only[List.cons_append,List.append_assoc,List.nil_append] at hdr;have hd1:=zaaz hdr;have hlen:=congrArg List.length hd1;simp only[List.length_drop,List.length_append,List.length_cons] at hlen;show qbl_f (qbl_i n) _ _ _=_;unfold qbl_f;rw[rWant hdr hL ho,Option.bind_some];dsimp only;have hl3:u3.length=d'.length:=by rw[<-e2,List.length_map]
  rw[qbl_l3,zaaa,zaz0 (ih (d'.length) (by omega)) b d' hd hg.tl.l (Nat.le_refl _) fuel [] L (m+1) u3 tq t r hd1 e2 hq (by unfold fuel; omega) (by simp only[List.length_append,List.length_cons,List.length_nil]; omega) hL,Option.bind_some];dsimp only[okBX];rw[show m+(tq0::(u3++[tq])).length=m+1+u3.length+1 by simp only[List.length_cons,List.length_append,List.length_nil]; omega];rfl
theorem za0u {b:List TStmt} {d:List Tk} (h:DB b d) (hg:G2 d) {L:List Token} {n:Nat} {u:List Token} {t:Token} {r:List Token} (hd:L.drop n=u++t::r) (hu:u.map core=d) (hL:L.length<1000000) :
  qbl (n:Int) false L=some (okBX L b (n+u.length)):=by
 have hl:u.length=d.length:=by rw[<-hu,List.length_map]
 have:=zald hd;rw[qbl,zaaa];exact zayf fuel 1000000 (by unfold fuel; omega) b d h hg (by omega) L n u t r hd hu hL
abbrev RDX:=Int×Bool×(List TCell)×(List (List UInt8))×(List TThread)×(List Token)
def okDX (L:List Token) (p:TProg) (m:Nat):RDX:=((m:Int),false,p.cells,p.mutexes,p.threads,L)
theorem gC {cs:List TCell} (x:TCell) (h:cs.length<1000000):decide ((List.length cs+List.length [x])*(24:Nat)<=(140737488355328:Nat)/\List.length cs+List.length [x]<=(9223372036854775807:Nat))=true:=by
 simp only[qj,qe,qr]; omega
theorem gM {ms:List (List UInt8)} (x:List UInt8) (h:ms.length<1000000):decide ((List.length ms+List.length [x])*(16:Nat)<=(140737488355328:Nat)/\List.length ms+List.length [x]<=(9223372036854775807:Nat))=true:=by
 simp only[qj,qe,qr]; omega
theorem gT {ts:List TThread} (x:TThread) (h:ts.length<1000000):decide ((List.length ts+List.length [x])*(40:Nat)<=(140737488355328:Nat)/\List.length ts+List.length [x]<=(9223372036854775807:Nat))=true:=by
 simp only[qj,qe,qr]; omega
theorem zayc {x:TCell} {d:List Tk} (h:DC x d) (hg:G2 d) {L:List Token} {n:Nat} {u:List Token} {t:Token} {r:List Token} (hd:L.drop n=u++t::r) (hu:u.map core=d) (hb:L.length<1000000) (p:TProg) (hp:p.cells.length<1000000) :
  qbm (n:Int) false L p.cells p.mutexes p.threads=some (okDX L ⟨p.cells++[x],p.mutexes,p.threads⟩ (n+u.length)):=by
 rw[qbm,zaaa];unfold qbm_f;cases h with
 |bare hw ha hq=>
  obtain ⟨tw,u1,rfl,rfl,e1⟩:=qh.1 hu;obtain ⟨ta,u2,rfl,rfl,e2⟩:=qh.1 e1;obtain ⟨tq,u3,rfl,rfl,e3⟩:=qh.1 e2;have:u3=[]:=by simpa using e3
  subst this;rw[hit_c] at hw hq;simp only[List.cons_append,List.nil_append] at hd;have hd1:=zaaz hd;have hd2:=zaaz hd1;rw[zach hd hb hw,Option.bind_some];dsimp only;rw[Bool.not_true,cond_false,cond_true,rName hd1 hb ha,Option.bind_some];dsimp only;rw[zabp hd2 (zaak hq (by decide)),Option.bind_some];dsimp only;rw[cond_false,rWant hd2 hb hq,Option.bind_some];dsimp only;rw[gC _ hp,cond_true];rfl
 |pos hw ha ho hm hn hq=>
  obtain ⟨tw,u1,rfl,rfl,e1⟩:=qh.1 hu;obtain ⟨ta,u2,rfl,rfl,e2⟩:=qh.1 e1;obtain ⟨to1,u3,rfl,rfl,e3⟩:=qh.1 e2;obtain ⟨tn,u4,rfl,rfl,e4⟩:=qh.1 e3;obtain ⟨tq,u5,rfl,rfl,e5⟩:=qh.1 e4;have:u5=[]:=by simpa using e5
  subst this;have hnum:tn.num<=2147483647:=hg.tl.tl.tl.hd.1 hn;rw[hit_c] at hw hq ho hm;simp only[List.cons_append,List.nil_append] at hd;have hd1:=zaaz hd;have hd2:=zaaz hd1;have hd3:=zaaz hd2;have hd4:=zaaz hd3;rw[zach hd hb hw,Option.bind_some];dsimp only;rw[Bool.not_true,cond_false,cond_true,rName hd1 hb ha,Option.bind_some];dsimp only;rw[zach hd2 hb ho,Option.bind_some];dsimp only;rw[cond_true,zabp hd3 hm,Option.bind_some];dsimp only;rw[zalk hd3 hb hn hnum,Option.bind_some];dsimp only;rw[cond_false,rWant hd4 hb hq,Option.bind_some];dsimp only;rw[gC _ hp,cond_true];rfl
 |ngt hw ha ho hm hn hq=>
  obtain ⟨tw,u1,rfl,rfl,e1⟩:=qh.1 hu;obtain ⟨ta,u2,rfl,rfl,e2⟩:=qh.1 e1;obtain ⟨to1,u3,rfl,rfl,e3⟩:=qh.1 e2;obtain ⟨tm,u4,rfl,rfl,e4⟩:=qh.1 e3;obtain ⟨tn,u5,rfl,rfl,e5⟩:=qh.1 e4;obtain ⟨tq,u6,rfl,rfl,e6⟩:=qh.1 e5;have:u6=[]:=by simpa using e6
  subst this;have hnum:tn.num<=2147483647:=hg.tl.tl.tl.tl.hd.1 hn;rw[hit_c] at hw hq ho hm;simp only[List.cons_append,List.nil_append] at hd;have hd1:=zaaz hd;have hd2:=zaaz hd1;have hd3:=zaaz hd2;have hd4:=zaaz hd3;have hd5:=zaaz hd4;rw[zach hd hb hw,Option.bind_some];dsimp only;rw[Bool.not_true,cond_false,cond_true,rName hd1 hb ha,Option.bind_some];dsimp only;rw[zach hd2 hb ho,Option.bind_some];dsimp only;rw[cond_true,zach hd3 hb hm,Option.bind_some];dsimp only;rw[zalk hd4 hb hn hnum,Option.bind_some];dsimp only;rw[cond_true,rWant hd5 hb hq,Option.bind_some];dsimp only;rw[gC _ hp,cond_true];rfl
theorem zawo {L:List Token} {n:Nat} {tw ta tq t:Token} {r:List Token} (hd:L.drop n=tw::ta::tq::t::r) (hw:hit zaru tw=true) (ha:ta.kind=1) (hq:hit [59] tq=true) (hb:L.length<1000000) (p:TProg) (hp:p.mutexes.length<1000000) :
  qbm (n:Int) false L p.cells p.mutexes p.threads=some (okDX L ⟨p.cells,p.mutexes++[ta.text],p.threads⟩ (n+3)):=by
 rw[qbm,zaaa];unfold qbm_f;have hd1:=zaaz hd;have hd2:=zaaz hd1;rw[zabp hd (zaak hw (by decide)),Option.bind_some];dsimp only;rw[Bool.not_false,cond_true,zach hd hb hw,Option.bind_some];dsimp only;rw[cond_false,cond_true,rName hd1 hb ha,Option.bind_some];dsimp only;rw[rWant hd2 hb hq,Option.bind_some];dsimp only;rw[gM _ hp,cond_true];rfl
theorem zaup {b:List TStmt} {d:List Tk} (h:DB b d) (hg:G2 d) {L:List Token} {n:Nat} {tw ta:Token} {u:List Token} {t:Token} {r:List Token} (hd:L.drop n=tw::ta::(u++t::r)) (hw:hit zaor tw=true) (ha:ta.kind=1) (hu:u.map core=d) (hb:L.length<1000000) (p:TProg) (hp:p.threads.length<1000000) :
  qbm (n:Int) false L p.cells p.mutexes p.threads=some (okDX L ⟨p.cells,p.mutexes,p.threads++[⟨ta.text,b⟩]⟩ (n+2+u.length)):=by
 rw[qbm,zaaa];unfold qbm_f;have hd1:=zaaz hd;have hd2:=zaaz hd1;rw[zabp hd (zaak hw (by decide)),Option.bind_some];dsimp only;rw[Bool.not_false,cond_true,zabp hd (zaak hw (by decide)),Option.bind_some];dsimp only;rw[cond_false,cond_false,rWant hd hb hw,Option.bind_some];dsimp only;rw[rName hd1 hb ha,Option.bind_some];dsimp only;rw[za0u h hg hd2 hu hb,Option.bind_some];dsimp only[okBX];rw[gT _ hp,cond_true];rfl
noncomputable abbrev loopP (L:List Token) (f n:Nat) (p:TProg):=qbi_i6 f 0 0 [] (n:Int) false L p.cells p.mutexes p.threads
theorem zajy {L:List Token} {f n m:Nat} {t:Token} {r:List Token} {p q:TProg} (hd:L.drop n=t::r) (hk:t.kind≠5) (h:qbm (n:Int) false L p.cells p.mutexes p.threads=some (okDX L q m)):loopP L (f+1) n p=loopP L f m q:=by
 show qbi_t6 (qbi_i6 f) _ _ _ _ _ _ _ _ _=_;unfold qbi_t6;have e:(t.kind != 5)=true:=by simp[hk]
 rw[xd,qg,inG hd,qg,xt,atGet hd,qa,e,qg,h,qa];rfl
theorem zav1 {L:List Token} {f n:Nat} {t:Token} {r:List Token} {p:TProg} (hd:L.drop n=t::r) (hk:t.kind=5):loopP L (f+1) n p=some (0,0,[],(n:Int),false,L,p.cells,p.mutexes,p.threads):=by
 show qbi_t6 (qbi_i6 f) _ _ _ _ _ _ _ _ _=_;unfold qbi_t6;have e:(t.kind != 5)=false:=by simp[hk]
 rw[xd,qg,inG hd,qg,xt,atGet hd,qa,e,qf]
theorem hit5 {s:List UInt8} {t:Token} (h:hit s t=true):t.kind≠5:=zalf h
theorem zawk {p:TProg} {c:List Tk} (h:DP p c) (hg:G2 c):∀ (L:List Token) (u:List Token) (t:Token) (r:List Token),L=u++t::r->u.map core=c->L.length<1000000 ->
  ∃ k,k<=u.length/\loopP L fuel 0 ⟨[],[],[]⟩=loopP L (fuel-k) u.length p:=by
 induction h with
 |nil=>
  intro L u t r hL hu hb;have:u=[]:=by simpa using hu
  subst this;exact ⟨0,qz _,rfl⟩
 |@cell p c d x hp hx ih=>
  intro L u t r hL hu hb;obtain ⟨u1,u2,rfl,e1,e2⟩:=List.map_eq_append_iff.1 hu;have hlen:=hx.len;have hs:=hp.size;have l1:u1.length=c.length:=by rw[<-e1,List.length_map]
  have l2:u2.length=d.length:=by rw[<-e2,List.length_map]
  cases u2 with
  |nil=>simp only[qr] at l2; omega
  |cons t2 u2=>
  rw[qq,qp] at hL;obtain ⟨k,hk,h⟩:=ih hg.l L u1 t2 (u2++t::r) hL e1 hb;have hd:L.drop u1.length=(t2::u2)++t::r:=by rw[hL,List.drop_left]; rfl
  have hbl:u1.length<1000000:=by rw[hL,qc] at hb; omega
  have hdec:=zayc hx hg.r hd e2 hb p (by omega);have hne:t2.kind≠5:=by
   have:core t2∈d:=by rw[<-e2]; simp
   cases hx with
   |bare hw _ _=>simp only[xn,xh] at e2; rw[<-e2.1,hit_c] at hw; exact hit5 hw
   |pos hw _ _ _ _ _=>simp only[xn,xh] at e2; rw[<-e2.1,hit_c] at hw; exact hit5 hw
   |ngt hw _ _ _ _ _=>simp only[xn,xh] at e2; rw[<-e2.1,hit_c] at hw; exact hit5 hw
  refine ⟨k+1,by rw[qc,qe]; omega,?_⟩;rw[h];obtain ⟨f,hf⟩:∃ f,fuel-k=f+1:=⟨fuel-k-1,by unfold fuel; omega⟩;rw[hf,zajy hd hne hdec,show fuel-(k+1)=f by omega,qc]
 |@mutex p c w a q hp hw ha hq ih=>
  intro L u t r hL hu hb;obtain ⟨u1,u2,rfl,e1,e2⟩:=List.map_eq_append_iff.1 hu;obtain ⟨tw,u3,rfl,rfl,e3⟩:=qh.1 e2;obtain ⟨ta,u4,rfl,rfl,e4⟩:=qh.1 e3;obtain ⟨tq,u5,rfl,rfl,e5⟩:=qh.1 e4;have:u5=[]:=by simpa using e5
  subst this;have hs:=hp.size;have l1:u1.length=c.length:=by rw[<-e1,List.length_map]
  rw[qq] at hL;obtain ⟨k,hk,h⟩:=ih hg.l L u1 tw (ta::tq::t::r) hL e1 hb;have hd:L.drop u1.length=tw::ta::tq::t::r:=by rw[hL,List.drop_left]; rfl
  have hbl:u1.length<1000000:=by rw[hL,qc] at hb; omega
  rw[hit_c] at hw hq;have hdec:=zawo hd hw ha hq hb p (by omega);refine ⟨k+1,by simp only[qc,qe]; omega,?_⟩;rw[h];obtain ⟨f,hf⟩:∃ f,fuel-k=f+1:=⟨fuel-k-1,by unfold fuel; omega⟩;rw[hf,zajy hd (hit5 hw) hdec,show fuel-(k+1)=f by omega,qc];rfl
 |@thread p c d w a b hp hw ha hbd ih=>
  intro L u t r hL hu hb;obtain ⟨u1,u2,rfl,e1,e2⟩:=List.map_eq_append_iff.1 hu;obtain ⟨tw,u3,rfl,rfl,e3⟩:=qh.1 e2;obtain ⟨ta,u4,rfl,rfl,e4⟩:=qh.1 e3;have hs:=hp.size;have l1:u1.length=c.length:=by rw[<-e1,List.length_map]
  rw[qq] at hL;obtain ⟨k,hk,h⟩:=ih hg.l L u1 tw (ta::(u4++t::r)) hL e1 hb;have hd:L.drop u1.length=tw::ta::(u4++t::r):=by rw[hL,List.drop_left]; rfl
  have hbl:u1.length<1000000:=by rw[hL,qc] at hb; omega
  rw[hit_c] at hw;have hdec:=zaup hbd hg.r.tl.tl hd hw ha e4 hb p (by omega);refine ⟨k+1,by simp only[qc,qe]; omega,?_⟩;rw[h];obtain ⟨f,hf⟩:∃ f,fuel-k=f+1:=⟨fuel-k-1,by unfold fuel; omega⟩;rw[hf,zajy hd (hit5 hw) hdec,show fuel-(k+1)=f by omega];rw[show (u1++tw::ta::u4).length=u1.length+2+u4.length by simp only[qc,qe]; omega];rfl
end Lift.A4
namespace Lift.A1P
open Go Go.RowKit Lift Go.IntWalk Lift.Fn
theorem zars:∀ (l:List UInt8) (acc u:Nat),Lib.parseUint10 acc l=.ok u->acc*10 ^ l.length<=u
 |[],acc,u,h=>by
  simp only[Lib.parseUint10] at h;injection h with h
  simp[h]
 |c::r,acc,u,h=>by
  simp only[Lib.parseUint10] at h;split at h
  ·split at h
   ·cases h
   ·split at h
    ·cases h
    ·have:=zars r _ u h;rw[qe,Nat.pow_succ];refine Nat.le_trans ?_ this;rw[show acc*(10 ^ r.length*10)=(acc*10)*10 ^ r.length by rw[Nat.mul_comm (10 ^ r.length) 10,<-Nat.mul_assoc]];exact xz _ (by omega)
  ·cases h
theorem zay9 (r:Int):Sp.long r<=4:=by unfold Sp.long; (repeat' split)<;>omega
theorem zat6:∀ rs:List Int,(encs rs).length<=4*rs.length
 |[]=>by simp[encs]
 |r::rs=>by
  have:=zat6 rs;have h:=zay9 r;rw[zaa0,qc,zacq,qe];omega
theorem zaxi (x:List UInt8):sgn (sgn x)=sgn x:=by
 by_cases k1:1<x.length/\twos.contains (x.take 2)=true
 ·have e:sgn x=x.take 2:=by unfold sgn; rw[if_pos k1]
  rw[e];have hl:(x.take 2).length=2:=by rw[xy]; omega
  have ht:(x.take 2).take 2=x.take 2:=by rw[List.take_take]; rfl
  unfold sgn;rw[if_pos ⟨by omega,by rw[ht]; exact k1.2⟩,ht]
 ·by_cases k2:ones.contains (x.headD 0)=true
  ·have e:sgn x=x.take 1:=by unfold sgn; rw[if_neg k1,if_pos k2]
   rw[e];match x,k2 with
   |[],k2=>exact absurd k2 (by decide)
   |b::x,k2=>
    show sgn [b]=[b];unfold sgn;rw[if_neg (fun hh=>by have:=hh.1; simp at this)];exact if_pos k2
  ·have e:sgn x=[]:=by unfold sgn; rw[if_neg k1,if_neg k2]
   rw[e];decide
theorem alone (a:Int) (rs:List Int) (ha:(a::rs).all Sp.isRune=true) (h0:(tokR (a::rs)).2=0):∃ ds,whole ds (tokR (a::rs)).1/\a::rs=ds++restR (a::rs):=by
 cases hg:goesR a with
 |true=>
  have ht:=zakb (w:=a::rs) hg;have hd:((a::rs).takeWhile goesR).headD 0=a:=by rw[List.takeWhile_cons,if_pos hg]; rfl
  have htt:((a::rs).takeWhile goesR).takeWhile goesR=(a::rs).takeWhile goesR:=zaqf List.all_takeWhile;refine ⟨(a::rs).takeWhile goesR,⟨by simp[hg],zake ha,?_,ht⟩,?_⟩
  ·refine Prod.ext ?_ ?_
   ·show (tokR ((a::rs).takeWhile goesR)).1=_;unfold tokR;rw[hd,htt,List.headD_cons,hg];rfl
   ·show (tokR ((a::rs).takeWhile goesR)).2=0;rw[<-h0];unfold tokR;rw[hd,htt,List.headD_cons,hg];rfl
  ·unfold restR;rw[List.headD_cons,hg];exact (List.takeWhile_append_dropWhile).symm
 |false=>
  have hc:(sgn (encs (a::rs))==[])=false:=by
   unfold tokR at h0;rw[List.headD_cons,hg,qf] at h0;cases hc:(sgn (encs (a::rs))==[]) with
   |true=>rw[hc] at h0; simp at h0
   |false=>rfl
  have hne:sgn (encs (a::rs))≠[]:=by simpa using hc
  obtain ⟨h1,h2⟩:=zaih a rs ha hne;have htok:tokR (a::rs)=(⟨3,sgn (encs (a::rs)),0,0⟩,0):=by
   unfold tokR;rw[List.headD_cons,hg,qf,hc,qf]
  obtain ⟨n,hn⟩:∃ n,(sgn (encs (a::rs))).length=n+1:=⟨(sgn (encs (a::rs))).length-1,by omega⟩;have htk:(a::rs).take (sgn (encs (a::rs))).length=a::rs.take n:=by rw[hn]; rfl
  refine ⟨(a::rs).take (sgn (encs (a::rs))).length,⟨by rw[htk]; exact List.cons_ne_nil _ _,?_,?_,?_⟩,?_⟩
  ·rw[qy] at ha ⊢;exact fun r hr=>ha r (List.mem_of_mem_take hr)
  ·rw[htok];rw[htk] at h1 ⊢;unfold tokR;rw[List.headD_cons,hg,qf,h1,zaxi,hc,qf]
  ·rw[htok,h1]
  ·unfold restR;rw[List.headD_cons,hg,qf,List.take_append_drop]
theorem zaeq (t:List UInt8) (h:(Sp.runes2 t).code≠0):qaj t=some ([],⟨(Sp.runes2 t).code,(Sp.runes2 t).at_,(Sp.runes2 t).name⟩):=by
 rw[qaj,zaaa];unfold qaj_f;rw[zatg,qa];have:((Sp.runes2 t).code != 0)=true:=by simp[h]
 simp only[this,qg]
end Lift.A1P
