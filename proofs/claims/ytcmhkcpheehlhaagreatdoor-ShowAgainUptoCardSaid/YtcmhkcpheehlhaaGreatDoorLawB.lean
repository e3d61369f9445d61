/-
  DERIVED. The Lean functions answer as the laws say. Conditions: as each theorem says.
-/
import Derived.Test.YtcmhkcpheehlhaaGreatDoorLawA
set_option linter.unusedVariables false
set_option linter.unusedSimpArgs false
set_option linter.unusedSectionVars false
namespace Lift.A4
open Go Go.RowKit Lift Go.IntWalk Lift.Fn Lift.A1P Lift.A3
set_option linter.unusedVariables false
set_option linter.unusedSimpArgs false
noncomputable abbrev progL (f:Nat) (z:List Token) (q:TProg):=qaA_i2 f z q.cells q.mutexes q.threads
theorem zamy {q:TProg} (hc:q.cells.length<1000000) (hm:q.mutexes.length<1000000) (ht:q.threads.length<1000000) :
  (∀ c:TCell,decide ((List.length q.cells+List.length [c])*(24:Nat)≤(140737488355328:Nat)∧List.length q.cells+List.length [c]≤(9223372036854775807:Nat))=true) ∧
  (∀ c:List UInt8,decide ((List.length q.mutexes+List.length [c])*(16:Nat)≤(140737488355328:Nat)∧List.length q.mutexes+List.length [c]≤(9223372036854775807:Nat))=true) ∧
  (∀ c:TThread,decide ((List.length q.threads+List.length [c])*(40:Nat)≤(140737488355328:Nat)∧List.length q.threads+List.length [c]≤(9223372036854775807:Nat))=true):=by
 refine ⟨fun c=>?_,fun c=>?_,fun c=>?_⟩ <;>
 ·simp only[decide_eq_true_eq,List.length_cons,List.length_nil];omega
theorem word5 {s:List UInt8} {t:Token} (h:hit s t=true):(t.kind != 5)=true:=by
 have:=zanz h;simpa using this
theorem zawt {q:TProg} {x:TCell} {d:List Tk} (h:DC x d) (hc:q.cells.length<1000000) (hm:q.mutexes.length<1000000) (ht:q.threads.length<1000000) {u:List Token} (hu:u.map core=d) (f:Nat) (t:Token) (r:List Token) :
  progL (f+1) (u++t::r) q=progL f (t::r) ⟨q.cells++[x],q.mutexes,q.threads⟩:=by
 obtain ⟨g1,g2,g3⟩:=zamy hc hm ht;show qaA_t2 (qaA_i2 f) (u++t::r) q.cells q.mutexes q.threads=_;unfold qaA_t2;simp only[g1,g2,g3,cond_true];cases h with
 |bare hw ha hq=>
  obtain ⟨tw,u2,rfl,rfl,e2⟩:=List.map_eq_cons_iff.1 hu;obtain ⟨ta,u3,rfl,rfl,e3⟩:=List.map_eq_cons_iff.1 e2;obtain ⟨tq,u4,rfl,rfl,e4⟩:=List.map_eq_cons_iff.1 e3;have:u4=[]:=by simpa using e4
  subst this;rw[hit_c] at hw hq;have e6:(ta.kind != 1)=false:=by simp[show ta.kind=1 from ha]
  simp only[List.cons_append,List.nil_append];rw[next1,Option.bind_some];dsimp only;rw[word5 hw,cond_true,took1,hw,Option.bind_some];dsimp only[cond_true];rw[name1,e6,Option.bind_some];dsimp only[cond_false];rw[took1,zaat hq (by decide),Option.bind_some];dsimp only[cond_false];rw[want1,hq,Option.bind_some];rfl
 |pos hw ha ho hno hn hq=>
  obtain ⟨tw,u2,rfl,rfl,e2⟩:=List.map_eq_cons_iff.1 hu;obtain ⟨ta,u3,rfl,rfl,e3⟩:=List.map_eq_cons_iff.1 e2;obtain ⟨tq0,u4,rfl,rfl,e4⟩:=List.map_eq_cons_iff.1 e3;obtain ⟨tn,u5,rfl,rfl,e5⟩:=List.map_eq_cons_iff.1 e4;obtain ⟨tq,u6,rfl,rfl,e7⟩:=List.map_eq_cons_iff.1 e5;have:u6=[]:=by simpa using e7
  subst this;rw[hit_c] at hw hq ho hno;have e6:(ta.kind != 1)=false:=by simp[show ta.kind=1 from ha]
  have e8:(tn.kind != 2)=false:=by simp[show tn.kind=2 from hn]
  simp only[List.cons_append,List.nil_append];rw[next1,Option.bind_some];dsimp only;rw[word5 hw,cond_true,took1,hw,Option.bind_some];dsimp only[cond_true];rw[name1,e6,Option.bind_some];dsimp only[cond_false];rw[took1,ho,Option.bind_some];dsimp only[cond_true];rw[took1,hno,Option.bind_some];dsimp only[cond_false];rw[of1,e8,Option.bind_some];dsimp only[cond_false];rw[want1,hq,Option.bind_some];rfl
 |ngt hw ha ho hm2 hn hq=>
  obtain ⟨tw,u2,rfl,rfl,e2⟩:=List.map_eq_cons_iff.1 hu;obtain ⟨ta,u3,rfl,rfl,e3⟩:=List.map_eq_cons_iff.1 e2;obtain ⟨tq0,u4,rfl,rfl,e4⟩:=List.map_eq_cons_iff.1 e3;obtain ⟨tm,u4,rfl,rfl,e9⟩:=List.map_eq_cons_iff.1 e4;obtain ⟨tn,u5,rfl,rfl,e5⟩:=List.map_eq_cons_iff.1 e9;obtain ⟨tq,u6,rfl,rfl,e7⟩:=List.map_eq_cons_iff.1 e5;have:u6=[]:=by simpa using e7
  subst this;rw[hit_c] at hw hq ho hm2;have e6:(ta.kind != 1)=false:=by simp[show ta.kind=1 from ha]
  have e8:(tn.kind != 2)=false:=by simp[show tn.kind=2 from hn]
  simp only[List.cons_append,List.nil_append];rw[next1,Option.bind_some];dsimp only;rw[word5 hw,cond_true,took1,hw,Option.bind_some];dsimp only[cond_true];rw[name1,e6,Option.bind_some];dsimp only[cond_false];rw[took1,ho,Option.bind_some];dsimp only[cond_true];rw[took1,hm2,Option.bind_some];dsimp only[cond_true];rw[of1,e8,Option.bind_some];dsimp only[cond_false,cond_true];rw[want1,hq,Option.bind_some];rfl
theorem zavz {q:TProg} {w a z:Tk} (hw:hitc zahh w=true) (ha:a.1=1) (hz:hitc [59] z=true) (hc:q.cells.length<1000000) (hm:q.mutexes.length<1000000) (ht:q.threads.length<1000000) {u:List Token} (hu:u.map core=[w,a,z]) (f:Nat) (t:Token) (r:List Token) :
  progL (f+1) (u++t::r) q=progL f (t::r) ⟨q.cells,q.mutexes++[a.2.1],q.threads⟩:=by
 obtain ⟨g1,g2,g3⟩:=zamy hc hm ht;show qaA_t2 (qaA_i2 f) (u++t::r) q.cells q.mutexes q.threads=_;unfold qaA_t2;simp only[g1,g2,g3,cond_true];obtain ⟨tw,u2,rfl,rfl,e2⟩:=List.map_eq_cons_iff.1 hu;obtain ⟨ta,u3,rfl,rfl,e3⟩:=List.map_eq_cons_iff.1 e2;obtain ⟨tq,u4,rfl,rfl,e4⟩:=List.map_eq_cons_iff.1 e3;have:u4=[]:=by simpa using e4
 subst this;rw[hit_c] at hw hz;have e6:(ta.kind != 1)=false:=by simp[show ta.kind=1 from ha]
 simp only[List.cons_append,List.nil_append];rw[next1,Option.bind_some];dsimp only;rw[word5 hw,cond_true,took1,zaat hw (by decide),Option.bind_some];dsimp only[cond_false];rw[took1,hw,Option.bind_some];dsimp only[cond_true];rw[name1,e6,Option.bind_some];dsimp only[cond_false];rw[want1,hz,Option.bind_some];rfl
theorem zatw {q:TProg} {w a:Tk} {b:List TStmt} {d:List Tk} (hw:hitc zae3 w=true) (ha:a.1=1) (hb:DB b d) (hc:q.cells.length<1000000) (hm:q.mutexes.length<1000000) (ht:q.threads.length<1000000) {u:List Token} (hu:u.map core=w::a::d) (f:Nat) (t:Token) (r:List Token) (hl:(u++t::r).length<1000000) :
  progL (f+1) (u++t::r) q=progL f (t::r) ⟨q.cells,q.mutexes,q.threads++[⟨a.2.1,b⟩]⟩:=by
 obtain ⟨g1,g2,g3⟩:=zamy hc hm ht;show qaA_t2 (qaA_i2 f) (u++t::r) q.cells q.mutexes q.threads=_;unfold qaA_t2;simp only[g1,g2,g3,cond_true];obtain ⟨tw,u2,rfl,rfl,e2⟩:=List.map_eq_cons_iff.1 hu;obtain ⟨ta,u3,rfl,rfl,e3⟩:=List.map_eq_cons_iff.1 e2;rw[hit_c] at hw;have e6:(ta.kind != 1)=false:=by simp[show ta.kind=1 from ha]
 simp only[List.cons_append,List.nil_append] at hl ⊢;rw[next1,Option.bind_some];dsimp only;rw[word5 hw,cond_true,took1,zaat hw (by decide),Option.bind_some];dsimp only[cond_false];rw[took1,zaat hw (by decide),Option.bind_some];dsimp only[cond_false];rw[want1,hw,Option.bind_some];dsimp only[cond_true];rw[name1,e6,Option.bind_some];dsimp only[cond_false];rw[zazh hb e3 t r (by simp only[List.length_append,List.length_cons] at hl ⊢; omega),Option.bind_some];rfl
theorem zaom {p:TProg} {c:List Tk} (h:DP p c):∀ (u:List Token),u.map core=c→∀ (t:Token) (r:List Token),(u++t::r).length<1000000→∃ k,k≤u.length∧progL fuel (u++t::r) ⟨[],[],[]⟩=progL (fuel-k) (t::r) p:=by
 induction h with
 |nil=>
  intro u hu t r _;have:u=[]:=by simpa using hu
  subst this;exact ⟨0,by simp,rfl⟩
 |@cell p c d x hp hx ih=>
  intro u hu t r hb;obtain ⟨u1,u2,rfl,e1,e2⟩:=List.map_eq_append_iff.1 hu;have hsz:=hp.size;have hl1:u1.length=c.length:=by rw[← e1,List.length_map]
  have hl2:u2.length=d.length:=by rw[← e2,List.length_map]
  have hd:=hx.len;simp only[List.length_append,List.length_cons,List.append_assoc] at hb ⊢;cases u2 with
  |nil=>simp at hl2; omega
  |cons t2 u2=>
  obtain ⟨k,hk,h⟩:=ih u1 e1 t2 (u2++t::r) (by simp only[List.length_append,List.length_cons] at hb ⊢; omega);have hst:=zawt (q:=p) hx (by omega) (by omega) (by omega) e2 (fuel-k-1) t r;refine ⟨k+1,by simp only[List.length_cons]; omega,?_⟩;rw[List.cons_append,h];have e:fuel-k=(fuel-k-1)+1:=by unfold fuel; omega
  rw[e,← List.cons_append,hst];rfl
 |@mutex p c w a q hp hw ha hq ih=>
  intro u hu t r hb;obtain ⟨u1,u2,rfl,e1,e2⟩:=List.map_eq_append_iff.1 hu;have hsz:=hp.size;have hl1:u1.length=c.length:=by rw[← e1,List.length_map]
  have hl2:u2.length=3:=by have:=congrArg List.length e2; simpa using this
  simp only[List.length_append,List.length_cons,List.append_assoc] at hb ⊢;cases u2 with
  |nil=>simp at hl2
  |cons t2 u2=>
  obtain ⟨k,hk,h⟩:=ih u1 e1 t2 (u2++t::r) (by simp only[List.length_append,List.length_cons] at hb ⊢; omega);have hst:=zavz (q:=p) hw ha hq (by omega) (by omega) (by omega) e2 (fuel-k-1) t r;refine ⟨k+1,by simp only[List.length_cons]; omega,?_⟩;rw[List.cons_append,h];have e:fuel-k=(fuel-k-1)+1:=by unfold fuel; omega
  rw[e,← List.cons_append,hst];rfl
 |@thread p c d w a b hp hw ha hbd ih=>
  intro u hu t r hb;obtain ⟨u1,u2,rfl,e1,e2⟩:=List.map_eq_append_iff.1 hu;have hsz:=hp.size;have hl1:u1.length=c.length:=by rw[← e1,List.length_map]
  simp only[List.length_append,List.length_cons,List.append_assoc] at hb ⊢;cases u2 with
  |nil=>simp at e2
  |cons t2 u2=>
  obtain ⟨k,hk,h⟩:=ih u1 e1 t2 (u2++t::r) (by simp only[List.length_append,List.length_cons] at hb ⊢; omega);have hst:=zatw (q:=p) hw ha hbd (by omega) (by omega) (by omega) e2 (fuel-k-1) t r (by simp only[List.length_append,List.length_cons] at hb ⊢; omega);refine ⟨k+1,by simp only[List.length_cons]; omega,?_⟩;rw[List.cons_append,h];have e:fuel-k=(fuel-k-1)+1:=by unfold fuel; omega
  rw[e,← List.cons_append,hst];rfl
theorem zaw1 {p:TProg} {c:List Tk} (h:DP p c) {u:List Token} (hu:u.map core=c) {e:Token} (he:e.kind=5) (hb:(u++[e]).length<1000000):qaA (u++[e])=some (okP p [e]):=by
 rw[qaA,zaaa];unfold qaA_f;rw[qaA_l2,zaaa];obtain ⟨k,hk,h1⟩:=zaom h u hu e [] hb;have h1':qaA_i2 fuel (u++[e]) [] [] []=_:=h1;rw[h1'];have hs:=h.size;have hl:u.length=c.length:=by rw[← hu,List.length_map]
 simp only[List.length_append] at hb;obtain ⟨f,hf⟩:∃ f,fuel-k=f+1:=⟨fuel-k-1,by unfold fuel; omega⟩;rw[hf];have h2:progL (f+1) [e] p=some (ok2 p [e]):=by
  obtain ⟨g1,g2,g3⟩:=zamy (q:=p) (by omega) (by omega) (by omega);show qaA_t2 (qaA_i2 f) [e] p.cells p.mutexes p.threads=_;unfold qaA_t2;rw[next1,Option.bind_some];dsimp only;have e5:(e.kind != 5)=false:=by simp[he]
  rw[e5];rfl
 rw[h2,Option.bind_some];rfl
theorem name0:qaw []=none:=by
 rw[qaw,zaaa];unfold qaw_f;rw[qay,zaaa];unfold qay_f;rw[qax,zaaa];rfl
theorem zath {t:Token} (hk:t.kind≠5) (f:Nat) (q:TProg) (p:TProg) (z:List Token):progL (f+1) [t] q≠some (ok2 p z):=by
 show qaA_t2 (qaA_i2 f) [t] q.cells q.mutexes q.threads≠_;unfold qaA_t2;rw[next1,Option.bind_some];dsimp only;have e5:(t.kind != 5)=true:=by simp[hk]
 rw[e5,cond_true,took1];cases h1:hit [99,101,108,108] t with
 |true=>
  rw[Option.bind_some];dsimp only[cond_true];rw[name0];intro h;cases h
 |false=>
  rw[Option.bind_some];dsimp only[cond_false];rw[took1];cases h2:hit [109,117,116,101,120] t with
  |true=>
   rw[Option.bind_some];dsimp only[cond_true];rw[name0];intro h;cases h
  |false=>
   rw[Option.bind_some];dsimp only[cond_false];rw[want1];cases h3:hit [116,104,114,101,97,100] t with
   |true=>
    rw[Option.bind_some];dsimp only[cond_true];rw[name0];intro h;cases h
   |false=>
    intro h;cases h
theorem zaw8 {l:List Token} {e:Token} (he:e.kind=5) (hb:(l++[e]).length<1000000) {p:TProg} {z:List Token} (h:qaA (l++[e])=some (okP p z)) (hl:∀ t∈l,t.kind≠5):DP p (l.map core):=by
 obtain ⟨u,t,r,h1,h2,h3⟩:=zaqn (l++[e]) ⟨l,e,rfl,he⟩ hb;rcases h3 with ⟨x,c,h3⟩|h3
 ·have h4:qaA (u++t::r)=_:=h3 u t r rfl rfl;rw[← h1,h] at h4;simp only[Option.some.injEq] at h4;have hx:x=p:=by
   unfold okP at h4;simp only[Sum.inl.injEq,Prod.mk.injEq] at h4;obtain ⟨_,a,b,c⟩:=h4;obtain ⟨x1,x2,x3⟩:=x;obtain ⟨p1,p2,p3⟩:=p;simp only at a b c;rw[a,b,c]
  subst hx;by_cases hk:t.kind=5
  ·have:r=[]∧u=l:=by
    rcases List.eq_nil_or_concat r with hr|⟨r',b,hr⟩
    ·subst hr;exact ⟨rfl,(List.append_inj_left' h1 rfl).symm⟩
    ·exfalso;subst hr;have h5:l++[e]=(u++t::r')++[b]:=by rw[h1]; simp
     have h6:=List.append_inj_left' h5 rfl;exact hl t (by rw[h6]; simp) hk
   rw[← this.2];exact c
  ·exfalso;have h5:qaA (u++t::[])=_:=h3 u t [] rfl rfl;have hlen:(u++[t]).length<1000000:=by
    have:=congrArg List.length h1;simp only[List.length_append,List.length_cons,List.length_nil] at this hb ⊢;omega
   rw[qaA,zaaa] at h5;unfold qaA_f at h5;rw[qaA_l2,zaaa] at h5;obtain ⟨k,hk2,h6⟩:=zaom c u rfl t [] hlen;have h6':qaA_i2 fuel (u++[t]) [] [] []=_:=h6;rw[h6'] at h5;simp only[List.length_append] at hlen;obtain ⟨f,hf⟩:∃ f,fuel-k=f+1:=⟨fuel-k-1,by unfold fuel; omega⟩;rw[hf] at h5;cases hq:progL (f+1) [t] x with
   |none=>rw[hq] at h5; cases h5
   |some y=>
    rw[hq] at h5;cases y with
    |inl w=>cases h5
    |inr y=>
     obtain ⟨y1,y2,y3,y4⟩:=y;exact zath hk f x ⟨y2,y3,y4⟩ y1 hq
 ·have h4:qaA (u++t::r)=_:=h3 u t r rfl rfl;rw[← h1,h] at h4;cases h4
end Lift.A4
namespace Lift.A1P
open Go Go.RowKit Lift Go.IntWalk Lift.Fn
theorem zaum:∀ x∈twos,x.headD 0≠35∧x.headD 0≠9∧x.headD 0≠10∧x.headD 0≠13∧x.headD 0≠32:=by decide
theorem zavp:∀ b∈ones,b≠35∧b≠9∧b≠10∧b≠13∧b≠32:=by decide
theorem zaxw {w:List Int} {t:Token} (h:whole w t) (r:List Int):skip false (w++r)=w++r:=by
 obtain ⟨h1,h2,h3,h4⟩:=h;match w,h1 with
 |a::w,_=>
  simp only[List.all_cons,Bool.and_eq_true] at h2;have key:a≠35∧Sp.blank a=false:=by
   cases hg:goesR a with
   |true=>
    unfold goesR Sp.letter Sp.digit at hg;simp only[Bool.or_eq_true,Bool.and_eq_true,decide_eq_true_eq] at hg;constructor
    ·omega
    ·simp only[Sp.blank,decide_eq_false_iff_not]; omega
   |false=>
    obtain ⟨b,u,hb⟩:=zank a w;unfold tokR at h3;simp only[List.headD_cons,hg,cond_false] at h3;cases hc:(sgn (encs (a::w))==[]) with
    |true=>rw[hc] at h3; simp at h3
    |false=>
     have hne:sgn (encs (a::w))≠[]:=by simpa using hc
     have hbb:b.toNat<128∧b≠35∧b≠9∧b≠10∧b≠13∧b≠32:=by
      unfold sgn at hne;by_cases k1:1<(encs (a::w)).length∧twos.contains ((encs (a::w)).take 2)=true
      ·have hm:(encs (a::w)).take 2∈twos:=by simpa using k1.2
       have q1:=(zan7 _ hm).2;have q2:=zaum _ hm;rw[hb] at q1 q2;simp only[List.take_succ_cons,List.all_cons,Bool.and_eq_true,decide_eq_true_eq,List.headD_cons] at q1 q2;exact ⟨q1.1,q2⟩
      ·rw[if_neg k1] at hne;by_cases k2:ones.contains ((encs (a::w)).headD 0)=true
       ·rw[hb] at k2;have hm:b∈ones:=by simpa using k2
        exact ⟨zan6 b hm,zavp b hm⟩
       ·rw[if_neg k2] at hne;exact absurd rfl hne
     obtain ⟨e1,_⟩:=zadk h2.1 hb hbb.1;have hr:=zae7 h2.1;have hlen:=congrArg List.length e1;rw[zaci] at hlen;have ha:a<128:=by
      unfold Sp.long at hlen;by_cases k:a<128
      ·exact k
      ·rw[if_neg k] at hlen;split at hlen
       ·simp at hlen
       ·split at hlen<;>simp at hlen
     have e2:UInt8.ofNat a.toNat=b:=by
      have:encB a=[UInt8.ofNat a.toNat]:=by simp[encB,bytesOf,Sp.enc,ha]
      rw[this] at e1;exact (List.cons.inj e1).1
     have e3:b.toNat=a.toNat:=by rw[← e2,zabx _ (by omega)]
     obtain ⟨_,n1,n2,n3,n4,n5⟩:=hbb;have no:∀ c:UInt8,b≠c→b.toNat≠c.toNat:=fun c hc hh=>hc (UInt8.toNat_inj.1 hh)
     have m1:=no 35 n1;have m2:=no 9 n2;have m3:=no 10 n3;have m4:=no 13 n4;have m5:=no 32 n5;simp only[show (35:UInt8).toNat=35 from rfl,show (9:UInt8).toNat=9 from rfl,show (10:UInt8).toNat=10 from rfl,show (13:UInt8).toNat=13 from rfl,show (32:UInt8).toNat=32 from rfl] at m1 m2 m3 m4 m5;constructor
     ·omega
     ·simp only[Sp.blank,decide_eq_false_iff_not]; omega
  simp only[List.cons_append,skip];rw[if_neg key.1,key.2];rfl
theorem zatu {w:List Int} {t:Token} (h:whole w t):restR w=[]:=by
 obtain ⟨h1,h2,h3,h4⟩:=h;match w,h1 with
 |a::w,_=>
  obtain ⟨ds,_,q2,q3⟩:=zagq a w h2 (by rw[h3]);have:encs (ds++restR (a::w))=encs ds:=by
   rw[← q2,q3,h3];exact h4.symm
  exact zam5 this
def jr:List (List Int)→List Int
 |[]=>[]
 |[w]=>w
 |w::v::ws=>w++32::jr (v::ws)
end Lift.A1P
namespace Lift.A4
open Go Go.RowKit Lift Go.IntWalk Lift.Fn Lift.A1P
set_option linter.unusedVariables false
set_option linter.unusedSimpArgs false
theorem zan4 (c:Int):1≤(encB c).length:=by
 rw[zaci];have:=zadz c;omega
theorem zal4 (c:Bool) (l:List Int):(skip c l).length≤l.length:=by
 obtain ⟨ds,h⟩:=zabm l c;have:=congrArg List.length h;rw[List.length_append] at this;omega
noncomputable def T (p:Int) (rs:List Int):(Int×Int)⊕List Token:=toks rs.length p rs
theorem T_nil (p:Int):T p []=.inr []:=rfl
theorem zahi {r:Int} {rs:List Int} (ha:(r::rs).all Sp.isRune=true) (h0:(tokR (r::rs)).2=0):(skip false (restR (r::rs))).all Sp.isRune=true∧(skip false (restR (r::rs))).length≤rs.length:=by
 obtain ⟨ds,h1,h2,_⟩:=zagq r rs ha h0;obtain ⟨es,h3⟩:=zabm (restR (r::rs)) false;have h4:r::rs=(ds++es)++skip false (restR (r::rs)):=by rw[List.append_assoc,← h3,← h2]
 refine ⟨zacp (ds:=ds++es) (by rw[← h4]; exact ha),?_⟩;have:=congrArg List.length h2;have q:=zal4 false (restR (r::rs));have q2:0<ds.length:=List.length_pos_iff.2 h1;simp only[List.length_cons,List.length_append] at this;omega
theorem zail (p:Int) (r:Int) (rs:List Int) (ha:(r::rs).all Sp.isRune=true):T p (r::rs)=bif (tokR (r::rs)).2 != 0 then .inl ((tokR (r::rs)).2,p) else
   match T (p+(encs (r::rs)).length-(encs (skip false (restR (r::rs)))).length) (skip false (restR (r::rs))) with
   |.inl e=>.inl e
   |.inr l=>.inr (⟨(tokR (r::rs)).1.kind,(tokR (r::rs)).1.text,(tokR (r::rs)).1.num,p⟩::l):=by
 show toks (rs.length+1) p (r::rs)=_;rw[toks];by_cases h0:(tokR (r::rs)).2=0
 ·obtain ⟨q1,q2⟩:=zahi ha h0;have e:((tokR (r::rs)).2 != 0)=false:=by simp[h0]
  rw[e,cond_false,cond_false];unfold T;rw[zakm rs.length (skip false (restR (r::rs))).length _ _ q1 q2 (Nat.le_refl _)];all_goals (cases toks (skip false (restR (r::rs))).length (p+(encs (r::rs)).length-(encs (skip false (restR (r::rs)))).length) (skip false (restR (r::rs)))<;>rfl)
 ·have e:((tokR (r::rs)).2 != 0)=true:=by simp[h0]
  rw[e,cond_true,cond_true]
theorem zapp (a b:List Int):((encs (a++b)).length:Int)=(encs a).length+(encs b).length:=by rw[zaal,List.length_append]; omega
end Lift.A4
namespace Lift.A4
open Go Go.RowKit Lift Go.IntWalk Lift.Fn Lift.A1P
set_option linter.unusedVariables false
set_option linter.unusedSimpArgs false
theorem zaqo (rs:List Int):(tokR rs).1.kind≠5∧(tokR rs).2≠40:=by
 unfold tokR;cases goesR (rs.headD 0) with
 |true=>
  rw[cond_true];cases Sp.digit (rs.headD 0) with
  |true=>
   rw[cond_true];cases (numS (encs (rs.takeWhile goesR))).2<;>constructor<;>simp
  |false=>
   rw[cond_false];cases words.contains (encs (rs.takeWhile goesR)) with
   |true=>constructor<;>simp
   |false=>
    rw[cond_false];cases decide (16<(rs.takeWhile goesR).length)<;>constructor<;>simp
 |false=>
  rw[cond_false];cases (sgn (encs rs)==[])<;>constructor<;>simp
theorem T_bad:∀ (n:Nat) (rs:List Int) (p:Int) (e:Int×Int),rs.length≤n→rs.all Sp.isRune=true→T p rs=.inl e→e.1≠0∧e.1≠40:=by
 intro n;induction n with
 |zero=>
  intro rs p e hn ha h;have:rs=[]:=List.eq_nil_of_length_eq_zero (by omega);subst this;cases h
 |succ n ih=>
  intro rs p e hn ha h;cases rs with
  |nil=>cases h
  |cons r rs=>
   simp only[List.length_cons] at hn;rw[zail p r rs ha] at h;by_cases h0:(tokR (r::rs)).2=0
   ·have e1:((tokR (r::rs)).2 != 0)=false:=by simp[h0]
    rw[e1,cond_false] at h;obtain ⟨q1,q2⟩:=zahi ha h0;cases hT:T (p+(encs (r::rs)).length-(encs (skip false (restR (r::rs)))).length) (skip false (restR (r::rs))) with
    |inl e2=>
     rw[hT] at h;simp only[Sum.inl.injEq] at h;rw[← h];exact ih _ _ _ (by omega) q1 hT
    |inr l'=>rw[hT] at h; cases h
   ·have e1:((tokR (r::rs)).2 != 0)=true:=by simp[h0]
    rw[e1,cond_true,Sum.inl.injEq] at h;rw[← h];exact ⟨h0,(zaqo _).2⟩
theorem T_ok:∀ (n:Nat) (rs:List Int) (p:Int) (l:List Token),rs.length≤n→rs.all Sp.isRune=true→T p rs=.inr l →
  (∀ x∈l,p≤x.at_∧x.at_<p+(encs rs).length∧x.kind≠5∧∃ w t,whole w t∧core x=core t)∧l.Pairwise (fun x y=>x.at_<y.at_):=by
 intro n;induction n with
 |zero=>
  intro rs p l hn ha h;have:rs=[]:=List.eq_nil_of_length_eq_zero (by omega);subst this;rw[T_nil,Sum.inr.injEq] at h;subst h;exact ⟨fun x hx=>(by cases hx),.nil⟩
 |succ n ih=>
  intro rs p l hn ha h;cases rs with
  |nil=>
   rw[T_nil,Sum.inr.injEq] at h;subst h;exact ⟨fun x hx=>(by cases hx),.nil⟩
  |cons r rs=>
   simp only[List.length_cons] at hn;rw[zail p r rs ha] at h;by_cases h0:(tokR (r::rs)).2=0
   ·have e1:((tokR (r::rs)).2 != 0)=false:=by simp[h0]
    rw[e1,cond_false] at h;obtain ⟨q1,q2⟩:=zahi ha h0;obtain ⟨w,hw,hsp⟩:=alone r rs ha h0;obtain ⟨sep,hsep⟩:=zabm (restR (r::rs)) false;have hlen:((encs (r::rs)).length:Int)=(encs w).length+(encs sep).length+(encs (skip false (restR (r::rs)))).length:=by
     have h1:=congrArg (fun l=>((encs l).length:Int)) hsp;have h2:=congrArg (fun l=>((encs l).length:Int)) hsep;rw[zapp] at h1 h2;omega
    have hwl:0<(encs w).length:=by
     have:=zaca w;have:0<w.length:=List.length_pos_iff.2 hw.1;omega
    cases hT:T (p+(encs (r::rs)).length-(encs (skip false (restR (r::rs)))).length) (skip false (restR (r::rs))) with
    |inl e2=>rw[hT] at h; cases h
    |inr l'=>
     rw[hT] at h;simp only[Sum.inr.injEq] at h;obtain ⟨i1,i2⟩:=ih _ _ _ (by omega) q1 hT;subst h;constructor
     ·intro x hx;simp only[List.mem_cons] at hx;rcases hx with rfl|hx
      ·exact ⟨Int.le_refl _,by show p<_; omega,(zaqo _).1,w,_,hw,rfl⟩
      ·obtain ⟨a1,a2,a3,a4⟩:=i1 x hx;exact ⟨by omega,by omega,a3,a4⟩
     ·refine List.Pairwise.cons (fun x hx=>?_) i2;obtain ⟨a1,a2,a3,a4⟩:=i1 x hx;show p<x.at_;omega
   ·have e1:((tokR (r::rs)).2 != 0)=true:=by simp[h0]
    rw[e1,cond_true] at h;cases h
noncomputable def p0 (rs:List Int):Int:=((encs rs).length:Int)-(encs (skip false rs)).length
theorem zad3 {rs:List Int} (ha:rs.all Sp.isRune=true):(skip false rs).all Sp.isRune=true:=by
 obtain ⟨ds,h⟩:=zabm rs false;exact zacp (ds:=ds) (by rw[← h]; exact ha)
theorem zau5 (rs:List Int) (ha:rs.all Sp.isRune=true):toks rs.length (p0 rs) (skip false rs)=T (p0 rs) (skip false rs):=by
 unfold T;exact zakm _ _ _ _ (zad3 ha) (zal4 _ _) (Nat.le_refl _)
theorem zahz (t:List UInt8):(∃ f,qaj t=some ([],f)∧f.code≠0∧f.code≠40) ∨
  (∃ rs l,t=encs rs∧rs.all Sp.isRune=true∧t.length≤4000∧T (p0 rs) (skip false rs)=.inr l∧qaj t=some (l++[⟨5,[],0,(t.length:Int)⟩],⟨0,0,[]⟩)):=by
 rcases zalt t with ⟨h1,h2⟩|⟨h0,rs,rest,_,_,_,_,h1,h2⟩|⟨h0,rs,rfl,ha,h1,h2⟩
 ·refine .inl ⟨_,zags t (by rw[h2]; decide),?_,?_⟩<;>· rw[h2]; decide
 ·refine .inl ⟨_,zags t (by rw[h2]; show (11:Int)≠0; decide),?_,?_⟩
  ·rw[h2]; show (11:Int)≠0; decide
  ·rw[h2]; show (11:Int)≠40; decide
 ·have h:=zany rs ha h0;have e:=zau5 rs ha;unfold p0 at e;rw[e] at h;cases hT:T (((encs rs).length:Int)-(encs (skip false rs)).length) (skip false rs) with
  |inl e2=>
   rw[hT] at h;obtain ⟨b1,b2⟩:=T_bad _ _ _ _ (Nat.le_refl _) (zad3 ha) hT;exact .inl ⟨_,h,b1,b2⟩
  |inr l=>
   rw[hT] at h;exact .inr ⟨rs,l,rfl,ha,h0,hT,h⟩
end Lift.A4
namespace Lift.A4
open Go Go.RowKit Lift Go.IntWalk Lift.Fn Lift.A1P
set_option linter.unusedVariables false
set_option linter.unusedSimpArgs false
theorem zaop {c:Int} (hc:goesR c=false) {w r:List Int} (h:w.takeWhile goesR=w):(w++c::r).takeWhile goesR=w:=by
 have hall:∀ x∈w,goesR x=true:=fun x hx=>by
  rw[← h] at hx;exact List.all_eq_true.1 (List.all_takeWhile) x hx
 rw[List.takeWhile_append_of_pos hall,List.takeWhile_cons,hc];simp
theorem zavl {c:Int} (hc:goesR c=false) {w r:List Int} (h:w.takeWhile goesR=w):(w++c::r).dropWhile goesR=c::r:=by
 have h1:=zaop (r:=r) hc h;have h2:=List.takeWhile_append_dropWhile (p:=goesR) (l:=w++c::r);rw[h1] at h2;exact List.append_cancel_left h2
theorem zaxj {c:Int} {w:List Int} {r:List Int} (h0:encs w≠[]) (h:sgn (encs w)=encs w) (hc:∀ b∈ones,encs w=[b]→twos.contains [b,(encB c).headD 0]=false):sgn (encs (w++c::r))=encs w:=by
 rw[zaal,zaar];unfold sgn at h;by_cases h1:1<(encs w).length∧twos.contains ((encs w).take 2)=true
 ·rw[if_pos h1] at h;have hl:(encs w).length=2:=by
   have:=congrArg List.length h;rw[List.length_take] at this;omega
  have ht:(encs w++(encB c++encs r)).take 2=encs w:=by rw[← hl,List.take_left]
  unfold sgn;rw[if_pos ⟨by rw[List.length_append]; omega,by rw[ht]; rw[h] at h1; exact h1.2⟩,ht]
 ·rw[if_neg h1] at h;by_cases h2:ones.contains ((encs w).headD 0)=true
  ·rw[if_pos h2] at h;match hw:encs w,h0 with
   |b::t,_=>
    rw[hw] at h h2 hc;have ht:t=[]:=by
     have:=congrArg List.length h;simp only[List.take_succ_cons,List.take_zero,List.length_cons,List.length_nil] at this;exact List.eq_nil_of_length_eq_zero (by omega)
    subst ht;have hb:b∈ones:=by simpa using h2
    have h3:=hc b hb rfl;have h4:=zan4 c;cases hk:encB c with
    |nil=>rw[hk] at h4; simp at h4
    |cons k ks=>
     rw[hk] at h3;unfold sgn;refine (if_neg fun hh=>?_).trans ((if_pos ?_).trans rfl)
     ·have h9:twos.contains [b,k]=true:=hh.2;rw[show ([b,(k::ks).headD 0]:List UInt8)=[b,k] from rfl,h9] at h3;cases h3
     ·exact h2
  ·rw[if_neg h2] at h;exact absurd h.symm h0
theorem zayg {w:List Int} {t:Token} (h:whole w t) (c:Int) (r:List Int) (hg:goesR (w.headD 0)=true→goesR c=false) (hs:goesR (w.headD 0)=false→∀ b∈ones,encs w=[b]→twos.contains [b,(encB c).headD 0]=false) :
  tokR (w++c::r)=(t,0)∧restR (w++c::r)=c::r:=by
 obtain ⟨h1,h2,h3,h4⟩:=h;have hh:=zaw7 h1 (c::r);cases hg2:goesR (w.headD 0) with
 |true=>
  have hc:=hg hg2;have hw:=zajj ⟨h1,h2,h3,h4⟩ hg2;have ht:=zaop (r:=r) hc hw;constructor
  ·rw[← h3];unfold tokR;rw[hh,hg2,ht,hw];rfl
  ·unfold restR;rw[hh,hg2,cond_true,zavl hc hw]
 |false=>
  have h0:encs w≠[]:=by
   match w,h1 with
   |a::w,_=>obtain ⟨b,u,hb⟩:=zank a w; rw[hb]; exact List.cons_ne_nil _ _
  have hsg:sgn (encs w)=encs w:=by
   have h5:=h3;unfold tokR at h5;rw[hg2,cond_false] at h5;cases hc:(sgn (encs w)==[]) with
   |true=>rw[hc] at h5; simp at h5
   |false=>
    rw[hc,cond_false] at h5;have:=congrArg (fun x=>x.1.text) h5;simp only at this;rw[this,h4]
  have ha:=zaxj (c:=c) (r:=r) h0 hsg (hs hg2);constructor
  ·rw[← h3];unfold tokR;rw[hh,hg2,ha,hsg];rfl
  ·unfold restR;rw[hh,hg2,cond_false,ha];have hlen:(encs w).length=w.length:=by
    match w,h1 with
    |a::w,_=>
     obtain ⟨q1,q2⟩:=zaki a w h2 (by rw[hsg]; exact h0);rw[hsg] at q1;have q3:encs ((a::w).take (encs (a::w)).length++(a::w).drop (encs (a::w)).length)=encs ((a::w).take (encs (a::w)).length):=by rw[List.take_append_drop,q1]
     have q5:=zaca (a::w);have q6:(sgn (encs (a::w))).length≤2:=by
      unfold sgn;split
      ·rw[List.length_take]; omega
      ·split
       ·rw[List.length_take]; omega
       ·simp
     rw[hsg] at q6;have q7:=zaca w;have q8:(encs (a::w)).length=(encB a).length+(encs w).length:=by rw[zaar,List.length_append]
     have q9:=zaci a;have q10:=zadz a;by_cases hz:w.length=0
     ·have hwn:w=[]:=List.eq_nil_of_length_eq_zero hz;subst hwn;obtain ⟨b,u,hb⟩:=zank a [];simp only[List.all_cons,Bool.and_eq_true] at h2;have hbn:b.toNat<128:=by
       unfold sgn at hsg;by_cases k1:1<(encs [a]).length∧twos.contains ((encs [a]).take 2)=true
       ·have hm:(encs [a]).take 2∈twos:=by simpa using k1.2
        have:=(zan7 _ hm).2;rw[hb] at this;cases u with
        |nil=>simp only[List.take_succ_cons,List.take_nil,List.all_cons,List.all_nil,Bool.and_true,decide_eq_true_eq] at this; exact this
        |cons c u=>simp only[List.take_succ_cons,List.take_zero,List.all_cons,Bool.and_eq_true,decide_eq_true_eq] at this; exact this.1
       ·rw[if_neg k1] at hsg;by_cases k2:ones.contains ((encs [a]).headD 0)=true
        ·rw[hb] at k2;exact zan6 b (by simpa using k2)
        ·rw[if_neg k2] at hsg;exact absurd hsg.symm h0
      obtain ⟨e1,_⟩:=zadk h2.1 hb hbn;rw[zaar,e1];rfl
     ·simp only[List.length_cons];omega
   rw[hlen,List.drop_left]
theorem zax7:∀ (n:Nat) (rs:List Int) (p q:Int) (l:List Token),rs.length≤n→rs.all Sp.isRune=true→T p rs=.inr l→∃ m,T q rs=.inr m∧m.map core=l.map core:=by
 intro n;induction n with
 |zero=>
  intro rs p q l hn ha h;have:rs=[]:=List.eq_nil_of_length_eq_zero (by omega);subst this;rw[T_nil,Sum.inr.injEq] at h;subst h;exact ⟨[],T_nil q,rfl⟩
 |succ n ih=>
  intro rs p q l hn ha h;cases rs with
  |nil=>
   rw[T_nil,Sum.inr.injEq] at h;subst h;exact ⟨[],T_nil q,rfl⟩
  |cons r rs=>
   simp only[List.length_cons] at hn;rw[zail p r rs ha] at h;rw[zail q r rs ha];by_cases h0:(tokR (r::rs)).2=0
   ·have e1:((tokR (r::rs)).2 != 0)=false:=by simp[h0]
    rw[e1,cond_false] at h ⊢;obtain ⟨q1,q2⟩:=zahi ha h0;cases hT:T (p+(encs (r::rs)).length-(encs (skip false (restR (r::rs)))).length) (skip false (restR (r::rs))) with
    |inl e2=>rw[hT] at h; cases h
    |inr l'=>
     rw[hT] at h;simp only[Sum.inr.injEq] at h;obtain ⟨m,i1,i2⟩:=ih _ _ (q+(encs (r::rs)).length-(encs (skip false (restR (r::rs)))).length) _ (by omega) q1 hT;refine ⟨_,by rw[i1],?_⟩;subst h;simp only[List.map_cons,i2];rfl
   ·have e1:((tokR (r::rs)).2 != 0)=true:=by simp[h0]
    rw[e1,cond_true] at h;cases h
theorem zawr {rs:List Int} (ha:rs.all Sp.isRune=true) (h0:(encs rs).length≤4000) {p:Int} {l:List Token} (hT:T p (skip false rs)=.inr l):∃ m,qaj (encs rs)=some (m++[⟨5,[],0,((encs rs).length:Int)⟩],⟨0,0,[]⟩)∧m.map core=l.map core∧∀ t∈m,t.kind≠5:=by
 obtain ⟨m,h1,h2⟩:=zax7 _ _ p (p0 rs) l (Nat.le_refl _) (zad3 ha) hT;have h:=zany rs ha h0;have e:=zau5 rs ha;unfold p0 at e h1;rw[e,h1] at h;exact ⟨m,h,h2,fun t ht=>((T_ok _ _ _ _ (Nat.le_refl _) (zad3 ha) h1).1 t ht).2.2.1⟩
theorem T_len:∀ (n:Nat) (rs:List Int) (p:Int) (l:List Token),rs.length≤n→rs.all Sp.isRune=true→T p rs=.inr l→l.length≤rs.length:=by
 intro n;induction n with
 |zero=>
  intro rs p l hn ha h;have:rs=[]:=List.eq_nil_of_length_eq_zero (by omega);subst this;rw[T_nil,Sum.inr.injEq] at h;subst h;exact Nat.le_refl _
 |succ n ih=>
  intro rs p l hn ha h;cases rs with
  |nil=>
   rw[T_nil,Sum.inr.injEq] at h;subst h;exact Nat.le_refl _
  |cons r rs=>
   simp only[List.length_cons] at hn;rw[zail p r rs ha] at h;by_cases h0:(tokR (r::rs)).2=0
   ·have e1:((tokR (r::rs)).2 != 0)=false:=by simp[h0]
    rw[e1,cond_false] at h;obtain ⟨q1,q2⟩:=zahi ha h0;cases hT:T (p+(encs (r::rs)).length-(encs (skip false (restR (r::rs)))).length) (skip false (restR (r::rs))) with
    |inl e2=>rw[hT] at h; cases h
    |inr l'=>
     rw[hT] at h;simp only[Sum.inr.injEq] at h;have:=ih _ _ _ (by omega) q1 hT;subst h;simp only[List.length_cons];omega
   ·have e1:((tokR (r::rs)).2 != 0)=true:=by simp[h0]
    rw[e1,cond_true] at h;cases h
theorem zayc {rs:List Int} (ha:rs.all Sp.isRune=true) {p:Int} {l:List Token} (h:T p (skip false rs)=.inr l):l.length≤rs.length:=
 Nat.le_trans (T_len _ _ _ _ (Nat.le_refl _) (zad3 ha) h) (zal4 _ _)
end Lift.A4
namespace Lift.A4
open Go Go.RowKit Lift Go.IntWalk Lift.Fn Lift.A1P Lift.A3
set_option linter.unusedVariables false
set_option linter.unusedSimpArgs false
abbrev RR:=Fault×(List TCell)×(List (List UInt8))×(List TThread)
def rr (p:TProg) (f:Fault):RR:=(f,p.cells,p.mutexes,p.threads)
def fin (p:TProg):RR:=
 if maxEv (evP p) 0>16 then rr ⟨[],[],[]⟩ ⟨41,0,[]⟩ else if (cT p.threads:Int)>500 then rr ⟨[],[],[]⟩ ⟨42,0,[]⟩ else rr p ⟨0,0,[]⟩
theorem zau6 {t:List UInt8} {l:List Token} {f:Fault} (h:qaj t=some (l,f)) (hf:f.code≠0):qar t=some (rr ⟨[],[],[]⟩ f):=by
 rw[qar,zaaa];unfold qar_f;have e:(f.code != 0)=true:=by simp[hf]
 rw[h,Option.bind_some];dsimp only;rw[e];rfl
theorem zaqz {t:List UInt8} {l:List Token} {p:TProg} {z:List Token} (h:qaj t=some (l,⟨0,0,[]⟩)) (hp:qaA l=some (okP p z)) (hn:nT p.threads≤10000000000000000) :
  qar t=some (fin p):=by
 rw[qar,zaaa];unfold qar_f;rw[h,Option.bind_some];dsimp only;rw[hp,Option.bind_some];dsimp only[okP];rw[zagx,zaqc p hn,zaow p hn];unfold fin;simp only[bne_self_eq_false,cond_false,Option.bind_some];by_cases h1:maxEv (evP p) 0>16
 ·rw[if_pos h1,decide_eq_true h1]; rfl
 ·rw[if_neg h1,decide_eq_false h1,cond_false];by_cases h2:(cT p.threads:Int)>500
  ·rw[if_pos h2,decide_eq_true h2]; rfl
  ·rw[if_neg h2,decide_eq_false h2]; rfl
theorem zau3 {t:List UInt8} {l:List Token} {a:Int} (h:qaj t=some (l,⟨0,0,[]⟩)) (hp:qaA l=some (.inr ⟨a⟩)) :
  qar t=some (rr ⟨[],[],[]⟩ ⟨40,a,[]⟩):=by
 rw[qar,zaaa];unfold qar_f;rw[h,Option.bind_some];dsimp only;rw[hp,Option.bind_some];rfl
theorem toks_len {t:List UInt8} {l:List Token} {e:Token} {f:Fault} (h:qaj t=some (l++[e],f)) (hf:f.code=0):e.kind=5∧(∀ x∈l,x.kind≠5)∧l.length≤4000∧f=⟨0,0,[]⟩:=by
 rcases zahz t with ⟨f',h1,h2,_⟩|⟨rs,la,rfl,hra,hl,hT,h1⟩
 ·rw[h] at h1;simp only[Option.some.injEq,Prod.mk.injEq] at h1;rw[← h1.2] at h2;exact absurd hf h2
 ·rw[h] at h1;simp only[Option.some.injEq,Prod.mk.injEq] at h1;obtain ⟨g1,g2⟩:=List.append_inj' h1.1 rfl;have g3:=(List.cons.inj g2).1;subst g1;refine ⟨by rw[g3],fun x hx=>((T_ok _ _ _ _ (Nat.le_refl _) (zad3 hra) hT).1 x hx).2.2.1,?_,h1.2⟩;have:=zayc hra hT;have:=zaca rs;omega
theorem zall (t:List UInt8):(∃ f,qar t=some (rr ⟨[],[],[]⟩ f)∧f.code≠0) ∨
  (∃ l e p,qaj t=some (l++[e],⟨0,0,[]⟩)∧e.kind=5∧(∀ x∈l,x.kind≠5)∧l.length≤4000∧qar t=some (rr p ⟨0,0,[]⟩)∧DP p (l.map core)∧maxEv (evP p) 0≤16∧(cT p.threads:Int)≤500):=by
 rcases zahz t with ⟨f,h1,h2,_⟩|⟨rs,l,rfl,hra,hl,hT,h1⟩
 ·exact .inl ⟨f,zau6 h1 h2,h2⟩
 obtain ⟨q1,q2,q3,_⟩:=toks_len h1 rfl;generalize (⟨5,[],0,((encs rs).length:Int)⟩:Token)=e at h1 q1;have hlen:(l++[e]).length<1000000:=by rw[List.length_append,List.length_cons,List.length_nil]; omega
 obtain ⟨u,x,r,e1,e2,e3⟩:=zaqn (l++[e]) ⟨l,e,rfl,q1⟩ hlen;rcases e3 with ⟨p,c,h3⟩|h3
 ·have h4:qaA (u++x::r)=_:=h3 u x r rfl rfl;rw[← e1] at h4;have hd:=zaw8 q1 hlen h4 q2;have hs:=hd.size;rw[List.length_map] at hs;have h5:=zaqz h1 h4 (by omega);unfold fin at h5;by_cases k1:maxEv (evP p) 0>16
  ·rw[if_pos k1] at h5;exact .inl ⟨_,h5,by decide⟩
  ·rw[if_neg k1] at h5;by_cases k2:(cT p.threads:Int)>500
   ·rw[if_pos k2] at h5;exact .inl ⟨_,h5,by decide⟩
   ·rw[if_neg k2] at h5;exact .inr ⟨l,e,p,h1,q1,q2,q3,h5,hd,by omega,by omega⟩
 ·have h4:qaA (u++x::r)=_:=h3 u x r rfl rfl;rw[← e1] at h4;exact .inl ⟨_,zau3 h1 h4,by simp⟩
theorem zaw3 {t:List UInt8} {l:List Token} {e:Token} (h:qaj t=some (l++[e],⟨0,0,[]⟩)) {p:TProg} (hd:DP p (l.map core)):qar t=some (fin p):=by
 obtain ⟨q1,q2,q3,_⟩:=toks_len h rfl;have hlen:(l++[e]).length<1000000:=by rw[List.length_append,List.length_cons,List.length_nil]; omega
 have hs:=hd.size;rw[List.length_map] at hs;exact zaqz h (zaw1 hd rfl q1 hlen) (by omega)
end Lift.A4
namespace Lift.A4
open Go Go.RowKit Lift Go.IntWalk Lift.Fn Lift.A1P Lift.A3
set_option linter.unusedVariables false
set_option linter.unusedSimpArgs false
def isDig (c:UInt8):Bool:=decide (48≤c.toNat)&&decide (c.toNat≤57)
def valF (a:Nat) (t:List UInt8):Nat:=t.foldl (fun a c=>a*10+(c.toNat-48)) a
def canon (t:List UInt8):Bool:=t.all isDig&&match t with
 |[]=>false
 |[_]=>true
 |c::_::_=>!(c==48)
theorem zad9 {c:UInt8}:isDig c=true↔48≤c.toNat∧c.toNat≤57:=by simp[isDig]
theorem zaub (a:Nat) (t:List UInt8) (c:UInt8):valF a (t++[c])=valF a t*10+(c.toNat-48):=by simp[valF]
theorem zask:∀ (t:List UInt8) (a:Nat),a≤valF a t
 |[],a=>Nat.le_refl _
 |c::t,a=>by
  have:=zask t (a*10+(c.toNat-48));show a≤valF (a*10+(c.toNat-48)) t;omega
theorem zaya {u:Nat} (h:10≤u):Lib.decDigits u=Lib.decDigits (u / 10)++[UInt8.ofNat (48+u % 10)]:=by
 conv=>lhs; rw[Lib.decDigits]
 rw[dif_neg (by omega)]
theorem zag1:∀ (n:Nat),valF 0 (Lib.decDigits n)=n∧(Lib.decDigits n).all isDig=true∧Lib.decDigits n≠[]∧((Lib.decDigits n).head? = some 48→n=0):=by
 intro n;induction n using Nat.strongRecOn with
 |_ n ih=>
  by_cases h:n<10
  ·rw[Lib.decDigits_one h];have ht:(UInt8.ofNat (48+n)).toNat=48+n:=by rw[UInt8.toNat_ofNat']; omega
   refine ⟨by simp only[valF,List.foldl_cons,List.foldl_nil,ht]; omega,?_,by simp,fun e=>?_⟩
   ·simp only[List.all_cons,List.all_nil,Bool.and_true];exact zad9.2 (by omega)
   ·have e':UInt8.ofNat (48+n)=48:=by simpa using e
    have:=congrArg UInt8.toNat e';rw[ht] at this;have h48:(48:UInt8).toNat=48:=rfl;omega
  ·obtain ⟨i1,i2,i3,i4⟩:=ih (n / 10) (by omega);have ht:(UInt8.ofNat (48+n % 10)).toNat=48+n % 10:=by rw[UInt8.toNat_ofNat']; omega
   rw[zaya (by omega)];refine ⟨?_,?_,by simp,fun e=>?_⟩
   ·rw[zaub,i1,ht]; omega
   ·rw[List.all_append,i2,Bool.true_and];simp only[List.all_cons,List.all_nil,Bool.and_true];exact zad9.2 (by omega)
   ·rw[List.head?_append] at e;cases hq:(Lib.decDigits (n / 10)).head? with
    |none=>exact absurd (List.head?_eq_none_iff.1 hq) i3
    |some c=>
     rw[hq] at e;have:c=48:=by simpa using e
     subst this;have:=i4 hq;omega
theorem zauv (n:Nat):canon (Lib.decDigits n)=true:=by
 obtain ⟨h1,h2,h3,h4⟩:=zag1 n;unfold canon;rw[h2,Bool.true_and];match hq:Lib.decDigits n,h3,h4 with
 |[],h3,_=>exact absurd rfl h3
 |[c],_,_=>rfl
 |c::d::r,_,h4=>
  simp only;by_cases e:c=48
  ·subst e;have:=h4 rfl;subst this;rw[Lib.decDigits_one (by decide)] at hq;simp at hq
  ·simpa using e
theorem zaoo:∀ (l:List UInt8) (acc:Nat),l.all isDig=true→valF acc l≤2147483647→Lib.parseUint10 acc l=.ok (valF acc l)
 |[],acc,_,_=>rfl
 |c::l,acc,ha,hv=>by
  rw[List.all_cons,Bool.and_eq_true] at ha;have hc:=zad9.1 ha.1;have hv':valF (acc*10+(c.toNat-48)) l≤2147483647:=hv;have hg:=zask l (acc*10+(c.toNat-48));show (if 48≤c.toNat∧c.toNat≤57 then _ else _)=_;rw[if_pos hc,if_neg (by omega),if_neg (by omega),zaoo l _ ha.2 hv'];rfl
theorem zaws {n:Nat} (h:n≤2147483647):Lib.atoiAll (Lib.decDigits n)=.ok (n:Int):=by
 obtain ⟨h1,h2,h3,_⟩:=zag1 n;have hp:Lib.parseMag (Lib.decDigits n)=.ok n:=by
  unfold Lib.parseMag;rw[if_neg h3,zaoo _ 0 h2 (by omega),h1]
 match hq:Lib.decDigits n,h3,h2,hp with
 |[],h3,_,_=>exact absurd rfl h3
 |c::r,_,h2,hp=>
  rw[List.all_cons,Bool.and_eq_true] at h2;have hc:=zad9.1 h2.1;rw[Lib.atoiAll_plain c r (by omega) (by omega),hp];unfold Lib.signless;simp only;rw[if_neg (by omega)]
def asc (l:List UInt8):List Int:=l.map fun b=>((b.toNat:Nat):Int)
theorem zaxd {b:UInt8} (h:b.toNat<128):encB ((b.toNat:Nat):Int)=[b]:=by
 unfold encB Sp.enc;rw[if_pos (by omega)];show [UInt8.ofNat ((b.toNat:Nat):Int).toNat]=[b];rw[Int.toNat_natCast];simp
theorem zabq:∀ (l:List UInt8),(∀ b∈l,b.toNat<128)→encs (asc l)=l
 |[],_=>rfl
 |b::l,h=>by
  show encs (((b.toNat:Nat):Int)::asc l)=b::l;rw[zaar,zaxd (h b List.mem_cons_self),zabq l (fun c hc=>h c (List.mem_cons_of_mem _ hc))];rfl
theorem zajf {l:List UInt8} (h:∀ b∈l,b.toNat<128):(asc l).all Sp.isRune=true:=by
 rw[List.all_eq_true];intro r hr;obtain ⟨b,hb,rfl⟩:=List.mem_map.1 hr;have:=h b hb;simp only[Sp.isRune,decide_eq_true_eq];omega
theorem zakk {p:Int→Bool}:∀ {l:List Int},(∀ x∈l,p x=true)→l.takeWhile p=l
 |[],_=>rfl
 |a::l,h=>by rw[List.takeWhile_cons,h a List.mem_cons_self,zakk (fun x hx=>h x (List.mem_cons_of_mem _ hx))]; rfl
theorem zaqh {p:UInt8→Bool}:∀ {l:List UInt8},(∀ x∈l,p x=true)→l.dropWhile p=[]
 |[],_=>rfl
 |a::l,h=>by rw[List.dropWhile_cons,h a List.mem_cons_self,if_pos rfl,zaqh (fun x hx=>h x (List.mem_cons_of_mem _ hx))]
theorem zaxa (l:List UInt8) (h:∀ b∈l,tens.contains b=true):Lib.trimS l tens=[]:=by
 have:Lib.trimRightS l tens=[]:=by
  unfold Lib.trimRightS;rw[zaqh (fun x hx=>h x (List.mem_reverse.1 hx))];rfl
 unfold Lib.trimS;rw[this];rfl
theorem tens_all:∀ i:Fin 256,isDig (UInt8.ofNat i.val)=tens.contains (UInt8.ofNat i.val):=by decide +kernel
theorem tens_dig (b:UInt8):tens.contains b=isDig b:=by
 have:=tens_all ⟨b.toNat,b.toNat_lt⟩;simpa using this.symm
theorem zawe {n:Nat} (h:n≤2147483647):numS (Lib.decDigits n)=((n:Int),true):=by
 obtain ⟨h1,h2,h3,h4⟩:=zag1 n;unfold numS;rw[if_neg,if_neg]
 ·unfold zabo;rw[zaws h];dsimp only;rw[if_neg (by simp),decide_eq_true (by omega)]
 ·intro hh;exact hh (zaxa _ (fun b hb=>by rw[tens_dig]; exact List.all_eq_true.1 h2 b hb))
 ·rintro ⟨g1,g2⟩
  have hc:=zauv n;unfold canon at hc;match hq:Lib.decDigits n,h3 with
  |[c],_=>rw[hq] at g1; simp at g1
  |c::d::r,_=>
   rw[hq] at g2 hc;rw[Bool.and_eq_true] at hc;have:c=48:=by
    have:c.toNat=48:=g2;exact UInt8.toNat_inj.1 this
   subst this;have:=hc.2;simp at this
theorem zavh {n:Nat} (h:n≤2147483647):whole (asc (Lib.decDigits n)) ⟨2,Lib.decDigits n,n,0⟩:=by
 obtain ⟨h1,h2,h3,h4⟩:=zag1 n;have hd:∀ b∈Lib.decDigits n,48≤b.toNat∧b.toNat≤57:=fun b hb=>zad9.1 (List.all_eq_true.1 h2 b hb)
 have ha:∀ b∈Lib.decDigits n,b.toNat<128:=fun b hb=>by have:=hd b hb; omega
 have hg:∀ x∈asc (Lib.decDigits n),Sp.digit x=true:=by
  intro x hx;obtain ⟨b,hb,rfl⟩:=List.mem_map.1 hx;have:=hd b hb;simp only[Sp.digit,decide_eq_true_eq];omega
 have hg2:∀ x∈asc (Lib.decDigits n),goesR x=true:=fun x hx=>by unfold goesR; rw[hg x hx,Bool.or_true]
 have hne:asc (Lib.decDigits n)≠[]:=by
  intro e;exact h3 (List.map_eq_nil_iff.1 e)
 have hh:(asc (Lib.decDigits n)).headD 0∈asc (Lib.decDigits n):=by
  match asc (Lib.decDigits n),hne with
  |a::l,_=>exact List.mem_cons_self
 refine ⟨hne,zajf ha,?_,(zabq _ ha).symm⟩;unfold tokR;rw[hg2 _ hh,hg _ hh,zakk hg2,zabq _ ha,zawe h];rfl
def brk (w r:List Int):Prop:=match r with
 |[]=>True
 |c::_=>(goesR (w.headD 0)=true→goesR c=false)∧(goesR (w.headD 0)=false→∀ b∈ones,encs w=[b]→twos.contains [b,(encB c).headD 0]=false)
inductive LX:List Int→List Tk→Prop
 |nil:LX [] []
 |sp {c:Int} {r:List Int} {l:List Tk}:Sp.blank c=true→LX r l→LX (c::r) l
 |tk {w r:List Int} {t:Token} {l:List Tk}:whole w t→brk w r→LX r l→LX (w++r) (core t::l)
theorem LX.rune {rs:List Int} {l:List Tk} (h:LX rs l):rs.all Sp.isRune=true:=by
 induction h with
 |nil=>rfl
 |sp hb _ ih=>
  rw[List.all_cons,ih,Bool.and_true];simp only[Sp.blank,decide_eq_true_eq] at hb;simp only[Sp.isRune,decide_eq_true_eq];omega
 |tk hw _ _ ih=>rw[List.all_append,hw.2.1,ih]; rfl
theorem LX.toks {rs:List Int} {l:List Tk} (h:LX rs l) (p:Int):∃ m,T p (skip false rs)=.inr m∧m.map core=l:=by
 induction h generalizing p with
 |nil=>exact ⟨[],T_nil p,rfl⟩
 |@sp c r l hb hr ih=>
  have:skip false (c::r)=skip false r:=by
   simp only[skip];by_cases h35:c=35
   ·subst h35; exact absurd hb (by decide)
   ·rw[if_neg h35,if_pos hb]
  rw[this];exact ih p
 |@tk w r t l hw hb hr ih=>
  rw[zaxw hw];have hall:(w++r).all Sp.isRune=true:=by rw[List.all_append,hw.2.1,hr.rune]; rfl
  have key:tokR (w++r)=(t,0)∧restR (w++r)=r:=by
   cases r with
   |nil=>rw[List.append_nil]; exact ⟨hw.2.2.1,zatu hw⟩
   |cons c r=>exact zayg hw c r hb.1 hb.2
  obtain ⟨a,w',rfl⟩:∃ a w',w=a::w':=List.exists_cons_of_ne_nil hw.1;rw[List.cons_append] at key hall ⊢;rw[zail p a (w'++r) hall,key.1,key.2];obtain ⟨m,h1,h2⟩:=ih (p+((encs (a::(w'++r))).length:Int)-(encs (skip false r)).length);refine ⟨⟨t.kind,t.text,t.num,p⟩::m,?_,?_⟩
  ·rw[h1]; rfl
  ·rw[List.map_cons,h2]; rfl
def LB (s:List UInt8) (l:List Tk):Prop:=∃ rs,encs rs=s∧LX rs l
theorem LB.lex {s:List UInt8} {l:List Tk} (h:LB s l) (hl:s.length≤4000):∃ m e,qaj s=some (m++[e],⟨0,0,[]⟩)∧m.map core=l:=by
 obtain ⟨rs,rfl,h⟩:=h;obtain ⟨m,h1,h2⟩:=h.toks 0;obtain ⟨k,h3,h4,_⟩:=zawr h.rune hl h1;exact ⟨k,_,h3,by rw[h4,h2]⟩
theorem LB.nil:LB [] []:=⟨[],rfl,.nil⟩
theorem LB.sp {s:List UInt8} {l:List Tk} (h:LB s l):LB (32::s) l:=by
 obtain ⟨rs,rfl,h⟩:=h;exact ⟨32::rs,by rw[zaar]; rfl,.sp (by decide) h⟩
theorem LB.nl {s:List UInt8} {l:List Tk} (h:LB s l):LB (10::s) l:=by
 obtain ⟨rs,rfl,h⟩:=h;exact ⟨10::rs,by rw[zaar]; rfl,.sp (by decide) h⟩
theorem LB.tab {s:List UInt8} {l:List Tk} (h:LB s l):∀ d:Nat,LB (Lib.repeatL [32,32] d++s) l
 |0=>h
 |d+1=>(LB.tab h d).sp.sp
def stop (s:List UInt8):Prop:=∃ b∈[(32:UInt8),59,41,10],∃ r,s=b::r
theorem zavj {b:UInt8} (hb:b∈[(32:UInt8),59,41,10]) {c:Int} {r:List Int} {s:List UInt8} (hc:Sp.isRune c=true) (h:encs (c::r)=b::s):goesR c=false:=by
 have hlt:b.toNat<128:=by
  simp only[List.mem_cons,List.not_mem_nil,or_false] at hb;rcases hb with rfl|rfl|rfl|rfl<;>decide
 obtain ⟨h1,_⟩:=zadk hc h hlt;have h2:c=((b.toNat:Nat):Int):=by
  have hc':=hc;simp only[Sp.isRune,decide_eq_true_eq] at hc';have h3:=zaci c;rw[h1] at h3;have h4:(Sp.long c).toNat=1:=by simpa using h3.symm
  have h5:c<128:=by
   unfold Sp.long at h4;split at h4
   ·assumption
   ·split at h4
    ·exact absurd h4 (by decide)
    ·split at h4<;>exact absurd h4 (by decide)
  have h6:encB c=[UInt8.ofNat c.toNat]:=by unfold encB Sp.enc; rw[if_pos h5]; rfl
  rw[h6] at h1;have h7:=congrArg (fun l=>(l.headD 0).toNat) h1;simp only[List.headD_cons,UInt8.toNat_ofNat'] at h7;omega
 rw[h2];simp only[List.mem_cons,List.not_mem_nil,or_false] at hb;rcases hb with rfl|rfl|rfl|rfl<;>decide
theorem LB.goes {w:List Int} {t:Token} (hw:whole w t) (hg:goesR (w.headD 0)=true) {s:List UInt8} {l:List Tk} (hs:stop s) (h:LB s l):LB (encs w++s) (core t::l):=by
 obtain ⟨rs,rfl,h⟩:=h;obtain ⟨b,hb,r,hr⟩:=hs;refine ⟨w++rs,zaal _ _,.tk hw ?_ h⟩;have ha:=h.rune;cases rs with
 |nil=>trivial
 |cons c rs=>
  rw[List.all_cons,Bool.and_eq_true] at ha;exact ⟨fun _=>zavj hb ha.1 hr,fun hh=>by rw[hg] at hh; cases hh⟩
theorem LB.num {n:Nat} (hn:n≤2147483647) {s:List UInt8} {l:List Tk} (hs:stop s) (h:LB s l):LB (Lib.decDigits n++s) ((2,Lib.decDigits n,(n:Int))::l):=by
 have hw:=zavh hn;have hg:goesR ((asc (Lib.decDigits n)).headD 0)=true:=by
  obtain ⟨_,h2,h3,_⟩:=zag1 n;match hq:Lib.decDigits n,h3 with
  |b::r,_=>
   rw[hq,List.all_cons,Bool.and_eq_true] at h2;have:=zad9.1 h2.1;show goesR ((b.toNat:Nat):Int)=true;unfold goesR Sp.digit;rw[decide_eq_true (by omega),Bool.or_true]
 have:=LB.goes hw hg hs h;rwa [← hw.2.2.2] at this
theorem LB.sign {w:List Int} {t:Token} (hw:whole w t) (hg:goesR (w.headD 0)=false) (ho:∀ b∈ones,encs w=[b]→∀ c∈twos,c.headD 0≠b) {s:List UInt8} {l:List Tk} (h:LB s l):LB (encs w++s) (core t::l):=by
 obtain ⟨rs,rfl,h⟩:=h;refine ⟨w++rs,zaal _ _,.tk hw ?_ h⟩;cases rs with
 |nil=>trivial
 |cons c rs=>
  refine ⟨fun hh=>(by rw[hg] at hh; cases hh),fun _ b hb e=>?_⟩;cases hc:twos.contains [b,(encB c).headD 0] with
  |false=>rfl
  |true=>
   exfalso;exact ho b hb e [b,(encB c).headD 0] (by simpa using hc) rfl
theorem LB.signN {w:List Int} {t:Token} (hw:whole w t) (hg:goesR (w.headD 0)=false) {s:List UInt8} {l:List Tk} (ho:∀ b∈ones,encs w=[b]→∀ c∈twos,c≠[b,s.headD 0]) (h:LB s l):LB (encs w++s) (core t::l):=by
 obtain ⟨rs,rfl,h⟩:=h;refine ⟨w++rs,zaal _ _,.tk hw ?_ h⟩;cases rs with
 |nil=>trivial
 |cons c rs=>
  refine ⟨fun hh=>(by rw[hg] at hh; cases hh),fun _ b hb e=>?_⟩;cases hc:twos.contains [b,(encB c).headD 0] with
  |false=>rfl
  |true=>
   exfalso;have hm:[b,(encB c).headD 0]∈twos:=by simpa using hc
   refine ho b hb e _ hm ?_;rw[zaar];have:=zan4 c;cases hk:encB c with
   |nil=>rw[hk] at this; simp at this
   |cons k ks=>rfl
end Lift.A4
namespace Lift.A4
open Go Go.RowKit Lift Go.IntWalk Lift.Fn Lift.A1P Lift.A3
set_option linter.unusedVariables false
set_option linter.unusedSimpArgs false
theorem zal3 {w:List Int} {u:Token} (h:whole w u) (hk:u.kind=1):core u=(1,encs w,0)∧w.length≤16∧goesR (w.headD 0)=true:=by
 have h3:=h.2.2.1;unfold tokR at h3;cases hg:goesR (w.headD 0) with
 |false=>
  rw[hg,cond_false] at h3;cases hs:(sgn (encs w)==[]) with
  |true=>rw[hs] at h3; simp at h3
  |false=>
   rw[hs] at h3;simp only[cond_false,Prod.mk.injEq,and_true] at h3;rw[← h3] at hk;exact absurd hk (by simp)
 |true=>
  rw[zajj h hg,hg,cond_true] at h3;cases hd:Sp.digit (w.headD 0) with
  |true=>
   rw[hd,cond_true] at h3;cases hn:(numS (encs w)).2 with
   |true=>
    rw[hn] at h3;simp only[cond_true,Prod.mk.injEq,and_true] at h3;rw[← h3] at hk;exact absurd hk (by simp)
   |false=>rw[hn] at h3; simp at h3
  |false=>
   rw[hd,cond_false] at h3;cases hw:words.contains (encs w) with
   |true=>
    rw[hw] at h3;simp only[cond_true,Prod.mk.injEq,and_true] at h3;rw[← h3] at hk;exact absurd hk (by simp)
   |false=>
    rw[hw,cond_false] at h3;by_cases hl:16<w.length
    ·rw[decide_eq_true hl] at h3; simp at h3
    ·rw[decide_eq_false hl] at h3;simp only[cond_false,Prod.mk.injEq,and_true] at h3;rw[← h3];exact ⟨rfl,by omega,rfl⟩
theorem zaun (c:UInt8) (r:List UInt8) (hc:48≤c.toNat∧c.toNat≤57) (h:(numS (c::r)).2=true):0≤(numS (c::r)).1∧(numS (c::r)).1≤2147483647:=by
 unfold numS at h ⊢;by_cases h1:1<(c::r).length∧((c::r).headD 0).toNat=48
 ·rw[if_pos h1] at h; cases h
 rw[if_neg h1] at h ⊢;by_cases h2:Lib.trimS (c::r) tens≠[]
 ·rw[if_pos h2] at h; cases h
 rw[if_neg h2] at h ⊢;by_cases h3:(zabo (c::r)).2=true
 ·rw[if_pos h3] at h; cases h
 rw[if_neg h3] at h ⊢;simp only[decide_eq_true_eq] at h;refine ⟨?_,h⟩;show 0≤(zabo (c::r)).1;unfold zabo at h3 ⊢;rw[Lib.atoiAll_plain c r (by omega) (by omega)] at h3 ⊢;cases hp:Lib.parseMag (c::r) with
 |ok u=>
  rw[hp] at h3;unfold Lib.signless at h3 ⊢;dsimp only at h3 ⊢;split
  ·rename_i v hv;split at hv
   ·cases hv
   ·injection hv with hv; omega
  ·rename_i hv; rw[hv] at h3; simp at h3
  ·simp
 |range=>rw[hp] at h3; simp[Lib.signless] at h3
 |_=>rw[hp] at h3; simp[Lib.signless] at h3
theorem zaux {w:List Int} (hw:w≠[]) (ha:w.all Sp.isRune=true) (hd:Sp.digit (w.headD 0)=true):∃ c r,encs w=c::r∧48≤c.toNat∧c.toNat≤57:=by
 match w,hw with
 |a::w,_=>
  have h1:Sp.digit a=true:=hd;simp only[Sp.digit,decide_eq_true_eq] at h1;refine ⟨UInt8.ofNat a.toNat,encs w,?_,?_⟩
  ·rw[zaar];have:encB a=[UInt8.ofNat a.toNat]:=by unfold encB Sp.enc; rw[if_pos (by omega)]; rfl
   rw[this];rfl
  ·rw[UInt8.toNat_ofNat'];omega
theorem zayd {w:List Int} {u:Token} (h:whole w u) (hk:u.kind=2):0≤u.num∧u.num≤2147483647:=by
 have h3:=h.2.2.1;unfold tokR at h3;cases hg:goesR (w.headD 0) with
 |false=>
  rw[hg,cond_false] at h3;cases hs:(sgn (encs w)==[]) with
  |true=>rw[hs] at h3; simp at h3
  |false=>
   rw[hs] at h3;simp only[cond_false,Prod.mk.injEq,and_true] at h3;rw[← h3] at hk;exact absurd hk (by simp)
 |true=>
  rw[zajj h hg,hg,cond_true] at h3;cases hd:Sp.digit (w.headD 0) with
  |true=>
   rw[hd,cond_true] at h3;cases hn:(numS (encs w)).2 with
   |true=>
    rw[hn] at h3;simp only[cond_true,Prod.mk.injEq,and_true] at h3;rw[← h3];obtain ⟨c,r,e,hc⟩:=zaux h.1 h.2.1 hd;rw[e] at hn ⊢;exact zaun c r hc hn
   |false=>rw[hn] at h3; simp at h3
  |false=>
   rw[hd,cond_false] at h3;cases hw:words.contains (encs w) with
   |true=>
    rw[hw] at h3;simp only[cond_true,Prod.mk.injEq,and_true] at h3;rw[← h3] at hk;exact absurd hk (by simp)
   |false=>
    rw[hw,cond_false] at h3;by_cases hl:16<w.length
    ·rw[decide_eq_true hl] at h3; simp at h3
    ·rw[decide_eq_false hl] at h3;simp only[cond_false,Prod.mk.injEq,and_true] at h3;rw[← h3] at hk;exact absurd hk (by simp)
theorem zast {w:List Int} {u:Token} (h:whole w u) (hk:u.kind=1):isNm (encs w)=true:=by
 obtain ⟨h1,h2,h3⟩:=zal3 h hk;have h64:=zasq w;have hx:LB (encs w) [core u]:=⟨w,rfl,by have:=LX.tk (r:=[]) h trivial .nil; rwa [List.append_nil] at this⟩;obtain ⟨m,e,l1,l2⟩:=hx.lex (by omega);obtain ⟨a,rfl⟩:∃ a,m=[a]:=by
  have:=congrArg List.length l2;rw[List.length_map] at this;exact List.length_eq_one_iff.1 this
 have hc:core a=(1,encs w,0):=by
  rw[← h1];simpa using l2
 unfold isNm;rw[qbd,zaaa];unfold qbd_f;rw[decide_eq_false (by omega),cond_false,l1];have e1:a.kind=1:=congrArg (·.1) hc;have e2:a.text=encs w:=congrArg (·.2.1) hc;simp[e1,e2]
theorem zaq3 {t:List UInt8} (h:isNm t=true):∃ w u,whole w u∧core u=(1,t,0)∧encs w=t∧goesR (w.headD 0)=true:=by
 have h1:=zafm t;rw[h] at h1;rw[qbd,zaaa] at h1;unfold qbd_f at h1;by_cases hl:((List.length t:Nat):Int)>64
 ·rw[decide_eq_true hl] at h1; cases h1
 rw[decide_eq_false hl,cond_false] at h1;rcases zahz t with ⟨f,k1,k2,_⟩|⟨rs,l,rfl,hra,_,hT,k1⟩
 ·rw[k1] at h1;have e:(f.code==0)=false:=by simp[k2]
  simp[e] at h1
 rw[k1] at h1;match l with
 |[]=>simp at h1
 |a::b::l=>
  have:((((a::b::l++[⟨5,[],0,((encs rs).length:Int)⟩]:List Token).length:Nat):Int)==2)=false:=by
   rw[beq_eq_false_iff_ne]; simp only[List.length_cons,List.length_append]; omega
  rw[Option.bind_some] at h1;dsimp only at h1;rw[this] at h1;simp at h1
 |[a]=>
  simp only[Option.bind_some,List.singleton_append,List.length_cons,List.length_nil,List.getElem?_cons_zero] at h1;have hk:a.kind=1:=by
   cases hh:(a.kind==1) with
   |true=>simpa using hh
   |false=>rw[hh] at h1; simp at h1
  have ht:a.text=encs rs:=by simpa [hk] using h1
  obtain ⟨w,u,hw,hc⟩:=((T_ok _ _ _ _ (Nat.le_refl _) (zad3 hra) hT).1 a List.mem_cons_self).2.2.2;have e1:u.kind=1:=by rw[← hk]; exact (congrArg (·.1) hc).symm
  have e2:u.text=encs rs:=by rw[← ht]; exact (congrArg (·.2.1) hc).symm
  obtain ⟨g1,g2,g3⟩:=zal3 hw e1;have e3:encs w=encs rs:=by rw[← e2]; exact hw.2.2.2.symm
  exact ⟨w,u,hw,by rw[g1,e3],e3,g3⟩
theorem LB.name {t:List UInt8} (ht:isNm t=true) {s:List UInt8} {l:List Tk} (hs:stop s) (h:LB s l):LB (t++s) ((1,t,0)::l):=by
 obtain ⟨w,u,h1,h2,rfl,h3⟩:=zaq3 ht;have:=LB.goes h1 h3 hs h;rwa [h2] at this
end Lift.A4
namespace Lift.A4
open Go Go.RowKit Lift Go.IntWalk Lift.Fn Lift.A1P Lift.A3
set_option linter.unusedVariables false
set_option linter.unusedSimpArgs false
abbrev sg (t:List UInt8):Tk:=(3,t,0)
abbrev wd (t:List UInt8):Tk:=(4,t,0)
theorem zagm (t:List UInt8) (h0:t≠[]) (h1:∀ b∈t,b.toNat<128) (h2:goesR ((asc t).headD 0)=false) (h3:sgn t=t):whole (asc t) ⟨3,t,0,0⟩:=by
 refine ⟨fun e=>h0 (List.map_eq_nil_iff.1 e),zajf h1,?_,(zabq _ h1).symm⟩;unfold tokR;rw[h2,cond_false,zabq _ h1,h3];have:(t==[])=false:=by simpa using h0
 rw[this];rfl
theorem zatb (t:List UInt8) (h0:t≠[]) (h1:∀ b∈t,b.toNat<128) (h2:∀ x∈asc t,goesR x=true) (h3:Sp.digit ((asc t).headD 0)=false) (h4:words.contains t=true):whole (asc t) ⟨4,t,0,0⟩∧goesR ((asc t).headD 0)=true:=by
 have hne:asc t≠[]:=fun e=>h0 (List.map_eq_nil_iff.1 e)
 have hh:(asc t).headD 0∈asc t:=by
  match asc t,hne with
  |a::l,_=>exact List.mem_cons_self
 refine ⟨⟨hne,zajf h1,?_,(zabq _ h1).symm⟩,h2 _ hh⟩;unfold tokR;rw[h2 _ hh,h3,zakk h2,zabq _ h1,h4];rfl
theorem zauz:∀ c∈twos,∀ b∈ones,c≠[b,32]:=by decide +kernel
theorem LB.op {k:Int} (h5:5≤k) (h17:k≤17) {s:List UInt8} {l:List Tk} (h:LB s l):LB (sgO k++32::s) (sg (sgO k)::l):=by
 have go:∀ t:List UInt8,t≠[]→(∀ b∈t,b.toNat<128)→goesR ((asc t).headD 0)=false→sgn t=t→LB (t++32::s) (sg t::l):=by
  intro t g0 g1 g2 g3;have:=LB.signN (zagm t g0 g1 g2 g3) g2 (s:=32::s) (fun b hb _ c hc=>zauz c hc b hb) h.sp;rwa [zabq _ g1] at this
 have:k=5∨k=6∨k=7∨k=8∨k=9∨k=10∨k=11∨k=12∨k=13∨k=14∨k=15∨k=16∨k=17:=by omega
 rcases this with rfl|rfl|rfl|rfl|rfl|rfl|rfl|rfl|rfl|rfl|rfl|rfl|rfl<;>exact go _ (by decide) (by decide) (by decide +kernel) (by decide +kernel)
theorem LB.one (b:UInt8) (g1:b.toNat<128) (g2:goesR ((b.toNat:Nat):Int)=false) (g3:sgn [b]=[b]) (g4:∀ c∈twos,c.headD 0≠b) {s:List UInt8} {l:List Tk} (h:LB s l):LB (b::s) (sg [b]::l):=by
 have:=LB.sign (zagm [b] (by simp) (by simpa using g1) g2 g3) g2 (fun c _ e d hd=>by
  rw[zabq _ (by simpa using g1)] at e;have:b=c:=by simpa using e
  rw[← this];exact g4 d hd) h
 rwa [zabq _ (by simpa using g1)] at this
theorem LB.parL {s:List UInt8} {l:List Tk} (h:LB s l):LB (40::s) (sg [40]::l):=LB.one 40 (by decide) (by decide +kernel) (by decide +kernel) (by decide +kernel) h
theorem LB.parR {s:List UInt8} {l:List Tk} (h:LB s l):LB (41::s) (sg [41]::l):=LB.one 41 (by decide) (by decide +kernel) (by decide +kernel) (by decide +kernel) h
theorem LB.minus {s:List UInt8} {l:List Tk} (h:LB s l):LB (45::s) (sg [45]::l):=LB.one 45 (by decide) (by decide +kernel) (by decide +kernel) (by decide +kernel) h
theorem LB.semi {s:List UInt8} {l:List Tk} (h:LB s l):LB (59::s) (sg [59]::l):=LB.one 59 (by decide) (by decide +kernel) (by decide +kernel) (by decide +kernel) h
theorem LB.curL {s:List UInt8} {l:List Tk} (h:LB s l):LB (123::s) (sg [123]::l):=LB.one 123 (by decide) (by decide +kernel) (by decide +kernel) (by decide +kernel) h
theorem LB.curR {s:List UInt8} {l:List Tk} (h:LB s l):LB (125::s) (sg [125]::l):=LB.one 125 (by decide) (by decide +kernel) (by decide +kernel) (by decide +kernel) h
theorem LB.not {s:List UInt8} {l:List Tk} (hs:s.headD 0≠61) (h:LB s l):LB (33::s) (sg [33]::l):=by
 have g1:∀ b∈[(33:UInt8)],b.toNat<128:=by decide
 have:=LB.signN (zagm [33] (by simp) g1 (by decide +kernel) (by decide +kernel)) (by decide +kernel) (s:=s) (fun b _ e c hc=>by
  rw[zabq _ g1] at e;have:(33:UInt8)=b:=by simpa using e
  rw[← this];have h2:∀ c∈twos,c.headD 0=33→c=[33,61]:=by decide +kernel
  intro e;have:=h2 c hc (by rw[e]; rfl);rw[this] at e;simp only[List.cons.injEq,and_true,true_and] at e;exact hs e.symm) h
 rwa [zabq _ g1] at this
def xK:TExpr→Int→List Tk
 |⟨kd,m,s,[]⟩,_=>if kd=1 then [(2,Lib.decDigits m.toNat,m)] else [(1,s,0)]
 |⟨kd,_,_,[a]⟩,_=>sg (if kd=3 then [45] else [33])::xK a 6
 |⟨kd,_,_,a::b::_⟩,q=>if lvO kd<q then sg [40]::((xK a (lfO kd)++sg (sgO kd)::xK b (rtO kd))++[sg [41]]) else xK a (lfO kd)++sg (sgO kd)::xK b (rtO kd)
termination_by x _=>sizeOf x
decreasing_by all_goals simp_wf<;>omega
theorem zavb {x:TExpr} (h1:x.kind=1) (h2:x.args=[]) (q:Int):xK x q=[(2,Lib.decDigits x.num.toNat,x.num)]:=by
 obtain ⟨k,n,s,l⟩:=x;simp only at h1 h2;subst h1 h2;rw[xK,if_pos rfl]
theorem zauf {x:TExpr} (h1:x.kind=2) (h2:x.args=[]) (q:Int):xK x q=[(1,x.name,0)]:=by
 obtain ⟨k,n,s,l⟩:=x;simp only at h1 h2;subst h1 h2;rw[xK,if_neg (by decide)]
theorem zav4 {x a:TExpr} (h2:x.args=[a]) (q:Int):xK x q=sg (if x.kind=3 then [45] else [33])::xK a 6:=by
 obtain ⟨k,n,s,l⟩:=x;simp only at h2;subst h2;rw[xK]
theorem zau0 {x a b:TExpr} (h2:x.args=[a,b]) (q:Int):xK x q=if lvO x.kind<q then sg [40]::((xK a (lfO x.kind)++sg (sgO x.kind)::xK b (rtO x.kind))++[sg [41]]) else xK a (lfO x.kind)++sg (sgO x.kind)::xK b (rtO x.kind):=by
 obtain ⟨k,n,s,l⟩:=x;simp only at h2;subst h2;rw[xK]
theorem zag6 {n:Int} (h:0≤n):Lib.itoa n=Lib.decDigits n.toNat:=by
 obtain ⟨m,rfl⟩:=Int.eq_ofNat_of_zero_le h;rw[Lib.itoa_nonneg];rfl
theorem zayl:∀ (k:Nat) (x:TExpr) (q:Int) (s:List UInt8),nE x≤k→eF x=true→(xT x q++s).headD 0≠61:=by
 intro k;induction k with
 |zero=>intro x q s h; have:=nE_eq x; omega
 |succ k ih=>
  intro x q s hk h;rcases zaft h with ⟨h1,h2,h3,h4,_⟩|⟨h1,h2,h3,_⟩|⟨h1,⟨a,h2,h3⟩,_⟩|⟨h1,h2,⟨a,b,h3,h4,h5⟩,_⟩
  ·rw[zamv h1 h2,zag6 h3];obtain ⟨_,g2,g3,_⟩:=zag1 x.num.toNat;match hq:Lib.decDigits x.num.toNat,g3 with
   |c::r,_=>
    rw[hq,List.all_cons,Bool.and_eq_true] at g2;have:=zad9.1 g2.1;show c≠61;intro e;subst e;have h61:(61:UInt8).toNat=61:=rfl;omega
  ·rw[zahg h1 h2];obtain ⟨w,u,g1,g2,g3,g4⟩:=zaq3 h3;match w,g1.1 with
   |a::w,_=>
    rw[← g3,zaar];intro e;have hp:=zan4 a;have ha:=g1.2.1;rw[List.all_cons,Bool.and_eq_true] at ha;cases hk2:encB a with
    |nil=>rw[hk2] at hp; simp at hp
    |cons b bs=>
     rw[hk2] at e;have hb:b=61:=e;have hlt:b.toNat<128:=by rw[hb]; decide
     obtain ⟨i1,_⟩:=zadk (rs:=w) ha.1 (b:=b) (t:=bs++encs w) (by rw[zaar,hk2]; rfl) hlt;have hl:=zaci a;rw[i1] at hl;have ha':=ha.1;simp only[Sp.isRune,decide_eq_true_eq] at ha';have h5:a<128:=by
      unfold Sp.long at hl;simp only[List.length_cons,List.length_nil] at hl;split at hl
      ·assumption
      ·split at hl
       ·exact absurd hl (by decide)
       ·split at hl<;>exact absurd hl (by decide)
     have h6:encB a=[UInt8.ofNat a.toNat]:=by unfold encB Sp.enc; rw[if_pos h5]; rfl
     rw[h6,hb] at i1;have h7:=congrArg (fun l=>(l.headD 0).toNat) i1;simp only[List.headD_cons,UInt8.toNat_ofNat'] at h7;have h61:(61:UInt8).toNat=61:=rfl;have:a=61:=by omega
     subst this;have hz:goesR 61=false:=by decide +kernel
     have g5:goesR 61=true:=g4;rw[hz] at g5;cases g5
  ·rw[zaj3 h2];split<;>simp
  ·rw[zaiz h3];rw[zahf h3] at hk;split
   ·simp
   ·rw[List.append_assoc,List.append_assoc];exact ih a _ _ (by omega) h4
theorem zacw (s:List UInt8):stop (32::s):=⟨32,by simp,s,rfl⟩
theorem zacy (s:List UInt8):stop (59::s):=⟨59,by simp,s,rfl⟩
theorem zawz (s:List UInt8):stop (41::s):=⟨41,by simp,s,rfl⟩
theorem xB:∀ (k:Nat) (x:TExpr) (q:Int) (s:List UInt8) (l:List Tk),nE x≤k→eF x=true→stop s→LB s l→LB (xT x q++s) (xK x q++l):=by
 intro k;induction k with
 |zero=>intro x q s l h; have:=nE_eq x; omega
 |succ k ih=>
  intro x q s l hk h hs hl;rcases zaft h with ⟨h1,h2,h3,h4,_⟩|⟨h1,h2,h3,_⟩|⟨h1,⟨a,h2,h3⟩,_⟩|⟨h1,h2,⟨a,b,h3,h4,h5⟩,_⟩
  ·rw[zamv h1 h2,zavb h1 h2,zag6 h3];have:=LB.num (n:=x.num.toNat) (by omega) hs hl;rwa [show ((x.num.toNat:Nat):Int)=x.num by omega] at this
  ·rw[zahg h1 h2,zauf h1 h2];exact LB.name h3 hs hl
  ·rw[zaj3 h2,zav4 h2];rw[zajm h2] at hk;have i1:=ih a 6 s l (by omega) h3 hs hl;by_cases h13:x.kind=3
   ·rw[if_pos h13];exact i1.minus
   ·rw[if_neg h13];exact i1.not (zayl k a 6 s (by omega) h3)
  ·rw[zahf h3] at hk;have key:∀ (s:List UInt8) (l:List Tk),stop s→LB s l→LB (xT a (lfO x.kind)++([32]++sgO x.kind++[32])++xT b (rtO x.kind)++s) (xK a (lfO x.kind)++sg (sgO x.kind)::xK b (rtO x.kind)++l):=by
    intro s l hs hl;have i1:=ih b (rtO x.kind) s l (by omega) h5 hs hl;have i2:=(LB.op h1 h2 i1).sp;have i3:=ih a (lfO x.kind) _ _ (by omega) h4 (zacw _) i2;simpa [List.append_assoc] using i3
   rw[zaiz h3,zau0 h3];by_cases hq:lvO x.kind<q
   ·rw[if_pos hq,if_pos hq];have i4:=(key (41::s) (sg [41]::l) (zawz _) hl.parR).parL;simpa [List.append_assoc] using i4
   ·rw[if_neg hq,if_neg hq];exact key s l hs hl
theorem DE.upTo {x:TExpr} {c:List Tk} {m:Nat}:∀ (d l:Nat),l+d=m→m≤5→DE m x c→DE l x c
 |0,l,h,_,hd=>by rw[show l=m by omega]; exact hd
 |d+1,l,h,h5,hd=>.up (by omega) (DE.upTo d (l+1) (by omega) h5 hd)
theorem zazq {k:Int} (h5:5≤k) (h17:k≤17):opAt (lvO k-1).toNat (sg (sgO k))=some k∧1≤lvO k∧lvO k≤5∧1≤lfO k∧lfO k≤6∧1≤rtO k∧rtO k≤6∧(lvO k=3→lfO k=4∧rtO k=4)∧(lvO k≠3→lfO k=lvO k∧rtO k=lvO k+1):=by
 have:k=5∨k=6∨k=7∨k=8∨k=9∨k=10∨k=11∨k=12∨k=13∨k=14∨k=15∨k=16∨k=17:=by omega
 rcases this with rfl|rfl|rfl|rfl|rfl|rfl|rfl|rfl|rfl|rfl|rfl|rfl|rfl<;>decide +kernel
theorem xD:∀ (k:Nat) (x:TExpr) (q:Int),nE x≤k→eF x=true→1≤q→q≤6→DE (q-1).toNat x (xK x q):=by
 intro k;induction k with
 |zero=>intro x q h; have:=nE_eq x; omega
 |succ k ih=>
  intro x q hk h q1 q6;rcases zaft h with ⟨h1,h2,h3,h4,h6⟩|⟨h1,h2,h3,h6⟩|⟨h1,⟨a,h2,h3⟩,h6,h7⟩|⟨h1,h2,⟨a,b,h3,h4,h5⟩,h6,h7⟩
  ·rw[zavb h1 h2];have e:x=⟨1,x.num,[],[]⟩:=by
    obtain ⟨a,b,c,d⟩:=x;simp only at h1 h2 h6;rw[h1,h2,h6]
   have:=DE.num (o:=(2,Lib.decDigits x.num.toNat,x.num)) rfl;rw[e];exact DE.upTo (6-q).toNat _ (by omega) (Nat.le_refl 5) this
  ·rw[zauf h1 h2];have e:x=⟨2,0,x.name,[]⟩:=by
    obtain ⟨a,b,c,d⟩:=x;simp only at h1 h2 h6;rw[h1,h2,h6]
   have:=DE.reg (o:=(1,x.name,0)) rfl;rw[e];exact DE.upTo (6-q).toNat _ (by omega) (Nat.le_refl 5) this
  ·rw[zav4 h2];rw[zajm h2] at hk;have i1:DE 5 a (xK a 6):=ih a 6 (by omega) h3 (by omega) (by omega);rcases h1 with h1|h1
   ·have e:x=⟨3,0,[],[a]⟩:=by
     obtain ⟨p,b,c,d⟩:=x;simp only at h1 h2 h6 h7;rw[h1,h2,h6,h7]
    have:=DE.neg (o:=sg [45]) (by decide +kernel) i1;rw[if_pos h1,e];exact DE.upTo (6-q).toNat _ (by omega) (Nat.le_refl 5) this
   ·have e:x=⟨4,0,[],[a]⟩:=by
     obtain ⟨p,b,c,d⟩:=x;simp only at h1 h2 h6 h7;rw[h1,h2,h6,h7]
    have:=DE.not (o:=sg [33]) (by decide +kernel) i1;rw[if_neg (by omega),e];exact DE.upTo (6-q).toNat _ (by omega) (Nat.le_refl 5) this
  ·rw[zahf h3] at hk;obtain ⟨o1,o2,o3,o4,o5,o6,o7,o8,o9⟩:=zazq h1 h2;have i1:=ih a (lfO x.kind) (by omega) h4 o4 o5;have i2:=ih b (rtO x.kind) (by omega) h5 o6 o7;have e:x=⟨x.kind,0,[],[a,b]⟩:=by
    obtain ⟨p,b,c,d⟩:=x;simp only at h3 h6 h7;rw[h3,h6,h7]
   have key:DE (lvO x.kind-1).toNat x (xK a (lfO x.kind)++sg (sgO x.kind)::xK b (rtO x.kind)):=by
    conv=>arg 2; rw[e]
    by_cases hc:lvO x.kind=3
    ·obtain ⟨e1,e2⟩:=o8 hc;rw[hc] at o1 ⊢;rw[e1] at i1 ⊢;rw[e2] at i2 ⊢;exact .cmp i1 o1 i2
    ·obtain ⟨e1,e2⟩:=o9 hc;rw[e1] at i1 ⊢;rw[e2] at i2 ⊢;rw[show (lvO x.kind+1-1).toNat=(lvO x.kind-1).toNat+1 by omega] at i2;exact .bin (by omega) (by omega) i1 o1 i2
   rw[zau0 h3];by_cases hq:lvO x.kind<q
   ·rw[if_pos hq];have k0:DE 0 x _:=DE.upTo (lvO x.kind-1).toNat 0 (by omega) (by omega) key;have k5:=DE.par (o:=sg [40]) (q:=sg [41]) (by decide +kernel) (by decide +kernel) k0;exact DE.upTo (6-q).toNat _ (by omega) (Nat.le_refl 5) k5
   ·rw[if_neg hq];exact DE.upTo (lvO x.kind-q).toNat _ (by omega) (by omega) key
end Lift.A4
namespace Lift.A4
open Go Go.RowKit Lift Go.IntWalk Lift.Fn Lift.A1P Lift.A3
set_option linter.unusedVariables false
set_option linter.unusedSimpArgs false
theorem LB.sg (t:List UInt8) (g0:t≠[]) (g1:∀ b∈t,b.toNat<128) (g2:goesR ((asc t).headD 0)=false) (g3:sgn t=t) {s:List UInt8} {l:List Tk} (h:LB s l):LB (t++32::s) (sg t::l):=by
 have:=LB.signN (zagm t g0 g1 g2 g3) g2 (s:=32::s) (fun b hb _ c hc=>zauz c hc b hb) h.sp;rwa [zabq _ g1] at this
theorem LB.word (t:List UInt8) (h0:t≠[]) (h1:∀ b∈t,b.toNat<128) (h2:∀ x∈asc t,goesR x=true) (h3:Sp.digit ((asc t).headD 0)=false) (h4:words.contains t=true) {s:List UInt8} {l:List Tk} (h:LB s l):LB (t++32::s) (wd t::l):=by
 obtain ⟨hw,hg⟩:=zatb t h0 h1 h2 h3 h4;have:=LB.goes hw hg (zacw s) h.sp;rwa [zabq _ h1] at this
theorem LB.line {d:Nat} {t s:List UInt8} {l:List Tk} (h:LB (t++10::s) l):LB (ln d t++s) l:=by
 have:=h.tab d;unfold ln;simpa [List.append_assoc] using this
theorem zaxl {s:List UInt8} {l:List Tk} (h:LB s l):LB (32::58::61::32::s) (A4.sg [58,61]::l):=(LB.sg [58,61] (by decide) (by decide) (by decide +kernel) (by decide +kernel) h).sp
theorem zasz {s:List UInt8} {l:List Tk} (h:LB s l):LB (32::60::45::32::s) (A4.sg [60,45]::l):=(LB.sg [60,45] (by decide) (by decide) (by decide +kernel) (by decide +kernel) h).sp
theorem w_eq {s:List UInt8} {l:List Tk} (h:LB s l):LB (32::61::32::s) (A4.sg [61]::l):=(LB.sg [61] (by decide) (by decide) (by decide +kernel) (by decide +kernel) h).sp
theorem w_add {s:List UInt8} {l:List Tk} (h:LB s l):LB (97::100::100::32::s) (wd wAdd::l):=LB.word wAdd (by decide) (by decide) (by decide +kernel) (by decide +kernel) (by decide +kernel) h
theorem zawv {s:List UInt8} {l:List Tk} (h:LB s l):LB (97::115::115::101::114::116::32::s) (wd zakr::l):=LB.word zakr (by decide) (by decide) (by decide +kernel) (by decide +kernel) (by decide +kernel) h
theorem w_if {s:List UInt8} {l:List Tk} (h:LB s l):LB (105::102::32::s) (wd wIf::l):=LB.word wIf (by decide) (by decide) (by decide +kernel) (by decide +kernel) (by decide +kernel) h
theorem zayv {s:List UInt8} {l:List Tk} (h:LB s l):LB (101::108::115::101::32::s) (wd wElse::l):=LB.word wElse (by decide) (by decide) (by decide +kernel) (by decide +kernel) (by decide +kernel) h
theorem zaw5 {s:List UInt8} {l:List Tk} (h:LB s l):LB (114::101::112::101::97::116::32::s) (wd zai2::l):=LB.word zai2 (by decide) (by decide) (by decide +kernel) (by decide +kernel) (by decide +kernel) h
theorem zav0 {s:List UInt8} {l:List Tk} (h:LB s l):LB (99::101::108::108::32::s) (wd wCell::l):=LB.word wCell (by decide) (by decide) (by decide +kernel) (by decide +kernel) (by decide +kernel) h
theorem zayo {s:List UInt8} {l:List Tk} (h:LB s l):LB (109::117::116::101::120::32::s) (wd zahh::l):=LB.word zahh (by decide) (by decide) (by decide +kernel) (by decide +kernel) (by decide +kernel) h
theorem zaw6 {s:List UInt8} {l:List Tk} (h:LB s l):LB (116::104::114::101::97::100::32::s) (wd zae3::l):=LB.word zae3 (by decide) (by decide) (by decide +kernel) (by decide +kernel) (by decide +kernel) h
theorem zau2 {k:Int} (h5:5≤k) (h8:k≤8) {s:List UInt8} {l:List Tk} (h:LB s l):∃ (i:Nat) (t:List UInt8),k=5+(i:Int)∧four[i]? = some t∧LB (fourB.getD (k-5).toNat []++s) (wd t::l):=by
 have:k=5∨k=6∨k=7∨k=8:=by omega
 rcases this with rfl|rfl|rfl|rfl
 ·exact ⟨0,_,rfl,rfl,LB.word [108,111,99,107] (by decide) (by decide) (by decide +kernel) (by decide +kernel) (by decide +kernel) h⟩
 ·exact ⟨1,_,rfl,rfl,LB.word [117,110,108,111,99,107] (by decide) (by decide) (by decide +kernel) (by decide +kernel) (by decide +kernel) h⟩
 ·exact ⟨2,_,rfl,rfl,LB.word [115,116,97,114,116] (by decide) (by decide) (by decide +kernel) (by decide +kernel) (by decide +kernel) h⟩
 ·exact ⟨3,_,rfl,rfl,LB.word [106,111,105,110] (by decide) (by decide) (by decide +kernel) (by decide +kernel) (by decide +kernel) h⟩
theorem xB1 {x:TExpr} (h:eF x=true) {s:List UInt8} {l:List Tk} (hs:stop s) (hl:LB s l):LB (xT x 1++s) (xK x 1++l):=xB (nE x) x 1 s l (Nat.le_refl _) h hs hl
theorem xD1 {x:TExpr} (h:eF x=true):DE 0 x (xK x 1):=xD (nE x) x 1 (Nat.le_refl _) h (by omega) (by omega)
def PB (t:List UInt8) (c:List Tk):Prop:=∀ s l,LB s l→LB (t++s) (c++l)
theorem PB.app {t u:List UInt8} {c d:List Tk} (h:PB t c) (h':PB u d):PB (t++u) (c++d):=by
 intro s l hl;rw[List.append_assoc,List.append_assoc];exact h _ _ (h' _ _ hl)
theorem zahx (d:Nat):PB (ln d [[125]].flatten) [A4.sg [125]]:=by
 intro s l hl;exact LB.line hl.nl.curR
theorem zake {k:Nat} (ih:∀ (y:TStmt) (d:Nat),nS y≤k→sF y=true→∃ c,DS y c∧PB (sT y d) c):∀ (l:List TStmt) (d:Nat),nSs l≤k→sFs l=true→∃ c,DL l c∧PB (sTs l d) c
 |[],d,_,_=>⟨[],.nil,fun s l h=>by rw[sTs]; exact h⟩
 |y::b,d,hk,hf=>by
  rw[zaev] at hk;rw[sFs,Bool.and_eq_true] at hf;obtain ⟨c1,a1,b1⟩:=ih y d (by omega) hf.1;obtain ⟨c2,a2,b2⟩:=zake ih b d (by omega) hf.2;exact ⟨c1++c2,.cons a1 a2,by rw[sTs]; exact b1.app b2⟩
theorem stmtB:∀ (k:Nat) (y:TStmt) (d:Nat),nS y≤k→sF y=true→∃ c,DS y c∧PB (sT y d) c:=by
 intro k;induction k with
 |zero=>intro y d h; cases y; rw[nS_mk] at h; omega
 |succ k ih=>
  intro y d hk h;cases sF_sc h with
  |@set r x hr hx=>
   refine ⟨_,DS.set (a:=(1,r,0)) (o:=A4.sg [58,61]) (q:=A4.sg [59]) rfl (by decide +kernel) (xD1 hx) (by decide +kernel),fun s l hl=>?_⟩;rw[sT,if_pos rfl];refine LB.line ?_;have:=LB.name hr (zacw _) (zaxl (xB1 hx (zacy _) hl.nl.semi));simpa [List.append_assoc] using this
  |@read r m hr hm=>
   refine ⟨_,DS.read (a:=(1,r,0)) (o:=A4.sg [60,45]) (b:=(1,m,0)) (q:=A4.sg [59]) rfl (by decide +kernel) rfl (by decide +kernel),fun s l hl=>?_⟩;rw[sT,if_neg (by decide),if_pos rfl];refine LB.line ?_;have:=LB.name hr (zacw _) (zasz (LB.name hm (zacy _) hl.nl.semi));simpa [List.append_assoc] using this
  |@write m x hm hx=>
   refine ⟨_,DS.write (a:=(1,m,0)) (o:=A4.sg [61]) (q:=A4.sg [59]) rfl (by decide +kernel) (xD1 hx) (by decide +kernel),fun s l hl=>?_⟩;rw[sT,if_neg (by decide),if_neg (by decide),if_pos rfl];refine LB.line ?_;have:=LB.name hm (zacw _) (w_eq (xB1 hx (zacy _) hl.nl.semi));simpa [List.append_assoc] using this
  |@add r m x hr hm hx=>
   refine ⟨_,DS.add (a:=(1,r,0)) (o:=A4.sg [60,45]) (w:=wd wAdd) (b:=(1,m,0)) (q:=A4.sg [59]) rfl (by decide +kernel) (by decide +kernel) rfl (xD1 hx) (by decide +kernel),fun s l hl=>?_⟩;rw[sT,if_neg (by decide),if_neg (by decide),if_neg (by decide),if_pos rfl];refine LB.line ?_;have:=LB.name hr (zacw _) (zasz (w_add (LB.name hm (zacw _) (xB1 hx (zacy _) hl.nl.semi).sp)));simpa [List.append_assoc] using this
  |@about k m h5 h8 hm=>
   obtain ⟨i,t,e1,e2,_⟩:=zau2 h5 h8 LB.nil;have ht:hitc t (wd t)=true:=by simp[hitc]
   refine ⟨_,by rw[e1]; exact DS.about (i:=i) (s:=t) (w:=wd t) (b:=(1,m,0)) (q:=A4.sg [59]) e2 ht rfl (by decide +kernel),fun s l hl=>?_⟩;rw[sT,if_neg (by omega),if_neg (by omega),if_neg (by omega),if_neg (by omega),if_neg (by omega),if_neg (by omega),if_neg (by omega)];refine LB.line ?_;obtain ⟨i',t',e1',e2',this⟩:=zau2 h5 h8 (LB.name hm (zacy _) hl.nl.semi);have hi:i'=i:=by omega
   subst hi;rw[e2] at e2';have:t'=t:=by injection e2' with e; exact e.symm
   subst this;simpa [List.append_assoc] using this
  |@assert x hx=>
   refine ⟨_,DS.assert (w:=wd zakr) (q:=A4.sg [59]) (by decide +kernel) (xD1 hx) (by decide +kernel),fun s l hl=>?_⟩;rw[sT,if_neg (by decide),if_neg (by decide),if_neg (by decide),if_neg (by decide),if_pos rfl];refine LB.line ?_;have:=zawv (xB1 hx (zacy _) hl.nl.semi);simpa [List.append_assoc] using this
  |@if_ x t o hx ht ho=>
   rw[nS_mk] at hk;obtain ⟨c1,a1,b1⟩:=zake ih t (d+1) (by omega) ht;have hhead:∀ s l,LB s l→LB (ln d [[105,102,32],xT x 1,[32,123]].flatten++s) (wd wIf::(xK x 1++A4.sg [123]::l)):=by
    intro s l hl;refine LB.line ?_;have:=w_if (xB1 hx (zacw _) hl.nl.curL.sp);simpa [List.append_assoc] using this
   by_cases h0:o.length=0
   ·have:o=[]:=List.eq_nil_of_length_eq_zero h0;subst this;refine ⟨_,DS.if_ (w:=wd wIf) (o:=A4.sg [123]) (q:=A4.sg [125]) (by decide +kernel) (xD1 hx) (by decide +kernel) a1 (by decide +kernel),fun s l hl=>?_⟩;rw[sT,if_neg (by decide),if_neg (by decide),if_neg (by decide),if_neg (by decide),if_neg (by decide),if_pos rfl,if_pos h0];have:=hhead _ _ (b1 _ _ (zahx d _ _ hl));simpa [List.append_assoc] using this
   ·obtain ⟨c2,a2,b2⟩:=zake ih o (d+1) (by omega) ho;refine ⟨_,DS.ife (w:=wd wIf) (o:=A4.sg [123]) (q:=A4.sg [125]) (v:=wd wElse) (o2:=A4.sg [123]) (q2:=A4.sg [125]) (by decide +kernel) (xD1 hx) (by decide +kernel) a1 (by decide +kernel) (by decide +kernel) (by decide +kernel) a2 (by decide +kernel),fun s l hl=>?_⟩;rw[sT,if_neg (by decide),if_neg (by decide),if_neg (by decide),if_neg (by decide),if_neg (by decide),if_pos rfl,if_neg h0];have hmid:∀ s l,LB s l→LB (ln d [[125,32,101,108,115,101,32,123]].flatten++s) (A4.sg [125]::wd wElse::A4.sg [123]::l):=fun s l hl=>LB.line (zayv hl.nl.curL).sp.curR
    have:=hhead _ _ (b1 _ _ (hmid _ _ (b2 _ _ (zahx d _ _ hl))));simpa [List.append_assoc] using this
  |@rep c t h0 h1 ht=>
   rw[nS_mk] at hk;obtain ⟨c1,a1,b1⟩:=zake ih t (d+1) (by omega) ht;refine ⟨_,DS.rep (w:=wd zai2) (n:=(2,Lib.decDigits c.toNat,c)) (o:=A4.sg [123]) (q:=A4.sg [125]) (by decide +kernel) rfl h1 (by decide +kernel) a1 (by decide +kernel),fun s l hl=>?_⟩;rw[sT,if_neg (by decide),if_neg (by decide),if_neg (by decide),if_neg (by decide),if_neg (by decide),if_neg (by decide),if_pos rfl];have hhead:∀ s l,LB s l→LB (ln d [[114,101,112,101,97,116,32],Lib.itoa c,[32,123]].flatten++s) (wd zai2::(2,Lib.decDigits c.toNat,c)::A4.sg [123]::l):=by
    intro s l hl;refine LB.line ?_;have:=LB.num (n:=c.toNat) (by omega) (zacw _) hl.nl.curL.sp;rw[show ((c.toNat:Nat):Int)=c by omega,← zag6 h0] at this;have:=zaw5 this;rw[zag6 h0] at this ⊢;simpa [List.append_assoc] using this
   have:=hhead _ _ (b1 _ _ (zahx d _ _ hl));simpa [List.append_assoc] using this
theorem zazn (l:List TStmt) (d:Nat) (h:sFs l=true):∃ c,DL l c∧PB (sTs l d) c:=zake (k:=nSs l) (fun y d hk hf=>stmtB _ y d hk hf) l d (Nat.le_refl _) h
theorem cellB {x:TCell} (h:cOk x=true):∃ c,DC x c∧PB (cellT x) c:=by
 obtain ⟨_,h1,h2,h3⟩:=zakj x h;by_cases h0:0≤x.init
 ·refine ⟨_,DC.pos (w:=wd wCell) (a:=(1,x.name,0)) (o:=A4.sg [61]) (n:=(2,Lib.decDigits x.init.toNat,x.init)) (q:=A4.sg [59]) (by decide +kernel) rfl (by decide +kernel) rfl rfl (by decide +kernel),fun s l hl=>?_⟩;refine LB.line ?_;have:=LB.num (n:=x.init.toNat) (by omega) (zacy _) hl.nl.semi;rw[show ((x.init.toNat:Nat):Int)=x.init by omega] at this;have:=zav0 (LB.name h1 (zacw _) (w_eq this));rw[zag6 h0];simpa [List.append_assoc] using this
 ·obtain ⟨m,hm⟩:∃ m:Nat,x.init=-(m:Int):=⟨x.init.natAbs,by omega⟩;have hw:IntKind.wrap .i64 (0-((m:Nat):Int))=x.init:=by rw[i64_in _ (by omega)]; omega
  have e:x=⟨x.name,IntKind.wrap .i64 (0-((m:Nat):Int))⟩:=by rw[hw]
  refine ⟨_,by rw[e]; exact DC.ngt (w:=wd wCell) (a:=(1,x.name,0)) (o:=A4.sg [61]) (m:=A4.sg [45]) (n:=(2,Lib.decDigits m,(m:Int))) (q:=A4.sg [59]) (by decide +kernel) rfl (by decide +kernel) (by decide +kernel) rfl (by decide +kernel),fun s l hl=>?_⟩;refine LB.line ?_;have:=(LB.num (n:=m) (by omega) (zacy _) hl.nl.semi).minus;have:=zav0 (LB.name h1 (zacw _) (w_eq this));rw[hm,Lib.itoa_neg m (by omega)];simpa [List.append_assoc] using this
theorem mutB {m:List UInt8} (h:isNm m=true):PB (mutT m) [wd zahh,(1,m,0),A4.sg [59]]:=by
 intro s l hl;refine LB.line ?_;have:=zayo (LB.name h (zacy _) hl.nl.semi);simpa [List.append_assoc] using this
theorem thrB {t:TThread} (h1:isNm t.name=true) (h2:sFs t.body=true):∃ c,DB t.body c∧PB (thrT t) (wd zae3::(1,t.name,0)::c):=by
 obtain ⟨c,a,b⟩:=zazn t.body 1 h2;refine ⟨A4.sg [123]::(c++[A4.sg [125]]),⟨A4.sg [123],c,A4.sg [125],by decide +kernel,a,by decide +kernel,rfl⟩,fun s l hl=>?_⟩;have h3:∀ s l,LB s l→LB (ln 0 [[116,104,114,101,97,100,32],t.name,[32,123]].flatten++s) (wd zae3::(1,t.name,0)::A4.sg [123]::l):=by
  intro s l hl;refine LB.line ?_;have:=zaw6 (LB.name h1 (zacw _) hl.nl.curL.sp);simpa [List.append_assoc] using this
 have:=h3 _ _ (b _ _ (zahx 0 _ _ hl));unfold thrT;simpa [List.append_assoc] using this
theorem zaze:∀ l:List TCell,l.all cOk=true→∃ c,DP ⟨l,[],[]⟩ c∧PB (l.flatMap cellT) c:=by
 suffices h:∀ (l g:List TCell) (c:List Tk),DP ⟨g,[],[]⟩ c→l.all cOk=true→∃ d,DP ⟨g++l,[],[]⟩ (c++d)∧PB (l.flatMap cellT) d by
  intro l hl;obtain ⟨d,h1,h2⟩:=h l [] [] .nil hl;exact ⟨d,h1,h2⟩
 intro l;induction l with
 |nil=>intro g c h _; exact ⟨[],by simpa using h,fun s l hl=>hl⟩
 |cons x l ih=>
  intro g c h hx;rw[List.all_cons,Bool.and_eq_true] at hx;obtain ⟨d,h1,h2⟩:=cellB hx.1;obtain ⟨e,h3,h4⟩:=ih (g++[x]) (c++d) (DP.cell h h1) hx.2;exact ⟨d++e,by simpa [List.append_assoc] using h3,by rw[List.flatMap_cons]; exact h2.app h4⟩
theorem mutsB (C:List TCell):∀ (l g:List (List UInt8)) (c:List Tk),DP ⟨C,g,[]⟩ c→l.all isNm=true→∃ d,DP ⟨C,g++l,[]⟩ (c++d)∧PB (l.flatMap mutT) d:=by
 intro l;induction l with
 |nil=>intro g c h _; exact ⟨[],by simpa using h,fun s l hl=>hl⟩
 |cons x l ih=>
  intro g c h hx;rw[List.all_cons,Bool.and_eq_true] at hx;obtain ⟨e,h3,h4⟩:=ih (g++[x]) _ (DP.mutex h (w:=wd zahh) (a:=(1,x,0)) (q:=A4.sg [59]) (by decide +kernel) rfl (by decide +kernel)) hx.2;exact ⟨[wd zahh,(1,x,0),A4.sg [59]]++e,by simpa [List.append_assoc] using h3,by rw[List.flatMap_cons]; exact (mutB hx.1).app h4⟩
theorem thrsB (C:List TCell) (M:List (List UInt8)):∀ (l g:List TThread) (c:List Tk),DP ⟨C,M,g⟩ c→(l.all fun t=>isNm t.name&&sFs t.body)=true→∃ d,DP ⟨C,M,g++l⟩ (c++d)∧PB (l.flatMap thrT) d:=by
 intro l;induction l with
 |nil=>intro g c h _; exact ⟨[],by simpa using h,fun s l hl=>hl⟩
 |cons x l ih=>
  intro g c h hx;rw[List.all_cons,Bool.and_eq_true,Bool.and_eq_true] at hx;obtain ⟨d,h1,h2⟩:=thrB hx.1.1 hx.1.2;obtain ⟨e,h3,h4⟩:=ih (g++[x]) _ (DP.thread h (w:=wd zae3) (a:=(1,x.name,0)) (by decide +kernel) rfl h1) hx.2;exact ⟨(wd zae3::(1,x.name,0)::d)++e,by simpa [List.append_assoc] using h3,by rw[List.flatMap_cons]; exact h2.app h4⟩
theorem progB {p:TProg} (h:pOk p=true):∃ c,DP p c∧LB (progT p) c:=by
 unfold pOk at h;rw[Bool.and_eq_true,Bool.and_eq_true] at h;obtain ⟨c1,a1,b1⟩:=zaze p.cells h.1;obtain ⟨c2,a2,b2⟩:=mutsB p.cells p.mutexes [] c1 a1 h.2.1;obtain ⟨c3,a3,b3⟩:=thrsB p.cells p.mutexes p.threads [] _ a2 h.2.2;refine ⟨_,a3,?_⟩;have:=(b1.app (b2.app b3)) [] [] .nil;unfold progT;simpa [List.append_assoc] using this
theorem zaww {p:TProg} (h:zaco p=0) (hl:(progT p).length≤4000):qar (progT p)=some (rr p ⟨0,0,[]⟩):=by
 obtain ⟨r1,r2,r3⟩:=zam9 h;obtain ⟨c,h1,h2⟩:=progB r1;obtain ⟨m,e,h3,h4⟩:=h2.lex hl;rw[← h4] at h1;rw[zaw3 h3 h1];unfold fin;rw[if_neg (by omega),if_neg (by omega)]
end Lift.A4
namespace Lift.A4
open Go Go.RowKit Lift Go.IntWalk Lift.Fn Lift.A1P Lift.A3
set_option linter.unusedVariables false
set_option linter.unusedSimpArgs false
theorem zaey {t:List UInt8} (h0:t≠[]) (h1:∀ b∈t,b.toNat<128) (h2:tokR (asc t)=(⟨1,t,0,0⟩,0)):isNm t=true:=by
 have hw:whole (asc t) ⟨1,t,0,0⟩:=⟨fun e=>h0 (List.map_eq_nil_iff.1 e),zajf h1,h2,(zabq _ h1).symm⟩;have:=zast hw rfl;rwa [zabq _ h1] at this
theorem nm_x:isNm [120]=true:=zaey (by decide) (by decide) (by decide +kernel)
theorem nm_m:isNm [109]=true:=zaey (by decide) (by decide) (by decide +kernel)
theorem nm_t:isNm [116]=true:=zaey (by decide) (by decide) (by decide +kernel)
theorem nm_r:isNm [114]=true:=zaey (by decide) (by decide) (by decide +kernel)
theorem nm_a:isNm [97]=true:=zaey (by decide) (by decide) (by decide +kernel)
theorem nm_b:isNm [98]=true:=zaey (by decide) (by decide) (by decide +kernel)
theorem nm_c:isNm [99]=true:=zaey (by decide) (by decide) (by decide +kernel)
abbrev xa:TExpr:=⟨2,0,[97],[]⟩
abbrev xb:TExpr:=⟨2,0,[98],[]⟩
abbrev xc:TExpr:=⟨2,0,[99],[]⟩
abbrev xn:TExpr:=⟨3,0,[],[xc]⟩
abbrev xd:TExpr:=⟨6,0,[],[xa,xb]⟩
abbrev xe:TExpr:=⟨6,0,[],[xd,xn]⟩
abbrev y1:TStmt:=⟨5,[],[109],zE,0,[],[]⟩
abbrev y2:TStmt:=⟨1,[114],[],xe,0,[],[]⟩
abbrev P5:TProg:=⟨[⟨[120],-3⟩],[[109]],[⟨[116],[y1,y2]⟩]⟩
theorem ok_a:eF xa=true:=by rw[eF_eq]; unfold xOk; simp[nm_a]
theorem ok_b:eF xb=true:=by rw[eF_eq]; unfold xOk; simp[nm_b]
theorem ok_c:eF xc=true:=by rw[eF_eq]; unfold xOk; simp[nm_c]
theorem ok_n:eF xn=true:=by rw[eF_eq]; unfold xOk; simp[ok_c]
theorem ok_d:eF xd=true:=by rw[eF_eq]; unfold xOk; simp[ok_a,ok_b]
theorem ok_e:eF xe=true:=by rw[eF_eq]; unfold xOk; simp[ok_d,ok_n]
theorem ok_1:sF y1=true:=by
 rw[sF_eq];unfold sOk isOpt;rw[show shp y1.kind=Shape.mk false true false false false false from rfl];simp[nm_m,sFs,zaay,inR,none_]
theorem ok_2:sF y2=true:=by
 rw[sF_eq];unfold sOk isOpt;rw[show shp y2.kind=Shape.mk true false true false false false from rfl];simp[nm_r,sFs,zaay,inR,ok_e]
theorem ok_p:pOk P5=true:=by
 unfold pOk cOk;simp[nm_x,nm_m,nm_t,sFs,ok_1,ok_2]
theorem zayu:zaco P5=0:=by
 unfold zaco;rw[ok_p];decide +kernel
theorem itoa3:Lib.itoa (-3)=[45,51]:=by
 rw[show (-3:Int)=-((3:Nat):Int) from rfl,Lib.itoa_neg 3 (by omega),Lib.decDigits_one (by decide)];rfl
theorem prog5:progT P5=[99,101,108,108,32,120,32,61,32,45,51,59,10,109,117,116,101,120,32,109,59,10,116,104,114,101,97,100,32,116,32,123,10,32,32,108,111,99,107,32,109,59,10,32,32,114,32,58,61,32,97,32,45,32,98,32,45,32,45,99,59,10,125,10]:=by
 have e:xT xe 1=[97,32,45,32,98,32,45,32,45,99]:=by
  rw[zaiz (a:=xd) (b:=xn) rfl,if_neg (by decide),zaiz (x:=xd) (a:=xa) (b:=xb) rfl,if_neg (by decide),zahg (x:=xa) rfl rfl,zahg (x:=xb) rfl rfl,zaj3 (x:=xn) (a:=xc) rfl,zahg (x:=xc) rfl rfl];rfl
 unfold progT;simp only[P5,List.flatMap_cons,List.flatMap_nil,cellT,mutT,thrT,sTs,sT,itoa3,e];rfl
theorem zay6:qaI=some true:=by
 rw[qaI,zaaa];unfold qaI_f;have h:qaP P5=some (showV P5):=showW P5 (by decide +kernel) (by decide) (by decide) (by decide);have h':showV P5=(progT P5,0):=by
  unfold showV;rw[zayu,if_neg (by simp),if_neg (by decide),if_neg (by rw[prog5]; decide)]
 rw[h',prog5] at h;refine (congrArg (fun z=>Option.bind z _) h).trans ?_;rfl
theorem zars (p:TProg):(∃ v,v≠0∧showV p=([],v))∨(zaco p=0∧(progT p).length≤4000∧p.cells.length+p.mutexes.length+p.threads.length≤4000∧showV p=(progT p,0)):=by
 unfold showV;by_cases h:zaco p≠0
 ·rw[if_pos h]; exact .inl ⟨_,h,rfl⟩
 ·rw[if_neg h];by_cases h2:p.cells.length+p.mutexes.length+p.threads.length>4000
  ·rw[if_pos h2]; exact .inl ⟨10,by decide,rfl⟩
  ·rw[if_neg h2];by_cases h3:(progT p).length>4000
   ·rw[if_pos h3]; exact .inl ⟨10,by decide,rfl⟩
   ·rw[if_neg h3];exact .inr ⟨by omega,by omega,by omega,rfl⟩
end Lift.A4
namespace Lift.A4
open Go Go.RowKit Lift Go.IntWalk Lift.Fn Lift.A1P Lift.A3
set_option linter.unusedVariables false
set_option linter.unusedSimpArgs false
def GT (c:List Tk):Prop:=∀ o∈c,(o.1=1→isNm o.2.1=true)∧(o.1=2→0≤o.2.2∧o.2.2≤2147483647)
theorem GT.l {a b:List Tk} (h:GT (a++b)):GT a:=fun o ho=>h o (List.mem_append_left _ ho)
theorem GT.r {a b:List Tk} (h:GT (a++b)):GT b:=fun o ho=>h o (List.mem_append_right _ ho)
theorem GT.hd {a:Tk} {b:List Tk} (h:GT (a::b)):(a.1=1→isNm a.2.1=true)∧(a.1=2→0≤a.2.2∧a.2.2≤2147483647):=h a List.mem_cons_self
theorem GT.tl {a:Tk} {b:List Tk} (h:GT (a::b)):GT b:=fun o ho=>h o (List.mem_cons_of_mem _ ho)
theorem zanq {l:Nat} {o:Tk} {k:Int} (h:opAt l o=some k):5≤k∧k≤17:=by
 unfold opAt at h;split at h
 ·cases hm:LV[l]? with
  |none=>rw[hm] at h; cases h
  |some M=>
   rw[hm,Option.bind_some] at h;have hM:M∈LV:=List.mem_of_getElem? hm;have hall:∀ M∈LV,∀ q∈M,5≤q.2∧q.2≤17:=by decide
   exact hall M hM _ (zaoj h)
 ·cases h
theorem zauw {k:Int} {x y:TExpr} (h5:5≤k) (h17:k≤17) (hx:eF x=true) (hy:eF y=true):eF ⟨k,0,[],[x,y]⟩=true:=by
 have e1:(k==1)=false:=by simp; omega
 have e2:(k==2)=false:=by simp; omega
 have e3:(k==3)=false:=by simp; omega
 have e4:(k==4)=false:=by simp; omega
 rw[eF_eq];unfold xOk;simp only[e1,e2,e3,e4];simp[hx,hy];omega
theorem DE.ok {l:Nat} {x:TExpr} {c:List Tk} (h:DE l x c) (hg:GT c):eF x=true:=by
 induction h with
 |up _ _ ih=>exact ih hg
 |bin _ _ _ ho _ ih1 ih2=>
  obtain ⟨a,b⟩:=zanq ho;exact zauw a b (ih1 hg.l) (ih2 hg.r.tl)
 |cmp _ ho _ ih1 ih2=>
  obtain ⟨a,b⟩:=zanq ho;exact zauw a b (ih1 hg.l) (ih2 hg.r.tl)
 |neg _ _ ih=>rw[eF_eq]; unfold xOk; simp[ih hg.tl]
 |not _ _ ih=>rw[eF_eq]; unfold xOk; simp[ih hg.tl]
 |par _ _ _ ih=>exact ih hg.tl.l
 |num h1=>have:=hg.hd.2 h1; rw[eF_eq]; unfold xOk; simp; omega
 |reg h1=>have:=hg.hd.1 h1; rw[eF_eq]; unfold xOk; simp[this]
theorem zagy {x:TExpr} (h:eF x=true):x.kind≠0:=by
 rcases zaft h with ⟨h1,_⟩|⟨h1,_⟩|⟨h1,_⟩|⟨h1,_⟩<;>omega
theorem zawy {k:Int} {m:List UInt8} (h5:5≤k) (h8:k≤8) (hm:isNm m=true):sF ⟨k,[],m,zE,0,[],[]⟩=true:=by
 have:k=5∨k=6∨k=7∨k=8:=by omega
 have hs:shp k=Shape.mk false true false false false false:=by rcases this with rfl|rfl|rfl|rfl<;>rfl
 have hi:inR k=true:=by rcases this with rfl|rfl|rfl|rfl<;>rfl
 rw[sF_eq];unfold sOk isOpt;simp only[hs,hi];simp[hm,sFs,zaay,none_]
mutual
theorem DS.ok:∀ {y:TStmt} {c:List Tk},DS y c→GT c→sF y=true
 |_,_,.set (x:=x) (a:=a) ha _ hx _,hg=>by
  have h1:=hg.hd.1 ha;have h2:=hx.ok hg.tl.tl.l;have h3:=zagy h2;rw[sF_eq];unfold sOk isOpt;rw[show shp 1=Shape.mk true false true false false false from rfl];simp[h1,h2,h3,sFs,inR]
 |_,_,.write (x:=x) (a:=a) ha _ hx _,hg=>by
  have h1:=hg.hd.1 ha;have h2:=hx.ok hg.tl.tl.l;have h3:=zagy h2;rw[sF_eq];unfold sOk isOpt;rw[show shp 3=Shape.mk false true true false false false from rfl];simp[h1,h2,h3,sFs,inR]
 |_,_,.add (x:=x) (a:=a) (b:=b) ha _ _ hb hx _,hg=>by
  have h1:=hg.hd.1 ha;have h1':=hg.tl.tl.tl.hd.1 hb;have h2:=hx.ok hg.tl.tl.tl.tl.l;have h3:=zagy h2;rw[sF_eq];unfold sOk isOpt;rw[show shp 4=Shape.mk true true true false false false from rfl];simp[h1,h1',h2,h3,sFs,inR]
 |_,_,.read (a:=a) (b:=b) ha _ hb _,hg=>by
  have h1:=hg.hd.1 ha;have h1':=hg.tl.tl.hd.1 hb;rw[sF_eq];unfold sOk isOpt;rw[show shp 2=Shape.mk true true false false false false from rfl];simp[h1,h1',sFs,inR,none_,zaay]
 |_,_,.about (i:=i) (b:=b) hi _ hb _,hg=>by
  have h1:=hg.tl.hd.1 hb;have:i<4:=by
   have:=List.getElem?_eq_some_iff.1 hi;obtain ⟨h,_⟩:=this;exact h
  exact zawy (by omega) (by omega) h1
 |_,_,.assert (x:=x) _ hx _,hg=>by
  have h2:=hx.ok hg.tl.l;have h3:=zagy h2;rw[sF_eq];unfold sOk isOpt;rw[show shp 9=Shape.mk false false true false false false from rfl];simp[h2,h3,sFs,inR]
 |_,_,.if_ (x:=x) _ hx _ hb _,hg=>by
  have h2:=hx.ok hg.tl.l;have h3:=zagy h2;have h4:=hb.ok hg.tl.r.tl.l;rw[sF_eq];unfold sOk isOpt;rw[show shp 10=Shape.mk false false true false true true from rfl];simp[h2,h3,h4,sFs,inR]
 |_,_,.ife (x:=x) _ hx _ hb _ _ _ hb2 _,hg=>by
  have h2:=hx.ok hg.tl.l;have h3:=zagy h2;have h4:=hb.ok hg.tl.r.tl.l;have h5:=hb2.ok hg.tl.r.tl.r.tl.tl.tl.l;rw[sF_eq];unfold sOk isOpt;rw[show shp 10=Shape.mk false false true false true true from rfl];simp[h2,h3,h4,h5,sFs,inR]
 |_,_,.rep (n:=n) _ hn h1000 _ hb _,hg=>by
  have h1:=hg.tl.hd.2 hn;have h4:=hb.ok hg.tl.tl.tl.l;rw[sF_eq];unfold sOk isOpt;rw[show shp 11=Shape.mk false false false true true false from rfl];simp[h4,sFs,inR,none_,zaay];omega
theorem DL.ok:∀ {b:List TStmt} {c:List Tk},DL b c→GT c→sFs b=true
 |_,_,.nil,_=>by rw[sFs]
 |_,_,.cons hs hb,hg=>by rw[sFs,hs.ok hg.l,hb.ok hg.r]; rfl
end
theorem DC.ok {x:TCell} {c:List Tk} (h:DC x c) (hg:GT c):cOk x=true:=by
 cases h with
 |bare _ ha _=>have:=hg.tl.hd.1 ha; unfold cOk; simp[this]
 |pos _ ha _ _ hn _=>
  have h1:=hg.tl.hd.1 ha;have h2:=hg.tl.tl.tl.hd.2 hn;unfold cOk;simp[h1];omega
 |@ngt w a o m n q _ ha _ _ hn _=>
  have h1:=hg.tl.hd.1 ha;have h2:=hg.tl.tl.tl.tl.hd.2 hn;have h3:IntKind.wrap .i64 (0-n.2.2)=0-n.2.2:=i64_in _ (by omega);unfold cOk;rw[h3];simp[h1];omega
theorem DP.ok {p:TProg} {c:List Tk} (h:DP p c) (hg:GT c):pOk p=true:=by
 induction h with
 |nil=>rfl
 |@cell p c d x _ hx ih=>
  have h1:=ih hg.l;have h2:=hx.ok hg.r;unfold pOk at h1 ⊢;simp only[Bool.and_eq_true] at h1 ⊢;refine ⟨?_,h1.2⟩;rw[List.all_append,h1.1];simp[h2]
 |@mutex p c w a q _ _ ha _ ih=>
  have h1:=ih hg.l;have h2:=hg.r.tl.hd.1 ha;unfold pOk at h1 ⊢;simp only[Bool.and_eq_true] at h1 ⊢;refine ⟨h1.1,?_,h1.2.2⟩;rw[List.all_append,h1.2.1];simp[h2]
 |@thread p c d w a b _ _ ha hb ih=>
  have h1:=ih hg.l;have h2:=hg.r.tl.hd.1 ha;obtain ⟨o,e,q,_,hd,_,rfl⟩:=hb;have h3:=hd.ok hg.r.tl.tl.tl.l;unfold pOk at h1 ⊢;simp only[Bool.and_eq_true] at h1 ⊢;refine ⟨h1.1,h1.2.1,?_⟩;rw[List.all_append,h1.2.2];simp[h2,h3]
theorem zaza {t:List UInt8} {l:List Token} {e:Token} (h:qaj t=some (l++[e],⟨0,0,[]⟩)):GT (l.map core):=by
 rcases zahz t with ⟨f,k1,k2,_⟩|⟨rs,l',rfl,hra,_,hT,k1⟩
 ·rw[h] at k1;simp only[Option.some.injEq,Prod.mk.injEq] at k1;rw[← k1.2] at k2;exact absurd rfl k2
 rw[h] at k1;simp only[Option.some.injEq,Prod.mk.injEq,and_true] at k1;obtain ⟨g1,g2⟩:=List.append_inj' k1 rfl;subst g1;intro o ho;obtain ⟨x,hx,rfl⟩:=List.mem_map.1 ho;obtain ⟨w,u,hw,hc⟩:=((T_ok _ _ _ _ (Nat.le_refl _) (zad3 hra) hT).1 x hx).2.2.2;rw[hc];refine ⟨fun h1=>?_,fun h1=>zayd hw h1⟩;have:=zast hw h1;rw[(zal3 hw h1).1];exact this
theorem zar2 {a:List UInt8} {q:RR} (h:qar a=some q) (h0:q.1.code=0):∃ p,q=rr p ⟨0,0,[]⟩∧zaco p=0∧nT p.threads≤100000000∧p.cells.length≤100000000∧p.mutexes.length≤100000000∧p.threads.length≤100000000 ∧
  ∃ l e,qaj a=some (l++[e],⟨0,0,[]⟩)∧DP p (l.map core):=by
 rcases zall a with ⟨f,h1,h2⟩|⟨l,e,p,h1,he,hl,hlen,hp,hd,hdeep,hcnt⟩
 ·rw[h] at h1;simp only[Option.some.injEq] at h1;subst h1;exact absurd h0 h2
 ·rw[h] at hp;simp only[Option.some.injEq] at hp;subst hp;have hs:=hd.size;rw[List.length_map] at hs;refine ⟨p,rfl,?_,by omega,by omega,by omega,by omega,l,e,h1,hd⟩;have:=hd.ok (zaza h1);unfold zaco;rw[this];simp only[Bool.not_true,cond_false];rw[decide_eq_false (by omega),cond_false,decide_eq_false (by omega),cond_false]
theorem zatp (a:List UInt8):qaH a=some true:=by
 rw[qaH,zaaa];unfold qaH_f;rw[zay6,Option.bind_some];rcases zall a with ⟨f,h1,h2⟩|⟨l,e,p,h1,he,hl,hlen,hp,hd,hdeep,hcnt⟩
 ·rw[h1,Option.bind_some];have:(f.code != 0)=true:=by simpa using h2
  simp[rr,this]
 ·obtain ⟨p',hq,hr,s1,s2,s3,s4,_⟩:=zar2 hp rfl;have:p'=p:=by
   unfold rr at hq;simp only[Prod.mk.injEq,true_and] at hq;obtain ⟨a,b,c⟩:=hq;obtain ⟨x1,x2,x3⟩:=p';obtain ⟨p1,p2,p3⟩:=p;simp only at a b c;rw[a,b,c]
  subst this;have hs:qaP (TProg.mk p'.cells p'.mutexes p'.threads)=some (showV p'):=showW p' s1 s2 s3 s4;rw[hp,Option.bind_some];simp only[rr,Bool.not_true,cond_false,Option.bind_some,bne_self_eq_false];rw[hs,Option.bind_some];rcases zars p' with ⟨v,hv,ev⟩|⟨_,hlen4,_,ev⟩
  ·have e1:(v != 0)=true:=by simpa using hv
   have e10:v=10:=by
    unfold showV at ev;rw[if_neg (by simp[hr])] at ev;split at ev
    ·simp only[Prod.mk.injEq,true_and] at ev; exact ev.symm
    ·split at ev
     ·simp only[Prod.mk.injEq,true_and] at ev; exact ev.symm
     ·simp only[Prod.mk.injEq] at ev; exact absurd ev.2.symm hv
   rw[ev];simp only[e1,cond_true,e10];rfl
  ·have hb:=zaww hr hlen4;rw[ev];simp only[bne_self_eq_false,cond_false];rw[hb,Option.bind_some];dsimp only[rr];rw[hs,Option.bind_some,ev];simp
end Lift.A4
namespace Lift.A4
open Go Go.RowKit Lift Go.IntWalk Lift.Fn Lift.A1P
theorem showAgain1 (a:List UInt8):qaH a=some true:=zatp a
end Lift.A4
