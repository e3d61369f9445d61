/-
  DERIVED. The Lean functions answer as the laws say. Conditions: as each theorem says.
-/
import Derived.Test.YtcmhkcpheehlhaaGreatDoorLawA
set_option linter.unusedVariables false
set_option linter.unusedSimpArgs false
set_option linter.unusedSectionVars false
namespace Lift.A4
open Go Go.RowKit Lift Go.IntWalk Lift.Fn Lift.A1P Lift.A3
set_option linter.unusedVariables false
set_option linter.unusedSimpArgs false
abbrev wCell:List UInt8:=[99,101,108,108]
abbrev zay8:List UInt8:=[109,117,116,101,120]
abbrev zaye:List UInt8:=[116,104,114,101,97,100]
inductive DC:TCell→List Tk→Prop
 |bare {w a q:Tk}:hitc wCell w=true→a.1=1→hitc [59] q=true→DC ⟨a.2.1,0⟩ [w,a,q]
 |pos {w a o n q:Tk}:hitc wCell w=true→a.1=1→hitc [61] o=true→hitc [45] n=false→n.1=2→hitc [59] q=true→DC ⟨a.2.1,n.2.2⟩ [w,a,o,n,q]
 |ngt {w a o m n q:Tk}:hitc wCell w=true→a.1=1→hitc [61] o=true→hitc [45] m=true→n.1=2→hitc [59] q=true→DC ⟨a.2.1,IntKind.wrap .i64 (0-n.2.2)⟩ [w,a,o,m,n,q]
inductive DP:TProg→List Tk→Prop
 |nil:DP ⟨[],[],[]⟩ []
 |cell {p:TProg} {c d:List Tk} {x:TCell}:DP p c→DC x d→DP ⟨p.cells++[x],p.mutexes,p.threads⟩ (c++d)
 |mutex {p:TProg} {c:List Tk} {w a q:Tk}:DP p c→hitc zay8 w=true→a.1=1→hitc [59] q=true→DP ⟨p.cells,p.mutexes++[a.2.1],p.threads⟩ (c++[w,a,q])
 |thread {p:TProg} {c d:List Tk} {w a:Tk} {b:List TStmt}:DP p c→hitc zaye w=true→a.1=1→DB b d→DP ⟨p.cells,p.mutexes,p.threads++[⟨a.2.1,b⟩]⟩ (c++w::a::d)
theorem zaq2:∀ (a b:List TThread),nT (a++b)=nT a+nT b
 |[],b=>by simp[nT]
 |x::a,b=>by simp only[List.cons_append,nT,zaq2 a b]; omega
theorem zazm (x:TThread):nT [x]=1+nSs x.body:=by simp[nT]
theorem DC.len {x:TCell} {c:List Tk} (h:DC x c):3≤c.length:=by cases h<;>simp
theorem DP.size {p:TProg} {c:List Tk} (h:DP p c):p.cells.length≤c.length∧p.mutexes.length≤c.length∧p.threads.length≤c.length∧nT p.threads≤2*c.length:=by
 induction h with
 |nil=>simp[nT]
 |cell _ hd ih=>have:=hd.len; simp only[List.length_append,List.length_cons,List.length_nil]; omega
 |mutex _ _ _ _ ih=>simp only[List.length_append,List.length_cons,List.length_nil]; omega
 |thread _ _ _ hb ih=>have:=hb.size; simp only[List.length_append,List.length_cons,List.length_nil,zaq2,zazm]; omega
end Lift.A4
namespace Lift.A4
open Go Go.RowKit Lift Go.IntWalk Lift.Fn Lift.A1P Lift.A3
set_option linter.unusedVariables false
set_option linter.unusedSimpArgs false
theorem zass {l:List TStmt} (h:sFs l=true) {y:TStmt} (hy:y∈l):sF y=true:=by
 rw[zan3] at h;exact List.all_eq_true.1 h y hy
theorem zaxs {R:WR} {N W:Nat} (hW:6*1000001+600≤W) (hR:BlkOk R N W) (d:Nat) (l:List TStmt) (hl:sFs l=true) (hN:nSs l≤N) (hd:d+nSs l≤1000000):∀ (k n i:Nat) (b:List Int),i+k=l.length→k<n→b.length+nSs (l.drop i)*W≤90000000000000 →
  qbm_i1 R n (d:Int) l (l.length:Int) (i:Int) opsL b=some (opsL,b++ofStr (sTs (l.drop i) d)):=by
 intro k;induction k with
 |zero=>
  intro n i b hi hn hb;obtain ⟨n,rfl⟩:∃ q,n=q+1:=⟨n-1,by omega⟩;show qbm_t1 R (qbm_i1 R n) d l l.length i opsL b=_;unfold qbm_t1;have e:decide ((i:Int)<(l.length:Int))=false:=by simp only[decide_eq_false_iff_not]; omega
  have hz:l.drop i=[]:=List.drop_eq_nil_of_le (by omega);rw[e,cond_false,hz,sTs];simp[ofStr]
 |succ k ih=>
  intro n i b hi hn hb;obtain ⟨n,rfl⟩:∃ q,n=q+1:=⟨n-1,by omega⟩;show qbm_t1 R (qbm_i1 R n) d l l.length i opsL b=_;unfold qbm_t1;have hlt:i<l.length:=by omega
  have e:decide ((i:Int)<(l.length:Int))=true:=by simp only[decide_eq_true_eq]; omega
  have e0:decide ((0:Int)≤(i:Int))=true:=by simp only[decide_eq_true_eq]; omega
  rw[e,cond_true,e0,cond_true,Int.toNat_natCast,List.getElem?_eq_getElem hlt,Option.bind_some,zas1];have hdr:l.drop i=l[i]::l.drop (i+1):=List.drop_eq_getElem_cons hlt;have hy:=zass hl (List.getElem_mem hlt);have hsum:nSs l=nSs (l.take i)+nSs (l.drop i):=by rw[← zany,List.take_append_drop]
  rw[hdr] at hb hsum ⊢;rw[zad6] at hb hsum;rw[Nat.add_mul] at hb;have hlen:=zavq 1000001 W hW l[i] d hy (by omega);have hll:l.length≤nSs l:=by
   clear hb hsum hdr hy hlen hlt e e0 ih hl hN hd hi;induction l with
   |nil=>simp
   |cons x l ih2=>
    rw[zad6,List.length_cons];have:1≤nS x:=by obtain ⟨a,b,c,d,e,f,g⟩:=x; rw[nS_mk]; omega
    omega
  rw[stmtW hW hR l[i] d b (by omega) hy (by omega) (by omega),Option.bind_some];dsimp only;rw[i64_in ((i:Int)+1) (by omega)];have e2:(i:Int)+1=((i+1:Nat):Int):=by omega
  rw[e2,ih n (i+1) _ (by omega) (by omega) (by rw[List.length_append,zaay]; omega),sTs,zab9,List.append_assoc]
theorem zayl {W:Nat} (hW:6*1000001+600≤W):∀ n N,N≤n→BlkOk (qbm_i n) N W:=by
 intro n;induction n with
 |zero=>intro N hN l d b h; omega
 |succ n ih=>
  intro N hN l d b hl hf hd hb;show qbm_f (qbm_i n) l d opsL b=_;unfold qbm_f;have hll:l.length≤nSs l:=by
   clear hb hd hf hl hN ih;induction l with
   |nil=>simp
   |cons x l ih2=>
    rw[zad6,List.length_cons];have:1≤nS x:=by obtain ⟨a,b,c,d,e,f,g⟩:=x; rw[nS_mk]; omega
    omega
  have:=zaxs hW (ih (nSs l) (by omega)) d l hf (Nat.le_refl _) hd l.length fuel 0 b (by omega) (by unfold fuel; omega) (by rw[List.drop_zero]; exact hb);rw[List.drop_zero] at this;rw[qbm_l1,zaaa];have h0:((0:Nat):Int)=0:=rfl;rw[h0] at this;rw[this,Option.bind_some]
theorem zazn {W:Nat} (hW:6*1000001+600≤W) (l:List TStmt) (d:Nat) (b:List Int) (hf:sFs l=true) (hd:d+nSs l≤1000000) (hb:b.length+nSs l*W≤90000000000000):qbm l (d:Int) opsL b=some (opsL,b++ofStr (sTs l d)):=by
 rw[qbm,zaaa];exact zayl hW fuel 1000001 (by unfold fuel; omega) l d b (by omega) hf hd hb
theorem zaki (c:TCell) (h:cOk c=true):(cellT c).length≤200∧isNm c.name=true∧-2147483647≤c.init∧c.init≤2147483647:=by
 unfold cOk at h;simp only[Bool.and_eq_true,decide_eq_true_eq] at h;obtain ⟨⟨h1,h2⟩,h3⟩:=h;have:=zaav h1;have:=Lib.itoa_length_le c.init (by omega) (by omega);refine ⟨?_,h1,h2,h3⟩;unfold cellT;rw[zab0];simp only[List.length_flatten,List.map_cons,List.map_nil,List.sum_cons,List.sum_nil,List.length_cons,List.length_nil];omega
theorem flat_len {α:Type} (f:α→List UInt8) (K:Nat):∀ (l:List α),(∀ x∈l,(f x).length≤K)→(l.flatMap f).length≤l.length*K
 |[],_=>by simp
 |x::l,h=>by
  have h1:=h x (by simp);have h2:=flat_len f K l (fun y hy=>h y (by simp[hy]));rw[List.flatMap_cons,List.length_append,List.length_cons,Nat.add_mul];omega
theorem zaze (l:List TCell) (C:List TCell) (M:List (List UInt8)) (T:List TThread) (hl:l.all cOk=true) (hn:l.length≤4000):∀ (k n i:Nat) (b:List Int),i+k=l.length→k<n→b.length+k*200≤90000000000 →
  qbk_i8 n l (l.length:Int) (i:Int) C M T opsL b=some (C,M,T,opsL,b++ofStr ((l.drop i).flatMap cellT)):=by
 intro k;induction k with
 |zero=>
  intro n i b hi hk hb;obtain ⟨n,rfl⟩:∃ q,n=q+1:=⟨n-1,by omega⟩;show qbk_t8 (qbk_i8 n) l l.length i C M T opsL b=_;unfold qbk_t8;have e:decide ((i:Int)<(l.length:Int))=false:=by simp only[decide_eq_false_iff_not]; omega
  have hz:l.drop i=[]:=List.drop_eq_nil_of_le (by omega);rw[e,cond_false,hz];simp[ofStr]
 |succ k ih=>
  intro n i b hi hk hb;obtain ⟨n,rfl⟩:∃ q,n=q+1:=⟨n-1,by omega⟩;show qbk_t8 (qbk_i8 n) l l.length i C M T opsL b=_;unfold qbk_t8;have hlt:i<l.length:=by omega
  have e:decide ((i:Int)<(l.length:Int))=true:=by simp only[decide_eq_true_eq]; omega
  have e0:decide ((0:Int)≤(i:Int))=true:=by simp only[decide_eq_true_eq]; omega
  rw[e,cond_true,e0,cond_true,Int.toNat_natCast,List.getElem?_eq_getElem hlt,Option.bind_some];have hdr:l.drop i=l[i]::l.drop (i+1):=List.drop_eq_getElem_cons hlt;obtain ⟨c1,c2,c3,c4⟩:=zaki l[i] (List.all_eq_true.1 hl _ (List.getElem_mem hlt));have cn:=zaav c2;rw[hdr,List.flatMap_cons];generalize l[i]=c at *;have ci:=Lib.itoa_length_le c.init (by omega) (by omega);rw[zal6 (by omega) (by omega),Option.bind_some]
  have hln:=zacn 0 [[(99:UInt8),(101:UInt8),(108:UInt8),(108:UInt8),(32:UInt8)],c.name,[(32:UInt8),(61:UInt8),(32:UInt8)],Lib.itoa c.init,[(59:UInt8)]] b (by omega) (by simp) (by
   simp only[List.length_flatten,List.map_cons,List.map_nil,List.sum_cons,List.sum_nil,List.length_cons,List.length_nil];omega) (by omega)
  have h0:((0:Nat):Int)=0:=rfl;rw[h0] at hln;rw[hln,Option.bind_some];dsimp only;rw[i64_in ((i:Int)+1) (by omega)];have e2:(i:Int)+1=((i+1:Nat):Int):=by omega
  rw[e2,ih n (i+1) _ (by omega) (by omega) (by
   rw[List.length_append,zaay];have:(ln 0 [[(99:UInt8),(101:UInt8),(108:UInt8),(108:UInt8),(32:UInt8)],c.name,[(32:UInt8),(61:UInt8),(32:UInt8)],Lib.itoa c.init,[(59:UInt8)]].flatten).length≤200:=c1;omega),zab9,List.append_assoc]
  rfl
theorem mutsW (l:List (List UInt8)) (C:List TCell) (M:List (List UInt8)) (T:List TThread) (hl:l.all isNm=true) (hn:l.length≤4000):∀ (k n i:Nat) (b:List Int),i+k=l.length→k<n→b.length+k*200≤90000000000 →
  qbk_i13 n l (l.length:Int) (i:Int) C M T opsL b=some (C,M,T,opsL,b++ofStr ((l.drop i).flatMap mutT)):=by
 intro k;induction k with
 |zero=>
  intro n i b hi hk hb;obtain ⟨n,rfl⟩:∃ q,n=q+1:=⟨n-1,by omega⟩;show qbk_t13 (qbk_i13 n) l l.length i C M T opsL b=_;unfold qbk_t13;have e:decide ((i:Int)<(l.length:Int))=false:=by simp only[decide_eq_false_iff_not]; omega
  have hz:l.drop i=[]:=List.drop_eq_nil_of_le (by omega);rw[e,cond_false,hz];simp[ofStr]
 |succ k ih=>
  intro n i b hi hk hb;obtain ⟨n,rfl⟩:∃ q,n=q+1:=⟨n-1,by omega⟩;show qbk_t13 (qbk_i13 n) l l.length i C M T opsL b=_;unfold qbk_t13;have hlt:i<l.length:=by omega
  have e:decide ((i:Int)<(l.length:Int))=true:=by simp only[decide_eq_true_eq]; omega
  have e0:decide ((0:Int)≤(i:Int))=true:=by simp only[decide_eq_true_eq]; omega
  rw[e,cond_true,e0,cond_true,Int.toNat_natCast,List.getElem?_eq_getElem hlt,Option.bind_some];have hdr:l.drop i=l[i]::l.drop (i+1):=List.drop_eq_getElem_cons hlt;have cn:=zaav (List.all_eq_true.1 hl _ (List.getElem_mem hlt));rw[hdr,List.flatMap_cons];generalize l[i]=c at *
  have hln:=zacn 0 [[(109:UInt8),(117:UInt8),(116:UInt8),(101:UInt8),(120:UInt8),(32:UInt8)],c,[(59:UInt8)]] b (by omega) (by simp) (by
   simp only[List.length_flatten,List.map_cons,List.map_nil,List.sum_cons,List.sum_nil,List.length_cons,List.length_nil];omega) (by omega)
  have h0:((0:Nat):Int)=0:=rfl;rw[h0] at hln;rw[hln,Option.bind_some];dsimp only;rw[i64_in ((i:Int)+1) (by omega)];have e2:(i:Int)+1=((i+1:Nat):Int):=by omega
  rw[e2,ih n (i+1) _ (by omega) (by omega) (by
   rw[List.length_append,zaay,zab0];simp only[List.length_flatten,List.map_cons,List.map_nil,List.sum_cons,List.sum_nil,List.length_cons,List.length_nil];omega),zab9,List.append_assoc]
  rfl
theorem thrsW {W : Nat} (hW : 6 * 1000001 + 600 ≤ W) (l : List TThread) (hl : (l.all fun t => isNm t.name && sFs t.body) = true) (hn : l.length ≤ 4000) (hs : nT l ≤ 100000) : ∀ (k n i : Nat) (b : List Int), i + k = l.length → k < n → b.length + nT (l.drop i) * W ≤ 80000000000000 →
  qbk_i18 n l (l.length:Int) (i:Int) opsL b=some (opsL,b++ofStr ((l.drop i).flatMap thrT)):=by
 intro k;induction k with
 |zero=>
  intro n i b hi hk hb;obtain ⟨n,rfl⟩:∃ q,n=q+1:=⟨n-1,by omega⟩;show qbk_t18 (qbk_i18 n) l l.length i opsL b=_;unfold qbk_t18;have e:decide ((i:Int)<(l.length:Int))=false:=by simp only[decide_eq_false_iff_not]; omega
  have hz:l.drop i=[]:=List.drop_eq_nil_of_le (by omega);rw[e,cond_false,hz];simp[ofStr]
 |succ k ih=>
  intro n i b hi hk hb;obtain ⟨n,rfl⟩:∃ q,n=q+1:=⟨n-1,by omega⟩;show qbk_t18 (qbk_i18 n) l l.length i opsL b=_;unfold qbk_t18;have hlt:i<l.length:=by omega
  have e:decide ((i:Int)<(l.length:Int))=true:=by simp only[decide_eq_true_eq]; omega
  have e0:decide ((0:Int)≤(i:Int))=true:=by simp only[decide_eq_true_eq]; omega
  rw[e,cond_true,e0,cond_true,Int.toNat_natCast,List.getElem?_eq_getElem hlt,Option.bind_some];have hdr:l.drop i=l[i]::l.drop (i+1):=List.drop_eq_getElem_cons hlt;have hok:=List.all_eq_true.1 hl _ (List.getElem_mem hlt);rw[Bool.and_eq_true] at hok;have cn:=zaav hok.1;have hsum:nT l=nT (l.take i)+nT (l.drop i):=by rw[← zaq2,List.take_append_drop]
  rw[hdr] at hb hsum;have hcons:∀ (x:TThread) (r:List TThread),nT (x::r)=1+nSs x.body+nT r:=fun x r=>by simp[nT]
  rw[hcons] at hb hsum;simp only[Nat.add_mul,Nat.one_mul] at hb;rw[hdr,List.flatMap_cons];generalize l[i]=c at *;have hbl:=zae2 1000001 W hW c.body 1 hok.2 (by omega)
  have hln:=zacn 0 [[(116:UInt8),(104:UInt8),(114:UInt8),(101:UInt8),(97:UInt8),(100:UInt8),(32:UInt8)],c.name,[(32:UInt8),(123:UInt8)]] b (by omega) (by simp) (by
   simp only[List.length_flatten,List.map_cons,List.map_nil,List.sum_cons,List.sum_nil,List.length_cons,List.length_nil];omega) (by omega)
  have h0:((0:Nat):Int)=0:=rfl;rw[h0] at hln;rw[hln,Option.bind_some];dsimp only;have hl1:(ln 0 [[(116:UInt8),(104:UInt8),(114:UInt8),(101:UInt8),(97:UInt8),(100:UInt8),(32:UInt8)],c.name,[(32:UInt8),(123:UInt8)]].flatten).length≤100:=by
   rw[zab0];simp only[List.length_flatten,List.map_cons,List.map_nil,List.sum_cons,List.sum_nil,List.length_cons,List.length_nil];omega
  have hl2:(ln 0 [[(125:UInt8)]].flatten).length=2:=by decide
  have hbw:=zazn hW c.body 1 (b++ofStr (ln 0 [[(116:UInt8),(104:UInt8),(114:UInt8),(101:UInt8),(97:UInt8),(100:UInt8),(32:UInt8)],c.name,[(32:UInt8),(123:UInt8)]].flatten)) hok.2 (by omega) (by
   rw[List.length_append,zaay];omega)
  have h1:((1:Nat):Int)=1:=rfl;rw[h1] at hbw;rw[hbw,Option.bind_some];dsimp only
  have hln2:=zacn 0 [[(125:UInt8)]] (b++ofStr (ln 0 [[(116:UInt8),(104:UInt8),(114:UInt8),(101:UInt8),(97:UInt8),(100:UInt8),(32:UInt8)],c.name,[(32:UInt8),(123:UInt8)]].flatten)++ofStr (sTs c.body 1)) (by omega) (by simp) (by simp) (by
   simp only[List.length_append,zaay];omega)
  rw[h0] at hln2;rw[hln2,Option.bind_some];dsimp only;rw[i64_in ((i:Int)+1) (by omega)];have e2:(i:Int)+1=((i+1:Nat):Int):=by omega
  rw[e2,ih n (i+1) _ (by omega) (by omega) (by
   simp only[List.length_append,zaay,hl2];omega)]
  unfold thrT;simp only[zab9,List.append_assoc]
noncomputable def showV (p:TProg):List UInt8×Int:=
 if zaco p≠0 then ([],zaco p) else if p.cells.length+p.mutexes.length+p.threads.length>4000 then ([],10) else if (progT p).length>4000 then ([],10) else (progT p,0)
theorem zanc {p:TProg} (h:zaco p=0):pOk p=true∧maxEv (evP p) 0≤16∧(cT p.threads:Int)≤500:=by
 unfold zaco at h;cases h1:pOk p with
 |false=>rw[h1] at h; cases h
 |true=>
  rw[h1] at h;simp only[Bool.not_true,cond_false] at h;by_cases h2:maxEv (evP p) 0>16
  ·rw[decide_eq_true h2,cond_true] at h; cases h
  ·rw[decide_eq_false h2,cond_false] at h;by_cases h3:(cT p.threads:Int)>500
   ·rw[decide_eq_true h3,cond_true] at h; cases h
   ·exact ⟨rfl,by omega,by omega⟩
mutual
theorem nS_cS:∀ x:TStmt,nS x≤2*cS x
 |⟨k,r,m,x,c,t,o⟩=>by
  rw[nS_mk,cS];have h1:=zaiu t;have h2:=zaiu o;by_cases hx:zaas x=true
  ·rw[if_pos hx]; omega
  ·rw[if_neg hx];have:nE x=1:=by
    obtain ⟨k,n,s,l⟩:=x;unfold zaas at hx;simp at hx;have:l=[]:=by
     cases l with
     |nil=>rfl
     |cons a l=>simp at hx
    subst this;exact zafw _ _ _
   omega
theorem zaiu:∀ l:List TStmt,nSs l≤2*cSs l
 |[]=>by simp[nSs]
 |x::l=>by rw[zad6,cSs]; have:=nS_cS x; have:=zaiu l; omega
end
theorem nT_cT:∀ l:List TThread,nT l≤l.length+2*cT l
 |[]=>by simp[nT]
 |x::l=>by
  have h1:=zaiu x.body;have h2:=nT_cT l;have:nT (x::l)=1+nSs x.body+nT l:=by simp[nT]
  rw[this,cT,List.length_cons];omega
theorem showW (p:TProg) (h:nT p.threads≤100000000) (h1:p.cells.length≤100000000) (h2:p.mutexes.length≤100000000) (h3:p.threads.length≤100000000):qbk p=some (showV p):=by
 rw[qbk,zaaa];unfold qbk_f showV;rw[zafz,zaua p h h1 h2,Option.bind_some];by_cases hr:zaco p=0
 ·have e:(zaco p != 0)=false:=by simp[hr]
  obtain ⟨r1,r2,r3⟩:=zanc hr;have w1:IntKind.wrap IntKind.i64 (IntKind.wrap IntKind.i64 ((↑(List.length p.cells):Int)+(↑(List.length p.mutexes):Int))+(↑(List.length p.threads):Int))=((p.cells.length+p.mutexes.length+p.threads.length:Nat):Int):=by
   rw[i64_in ((↑(List.length p.cells):Int)+(↑(List.length p.mutexes):Int)) (by omega),i64_in _ (by omega)];omega
  rw[e,cond_false,if_neg (by simp[hr]),w1];by_cases hm:p.cells.length+p.mutexes.length+p.threads.length>4000
  ·rw[if_pos hm,decide_eq_true (by omega),cond_true]
  ·rw[if_neg hm,decide_eq_false (by omega),cond_false,opsE,Option.bind_some];unfold pOk at r1;rw[Bool.and_eq_true,Bool.and_eq_true] at r1;obtain ⟨q1,q2,q3⟩:=r1;have hnt:=nT_cT p.threads;obtain ⟨W,hWd⟩:∃ W,W=10000000:=⟨_,rfl⟩;have hW:6*1000001+600≤W:=by omega
   have hfl1:=flat_len cellT 200 p.cells (fun x hx=>(zaki x (List.all_eq_true.1 q1 x hx)).1);have hfl2:=flat_len mutT 200 p.mutexes (fun x hx=>by
    have:=zaav (List.all_eq_true.1 q2 x hx);unfold mutT;rw[zab0];simp only[List.length_flatten,List.map_cons,List.map_nil,List.sum_cons,List.sum_nil,List.length_cons,List.length_nil];omega)
   have c1:=zaze p.cells p.cells p.mutexes p.threads q1 (by omega) p.cells.length fuel 0 [] (by omega) (by unfold fuel; omega) (by simp only[List.length_nil]; omega);rw[List.drop_zero,List.nil_append] at c1;have h0:((0:Nat):Int)=0:=rfl;rw[h0] at c1;rw[qbk_l8,zaaa,c1,Option.bind_some];dsimp only;have c2:=mutsW p.mutexes p.cells p.mutexes p.threads q2 (by omega) p.mutexes.length fuel 0 (ofStr (p.cells.flatMap cellT)) (by omega) (by unfold fuel; omega) (by rw[zaay]; omega);rw[List.drop_zero,h0] at c2;rw[qbk_l13,zaaa,c2,Option.bind_some];dsimp only;have hprod:nT p.threads*W≤10000*W:=Nat.mul_le_mul_right _ (by omega);have c3:=thrsW hW p.threads q3 (by omega) (by omega) p.threads.length fuel 0 (ofStr (p.cells.flatMap cellT)++ofStr (p.mutexes.flatMap mutT)) (by omega) (by unfold fuel; omega) (by rw[List.drop_zero,List.length_append,zaay,zaay]; omega);rw[List.drop_zero,h0] at c3;rw[qbk_l18,zaaa,c3,Option.bind_some];dsimp only;have hpt:ofStr (p.cells.flatMap cellT)++ofStr (p.mutexes.flatMap mutT)++ofStr (p.threads.flatMap thrT)=ofStr (progT p):=by
    unfold progT;simp only[zab9,List.append_assoc]
   rw[hpt,qbt,zaaa];unfold qbt_f;rw[Option.bind_some];dsimp only;rw[zaay];by_cases hl:(progT p).length>4000
   ·rw[if_pos hl,decide_eq_true (by omega),cond_true]
   ·rw[if_neg hl,decide_eq_false (by omega),cond_false,zasl,Option.bind_some]
 ·have e:(zaco p != 0)=true:=by simpa using hr
  rw[e,cond_true,if_pos hr]
end Lift.A4
namespace Lift.A1P
open Go Go.RowKit Lift Go.IntWalk Lift.Fn
theorem zavn:∀ x∈twos,x.headD 0≠35∧x.headD 0≠9∧x.headD 0≠10∧x.headD 0≠13∧x.headD 0≠32:=by decide
theorem zau5:∀ b∈ones,b≠35∧b≠9∧b≠10∧b≠13∧b≠32:=by decide
theorem zaxp {w:List Int} {t:Token} (h:whole w t) (r:List Int):skip false (w++r)=w++r:=by
 obtain ⟨h1,h2,h3,h4⟩:=h;match w,h1 with
 |a::w,_=>
  simp only[List.all_cons,Bool.and_eq_true] at h2;have key:a≠35∧Sp.blank a=false:=by
   cases hg:goesR a with
   |true=>
    unfold goesR Sp.letter Sp.digit at hg;simp only[Bool.or_eq_true,Bool.and_eq_true,decide_eq_true_eq] at hg;constructor
    ·omega
    ·simp only[Sp.blank,decide_eq_false_iff_not]; omega
   |false=>
    obtain ⟨b,u,hb⟩:=zaj2 a w;unfold tokR at h3;simp only[List.headD_cons,hg,cond_false] at h3;cases hc:(sgn (encs (a::w))==[]) with
    |true=>rw[hc] at h3; simp at h3
    |false=>
     have hne:sgn (encs (a::w))≠[]:=by simpa using hc
     have hbb:b.toNat<128∧b≠35∧b≠9∧b≠10∧b≠13∧b≠32:=by
      unfold sgn at hne;by_cases k1:1<(encs (a::w)).length∧twos.contains ((encs (a::w)).take 2)=true
      ·have hm:(encs (a::w)).take 2∈twos:=by simpa using k1.2
       have q1:=(zaij _ hm).2;have q2:=zavn _ hm;rw[hb] at q1 q2;simp only[List.take_succ_cons,List.all_cons,Bool.and_eq_true,decide_eq_true_eq,List.headD_cons] at q1 q2;exact ⟨q1.1,q2⟩
      ·rw[if_neg k1] at hne;by_cases k2:ones.contains ((encs (a::w)).headD 0)=true
       ·rw[hb] at k2;have hm:b∈ones:=by simpa using k2
        exact ⟨zan2 b hm,zau5 b hm⟩
       ·rw[if_neg k2] at hne;exact absurd rfl hne
     obtain ⟨e1,_⟩:=zadh h2.1 hb hbb.1;have hr:=zafe h2.1;have hlen:=congrArg List.length e1;rw[zacm] at hlen;have ha:a<128:=by
      unfold Sp.long at hlen;by_cases k:a<128
      ·exact k
      ·rw[if_neg k] at hlen;split at hlen
       ·simp at hlen
       ·split at hlen<;>simp at hlen
     have e2:UInt8.ofNat a.toNat=b:=by
      have:encB a=[UInt8.ofNat a.toNat]:=by simp[encB,bytesOf,Sp.enc,ha]
      rw[this] at e1;exact (List.cons.inj e1).1
     have e3:b.toNat=a.toNat:=by rw[← e2,zabs _ (by omega)]
     obtain ⟨_,n1,n2,n3,n4,n5⟩:=hbb;have no:∀ c:UInt8,b≠c→b.toNat≠c.toNat:=fun c hc hh=>hc (UInt8.toNat_inj.1 hh)
     have m1:=no 35 n1;have m2:=no 9 n2;have m3:=no 10 n3;have m4:=no 13 n4;have m5:=no 32 n5;simp only[show (35:UInt8).toNat=35 from rfl,show (9:UInt8).toNat=9 from rfl,show (10:UInt8).toNat=10 from rfl,show (13:UInt8).toNat=13 from rfl,show (32:UInt8).toNat=32 from rfl] at m1 m2 m3 m4 m5;constructor
     ·omega
     ·simp only[Sp.blank,decide_eq_false_iff_not]; omega
  simp only[List.cons_append,skip];rw[if_neg key.1,key.2];rfl
theorem zat7 {w:List Int} {t:Token} (h:whole w t):restR w=[]:=by
 obtain ⟨h1,h2,h3,h4⟩:=h;match w,h1 with
 |a::w,_=>
  obtain ⟨ds,_,q2,q3⟩:=zagn a w h2 (by rw[h3]);have:encs (ds++restR (a::w))=encs ds:=by
   rw[← q2,q3,h3];exact h4.symm
  exact zam4 this
def jr:List (List Int)→List Int
 |[]=>[]
 |[w]=>w
 |w::v::ws=>w++32::jr (v::ws)
end Lift.A1P
namespace Lift.A4
open Go Go.RowKit Lift Go.IntWalk Lift.Fn Lift.A1P
set_option linter.unusedVariables false
set_option linter.unusedSimpArgs false
theorem zasq (c:Int):1≤(encB c).length:=by
 rw[zacm];have:=zadf c;omega
theorem zaqm (c:Bool) (l:List Int):(skip c l).length≤l.length:=by
 obtain ⟨ds,h⟩:=zaa0 l c;have:=congrArg List.length h;rw[List.length_append] at this;omega
noncomputable def T (p:Int) (rs:List Int):(Int×Int)⊕List Token:=toks rs.length p rs
theorem T_nil (p:Int):T p []=.inr []:=rfl
theorem zajk {r:Int} {rs:List Int} (ha:(r::rs).all Sp.isRune=true) (h0:(tokR (r::rs)).2=0):(skip false (restR (r::rs))).all Sp.isRune=true∧(skip false (restR (r::rs))).length≤rs.length:=by
 obtain ⟨ds,h1,h2,_⟩:=zagn r rs ha h0;obtain ⟨es,h3⟩:=zaa0 (restR (r::rs)) false;have h4:r::rs=(ds++es)++skip false (restR (r::rs)):=by rw[List.append_assoc,← h3,← h2]
 refine ⟨zaa9 (ds:=ds++es) (by rw[← h4]; exact ha),?_⟩;have:=congrArg List.length h2;have q:=zaqm false (restR (r::rs));have q2:0<ds.length:=List.length_pos_iff.2 h1;simp only[List.length_cons,List.length_append] at this;omega
theorem zakm (p:Int) (r:Int) (rs:List Int) (ha:(r::rs).all Sp.isRune=true):T p (r::rs)=bif (tokR (r::rs)).2 != 0 then .inl ((tokR (r::rs)).2,p) else
   match T (p+(encs (r::rs)).length-(encs (skip false (restR (r::rs)))).length) (skip false (restR (r::rs))) with
   |.inl e=>.inl e
   |.inr l=>.inr (⟨(tokR (r::rs)).1.kind,(tokR (r::rs)).1.text,(tokR (r::rs)).1.num,p⟩::l):=by
 show toks (rs.length+1) p (r::rs)=_;rw[toks];by_cases h0:(tokR (r::rs)).2=0
 ·obtain ⟨q1,q2⟩:=zajk ha h0;have e:((tokR (r::rs)).2 != 0)=false:=by simp[h0]
  rw[e,cond_false,cond_false];unfold T;rw[zae7 rs.length (skip false (restR (r::rs))).length _ _ q1 q2 (Nat.le_refl _)];all_goals (cases toks (skip false (restR (r::rs))).length (p+(encs (r::rs)).length-(encs (skip false (restR (r::rs)))).length) (skip false (restR (r::rs)))<;>rfl)
 ·have e:((tokR (r::rs)).2 != 0)=true:=by simp[h0]
  rw[e,cond_true,cond_true]
theorem zapo (a b:List Int):((encs (a++b)).length:Int)=(encs a).length+(encs b).length:=by rw[zaaj,List.length_append]; omega
end Lift.A4
namespace Lift.A4
open Go Go.RowKit Lift Go.IntWalk Lift.Fn Lift.A1P
set_option linter.unusedVariables false
set_option linter.unusedSimpArgs false
theorem zaq0 (rs:List Int):(tokR rs).1.kind≠5∧(tokR rs).2≠40:=by
 unfold tokR;cases goesR (rs.headD 0) with
 |true=>
  rw[cond_true];cases Sp.digit (rs.headD 0) with
  |true=>
   rw[cond_true];cases (numS (encs (rs.takeWhile goesR))).2<;>constructor<;>simp
  |false=>
   rw[cond_false];cases words.contains (encs (rs.takeWhile goesR)) with
   |true=>constructor<;>simp
   |false=>
    rw[cond_false];cases decide (16<(rs.takeWhile goesR).length)<;>constructor<;>simp
 |false=>
  rw[cond_false];cases (sgn (encs rs)==[])<;>constructor<;>simp
theorem T_bad:∀ (n:Nat) (rs:List Int) (p:Int) (e:Int×Int),rs.length≤n→rs.all Sp.isRune=true→T p rs=.inl e→e.1≠0∧e.1≠40:=by
 intro n;induction n with
 |zero=>
  intro rs p e hn ha h;have:rs=[]:=List.eq_nil_of_length_eq_zero (by omega);subst this;cases h
 |succ n ih=>
  intro rs p e hn ha h;cases rs with
  |nil=>cases h
  |cons r rs=>
   simp only[List.length_cons] at hn;rw[zakm p r rs ha] at h;by_cases h0:(tokR (r::rs)).2=0
   ·have e1:((tokR (r::rs)).2 != 0)=false:=by simp[h0]
    rw[e1,cond_false] at h;obtain ⟨q1,q2⟩:=zajk ha h0;cases hT:T (p+(encs (r::rs)).length-(encs (skip false (restR (r::rs)))).length) (skip false (restR (r::rs))) with
    |inl e2=>
     rw[hT] at h;simp only[Sum.inl.injEq] at h;rw[← h];exact ih _ _ _ (by omega) q1 hT
    |inr l'=>rw[hT] at h; cases h
   ·have e1:((tokR (r::rs)).2 != 0)=true:=by simp[h0]
    rw[e1,cond_true,Sum.inl.injEq] at h;rw[← h];exact ⟨h0,(zaq0 _).2⟩
theorem T_ok:∀ (n:Nat) (rs:List Int) (p:Int) (l:List Token),rs.length≤n→rs.all Sp.isRune=true→T p rs=.inr l →
  (∀ x∈l,p≤x.at_∧x.at_<p+(encs rs).length∧x.kind≠5∧∃ w t,whole w t∧core x=core t)∧l.Pairwise (fun x y=>x.at_<y.at_):=by
 intro n;induction n with
 |zero=>
  intro rs p l hn ha h;have:rs=[]:=List.eq_nil_of_length_eq_zero (by omega);subst this;rw[T_nil,Sum.inr.injEq] at h;subst h;exact ⟨fun x hx=>(by cases hx),.nil⟩
 |succ n ih=>
  intro rs p l hn ha h;cases rs with
  |nil=>
   rw[T_nil,Sum.inr.injEq] at h;subst h;exact ⟨fun x hx=>(by cases hx),.nil⟩
  |cons r rs=>
   simp only[List.length_cons] at hn;rw[zakm p r rs ha] at h;by_cases h0:(tokR (r::rs)).2=0
   ·have e1:((tokR (r::rs)).2 != 0)=false:=by simp[h0]
    rw[e1,cond_false] at h;obtain ⟨q1,q2⟩:=zajk ha h0;obtain ⟨w,hw,hsp⟩:=alone r rs ha h0;obtain ⟨sep,hsep⟩:=zaa0 (restR (r::rs)) false;have hlen:((encs (r::rs)).length:Int)=(encs w).length+(encs sep).length+(encs (skip false (restR (r::rs)))).length:=by
     have h1:=congrArg (fun l=>((encs l).length:Int)) hsp;have h2:=congrArg (fun l=>((encs l).length:Int)) hsep;rw[zapo] at h1 h2;omega
    have hwl:0<(encs w).length:=by
     have:=zabh w;have:0<w.length:=List.length_pos_iff.2 hw.1;omega
    cases hT:T (p+(encs (r::rs)).length-(encs (skip false (restR (r::rs)))).length) (skip false (restR (r::rs))) with
    |inl e2=>rw[hT] at h; cases h
    |inr l'=>
     rw[hT] at h;simp only[Sum.inr.injEq] at h;obtain ⟨i1,i2⟩:=ih _ _ _ (by omega) q1 hT;subst h;constructor
     ·intro x hx;simp only[List.mem_cons] at hx;rcases hx with rfl|hx
      ·exact ⟨Int.le_refl _,by show p<_; omega,(zaq0 _).1,w,_,hw,rfl⟩
      ·obtain ⟨a1,a2,a3,a4⟩:=i1 x hx;exact ⟨by omega,by omega,a3,a4⟩
     ·refine List.Pairwise.cons (fun x hx=>?_) i2;obtain ⟨a1,a2,a3,a4⟩:=i1 x hx;show p<x.at_;omega
   ·have e1:((tokR (r::rs)).2 != 0)=true:=by simp[h0]
    rw[e1,cond_true] at h;cases h
noncomputable def p0 (rs:List Int):Int:=((encs rs).length:Int)-(encs (skip false rs)).length
theorem zahi {rs:List Int} (ha:rs.all Sp.isRune=true):(skip false rs).all Sp.isRune=true:=by
 obtain ⟨ds,h⟩:=zaa0 rs false;exact zaa9 (ds:=ds) (by rw[← h]; exact ha)
theorem zauq (rs:List Int) (ha:rs.all Sp.isRune=true):toks rs.length (p0 rs) (skip false rs)=T (p0 rs) (skip false rs):=by
 unfold T;exact zae7 _ _ _ _ (zahi ha) (zaqm _ _) (Nat.le_refl _)
theorem zavx (t:List UInt8):(∃ f,qaj t=some ([],f)∧f.code≠0∧f.code≠40) ∨
  (∃ rs l,t=encs rs∧rs.all Sp.isRune=true∧t.length≤4000∧T (p0 rs) (skip false rs)=.inr l∧qaj t=some (l++[⟨5,[],0,(t.length:Int)⟩],⟨0,0,[]⟩)):=by
 rcases zah5 t with ⟨h1,h2⟩|⟨h0,rs,rest,_,_,_,_,h1,h2⟩|⟨h0,rs,rfl,ha,h1,h2⟩
 ·refine .inl ⟨_,zaeg t (by rw[h2]; decide),?_,?_⟩<;>· rw[h2]; decide
 ·refine .inl ⟨_,zaeg t (by rw[h2]; show (11:Int)≠0; decide),?_,?_⟩
  ·rw[h2]; show (11:Int)≠0; decide
  ·rw[h2]; show (11:Int)≠40; decide
 ·have h:=zakv rs ha h0;have e:=zauq rs ha;unfold p0 at e;rw[e] at h;cases hT:T (((encs rs).length:Int)-(encs (skip false rs)).length) (skip false rs) with
  |inl e2=>
   rw[hT] at h;obtain ⟨b1,b2⟩:=T_bad _ _ _ _ (Nat.le_refl _) (zahi ha) hT;exact .inl ⟨_,h,b1,b2⟩
  |inr l=>
   rw[hT] at h;exact .inr ⟨rs,l,rfl,ha,h0,hT,h⟩
end Lift.A4
namespace Lift.A4
open Go Go.RowKit Lift Go.IntWalk Lift.Fn Lift.A1P
set_option linter.unusedVariables false
set_option linter.unusedSimpArgs false
theorem zaow {c:Int} (hc:goesR c=false) {w r:List Int} (h:w.takeWhile goesR=w):(w++c::r).takeWhile goesR=w:=by
 have hall:∀ x∈w,goesR x=true:=fun x hx=>by
  rw[← h] at hx;exact List.all_eq_true.1 (List.all_takeWhile) x hx
 rw[List.takeWhile_append_of_pos hall,List.takeWhile_cons,hc];simp
theorem zavo {c:Int} (hc:goesR c=false) {w r:List Int} (h:w.takeWhile goesR=w):(w++c::r).dropWhile goesR=c::r:=by
 have h1:=zaow (r:=r) hc h;have h2:=List.takeWhile_append_dropWhile (p:=goesR) (l:=w++c::r);rw[h1] at h2;exact List.append_cancel_left h2
theorem zaxh {c:Int} {w:List Int} {r:List Int} (h0:encs w≠[]) (h:sgn (encs w)=encs w) (hc:∀ b∈ones,encs w=[b]→twos.contains [b,(encB c).headD 0]=false):sgn (encs (w++c::r))=encs w:=by
 rw[zaaj,zaax];unfold sgn at h;by_cases h1:1<(encs w).length∧twos.contains ((encs w).take 2)=true
 ·rw[if_pos h1] at h;have hl:(encs w).length=2:=by
   have:=congrArg List.length h;rw[List.length_take] at this;omega
  have ht:(encs w++(encB c++encs r)).take 2=encs w:=by rw[← hl,List.take_left]
  unfold sgn;rw[if_pos ⟨by rw[List.length_append]; omega,by rw[ht]; rw[h] at h1; exact h1.2⟩,ht]
 ·rw[if_neg h1] at h;by_cases h2:ones.contains ((encs w).headD 0)=true
  ·rw[if_pos h2] at h;match hw:encs w,h0 with
   |b::t,_=>
    rw[hw] at h h2 hc;have ht:t=[]:=by
     have:=congrArg List.length h;simp only[List.take_succ_cons,List.take_zero,List.length_cons,List.length_nil] at this;exact List.eq_nil_of_length_eq_zero (by omega)
    subst ht;have hb:b∈ones:=by simpa using h2
    have h3:=hc b hb rfl;have h4:=zasq c;cases hk:encB c with
    |nil=>rw[hk] at h4; simp at h4
    |cons k ks=>
     rw[hk] at h3;unfold sgn;refine (if_neg fun hh=>?_).trans ((if_pos ?_).trans rfl)
     ·have h9:twos.contains [b,k]=true:=hh.2;rw[show ([b,(k::ks).headD 0]:List UInt8)=[b,k] from rfl,h9] at h3;cases h3
     ·exact h2
  ·rw[if_neg h2] at h;exact absurd h.symm h0
theorem zaxz {w:List Int} {t:Token} (h:whole w t) (c:Int) (r:List Int) (hg:goesR (w.headD 0)=true→goesR c=false) (hs:goesR (w.headD 0)=false→∀ b∈ones,encs w=[b]→twos.contains [b,(encB c).headD 0]=false) :
  tokR (w++c::r)=(t,0)∧restR (w++c::r)=c::r:=by
 obtain ⟨h1,h2,h3,h4⟩:=h;have hh:=zav7 h1 (c::r);cases hg2:goesR (w.headD 0) with
 |true=>
  have hc:=hg hg2;have hw:=zane ⟨h1,h2,h3,h4⟩ hg2;have ht:=zaow (r:=r) hc hw;constructor
  ·rw[← h3];unfold tokR;rw[hh,hg2,ht,hw];rfl
  ·unfold restR;rw[hh,hg2,cond_true,zavo hc hw]
 |false=>
  have h0:encs w≠[]:=by
   match w,h1 with
   |a::w,_=>obtain ⟨b,u,hb⟩:=zaj2 a w; rw[hb]; exact List.cons_ne_nil _ _
  have hsg:sgn (encs w)=encs w:=by
   have h5:=h3;unfold tokR at h5;rw[hg2,cond_false] at h5;cases hc:(sgn (encs w)==[]) with
   |true=>rw[hc] at h5; simp at h5
   |false=>
    rw[hc,cond_false] at h5;have:=congrArg (fun x=>x.1.text) h5;simp only at this;rw[this,h4]
  have ha:=zaxh (c:=c) (r:=r) h0 hsg (hs hg2);constructor
  ·rw[← h3];unfold tokR;rw[hh,hg2,ha,hsg];rfl
  ·unfold restR;rw[hh,hg2,cond_false,ha];have hlen:(encs w).length=w.length:=by
    match w,h1 with
    |a::w,_=>
     obtain ⟨q1,q2⟩:=zahp a w h2 (by rw[hsg]; exact h0);rw[hsg] at q1;have q3:encs ((a::w).take (encs (a::w)).length++(a::w).drop (encs (a::w)).length)=encs ((a::w).take (encs (a::w)).length):=by rw[List.take_append_drop,q1]
     have q5:=zabh (a::w);have q6:(sgn (encs (a::w))).length≤2:=by
      unfold sgn;split
      ·rw[List.length_take]; omega
      ·split
       ·rw[List.length_take]; omega
       ·simp
     rw[hsg] at q6;have q7:=zabh w;have q8:(encs (a::w)).length=(encB a).length+(encs w).length:=by rw[zaax,List.length_append]
     have q9:=zacm a;have q10:=zadf a;by_cases hz:w.length=0
     ·have hwn:w=[]:=List.eq_nil_of_length_eq_zero hz;subst hwn;obtain ⟨b,u,hb⟩:=zaj2 a [];simp only[List.all_cons,Bool.and_eq_true] at h2;have hbn:b.toNat<128:=by
       unfold sgn at hsg;by_cases k1:1<(encs [a]).length∧twos.contains ((encs [a]).take 2)=true
       ·have hm:(encs [a]).take 2∈twos:=by simpa using k1.2
        have:=(zaij _ hm).2;rw[hb] at this;cases u with
        |nil=>simp only[List.take_succ_cons,List.take_nil,List.all_cons,List.all_nil,Bool.and_true,decide_eq_true_eq] at this; exact this
        |cons c u=>simp only[List.take_succ_cons,List.take_zero,List.all_cons,Bool.and_eq_true,decide_eq_true_eq] at this; exact this.1
       ·rw[if_neg k1] at hsg;by_cases k2:ones.contains ((encs [a]).headD 0)=true
        ·rw[hb] at k2;exact zan2 b (by simpa using k2)
        ·rw[if_neg k2] at hsg;exact absurd hsg.symm h0
      obtain ⟨e1,_⟩:=zadh h2.1 hb hbn;rw[zaax,e1];rfl
     ·simp only[List.length_cons];omega
   rw[hlen,List.drop_left]
theorem zax6:∀ (n:Nat) (rs:List Int) (p q:Int) (l:List Token),rs.length≤n→rs.all Sp.isRune=true→T p rs=.inr l→∃ m,T q rs=.inr m∧m.map core=l.map core:=by
 intro n;induction n with
 |zero=>
  intro rs p q l hn ha h;have:rs=[]:=List.eq_nil_of_length_eq_zero (by omega);subst this;rw[T_nil,Sum.inr.injEq] at h;subst h;exact ⟨[],T_nil q,rfl⟩
 |succ n ih=>
  intro rs p q l hn ha h;cases rs with
  |nil=>
   rw[T_nil,Sum.inr.injEq] at h;subst h;exact ⟨[],T_nil q,rfl⟩
  |cons r rs=>
   simp only[List.length_cons] at hn;rw[zakm p r rs ha] at h;rw[zakm q r rs ha];by_cases h0:(tokR (r::rs)).2=0
   ·have e1:((tokR (r::rs)).2 != 0)=false:=by simp[h0]
    rw[e1,cond_false] at h ⊢;obtain ⟨q1,q2⟩:=zajk ha h0;cases hT:T (p+(encs (r::rs)).length-(encs (skip false (restR (r::rs)))).length) (skip false (restR (r::rs))) with
    |inl e2=>rw[hT] at h; cases h
    |inr l'=>
     rw[hT] at h;simp only[Sum.inr.injEq] at h;obtain ⟨m,i1,i2⟩:=ih _ _ (q+(encs (r::rs)).length-(encs (skip false (restR (r::rs)))).length) _ (by omega) q1 hT;refine ⟨_,by rw[i1],?_⟩;subst h;simp only[List.map_cons,i2];rfl
   ·have e1:((tokR (r::rs)).2 != 0)=true:=by simp[h0]
    rw[e1,cond_true] at h;cases h
theorem zaw9 {rs:List Int} (ha:rs.all Sp.isRune=true) (h0:(encs rs).length≤4000) {p:Int} {l:List Token} (hT:T p (skip false rs)=.inr l):∃ m,qaj (encs rs)=some (m++[⟨5,[],0,((encs rs).length:Int)⟩],⟨0,0,[]⟩)∧m.map core=l.map core∧∀ t∈m,t.kind≠5:=by
 obtain ⟨m,h1,h2⟩:=zax6 _ _ p (p0 rs) l (Nat.le_refl _) (zahi ha) hT;have h:=zakv rs ha h0;have e:=zauq rs ha;unfold p0 at e h1;rw[e,h1] at h;exact ⟨m,h,h2,fun t ht=>((T_ok _ _ _ _ (Nat.le_refl _) (zahi ha) h1).1 t ht).2.2.1⟩
end Lift.A4
namespace Lift.A4
open Go Go.RowKit Lift Go.IntWalk Lift.Fn Lift.A1P Lift.A3
set_option linter.unusedVariables false
set_option linter.unusedSimpArgs false
def isDig (c:UInt8):Bool:=decide (48≤c.toNat)&&decide (c.toNat≤57)
def valF (a:Nat) (t:List UInt8):Nat:=t.foldl (fun a c=>a*10+(c.toNat-48)) a
def canon (t:List UInt8):Bool:=t.all isDig&&match t with
 |[]=>false
 |[_]=>true
 |c::_::_=>!(c==48)
theorem zaev {c:UInt8}:isDig c=true↔48≤c.toNat∧c.toNat≤57:=by simp[isDig]
theorem zauc (a:Nat) (t:List UInt8) (c:UInt8):valF a (t++[c])=valF a t*10+(c.toNat-48):=by simp[valF]
theorem zasu:∀ (t:List UInt8) (a:Nat),a≤valF a t
 |[],a=>Nat.le_refl _
 |c::t,a=>by
  have:=zasu t (a*10+(c.toNat-48));show a≤valF (a*10+(c.toNat-48)) t;omega
theorem zasx {u:Nat} (h:10≤u):Lib.decDigits u=Lib.decDigits (u / 10)++[UInt8.ofNat (48+u % 10)]:=by
 conv=>lhs; rw[Lib.decDigits]
 rw[dif_neg (by omega)]
theorem zai4:∀ (n:Nat),valF 0 (Lib.decDigits n)=n∧(Lib.decDigits n).all isDig=true∧Lib.decDigits n≠[]∧((Lib.decDigits n).head? = some 48→n=0):=by
 intro n;induction n using Nat.strongRecOn with
 |_ n ih=>
  by_cases h:n<10
  ·rw[Lib.decDigits_one h];have ht:(UInt8.ofNat (48+n)).toNat=48+n:=by rw[UInt8.toNat_ofNat']; omega
   refine ⟨by simp only[valF,List.foldl_cons,List.foldl_nil,ht]; omega,?_,by simp,fun e=>?_⟩
   ·simp only[List.all_cons,List.all_nil,Bool.and_true];exact zaev.2 (by omega)
   ·have e':UInt8.ofNat (48+n)=48:=by simpa using e
    have:=congrArg UInt8.toNat e';rw[ht] at this;have h48:(48:UInt8).toNat=48:=rfl;omega
  ·obtain ⟨i1,i2,i3,i4⟩:=ih (n / 10) (by omega);have ht:(UInt8.ofNat (48+n % 10)).toNat=48+n % 10:=by rw[UInt8.toNat_ofNat']; omega
   rw[zasx (by omega)];refine ⟨?_,?_,by simp,fun e=>?_⟩
   ·rw[zauc,i1,ht]; omega
   ·rw[List.all_append,i2,Bool.true_and];simp only[List.all_cons,List.all_nil,Bool.and_true];exact zaev.2 (by omega)
   ·rw[List.head?_append] at e;cases hq:(Lib.decDigits (n / 10)).head? with
    |none=>exact absurd (List.head?_eq_none_iff.1 hq) i3
    |some c=>
     rw[hq] at e;have:c=48:=by simpa using e
     subst this;have:=i4 hq;omega
theorem zauh (n:Nat):canon (Lib.decDigits n)=true:=by
 obtain ⟨h1,h2,h3,h4⟩:=zai4 n;unfold canon;rw[h2,Bool.true_and];match hq:Lib.decDigits n,h3,h4 with
 |[],h3,_=>exact absurd rfl h3
 |[c],_,_=>rfl
 |c::d::r,_,h4=>
  simp only;by_cases e:c=48
  ·subst e;have:=h4 rfl;subst this;rw[Lib.decDigits_one (by decide)] at hq;simp at hq
  ·simpa using e
theorem zaok:∀ (l:List UInt8) (acc:Nat),l.all isDig=true→valF acc l≤2147483647→Lib.parseUint10 acc l=.ok (valF acc l)
 |[],acc,_,_=>rfl
 |c::l,acc,ha,hv=>by
  rw[List.all_cons,Bool.and_eq_true] at ha;have hc:=zaev.1 ha.1;have hv':valF (acc*10+(c.toNat-48)) l≤2147483647:=hv;have hg:=zasu l (acc*10+(c.toNat-48));show (if 48≤c.toNat∧c.toNat≤57 then _ else _)=_;rw[if_pos hc,if_neg (by omega),if_neg (by omega),zaok l _ ha.2 hv'];rfl
theorem zaw4 {n:Nat} (h:n≤2147483647):Lib.atoiAll (Lib.decDigits n)=.ok (n:Int):=by
 obtain ⟨h1,h2,h3,_⟩:=zai4 n;have hp:Lib.parseMag (Lib.decDigits n)=.ok n:=by
  unfold Lib.parseMag;rw[if_neg h3,zaok _ 0 h2 (by omega),h1]
 match hq:Lib.decDigits n,h3,h2,hp with
 |[],h3,_,_=>exact absurd rfl h3
 |c::r,_,h2,hp=>
  rw[List.all_cons,Bool.and_eq_true] at h2;have hc:=zaev.1 h2.1;rw[Lib.atoiAll_plain c r (by omega) (by omega),hp];unfold Lib.signless;simp only;rw[if_neg (by omega)]
def asc (l:List UInt8):List Int:=l.map fun b=>((b.toNat:Nat):Int)
theorem zav6 {b:UInt8} (h:b.toNat<128):encB ((b.toNat:Nat):Int)=[b]:=by
 unfold encB Sp.enc;rw[if_pos (by omega)];show [UInt8.ofNat ((b.toNat:Nat):Int).toNat]=[b];rw[Int.toNat_natCast];simp
theorem zabq:∀ (l:List UInt8),(∀ b∈l,b.toNat<128)→encs (asc l)=l
 |[],_=>rfl
 |b::l,h=>by
  show encs (((b.toNat:Nat):Int)::asc l)=b::l;rw[zaax,zav6 (h b List.mem_cons_self),zabq l (fun c hc=>h c (List.mem_cons_of_mem _ hc))];rfl
theorem zajp {l:List UInt8} (h:∀ b∈l,b.toNat<128):(asc l).all Sp.isRune=true:=by
 rw[List.all_eq_true];intro r hr;obtain ⟨b,hb,rfl⟩:=List.mem_map.1 hr;have:=h b hb;simp only[Sp.isRune,decide_eq_true_eq];omega
theorem zaka {p:Int→Bool}:∀ {l:List Int},(∀ x∈l,p x=true)→l.takeWhile p=l
 |[],_=>rfl
 |a::l,h=>by rw[List.takeWhile_cons,h a List.mem_cons_self,zaka (fun x hx=>h x (List.mem_cons_of_mem _ hx))]; rfl
theorem zaqh {p:UInt8→Bool}:∀ {l:List UInt8},(∀ x∈l,p x=true)→l.dropWhile p=[]
 |[],_=>rfl
 |a::l,h=>by rw[List.dropWhile_cons,h a List.mem_cons_self,if_pos rfl,zaqh (fun x hx=>h x (List.mem_cons_of_mem _ hx))]
theorem zaw5 (l:List UInt8) (h:∀ b∈l,tens.contains b=true):Lib.trimS l tens=[]:=by
 have:Lib.trimRightS l tens=[]:=by
  unfold Lib.trimRightS;rw[zaqh (fun x hx=>h x (List.mem_reverse.1 hx))];rfl
 unfold Lib.trimS;rw[this];rfl
theorem tens_all:∀ i:Fin 256,isDig (UInt8.ofNat i.val)=tens.contains (UInt8.ofNat i.val):=by decide +kernel
theorem tens_dig (b:UInt8):tens.contains b=isDig b:=by
 have:=tens_all ⟨b.toNat,b.toNat_lt⟩;simpa using this.symm
theorem zawb {n:Nat} (h:n≤2147483647):numS (Lib.decDigits n)=((n:Int),true):=by
 obtain ⟨h1,h2,h3,h4⟩:=zai4 n;unfold numS;rw[if_neg,if_neg]
 ·unfold zaa3;rw[zaw4 h];dsimp only;rw[if_neg (by simp),decide_eq_true (by omega)]
 ·intro hh;exact hh (zaw5 _ (fun b hb=>by rw[tens_dig]; exact List.all_eq_true.1 h2 b hb))
 ·rintro ⟨g1,g2⟩
  have hc:=zauh n;unfold canon at hc;match hq:Lib.decDigits n,h3 with
  |[c],_=>rw[hq] at g1; simp at g1
  |c::d::r,_=>
   rw[hq] at g2 hc;rw[Bool.and_eq_true] at hc;have:c=48:=by
    have:c.toNat=48:=g2;exact UInt8.toNat_inj.1 this
   subst this;have:=hc.2;simp at this
theorem zauo {n:Nat} (h:n≤2147483647):whole (asc (Lib.decDigits n)) ⟨2,Lib.decDigits n,n,0⟩:=by
 obtain ⟨h1,h2,h3,h4⟩:=zai4 n;have hd:∀ b∈Lib.decDigits n,48≤b.toNat∧b.toNat≤57:=fun b hb=>zaev.1 (List.all_eq_true.1 h2 b hb)
 have ha:∀ b∈Lib.decDigits n,b.toNat<128:=fun b hb=>by have:=hd b hb; omega
 have hg:∀ x∈asc (Lib.decDigits n),Sp.digit x=true:=by
  intro x hx;obtain ⟨b,hb,rfl⟩:=List.mem_map.1 hx;have:=hd b hb;simp only[Sp.digit,decide_eq_true_eq];omega
 have hg2:∀ x∈asc (Lib.decDigits n),goesR x=true:=fun x hx=>by unfold goesR; rw[hg x hx,Bool.or_true]
 have hne:asc (Lib.decDigits n)≠[]:=by
  intro e;exact h3 (List.map_eq_nil_iff.1 e)
 have hh:(asc (Lib.decDigits n)).headD 0∈asc (Lib.decDigits n):=by
  match asc (Lib.decDigits n),hne with
  |a::l,_=>exact List.mem_cons_self
 refine ⟨hne,zajp ha,?_,(zabq _ ha).symm⟩;unfold tokR;rw[hg2 _ hh,hg _ hh,zaka hg2,zabq _ ha,zawb h];rfl
def brk (w r:List Int):Prop:=match r with
 |[]=>True
 |c::_=>(goesR (w.headD 0)=true→goesR c=false)∧(goesR (w.headD 0)=false→∀ b∈ones,encs w=[b]→twos.contains [b,(encB c).headD 0]=false)
inductive LX:List Int→List Tk→Prop
 |nil:LX [] []
 |sp {c:Int} {r:List Int} {l:List Tk}:Sp.blank c=true→LX r l→LX (c::r) l
 |tk {w r:List Int} {t:Token} {l:List Tk}:whole w t→brk w r→LX r l→LX (w++r) (core t::l)
theorem LX.rune {rs:List Int} {l:List Tk} (h:LX rs l):rs.all Sp.isRune=true:=by
 induction h with
 |nil=>rfl
 |sp hb _ ih=>
  rw[List.all_cons,ih,Bool.and_true];simp only[Sp.blank,decide_eq_true_eq] at hb;simp only[Sp.isRune,decide_eq_true_eq];omega
 |tk hw _ _ ih=>rw[List.all_append,hw.2.1,ih]; rfl
theorem LX.toks {rs:List Int} {l:List Tk} (h:LX rs l) (p:Int):∃ m,T p (skip false rs)=.inr m∧m.map core=l:=by
 induction h generalizing p with
 |nil=>exact ⟨[],T_nil p,rfl⟩
 |@sp c r l hb hr ih=>
  have:skip false (c::r)=skip false r:=by
   simp only[skip];by_cases h35:c=35
   ·subst h35; exact absurd hb (by decide)
   ·rw[if_neg h35,if_pos hb]
  rw[this];exact ih p
 |@tk w r t l hw hb hr ih=>
  rw[zaxp hw];have hall:(w++r).all Sp.isRune=true:=by rw[List.all_append,hw.2.1,hr.rune]; rfl
  have key:tokR (w++r)=(t,0)∧restR (w++r)=r:=by
   cases r with
   |nil=>rw[List.append_nil]; exact ⟨hw.2.2.1,zat7 hw⟩
   |cons c r=>exact zaxz hw c r hb.1 hb.2
  obtain ⟨a,w',rfl⟩:∃ a w',w=a::w':=List.exists_cons_of_ne_nil hw.1;rw[List.cons_append] at key hall ⊢;rw[zakm p a (w'++r) hall,key.1,key.2];obtain ⟨m,h1,h2⟩:=ih (p+((encs (a::(w'++r))).length:Int)-(encs (skip false r)).length);refine ⟨⟨t.kind,t.text,t.num,p⟩::m,?_,?_⟩
  ·rw[h1]; rfl
  ·rw[List.map_cons,h2]; rfl
def LB (s:List UInt8) (l:List Tk):Prop:=∃ rs,encs rs=s∧LX rs l
theorem LB.lex {s:List UInt8} {l:List Tk} (h:LB s l) (hl:s.length≤4000):∃ m e,qaj s=some (m++[e],⟨0,0,[]⟩)∧m.map core=l:=by
 obtain ⟨rs,rfl,h⟩:=h;obtain ⟨m,h1,h2⟩:=h.toks 0;obtain ⟨k,h3,h4,_⟩:=zaw9 h.rune hl h1;exact ⟨k,_,h3,by rw[h4,h2]⟩
theorem LB.nil:LB [] []:=⟨[],rfl,.nil⟩
theorem LB.sp {s:List UInt8} {l:List Tk} (h:LB s l):LB (32::s) l:=by
 obtain ⟨rs,rfl,h⟩:=h;exact ⟨32::rs,by rw[zaax]; rfl,.sp (by decide) h⟩
theorem LB.tab {s:List UInt8} {l:List Tk} (h:LB s l):∀ d:Nat,LB (Lib.repeatL [32,32] d++s) l
 |0=>h
 |d+1=>(LB.tab h d).sp.sp
def stop (s:List UInt8):Prop:=∃ b∈[(32:UInt8),59,41,10],∃ r,s=b::r
theorem zaug {b:UInt8} (hb:b∈[(32:UInt8),59,41,10]) {c:Int} {r:List Int} {s:List UInt8} (hc:Sp.isRune c=true) (h:encs (c::r)=b::s):goesR c=false:=by
 have hlt:b.toNat<128:=by
  simp only[List.mem_cons,List.not_mem_nil,or_false] at hb;rcases hb with rfl|rfl|rfl|rfl<;>decide
 obtain ⟨h1,_⟩:=zadh hc h hlt;have h2:c=((b.toNat:Nat):Int):=by
  have hc':=hc;simp only[Sp.isRune,decide_eq_true_eq] at hc';have h3:=zacm c;rw[h1] at h3;have h4:(Sp.long c).toNat=1:=by simpa using h3.symm
  have h5:c<128:=by
   unfold Sp.long at h4;split at h4
   ·assumption
   ·split at h4
    ·exact absurd h4 (by decide)
    ·split at h4<;>exact absurd h4 (by decide)
  have h6:encB c=[UInt8.ofNat c.toNat]:=by unfold encB Sp.enc; rw[if_pos h5]; rfl
  rw[h6] at h1;have h7:=congrArg (fun l=>(l.headD 0).toNat) h1;simp only[List.headD_cons,UInt8.toNat_ofNat'] at h7;omega
 rw[h2];simp only[List.mem_cons,List.not_mem_nil,or_false] at hb;rcases hb with rfl|rfl|rfl|rfl<;>decide
theorem LB.goes {w:List Int} {t:Token} (hw:whole w t) (hg:goesR (w.headD 0)=true) {s:List UInt8} {l:List Tk} (hs:stop s) (h:LB s l):LB (encs w++s) (core t::l):=by
 obtain ⟨rs,rfl,h⟩:=h;obtain ⟨b,hb,r,hr⟩:=hs;refine ⟨w++rs,zaaj _ _,.tk hw ?_ h⟩;have ha:=h.rune;cases rs with
 |nil=>trivial
 |cons c rs=>
  rw[List.all_cons,Bool.and_eq_true] at ha;exact ⟨fun _=>zaug hb ha.1 hr,fun hh=>by rw[hg] at hh; cases hh⟩
theorem LB.num {n:Nat} (hn:n≤2147483647) {s:List UInt8} {l:List Tk} (hs:stop s) (h:LB s l):LB (Lib.decDigits n++s) ((2,Lib.decDigits n,(n:Int))::l):=by
 have hw:=zauo hn;have hg:goesR ((asc (Lib.decDigits n)).headD 0)=true:=by
  obtain ⟨_,h2,h3,_⟩:=zai4 n;match hq:Lib.decDigits n,h3 with
  |b::r,_=>
   rw[hq,List.all_cons,Bool.and_eq_true] at h2;have:=zaev.1 h2.1;show goesR ((b.toNat:Nat):Int)=true;unfold goesR Sp.digit;rw[decide_eq_true (by omega),Bool.or_true]
 have:=LB.goes hw hg hs h;rwa [← hw.2.2.2] at this
theorem LB.sign {w:List Int} {t:Token} (hw:whole w t) (hg:goesR (w.headD 0)=false) (ho:∀ b∈ones,encs w=[b]→∀ c∈twos,c.headD 0≠b) {s:List UInt8} {l:List Tk} (h:LB s l):LB (encs w++s) (core t::l):=by
 obtain ⟨rs,rfl,h⟩:=h;refine ⟨w++rs,zaaj _ _,.tk hw ?_ h⟩;cases rs with
 |nil=>trivial
 |cons c rs=>
  refine ⟨fun hh=>(by rw[hg] at hh; cases hh),fun _ b hb e=>?_⟩;cases hc:twos.contains [b,(encB c).headD 0] with
  |false=>rfl
  |true=>
   exfalso;exact ho b hb e [b,(encB c).headD 0] (by simpa using hc) rfl
theorem LB.signN {w:List Int} {t:Token} (hw:whole w t) (hg:goesR (w.headD 0)=false) {s:List UInt8} {l:List Tk} (ho:∀ b∈ones,encs w=[b]→∀ c∈twos,c≠[b,s.headD 0]) (h:LB s l):LB (encs w++s) (core t::l):=by
 obtain ⟨rs,rfl,h⟩:=h;refine ⟨w++rs,zaaj _ _,.tk hw ?_ h⟩;cases rs with
 |nil=>trivial
 |cons c rs=>
  refine ⟨fun hh=>(by rw[hg] at hh; cases hh),fun _ b hb e=>?_⟩;cases hc:twos.contains [b,(encB c).headD 0] with
  |false=>rfl
  |true=>
   exfalso;have hm:[b,(encB c).headD 0]∈twos:=by simpa using hc
   refine ho b hb e _ hm ?_;rw[zaax];have:=zasq c;cases hk:encB c with
   |nil=>rw[hk] at this; simp at this
   |cons k ks=>rfl
end Lift.A4
namespace Lift.A4
open Go Go.RowKit Lift Go.IntWalk Lift.Fn Lift.A1P Lift.A3
set_option linter.unusedVariables false
set_option linter.unusedSimpArgs false
theorem zaq6 {w:List Int} {u:Token} (h:whole w u) (hk:u.kind=1):core u=(1,encs w,0)∧w.length≤16∧goesR (w.headD 0)=true:=by
 have h3:=h.2.2.1;unfold tokR at h3;cases hg:goesR (w.headD 0) with
 |false=>
  rw[hg,cond_false] at h3;cases hs:(sgn (encs w)==[]) with
  |true=>rw[hs] at h3; simp at h3
  |false=>
   rw[hs] at h3;simp only[cond_false,Prod.mk.injEq,and_true] at h3;rw[← h3] at hk;exact absurd hk (by simp)
 |true=>
  rw[zane h hg,hg,cond_true] at h3;cases hd:Sp.digit (w.headD 0) with
  |true=>
   rw[hd,cond_true] at h3;cases hn:(numS (encs w)).2 with
   |true=>
    rw[hn] at h3;simp only[cond_true,Prod.mk.injEq,and_true] at h3;rw[← h3] at hk;exact absurd hk (by simp)
   |false=>rw[hn] at h3; simp at h3
  |false=>
   rw[hd,cond_false] at h3;cases hw:words.contains (encs w) with
   |true=>
    rw[hw] at h3;simp only[cond_true,Prod.mk.injEq,and_true] at h3;rw[← h3] at hk;exact absurd hk (by simp)
   |false=>
    rw[hw,cond_false] at h3;by_cases hl:16<w.length
    ·rw[decide_eq_true hl] at h3; simp at h3
    ·rw[decide_eq_false hl] at h3;simp only[cond_false,Prod.mk.injEq,and_true] at h3;rw[← h3];exact ⟨rfl,by omega,rfl⟩
theorem zaxl {w:List Int} {u:Token} (h:whole w u) (hk:u.kind=1):isNm (encs w)=true:=by
 obtain ⟨h1,h2,h3⟩:=zaq6 h hk;have h64:=zasy w;have hx:LB (encs w) [core u]:=⟨w,rfl,by have:=LX.tk (r:=[]) h trivial .nil; rwa [List.append_nil] at this⟩;obtain ⟨m,e,l1,l2⟩:=hx.lex (by omega);obtain ⟨a,rfl⟩:∃ a,m=[a]:=by
  have:=congrArg List.length l2;rw[List.length_map] at this;exact List.length_eq_one_iff.1 this
 have hc:core a=(1,encs w,0):=by
  rw[← h1];simpa using l2
 unfold isNm;rw[qbI,zaaa];unfold qbI_f;rw[decide_eq_false (by omega),cond_false,l1];have e1:a.kind=1:=congrArg (·.1) hc;have e2:a.text=encs w:=congrArg (·.2.1) hc;simp[e1,e2]
theorem zawt {t:List UInt8} (h:isNm t=true):∃ w u,whole w u∧core u=(1,t,0)∧encs w=t∧goesR (w.headD 0)=true:=by
 have h1:=zaex t;rw[h] at h1;rw[qbI,zaaa] at h1;unfold qbI_f at h1;by_cases hl:((List.length t:Nat):Int)>64
 ·rw[decide_eq_true hl] at h1; cases h1
 rw[decide_eq_false hl,cond_false] at h1;rcases zavx t with ⟨f,k1,k2,_⟩|⟨rs,l,rfl,hra,_,hT,k1⟩
 ·rw[k1] at h1;have e:(f.code==0)=false:=by simp[k2]
  simp[e] at h1
 rw[k1] at h1;match l with
 |[]=>simp at h1
 |a::b::l=>
  have:((((a::b::l++[⟨5,[],0,((encs rs).length:Int)⟩]:List Token).length:Nat):Int)==2)=false:=by
   rw[beq_eq_false_iff_ne]; simp only[List.length_cons,List.length_append]; omega
  rw[Option.bind_some] at h1;dsimp only at h1;rw[this] at h1;simp at h1
 |[a]=>
  simp only[Option.bind_some,List.singleton_append,List.length_cons,List.length_nil,List.getElem?_cons_zero] at h1;have hk:a.kind=1:=by
   cases hh:(a.kind==1) with
   |true=>simpa using hh
   |false=>rw[hh] at h1; simp at h1
  have ht:a.text=encs rs:=by simpa [hk] using h1
  obtain ⟨w,u,hw,hc⟩:=((T_ok _ _ _ _ (Nat.le_refl _) (zahi hra) hT).1 a List.mem_cons_self).2.2.2;have e1:u.kind=1:=by rw[← hk]; exact (congrArg (·.1) hc).symm
  have e2:u.text=encs rs:=by rw[← ht]; exact (congrArg (·.2.1) hc).symm
  obtain ⟨g1,g2,g3⟩:=zaq6 hw e1;have e3:encs w=encs rs:=by rw[← e2]; exact hw.2.2.2.symm
  exact ⟨w,u,hw,by rw[g1,e3],e3,g3⟩
theorem LB.name {t:List UInt8} (ht:isNm t=true) {s:List UInt8} {l:List Tk} (hs:stop s) (h:LB s l):LB (t++s) ((1,t,0)::l):=by
 obtain ⟨w,u,h1,h2,rfl,h3⟩:=zawt ht;have:=LB.goes h1 h3 hs h;rwa [h2] at this
end Lift.A4
namespace Lift.A4
open Go Go.RowKit Lift Go.IntWalk Lift.Fn Lift.A1P Lift.A3
set_option linter.unusedVariables false
set_option linter.unusedSimpArgs false
abbrev sg (t:List UInt8):Tk:=(3,t,0)
abbrev wd (t:List UInt8):Tk:=(4,t,0)
theorem zagr (t:List UInt8) (h0:t≠[]) (h1:∀ b∈t,b.toNat<128) (h2:goesR ((asc t).headD 0)=false) (h3:sgn t=t):whole (asc t) ⟨3,t,0,0⟩:=by
 refine ⟨fun e=>h0 (List.map_eq_nil_iff.1 e),zajp h1,?_,(zabq _ h1).symm⟩;unfold tokR;rw[h2,cond_false,zabq _ h1,h3];have:(t==[])=false:=by simpa using h0
 rw[this];rfl
theorem zatq (t:List UInt8) (h0:t≠[]) (h1:∀ b∈t,b.toNat<128) (h2:∀ x∈asc t,goesR x=true) (h3:Sp.digit ((asc t).headD 0)=false) (h4:words.contains t=true):whole (asc t) ⟨4,t,0,0⟩∧goesR ((asc t).headD 0)=true:=by
 have hne:asc t≠[]:=fun e=>h0 (List.map_eq_nil_iff.1 e)
 have hh:(asc t).headD 0∈asc t:=by
  match asc t,hne with
  |a::l,_=>exact List.mem_cons_self
 refine ⟨⟨hne,zajp h1,?_,(zabq _ h1).symm⟩,h2 _ hh⟩;unfold tokR;rw[h2 _ hh,h3,zaka h2,zabq _ h1,h4];rfl
theorem zauu:∀ c∈twos,∀ b∈ones,c≠[b,32]:=by decide +kernel
theorem LB.op {k:Int} (h5:5≤k) (h17:k≤17) {s:List UInt8} {l:List Tk} (h:LB s l):LB (sgO k++32::s) (sg (sgO k)::l):=by
 have go:∀ t:List UInt8,t≠[]→(∀ b∈t,b.toNat<128)→goesR ((asc t).headD 0)=false→sgn t=t→LB (t++32::s) (sg t::l):=by
  intro t g0 g1 g2 g3;have:=LB.signN (zagr t g0 g1 g2 g3) g2 (s:=32::s) (fun b hb _ c hc=>zauu c hc b hb) h.sp;rwa [zabq _ g1] at this
 have:k=5∨k=6∨k=7∨k=8∨k=9∨k=10∨k=11∨k=12∨k=13∨k=14∨k=15∨k=16∨k=17:=by omega
 rcases this with rfl|rfl|rfl|rfl|rfl|rfl|rfl|rfl|rfl|rfl|rfl|rfl|rfl<;>exact go _ (by decide) (by decide) (by decide +kernel) (by decide +kernel)
theorem LB.one (b:UInt8) (g1:b.toNat<128) (g2:goesR ((b.toNat:Nat):Int)=false) (g3:sgn [b]=[b]) (g4:∀ c∈twos,c.headD 0≠b) {s:List UInt8} {l:List Tk} (h:LB s l):LB (b::s) (sg [b]::l):=by
 have:=LB.sign (zagr [b] (by simp) (by simpa using g1) g2 g3) g2 (fun c _ e d hd=>by
  rw[zabq _ (by simpa using g1)] at e;have:b=c:=by simpa using e
  rw[← this];exact g4 d hd) h
 rwa [zabq _ (by simpa using g1)] at this
theorem LB.curL {s:List UInt8} {l:List Tk} (h:LB s l):LB (123::s) (sg [123]::l):=LB.one 123 (by decide) (by decide +kernel) (by decide +kernel) (by decide +kernel) h
theorem LB.not {s:List UInt8} {l:List Tk} (hs:s.headD 0≠61) (h:LB s l):LB (33::s) (sg [33]::l):=by
 have g1:∀ b∈[(33:UInt8)],b.toNat<128:=by decide
 have:=LB.signN (zagr [33] (by simp) g1 (by decide +kernel) (by decide +kernel)) (by decide +kernel) (s:=s) (fun b _ e c hc=>by
  rw[zabq _ g1] at e;have:(33:UInt8)=b:=by simpa using e
  rw[← this];have h2:∀ c∈twos,c.headD 0=33→c=[33,61]:=by decide +kernel
  intro e;have:=h2 c hc (by rw[e]; rfl);rw[this] at e;simp only[List.cons.injEq,and_true,true_and] at e;exact hs e.symm) h
 rwa [zabq _ g1] at this
theorem zayc (s:List UInt8):stop (32::s):=⟨32,by simp,s,rfl⟩
theorem zay7 {k:Int} (h5:5≤k) (h17:k≤17):opAt (lvO k-1).toNat (sg (sgO k))=some k∧1≤lvO k∧lvO k≤5∧1≤lfO k∧lfO k≤6∧1≤rtO k∧rtO k≤6∧(lvO k=3→lfO k=4∧rtO k=4)∧(lvO k≠3→lfO k=lvO k∧rtO k=lvO k+1):=by
 have:k=5∨k=6∨k=7∨k=8∨k=9∨k=10∨k=11∨k=12∨k=13∨k=14∨k=15∨k=16∨k=17:=by omega
 rcases this with rfl|rfl|rfl|rfl|rfl|rfl|rfl|rfl|rfl|rfl|rfl|rfl|rfl<;>decide +kernel
end Lift.A4
namespace Lift.A4
open Go Go.RowKit Lift Go.IntWalk Lift.Fn Lift.A1P Lift.A3
set_option linter.unusedVariables false
set_option linter.unusedSimpArgs false
theorem LB.sg (t:List UInt8) (g0:t≠[]) (g1:∀ b∈t,b.toNat<128) (g2:goesR ((asc t).headD 0)=false) (g3:sgn t=t) {s:List UInt8} {l:List Tk} (h:LB s l):LB (t++32::s) (sg t::l):=by
 have:=LB.signN (zagr t g0 g1 g2 g3) g2 (s:=32::s) (fun b hb _ c hc=>zauu c hc b hb) h.sp;rwa [zabq _ g1] at this
theorem LB.word (t:List UInt8) (h0:t≠[]) (h1:∀ b∈t,b.toNat<128) (h2:∀ x∈asc t,goesR x=true) (h3:Sp.digit ((asc t).headD 0)=false) (h4:words.contains t=true) {s:List UInt8} {l:List Tk} (h:LB s l):LB (t++32::s) (wd t::l):=by
 obtain ⟨hw,hg⟩:=zatq t h0 h1 h2 h3 h4;have:=LB.goes hw hg (zayc s) h.sp;rwa [zabq _ h1] at this
theorem LB.line {d:Nat} {t s:List UInt8} {l:List Tk} (h:LB (t++10::s) l):LB (ln d t++s) l:=by
 have:=h.tab d;unfold ln;simpa [List.append_assoc] using this
def PB (t:List UInt8) (c:List Tk):Prop:=∀ s l,LB s l→LB (t++s) (c++l)
theorem PB.app {t u:List UInt8} {c d:List Tk} (h:PB t c) (h':PB u d):PB (t++u) (c++d):=by
 intro s l hl;rw[List.append_assoc,List.append_assoc];exact h _ _ (h' _ _ hl)
end Lift.A4
namespace Lift.A4
open Go Go.RowKit Lift Go.IntWalk Lift.Fn Lift.A1P Lift.A3
set_option linter.unusedVariables false
set_option linter.unusedSimpArgs false
theorem zaeu {t:List UInt8} (h0:t≠[]) (h1:∀ b∈t,b.toNat<128) (h2:tokR (asc t)=(⟨1,t,0,0⟩,0)):isNm t=true:=by
 have hw:whole (asc t) ⟨1,t,0,0⟩:=⟨fun e=>h0 (List.map_eq_nil_iff.1 e),zajp h1,h2,(zabq _ h1).symm⟩;have:=zaxl hw rfl;rwa [zabq _ h1] at this
theorem nm_x:isNm [120]=true:=zaeu (by decide) (by decide) (by decide +kernel)
theorem nm_m:isNm [109]=true:=zaeu (by decide) (by decide) (by decide +kernel)
theorem nm_t:isNm [116]=true:=zaeu (by decide) (by decide) (by decide +kernel)
theorem nm_r:isNm [114]=true:=zaeu (by decide) (by decide) (by decide +kernel)
theorem nm_a:isNm [97]=true:=zaeu (by decide) (by decide) (by decide +kernel)
theorem nm_b:isNm [98]=true:=zaeu (by decide) (by decide) (by decide +kernel)
theorem nm_c:isNm [99]=true:=zaeu (by decide) (by decide) (by decide +kernel)
abbrev xa:TExpr:=⟨2,0,[97],[]⟩
abbrev xb:TExpr:=⟨2,0,[98],[]⟩
abbrev xc:TExpr:=⟨2,0,[99],[]⟩
abbrev xn:TExpr:=⟨3,0,[],[xc]⟩
abbrev xd:TExpr:=⟨6,0,[],[xa,xb]⟩
abbrev xe:TExpr:=⟨6,0,[],[xd,xn]⟩
abbrev y1:TStmt:=⟨5,[],[109],zE,0,[],[]⟩
abbrev y2:TStmt:=⟨1,[114],[],xe,0,[],[]⟩
abbrev P5:TProg:=⟨[⟨[120],-3⟩],[[109]],[⟨[116],[y1,y2]⟩]⟩
theorem ok_a:eF xa=true:=by rw[eF_eq]; unfold xOk; simp[nm_a]
theorem ok_b:eF xb=true:=by rw[eF_eq]; unfold xOk; simp[nm_b]
theorem ok_c:eF xc=true:=by rw[eF_eq]; unfold xOk; simp[nm_c]
theorem ok_n:eF xn=true:=by rw[eF_eq]; unfold xOk; simp[ok_c]
theorem ok_d:eF xd=true:=by rw[eF_eq]; unfold xOk; simp[ok_a,ok_b]
theorem ok_e:eF xe=true:=by rw[eF_eq]; unfold xOk; simp[ok_d,ok_n]
theorem ok_1:sF y1=true:=by
 rw[sF_eq];unfold sOk isOpt;rw[show shp y1.kind=Shape.mk false true false false false false from rfl];simp[nm_m,sFs,zaas,inR,none_]
theorem ok_2:sF y2=true:=by
 rw[sF_eq];unfold sOk isOpt;rw[show shp y2.kind=Shape.mk true false true false false false from rfl];simp[nm_r,sFs,zaas,inR,ok_e]
theorem ok_p:pOk P5=true:=by
 unfold pOk cOk;simp[nm_x,nm_m,nm_t,sFs,ok_1,ok_2]
theorem zazk:zaco P5=0:=by
 unfold zaco;rw[ok_p];decide +kernel
theorem itoa3:Lib.itoa (-3)=[45,51]:=by
 rw[show (-3:Int)=-((3:Nat):Int) from rfl,Lib.itoa_neg 3 (by omega),Lib.decDigits_one (by decide)];rfl
theorem prog5:progT P5=[99,101,108,108,32,120,32,61,32,45,51,59,10,109,117,116,101,120,32,109,59,10,116,104,114,101,97,100,32,116,32,123,10,32,32,108,111,99,107,32,109,59,10,32,32,114,32,58,61,32,97,32,45,32,98,32,45,32,45,99,59,10,125,10]:=by
 have e:xT xe 1=[97,32,45,32,98,32,45,32,45,99]:=by
  rw[zaj9 (a:=xd) (b:=xn) rfl,if_neg (by decide),zaj9 (x:=xd) (a:=xa) (b:=xb) rfl,if_neg (by decide),zai2 (x:=xa) rfl rfl,zai2 (x:=xb) rfl rfl,zamq (x:=xn) (a:=xc) rfl,zai2 (x:=xc) rfl rfl];rfl
 unfold progT;simp only[P5,List.flatMap_cons,List.flatMap_nil,cellT,mutT,thrT,sTs,sT,itoa3,e];rfl
theorem zay2:qas=some true:=by
 rw[qas,zaaa];unfold qas_f;have h:qbk P5=some (showV P5):=showW P5 (by decide +kernel) (by decide) (by decide) (by decide);have h':showV P5=(progT P5,0):=by
  unfold showV;rw[zazk,if_neg (by simp),if_neg (by decide),if_neg (by rw[prog5]; decide)]
 rw[h',prog5] at h;refine (congrArg (fun z=>Option.bind z _) h).trans ?_;rfl
theorem zakx {x:TExpr} (h:eF x=true):x.kind≠0:=by
 rcases zajm h with ⟨h1,_⟩|⟨h1,_⟩|⟨h1,_⟩|⟨h1,_⟩<;>omega
end Lift.A4
namespace Lift.A4
open Go Go.RowKit Lift Go.IntWalk Lift.Fn Lift.A1P Lift.A3
set_option linter.unusedVariables false
set_option linter.unusedSimpArgs false
theorem w64 {x:Int} (h:0≤x∧x<18446744073709551616):IntKind.wrap IntKind.u64 x=x:=by
 unfold IntKind.wrap;simp only[IntKind.bits,IntKind.signed];simp;omega
theorem w8 {x:Int} (h:0≤x∧x<256):IntKind.wrap IntKind.u8 x=x:=by
 unfold IntKind.wrap;simp only[IntKind.bits,IntKind.signed];simp;omega
theorem zan4 {h:Nat} (hh:h<10):bytesOf [IntKind.wrap IntKind.u8 (IntKind.wrap IntKind.u64 ((48:Int)+(h:Int)))]=[UInt8.ofNat (48+h)]:=by
 rw[w64 (by omega),w8 (by omega)];show [UInt8.ofNat ((48:Int)+(h:Int)).toNat]=_;rw[show ((48:Int)+(h:Int)).toNat=48+h by omega]
theorem digL (a:Int):∀ (f m:Nat) (acc:List UInt8),m<f→m≤4294967296→acc.length+m≤5000000000 →
  ∃ (h:Nat) (acc':List UInt8),qa6_i5 f a (m:Int) acc=some (a,(h:Int),acc')∧h<10∧[UInt8.ofNat (48+h)]++acc'=Lib.decDigits m++acc∧acc'.length≤5000000000:=by
 intro f;induction f with
 |zero=>intro m acc h; omega
 |succ f ih=>
  intro m acc hf hm ha;show ∃ (h:Nat) (acc':List UInt8),qa6_t5 (qa6_i5 f) a (m:Int) acc=some (a,(h:Int),acc')∧h<10∧[UInt8.ofNat (48+h)]++acc'=Lib.decDigits m++acc∧acc'.length≤5000000000;unfold qa6_t5;by_cases h10:10≤m
  ·have e1:Int.tmod (m:Int) 10=((m % 10:Nat):Int):=by rw[Int.tmod_eq_emod_of_nonneg (by omega)]; omega
   have e2:Int.tdiv (m:Int) 10=((m / 10:Nat):Int):=by rw[Int.tdiv_eq_ediv_of_nonneg (by omega)]; omega
   rw[decide_eq_true (by omega),cond_true,e1,e2,zan4 (by omega),w64 (by omega)];obtain ⟨h,acc',k1,k2,k3,k4⟩:=ih (m / 10) ([UInt8.ofNat (48+m % 10)]++acc) (by omega) (by omega) (by simp only[List.length_append,List.length_cons,List.length_nil]; omega);refine ⟨h,acc',(zaae (by simp only[List.length_cons,List.length_nil]; omega) _ _).trans k1,k2,?_,k4⟩;rw[k3,zasx h10,List.append_assoc]
  ·rw[decide_eq_false (by omega),cond_false];exact ⟨m,acc,rfl,by omega,by rw[Lib.decDigits_one (by omega)],by omega⟩
theorem zake {n:Int} (h0:-2147483648≤n) (h1:n≤2147483647):qa6 n=some (Lib.itoa n):=by
 rw[qa6,zaaa];unfold qa6_f;rw[qa6_l5,zaaa];by_cases hn:n<0
 ·obtain ⟨m,hm⟩:∃ m:Nat,n=-(m:Int):=⟨n.natAbs,by omega⟩;have ew:IntKind.wrap IntKind.u64 ((0:Int)-IntKind.wrap IntKind.u64 n)=(m:Int):=by
   rw[hm];unfold IntKind.wrap;simp only[IntKind.bits,IntKind.signed];simp;omega
  rw[decide_eq_true hn,cond_true,ew];obtain ⟨h,acc',k1,k2,k3,k4⟩:=digL n fuel m [] (by unfold fuel; omega) (by omega) (by simp only[List.length_nil]; omega);rw[k1,Option.bind_some];dsimp only;rw[zan4 k2,decide_eq_true hn];refine (zaae (by simp only[List.length_cons,List.length_nil]; omega) _ _).trans ?_;rw[cond_true];have hl1:([UInt8.ofNat (48+h)]++acc').length≤5000000001:=by simp only[List.length_append,List.length_cons,List.length_nil]; omega
  refine (zaae (by omega) _ _).trans ?_;rw[k3,hm,Lib.itoa_neg m (by omega),List.append_nil];rfl
 ·obtain ⟨m,hm⟩:∃ m:Nat,n=(m:Int):=⟨n.toNat,by omega⟩;rw[decide_eq_false hn,cond_false,w64 (by omega),hm];obtain ⟨h,acc',k1,k2,k3,k4⟩:=digL (m:Int) fuel m [] (by unfold fuel; omega) (by omega) (by simp only[List.length_nil]; omega);rw[k1,Option.bind_some];dsimp only;rw[zan4 k2,decide_eq_false (show ¬ (m:Int)<0 by omega)];refine (zaae (by simp only[List.length_cons,List.length_nil]; omega) _ _).trans ?_;rw[cond_false,k3,Lib.itoa_nonneg,List.append_nil]
theorem zax1 (d:Nat) (hd:d≤1000000):∀ (k n i:Nat),i+k=d→k<n→qa9_i3 n (d:Int) (Lib.repeatL [32,32] i) (i:Int)=some (Lib.repeatL [32,32] d):=by
 have snoc:∀ i:Nat,Lib.repeatL [(32:UInt8),32] i++[32,32]=Lib.repeatL [32,32] (i+1):=by
  intro i;induction i with
  |zero=>rfl
  |succ i ih=>
   show [32,32]++Lib.repeatL [32,32] i++[32,32]=[32,32]++Lib.repeatL [32,32] (i+1);rw[List.append_assoc,ih]
 have len:∀ i:Nat,(Lib.repeatL [(32:UInt8),32] i).length=2*i:=by
  intro i;induction i with
  |zero=>rfl
  |succ i ih=>rw[← snoc,List.length_append,ih]; simp only[List.length_cons,List.length_nil]; omega
 intro k;induction k with
 |zero=>
  intro n i hi hn;obtain ⟨n,rfl⟩:∃ m,n=m+1:=⟨n-1,by omega⟩;show qa9_t3 (qa9_i3 n) (d:Int) (Lib.repeatL [32,32] i) (i:Int)=_;unfold qa9_t3;rw[decide_eq_false (by omega),cond_false,show i=d by omega]
 |succ k ih=>
  intro n i hi hn;obtain ⟨n,rfl⟩:∃ m,n=m+1:=⟨n-1,by omega⟩;show qa9_t3 (qa9_i3 n) (d:Int) (Lib.repeatL [32,32] i) (i:Int)=_;unfold qa9_t3;rw[decide_eq_true (by omega),cond_true];refine (zaae (by rw[len]; omega) _ _).trans ?_;rw[snoc,show IntKind.wrap IntKind.i64 ((i:Int)+1)=((i+1:Nat):Int) by rw[i64_in _ (by omega)]; omega];exact ih n (i+1) (by omega) (by omega)
theorem zaxk (d:Nat) (hd:d≤1000000):qa9 (d:Int)=some (Lib.repeatL [32,32] d):=by
 rw[qa9,zaaa];unfold qa9_f;rw[qa9_l3,zaaa];have:=zax1 d hd d fuel 0 (by omega) (by unfold fuel; omega);have h0:Lib.repeatL [(32:UInt8),32] 0=[]:=rfl;rw[h0] at this;have this':qa9_i3 fuel (d:Int) [] 0=_:=this;rw[this'];rfl
theorem zazl:qbb 1=some 7:=by rw[qbb,zaaa]; rfl
theorem zazp:qbb 2=some 7:=by rw[qbb,zaaa]; rfl
theorem zazh:qbb 3=some 6:=by rw[qbb,zaaa]; rfl
theorem zay0:qbb 4=some 6:=by rw[qbb,zaaa]; rfl
theorem zay9 {k:Int} (h5:5≤k) (h17:k≤17):qbb k=some (lvO k):=by
 rw[qbb,zaaa];have:k=5∨k=6∨k=7∨k=8∨k=9∨k=10∨k=11∨k=12∨k=13∨k=14∨k=15∨k=16∨k=17:=by omega
 rcases this with rfl|rfl|rfl|rfl|rfl|rfl|rfl|rfl|rfl|rfl|rfl|rfl|rfl<;>rfl
theorem signO (R:TExpr→Int→Option (List UInt8)) {k:Int} (h5:5≤k) (h17:k≤17):qbd R k=some (sgO k):=by
 rw[qbd,zaaa];have:k=5∨k=6∨k=7∨k=8∨k=9∨k=10∨k=11∨k=12∨k=13∨k=14∨k=15∨k=16∨k=17:=by omega
 rcases this with rfl|rfl|rfl|rfl|rfl|rfl|rfl|rfl|rfl|rfl|rfl|rfl|rfl<;>rfl
theorem sign3 (R:TExpr→Int→Option (List UInt8)):qbd R 3=some [45]:=by rw[qbd,zaaa]; rfl
theorem sign4 (R:TExpr→Int→Option (List UInt8)):qbd R 4=some [33]:=by rw[qbd,zaaa]; rfl
theorem refE:∀ (k n:Nat) (x:TExpr) (q:Int),nE x≤k→k<n→k≤100000000→eF x=true→q≤6→qa7_i n x q=some (xT x q):=by
 intro k;induction k with
 |zero=>intro n x q h; have:=nE_eq x; omega
 |succ k ih=>
  intro n x q hk hn hb h hq;obtain ⟨n,rfl⟩:∃ m,n=m+1:=⟨n-1,by omega⟩;show qa7_f (qa7_i n) x q=_;unfold qa7_f;have hlen:=zac1 (k+1) x q hk h;rcases zajm h with ⟨h1,h2,h3,h4,_⟩|⟨h1,h2,h3,_⟩|⟨h1,⟨a,h2,h3⟩,_⟩|⟨h1,h2,⟨a,c,h3,h4,h5⟩,_⟩
  ·rw[h1,zazl,Option.bind_some,zap9 h1 h2];have e7:((7:Int)==7)=true:=rfl;have e1:((1:Int)==1)=true:=rfl;rw[e7,cond_true,e1,cond_true,zake (by omega) (by omega),Option.bind_some,decide_eq_false (by omega),cond_false]
  ·rw[h1,zazp,Option.bind_some,zai2 h1 h2];have e7:((7:Int)==7)=true:=rfl;have e1:((2:Int)==1)=false:=rfl;rw[e7,cond_true,e1,cond_false,decide_eq_false (by omega),cond_false]
  ·rw[zal3 h2] at hk;have g0:(x.args)[(0:Nat)]? = some a:=by rw[h2]; rfl
   have e7:((6:Int)==7)=false:=rfl;have e6:((6:Int)==6)=true:=rfl;have i1:=ih n a 6 (by omega) (by omega) (by omega) h3 (by omega);have la:=zac1 (k+1) a 6 (by omega) h3;rw[zamq h2];rcases h1 with h1|h1
   ·rw[h1,zazh,Option.bind_some,e7,cond_false,e6,cond_true,g0,Option.bind_some,i1,Option.bind_some,sign3,Option.bind_some];refine (zaae (by simp only[List.length_cons,List.length_nil]; omega) _ _).trans ?_;rw[decide_eq_false (by omega),cond_false,if_pos rfl]
   ·rw[h1,zay0,Option.bind_some,e7,cond_false,e6,cond_true,g0,Option.bind_some,i1,Option.bind_some,sign4,Option.bind_some];refine (zaae (by simp only[List.length_cons,List.length_nil]; omega) _ _).trans ?_;rw[decide_eq_false (by omega),cond_false,if_neg (by decide)]
  ·rw[zaly h3] at hk;have g0:(x.args)[(0:Nat)]? = some a:=by rw[h3]; rfl
   have g1:(x.args)[(1:Nat)]? = some c:=by rw[h3]; rfl
   obtain ⟨_,o2,o3,o4,o5,o6,o7,o8,o9⟩:=zay7 h1 h2;have ls:=zan1 x.kind;have la:=zac1 (k+1) a (lfO x.kind) (by omega) h4;have lc:=zac1 (k+1) c (rtO x.kind) (by omega) h5;have i1:=ih n a (lfO x.kind) (by omega) (by omega) (by omega) h4 o5;have i2:=ih n c (rtO x.kind) (by omega) (by omega) (by omega) h5 o7;have e7:(lvO x.kind==7)=false:=by rw[beq_eq_false_iff_ne]; omega
   have e6:(lvO x.kind==6)=false:=by rw[beq_eq_false_iff_ne]; omega
   have ew:IntKind.wrap IntKind.i64 (lvO x.kind+1)=lvO x.kind+1:=i64_in _ (by omega);rw[zay9 h1 h2,Option.bind_some,e7,cond_false,e6,cond_false,zaj9 h3,g0,g1,ew];have key:lfO x.kind=(if lvO x.kind=3 then 4 else lvO x.kind)∧rtO x.kind=lvO x.kind+1:=by
    by_cases h3':lvO x.kind=3
    ·rw[if_pos h3']; have:=o8 h3'; omega
    ·rw[if_neg h3']; have:=o9 h3'; omega
   have tail:∀ (s t:List UInt8),s.length≤9000000000→t.length≤9000000000 →
     (bif decide (List.length s+(1:Nat)≤(9223372036854775807:Nat)) then
      Option.bind (qbd (qa7_i n) x.kind) fun y14=>
      bif decide (List.length (s++[(32:UInt8)])+List.length y14≤(9223372036854775807:Nat)) then
       bif decide (List.length (s++[(32:UInt8)]++y14)+(1:Nat)≤(9223372036854775807:Nat)) then
        bif decide (List.length (s++[(32:UInt8)]++y14++[(32:UInt8)])+List.length t≤(9223372036854775807:Nat)) then
         bif decide (lvO x.kind<q) then
          bif decide ((1:Nat)+List.length (s++[(32:UInt8)]++y14++[(32:UInt8)]++t)≤(9223372036854775807:Nat)) then
           bif decide (List.length ([(40:UInt8)]++(s++[(32:UInt8)]++y14++[(32:UInt8)]++t))+(1:Nat)≤(9223372036854775807:Nat)) then
            some ([(40:UInt8)]++(s++[(32:UInt8)]++y14++[(32:UInt8)]++t)++[(41:UInt8)])
           else
            none
          else
           none
         else
          some (s++[(32:UInt8)]++y14++[(32:UInt8)]++t)
        else
         none
       else
        none
      else
       none
     else
      none)=some (if lvO x.kind<q then [40]++s++([32]++sgO x.kind++[32])++t++[41] else s++([32]++sgO x.kind++[32])++t):=by
    intro s t hs ht;refine (zaae (by omega) _ _).trans ?_;rw[signO _ h1 h2,Option.bind_some];refine (zaae (by simp only[List.length_append,List.length_cons,List.length_nil]; omega) _ _).trans ?_;refine (zaae (by simp only[List.length_append,List.length_cons,List.length_nil]; omega) _ _).trans ?_;refine (zaae (by simp only[List.length_append,List.length_cons,List.length_nil]; omega) _ _).trans ?_;by_cases hp:lvO x.kind<q
    ·rw[decide_eq_true hp,cond_true,if_pos hp];refine (zaae (by simp only[List.length_append,List.length_cons,List.length_nil]; omega) _ _).trans ?_;refine (zaae (by simp only[List.length_append,List.length_cons,List.length_nil]; omega) _ _).trans ?_;simp only[List.append_assoc]
    ·rw[decide_eq_false hp,cond_false,if_neg hp];simp only[List.append_assoc]
   obtain ⟨key1,key2⟩:=key;rw[key2] at i2 lc ⊢;by_cases hl3:lvO x.kind=3
   ·have e3:(lvO x.kind==3)=true:=by rw[hl3]; rfl
    rw[if_pos hl3] at key1;rw[key1] at i1 la ⊢;rw[e3,cond_true,Option.bind_some,i1,Option.bind_some,Option.bind_some,i2,Option.bind_some];exact tail _ _ (by omega) (by omega)
   ·have e3:(lvO x.kind==3)=false:=by simpa using hl3
    rw[if_neg hl3] at key1;rw[key1] at i1 la ⊢;rw[e3,cond_false,Option.bind_some,i1,Option.bind_some,Option.bind_some,i2,Option.bind_some];exact tail _ _ (by omega) (by omega)
theorem zais {x:TExpr} (h:eF x=true) (hs:nE x≤100000000):qa7 (TExpr.mk x.kind x.num x.name x.args) 1=some (xT x 1):=by
 rw[zabl,qa7,zaaa];exact refE (nE x) fuel x 1 (Nat.le_refl _) (by unfold fuel; omega) hs h (by omega)
end Lift.A4
namespace Lift.A4
open Go Go.RowKit Lift Go.IntWalk Lift.Fn Lift.A1P Lift.A3
set_option linter.unusedVariables false
set_option linter.unusedSimpArgs false
theorem zaxw (d:Nat):(Lib.repeatL [(32:UInt8),32] d).length=2*d:=by
 have:=zab0 d [];unfold ln at this;simp only[List.length_append,List.length_cons,List.length_nil] at this;omega
def CutR (r f:List UInt8):Prop:=r=f∨(4000<r.length∧r.length≤f.length)
theorem CutR.le {r f:List UInt8} (h:CutR r f):r.length≤f.length:=by
 rcases h with rfl|h
 ·exact Nat.le_refl _
 ·exact h.2
theorem CutR.rfl {r:List UInt8}:CutR r r:=.inl (by exact Eq.refl r)
theorem CutR.app {r f r' f':List UInt8} (h:CutR r f) (h':CutR r' f'):CutR (r++r') (f++f'):=by
 have l1:=h.le;have l2:=h'.le;rcases h with rfl|h
 ·rcases h' with rfl|h'
  ·exact .rfl
  ·exact .inr ⟨by rw[List.length_append]; omega,by rw[List.length_append,List.length_append]; omega⟩
 ·exact .inr ⟨by rw[List.length_append]; omega,by rw[List.length_append,List.length_append]; omega⟩
theorem zax9 (R:List TStmt→Int→Option (List UInt8)) {y:TStmt} (h:sF y=true) (h10:y.kind≠10) (h11:y.kind≠11) (hs:nS y≤1000000) :
  ∃ t,qbc R (TStmt.mk y.kind y.reg y.name (TExpr.mk y.expr.kind y.expr.num y.expr.name y.expr.args) y.count y.then_ y.else_)=some t∧(∀ d,sT y d=ln d t)∧t.length≤10000000000:=by
 rw[qbc,zaaa];unfold qbc_f;cases sF_sc h with
 |@set r x hr hx=>
  rw[nS_mk] at hs;have hk:(x.kind != 0)=true:=by simp[zakx hx]
  have l1:=zaav hr;have l2:=zac1 (nE x) x 1 (Nat.le_refl _) hx;refine ⟨[r,[32,58,61,32],xT x 1,[59]].flatten,?_,fun d=>?_,?_⟩;rotate_left
  ·rw[sT,if_pos (by exact Eq.refl (1:Int))]
  ·simp only[List.flatten_cons,List.flatten_nil,List.length_append,List.length_cons,List.length_nil]; omega
  ·dsimp only;rw[hk,cond_true,zais hx (by omega),Option.bind_some];refine (cond_true _ _).trans ?_;refine (zaae (by first|omega|(simp only[List.length_append,List.length_cons,List.length_nil]; omega)) _ _).trans ?_;refine (zaae (by first|omega|(simp only[List.length_append,List.length_cons,List.length_nil]; omega)) _ _).trans ?_;refine (zaae (by first|omega|(simp only[List.length_append,List.length_cons,List.length_nil]; omega)) _ _).trans ?_;simp
 |@read r m hr hm=>
  have l1:=zaav hr;have l2:=zaav hm;refine ⟨[r,[32,60,45,32],m,[59]].flatten,?_,fun d=>?_,?_⟩;rotate_left
  ·rw[sT,if_neg (by decide),if_pos (by exact Eq.refl (2:Int))]
  ·simp only[List.flatten_cons,List.flatten_nil,List.length_append,List.length_cons,List.length_nil]; omega
  ·dsimp only;refine (cond_false _ _).trans ?_;refine (cond_false _ _).trans ?_;refine (cond_false _ _).trans ?_;refine (cond_true _ _).trans ?_;refine (zaae (by first|omega|(simp only[List.length_append,List.length_cons,List.length_nil]; omega)) _ _).trans ?_;refine (zaae (by first|omega|(simp only[List.length_append,List.length_cons,List.length_nil]; omega)) _ _).trans ?_;refine (zaae (by first|omega|(simp only[List.length_append,List.length_cons,List.length_nil]; omega)) _ _).trans ?_;simp
 |@write m x hm hx=>
  rw[nS_mk] at hs;have hk:(x.kind != 0)=true:=by simp[zakx hx]
  have l1:=zaav hm;have l2:=zac1 (nE x) x 1 (Nat.le_refl _) hx;refine ⟨[m,[32,61,32],xT x 1,[59]].flatten,?_,fun d=>?_,?_⟩;rotate_left
  ·rw[sT,if_neg (by decide),if_neg (by decide),if_pos (by exact Eq.refl (3:Int))]
  ·simp only[List.flatten_cons,List.flatten_nil,List.length_append,List.length_cons,List.length_nil]; omega
  ·dsimp only;rw[hk,cond_true,zais hx (by omega),Option.bind_some];refine (cond_false _ _).trans ?_;refine (cond_true _ _).trans ?_;refine (zaae (by first|omega|(simp only[List.length_append,List.length_cons,List.length_nil]; omega)) _ _).trans ?_;refine (zaae (by first|omega|(simp only[List.length_append,List.length_cons,List.length_nil]; omega)) _ _).trans ?_;refine (zaae (by first|omega|(simp only[List.length_append,List.length_cons,List.length_nil]; omega)) _ _).trans ?_;simp
 |@add r m x hr hm hx=>
  rw[nS_mk] at hs;have hk:(x.kind != 0)=true:=by simp[zakx hx]
  have l1:=zaav hr;have l3:=zaav hm;have l2:=zac1 (nE x) x 1 (Nat.le_refl _) hx;refine ⟨[r,[32,60,45,32,97,100,100,32],m,[32],xT x 1,[59]].flatten,?_,fun d=>?_,?_⟩;rotate_left
  ·rw[sT,if_neg (by decide),if_neg (by decide),if_neg (by decide),if_pos (by exact Eq.refl (4:Int))]
  ·simp only[List.flatten_cons,List.flatten_nil,List.length_append,List.length_cons,List.length_nil]; omega
  ·dsimp only;rw[hk,cond_true,zais hx (by omega),Option.bind_some];refine (cond_false _ _).trans ?_;refine (cond_false _ _).trans ?_;refine (cond_false _ _).trans ?_;refine (cond_true _ _).trans ?_;refine (zaae (by first|omega|(simp only[List.length_append,List.length_cons,List.length_nil]; omega)) _ _).trans ?_;refine (zaae (by first|omega|(simp only[List.length_append,List.length_cons,List.length_nil]; omega)) _ _).trans ?_;refine (zaae (by first|omega|(simp only[List.length_append,List.length_cons,List.length_nil]; omega)) _ _).trans ?_;refine (zaae (by first|omega|(simp only[List.length_append,List.length_cons,List.length_nil]; omega)) _ _).trans ?_;refine (zaae (by first|omega|(simp only[List.length_append,List.length_cons,List.length_nil]; omega)) _ _).trans ?_;simp
 |@assert x hx=>
  rw[nS_mk] at hs;have hk:(x.kind != 0)=true:=by simp[zakx hx]
  have l2:=zac1 (nE x) x 1 (Nat.le_refl _) hx;refine ⟨[[97,115,115,101,114,116,32],xT x 1,[59]].flatten,?_,fun d=>?_,?_⟩;rotate_left
  ·rw[sT,if_neg (by decide),if_neg (by decide),if_neg (by decide),if_neg (by decide),if_pos (by exact Eq.refl (9:Int))]
  ·simp only[List.flatten_cons,List.flatten_nil,List.length_append,List.length_cons,List.length_nil]; omega
  ·dsimp only;rw[hk,cond_true,zais hx (by omega),Option.bind_some];refine (cond_false _ _).trans ?_;refine (cond_false _ _).trans ?_;refine (cond_false _ _).trans ?_;refine (cond_false _ _).trans ?_;refine (cond_false _ _).trans ?_;refine (cond_false _ _).trans ?_;refine (cond_false _ _).trans ?_;refine (cond_false _ _).trans ?_;refine (zaae (by first|omega|(simp only[List.length_append,List.length_cons,List.length_nil]; omega)) _ _).trans ?_;refine (zaae (by first|omega|(simp only[List.length_append,List.length_cons,List.length_nil]; omega)) _ _).trans ?_;simp
 |@about k m h5 h8 hm=>
  have l1:=zaav hm;have hc:k=5∨k=6∨k=7∨k=8:=by omega
  rcases hc with rfl|rfl|rfl|rfl
  ·refine ⟨[fourB.getD ((5:Int)-5).toNat [],m,[59]].flatten,?_,fun d=>?_,?_⟩;rotate_left
   ·rw[sT,if_neg (by decide),if_neg (by decide),if_neg (by decide),if_neg (by decide),if_neg (by decide),if_neg (by decide),if_neg (by decide)]
   ·simp only[List.flatten_cons,List.flatten_nil,List.length_append,List.length_nil,List.length_cons];have:=zae3 (5-5:Int).toNat;omega
   ·dsimp only;refine (cond_false _ _).trans ?_;refine (cond_false _ _).trans ?_;refine (cond_false _ _).trans ?_;refine (cond_false _ _).trans ?_;refine (cond_false _ _).trans ?_;refine (cond_true _ _).trans ?_;refine (zaae (by first|omega|(simp only[List.length_append,List.length_cons,List.length_nil]; omega)) _ _).trans ?_;refine (zaae (by first|omega|(simp only[List.length_append,List.length_cons,List.length_nil]; omega)) _ _).trans ?_;simp[fourB]
  ·refine ⟨[fourB.getD ((6:Int)-5).toNat [],m,[59]].flatten,?_,fun d=>?_,?_⟩;rotate_left
   ·rw[sT,if_neg (by decide),if_neg (by decide),if_neg (by decide),if_neg (by decide),if_neg (by decide),if_neg (by decide),if_neg (by decide)]
   ·simp only[List.flatten_cons,List.flatten_nil,List.length_append,List.length_nil,List.length_cons];have:=zae3 (6-5:Int).toNat;omega
   ·dsimp only;refine (cond_false _ _).trans ?_;refine (cond_false _ _).trans ?_;refine (cond_false _ _).trans ?_;refine (cond_false _ _).trans ?_;refine (cond_false _ _).trans ?_;refine (cond_false _ _).trans ?_;refine (cond_true _ _).trans ?_;refine (zaae (by first|omega|(simp only[List.length_append,List.length_cons,List.length_nil]; omega)) _ _).trans ?_;refine (zaae (by first|omega|(simp only[List.length_append,List.length_cons,List.length_nil]; omega)) _ _).trans ?_;simp[fourB]
  ·refine ⟨[fourB.getD ((7:Int)-5).toNat [],m,[59]].flatten,?_,fun d=>?_,?_⟩;rotate_left
   ·rw[sT,if_neg (by decide),if_neg (by decide),if_neg (by decide),if_neg (by decide),if_neg (by decide),if_neg (by decide),if_neg (by decide)]
   ·simp only[List.flatten_cons,List.flatten_nil,List.length_append,List.length_nil,List.length_cons];have:=zae3 (7-5:Int).toNat;omega
   ·dsimp only;refine (cond_false _ _).trans ?_;refine (cond_false _ _).trans ?_;refine (cond_false _ _).trans ?_;refine (cond_false _ _).trans ?_;refine (cond_false _ _).trans ?_;refine (cond_false _ _).trans ?_;refine (cond_false _ _).trans ?_;refine (cond_true _ _).trans ?_;refine (zaae (by first|omega|(simp only[List.length_append,List.length_cons,List.length_nil]; omega)) _ _).trans ?_;refine (zaae (by first|omega|(simp only[List.length_append,List.length_cons,List.length_nil]; omega)) _ _).trans ?_;simp[fourB]
  ·refine ⟨[fourB.getD ((8:Int)-5).toNat [],m,[59]].flatten,?_,fun d=>?_,?_⟩;rotate_left
   ·rw[sT,if_neg (by decide),if_neg (by decide),if_neg (by decide),if_neg (by decide),if_neg (by decide),if_neg (by decide),if_neg (by decide)]
   ·simp only[List.flatten_cons,List.flatten_nil,List.length_append,List.length_nil,List.length_cons];have:=zae3 (8-5:Int).toNat;omega
   ·dsimp only;refine (cond_false _ _).trans ?_;refine (cond_false _ _).trans ?_;refine (cond_false _ _).trans ?_;refine (cond_false _ _).trans ?_;refine (cond_false _ _).trans ?_;refine (cond_false _ _).trans ?_;refine (cond_false _ _).trans ?_;refine (cond_false _ _).trans ?_;refine (cond_true _ _).trans ?_;refine (zaae (by first|omega|(simp only[List.length_append,List.length_cons,List.length_nil]; omega)) _ _).trans ?_;refine (zaae (by first|omega|(simp only[List.length_append,List.length_cons,List.length_nil]; omega)) _ _).trans ?_;simp[fourB]
 |@if_ x t o hx ht ho=>exact absurd (by exact Eq.refl (10:Int)) h10
 |@rep c t h0 h1 ht=>exact absurd (by exact Eq.refl (11:Int)) h11
end Lift.A4
namespace Lift.A4
open Go Go.RowKit Lift Go.IntWalk Lift.Fn Lift.A1P Lift.A3
set_option linter.unusedVariables false
set_option linter.unusedSimpArgs false
theorem zan5 (d:Nat):∀ (a b:List TStmt),sTs (a++b) d=sTs a d++sTs b d
 |[],b=>by rw[List.nil_append,sTs,List.nil_append]
 |x::a,b=>by rw[List.cons_append,sTs,sTs,zan5 d a b,List.append_assoc]
theorem zant:∀ l:List TStmt,l.length≤nSs l
 |[]=>Nat.zero_le _
 |x::l=>by
  have:=zant l;rw[zad6,List.length_cons];cases x;rw[nS_mk];omega
theorem lenB {l:List TStmt} {d:Nat} (hf:sFs l=true) (hd:d+nSs l≤1000000):(sTs l d).length≤10000000000000:=by
 obtain ⟨M,hM⟩:∃ M,M=6001000:=⟨_,by exact Eq.refl _⟩;have h:=zae2 1000000 M (by omega) l d hf hd;have h2:nSs l*M≤1000000*M:=Nat.mul_le_mul_right _ (by omega);omega
def BlkR (R:List TStmt→Int→Option (List UInt8)) (N:Nat):Prop:=∀ (l:List TStmt) (d:Nat),nSs l<N→sFs l=true→d+nSs l≤1000000→∃ r,R l (d:Int)=some r∧CutR r (sTs l d)
theorem zazf {R:List TStmt→Int→Option (List UInt8)} {N:Nat} (hR:BlkR R N) (l:List TStmt) (d:Nat) (hf:sFs l=true) (hN:nSs l≤N) (hd:d+nSs l≤1000000) :
  ∀ (k n i:Nat) (a:List UInt8),i+k=l.length→k<n→CutR a (sTs (l.take i) d)→∃ r,qba_i3 R n l (d:Int) a (i:Int)=some r∧CutR r (sTs l d):=by
 have hlen:=lenB hf hd;have hll:=zant l;intro k;induction k with
 |zero=>
  intro n i a hi hn ha;obtain ⟨n,rfl⟩:∃ m,n=m+1:=⟨n-1,by omega⟩;rw[List.take_of_length_le (by omega)] at ha;refine ⟨a,?_,ha⟩;show qba_t3 R (qba_i3 R n) l (d:Int) a (i:Int)=_;unfold qba_t3;rw[decide_eq_false (show ¬ (i:Int)<(l.length:Int) by omega)];simp only[cond_false,Option.bind_some]
 |succ k ih=>
  intro n i a hi hn ha;obtain ⟨n,rfl⟩:∃ m,n=m+1:=⟨n-1,by omega⟩;have hlt:i<l.length:=by omega
  have hsplit:sTs l d=sTs (l.take i) d++sTs (l.drop i) d:=by rw[← zan5,List.take_append_drop]
  have hpre:(sTs (l.take i) d).length≤(sTs l d).length:=by rw[hsplit,List.length_append]; omega
  show ∃ r,qba_t3 R (qba_i3 R n) l (d:Int) a (i:Int)=some r∧CutR r (sTs l d);unfold qba_t3;rw[decide_eq_true (show (i:Int)<(l.length:Int) by omega)];by_cases h4:a.length≤4000
  ·have ha':a=sTs (l.take i) d:=by
    rcases ha with h|h
    ·exact h
    ·omega
   rw[decide_eq_true (show ((a.length:Nat):Int)≤4000 by omega)];simp only[cond_true,Option.bind_some];rw[decide_eq_true (show (0:Int)≤(i:Int) by omega),cond_true,Int.toNat_natCast,List.getElem?_eq_getElem hlt,Option.bind_some];have hmem:l[i]∈l:=List.getElem_mem hlt;have hy:=zass hf hmem;have htk:l.take (i+1)=l.take i++[l[i]]:=by rw[List.take_add_one,List.getElem?_eq_getElem hlt]; exact Eq.refl _
   have hny:nS l[i]≤nSs l:=by
    have h1:l=l.take i++l.drop i:=(List.take_append_drop i l).symm;have h2:nSs l=nSs (l.take i)+nSs (l.drop i):=by rw[← zany,List.take_append_drop]
    rw[List.drop_eq_getElem_cons hlt,zad6] at h2;omega
   generalize l[i]=y at hy htk hny;rw[zaxk d (by omega),Option.bind_some];have hb:=zaxw d;have w1:IntKind.wrap IntKind.i64 ((i:Int)+1)=((i+1:Nat):Int):=by rw[i64_in _ (by omega)]; omega
   have w2:IntKind.wrap IntKind.i64 ((d:Int)+1)=((d+1:Nat):Int):=by rw[i64_in _ (by omega)]; omega
   have go:∀ s,CutR s (sT y d)→∃ r,qba_i3 R n l (d:Int) (a++s) ((i+1:Nat):Int)=some r∧CutR r (sTs l d):=by
    intro s hs;refine ih n (i+1) (a++s) (by omega) (by omega) ?_;rw[htk,zan5,ha'];have:sTs [y] d=sT y d:=by rw[sTs,sTs,List.append_nil]
    rw[this];exact CutR.app .rfl hs
   rw[w1,w2];by_cases h10:y.kind=10
   ·have e10:(y.kind==10)=true:=by simp[h10]
    rw[e10];cases sF_sc hy with
    |@if_ x t o hx ht ho=>
     rw[nS_mk] at hny;obtain ⟨r1,b1,c1⟩:=hR t (d+1) (by omega) ht (by omega);have g1:=c1.le;have g2:=lenB ht (d:=d+1) (by omega);have lx:=zac1 (nE x) x 1 (Nat.le_refl _) hx;simp only[cond_true];rw[zais hx (by omega),Option.bind_some,b1,Option.bind_some];by_cases h0:o.length=0
     ·have e0:decide (((o.length:Nat):Int)>0)=false:=decide_eq_false (by omega);obtain ⟨r,k1,k2⟩:=go ((Lib.repeatL [32,32] d++[105,102,32]++xT x 1++[32,123,10])++(r1++(Lib.repeatL [32,32] d++[125,10]))) (by
       rw[sT,if_neg (by decide),if_neg (by decide),if_neg (by decide),if_neg (by decide),if_neg (by decide),if_pos (by exact Eq.refl (10:Int)),if_pos h0];refine CutR.app ?_ (CutR.app c1 ?_)
       ·have:ln d [[105,102,32],xT x 1,[32,123]].flatten=Lib.repeatL [32,32] d++[105,102,32]++xT x 1++[32,123,10]:=by simp[ln]
        rw[this];exact .rfl
       ·have:[]++ln d [[125]].flatten=Lib.repeatL [32,32] d++[125,10]:=by simp[ln]
        rw[this];exact .rfl)
      refine ⟨r,?_,k2⟩;refine (zaae (by first|omega|(simp only[List.length_append,List.length_cons,List.length_nil]; omega)) _ _).trans ?_;refine (zaae (by first|omega|(simp only[List.length_append,List.length_cons,List.length_nil]; omega)) _ _).trans ?_;refine (zaae (by first|omega|(simp only[List.length_append,List.length_cons,List.length_nil]; omega)) _ _).trans ?_;refine (zaae (by first|omega|(simp only[List.length_append,List.length_cons,List.length_nil]; omega)) _ _).trans ?_;refine (zaae (by first|omega|(simp only[List.length_append,List.length_cons,List.length_nil]; omega)) _ _).trans ?_;rw[e0,cond_false,Option.bind_some];refine (zaae (by first|omega|(simp only[List.length_append,List.length_cons,List.length_nil]; omega)) _ _).trans ?_;refine (zaae (by first|omega|(simp only[List.length_append,List.length_cons,List.length_nil]; omega)) _ _).trans ?_;rw[← k1];simp only[List.append_assoc,List.cons_append,List.nil_append]
     ·have e0:decide (((o.length:Nat):Int)>0)=true:=decide_eq_true (by omega);obtain ⟨r2,b2,c2⟩:=hR o (d+1) (by omega) ho (by omega);have g3:=c2.le;have g4:=lenB ho (d:=d+1) (by omega);obtain ⟨r,k1,k2⟩:=go ((Lib.repeatL [32,32] d++[105,102,32]++xT x 1++[32,123,10])++(r1++((Lib.repeatL [32,32] d++[125,32,101,108,115,101,32,123,10]++r2)++(Lib.repeatL [32,32] d++[125,10])))) (by
       rw[sT,if_neg (by decide),if_neg (by decide),if_neg (by decide),if_neg (by decide),if_neg (by decide),if_pos (by exact Eq.refl (10:Int)),if_neg h0];refine CutR.app ?_ (CutR.app c1 (CutR.app (CutR.app ?_ c2) ?_))
       ·have:ln d [[105,102,32],xT x 1,[32,123]].flatten=Lib.repeatL [32,32] d++[105,102,32]++xT x 1++[32,123,10]:=by simp[ln]
        rw[this];exact .rfl
       ·have:ln d [[125,32,101,108,115,101,32,123]].flatten=Lib.repeatL [32,32] d++[125,32,101,108,115,101,32,123,10]:=by simp[ln]
        rw[this];exact .rfl
       ·have:ln d [[125]].flatten=Lib.repeatL [32,32] d++[125,10]:=by simp[ln]
        rw[this];exact .rfl)
      refine ⟨r,?_,k2⟩;refine (zaae (by first|omega|(simp only[List.length_append,List.length_cons,List.length_nil]; omega)) _ _).trans ?_;refine (zaae (by first|omega|(simp only[List.length_append,List.length_cons,List.length_nil]; omega)) _ _).trans ?_;refine (zaae (by first|omega|(simp only[List.length_append,List.length_cons,List.length_nil]; omega)) _ _).trans ?_;refine (zaae (by first|omega|(simp only[List.length_append,List.length_cons,List.length_nil]; omega)) _ _).trans ?_;refine (zaae (by first|omega|(simp only[List.length_append,List.length_cons,List.length_nil]; omega)) _ _).trans ?_;rw[e0,cond_true,b2,Option.bind_some,Option.bind_some];refine (zaae (by first|omega|(simp only[List.length_append,List.length_cons,List.length_nil]; omega)) _ _).trans ?_;refine (zaae (by first|omega|(simp only[List.length_append,List.length_cons,List.length_nil]; omega)) _ _).trans ?_;refine (zaae (by first|omega|(simp only[List.length_append,List.length_cons,List.length_nil]; omega)) _ _).trans ?_;rw[Option.bind_some];refine (zaae (by first|omega|(simp only[List.length_append,List.length_cons,List.length_nil]; omega)) _ _).trans ?_;refine (zaae (by first|omega|(simp only[List.length_append,List.length_cons,List.length_nil]; omega)) _ _).trans ?_;rw[← k1];simp only[List.append_assoc,List.cons_append,List.nil_append]
    |about q1 q2 _=>exfalso; dsimp only at h10; omega
    |_=>exact absurd h10 (by dsimp only; omega)
   ·have e10:(y.kind==10)=false:=by simpa using h10
    rw[e10];by_cases h11:y.kind=11
    ·have e11:(y.kind==11)=true:=by simp[h11]
     rw[e11];cases sF_sc hy with
     |@rep c t h0 h1 ht=>
      rw[nS_mk] at hny;obtain ⟨r1,b1,c1⟩:=hR t (d+1) (by omega) ht (by omega);have g1:=c1.le;have g2:=lenB ht (d:=d+1) (by omega);have li:=Lib.itoa_length_le c (by omega) (by omega);simp only[cond_true,cond_false];rw[b1,Option.bind_some,zake (by omega) (by omega),Option.bind_some];obtain ⟨r,k1,k2⟩:=go ((Lib.repeatL [32,32] d++[114,101,112,101,97,116,32]++Lib.itoa c++[32,123,10])++(r1++(Lib.repeatL [32,32] d++[125,10]))) (by
       rw[sT,if_neg (by decide),if_neg (by decide),if_neg (by decide),if_neg (by decide),if_neg (by decide),if_neg (by decide),if_pos (by exact Eq.refl (11:Int))];refine CutR.app ?_ (CutR.app c1 ?_)
       ·have:ln d [[114,101,112,101,97,116,32],Lib.itoa c,[32,123]].flatten=Lib.repeatL [32,32] d++[114,101,112,101,97,116,32]++Lib.itoa c++[32,123,10]:=by simp[ln]
        rw[this];exact .rfl
       ·have:ln d [[125]].flatten=Lib.repeatL [32,32] d++[125,10]:=by simp[ln]
        rw[this];exact .rfl)
      refine ⟨r,?_,k2⟩;refine (zaae (by first|omega|(simp only[List.length_append,List.length_cons,List.length_nil]; omega)) _ _).trans ?_;refine (zaae (by first|omega|(simp only[List.length_append,List.length_cons,List.length_nil]; omega)) _ _).trans ?_;refine (zaae (by first|omega|(simp only[List.length_append,List.length_cons,List.length_nil]; omega)) _ _).trans ?_;refine (zaae (by first|omega|(simp only[List.length_append,List.length_cons,List.length_nil]; omega)) _ _).trans ?_;refine (zaae (by first|omega|(simp only[List.length_append,List.length_cons,List.length_nil]; omega)) _ _).trans ?_;rw[Option.bind_some];refine (zaae (by first|omega|(simp only[List.length_append,List.length_cons,List.length_nil]; omega)) _ _).trans ?_;refine (zaae (by first|omega|(simp only[List.length_append,List.length_cons,List.length_nil]; omega)) _ _).trans ?_;rw[← k1];simp only[List.append_assoc,List.cons_append,List.nil_append]
     |about q1 q2 _=>exfalso; dsimp only at h11; omega
     |_=>exact absurd h11 (by dsimp only; omega)
    ·have e11:(y.kind==11)=false:=by simpa using h11
     rw[e11];obtain ⟨t,t1,t2,t3⟩:=zax9 R hy h10 h11 (by omega);simp only[cond_false];rw[t1,Option.bind_some];obtain ⟨r,k1,k2⟩:=go (Lib.repeatL [32,32] d++t++[10]) (by rw[t2]; exact .rfl);refine ⟨r,?_,k2⟩;refine (zaae (by first|omega|(simp only[List.length_append,List.length_cons,List.length_nil]; omega)) _ _).trans ?_;refine (zaae (by first|omega|(simp only[List.length_append,List.length_cons,List.length_nil]; omega)) _ _).trans ?_;refine (zaae (by first|omega|(simp only[List.length_append,List.length_cons,List.length_nil]; omega)) _ _).trans ?_;rw[← k1];simp only[List.append_assoc,List.cons_append,List.nil_append]
  ·rw[decide_eq_false (show ¬ ((a.length:Nat):Int)≤4000 by omega)];simp only[cond_true,Option.bind_some,cond_false];exact ⟨a,Eq.refl _,.inr ⟨by omega,by have:=ha.le; omega⟩⟩
theorem zaxr:∀ n N,N≤n→BlkR (qba_i n) N:=by
 intro n;induction n with
 |zero=>intro N h l d hl; omega
 |succ n ih=>
  intro N h l d hl hf hd;show ∃ r,qba_f (qba_i n) l (d:Int)=some r∧CutR r (sTs l d);unfold qba_f;rw[qba_l3,zaaa];have hll:=zant l;obtain ⟨r,h1,h2⟩:=zazf (ih n (Nat.le_refl _)) l d hf (by omega) hd l.length fuel 0 [] (by omega) (by unfold fuel; omega) (by rw[List.take_zero,sTs]; exact .rfl);have h1':qba_i3 (qba_i n) fuel l (d:Int) [] 0=_:=h1;rw[h1',Option.bind_some];exact ⟨r,Eq.refl _,h2⟩
theorem zaxo {l:List TStmt} {d:Nat} (hf:sFs l=true) (hd:d+nSs l≤1000000):∃ r,qba l (d:Int)=some r∧CutR r (sTs l d):=by
 rw[qba,zaaa];exact zaxr fuel fuel (Nat.le_refl _) l d (by unfold fuel; omega) hf hd
end Lift.A4
namespace Lift.A4
open Go Go.RowKit Lift Go.IntWalk Lift.Fn Lift.A1P Lift.A3
set_option linter.unusedVariables false
set_option linter.unusedSimpArgs false
theorem cutL {α τ:Type} (f:α→List UInt8) (l:List α) (P:List UInt8) (L:Nat→List UInt8→Int→Option τ) (e:List UInt8→τ)
  (h0:∀ n a (i:Nat),¬ (i<l.length∧a.length≤4000)→L (n+1) a (i:Int)=some (e a))
  (h1:∀ n a (i:Nat) x,a.length≤4000→i<l.length→l[i]? = some x→x∈l→∃ s,CutR s (f x)∧L (n+1) a (i:Int)=L n (a++s) ((i+1:Nat):Int)) :
  ∀ (k n i:Nat) (a:List UInt8),i+k=l.length→k<n→CutR a (P++(l.take i).flatMap f)→∃ r,L n a (i:Int)=some (e r)∧CutR r (P++l.flatMap f):=by
 intro k;induction k with
 |zero=>
  intro n i a hi hn ha;obtain ⟨n,rfl⟩:∃ m,n=m+1:=⟨n-1,by omega⟩;rw[List.take_of_length_le (by omega)] at ha;exact ⟨a,h0 n a i (by omega),ha⟩
 |succ k ih=>
  intro n i a hi hn ha;obtain ⟨n,rfl⟩:∃ m,n=m+1:=⟨n-1,by omega⟩;have hlt:i<l.length:=by omega
  by_cases h4:a.length≤4000
  ·have ha':a=P++(l.take i).flatMap f:=by
    rcases ha with h|h
    ·exact h
    ·omega
   obtain ⟨s,hs,e1⟩:=h1 n a i l[i] h4 hlt (List.getElem?_eq_getElem hlt) (List.getElem_mem hlt);rw[e1];refine ih n (i+1) (a++s) (by omega) (by omega) ?_;have htk:l.take (i+1)=l.take i++[l[i]]:=by rw[List.take_add_one,List.getElem?_eq_getElem hlt]; exact Eq.refl _
   rw[htk,List.flatMap_append,← List.append_assoc,← ha'];refine CutR.app .rfl ?_;rw[List.flatMap_cons,List.flatMap_nil,List.append_nil];exact hs
  ·refine ⟨a,h0 n a i (by omega),.inr ⟨by omega,?_⟩⟩;have hle:=ha.le;have:l.flatMap f=(l.take i).flatMap f++(l.drop i).flatMap f:=by rw[← List.flatMap_append,List.take_append_drop]
   rw[this];simp only[List.length_append] at hle ⊢;omega
theorem zapk {β:Type} (a:List UInt8) (i n:Nat) (h:¬ (i<n∧a.length≤4000)) (F:Bool→Option β):Option.bind (α:=Bool) (bif decide ((i:Int)<(n:Int)) then some (decide (((a.length:Nat):Int)≤4000)) else some false) F=F false:=by
 by_cases h1:i<n
 ·have h2:¬ a.length≤4000:=fun h2=>h ⟨h1,h2⟩
  rw[decide_eq_true (show (i:Int)<(n:Int) by omega),decide_eq_false (show ¬ ((a.length:Nat):Int)≤4000 by omega)];exact Eq.refl _
 ·rw[decide_eq_false (show ¬ (i:Int)<(n:Int) by omega)];exact Eq.refl _
theorem zaqt {β:Type} (a:List UInt8) (i n:Nat) (h1:i<n) (h2:a.length≤4000) (F:Bool→Option β):Option.bind (α:=Bool) (bif decide ((i:Int)<(n:Int)) then some (decide (((a.length:Nat):Int)≤4000)) else some false) F=F true:=by
 rw[decide_eq_true (show (i:Int)<(n:Int) by omega),decide_eq_true (show ((a.length:Nat):Int)≤4000 by omega)];exact Eq.refl _
theorem zayy (C:List TCell) (M:List (List UInt8)) (T:List TThread) (hl:C.all cOk=true) (hn:C.length≤100000000):∃ r,qa8_l6 [] 0 C M T=some (r,C,M,T)∧CutR r (C.flatMap cellT):=by
 have:=cutL cellT C [] (fun n a i=>qa8_i6 n a i C M T) (fun r=>(r,C,M,T)) (fun n a i h=>by
  show qa8_t6 (qa8_i6 n) a (i:Int) C M T=_;unfold qa8_t6;rw[zapk a i C.length h,cond_false]) (fun n a i x h4 hlt hx hm=>by
  obtain ⟨l1,l2,l3,l4⟩:=zaki x (List.all_eq_true.1 hl x hm);have l5:=zaav l2;have l6:=Lib.itoa_length_le x.init (by omega) (by omega);refine ⟨cellT x,.rfl,?_⟩;show qa8_t6 (qa8_i6 n) a (i:Int) C M T=_;unfold qa8_t6;rw[zaqt a i C.length hlt h4,cond_true,decide_eq_true (show (0:Int)≤(i:Int) by omega),Int.toNat_natCast,hx];refine (zaae (by first|omega|(simp only[List.length_append,List.length_cons,List.length_nil]; omega)) _ _).trans ?_;rw[cond_true,Option.bind_some];refine (zaae (by first|omega|(simp only[List.length_append,List.length_cons,List.length_nil]; omega)) _ _).trans ?_;refine (zaae (by first|omega|(simp only[List.length_append,List.length_cons,List.length_nil]; omega)) _ _).trans ?_;rw[cond_true,Option.bind_some,zake (by omega) (by omega),Option.bind_some];refine (zaae (by first|omega|(simp only[List.length_append,List.length_cons,List.length_nil]; omega)) _ _).trans ?_;refine (zaae (by first|omega|(simp only[List.length_append,List.length_cons,List.length_nil]; omega)) _ _).trans ?_;rw[show IntKind.wrap IntKind.i64 ((i:Int)+1)=((i+1:Nat):Int) by rw[i64_in _ (by omega)]; omega];have e:a++[99,101,108,108,32]++x.name++[32,61,32]++Lib.itoa x.init++[59,10]=a++cellT x:=by
   have e2:Lib.repeatL [(32:UInt8),32] 0=[]:=by exact Eq.refl _
   simp[cellT,ln,e2]
  rw[e]) C.length fuel 0 [] (by omega) (by unfold fuel; omega) (by exact .rfl)
 obtain ⟨r,h1,h2⟩:=this;rw[qa8_l6,zaaa];exact ⟨r,h1,h2⟩
theorem mutsR (C:List TCell) (M:List (List UInt8)) (T:List TThread) (P a0:List UInt8) (h0:CutR a0 P) (hl:M.all isNm=true) (hn:M.length≤100000000):∃ r,qa8_l10 a0 0 C M T=some (r,C,M,T)∧CutR r (P++M.flatMap mutT):=by
 have:=cutL mutT M P (fun n a i=>qa8_i10 n a i C M T) (fun r=>(r,C,M,T)) (fun n a i h=>by
  show qa8_t10 (qa8_i10 n) a (i:Int) C M T=_;unfold qa8_t10;rw[zapk a i M.length h,cond_false]) (fun n a i x h4 hlt hx hm=>by
  have l5:=zaav (List.all_eq_true.1 hl x hm);refine ⟨mutT x,.rfl,?_⟩;show qa8_t10 (qa8_i10 n) a (i:Int) C M T=_;unfold qa8_t10;rw[zaqt a i M.length hlt h4,cond_true,decide_eq_true (show (0:Int)≤(i:Int) by omega),Int.toNat_natCast,hx];refine (zaae (by first|omega|(simp only[List.length_append,List.length_cons,List.length_nil]; omega)) _ _).trans ?_;rw[cond_true,Option.bind_some];refine (zaae (by first|omega|(simp only[List.length_append,List.length_cons,List.length_nil]; omega)) _ _).trans ?_;refine (zaae (by first|omega|(simp only[List.length_append,List.length_cons,List.length_nil]; omega)) _ _).trans ?_;rw[show IntKind.wrap IntKind.i64 ((i:Int)+1)=((i+1:Nat):Int) by rw[i64_in _ (by omega)]; omega];have e:a++[109,117,116,101,120,32]++x++[59,10]=a++mutT x:=by
   have e2:Lib.repeatL [(32:UInt8),32] 0=[]:=by exact Eq.refl _
   simp[mutT,ln,e2]
  rw[e]) M.length fuel 0 a0 (by omega) (by unfold fuel; omega) (by rw[List.take_zero,List.flatMap_nil,List.append_nil]; exact h0)
 obtain ⟨r,h1,h2⟩:=this;rw[qa8_l10,zaaa];exact ⟨r,h1,h2⟩
theorem zauv:∀ {l:List TThread} {t:TThread},t∈l→cSs t.body≤cT l
 |x::l,t,h=>by
  rw[cT];rcases List.mem_cons.1 h with rfl|h
  ·omega
  ·have:=zauv h;omega
theorem thrsR (C:List TCell) (M:List (List UInt8)) (T:List TThread) (P a0:List UInt8) (h0:CutR a0 P) (hl:(T.all fun t=>isNm t.name&&sFs t.body)=true) (hn:T.length≤100000000) (hs:cT T≤500):∃ r,qa8_l14 a0 0 C M T=some r∧CutR r (P++T.flatMap thrT):=by
 have:=cutL thrT T P (fun n a i=>qa8_i14 n a i C M T) (fun r=>r) (fun n a i h=>by
  show qa8_t14 (qa8_i14 n) a (i:Int) C M T=_;unfold qa8_t14;rw[zapk a i T.length h,cond_false]) (fun n a i x h4 hlt hx hm=>by
  have hx2:=List.all_eq_true.1 hl x hm;rw[Bool.and_eq_true] at hx2;have l5:=zaav hx2.1;have l6:=zauv hm;have l7:=zaiu x.body;obtain ⟨r,b1,c1⟩:=zaxo (l:=x.body) (d:=1) hx2.2 (by omega);have l8:=c1.le;have l9:=lenB (l:=x.body) (d:=1) hx2.2 (by omega);refine ⟨([116,104,114,101,97,100,32]++x.name++[32,123,10])++(r++[125,10]),?_,?_⟩
  ·have e2:Lib.repeatL [(32:UInt8),32] 0=[]:=by exact Eq.refl _
   have e3:ln 0 [[116,104,114,101,97,100,32],x.name,[32,123]].flatten=[116,104,114,101,97,100,32]++x.name++[32,123,10]:=by simp[ln,e2]
   have e4:ln 0 [[125]].flatten=[125,10]:=by simp[ln,e2]
   unfold thrT;rw[e3,e4];exact CutR.app .rfl (CutR.app c1 .rfl)
  show qa8_t14 (qa8_i14 n) a (i:Int) C M T=_;unfold qa8_t14;have b1':qba x.body 1=some r:=b1;rw[zaqt a i T.length hlt h4,cond_true,decide_eq_true (show (0:Int)≤(i:Int) by omega),Int.toNat_natCast,hx,cond_true,Option.bind_some,b1',Option.bind_some];refine (zaae (by first|omega|(simp only[List.length_append,List.length_cons,List.length_nil]; omega)) _ _).trans ?_;rw[cond_true,Option.bind_some];refine (zaae (by first|omega|(simp only[List.length_append,List.length_cons,List.length_nil]; omega)) _ _).trans ?_;refine (zaae (by first|omega|(simp only[List.length_append,List.length_cons,List.length_nil]; omega)) _ _).trans ?_;refine (zaae (by first|omega|(simp only[List.length_append,List.length_cons,List.length_nil]; omega)) _ _).trans ?_;refine (zaae (by first|omega|(simp only[List.length_append,List.length_cons,List.length_nil]; omega)) _ _).trans ?_;rw[show IntKind.wrap IntKind.i64 ((i:Int)+1)=((i+1:Nat):Int) by rw[i64_in _ (by omega)]; omega];simp only[List.append_assoc,List.cons_append,List.nil_append]) T.length fuel 0 a0 (by omega) (by unfold fuel; omega) (by rw[List.take_zero,List.flatMap_nil,List.append_nil]; exact h0)
 obtain ⟨r,h1,h2⟩:=this;rw[qa8_l14,zaaa];exact ⟨r,h1,h2⟩
theorem zakz {α:Type} (f:α→List UInt8):∀ (l:List α),(∀ x∈l,1≤(f x).length)→l.length≤(l.flatMap f).length
 |[],_=>Nat.zero_le _
 |a::l,h=>by
  have h1:=h a List.mem_cons_self;have h2:=zakz f l fun x hx=>h x (List.mem_cons_of_mem _ hx)
  rw[List.flatMap_cons,List.length_append,List.length_cons];omega
theorem zaxv (p:TProg) (h:nT p.threads≤100000000) (h1:p.cells.length≤100000000) (h2:p.mutexes.length≤100000000) (h3:p.threads.length≤100000000):qa8 p=some (showV p):=by
 rw[qa8,zaaa];unfold qa8_f showV;rw[zafz,zav8 p h h1 h2,Option.bind_some];by_cases hr:zaco p=0
 ·have e:(zaco p != 0)=false:=by simp[hr]
  obtain ⟨r1,r2,r3⟩:=zanc hr;unfold pOk at r1;rw[Bool.and_eq_true,Bool.and_eq_true] at r1;obtain ⟨q1,q2,q3⟩:=r1;rw[e,cond_false,if_neg (by simp[hr])];obtain ⟨a1,b1,c1⟩:=zayy p.cells p.mutexes p.threads q1 h1;obtain ⟨a2,b2,c2⟩:=mutsR p.cells p.mutexes p.threads _ _ c1 q2 h2;obtain ⟨a3,b3,c3⟩:=thrsR p.cells p.mutexes p.threads _ _ c2 q3 h3 (by omega);rw[b1,Option.bind_some];dsimp only;rw[b2,Option.bind_some];dsimp only;rw[b3,Option.bind_some];have hp:p.cells.flatMap cellT++p.mutexes.flatMap mutT++p.threads.flatMap thrT=progT p:=by
   unfold progT;rw[List.append_assoc]
  rw[hp] at c3;have hle:=c3.le;have hmany:p.cells.length+p.mutexes.length+p.threads.length≤(progT p).length:=by
   unfold progT;have g1:=zakz cellT p.cells fun x _=>by unfold cellT; rw[zab0]; omega
   have g2:=zakz mutT p.mutexes fun x _=>by unfold mutT; rw[zab0]; omega
   have g3:=zakz thrT p.threads fun x _=>by unfold thrT; rw[List.length_append,zab0]; omega
   simp only[List.length_append];omega
  have hiff:a3.length>4000↔(progT p).length>4000:=by
   rcases c3 with e|h
   ·rw[e]
   ·omega
  by_cases hl:(progT p).length>4000
  ·have:=hiff.2 hl;rw[decide_eq_true (by omega),cond_true];by_cases hm:p.cells.length+p.mutexes.length+p.threads.length>4000
   ·rw[if_pos hm]
   ·rw[if_neg hm,if_pos hl]
  ·have hle2:¬ a3.length>4000:=fun h=>hl (hiff.1 h)
   have he:a3=progT p:=by
    rcases c3 with e|h
    ·exact e
    ·omega
   rw[decide_eq_false (by omega),cond_false,if_neg (by omega),if_neg hl,he]
 ·have e:(zaco p != 0)=true:=by simpa using hr
  rw[e,cond_true,if_pos hr]
theorem zar3 (p:TProg) (h:nT p.threads≤100000000) (h1:p.cells.length≤100000000) (h2:p.mutexes.length≤100000000) (h3:p.threads.length≤100000000):qar p=some true:=by
 rw[qar,zaaa];unfold qar_f;have hs:qbk (TProg.mk p.cells p.mutexes p.threads)=some (showV p):=showW p h h1 h2 h3;have hr:qa8 (TProg.mk p.cells p.mutexes p.threads)=some (showV p):=zaxv p h h1 h2 h3;have hsame:qaX (TProg.mk p.cells p.mutexes p.threads) (TProg.mk p.cells p.mutexes p.threads)=some true:=by
  have:=zays p p h h1 h2;rw[zayp] at this;exact this
 have hc:qaM (TProg.mk p.cells p.mutexes p.threads)=some (p.cells,p.mutexes,p.threads):=zax4 p h h1 h2;rw[zay2,Option.bind_some,hc,Option.bind_some,hr,Option.bind_some];dsimp only;rw[hs,Option.bind_some,hsame];simp
end Lift.A4
namespace Lift.A4
open Go Go.RowKit Lift Lift.Fn Lift.A3
set_option linter.unusedVariables false
theorem zabe {u:Uni} {c:TV u.U} {cs:List (TV u.U)} {N:Nat} (h:SizedL u (c::cs) N):∃ a b,Sized u c a∧SizedL u cs b∧a+b+1≤N:=by
 cases h with
 |cons _ _ a b _ h1 h2 h3=>exact ⟨a,b,h1,h2,h3⟩
mutual
theorem szE:∀ (x:TExpr) (N:Nat),Sized Q4.kk.u ⟨.st 50,x⟩ N→nE x≤N
 |⟨k,n,m,l⟩,N,h=>by
  have h1:SizedL Q4.kk.u [⟨.int .i64,k⟩,⟨.int .i64,n⟩,⟨.str,m⟩,⟨.slc (.st 50),l⟩] N:=h.st_inv;obtain ⟨a1,b1,_,h1,e1⟩:=zabe h1;obtain ⟨a2,b2,_,h2,e2⟩:=zabe h1;obtain ⟨a3,b3,_,h3,e3⟩:=zabe h2;obtain ⟨a4,b4,s4,h4,e4⟩:=zabe h3;have:=szEs l a4 s4.slc_inv;rw[nE];omega
theorem szEs:∀ (l:List TExpr) (N:Nat),SizedL Q4.kk.u (l.map (TV.mk (.st 50))) N→nEs l≤N
 |[],N,h=>by simp[nEs]
 |x::l,N,h=>by
  obtain ⟨a,b,h1,h2,e⟩:=zabe h;have:=szE x a h1;have:=szEs l b h2;rw[nEs];omega
end
mutual
theorem szS:∀ (x:TStmt) (N:Nat),Sized Q4.kk.u ⟨.st 52,x⟩ N→nS x≤N
 |⟨k,r,m,⟨k',n',m',l'⟩,c,t,o⟩,N,h=>by
  have h1:SizedL Q4.kk.u [⟨.int .i64,k⟩,⟨.str,r⟩,⟨.str,m⟩,⟨.int .i64,k'⟩,⟨.int .i64,n'⟩,⟨.str,m'⟩,⟨.slc (.st 50),l'⟩,⟨.int .i64,c⟩,⟨.slc (.st 52),t⟩,⟨.slc (.st 52),o⟩] N:=h.st_inv;obtain ⟨a1,b1,_,h1,e1⟩:=zabe h1;obtain ⟨a2,b2,_,h2,e2⟩:=zabe h1;obtain ⟨a3,b3,_,h3,e3⟩:=zabe h2;obtain ⟨a4,b4,_,h4,e4⟩:=zabe h3;obtain ⟨a5,b5,_,h5,e5⟩:=zabe h4;obtain ⟨a6,b6,_,h6,e6⟩:=zabe h5;obtain ⟨a7,b7,s7,h7,e7⟩:=zabe h6;obtain ⟨a8,b8,_,h8,e8⟩:=zabe h7;obtain ⟨a9,b9,s9,h9,e9⟩:=zabe h8;obtain ⟨a10,b10,s10,h10,e10⟩:=zabe h9;have:=szEs l' a7 s7.slc_inv;have:=szSs t a9 s9.slc_inv;have:=szSs o a10 s10.slc_inv;rw[nS,nE];omega
theorem szSs:∀ (l:List TStmt) (N:Nat),SizedL Q4.kk.u (l.map (TV.mk (.st 52))) N→nSs l≤N
 |[],N,h=>by simp[nSs]
 |x::l,N,h=>by
  obtain ⟨a,b,h1,h2,e⟩:=zabe h;have:=szS x a h1;have:=szSs l b h2;rw[nSs];omega
end
theorem szT:∀ (l:List TThread) (N:Nat),SizedL Q4.kk.u (l.map (TV.mk (.st 46))) N→nT l≤N
 |[],N,h=>by simp[nT]
 |⟨m,t⟩::l,N,h=>by
  obtain ⟨a,b,h1,h2,e⟩:=zabe h;have h3:SizedL Q4.kk.u [⟨.str,m⟩,⟨.slc (.st 52),t⟩] a:=h1.st_inv;obtain ⟨a1,b1,_,h3,e1⟩:=zabe h3;obtain ⟨a2,b2,s2,h4,e2⟩:=zabe h3;have:=szSs t a2 s2.slc_inv;have:=szT l b h2;rw[nT];show 1+nSs t+nT l≤N;omega
structure Small (y:TProg):Prop where
 t:nT y.threads≤100000000
 c:y.cells.length≤100000000
 m:y.mutexes.length≤100000000
theorem small (y:TProg) (h:Sized Q4.kk.u ⟨.st 27,y⟩ 1048576):Small y:=by
 obtain ⟨c,m,t⟩:=y;have h1:SizedL Q4.kk.u [⟨.slc (.st 62),c⟩,⟨.slc .str,m⟩,⟨.slc (.st 46),t⟩] 1048576:=h.st_inv;obtain ⟨a1,b1,s1,h1,e1⟩:=zabe h1;obtain ⟨a2,b2,s2,h2,e2⟩:=zabe h1;obtain ⟨a3,b3,s3,h3,e3⟩:=zabe h2;have:=s1.slc_len;have:=s2.slc_len;have:=szT t a3 s3.slc_inv;have q1:c.length≤a1:=s1.slc_len;have q2:m.length≤a2:=s2.slc_len;exact ⟨by show nT t≤_; omega,by show c.length≤_; omega,by show m.length≤_; omega⟩
theorem zawp {p:TProg} (h:Small p):p.threads.length≤100000000:=Nat.le_trans (zad1 p.threads) h.t
end Lift.A4
namespace Lift.A4
open Go Go.RowKit Lift Go.IntWalk Lift.Fn Lift.A1P Lift.A3
theorem showWrites1 (p:TProg) (h:Small p):qar p=some true:=zar3 p h.t h.c h.m (zawp h)
end Lift.A4
