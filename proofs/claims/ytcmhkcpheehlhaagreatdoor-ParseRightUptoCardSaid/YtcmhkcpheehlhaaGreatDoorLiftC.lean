/-
  DERIVED. A function's code, evaluated: whole functions, and from a computed answer to a law; library functions. Conditions: none.
-/
import Derived.Test.YtcmhkcpheehlhaaGreatDoorLiftB
import Derived.Laws.StructEq
import Derived.Recover
import Derived.Lib.Join
import Derived.Lib.IndexMore
import Derived.Lib.AtoiAll
import Derived.Lib.RuneCount
import Derived.Shelf.Unicode.DecodeSlow
import Derived.Lib.ValidU
import Derived.Lib.SlTrimSet
import Derived.Lib.ItoaNum
import Derived.Lib.Split
import Derived.Lib.Repeat
import Derived.ChangeSlices
import Derived.Carry
import Derived.Shelf.Strings.OnBuilder
import Derived.Shelf.Strings.Search3
import Derived.Shelf.Strconv.AtoiAll
import Derived.Shelf.Unicode.DecodeAny
import Derived.Shelf.Unicode.ValidAny
import Derived.Shelf.Utf8.RuneCount
import Derived.Shelf.Strings.SlTrimAscii
import Derived.Lib.SmallJoins
import Derived.Shelf.Strings.Builder1
import Derived.Shelf.Strconv.Itoa3
import Derived.Shelf.Strings.Cut
import Derived.Shelf.Strings.Split
import Derived.Lib.AppendIntMem
import Derived.Lib.LaidU8
import Derived.Shelf.Strings.Repeat
set_option linter.unusedVariables false
set_option linter.unusedSimpArgs false
set_option linter.unusedSectionVars false
namespace Lift
open Go Go.RowKit
section
variable {U:Nat->Type}
def St.put (σ:St U) (dst:Option Nat) (p:PV U) (up:Ups U):St U:=⟨match dst with|some d=>(d,p)::σ.tm|none=>σ.tm,up++σ.st⟩
def St.pan (σ:St U) (p:PV U) (up:Ups U):St U:=⟨(zaax,p)::σ.tm,up++σ.st⟩
def St.lit (σ:St U) (s:Nat) (b:Bool):St U:=⟨(s,.t ⟨.bool,b⟩)::σ.tm,σ.st⟩
def St.eqv (σ τ:St U):Prop:=look σ.tm=look τ.tm/\look σ.st=look τ.st
end
structure Rec where
 i:Nat
 sl:List Nat
 d:Option Nat
 F:List Nat
 W:List Nat
def zajg (l:List Operand):List Nat:=l.filterMap fun|.tmp t=>some t|_=>none
def dstOk (nt:Nat):Option Nat->Bool
 |some d=>Nat.blt d nt
 |none=>true
section
variable (K:Kit) {R:Type}
def mkRec (i:Nat) (o:Oper) (tm:Nat->Option (PV K.u.U)) (gs:Option Nat) (up:Ups K.u.U):Rec:=
 { i,sl:=zajg o.op.operands.toList++gs.toList,d:=o.dst,F:=foot K o tm++up.map (·.1),W:=up.map (·.1) }
def Kit.opIf (i:Nat) (o:Oper) (s:Nat) (want b:Bool) (σ:St K.u.U) (c:St K.u.U->Rec->Option R):Option R:=
 if b=want then K.step o (look (σ.lit s b).tm) (look (σ.lit s b).st) fun p up=>c ((σ.lit s b).put o.dst p up) (mkRec K i o (look (σ.lit s b).tm) (some s) up)
 else c ((σ.lit s b).put o.dst (.tup []) []) (mkRec K i o (look (σ.lit s b).tm) (some s) [])
def Kit.op (nt:Nat) (full:List Oper) (i:Nat) (σ:St K.u.U) (c:St K.u.U->Rec->Option R):Option R:=
 match full[i]? with
 |none=>none
 | some o => bif dstOk nt o.dst then
   match o.guard with
   |none=>K.step o (look σ.tm) (look σ.st) fun p up=>c (σ.put o.dst p up) (mkRec K i o (look σ.tm) none up)
   |some (j,want)=>match (full[j]?).bind (·.dst) with
    |none=>none
    |some s=>match look σ.tm s with
     |some (.t ⟨.bool,b⟩)=>bif b then K.opIf i o s want true σ c else K.opIf i o s want false σ c
     |some (.tup [])=>c (σ.put o.dst (.tup []) []) (mkRec K i o (look σ.tm) (some s) [])
     |_=>none
  else none
def Kit.opIfP (o:Oper) (s:Nat) (want b:Bool) (σ:St K.u.U) (c pc:St K.u.U->Option R):Option R:=
 if b=want then K.stepP o (look (σ.lit s b).tm) (look (σ.lit s b).st) (fun p up=>c ((σ.lit s b).put o.dst p up)) (fun p up=>pc ((σ.lit s b).pan p up))
 else c ((σ.lit s b).put o.dst (.tup []) [])
def Kit.opP (nt:Nat) (full:List Oper) (i:Nat) (σ:St K.u.U) (c pc:St K.u.U->Option R):Option R:=
 match full[i]? with
 |none=>none
 | some o => bif dstOk nt o.dst then
   match o.guard with
   |none=>K.stepP o (look σ.tm) (look σ.st) (fun p up=>c (σ.put o.dst p up)) (fun p up=>pc (σ.pan p up))
   |some (j,want)=>match (full[j]?).bind (·.dst) with
    |none=>none
    |some s=>match look σ.tm s with
     |some (.t ⟨.bool,b⟩)=>bif b then K.opIfP o s want true σ c pc else K.opIfP o s want false σ c pc
     |some (.tup [])=>c (σ.put o.dst (.tup []) [])
     |_=>none
  else none
def Kit.ops (nt:Nat) (full:List Oper):List Nat->St K.u.U->List Rec->(St K.u.U->List Rec->Option R)->Option R
 |[],σ,rs,c=>c σ rs
 |i::l,σ,rs,c=>K.op nt full i σ fun σ' r=>Kit.ops nt full l σ' (r::rs) c
def Rel (V:Env) (B:Base) (nt:Nat) (σ:St K.u.U) (a:Act) (w:World):Prop:=
 ∃ G β,Inv K V B G (look σ.st) β w/\TmOk K G (look σ.st) β (look σ.tm) a/\a.tmps.size=nt/\a.defers=B.ds
def RelP (V:Env) (B:Base) (nt:Nat) (σ:St K.u.U) (v:Value) (a:Act) (w:World):Prop:=
 ∃ G β,Inv K V B G (look σ.st) β w/\(∃ p,look σ.tm zaax=some p/\PRel K G (look σ.st) β p v)/\(∀ s p,s≠zaax->look σ.tm s=some p->∃ u,a.tmps[s]? = some u/\PRel K G (look σ.st) β p u)/\a.tmps.size=nt/\a.defers=B.ds
variable {K} {V:Env} {B:Base} {nt:Nat}
theorem St.eqv.refl {U:Nat->Type} (σ:St U):σ.eqv σ:=⟨rfl,rfl⟩
theorem St.eqv.symm {U:Nat->Type} {σ τ:St U} (h:σ.eqv τ):τ.eqv σ:=⟨h.1.symm,h.2.symm⟩
theorem St.eqv.trans {U:Nat->Type} {σ τ ρ:St U} (h:σ.eqv τ) (h':τ.eqv ρ):σ.eqv ρ:=⟨h.1.trans h'.1,h.2.trans h'.2⟩
theorem zacn {U:Nat->Type} {σ:St U} {dst:Option Nat} {p:PV U} {up:Ups U} (s:Nat):look (σ.put dst p up).tm s=if dst=some s then some p else look σ.tm s:=by
 cases dst with
 |none=>simp[St.put]
 |some d=>
  simp only[St.put,zaaf,qk];by_cases h:s=d
  ·subst h; simp
  ·simp[h,Ne.symm h]
theorem St.eqv.put {U:Nat->Type} {σ τ:St U} (h:σ.eqv τ) (dst:Option Nat) (p:PV U) (up:Ups U):(σ.put dst p up).eqv (τ.put dst p up):=by
 refine ⟨funext fun s=>?_,funext fun s=>?_⟩
 ·rw[zacn,zacn,h.1]
 ·show look (up++σ.st) s=look (up++τ.st) s;rw[zab6,zab6,h.2]
theorem Rel.eqv {σ τ:St K.u.U} {a:Act} {w:World} (h:Rel K V B nt σ a w) (he:σ.eqv τ):Rel K V B nt τ a w:=by
 obtain ⟨G,β,h1,h2,h3,h4⟩:=h;refine ⟨G,β,?_,?_,h3,h4⟩
 ·rw[<-he.2]; exact h1
 ·rw[<-he.1,<-he.2]; exact h2
theorem zady {U:Nat->Type} {σ:St U} {s:Nat} {b:Bool} (h:look σ.tm s=some (.t ⟨.bool,b⟩)):(σ.lit s b).eqv σ:=by
 refine ⟨funext fun i=>?_,rfl⟩;simp only[St.lit,zaaf];split
 ·rename_i hi; subst hi; exact h.symm
 ·rfl
theorem TmOk.put {G G':Nat->Option Obj} {σ:St K.u.U} {β β':Nat->Gh} {a:Act} {dst:Option Nat} {p:PV K.u.U} {up:Ups K.u.U} {v:Value} (h:TmOk K G (look σ.st) β (look σ.tm) a) (hs:a.tmps.size=nt) (hd:dstOk nt dst=true)
  (hc:Comp K G G' (look σ.st) β (look (up++σ.st)) β') (hp:PRel K G' (look (up++σ.st)) β' p v):TmOk K G' (look (σ.put dst p up).st) β' (look (σ.put dst p up).tm) (a.put dst v)/\(a.put dst v).tmps.size=nt:=by
 have hst:(σ.put dst p up).st=up++σ.st:=rfl;rw[hst];cases dst with
 |none=>
  refine ⟨fun s q hq=>?_,hs⟩;obtain ⟨u,h1,h2⟩:=h s q hq;exact ⟨u,h1,h2.over hc⟩
 |some d=>
  have hd':d<a.tmps.size:=by
   rw[hs];simpa [dstOk] using hd
  refine ⟨fun s q hq=>?_,by simp[Act.put,hs]⟩;rw[zacn] at hq;by_cases e:d=s
  ·subst e;simp at hq;subst hq;exact ⟨v,by simp[Act.put,hd'],hp⟩
  ·simp[e] at hq;obtain ⟨u,h1,h2⟩:=h s q hq;exact ⟨u,by simp[Act.put,Array.getElem?_setIfInBounds_ne e,h1],h2.over hc⟩
theorem zaer (a:Act) (dst:Option Nat) (v:Value):(a.put dst v).defers=a.defers:=by cases dst<;>rfl
def Keeps {U:Nat->Type} (d:Option Nat) (σ σ':St U):Prop:=(∀ s,d≠some s->look σ'.tm s=look σ.tm s)/\∃ l,σ'.st=l++σ.st
theorem Keeps.put {U:Nat->Type} {σ1 σ:St U} (h1:look σ1.tm=look σ.tm) (h2:σ1.st=σ.st) {d:Option Nat} {p:PV U} {up:Ups U}:Keeps d σ (σ1.put d p up):=
 ⟨fun s hs=>by rw[zacn,if_neg hs,h1],up,by simp[St.put,h2]⟩
theorem zape (hK:KitOk K V) {ops:Array Oper} {i:Nat} {σ:St K.u.U} {c:St K.u.U->Rec->Option R} {r:R} (h:K.op nt ops.toList i σ c=some r) {a:Act} {w:World} (hr:Rel K V B nt σ a w)
  {Kp:Act->World->Prop} {Q:Exit->Act->World->Prop} (hk:∀ σ' rec a' w',c σ' rec=some r->Keeps ((ops[i]?).bind (·.dst)) σ σ'->Rel K V B nt σ' a' w'->Kp a' w'):wpOp K.P ops Q i Kp a w:=by
 unfold Kit.op at h;unfold wpOp;have hfull:ops.toList[i]? = ops[i]? := by simp
 rw[hfull] at h;cases ho:ops[i]? with
 |none=>rw[ho] at h; cases h
 |some o=>
  rw[ho] at h;simp only at h ⊢;have hd:dstOk nt o.dst=true:=by
   cases hb:dstOk nt o.dst with
   |true=>rfl
   |false=>rw[hb] at h; cases h
  rw[hd,qg] at h;have run:∀ (σ1:St K.u.U) (gs:Option Nat),look σ1.tm=look σ.tm->σ1.st=σ.st->Rel K V B nt σ1 a w->(K.step o (look σ1.tm) (look σ1.st) fun p up=>c (σ1.put o.dst p up) (mkRec K i o (look σ1.tm) gs up))=some r->o.wp K.P a w Kp Q:=by
   intro σ1 gs e1 e2 hr h;obtain ⟨G,β,h1,h2,h3,h4⟩:=hr;refine zag2 hK h1 h2 h (fun p up v w' G' β' hc hI hcomp hp=>?_);obtain ⟨t1,t2⟩:=h2.put h3 hd hcomp hp;exact hk _ _ _ _ hc (by rw[ho]; exact Keeps.put e1 e2) ⟨G',β',hI,t1,t2,by rw[zaer]; exact h4⟩
  cases hg:o.guard with
  |none=>
   rw[hg] at h;have hw:Region.wanted o (yielded ops a.tmps)=true:=by simp[Region.wanted,hg]
   rw[if_pos hw];exact .inl (run σ none rfl rfl hr h)
  |some g=>
   obtain ⟨j,want⟩:=g;rw[hg] at h;simp only at h;have hj:ops.toList[j]? = ops[j]? := by simp
   rw[hj] at h;cases hs:(ops[j]?).bind (·.dst) with
   |none=>rw[hs] at h; cases h
   |some s=>
    rw[hs] at h;simp only at h;split at h
    ·rename_i b hb;have h':K.opIf i o s want b σ c=some r:=by cases b<;>exact h
     have hr':=hr;obtain ⟨G,β,h1,h2,h3,h4⟩:=hr;obtain ⟨v,hv1,hv2⟩:=h2 s _ hb;simp only[PRel] at hv2;have hv:=hv2.bool_inv;subst hv;have hy:yielded ops a.tmps j=some b:=by simp[yielded,hs,hv1]
     have hrl:=hr'.eqv (zady hb).symm;unfold Kit.opIf at h';by_cases hbw:b=want
     ·rw[if_pos hbw] at h';have hw:Region.wanted o (yielded ops a.tmps)=true:=by simp[Region.wanted,hg,hy,hbw]
      rw[if_pos hw];exact .inl (run (σ.lit s b) (some s) (zady hb).1 rfl hrl h')
     ·rw[if_neg hbw] at h';have hw:¬ Region.wanted o (yielded ops a.tmps)=true:=by simp[Region.wanted,hg,hy,hbw]
      rw[if_neg hw];obtain ⟨G,β,h1,h2,h3,h4⟩:=hrl;obtain ⟨t1,t2⟩:=h2.put (up:=[]) (p:=.tup []) (v:=undef) h3 hd Comp.refl (by simp only[PRel,PsRel]; exact ⟨[],rfl,rfl⟩);exact hk _ _ _ _ h' (by rw[ho]; exact Keeps.put (zady hb).1 rfl) ⟨G,β,h1,t1,t2,by rw[zaer]; exact h4⟩
    ·rename_i hb;obtain ⟨G,β,h1,h2,h3,h4⟩:=hr;obtain ⟨v,hv1,hv2⟩:=h2 s _ hb;simp only[PRel,PsRel] at hv2;obtain ⟨vs,hv2,rfl⟩:=hv2;subst hv2;have hy:yielded ops a.tmps j=none:=by simp[yielded,hs,hv1]
     have hw:¬ Region.wanted o (yielded ops a.tmps)=true:=by simp[Region.wanted,hg,hy]
     rw[if_neg hw];obtain ⟨t1,t2⟩:=h2.put (up:=[]) (p:=.tup []) (v:=undef) h3 hd Comp.refl (by simp only[PRel,PsRel]; exact ⟨[],rfl,rfl⟩);exact hk _ _ _ _ h (by rw[ho]; exact Keeps.put rfl rfl) ⟨G,β,h1,t1,t2,by rw[zaer]; exact h4⟩
    ·cases h
theorem zae2 (hK:KitOk K V) {ops:Array Oper} {i:Nat} {σ:St K.u.U} {c:St K.u.U->Rec->Option R} {r:R} (h:K.op nt ops.toList i σ c=some r) {a:Act} {w:World} (hr:Rel K V B nt σ a w)
  {Kp:Act->World->Prop} {Q:Exit->Act->World->Prop} (hk:∀ σ' rec a' w',c σ' rec=some r->Rel K V B nt σ' a' w'->Kp a' w'):wpOp K.P ops Q i Kp a w:=
 zape hK h hr fun σ' rec a' w' h1 _ h2=>hk σ' rec a' w' h1 h2
theorem zao8 (hK:KitOk K V) {ops:Array Oper}:∀ {l:List Nat} {σ:St K.u.U} {rs:List Rec} {c:St K.u.U->List Rec->Option R} {r:R},K.ops nt ops.toList l σ rs c=some r->∀ {a:Act} {w:World},Rel K V B nt σ a w ->
  ∀ {Q:Exit->Act->World->Prop},(∀ σ' rs' a' w',c σ' rs'=some r->Rel K V B nt σ' a' w'->Q .normal a' w')->wpOps K.P ops Q l a w
 |[],σ,rs,c,r,h,a,w,hr,Q,hk=>by simp only[wpOps]; exact hk _ _ _ _ h hr
 |i::l,σ,rs,c,r,h,a,w,hr,Q,hk=>by
  rw[wpOps_cons];simp only[Kit.ops] at h;exact zae2 hK h hr (fun σ' rec a' w' hc hr'=>zao8 hK hc hr' hk)
theorem zau1 (hK:KitOk K V) {ops:Array Oper} {i:Nat} {σ:St K.u.U} {c pc:St K.u.U->Option R} {r:R} (h:K.opP nt ops.toList i σ c pc=some r) {a:Act} {w:World} (hr:Rel K V B nt σ a w)
  {Kp:Act->World->Prop} {Q:Exit->Act->World->Prop} (hp:∀ σ' v w',pc σ'=some r->RelP K V B nt σ' v a w'->Q (.panic [{ v:=v,recovered:=false }]) a w') (hk:∀ σ' a' w',c σ'=some r->Keeps ((ops[i]?).bind (·.dst)) σ σ'->Rel K V B nt σ' a' w'->Kp a' w'):wpOp K.P ops Q i Kp a w:=by
 unfold Kit.opP at h;unfold wpOp;have hfull:ops.toList[i]? = ops[i]? := by simp
 rw[hfull] at h;cases ho:ops[i]? with
 |none=>rw[ho] at h; cases h
 |some o=>
  rw[ho] at h;simp only at h ⊢;have hd:dstOk nt o.dst=true:=by
   cases hb:dstOk nt o.dst with
   |true=>rfl
   |false=>rw[hb] at h; cases h
  rw[hd,qg] at h;have run:∀ (σ1:St K.u.U),look σ1.tm=look σ.tm->σ1.st=σ.st->Rel K V B nt σ1 a w->(K.stepP o (look σ1.tm) (look σ1.st) (fun p up=>c (σ1.put o.dst p up)) (fun p up=>pc (σ1.pan p up)))=some r->o.wp K.P a w Kp Q:=by
   intro σ1 e1 e2 hr h;obtain ⟨G,β,h1,h2,h3,h4⟩:=hr;refine zalo hK h1 h2 h (fun p up v w' G' β' hc hI hcomp hp=>?_) (fun p up v w' G' β' hc hI hcomp hpr=>?_)
   ·obtain ⟨t1,t2⟩:=h2.put h3 hd hcomp hp;exact hk _ _ _ hc (by rw[ho]; exact Keeps.put e1 e2) ⟨G',β',hI,t1,t2,by rw[zaer]; exact h4⟩
   ·refine hp _ v w' hc ⟨G',β',hI,⟨p,by simp[St.pan,zaaf],hpr⟩,fun s q hs hq=>?_,h3,h4⟩;simp only[St.pan,zaaf,if_neg hs] at hq;obtain ⟨u,u1,u2⟩:=h2 s q hq;exact ⟨u,u1,u2.over hcomp⟩
  cases hg:o.guard with
  |none=>
   rw[hg] at h;have hw:Region.wanted o (yielded ops a.tmps)=true:=by simp[Region.wanted,hg]
   rw[if_pos hw];exact .inl (run σ rfl rfl hr h)
  |some g=>
   obtain ⟨j,want⟩:=g;rw[hg] at h;simp only at h;have hj:ops.toList[j]? = ops[j]? := by simp
   rw[hj] at h;cases hs:(ops[j]?).bind (·.dst) with
   |none=>rw[hs] at h; cases h
   |some s=>
    rw[hs] at h;simp only at h;split at h
    ·rename_i b hb;have h':K.opIfP o s want b σ c pc=some r:=by cases b<;>exact h
     have hr':=hr;obtain ⟨G,β,h1,h2,h3,h4⟩:=hr;obtain ⟨v,hv1,hv2⟩:=h2 s _ hb;simp only[PRel] at hv2;have hv:=hv2.bool_inv;subst hv;have hy:yielded ops a.tmps j=some b:=by simp[yielded,hs,hv1]
     have hrl:=hr'.eqv (zady hb).symm;unfold Kit.opIfP at h';by_cases hbw:b=want
     ·rw[if_pos hbw] at h';have hw:Region.wanted o (yielded ops a.tmps)=true:=by simp[Region.wanted,hg,hy,hbw]
      rw[if_pos hw];exact .inl (run (σ.lit s b) (zady hb).1 rfl hrl h')
     ·rw[if_neg hbw] at h';have hw:¬ Region.wanted o (yielded ops a.tmps)=true:=by simp[Region.wanted,hg,hy,hbw]
      rw[if_neg hw];obtain ⟨G,β,h1,h2,h3,h4⟩:=hrl;obtain ⟨t1,t2⟩:=h2.put (up:=[]) (p:=.tup []) (v:=undef) h3 hd Comp.refl (by simp only[PRel,PsRel]; exact ⟨[],rfl,rfl⟩);exact hk _ _ _ h' (by rw[ho]; exact Keeps.put (zady hb).1 rfl) ⟨G,β,h1,t1,t2,by rw[zaer]; exact h4⟩
    ·rename_i hb;obtain ⟨G,β,h1,h2,h3,h4⟩:=hr;obtain ⟨v,hv1,hv2⟩:=h2 s _ hb;simp only[PRel,PsRel] at hv2;obtain ⟨vs,hv2,rfl⟩:=hv2;subst hv2;have hy:yielded ops a.tmps j=none:=by simp[yielded,hs,hv1]
     have hw:¬ Region.wanted o (yielded ops a.tmps)=true:=by simp[Region.wanted,hg,hy]
     rw[if_neg hw];obtain ⟨t1,t2⟩:=h2.put (up:=[]) (p:=.tup []) (v:=undef) h3 hd Comp.refl (by simp only[PRel,PsRel]; exact ⟨[],rfl,rfl⟩);exact hk _ _ _ h (by rw[ho]; exact Keeps.put rfl rfl) ⟨G,β,h1,t1,t2,by rw[zaer]; exact h4⟩
    ·cases h
end
def zabd (ops:List Oper) (y:Nat):List Nat:=match ops[y]? with
 |some o=>(o.after.toList.filter fun e=>Region.binds .any e).map (·.on)
 |none=>[]
def ancOf (ops:List Oper):Nat->Nat->List Nat
 |0,_=>[]
 |f+1,y=>(zabd ops y).flatMap fun e=>e::ancOf ops f e
def zam2 (l m:List Nat):Bool:=l.all fun x=>!m.elem x
def Rec.indep (x y:Rec):Bool:=
 (match x.d with|some d=>!y.sl.elem d&&(match y.d with|some d'=>!Nat.beq d d'|none=>true)|none=>true) &&
 (match y.d with|some d=>!x.sl.elem d|none=>true)&&zam2 x.W y.F&&zam2 y.W x.F
def zae9 (ops:List Oper):List Rec->Bool
 |[]=>true
 |y::rs=>(rs.all fun x=>(zabd ops y.i).elem x.i||(x.indep y||(ancOf ops ops.length y.i).elem x.i))&&zae9 ops rs
theorem zawv {ops:List Oper} {y x:Nat} (h:x∈zabd ops y):x∈ancOf ops ops.length y:=by
 have hl:∃ n,ops.length=n+1:=by
  cases ops with
  |nil=>simp[zabd] at h
  |cons a l=>exact ⟨l.length,rfl⟩
 obtain ⟨n,hn⟩:=hl;rw[hn];exact List.mem_flatMap.2 ⟨x,h,List.mem_cons_self⟩
theorem zat1 {ops:List Oper} {x y:Rec} (h:((zabd ops y.i).elem x.i||(x.indep y||(ancOf ops ops.length y.i).elem x.i))=true):((ancOf ops ops.length y.i).elem x.i||x.indep y)=true:=by
 simp only[Bool.or_eq_true,List.elem_eq_mem,qj] at h ⊢;rcases h with h|h|h
 ·exact .inl (zawv h)
 ·exact .inr h
 ·exact .inl h
def zads (ops:List Oper):Bool:=(List.range ops.length).all fun y=>(zabd ops y).all fun e=>Nat.blt e y
section
variable {K:Kit} {R R':Type} {V:Env} {B:Base} {nt:Nat} {full:List Oper}
theorem zazb {i:Nat} {σ:St K.u.U} {c:St K.u.U->Rec->Option R}:K.op nt full i σ c=(K.op nt full i σ fun σ' r=>some (σ',r)).bind fun x=>c x.1 x.2:=by
 unfold Kit.op;cases full[i]? with
 |none=>rfl
 |some o=>
  simp only[zaas,xb];congr 1;cases o.guard with
  |none=>simp only[]; rw[zagz]; rfl
  |some g=>
   obtain ⟨j,want⟩:=g;simp only[];cases (full[j]?).bind (·.dst) with
   |none=>rfl
   |some s=>
    simp only[];have e:∀ b,K.opIf i o s want b σ c=(K.opIf i o s want b σ fun σ' r=>some (σ',r)).bind fun x=>c x.1 x.2:=by
     intro b;unfold Kit.opIf;rw[zaa1];congr 1;rw[zagz];rfl
    split
    ·rw[zaas,<-e,<-e]
    ·rfl
    ·rfl
def run1 (K:Kit) (nt:Nat) (full:List Oper) (i:Nat) (σ:St K.u.U):Option (St K.u.U×Rec):=K.op nt full i σ fun σ' r=>some (σ',r)
def run (K:Kit) (nt:Nat) (full:List Oper):List Nat->St K.u.U->Option (St K.u.U×List Rec)
 |[],σ=>some (σ,[])
 |i::l,σ=>(run1 K nt full i σ).bind fun x=>(run K nt full l x.1).bind fun y=>some (y.1,x.2::y.2)
theorem zaje : ∀ {l : List Nat} {σ : St K.u.U} {rs : List Rec} {c : St K.u.U -> List Rec -> Option R}, K.ops nt full l σ rs c = (run K nt full l σ).bind fun x => c x.1 (x.2.reverse ++ rs)
 |[],σ,rs,c=>by simp[Kit.ops,run]
 |i::l,σ,rs,c=>by
  simp only[Kit.ops,run];rw[zazb];simp only[run1,qw];congr 1;funext x;rw[zaje];congr 1;funext y;simp
theorem zalb {σ τ:St K.u.U} {l:List Operand} (h:∀ s∈zajg l,look τ.tm s=look σ.tm s):∀ x∈l,ev K (look σ.tm) x=ev K (look τ.tm) x:=by
 intro x hx;cases x with
 |tmp s=>simp only[ev]; exact (h s (List.mem_filterMap.2 ⟨_,hx,rfl⟩)).symm
 |_=>rfl
theorem zaii {o:Oper} {tm tm':Nat->Option (PV K.u.U)} (h:∀ x∈o.op.operands.toList,ev K tm x=ev K tm' x):foot K o tm=foot K o tm':=by
 have e:PV.idsL (o.op.operands.toList.filterMap (ev K tm))=PV.idsL (o.op.operands.toList.filterMap (ev K tm')):=by
  congr 1;generalize o.op.operands.toList=l at h;induction l with
  |nil=>rfl
  |cons x l ih=>
   simp only[List.filterMap_cons,h x (by simp)];rw[ih (fun y hy=>h y (by simp[hy]))]
 unfold foot;congr 1;unfold footO;cases ho:o.op with
 |fieldAddr T x f=>
  rw[ho] at e h;simp only[];rw[<-h x (by simp[Op.operands]),e]
 |nilCheck x=>
  rw[ho] at e h;simp only[];rw[<-h x (by simp[Op.operands]),e]
 |move x=>rfl
 |assign x=>rfl
 |_=>rw[ho] at e; exact e
theorem zac0 {i : Nat} {σ τ : St K.u.U} {r : Rec} (h : run1 K nt full i σ = some (τ, r)) : ∃ p up, r.i = i /\ (∀ x ∈ up, x.1 ∈ r.F) /\ r.W = up.map (·.1) /\ τ.eqv (σ.put r.d p up) /\
  ∀ σ':St K.u.U,(∀ s∈r.sl,look σ'.tm s=look σ.tm s)->(∀ id∈r.F,look σ'.st id=look σ.st id)->∃ τ',run1 K nt full i σ'=some (τ',r)/\τ'.eqv (σ'.put r.d p up):=by
 unfold run1 Kit.op at h;unfold run1 Kit.op;cases ho:full[i]? with
 |none=>rw[ho] at h; cases h
 |some o=>
  rw[ho] at h;simp only at h ⊢;have hd:dstOk nt o.dst=true:=by
   cases hb:dstOk nt o.dst with
   |true=>rfl
   |false=>rw[hb] at h; cases h
  rw[hd,qg] at h;simp only[hd,qg];cases hg:o.guard with
  |none=>
   rw[hg] at h;simp only at h ⊢;rw[zadh] at h;simp only[qb,qk,xa] at h;obtain ⟨⟨p,up⟩,hs,rfl,rfl⟩:=h;refine ⟨p,up,rfl,fun x hx=>by simp only[mkRec]; exact xu.2 (.inr (xx hx)),rfl,St.eqv.refl _,fun σ' h1 h2=>?_⟩;have he:=zalb (σ:=σ) (τ:=σ') (l:=o.op.operands.toList) (fun s hs=>h1 s (by simp only[mkRec]; exact xu.2 (.inl hs)));have hf:=zaii he
   have hst:(K.step o (look σ'.tm) (look σ'.st) fun p up=>some (p,up))=some (p,up):=
    zagu hs he (fun id hid=>(h2 id (by simp only[mkRec]; exact xu.2 (.inl hid))).symm) (fun id hid=>(h2 id (by simp only[mkRec]; exact xu.2 (.inr hid))).symm)
   refine ⟨σ'.put o.dst p up,?_,St.eqv.refl _⟩;rw[zadh,hst];simp only[qa,mkRec,hf]
  |some g=>
   obtain ⟨j,want⟩:=g;rw[hg] at h;simp only at h ⊢;cases hs:(full[j]?).bind (·.dst) with
   |none=>rw[hs] at h; cases h
   |some s=>
    rw[hs] at h;simp only at h ⊢;split at h
    ·rename_i b hb;have h':(K.opIf i o s want b σ fun σ' r=>some (σ',r))=some (τ,r):=by cases b<;>exact h
     have key:∃ p up,r=mkRec K i o (look (σ.lit s b).tm) (some s) up/\τ=(σ.lit s b).put o.dst p up /\
       ∀ σ' : St K.u.U, (∀ x ∈ o.op.operands.toList, ev K (look (σ.lit s b).tm) x = ev K (look (σ'.lit s b).tm) x) -> (∀ id ∈ foot K o (look (σ.lit s b).tm) ++ up.map (·.1), look σ'.st id = look σ.st id) ->
        (K.opIf i o s want b σ' fun σ' r=>some (σ',r))=some ((σ'.lit s b).put o.dst p up,r):=by
      unfold Kit.opIf at h';by_cases hbw:b=want
      ·rw[if_pos hbw,zadh] at h';simp only[qb,qk,xa] at h';obtain ⟨⟨p,up⟩,hs',rfl,rfl⟩:=h';refine ⟨p,up,rfl,rfl,fun σ' he h2=>?_⟩;unfold Kit.opIf;rw[if_pos hbw,zadh]
       have hst:(K.step o (look (σ'.lit s b).tm) (look (σ'.lit s b).st) fun p up=>some (p,up))=some (p,up):=
        zagu (K:=K) (S:=look (σ.lit s b).st) (S':=look (σ'.lit s b).st) hs' he (fun id hid=>(h2 id (xu.2 (.inl hid))).symm) (fun id hid=>(h2 id (xu.2 (.inr hid))).symm)
       rw[hst];simp only[qa,mkRec,zaii he]
      ·rw[if_neg hbw] at h';simp only[qk,xa] at h';obtain ⟨rfl,rfl⟩:=h';refine ⟨.tup [],[],rfl,rfl,fun σ' he h2=>?_⟩;unfold Kit.opIf;rw[if_neg hbw];simp only[mkRec,zaii he]
     obtain ⟨p,up,rfl,rfl,hall⟩:=key;refine ⟨p,up,rfl,fun x hx=>by simp only[mkRec]; exact xu.2 (.inr (xx hx)),rfl,(zady hb).put _ _ _,fun σ' h1 h2=>?_⟩;have hb':look σ'.tm s=some (.t ⟨.bool,b⟩):=by rw[h1 s (by simp[mkRec])]; exact hb
     have he:∀ x∈o.op.operands.toList,ev K (look (σ.lit s b).tm) x=ev K (look (σ'.lit s b).tm) x:=by
      rw[(zady hb).1,(zady hb').1];exact zalb (fun t ht=>h1 t (by simp only[mkRec]; exact xu.2 (.inl ht)))
     refine ⟨(σ'.lit s b).put o.dst p up,?_,(zady hb').put _ _ _⟩;rw[hb'];have:=hall σ' he (fun id hid=>h2 id hid);cases b<;>exact this
    ·rename_i hb;simp only[qk,xa] at h;obtain ⟨rfl,rfl⟩:=h;refine ⟨.tup [],[],rfl,by simp,rfl,St.eqv.refl _,fun σ' h1 h2=>?_⟩;have hb':look σ'.tm s=some (.tup []):=by rw[h1 s (by simp[mkRec])]; exact hb
     have he:=zalb (σ:=σ) (τ:=σ') (l:=o.op.operands.toList) (fun t ht=>h1 t (by simp only[mkRec]; exact xu.2 (.inl ht)));rw[hb'];exact ⟨σ'.put o.dst (.tup []) [],by simp only[mkRec,zaii he],St.eqv.refl _⟩
    ·cases h
theorem zaya {i:Nat} {σ σ' τ:St K.u.U} {r:Rec} (he:σ.eqv σ') (h:run1 K nt full i σ=some (τ,r)):∃ τ',run1 K nt full i σ'=some (τ',r)/\τ.eqv τ':=by
 obtain ⟨p,up,_,_,_,h1,h2⟩:=zac0 h;obtain ⟨τ',h3,h4⟩:=h2 σ' (fun s _=>by rw[he.1]) (fun s _=>by rw[he.2]);exact ⟨τ',h3,(h1.trans (he.put _ _ _)).trans h4.symm⟩
theorem zatt:∀ {l:List Nat} {σ σ' τ:St K.u.U} {rs:List Rec},σ.eqv σ'->run K nt full l σ=some (τ,rs)->∃ τ',run K nt full l σ'=some (τ',rs)/\τ.eqv τ'
 |[],σ,σ',τ,rs,he,h=>by simp[run] at h; obtain ⟨rfl,rfl⟩:=h; exact ⟨σ',by simp[run],he⟩
 |i::l,σ,σ',τ,rs,he,h=>by
  simp only[run,qb,qk,xa] at h;obtain ⟨⟨ρ,r⟩,h1,⟨τ0,rs0⟩,h2,rfl,rfl⟩:=h;obtain ⟨ρ',h3,h4⟩:=zaya he h1;obtain ⟨τ',h5,h6⟩:=zatt h4 h2;exact ⟨τ',by simp[run,h3,h5],h6⟩
theorem zaln {l m:List Nat} (h:zam2 l m=true):∀ x∈l,x∉m:=by
 intro x hx hm;unfold zam2 at h;have:=qy.1 h x hx;simp[hm] at this
theorem zauo {x y:Rec} (h:x.indep y=true):(∀ d,x.d=some d->d∉y.sl/\y.d≠some d)/\(∀ d,y.d=some d->d∉x.sl)/\(∀ id∈x.W,id∉y.F)/\(∀ id∈y.W,id∉x.F):=by
 unfold Rec.indep at h;simp only[qd] at h;obtain ⟨⟨⟨h1,h2⟩,h3⟩,h4⟩:=h;refine ⟨fun d hd=>?_,fun d hd=>?_,zaln h3,zaln h4⟩
 ·rw[hd] at h1;simp only[qd] at h1;refine ⟨by simpa using h1.1,fun hy=>?_⟩;rw[hy] at h1;simp at h1
 ·rw[hd] at h2;simpa using h2
theorem zaiy {σ:St K.u.U} {dst:Option Nat} {p:PV K.u.U} {up:Ups K.u.U} (id:Nat):look (σ.put dst p up).st id=(look up id).or (look σ.st id):=zab6 up σ.st id
theorem zaxh {i j:Nat} {σ σ1 σ2:St K.u.U} {x y:Rec} (h1:run1 K nt full i σ=some (σ1,x)) (h2:run1 K nt full j σ1=some (σ2,y)) (hi:x.indep y=true) :
  ∃ σ1' σ2',run1 K nt full j σ=some (σ1',y)/\run1 K nt full i σ1'=some (σ2',x)/\σ2'.eqv σ2:=by
 obtain ⟨a1,a2,a3,a4⟩:=zauo hi;obtain ⟨px,ux,_,fx,wx,ex,cx⟩:=zac0 h1;obtain ⟨py,uy,_,fy,wy,ey,cy⟩:=zac0 h2;obtain ⟨σ1',r1,e1⟩:=cy σ (fun s hs=>by
   rw[ex.1,zacn,if_neg];intro hd;exact (a1 s hd).1 hs) (fun id hid=>by
   rw[ex.2,zaiy,zah8 (u:=ux) (by rw[<-wx]; exact fun hm=>a3 id hm hid)];rfl)
 obtain ⟨σ2',r2,e2⟩:=cx σ1' (fun s hs=>by
   rw[e1.1,zacn,if_neg];intro hd;exact a2 s hd hs) (fun id hid=>by
   rw[e1.2,zaiy,zah8 (u:=uy) (by rw[<-wy]; exact fun hm=>a4 id hm hid)];rfl)
 refine ⟨σ1',σ2',r1,r2,?_⟩;have hcomm:((σ.put y.d py uy).put x.d px ux).eqv ((σ.put x.d px ux).put y.d py uy):=by
  refine ⟨funext fun s=>?_,funext fun id=>?_⟩
  ·simp only[zacn];by_cases c1:x.d=some s
   ·have:y.d≠some s:=(a1 s c1).2;simp[c1,this]
   ·simp[c1]
  ·simp only[zaiy];cases hx:look ux id with
   |none=>simp
   |some ox=>
    have hm:id∈x.W:=by
     rw[wx];exact Classical.byContradiction fun hn=>by rw[zah8 hn] at hx; cases hx
    have:look uy id=none:=zah8 (fun hm2=>by
     obtain ⟨z,hz,rfl⟩:=List.mem_map.1 hm2;exact a3 _ hm (fy z hz))
    simp[this]
 exact ((e2.trans (e1.put _ _ _)).trans hcomm).trans (ey.trans (ex.put _ _ _)).symm
theorem zafw {i : Nat} {l2 : List Nat} : ∀ {l1 : List Nat} {σ τ : St K.u.U} {rs : List Rec}, run K nt full (l1 ++ i :: l2) σ = some (τ, rs) -> ∃ rs1 x rs2, rs = rs1 ++ x :: rs2 /\ rs1.map (·.i) = l1 /\ x.i = i /\
  ((∀ y∈rs1,y.indep x=true)->∃ τ',run K nt full (i::(l1++l2)) σ=some (τ',x::(rs1++rs2))/\τ'.eqv τ)
 |[],σ,τ,rs,h=>by
  have h0:=h;simp only[qu,run,qb,qk,xa] at h;obtain ⟨⟨ρ,r⟩,h1,⟨τ0,rs0⟩,h2,rfl,rfl⟩:=h;obtain ⟨_,_,hi,_⟩:=zac0 h1;exact ⟨[],r,rs0,rfl,rfl,hi,fun _=>⟨_,h0,St.eqv.refl _⟩⟩
 |j::l1,σ,τ,rs,h=>by
  simp only[qp,run,qb,qk,xa] at h;obtain ⟨⟨ρ,r⟩,h1,⟨τ0,rs0⟩,h2,rfl,rfl⟩:=h;obtain ⟨rs1,x,rs2,e1,e2,e3,e4⟩:=zafw h2;obtain ⟨_,_,hj,_⟩:=zac0 h1;subst e1;refine ⟨r::rs1,x,rs2,rfl,by simp[hj,e2],e3,fun hall=>?_⟩;obtain ⟨τ',h3,h4⟩:=e4 (fun y hy=>hall y (by simp[hy]));simp only[run,qb,qk,xa] at h3;obtain ⟨⟨ρ2,r2⟩,h5,⟨τ1,rs3⟩,h6,rfl,h7⟩:=h3;simp only[xh] at h7;obtain ⟨rfl,rfl⟩:=h7;obtain ⟨σ1',σ2',s1,s2,s3⟩:=zaxh h1 h5 (hall r (by simp));obtain ⟨τ2,h8,h9⟩:=zatt s3.symm h6;refine ⟨τ2,?_,h9.symm.trans h4⟩;simp[run,s1,s2,h8]
def zac7 (full:List Oper):List Rec->Prop
 |[]=>True
 |x::rs=>(∀ y∈rs,x.i∈ancOf full full.length y.i\/x.indep y=true)/\zac7 full rs
theorem zaf8:∀ (rs acc:List Rec),zac7 full acc->zae9 full rs=true->(∀ x∈rs,∀ y∈acc,x.i∈ancOf full full.length y.i\/x.indep y=true)->zac7 full (rs.reverse++acc)
 |[],acc,h,_,_=>by simpa using h
 |y::rs,acc,h,hp,hc=>by
  simp only[zae9,qd] at hp;obtain ⟨h1,h2⟩:=hp;rw[List.reverse_cons,qq];refine zaf8 rs (y::acc) ⟨fun z hz=>hc y (by simp) z hz,h⟩ h2 (fun x hx z hz=>?_);cases hz with
  |head=>
   have:=zat1 (qy.1 h1 x hx);simpa using this
  |tail _ hz=>exact hc x (by simp[hx]) z hz
theorem zac7.drop {x:Rec}:∀ {rs1 rs2:List Rec},zac7 full (rs1++x::rs2)->zac7 full (rs1++rs2)/\∀ y∈rs1,y.i∈ancOf full full.length x.i\/y.indep x=true
 |[],rs2,h=>⟨h.2,by simp⟩
 |z::rs1,rs2,h=>by
  obtain ⟨h1,h2⟩:=h;obtain ⟨h3,h4⟩:=zac7.drop h2;refine ⟨⟨fun y hy=>h1 y (by simp at hy ⊢; rcases hy with hy|hy<;>simp[hy]),h3⟩,fun y hy=>?_⟩;cases hy with
  |head=>exact h1 x (by simp)
  |tail _ hy=>exact h4 y hy
theorem zakx {D:Nat->Prop} (hD:∀ y,D y->∀ e∈zabd full y,D e):∀ (f y:Nat),(∀ e∈zabd full y,D e)->∀ x∈ancOf full f y,D x
 |0,y,_,x,hx=>by simp[ancOf] at hx
 |f+1,y,h,x,hx=>by
  simp only[ancOf,List.mem_flatMap,List.mem_cons] at hx;obtain ⟨e,he,hx⟩:=hx;rcases hx with rfl|hx
  ·exact h x he
  ·exact zakx hD f e (hD e (h e he)) x hx
theorem zagw : ∀ {l : List Nat} {σ τ : St K.u.U} {rs : List Rec}, run K nt full l σ = some (τ, rs) -> rs.map (·.i) = l
 |[],σ,τ,rs,h=>by simp[run] at h; obtain ⟨_,rfl⟩:=h; rfl
 |i::l,σ,τ,rs,h=>by
  simp only[run,qb,qk,xa] at h;obtain ⟨⟨ρ,r⟩,h1,⟨τ0,rs0⟩,h2,rfl,rfl⟩:=h;obtain ⟨_,_,hi,_⟩:=zac0 h1;simp[hi,zagw h2]
theorem zacy {ops:Array Oper} {listed:Array Bool} {i:Nat} (hs:listed.size=ops.size):i∈Region.ready .any ops listed↔i<ops.size/\listed[i]? = some false/\∀ e∈zabd ops.toList i,listed.getD e false=true:=by
 unfold Region.ready zabd;simp only[List.mem_filter,List.mem_range,qd];constructor
 ·rintro ⟨h1,h2,h3⟩
  refine ⟨h1,?_,?_⟩
  ·have hl:i<listed.size:=by omega
   simp[hl] at h2 ⊢;exact h2
  ·have ho:ops.toList[i]? = some ops[i]:=by simp[h1]
   rw[ho];have ho':ops[i]? = some ops[i]:=by simp[h1]
   rw[ho'] at h3;simp only[Option.map_some,Option.getD_some,Array.all_eq_true_iff_forall_mem] at h3;intro e he;simp only[List.mem_map,List.mem_filter] at he;obtain ⟨g,⟨hg,hb⟩,rfl⟩:=he;have:=h3 g (Array.mem_toList_iff.1 hg);simpa [hb] using this
 ·rintro ⟨h1,h2,h3⟩
  refine ⟨h1,?_,?_⟩
  ·have hl:i<listed.size:=by omega
   simp[hl] at h2 ⊢;exact h2
  ·have ho:ops.toList[i]? = some ops[i]:=by simp[h1]
   rw[ho] at h3;have ho':ops[i]? = some ops[i]:=by simp[h1]
   rw[ho'];simp only[Option.map_some,Option.getD_some,Array.all_eq_true_iff_forall_mem];intro g hg;by_cases hb:Region.binds .any g=true
   ·have:=h3 g.on (List.mem_map.2 ⟨g,List.mem_filter.2 ⟨Array.mem_toList_iff.2 hg,hb⟩,rfl⟩);simp[this]
   ·simp[hb]
theorem zagp {i:Nat}:∀ {L1 L2:List Nat},(L1++i::L2).Nodup->i∉L1++L2
 |[],L2,h=>(List.nodup_cons.1 h).1
 |a::L1,L2,h=>by
  simp only[qp,List.nodup_cons] at h;intro hm;rcases List.mem_cons.1 hm with rfl|hm
  ·exact h.1 (by simp)
  ·exact zagp h.2 hm
theorem zaxb:∀ {L:List Nat},L≠[]->∃ i∈L,∀ j∈L,i<=j
 |[],h=>absurd rfl h
 |[a],_=>⟨a,by simp,by simp⟩
 |a::b::L,_=>by
  obtain ⟨i,hi,hm⟩:=zaxb (L:=b::L) (by simp);by_cases h:a<=i
  ·exact ⟨a,by simp,fun j hj=>by rcases List.mem_cons.1 hj with rfl|hj; exact qz _; exact Nat.le_trans h (hm j hj)⟩
  ·exact ⟨i,List.mem_cons_of_mem _ hi,fun j hj=>by rcases List.mem_cons.1 hj with rfl|hj; omega; exact hm j hj⟩
theorem zapj {ops:Array Oper} (hf:zads ops.toList=true) (listed:Array Bool) (L:List Nat) (hs:listed.size=ops.size) (hL:∀ i,i∈L↔i<ops.size/\listed[i]? = some false) (hr:Region.ready .any ops listed=[]):L=[]:=by
 have hfw:∀ y,∀ e∈zabd ops.toList y,e<y:=by
  intro y e he;by_cases hy:y<ops.toList.length
  ·have:=qy.1 hf y (List.mem_range.2 hy);have:=qy.1 this e he;simpa using this
  ·unfold zabd at he;rw[List.getElem?_eq_none (by omega)] at he;cases he
 by_cases hn0:L=[]
 ·exact hn0
 exfalso;obtain ⟨i,hi,hmin⟩:=zaxb hn0;obtain ⟨h1,h2⟩:=(hL i).1 hi;have:i∈Region.ready .any ops listed:=(zacy hs).2 ⟨h1,h2,fun e he=>by
  have hlt:=hfw i e he;have hn:e∉L:=fun hm=>by have:=hmin e hm; omega
  have hel:e<listed.size:=by omega
  have:¬ listed[e]? = some false:=fun h=>hn ((hL e).2 ⟨by omega,h⟩)
  simp[hel] at this ⊢;exact this⟩
 rw[hr] at this;cases this
theorem zala (hK:KitOk K V) {ops:Array Oper} (hf:zads ops.toList=true):∀ (fuel:Nat) (listed:Array Bool) (L:List Nat) {σ τ:St K.u.U} {rs:List Rec} {a:Act} {w:World} {Q:Exit->Act->World->Prop},
  listed.size=ops.size->L.Nodup->(∀ i,i∈L↔i<ops.size/\listed[i]? = some false)->(∀ y,listed.getD y false=true->∀ e∈zabd ops.toList y,listed.getD e false=true) ->
  run K nt ops.toList L σ=some (τ,rs)->zac7 ops.toList rs->L.length<=fuel->Rel K V B nt σ a w->(∀ τ' a' w',τ'.eqv τ->Rel K V B nt τ' a' w'->Q .normal a' w')->wpAny K.P .any ops Q fuel listed a w:=by
 have hfw:∀ y,∀ e∈zabd ops.toList y,e<y:=by
  intro y e he;by_cases hy:y<ops.toList.length
  ·have:=qy.1 hf y (List.mem_range.2 hy);have:=qy.1 this e he;simpa using this
  ·unfold zabd at he;rw[List.getElem?_eq_none (by omega)] at he;cases he
 have hnil:∀ (listed:Array Bool) (L:List Nat),listed.size=ops.size->(∀ i,i∈L↔i<ops.size/\listed[i]? = some false)->Region.ready .any ops listed=[]->L=[]:=zapj hf;intro fuel;induction fuel with
 |zero=>
  intro listed L σ τ rs a w Q hs hp hL hD hrun hok hlen hrel hfin;have:L=[]:=by cases L with|nil=>rfl|cons=>simp at hlen
  subst this;simp[run] at hrun;obtain ⟨rfl,_⟩:=hrun;refine ⟨?_,hfin σ a w (St.eqv.refl _) hrel⟩;cases hr:Region.ready .any ops listed with
  |nil=>rfl
  |cons i l=>
   exfalso;obtain ⟨h1,h2,_⟩:=(zacy hs).1 (by rw[hr]; exact List.mem_cons_self:i∈Region.ready .any ops listed);have:=(hL i).2 ⟨h1,h2⟩;cases this
 |succ fuel ih=>
  intro listed L σ τ rs a w Q hs hp hL hD hrun hok hlen hrel hfin;refine ⟨fun hr=>?_,fun i hi=>?_⟩
  ·have:=hnil listed L hs hL hr;subst this;simp[run] at hrun;obtain ⟨rfl,_⟩:=hrun;exact hfin σ a w (St.eqv.refl _) hrel
  ·obtain ⟨h1,h2,h3⟩:=(zacy hs).1 hi;have hm:=(hL i).2 ⟨h1,h2⟩;obtain ⟨L1,L2,rfl⟩:=List.append_of_mem hm;obtain ⟨rs1,x,rs2,rfl,e2,e3,e4⟩:=zafw hrun;obtain ⟨hok2,hpair⟩:=hok.drop;have hin:∀ y∈rs1,y.indep x=true:=fun y hy=>by
    rcases hpair y hy with h|h
    ·exfalso;rw[e3] at h;have hyl:=zakx (full:=ops.toList) (D:=fun z=>listed.getD z false=true) hD _ i h3 y.i h;have hyL:y.i∈L1++i::L2:=xu.2 (.inl (by rw[<-e2]; exact xx hy));obtain ⟨hy1,hy2⟩:=(hL y.i).1 hyL;have hyl':y.i<listed.size:=by omega
     simp[hyl'] at hyl hy2;rw[hyl] at hy2;cases hy2
    ·exact h
   obtain ⟨τ',h5,h6⟩:=e4 hin;simp only[run,qb,qk,xa] at h5;obtain ⟨⟨ρ,r⟩,h7,⟨τ0,rs0⟩,h8,rfl,h9⟩:=h5;simp only[xh] at h9;obtain ⟨rfl,rfl⟩:=h9;refine zae2 hK (c:=fun σ' r=>some (σ',r)) (r:=(ρ,r)) h7 hrel (fun σ' rec a' w' hc hr'=>?_);simp only[qk,xa] at hc;obtain ⟨rfl,rfl⟩:=hc;have hil:i<listed.size:=by omega
   have hp':(L1++L2).Nodup:=hp.sublist (List.Sublist.append_left (List.sublist_cons_self _ _) _);have hne:∀ j∈L1++L2,j≠i:=fun j hj he=>by
    subst he;exact zagp hp hj
   refine ih (listed.setIfInBounds i true) (L1++L2) (by simpa using hs) hp' (fun j=>?_) (fun y hy e he=>?_) h8 hok2 (by simp at hlen ⊢; omega) hr' (fun τ2 a2 w2 q1 q2=>hfin τ2 a2 w2 (q1.trans h6) q2)
   ·by_cases hj:j=i
    ·subst hj;simp only[Array.getElem?_setIfInBounds_self_of_lt hil];constructor
     ·intro h; exact absurd rfl (hne j h)
     ·rintro ⟨_,h⟩; cases h
    ·rw[Array.getElem?_setIfInBounds_ne (Ne.symm hj),<-hL j];simp only[xu,List.mem_cons];constructor
     ·rintro (h|h)<;>simp[h]
     ·rintro (h|h|h)
      ·exact .inl h
      ·exact absurd h hj
      ·exact .inr h
   ·have get:∀ z,(listed.setIfInBounds i true).getD z false=if z=i then true else listed.getD z false:=by
     intro z;by_cases hz:z=i
     ·subst hz; simp[hil]
     ·simp only[Array.getD_eq_getD_getElem?,Array.getElem?_setIfInBounds_ne (Ne.symm hz),hz,if_false]
    rw[get] at hy ⊢;split
    ·rfl
    ·by_cases hyi:y=i
     ·subst hyi; exact h3 e he
     ·rw[if_neg hyi] at hy; exact hD y hy e he
def zacz (full:List Oper) (p q:Nat):List Rec->Prop
 |[]=>True
 |x::rs=>(∀ y∈rs,x.i∈ancOf full full.length y.i\/x.indep y=true\/(x.i=p/\y.i=q)\/(x.i=q/\y.i=p))/\zacz full p q rs
theorem zacz.drop {p q:Nat} {x:Rec}:∀ {rs1 rs2:List Rec},zacz full p q (rs1++x::rs2)->zacz full p q (rs1++rs2)/\∀ y∈rs1,y.i∈ancOf full full.length x.i\/y.indep x=true\/(y.i=p/\x.i=q)\/(y.i=q/\x.i=p)
 |[],rs2,h=>⟨h.2,by simp⟩
 |z::rs1,rs2,h=>by
  obtain ⟨h1,h2⟩:=h;obtain ⟨h3,h4⟩:=zacz.drop h2;refine ⟨⟨fun y hy=>h1 y (by simp at hy ⊢; rcases hy with hy|hy<;>simp[hy]),h3⟩,fun y hy=>?_⟩;cases hy with
  |head=>exact h1 x (by simp)
  |tail _ hy=>exact h4 y hy
theorem zacz.plain {p q:Nat}:∀ {rs:List Rec},zacz full p q rs->((∀ y∈rs,y.i≠p)\/(∀ y∈rs,y.i≠q))->zac7 full rs
 |[],_,_=>trivial
 |x::rs,h,hn=>by
  refine ⟨fun y hy=>?_,zacz.plain h.2 (by rcases hn with hn|hn; exact .inl fun y hy=>hn y (by simp[hy]); exact .inr fun y hy=>hn y (by simp[hy]))⟩;rcases h.1 y hy with h1|h1|⟨h1,h2⟩|⟨h1,h2⟩
  ·exact .inl h1
  ·exact .inr h1
  ·exfalso;rcases hn with hn|hn
   ·exact hn x (by simp) h1
   ·exact hn y (by simp[hy]) h2
  ·exfalso;rcases hn with hn|hn
   ·exact hn y (by simp[hy]) h2
   ·exact hn x (by simp) h1
def zahy (ops:List Oper) (p q:Nat):List Rec->Bool
 |[]=>true
 |y::rs=>(rs.all fun x=>((zabd ops y.i).elem x.i||(x.indep y||(ancOf ops ops.length y.i).elem x.i))||((Nat.beq x.i p&&Nat.beq y.i q)||(Nat.beq x.i q&&Nat.beq y.i p)))&&zahy ops p q rs
theorem zajo {p q:Nat}:∀ (rs acc:List Rec),zacz full p q acc->zahy full p q rs=true->(∀ x∈rs,∀ y∈acc,x.i∈ancOf full full.length y.i\/x.indep y=true\/(x.i=p/\y.i=q)\/(x.i=q/\y.i=p))->zacz full p q (rs.reverse++acc)
 |[],acc,h,_,_=>by simpa using h
 |y::rs,acc,h,hp,hc=>by
  simp only[zahy,qd] at hp;obtain ⟨h1,h2⟩:=hp;rw[List.reverse_cons,qq];refine zajo rs (y::acc) ⟨fun z hz=>hc y (by simp) z hz,h⟩ h2 (fun x hx z hz=>?_);cases hz with
  |head=>
   have h3:=qy.1 h1 x hx;rw[Bool.or_eq_true] at h3;rcases h3 with h3|h3
   ·have:=zat1 h3;simp at this;rcases this with h|h
    ·exact .inl h
    ·exact .inr (.inl h)
   ·simp only[Bool.or_eq_true,qd] at h3;rcases h3 with ⟨h4,h5⟩|⟨h4,h5⟩
    ·exact .inr (.inr (.inl ⟨qx h4,qx h5⟩))
    ·exact .inr (.inr (.inr ⟨qx h4,qx h5⟩))
  |tail _ hz=>exact hc x (by simp[hx]) z hz
def pq (p q:Nat) (j:Nat):Bool:=Nat.beq j p||Nat.beq j q
theorem za0d {p q j:Nat} (h:pq p q j=true):j=p\/j=q:=by
 unfold pq at h;rcases (Bool.or_eq_true _ _).mp h with h|h
 ·exact .inl (qx h)
 ·exact .inr (qx h)
theorem zauc (hK:KitOk K V) {ops:Array Oper} (hf:zads ops.toList=true) {p q:Nat} (hpq:p≠q):∀ (fuel:Nat) (listed:Array Bool) (L M:List Nat) {σ τ υ:St K.u.U} {rs ss:List Rec} {a:Act} {w:World} {Q:Exit->Act->World->Prop},
  listed.size=ops.size->L.Nodup->M.Nodup->(∀ i,i∈L↔i<ops.size/\listed[i]? = some false)->(∀ i,i∈M↔i<ops.size/\listed[i]? = some false)->L.filter (pq p q)=[p,q]->M.filter (pq p q)=[q,p]->(∀ y,listed.getD y false=true->∀ e∈zabd ops.toList y,listed.getD e false=true) ->
  run K nt ops.toList L σ=some (τ,rs)->run K nt ops.toList M σ=some (υ,ss)->zacz ops.toList p q rs->zacz ops.toList p q ss->L.length<=fuel->M.length<=fuel->Rel K V B nt σ a w->(∀ τ' a' w',τ'.eqv τ->Rel K V B nt τ' a' w'->Q .normal a' w')->(∀ τ' a' w',τ'.eqv υ->Rel K V B nt τ' a' w'->Q .normal a' w')->wpAny K.P .any ops Q fuel listed a w:=by
 intro fuel;induction fuel with
 |zero=>
  intro listed L M σ τ υ rs ss a w Q hs hp _ hL _ hF _ hD hrun _ hok _ hlen _ hrel hfin _;have:L=[]:=by cases L with|nil=>rfl|cons=>simp at hlen
  subst this;simp at hF
 |succ fuel ih=>
  intro listed L M σ τ υ rs ss a w Q hs hp hpM hL hM hF hFM hD hrun hrunM hok hokM hlen hlenM hrel hfin hfinM;refine ⟨fun hr=>?_,fun i hi=>?_⟩
  ·have:=zapj hf listed L hs hL hr;subst this;simp at hF
  ·obtain ⟨h1,h2,h3⟩:=(zacy hs).1 hi;have hil:i<listed.size:=by omega
   have getD:∀ z,(listed.setIfInBounds i true).getD z false=if z=i then true else listed.getD z false:=by
    intro z;by_cases hz:z=i
    ·subst hz; simp[hil]
    ·simp only[Array.getD_eq_getD_getElem?,Array.getElem?_setIfInBounds_ne (Ne.symm hz),hz,if_false]
   have hD':∀ y,(listed.setIfInBounds i true).getD y false=true->∀ e∈zabd ops.toList y,(listed.setIfInBounds i true).getD e false=true:=by
    intro y hy e he;rw[getD] at hy ⊢;split
    ·rfl
    ·by_cases hyi:y=i
     ·subst hyi; exact h3 e he
     ·rw[if_neg hyi] at hy; exact hD y hy e he
   have mem':∀ {L1 L2:List Nat},(L1++i::L2).Nodup->(∀ j,j∈L1++i::L2↔j<ops.size/\listed[j]? = some false)->∀ j,j∈L1++L2↔j<ops.size/\(listed.setIfInBounds i true)[j]? = some false:=by
    intro L1 L2 hn hl j;have hne:i∉L1++L2:=zagp hn;by_cases hj:j=i
    ·subst hj;simp only[Array.getElem?_setIfInBounds_self_of_lt hil];constructor
     ·intro h; exact absurd h hne
     ·rintro ⟨_,h⟩; cases h
    ·rw[Array.getElem?_setIfInBounds_ne (Ne.symm hj),<-hl j];simp only[xu,List.mem_cons];constructor
     ·rintro (h|h)<;>simp[h]
     ·rintro (h|h|h)
      ·exact .inl h
      ·exact absurd h hj
      ·exact .inr h
   -- to the front,in a run
   have front:∀ {L1 L2:List Nat} {τ:St K.u.U} {rs:List Rec},(L1++i::L2).Nodup->(∀ j,j∈L1++i::L2↔j<ops.size/\listed[j]? = some false)->run K nt ops.toList (L1++i::L2) σ=some (τ,rs)->zacz ops.toList p q rs->(∀ y∈L1,¬ ((y=p/\i=q)\/(y=q/\i=p))) ->
     ∃ ρ r τ' rs',run1 K nt ops.toList i σ=some (ρ,r)/\run K nt ops.toList (L1++L2) ρ=some (τ',rs')/\zacz ops.toList p q rs'/\τ'.eqv τ:=by
    intro L1 L2 τ rs hn hl hrn hx hex;obtain ⟨rs1,x,rs2,rfl,e2,e3,e4⟩:=zafw hrn;obtain ⟨hok2,hpair⟩:=hx.drop;have hin:∀ y∈rs1,y.indep x=true:=fun y hy=>by
     have hyL1:y.i∈L1:=by rw[<-e2]; exact xx hy
     rcases hpair y hy with h|h|h
     ·exfalso;rw[e3] at h;have hyl:=zakx (full:=ops.toList) (D:=fun z=>listed.getD z false=true) hD _ i h3 y.i h;obtain ⟨hy1,hy2⟩:=(hl y.i).1 (xu.2 (.inl hyL1));have hyl':y.i<listed.size:=by omega
      simp[hyl'] at hyl hy2;rw[hyl] at hy2;cases hy2
     ·exact h
     ·rw[e3] at h;exact absurd h (hex y.i hyL1)
    obtain ⟨τ',h5,h6⟩:=e4 hin;simp only[run,qb,qk,xa] at h5;obtain ⟨⟨ρ,r⟩,h7,⟨τ0,rs0⟩,h8,rfl,h9⟩:=h5;simp only[xh] at h9;obtain ⟨rfl,rfl⟩:=h9;exact ⟨ρ,r,τ0,_,h7,h8,hok2,h6⟩
   by_cases hip:i=p
   ·subst hip;obtain ⟨L1,L2,rfl⟩:=List.append_of_mem ((hL i).2 ⟨h1,h2⟩);have hni:i∉L1++L2:=zagp hp;have hq1:q∉L1:=fun hq=>by
     rw[List.filter_append] at hF;cases hc:L1.filter (pq i q) with
     |nil=>
      have:=List.filter_eq_nil_iff.1 hc q hq;simp[pq] at this
     |cons z Z=>
      rw[hc] at hF;simp only[qp,xh] at hF;have hz:z∈L1:=(List.mem_filter.1 (by rw[hc]; simp:z∈L1.filter (pq i q))).1;rw[hF.1] at hz;exact hni (by simp[hz])
    obtain ⟨ρ,r,τ',rs',g1,g2,g3,g4⟩:=front hp hL hrun hok (fun y hy hh=>by
     rcases hh with ⟨_,h⟩|⟨h,_⟩
     ·exact hpq h
     ·rw[h] at hy; exact hq1 hy)
    refine zae2 hK (c:=fun σ' r=>some (σ',r)) (r:=(ρ,r)) g1 hrel (fun σ' rec a' w' hc hr'=>?_);simp only[qk,xa] at hc;obtain ⟨rfl,rfl⟩:=hc;have hrsi:=zagw g2;refine zala hK hf fuel (listed.setIfInBounds i true) (L1++L2) (by simpa using hs) (hp.sublist (List.Sublist.append_left (List.sublist_cons_self _ _) _)) (mem' hp hL) hD' g2 (g3.plain (.inl fun y hy he=>hni (by rw[<-he,<-hrsi]; exact xx hy))) (by simp at hlen ⊢; omega) hr' (fun τ2 a2 w2 q1 q2=>hfin τ2 a2 w2 (q1.trans g4) q2)
   ·by_cases hiq:i=q
    ·subst hiq;obtain ⟨L1,L2,rfl⟩:=List.append_of_mem ((hM i).2 ⟨h1,h2⟩);have hni:i∉L1++L2:=zagp hpM;have hq1:p∉L1:=fun hq=>by
      rw[List.filter_append] at hFM;cases hc:L1.filter (pq p i) with
      |nil=>
       have:=List.filter_eq_nil_iff.1 hc p hq;simp[pq] at this
      |cons z Z=>
       rw[hc] at hFM;simp only[qp,xh] at hFM;have hz:z∈L1:=(List.mem_filter.1 (by rw[hc]; simp:z∈L1.filter (pq p i))).1;rw[hFM.1] at hz;exact hni (by simp[hz])
     obtain ⟨ρ,r,τ',rs',g1,g2,g3,g4⟩:=front hpM hM hrunM hokM (fun y hy hh=>by
      rcases hh with ⟨h,_⟩|⟨_,h⟩
      ·rw[h] at hy; exact hq1 hy
      ·exact hpq h.symm)
     refine zae2 hK (c:=fun σ' r=>some (σ',r)) (r:=(ρ,r)) g1 hrel (fun σ' rec a' w' hc hr'=>?_);simp only[qk,xa] at hc;obtain ⟨rfl,rfl⟩:=hc;have hrsi:=zagw g2;refine zala hK hf fuel (listed.setIfInBounds i true) (L1++L2) (by simpa using hs) (hpM.sublist (List.Sublist.append_left (List.sublist_cons_self _ _) _)) (mem' hpM hM) hD' g2 (g3.plain (.inr fun y hy he=>hni (by rw[<-he,<-hrsi]; exact xx hy))) (by simp at hlenM ⊢; omega) hr' (fun τ2 a2 w2 q1 q2=>hfinM τ2 a2 w2 (q1.trans g4) q2)
    ·have hnp:pq p q i=false:=by
      cases h:pq p q i with
      |false=>rfl
      |true=>rcases za0d h with h|h; exact absurd h hip; exact absurd h hiq
     obtain ⟨L1,L2,rfl⟩:=List.append_of_mem ((hL i).2 ⟨h1,h2⟩);obtain ⟨M1,M2,rfl⟩:=List.append_of_mem ((hM i).2 ⟨h1,h2⟩);have hex:∀ y:Nat,¬ ((y=p/\i=q)\/(y=q/\i=p)):=fun y hh=>by
      rcases hh with ⟨_,h⟩|⟨_,h⟩
      ·exact hiq h
      ·exact hip h
     obtain ⟨ρ,r,τ',rs',g1,g2,g3,g4⟩:=front hp hL hrun hok (fun y _=>hex y);obtain ⟨ρ2,r2,υ',ss',k1,k2,k3,k4⟩:=front hpM hM hrunM hokM (fun y _=>hex y);rw[g1] at k1;simp only[qk,xa] at k1;obtain ⟨rfl,rfl⟩:=k1;refine zae2 hK (c:=fun σ' r=>some (σ',r)) (r:=(ρ,r)) g1 hrel (fun σ' rec a' w' hc hr'=>?_);simp only[qk,xa] at hc;obtain ⟨rfl,rfl⟩:=hc
     refine ih (listed.setIfInBounds i true) (L1 ++ L2) (M1 ++ M2) (by simpa using hs) (hp.sublist (List.Sublist.append_left (List.sublist_cons_self _ _) _)) (hpM.sublist (List.Sublist.append_left (List.sublist_cons_self _ _) _)) (mem' hp hL) (mem' hpM hM)
      (by rw[List.filter_append,List.filter_cons_of_neg (by simp[hnp]),<-List.filter_append] at hF; exact hF) (by rw[List.filter_append,List.filter_cons_of_neg (by simp[hnp]),<-List.filter_append] at hFM; exact hFM) hD' g2 k2 g3 k3 (by simp at hlen ⊢; omega) (by simp at hlenM ⊢; omega) hr'
      (fun τ2 a2 w2 q1 q2=>hfin τ2 a2 w2 (q1.trans g4) q2) (fun τ2 a2 w2 q1 q2=>hfinM τ2 a2 w2 (q1.trans k4) q2)
theorem zaud (hK:KitOk K V) {ops:Array Oper} {id:Nat} {σ:St K.u.U} {c:St K.u.U->Option R} {r:R} (hf:zads ops.toList=true)
  (h:(K.ops nt ops.toList (List.range ops.size) σ [] fun σ' rs=>if zae9 ops.toList rs=true then c σ' else none)=some r) {a:Act} {w:World} (hr:Rel K V B nt σ a w)
  {Q:Exit->Act->World->Prop} (hk:∀ σ' a' w',c σ'=some r->Rel K V B nt σ' a' w'->Q .normal a' w'):(Code.region id ops true).wp K.P Q a w:=by
 rw[zaje] at h;simp only[qb,xj] at h;obtain ⟨⟨τ,rs⟩,h1,h2⟩:=h;simp only at h2;split at h2
 ·rename_i hp;have hok:=zaf8 rs.reverse [] trivial hp (by simp);simp only[List.reverse_reverse,xj] at hok;refine wp_region_any hK.mixed (zala hK hf ops.size _ (List.range ops.size) (by simp) List.nodup_range (fun i=>?_) (fun y hy=>?_) h1 hok (by simp) ?_ (fun τ' a' w' he hr'=>hk τ a' w' h2 (hr'.eqv he)))
  ·simp only[List.mem_range];constructor
   ·intro h; exact ⟨h,by simp[h]⟩
   ·exact fun h=>h.1
  ·exfalso;by_cases hy':y<ops.size
   ·simp[hy'] at hy
   ·simp[hy'] at hy
  ·obtain ⟨G,β,q1,q2,q3,q4⟩:=hr;exact ⟨G,β,q1.drew,q2,q3,q4⟩
 ·cases h2
def swapL (p q:Nat) (l:List Nat):List Nat:=l.map fun i=>bif Nat.beq i p then q else bif Nat.beq i q then p else i
theorem zasu (hK:KitOk K V) {ops:Array Oper} {id:Nat} {σ:St K.u.U} {c:St K.u.U->Option R} {r:R} (hf:zads ops.toList=true) {p q:Nat} (hpq:(List.range ops.size).filter (pq p q)=[p,q]/\(swapL p q (List.range ops.size)).filter (pq p q)=[q,p]/\(swapL p q (List.range ops.size)).Nodup/\∀ i,i∈swapL p q (List.range ops.size)↔i<ops.size) (hne:p≠q)
  (h:(K.ops nt ops.toList (List.range ops.size) σ [] fun σ' rs=>if zahy ops.toList p q rs=true then c σ' else none)=some r)
  (h':(K.ops nt ops.toList (swapL p q (List.range ops.size)) σ [] fun σ' rs=>if zahy ops.toList p q rs=true then c σ' else none)=some r) {a:Act} {w:World} (hr:Rel K V B nt σ a w)
  {Q:Exit->Act->World->Prop} (hk:∀ σ' a' w',c σ'=some r->Rel K V B nt σ' a' w'->Q .normal a' w'):(Code.region id ops true).wp K.P Q a w:=by
 rw[zaje] at h h';simp only[qb,xj] at h h';obtain ⟨⟨τ,rs⟩,h1,h2⟩:=h;obtain ⟨⟨υ,ss⟩,k1,k2⟩:=h';simp only at h2 k2;split at h2
 ·rename_i hp;split at k2
  ·rename_i hq;have hok:=zajo rs.reverse [] trivial hp (by simp);have hok2:=zajo ss.reverse [] trivial hq (by simp);simp only[List.reverse_reverse,xj] at hok hok2;have hmem:∀ i,i<ops.size↔i<ops.size/\(Array.replicate ops.size false)[i]? = some false:=fun i=>by
    constructor
    ·intro h; exact ⟨h,by simp[h]⟩
    ·exact fun h=>h.1
   refine wp_region_any hK.mixed (zauc hK hf hne ops.size _ (List.range ops.size) (swapL p q (List.range ops.size)) (by simp) List.nodup_range hpq.2.2.1 (fun i=>by rw[List.mem_range]; exact hmem i) (fun i=>(hpq.2.2.2 i).trans (hmem i)) hpq.1 hpq.2.1 (fun y hy=>?_) h1 k1 hok hok2 (by simp) (by simp[swapL]) ?_ (fun τ' a' w' he hr'=>hk τ a' w' h2 (hr'.eqv he)) (fun τ' a' w' he hr'=>hk υ a' w' k2 (hr'.eqv he)))
   ·exfalso;by_cases hy':y<ops.size
    ·simp[hy'] at hy
    ·simp[hy'] at hy
   ·obtain ⟨G,β,q1,q2,q3,q4⟩:=hr;exact ⟨G,β,q1.drew,q2,q3,q4⟩
  ·cases k2
 ·cases h2
end
inductive Nds where
 |nil
 |op (i:Nat) (l:Nds)
 |join (seg:Nds) (s d:Nat) (l:Nds)
def Nds.flat:Nds->List Nat
 |.nil=>[]
 |.op i l=>i::l.flat
 |.join s _ _ l=>s.flat++l.flat
def zab4 (full:List Oper) (l:List Nat):List Nat:=l.filterMap fun i=>(full[i]?).bind (·.dst)
def ndsGo (full:List Oper):Nat->List Nat->Option Nat->Nat->Nds×Option Nat×Nat
 |0,_,_,i=>(.nil,none,i)
 |n+1,act,stop,i=>match full[i]? with
  |none=>(.nil,none,i)
  |some o=>
   let plain:=fun (_:Unit)=>
    let r:=ndsGo full n act stop (i+1)
    (Nds.op i r.1,r.2.1,r.2.2)
   let ends:=match o.op,stop with
    |.pick (.tmp s) _ _,some t=>Nat.beq s t
    |_,_=>false
   bif ends then (.op i .nil,o.dst,i+1) else
   match o.guard with
   |none=>plain ()
   |some (j,_)=>match (full[j]?).bind (·.dst) with
    |none=>plain ()
    | some s => bif act.elem s then plain () else
     let r:=ndsGo full n (s::act) (some s) i
     match r.2.1 with
     |none=>plain ()
     |some d=>
      let q:=ndsGo full n act stop r.2.2
      (.join r.1 s d q.1,q.2.1,q.2.2)
def ndsOf (full:List Oper):Nds:=(ndsGo full (full.length*3+3) [] none 0).1
def jn {α:Type} (x:Option α):Option α:=x
section
variable {U:Nat->Type}
def leafB (n d:Nat) (σ:St U):Option Bool:=bif Nat.beq σ.st.length n then (match look σ.tm d with|some (.t ⟨.bool,x⟩)=>some x|_=>none) else none
def over (σ:St U) (ds:List Nat) (d:Nat) (x:Bool):St U:=⟨(d,.t ⟨.bool,x⟩)::(ds.map (fun s=>(s,PV.junk))++σ.tm),σ.st⟩
end
def zavt {U:Nat->Type}:Option (PV U)->Bool
 |some (.tup [])=>true
 |_=>false
def St.closed (u:Uni) (σ:St u.U):St u.U:=bif σ.st.any (fun x=>x.2.isOpn) then ⟨σ.tm,closeL u (zar0 σ.st) σ.st⟩ else σ
section
variable (K:Kit)
def Kit.preC (o : Oper) (σ : St K.u.U) : St K.u.U := bif σ.st.any (fun x => x.2.isOpn) then
  (fun ids=>⟨σ.tm,closeL K.u ((reach σ.st 3 ids).filter fun id=>match look σ.st id with
   |some (.opn _ _ _ _ _ cs)=>(PV.idsL cs).all fun j=>!ids.elem j
   |_=>false) σ.st⟩) (PV.idsL (o.op.operands.toList.filterMap (ev K (look σ.tm))))
 else σ
def Kit.pre (full:List Oper) (i:Nat) (σ:St K.u.U):St K.u.U:=match full[i]? with
 |some o=>match o.op with
  |.call cl=>match cl.callee with
   |.builtin b=>match b with
    |.append=>K.preC o σ
    |.copy=>K.preC o σ
    |_=>σ
   |_=>K.preC o σ
  |_=>σ
 |none=>σ
def Kit.nds (nt:Nat) (full:List Oper):Nds->∀ {R:Type},St K.u.U->(St K.u.U->Option R)->(St K.u.U->Option R)->Option R
 |.nil,_,σ,c,_=>c σ
 |.op i l,_,σ,c,pc=>K.opP nt full i (K.pre full i σ) (fun σ'=>Kit.nds nt full l σ' c pc) pc
 | .join seg s d l, _, σ, c, pc => bif zavt (look σ.tm s) then Kit.nds nt full seg σ (fun σ' => Kit.nds nt full l σ' c pc) pc else bif (zab4 full seg.flat).elem d && (zab4 full seg.flat).all (Nat.blt · nt) then
   (jn (Kit.nds nt full seg σ (leafB σ.st.length d) (fun _=>none))).bind fun x=>Kit.nds nt full l (over σ (zab4 full seg.flat) d x) c pc
  else none
end
section
variable {K:Kit} {V:Env} {B:Base} {nt:Nat}
def zab2 {U:Nat->Type} (ds:List Nat) (σ σ':St U):Prop:=(∀ s,s∉ds->look σ'.tm s=look σ.tm s)/\∃ l,σ'.st=l++σ.st
theorem zab2.refl {U:Nat->Type} {σ:St U} (ds:List Nat):zab2 ds σ σ:=⟨fun _ _=>rfl,[],rfl⟩
theorem zab2.trans {U:Nat->Type} {σ σ' σ'':St U} {d e:List Nat} (h:zab2 d σ σ') (h':zab2 e σ' σ''):zab2 (d++e) σ σ'':=by
 obtain ⟨a,l,b⟩:=h;obtain ⟨a',l',b'⟩:=h';refine ⟨fun s hs=>?_,l'++l,by rw[b',b,qq]⟩;simp only[xu,not_or] at hs;rw[a' s hs.2,a s hs.1]
theorem zakl (full:List Oper) (l m:List Nat):zab4 full (l++m)=zab4 full l++zab4 full m:=by simp[zab4]
theorem zasa (full:List Oper) (i:Nat) (l:List Nat):zab4 full (i::l)=((full[i]?).bind (·.dst)).toList++zab4 full l:=by
 unfold zab4;rw[List.filterMap_cons];cases (full[i]?).bind (·.dst)<;>rfl
theorem Keeps.list {U:Nat->Type} {σ σ':St U} {d:Option Nat} (h:Keeps d σ σ'):zab2 d.toList σ σ':=
 ⟨fun s hs=>h.1 s (fun e=>by subst e; exact hs (by simp)),h.2⟩
theorem zag4 {U : Nat -> Type} {tm : List (Nat × PV U)} {s : Nat} : ∀ {ds : List Nat}, look (ds.map (fun s => (s, PV.junk)) ++ tm) s = if s ∈ ds then some .junk else look tm s
 |[]=>by simp
 |d::ds=>by
  rw[xn,qp,zaaf,zag4 (ds:=ds)];by_cases h:s=d
  ·subst h; simp
  ·simp[h]
theorem zaux {U:Nat->Type} {n d:Nat} {σ:St U} {x:Bool} (h:leafB n d σ=some x):σ.st.length=n/\look σ.tm d=some (.t ⟨.bool,x⟩):=by
 unfold leafB at h;cases hb:Nat.beq σ.st.length n with
 |false=>rw[hb] at h; cases h
 |true=>
  rw[hb,qg] at h;refine ⟨qx hb,?_⟩;split at h
  ·rename_i y hy;cases h;exact hy
  ·cases h
theorem Rel.over {σ σ':St K.u.U} {ds:List Nat} {d:Nat} {x:Bool} {a:Act} {w:World} (h:Rel K V B nt σ' a w) (hk:zab2 ds σ σ') (hx:leafB σ.st.length d σ'=some x) (hds:ds.all (Nat.blt · nt)=true):Rel K V B nt (over σ ds d x) a w:=by
 obtain ⟨G,β,h1,h2,h3,h4⟩:=h;obtain ⟨k1,l,k2⟩:=hk;obtain ⟨e1,e2⟩:=zaux hx;have hl:l=[]:=by
  have:=congrArg List.length k2;rw[qc,e1] at this;exact qt (by omega)
 subst hl;rw[qu] at k2;refine ⟨G,β,by show Inv K V B G (look σ.st) β w; rw[<-k2]; exact h1,fun s p hs=>?_,h3,h4⟩;show ∃ v,a.tmps[s]? = some v/\PRel K G (look σ.st) β p v;rw[<-k2];simp only[Lift.over,zaaf,zag4] at hs;by_cases c1:s=d
 ·subst c1;rw[if_pos rfl] at hs;cases hs;exact h2 _ _ e2
 ·rw[if_neg c1] at hs;by_cases c2:s∈ds
  ·rw[if_pos c2] at hs;cases hs;have hlt:s<a.tmps.size:=by
    rw[h3];have:=qy.1 hds s c2;simpa using this
   exact ⟨a.tmps[s],Array.getElem?_eq_getElem hlt,by simp only[PRel]⟩
  ·rw[if_neg c2] at hs;rw[<-k1 s c2] at hs;exact h2 _ _ hs
theorem zab2.over {U:Nat->Type} {σ:St U} {ds:List Nat} {d:Nat} {x:Bool} (hd:d∈ds):zab2 ds σ (over σ ds d x):=by
 refine ⟨fun s hs=>?_,[],rfl⟩;have:s≠d:=fun e=>by subst e; exact hs hd
 simp only[Lift.over,zaaf,zag4,if_neg this,if_neg hs]
theorem zag5:∀ {ids:List Nat} {st:List (Nat×Ob K.u.U)},∃ l,closeL K.u ids st=l++st
 |[],st=>⟨[],rfl⟩
 |id::r,st=>by
  unfold closeL;split
  ·rename_i up h;obtain ⟨l,e⟩:=zag5 (ids:=r) (st:=up++st);exact ⟨l++up,by rw[e,qq]⟩
  ·split
   ·rename_i up h;obtain ⟨l,e⟩:=zag5 (ids:=r) (st:=up++st);exact ⟨l++up,by rw[e,qq]⟩
   ·exact zag5
theorem Rel.closeL {σ:St K.u.U} {a:Act} {w:World} (h:Rel K V B nt σ a w) (ids:List Nat):Rel K V B nt ⟨σ.tm,Lift.closeL K.u ids σ.st⟩ a w:=by
 obtain ⟨G,β,h1,h2,h3,h4⟩:=h;obtain ⟨G',β',i1,i2⟩:=zadd (ids:=ids) h1;exact ⟨G',β',i1,fun s p hs=>by obtain ⟨v,v1,v2⟩:=h2 s p hs; exact ⟨v,v1,v2.over i2⟩,h3,h4⟩
theorem Rel.closed {σ:St K.u.U} {a:Act} {w:World} (h:Rel K V B nt σ a w):Rel K V B nt (σ.closed K.u) a w:=by
 unfold St.closed;cases σ.st.any (fun x=>x.2.isOpn) with
 |true=>exact h.closeL _
 |false=>exact h
theorem zaj6 {o:Oper} {σ:St K.u.U} {a:Act} {w:World} (h:Rel K V B nt σ a w):Rel K V B nt (K.preC o σ) a w/\zab2 [] σ (K.preC o σ):=by
 unfold Kit.preC;cases σ.st.any (fun x=>x.2.isOpn) with
 |true=>exact ⟨h.closeL _,fun _ _=>rfl,zag5⟩
 |false=>exact ⟨h,zab2.refl _⟩
theorem zawb {full:List Oper} {i:Nat} {σ:St K.u.U} {a:Act} {w:World} (h:Rel K V B nt σ a w):Rel K V B nt (K.pre full i σ) a w/\zab2 [] σ (K.pre full i σ):=by
 unfold Kit.pre;split
 ·split
  ·split
   ·split
    ·exact zaj6 h
    ·exact zaj6 h
    ·exact ⟨h,zab2.refl _⟩
   ·exact zaj6 h
  ·exact ⟨h,zab2.refl _⟩
 ·exact ⟨h,zab2.refl _⟩
theorem zawl (hK:KitOk K V) {ops:Array Oper}:∀ (l:Nds) {rest:List Nat} {R:Type} {σ:St K.u.U} {c pc:St K.u.U->Option R} {r:R},K.nds nt ops.toList l σ c pc=some r->∀ {a:Act} {w:World},Rel K V B nt σ a w ->
  ∀ {Q:Exit->Act->World->Prop},(∀ σ' v a' w',pc σ'=some r->RelP K V B nt σ' v a' w'->Q (.panic [{ v:=v,recovered:=false }]) a' w')->(∀ σ' a' w',c σ'=some r->zab2 (zab4 ops.toList l.flat) σ σ'->Rel K V B nt σ' a' w'->wpOps K.P ops Q rest a' w')->wpOps K.P ops Q (l.flat++rest) a w:=by
 intro l;induction l with
 |nil=>intro rest R σ c pc r h a w hr Q hp hk; exact hk _ _ _ h (zab2.refl _) hr
 |op i l ih=>
  intro rest R σ c pc r h a w hr Q hp hk;simp only[Kit.nds] at h;simp only[Nds.flat,qp];rw[wpOps_cons];obtain ⟨p1,p2⟩:=zawb (full:=ops.toList) (i:=i) hr;refine zau1 hK h p1 (fun σ' v w' hc hr'=>hp σ' v _ w' hc hr') (fun σ' a' w' hc hke hr'=>ih hc hr' hp (fun σ'' a'' w'' hc' hke' hr''=>hk _ _ _ hc' ?_ hr''));rw[Nds.flat,zasa];have:ops.toList[i]? = ops[i]? := by simp
  rw[this];have:=(p2.trans hke.list).trans hke';rwa [qu] at this
 |join seg s d l ihs ih=>
  intro rest R σ c pc r h a w hr Q hp hk;simp only[Kit.nds] at h;cases hsk:zavt (look σ.tm s) with
  |true=>
   rw[hsk,qg] at h;simp only[Nds.flat,qq];refine ihs h hr hp (fun σ' a' w' hc hke hr'=>?_);refine ih hc hr' hp (fun σ'' a'' w'' hc' hke' hr''=>hk _ _ _ hc' ?_ hr'');rw[Nds.flat,zakl];exact hke.trans hke'
  |false=>
  rw[hsk,qf] at h;cases hb:(zab4 ops.toList seg.flat).elem d&&(zab4 ops.toList seg.flat).all (Nat.blt · nt) with
  |false=>rw[hb] at h; cases h
  |true=>
   rw[hb,qg] at h;simp only[qd,List.elem_eq_mem,qj] at hb;obtain ⟨hd,hds⟩:=hb;simp only[qb,jn] at h;obtain ⟨x,hx,h⟩:=h;simp only[Nds.flat,qq];refine ihs hx hr (fun _ _ _ _ h=>by cases h) (fun σ' a' w' hc hke hr'=>?_);refine ih h (hr'.over hke hc hds) hp (fun σ'' a'' w'' hc' hke' hr''=>hk _ _ _ hc' ?_ hr'');rw[Nds.flat,zakl];exact (zab2.over hd).trans hke'
theorem zar1 (hK:KitOk K V) {ops:Array Oper} {l:Nds} (hf:l.flat=List.range ops.size) {R:Type} {σ:St K.u.U} {c pc:St K.u.U->Option R} {r:R} (h:K.nds nt ops.toList l σ c pc=some r) {a:Act} {w:World} (hr:Rel K V B nt σ a w)
  {Q:Exit->Act->World->Prop} (hp:∀ σ' v a' w',pc σ'=some r->RelP K V B nt σ' v a' w'->Q (.panic [{ v:=v,recovered:=false }]) a' w') (hk:∀ σ' a' w',c σ'=some r->Rel K V B nt σ' a' w'->Q .normal a' w'):wpOps K.P ops Q (List.range ops.size) a w:=by
 have:=zawl hK l (rest:=[]) h hr (Q:=Q) hp (fun σ' a' w' hc _ hr'=>by simp only[wpOps]; exact hk _ _ _ hc hr');rwa [xj,hf] at this
end
def zade (full:List Oper) (j:Nat):List Nat:=(List.range full.length).filter fun i=>!(Nat.beq i j)&&!(ancOf full full.length i).elem j
def zack (full:List Oper) (j:Nat):List Nat:=(List.range full.length).filter fun i=>!(Nat.beq i j)&&(ancOf full full.length i).elem j
def zak2 (full:List Oper):List Nat->Bool
 |[]=>true
 |x::l=>(l.all fun y=>!(Nat.beq y x)&&!(zabd full x).elem y)&&zak2 full l
section
variable (K:Kit) {R:Type}
def zas8 (full:List Oper) (j:Nat) (o:Oper) (rs:List Rec):Bool:=rs.all fun x=>x.W.isEmpty&&((ancOf full full.length j).elem x.i||(match x.d with|some d=>!(zajg o.op.operands.toList).elem d|none=>true))
def panSt (full:List Oper) (σ:St K.u.U) (p:PV K.u.U) (up:Ups K.u.U):St K.u.U:=⟨(zaax,p)::((zab4 full (List.range full.length)).map (fun s=>(s,PV.junk))++σ.tm),up++σ.st⟩
def Kit.drawP (nt:Nat) (full:List Oper) (j:Nat) (σ:St K.u.U) (c pc:St K.u.U->Option R):Option R:=
 match full[j]? with
 |none=>none
 | some o => bif o.guard.isNone && dstOk nt o.dst && (zab4 full (List.range full.length)).all (Nat.blt · nt) && zak2 full (zade full j ++ j :: zack full j) && Nat.beq (zade full j ++ j :: zack full j).length full.length then
   K.ops nt full (zade full j) σ [] fun σ1 rs1 => bif zas8 full j o rs1 && zae9 full rs1 then
    K.stepP o (look σ1.tm) (look σ1.st) (fun p up => K.ops nt full (zack full j) (σ1.put o.dst p up) (mkRec K j o (look σ1.tm) none up :: rs1) fun σ' rs => if zae9 full rs = true then c σ' else none)
     (fun p up=>pc (panSt K full σ p up))
   else none
  else none
end
section
variable {K:Kit} {R R':Type} {V:Env} {B:Base} {nt:Nat} {full:List Oper}
abbrev Two (K:Kit):=(PV K.u.U×Ups K.u.U)⊕(PV K.u.U×Ups K.u.U)
def both2 (c pc:PV K.u.U->Ups K.u.U->Option R):Two K->Option R
 |.inl y=>c y.1 y.2
 |.inr y=>pc y.1 y.2
def inl2 (p:PV K.u.U) (up:Ups K.u.U):Option (Two K):=some (.inl (p,up))
def inr2 (p:PV K.u.U) (up:Ups K.u.U):Option (Two K):=some (.inr (p,up))
theorem zamd {S:Nat->Option (Ob K.u.U)} {ps:List (PV K.u.U)} {d:Nat} {c pc:PV K.u.U->Ups K.u.U->Option R}:∀ {ms:List (Mode K.u.U)},K.callMsP S ps d c pc ms=(K.callMsP S ps d inl2 inr2 ms).bind (both2 c pc)
 |[]=>rfl
 |m::ms=>by
  simp only[Kit.callMsP];cases zad9 m.sh.tm ps with
  |false=>exact zamd
  |true=>
   simp only[qg,Tr.on_eq,qw];congr 1; funext x; congr 1; funext r; congr 1; funext o; congr 1; funext y;cases o.isPan<;>rfl
theorem zai3 {S : Nat -> Option (Ob K.u.U)} {ps : List (PV K.u.U)} {d : Nat} {y : PV K.u.U × Ups K.u.U} : ∀ {ms : List (Mode K.u.U)}, K.callMsP S ps d inl2 inr2 ms = some (.inl y) -> K.callMs S ps d (fun p up => some (p, up)) ms = some y
 |[],h=>by cases h
 |m::ms,h=>by
  simp only[Kit.callMsP] at h;simp only[Kit.callMs];cases hpre:zad9 m.sh.tm ps with
  |false=>rw[hpre] at h; exact zai3 h
  |true=>
   rw[hpre] at h;simp only[qg,Tr.on_eq,qb] at h ⊢;obtain ⟨x,hx,jr,hj,o,ho,z,hz,h⟩:=h;refine ⟨x,hx,jr,hj,o,ho,?_⟩;cases hpn:o.isPan with
   |true=>rw[hpn] at h; cases h
   |false=>
    rw[hpn] at h;rw[qf,qb];refine ⟨z,hz,?_⟩;have:(Sum.inl (z.1,z.2):Two K)=.inl y:=Option.some.inj h;cases this;rfl
theorem zajq {S:Nat->Option (Ob K.u.U)} {f:FuncId} {ps:List (PV K.u.U)} {d:Option Nat} {c pc:PV K.u.U->Ups K.u.U->Option R}:K.callFP S f ps d c pc=(K.callFP S f ps d inl2 inr2).bind (both2 c pc):=by
 cases d<;>exact zamd
theorem zagr {S:Nat->Option (Ob K.u.U)} {f:FuncId} {ps:List (PV K.u.U)} {d:Option Nat} {y:PV K.u.U×Ups K.u.U} (h:K.callFP S f ps d inl2 inr2=some (.inl y)):K.callF S f ps d (fun p up=>some (p,up))=some y:=by
 cases d<;>exact zai3 h
theorem zamz {o:Oper} {tm:Nat->Option (PV K.u.U)} {S:Nat->Option (Ob K.u.U)} {c pc:PV K.u.U->Ups K.u.U->Option R}:K.step o tm S c=(K.step o tm S inl2).bind (both2 c pc):=by
 rw[zagz];rfl
theorem zaio {o:Oper} {tm:Nat->Option (PV K.u.U)} {S:Nat->Option (Ob K.u.U)} {y:PV K.u.U×Ups K.u.U} (h:K.step o tm S inl2=some (.inl y)):K.step o tm S (fun p up=>some (p,up))=some y:=by
 rw[zadh] at h;simp only[qb] at h;obtain ⟨z,hz,h⟩:=h;have:(Sum.inl (z.1,z.2):Two K)=.inl y:=Option.some.inj h;cases this;exact hz
theorem zawj {o:Oper} {tm:Nat->Option (PV K.u.U)} {S:Nat->Option (Ob K.u.U)} {c pc:PV K.u.U->Ups K.u.U->Option R}:K.stepP o tm S c pc=(K.stepP o tm S inl2 inr2).bind (both2 c pc):=by
 unfold Kit.stepP;split
 ·split<;>rfl
 ·split
  ·rw[qw]; congr 1; funext ps; exact zajq
  ·split
   ·rw[qw]; congr 1; funext ps; exact zajq
   ·rw[zaa1]; congr 1;rw[qw]; congr 1; funext ps; exact zajq
   ·exact zamz
  ·exact zamz
 ·exact zamz
theorem zarl {o:Oper} {tm:Nat->Option (PV K.u.U)} {S:Nat->Option (Ob K.u.U)} {y:PV K.u.U×Ups K.u.U} (h:K.stepP o tm S inl2 inr2=some (.inl y)):K.step o tm S (fun p up=>some (p,up))=some y:=by
 unfold Kit.stepP at h;split at h
 ·split at h
  ·cases h
  ·cases h
 ·rename_i cl ho;split at h
  ·rename_i f hcl;unfold Kit.step;rw[ho];simp only[hcl];simp only[qb] at h ⊢;obtain ⟨ps,h1,h2⟩:=h;exact ⟨ps,h1,zagr h2⟩
  ·rename_i x hx hcl;split at h
   ·rename_i f cs hxx;unfold Kit.step;rw[ho];simp only[hcl];cases x with
    |func f=>exact absurd rfl (hx f)
    |_=>
     (try simp only)
     rw[hxx];simp only[qb] at h ⊢;obtain ⟨ps,h1,h2⟩:=h;exact ⟨ps,h1,zagr h2⟩
   ·rename_i f a b hxx;unfold Kit.step;rw[ho];simp only[hcl];split at h
    ·rename_i hh;cases x with
     |func f=>exact absurd rfl (hx f)
     |_=>
      (try simp only)
      rw[hxx]
      (try simp only)
      rw[if_pos hh];simp only[qb] at h ⊢;obtain ⟨ps,h1,h2⟩:=h;exact ⟨ps,h1,zagr h2⟩
    ·cases h
   ·exact zaio h
  ·exact zaio h
 ·exact zaio h
theorem zax4 {o:Oper} {tm tm':Nat->Option (PV K.u.U)} {S:Nat->Option (Ob K.u.U)} {c pc:PV K.u.U->Ups K.u.U->Option R} (h1:∀ x∈o.op.operands.toList,ev K tm x=ev K tm' x):K.stepP o tm S c pc=K.stepP o tm' S c pc:=by
 have he:K.step o tm S c=K.step o tm' S c:=by
  rw[zadh (tm:=tm),zadh (tm:=tm')];congr 1;cases hs:(K.step o tm S fun p up=>some (p,up)) with
  |some y=>exact (zagu hs h1 (fun _ _=>rfl) (fun _ _=>rfl)).symm
  |none=>
   cases hs':(K.step o tm' S fun p up=>some (p,up)) with
   |none=>rfl
   |some y=>rw[zagu hs' (fun x hx=>(h1 x hx).symm) (fun _ _=>rfl) (fun _ _=>rfl)] at hs; cases hs
 unfold Kit.stepP;cases ho:o.op with
 |panic x=>simp only[]; rw[h1 x (by simp[ho,Op.operands])]
 |call cl=>
  have hl:∀ x∈cl.args.toList,x∈o.op.operands.toList:=fun x hx=>by simp only[ho,Op.operands,Call.operands,Array.toList_append]; exact xu.2 (.inr hx)
  have ha:=zafi (tm:=tm) (tm':=tm') (fun x hx=>h1 x (hl x hx));simp only[];cases hcl:cl.callee with
  |value x=>
   cases x with
   |func f=>simp only[]; rw[ha]
   |_=>simp only[]; rw[h1 _ (by simp[ho,Op.operands,Call.operands,hcl]),ha,he]
  |_=>exact he
 |_=>exact he
end
section
variable {K:Kit} {R R':Type} {V:Env} {B:Base} {nt:Nat} {full:List Oper}
def Cons (full:List Oper) (x y:Nat):Prop:=y≠x/\y∉zabd full x
theorem zal6:∀ {l:List Nat},zak2 full l=true->l.Pairwise (Cons full)
 |[],_=>List.Pairwise.nil
 |x::l,h=>by
  simp only[zak2,qd] at h;obtain ⟨h1,h2⟩:=h;refine List.Pairwise.cons (fun y hy=>?_) (zal6 h2);have:=qy.1 h1 y hy;simp only[qd,Bool.not_eq_true',List.elem_eq_mem,ya] at this;refine ⟨fun e=>?_,this.2⟩;subst e;simp at this
theorem zar5 (hf:zads full=true):∀ y,∀ e∈zabd full y,e<y:=by
 intro y e he;by_cases hy:y<full.length
 ·have:=qy.1 hf y (List.mem_range.2 hy);have:=qy.1 this e he;simpa using this
 ·unfold zabd at he;rw[List.getElem?_eq_none (by omega)] at he;cases he
theorem zaui (hK:KitOk K V) {ops:Array Oper} (hf:zads ops.toList=true):∀ (fuel:Nat) (listed:Array Bool) (L:List Nat) {σ τ:St K.u.U} {rs:List Rec} {a:Act} {w:World} {Q:Exit->Act->World->Prop},
  listed.size=ops.size->L.Pairwise (Cons ops.toList)->(∀ i,i∈L↔i<ops.size/\listed[i]? = some false)->(∀ y,listed.getD y false=true->∀ e∈zabd ops.toList y,listed.getD e false=true) ->
  run K nt ops.toList L σ=some (τ,rs)->zac7 ops.toList rs->L.length<=fuel->Rel K V B nt σ a w->(∀ τ' a' w',τ'.eqv τ->Rel K V B nt τ' a' w'->Q .normal a' w')->wpAny K.P .any ops Q fuel listed a w:=by
 have hfw:=zar5 hf;have hnil:∀ (listed:Array Bool) (L:List Nat),listed.size=ops.size->L.Pairwise (Cons ops.toList)->(∀ i,i∈L↔i<ops.size/\listed[i]? = some false)->Region.ready .any ops listed=[]->L=[]:=by
  intro listed L hs hp hL hr;cases L with
  |nil=>rfl
  |cons i L=>
   exfalso;obtain ⟨h1,h2⟩:=(hL i).1 (by simp);have:i∈Region.ready .any ops listed:=(zacy hs).2 ⟨h1,h2,fun e he=>by
    have hlt:=hfw i e he;have hn:e∉i::L:=fun hm=>by
     cases hm with
     |head=>omega
     |tail _ hm=>exact ((List.pairwise_cons.1 hp).1 e hm).2 he
    have hel:e<listed.size:=by omega
    have:¬ listed[e]? = some false:=fun h=>hn ((hL e).2 ⟨by omega,h⟩)
    simp[hel] at this ⊢;exact this⟩
   rw[hr] at this;cases this
 intro fuel;induction fuel with
 |zero=>
  intro listed L σ τ rs a w Q hs hp hL hD hrun hok hlen hrel hfin;have:L=[]:=by cases L with|nil=>rfl|cons=>simp at hlen
  subst this;simp[run] at hrun;obtain ⟨rfl,_⟩:=hrun;refine ⟨?_,hfin σ a w (St.eqv.refl _) hrel⟩;cases hr:Region.ready .any ops listed with
  |nil=>rfl
  |cons i l=>
   exfalso;obtain ⟨h1,h2,_⟩:=(zacy hs).1 (by rw[hr]; exact List.mem_cons_self:i∈Region.ready .any ops listed);have:=(hL i).2 ⟨h1,h2⟩;cases this
 |succ fuel ih=>
  intro listed L σ τ rs a w Q hs hp hL hD hrun hok hlen hrel hfin;refine ⟨fun hr=>?_,fun i hi=>?_⟩
  ·have:=hnil listed L hs hp hL hr;subst this;simp[run] at hrun;obtain ⟨rfl,_⟩:=hrun;exact hfin σ a w (St.eqv.refl _) hrel
  ·obtain ⟨h1,h2,h3⟩:=(zacy hs).1 hi;have hm:=(hL i).2 ⟨h1,h2⟩;obtain ⟨L1,L2,rfl⟩:=List.append_of_mem hm;obtain ⟨rs1,x,rs2,rfl,e2,e3,e4⟩:=zafw hrun;obtain ⟨hok2,hpair⟩:=hok.drop;have hin:∀ y∈rs1,y.indep x=true:=fun y hy=>by
    rcases hpair y hy with h|h
    ·exfalso;rw[e3] at h;have hyl:=zakx (full:=ops.toList) (D:=fun z=>listed.getD z false=true) hD _ i h3 y.i h;have hyL:y.i∈L1++i::L2:=xu.2 (.inl (by rw[<-e2]; exact xx hy));obtain ⟨hy1,hy2⟩:=(hL y.i).1 hyL;have hyl':y.i<listed.size:=by omega
     simp[hyl'] at hyl hy2;rw[hyl] at hy2;cases hy2
    ·exact h
   obtain ⟨τ',h5,h6⟩:=e4 hin;simp only[run,qb,qk,xa] at h5;obtain ⟨⟨ρ,r⟩,h7,⟨τ0,rs0⟩,h8,rfl,h9⟩:=h5;simp only[xh] at h9;obtain ⟨rfl,rfl⟩:=h9;refine zae2 hK (c:=fun σ' r=>some (σ',r)) (r:=(ρ,r)) h7 hrel (fun σ' rec a' w' hc hr'=>?_);simp only[qk,xa] at hc;obtain ⟨rfl,rfl⟩:=hc;have hil:i<listed.size:=by omega
   have hp':(L1++L2).Pairwise (Cons ops.toList):=by
    refine hp.sublist ?_;exact List.Sublist.append_left (List.sublist_cons_self _ _) _
   have hne:∀ j∈L1++L2,j≠i:=by
    rw[List.pairwise_append] at hp;obtain ⟨_,q2,q3⟩:=hp;intro j hj;rcases xu.1 hj with hj|hj
    ·exact (q3 j hj i (by simp)).1.symm
    ·exact ((List.pairwise_cons.1 q2).1 j hj).1
   refine ih (listed.setIfInBounds i true) (L1++L2) (by simpa using hs) hp' (fun j=>?_) (fun y hy e he=>?_) h8 hok2 (by simp at hlen ⊢; omega) hr' (fun τ2 a2 w2 q1 q2=>hfin τ2 a2 w2 (q1.trans h6) q2)
   ·by_cases hj:j=i
    ·subst hj;simp only[Array.getElem?_setIfInBounds_self_of_lt hil];constructor
     ·intro h; exact absurd rfl (hne j h)
     ·rintro ⟨_,h⟩; cases h
    ·rw[Array.getElem?_setIfInBounds_ne (Ne.symm hj),<-hL j];simp only[xu,List.mem_cons];constructor
     ·rintro (h|h)<;>simp[h]
     ·rintro (h|h|h)
      ·exact .inl h
      ·exact absurd h hj
      ·exact .inr h
   ·have get:∀ z,(listed.setIfInBounds i true).getD z false=if z=i then true else listed.getD z false:=by
     intro z;by_cases hz:z=i
     ·subst hz; simp[hil]
     ·simp only[Array.getD_eq_getD_getElem?,Array.getElem?_setIfInBounds_ne (Ne.symm hz),hz,if_false]
    rw[get] at hy ⊢;split
    ·rfl
    ·by_cases hyi:y=i
     ·subst hyi; exact h3 e he
     ·rw[if_neg hyi] at hy; exact hD y hy e he
theorem zau6 (hK:KitOk K V) {ops:Array Oper} (hf:zads ops.toList=true) {j:Nat} {o:Oper} (ho:ops[j]? = some o) (hg:o.guard=none) {L2:List Nat} (hb:∀ i∈L2,j∈ancOf ops.toList ops.toList.length i)
  {σ:St K.u.U} {y:PV K.u.U×Ups K.u.U} {ds:List Nat} (hds:∀ s∈ds,s<nt) (hdo:∀ (i d:Nat),(ops[i]?).bind (fun o:Oper=>o.dst)=some d->d∈ds) {Q:Exit->Act->World->Prop}
  (hfin:∀ v a' w',RelP K V B nt ⟨(zaax,y.1)::(ds.map (fun s=>(s,PV.junk))++σ.tm),y.2++σ.st⟩ v a' w'->Q (.panic [{ v:=v,recovered:=false }]) a' w'):∀ (fuel:Nat) (listed:Array Bool) (L:List Nat) {ρ τ:St K.u.U} {rs:List Rec} {a:Act} {w:World},
  listed.size=ops.size->(L++j::L2).Pairwise (Cons ops.toList)->(∀ i,i∈L++j::L2↔i<ops.size/\listed[i]? = some false)->(∀ y,listed.getD y false=true->∀ e∈zabd ops.toList y,listed.getD e false=true) ->
  run K nt ops.toList L ρ=some (τ,rs)->zac7 ops.toList rs->(∀ x∈rs,x.W=[]/\(x.i∈ancOf ops.toList ops.toList.length j\/∀ d,x.d=some d->d∉zajg o.op.operands.toList)) ->
  K.stepP o (look τ.tm) (look τ.st) inl2 inr2=some (.inr y)->L.length+1<=fuel->(∀ s,s∉ds->look ρ.tm s=look σ.tm s)->look ρ.st=look σ.st->Rel K V B nt ρ a w->wpAny K.P .any ops Q fuel listed a w:=by
 have hfw:=zar5 hf;intro fuel;induction fuel with
 |zero=>intro listed L ρ τ rs a w hs hp hL hD hrun hok hW hst hlen; omega
 |succ fuel ih=>
  intro listed L ρ τ rs a w hs hp hL hD hrun hok hW hst hlen hk1 hk2 hrel;have get:∀ i,i∈L++j::L2->i<ops.size/\listed.getD i false=false:=fun i hi=>by
   obtain ⟨q1,q2⟩:=(hL i).1 hi;refine ⟨q1,?_⟩;rw[Array.getD_eq_getD_getElem?,q2];rfl
  refine ⟨fun hr=>?_,fun i hi=>?_⟩
  ·
   exfalso;have hd:∃ i l,L++j::L2=i::l:=by cases L with|nil=>exact ⟨_,_,rfl⟩|cons i l=>exact ⟨_,_,rfl⟩
   obtain ⟨i,l,he⟩:=hd;obtain ⟨h1,h2⟩:=(hL i).1 (by rw[he]; simp);have:i∈Region.ready .any ops listed:=(zacy hs).2 ⟨h1,h2,fun e hee=>by
    have hlt:=hfw i e hee;have hn:e∉L++j::L2:=fun hm=>by
     rw[he] at hm hp;cases hm with
     |head=>omega
     |tail _ hm=>exact ((List.pairwise_cons.1 hp).1 e hm).2 hee
    have hel:e<listed.size:=by omega
    have:¬ listed[e]? = some false:=fun h=>hn ((hL e).2 ⟨by omega,h⟩)
    simp[hel] at this ⊢;exact this⟩
   rw[hr] at this;cases this
  ·obtain ⟨h1,h2,h3⟩:=(zacy hs).1 hi;have hanc:∀ x∈ancOf ops.toList ops.toList.length i,listed.getD x false=true:=zakx (full:=ops.toList) (D:=fun z=>listed.getD z false=true) hD _ i h3;have hm:=(hL i).2 ⟨h1,h2⟩;rw[xu,List.mem_cons] at hm;rcases hm with hm|hm|hm
   ·
    obtain ⟨L1,L3,rfl⟩:=List.append_of_mem hm;obtain ⟨rs1,x,rs2,rfl,e2,e3,e4⟩:=zafw hrun;obtain ⟨hok2,hpair⟩:=hok.drop;have hin:∀ y∈rs1,y.indep x=true:=fun y hy=>by
     rcases hpair y hy with h|h
     ·exfalso;rw[e3] at h;have q1:=hanc y.i h;have q2:=(get y.i (xu.2 (.inl (xu.2 (.inl (by rw[<-e2]; exact xx hy)))))).2;rw[q1] at q2;cases q2
     ·exact h
    obtain ⟨τ',h5,h6⟩:=e4 hin;simp only[run,qb,qk,xa] at h5;obtain ⟨⟨ρ',r⟩,h7,⟨τ0,rs0⟩,h8,rfl,h9⟩:=h5;simp only[xh] at h9;obtain ⟨rfl,rfl⟩:=h9;obtain ⟨px,ux,_,fx,wx,ex,cx⟩:=zac0 h7;have hux:ux=[]:=by
     have:=(hW r (by simp)).1;rw[wx] at this;simpa using this
    subst hux;refine zape hK (c:=fun σ' r=>some (σ',r)) (r:=(ρ',r)) h7 hrel (fun σ' rec a' w' hc hkeep hr'=>?_);simp only[qk,xa] at hc;obtain ⟨rfl,rfl⟩:=hc;have hil:i<listed.size:=by omega
    have hp':((L1++L3)++j::L2).Pairwise (Cons ops.toList):=by
     refine hp.sublist ?_;exact List.Sublist.append_right (List.Sublist.append_left (List.sublist_cons_self _ _) _) _
    have hne:∀ k∈(L1++L3)++j::L2,k≠i:=by
     rw[qq,qp,List.pairwise_append] at hp;obtain ⟨_,q2,q3⟩:=hp;intro k hk;rw[qq] at hk;rcases xu.1 hk with hk|hk
     ·exact (q3 k hk i (by simp)).1.symm
     ·exact ((List.pairwise_cons.1 q2).1 k hk).1
    refine ih (listed.setIfInBounds i true) (L1++L3) (by simpa using hs) hp' (fun k=>?_) (fun y hy e he=>?_) h8 hok2 (fun z hz=>hW z (by simp at hz ⊢; rcases hz with hz|hz<;>simp[hz])) ?_ (by simp at hlen ⊢; omega) (fun s hs=>?_) ?_ hr'
    ·by_cases hj:k=i
     ·subst hj;simp only[Array.getElem?_setIfInBounds_self_of_lt hil];constructor
      ·intro h; exact absurd rfl (hne k h)
      ·rintro ⟨_,h⟩; cases h
     ·rw[Array.getElem?_setIfInBounds_ne (Ne.symm hj),<-hL k];simp only[xu,List.mem_cons];constructor
      ·rintro ((h|h)|h)<;>simp[h]
      ·rintro ((h|h|h)|h)
       ·exact .inl (.inl h)
       ·exact absurd h hj
       ·exact .inl (.inr h)
       ·exact .inr h
    ·have get:∀ z,(listed.setIfInBounds i true).getD z false=if z=i then true else listed.getD z false:=by
      intro z;by_cases hz:z=i
      ·subst hz; simp[hil]
      ·simp only[Array.getD_eq_getD_getElem?,Array.getElem?_setIfInBounds_ne (Ne.symm hz),hz,if_false]
     rw[get] at hy ⊢;split
     ·rfl
     ·by_cases hyi:y=i
      ·subst hyi; exact h3 e he
      ·rw[if_neg hyi] at hy; exact hD y hy e he
    ·rw[h6.1,h6.2]; exact hst
    ·rw[hkeep.1 s (fun hd=>hs (hdo i s hd)),hk1 s hs]
    ·rw[ex.2];exact hk2
   ·
    subst hm;have hops:∀ s∈zajg o.op.operands.toList,look τ.tm s=look ρ.tm s:=by
     clear ih hlen hk1 hk2 hrel hst;intro s hs;have:∀ {L:List Nat} {ρ τ:St K.u.U} {rs:List Rec},run K nt ops.toList L ρ=some (τ,rs)->(∀ x∈rs,x.d≠some s)->look τ.tm s=look ρ.tm s:=by
      intro L;induction L with
      |nil=>intro ρ τ rs h _; simp[run] at h; rw[h.1]
      |cons k L ihL=>
       intro ρ τ rs h hx;simp only[run,qb,qk,xa] at h;obtain ⟨⟨ρ',r⟩,h7,⟨τ0,rs0⟩,h8,rfl,rfl⟩:=h;obtain ⟨px,ux,_,fx,wx,ex,cx⟩:=zac0 h7;rw[ihL h8 (fun x hx'=>hx x (by simp[hx'])),ex.1,zacn,if_neg (hx r (by simp))]
     refine this hrun (fun x hx hd=>?_);rcases (hW x hx).2 with h|h
     ·have q1:=hanc x.i h;have hxi:x.i∈L:=by rw[<-zagw hrun]; exact xx hx
      have q2:=(get x.i (xu.2 (.inl hxi))).2;rw[q1] at q2;cases q2
     ·exact h s hd hs
    have hsts:look τ.st=look ρ.st:=by
     clear ih hlen hk1 hk2 hrel hst;have:∀ {L:List Nat} {ρ τ:St K.u.U} {rs:List Rec},run K nt ops.toList L ρ=some (τ,rs)->(∀ x∈rs,x.W=[])->look τ.st=look ρ.st:=by
      intro L;induction L with
      |nil=>intro ρ τ rs h _; simp[run] at h; rw[h.1]
      |cons k L ihL=>
       intro ρ τ rs h hx;simp only[run,qb,qk,xa] at h;obtain ⟨⟨ρ',r⟩,h7,⟨τ0,rs0⟩,h8,rfl,rfl⟩:=h;obtain ⟨px,ux,_,fx,wx,ex,cx⟩:=zac0 h7;have hux:ux=[]:=by
        have:=hx r (by simp);rw[wx] at this;simpa using this
       subst hux;rw[ihL h8 (fun x hx'=>hx x (by simp[hx'])),ex.2];rfl
     exact this hrun (fun x hx=>(hW x hx).1)
    have hst':K.stepP o (look ρ.tm) (look ρ.st) inl2 inr2=some (.inr y):=by
     rw[<-hsts,<-zax4 (tm:=look τ.tm) (zalb (σ:=τ) (τ:=ρ) (fun s hs=>(hops s hs).symm))];exact hst
    unfold wpOp;rw[ho];simp only;have hw:Region.wanted o (yielded ops a.tmps)=true:=by simp[Region.wanted,hg]
    rw[if_pos hw];refine .inl ?_;obtain ⟨G,β,q1,q2,q3,q4⟩:=hrel;refine zalo hK q1 q2 hst' (fun p up v w' G' β' hc hI hcomp hp=>by cases hc) (fun p up v w' G' β' hc hI hcomp hpr=>?_);have hc:(Sum.inr (p,up):Two K)=.inr y:=Option.some.inj hc;cases hc;refine hfin v a w' ⟨G',β',?_,⟨p,by simp[zaaf],?_⟩,fun s q hs hq=>?_,q3,q4⟩
    ·have:look (up++σ.st)=look (up++ρ.st):=funext fun id=>by rw[zab6,zab6,hk2]
     show Inv K V B G' (look (up++σ.st)) β' w';rw[this];exact hI
    ·have:look (up++σ.st)=look (up++ρ.st):=funext fun id=>by rw[zab6,zab6,hk2]
     show PRel K G' (look (up++σ.st)) β' p v;rw[this];exact hpr
    ·have e:look (up++σ.st)=look (up++ρ.st):=funext fun id=>by rw[zab6,zab6,hk2]
     show ∃ u,a.tmps[s]? = some u/\PRel K G' (look (up++σ.st)) β' q u;rw[e];simp only[zaaf,if_neg hs,zag4] at hq;by_cases c:s∈ds
     ·rw[if_pos c] at hq;cases hq;have hlt:s<a.tmps.size:=by rw[q3]; exact hds s c
      exact ⟨a.tmps[s],Array.getElem?_eq_getElem hlt,by simp only[PRel]⟩
     ·rw[if_neg c,<-hk1 s c] at hq;obtain ⟨u,u1,u2⟩:=q2 s q hq;exact ⟨u,u1,u2.over hcomp⟩
   ·
    exfalso;have q1:=hanc j (hb i hm);have q2:=(get j (by simp)).2;rw[q1] at q2;cases q2
theorem zanl : ∀ {l m : List Nat} {σ : St K.u.U}, run K nt full (l ++ m) σ = (run K nt full l σ).bind fun x => (run K nt full m x.1).bind fun y => some (y.1, x.2 ++ y.2)
 |[],m,σ=>by
  simp only[qu,run,qa];cases run K nt full m σ<;>rfl
 |i::l,m,σ=>by
  simp only[qp,run,qw,qa];congr 1;funext x;rw[zanl,qw];congr 1;funext y;simp only[qw,qa]
theorem zaub {l:List Nat} {i d:Nat} (hi:i∈l) (h:(full[i]?).bind (·.dst)=some d):d∈zab4 full l:=by
 unfold zab4;exact List.mem_filterMap.2 ⟨i,hi,h⟩
theorem zask (hK:KitOk K V) {ops:Array Oper} {id j:Nat} {σ:St K.u.U} {c pc:St K.u.U->Option R} {r:R} (hf:zads ops.toList=true) (h:K.drawP nt ops.toList j σ c pc=some r) {a:Act} {w:World} (hr:Rel K V B nt σ a w)
  {Q:Exit->Act->World->Prop} (hp:∀ σ' v a' w',pc σ'=some r->RelP K V B nt σ' v a' w'->Q (.panic [{ v:=v,recovered:=false }]) a' w') (hk:∀ σ' a' w',c σ'=some r->Rel K V B nt σ' a' w'->Q .normal a' w'):(Code.region id ops true).wp K.P Q a w:=by
 unfold Kit.drawP at h;split at h
 ·cases h
 ·rename_i o ho;have hlen:ops.toList.length=ops.size:=by simp
  cases hc:(o.guard.isNone&&dstOk nt o.dst&&(zab4 ops.toList (List.range ops.toList.length)).all (Nat.blt · nt)&&zak2 ops.toList (zade ops.toList j++j::zack ops.toList j)&&Nat.beq (zade ops.toList j++j::zack ops.toList j).length ops.toList.length) with
  |false=>rw[hc] at h; cases h
  |true=>
   rw[hc,qg] at h;simp only[qd] at hc;obtain ⟨⟨⟨⟨c1,c2⟩,c3⟩,c4⟩,c5⟩:=hc;have hg:o.guard=none:=by simpa using c1
   have hcons:=zal6 c4;have hj:j<ops.size:=by
    have:=(xr.1 ho).1;omega
   have hmem:∀ i,i∈zade ops.toList j++j::zack ops.toList j↔i<ops.size:=by
    intro i;unfold zade zack;rw[xu,List.mem_cons,List.mem_filter,List.mem_filter,List.mem_range,hlen];constructor
    ·rintro (h|h|h)
     ·exact h.1
     ·subst h; exact hj
     ·exact h.1
    ·intro hi;by_cases e:i=j
     ·exact .inr (.inl e)
     ·have hb:Nat.beq i j=false:=by
       cases hb:Nat.beq i j with
       |false=>rfl
       |true=>exact absurd (qx hb) e
      rw[hb];cases hel:(ancOf ops.toList ops.size i).elem j with
      |false=>exact .inl ⟨hi,rfl⟩
      |true=>exact .inr (.inr ⟨hi,rfl⟩)
   have hmem0:∀ i,i∈zade ops.toList j++j::zack ops.toList j↔i<ops.size/\(Array.replicate ops.size false)[i]? = some false:=by
    intro i;rw[hmem];constructor
    ·intro h; exact ⟨h,by simp[h]⟩
    ·exact fun h=>h.1
   have hD0:∀ y,(Array.replicate ops.size false).getD y false=true->∀ e∈zabd ops.toList y,(Array.replicate ops.size false).getD e false=true:=by
    intro y hy;exfalso;by_cases hy':y<ops.size
    ·simp[hy'] at hy
    ·simp[hy'] at hy
   have hlenL:(zade ops.toList j++j::zack ops.toList j).length<=ops.size:=by
    have:=qx c5;omega
   rw[zaje] at h;simp only[qb,xj] at h;obtain ⟨⟨τ,rs⟩,h1,h2⟩:=h;simp only at h2;cases hah:(zas8 ops.toList j o rs.reverse&&zae9 ops.toList rs.reverse) with
   |false=>rw[hah] at h2; cases h2
   |true=>
    rw[hah,qg,zawj] at h2;simp only[qb] at h2;obtain ⟨z,hz,h3⟩:=h2;rw[qd] at hah;obtain ⟨hah,hpo⟩:=hah;have hW:∀ x∈rs,x.W=[]/\(x.i∈ancOf ops.toList ops.toList.length j\/∀ d,x.d=some d->d∉zajg o.op.operands.toList):=by
     intro x hx;have:=qy.1 hah x (List.mem_reverse.2 hx);simp only[qd,Bool.or_eq_true,List.isEmpty_iff,List.elem_eq_mem,qj] at this;refine ⟨this.1,this.2.imp (fun h=>h) (fun h d hd=>?_)⟩;rw[hd] at h;simpa using h
    have hgetj:ops[j]? = some o:=by rw[<-ho]; simp
    cases z with
    |inl y=>
     have hs:=zarl hz;simp only[both2] at h3;rw[zaje] at h3;simp only[qb] at h3;obtain ⟨⟨τ2,rs2⟩,h4,h5⟩:=h3;simp only at h5;split at h5
     ·rename_i hpok;have h1j:run1 K nt ops.toList j τ=some (τ.put o.dst y.1 y.2,mkRec K j o (look τ.tm) none y.2):=by
       unfold run1 Kit.op;rw[ho];simp only[c2,qg,hg];rw[zadh,hs];rfl
      have hrun:run K nt ops.toList (zade ops.toList j++j::zack ops.toList j) σ=some (τ2,rs++mkRec K j o (look τ.tm) none y.2::rs2):=by
       rw[zanl,h1];simp only[qa,run,h1j,h4]
      have hok:=zaf8 _ [] trivial hpok (by simp);simp only[List.reverse_append,List.reverse_cons,List.reverse_reverse,xj,qq,List.singleton_append] at hok;refine wp_region_any hK.mixed (zaui hK hf ops.size _ _ (by simp) hcons hmem0 hD0 hrun hok hlenL ?_ (fun τ' a' w' he hr'=>hk τ2 a' w' h5 (hr'.eqv he)));obtain ⟨G,β,q1,q2,q3,q4⟩:=hr;exact ⟨G,β,q1.drew,q2,q3,q4⟩
     ·cases h5
    |inr y=>
     simp only[both2] at h3;have hok:=zaf8 rs.reverse [] trivial hpo (by simp);simp only[List.reverse_reverse,xj] at hok
     refine wp_region_any hK.mixed (zau6 hK hf hgetj hg (L2 := zack ops.toList j) (fun i hi => ?_) (σ := σ) (y := y) (ds := zab4 ops.toList (List.range ops.toList.length)) (fun s hs => ?_) (fun i d hd => ?_)
      (fun v a' w' hr'=>hp _ v a' w' h3 hr') ops.size _ (zade ops.toList j) (by simp) hcons hmem0 hD0 h1 hok hW hz ?_ (fun _ _=>rfl) rfl ?_)
     ·unfold zack at hi;have:=(List.mem_filter.1 hi).2;simp only[qd,List.elem_eq_mem,qj] at this;exact this.2
     ·have:=qy.1 c3 s hs;simpa using this
     ·have hi:i<ops.size:=by
       cases hg:ops[i]? with
       |none=>rw[hg] at hd; cases hd
       |some _=>exact (Array.getElem?_eq_some_iff.1 hg).1
      exact zaub (i:=i) (List.mem_range.2 (by rw[hlen]; exact hi)) (by simpa using hd)
     ·rw[qc,qe] at hlenL;omega
     ·obtain ⟨G,β,q1,q2,q3,q4⟩:=hr;exact ⟨G,β,q1.drew,q2,q3,q4⟩
end
def Xit.up:Xit->Exit
 |.normal=>.normal
 |.exit id=>.exit id
 |.ret=>.ret
 |.pan=>.outgrown
def zadj:Code->Nat
 |.region id _ _=>id
 |.seq a _=>zadj a
 |.cond _ a _=>zadj a
 |.block _ b=>zadj b
 |.loop b=>zadj b
 |.scope b=>zadj b
 |_=>0
def zay4 (nt:Nat) (sh:StSh):Bool:=sh.ann.slots.all fun s=>Nat.blt s nt
def Xit.same:Xit->Xit->Bool
 |.normal,.normal=>true
 |.exit i,.exit j=>Nat.beq i j
 |.ret,.ret=>true
 |.pan,.pan=>true
 |_,_=>false
def zaar:Nat:=4000000
def zaao {U:Nat->Type}:Loop U:=⟨⟨⟨[],[],[]⟩,[],[]⟩,[],fun _=>.fail⟩
def zafv (u:Uni) (sh:StSh) (σ:St u.U):Option (List (TV u.U)):=match enter u sh (look σ.tm) (look σ.st) with
 |some ls=>some ls
 |none=>bif σ.st.any (fun x=>x.2.isOpn) then enter u sh (look (σ.closed u).tm) (look (σ.closed u).st) else none
def zaz8:Nat:=888888
def zajb:Nat:=5000000
def zale {U:Nat->Type} (j:Nat):Loop U:=⟨⟨⟨[j],[],[]⟩,[],[]⟩,[],fun _=>.fail⟩
def panAt {U:Nat->Type}:Option (Loop U)->Option Nat
 |some lp=>match lp.sh.ann.slots with
  |[j]=>bif Nat.blt j 10000 then some j else none
  |_=>none
 |none=>none
def swpAt {U:Nat->Type}:Option (Loop U)->Option (Nat×Nat)
 |some lp=>match lp.sh.ann.slots with
  |[a,b]=>bif Nat.ble 10000 a&&Nat.ble 10000 b then some (a-10000,b-10000) else none
  |_=>none
 |none=>none
def swpOk (n p q:Nat):Bool:=!Nat.beq p q&&decide ((List.range n).filter (pq p q)=[p,q])&&decide ((swapL p q (List.range n)).filter (pq p q)=[q,p])&&zabs (swapL p q (List.range n))&&(swapL p q (List.range n)).all (fun i=>Nat.blt i n)&&(List.range n).all (fun i=>(swapL p q (List.range n)).elem i)
def isUnr {U:Nat->Type} (lp:Loop U):Bool:=match lp.sh.ann.slots with
 |[i]=>Nat.beq i zaz8
 |_=>false
def zadt:Code->Bool
 |.seq a b=>zadt a&&zadt b
 |.cond _ a b=>zadt a&&zadt b
 |.block _ b=>zadt b
 |.loop _=>false
 |_=>true
def zaqb {U:Nat->Type} {R:Type} (f:St U->(Xit->St U->Option R)->Option R):Nat->St U->(Xit->St U->Option R)->Option R
 |0,_,_=>none
 |n+1,σ,k=>f σ fun e σ'=>match e with
  |.normal=>zaqb f n σ' k
  |e=>k e σ'
section
variable (K:Kit) {R:Type}
noncomputable def Kit.exec (nt:Nat) (L:Nat->Option (Loop K.u.U)):Code->St K.u.U->(Xit->St K.u.U->Option R)->Option R
 |.skip=>fun σ k=>k .normal σ
 |.region id ops draw=>fun σ k=>
  if draw=true then
   if zads ops.toList=true then match panAt (L (zajb+id)) with
    |none=>match swpAt (L (zajb+id)) with
     |none=>K.ops nt ops.toList (List.range ops.size) σ [] fun σ' rs=>if zae9 ops.toList rs=true then k .normal σ' else none
     | some pq => if swpOk ops.size pq.1 pq.2 = true then both (K.ops nt ops.toList (List.range ops.size) σ [] fun σ' rs => if zahy ops.toList pq.1 pq.2 rs = true then k .normal σ' else none)
       (K.ops nt ops.toList (swapL pq.1 pq.2 (List.range ops.size)) σ [] fun σ' rs=>if zahy ops.toList pq.1 pq.2 rs=true then k .normal σ' else none) else none
    |some j=>K.drawP nt ops.toList j σ (fun σ'=>k .normal σ') (fun σ'=>k .pan σ')
   else none
  else bif (L zaar).isSome then (if (ndsOf ops.toList).flat=List.range ops.size then K.nds nt ops.toList (ndsOf ops.toList) σ (fun σ'=>k .normal σ') (fun σ'=>k .pan σ') else none) else K.ops nt ops.toList (List.range ops.size) σ [] fun σ' _=>k .normal σ'
 |.seq a b=>fun σ k=>Kit.exec nt L a σ fun e σ'=>match e with
  |.normal=>Kit.exec nt L b σ' k
  |.exit id=>k (.exit id) σ'
  |.ret=>k .ret σ'
  |.pan=>k .pan σ'
 |.cond c a b=>fun σ k=>match ev K (look σ.tm) c with
  |some (.t ⟨.bool,t⟩)=>bif t then Kit.exec nt L a σ k else Kit.exec nt L b σ k
  |some .ub=>both (Kit.exec nt L a σ k) (Kit.exec nt L b σ k)
  |_=>none
 |.block id b=>fun σ k=>Kit.exec nt L b σ fun e σ'=>match e with
  |.normal=>k .normal σ'
  |.exit j=>if j=id then k .normal σ' else k (.exit j) σ'
  |.ret=>k .ret σ'
  |.pan=>k .pan σ'
 |.loop b=>fun σ k=>match L (zadj b) with
  |some lp=>bif isUnr lp then (if zadt b=true then zaqb (Kit.exec nt L b) 8 σ k else none) else if zay4 nt lp.sh=true then (zafv K.u lp.sh σ).bind fun ls=>(lp.sum ls).on fun r=>(lp.outs[r.1]?).bind fun o=>k o.xit (o.sh.fill r.2) else none
  |none=>none
 |.exit id=>fun σ k=>k (.exit id) σ
 |.ret=>fun σ k=>k .ret σ
 |_=>fun _ _=>none
def outOf (u:Uni) {R:Type} (e:Xit) (σ:St u.U) (out:Nat->List (TV u.U)->Option R):Nat->List Out->Option R
 |_,[]=>none
 |j,o::r=>match Xit.same o.xit e with
  |true=>match (if Xit.same e .pan=o.sh.isPanL then zafv u o.sh σ else none) with
   |some ls=>out j ls
   |none=>outOf u e σ out (j+1) r
  |false=>outOf u e σ out (j+1) r
noncomputable def Kit.turn (nt:Nat) (L:Nat->Option (Loop K.u.U)) (sh:StSh) (outs:List Out) (b:Code) (ls:List (TV K.u.U)) (rec:List (TV K.u.U)->Option R) (out:Nat->List (TV K.u.U)->Option R):Option R:=
 K.exec nt L b (sh.fill ls) fun e σ=>match e with
  |.normal=>(zafv K.u sh σ).bind rec
  |e=>outOf K.u e σ out 0 outs
variable {K} {V:Env} {B:Base} {nt:Nat}
def Ends (K:Kit) (V:Env) (B:Base) (nt:Nat):Xit->St K.u.U->(Exit->Act->World->Prop)->Prop
 |.pan,σ,Q=>∀ v a w,RelP K V B nt σ v a w->Q (.panic [{ v:=v,recovered:=false }]) a w
 |e,σ,Q=>∀ a w,Rel K V B nt σ a w->Q e.up a w
def zar8 (K:Kit) (V:Env) (nt:Nat) (b:Code) (sh:StSh) (outs:List Out) (ls:List (TV K.u.U)) (j:Nat) (rs:List (TV K.u.U)):Prop:=
 ∀ (B:Base) o,outs[j]? = some o->∀ a w,Rel K V B nt (sh.fill ls) a w->∀ Q:Exit->Act->World->Prop,Ends K V B nt o.xit (o.sh.fill rs) Q->Code.wp K.P (.loop b) Q a w
def zaal (K:Kit) (V:Env) (nt:Nat) (b:Code) (lp:Loop K.u.U):Prop:=
 ∀ ls j rs,(lp.sum ls).val=some (j,rs)->zar8 K V nt b lp.sh lp.outs ls j rs
def zaav:Code->List Code
 |.seq a b=>zaav a++zaav b
 |.cond _ a b=>zaav a++zaav b
 |.block _ b=>zaav b
 |.loop b=>[b]
 |_=>[]
def zaaq (K:Kit) (V:Env) (nt:Nat) (L:Nat->Option (Loop K.u.U)) (c:Code):Prop:=∀ b∈zaav c,∀ lp,L (zadj b)=some lp->zaal K V nt b lp
theorem zapn {sh:StSh} {σ:St K.u.U} {ls:List (TV K.u.U)} (h:enter K.u sh (look σ.tm) (look σ.st)=some ls) {a:Act} {w:World} (hr:Rel K V B nt σ a w):Rel K V B nt (sh.fill ls) a w:=by
 obtain ⟨G,β,h1,h2,h3,h4⟩:=hr;obtain ⟨G',β',i1,i2⟩:=zadv h h1 (vals:=fun s=>a.tmps[s]?) h2;exact ⟨G',β',i1,i2,h3,h4⟩
theorem zag6 {sh:StSh} {σ:St K.u.U} {ls:List (TV K.u.U)} (h:zafv K.u sh σ=some ls) {a:Act} {w:World} (hr:Rel K V B nt σ a w):Rel K V B nt (sh.fill ls) a w:=by
 unfold zafv at h;split at h
 ·rename_i ls' he;cases h;exact zapn he hr
 ·cases hb:σ.st.any (fun x=>x.2.isOpn) with
  |false=>rw[hb] at h; cases h
  |true=>
   rw[hb,qg] at h;exact zapn h hr.closed
theorem RelP.closed {σ:St K.u.U} {v:Value} {a:Act} {w:World} (h:RelP K V B nt σ v a w):RelP K V B nt (σ.closed K.u) v a w:=by
 unfold St.closed;cases σ.st.any (fun x=>x.2.isOpn) with
 |true=>
  obtain ⟨G,β,h1,⟨p,hp1,hp2⟩,h2,h3,h4⟩:=h;obtain ⟨G',β',i1,i2⟩:=zadd (ids:=zar0 σ.st) h1;exact ⟨G',β',i1,⟨p,hp1,hp2.over i2⟩,fun s p hs hq=>by obtain ⟨v,v1,v2⟩:=h2 s p hs hq; exact ⟨v,v1,v2.over i2⟩,h3,h4⟩
 |false=>exact h
theorem zaf9 {sh:StSh} (h:sh.isPan=true):sh.slots=[zaax]:=by
 unfold StSh.isPan at h;split at h
 ·rename_i i hi;have:=qx h;subst this;exact hi
 ·cases h
theorem zava {sh:StSh} (h:sh.isPanL=true):zaax∈sh.slots:=by
 unfold StSh.isPanL at h;simpa [StSh.slots] using h
theorem zakv {α : Type} : ∀ {l : List (Nat × α)} {i : Nat}, i ∈ l.map (·.1) -> ∃ x, look l i = some x
 |[],i,h=>by cases h
 |(j,x)::l,i,h=>by
  rw[zaaf];by_cases e:i=j
  ·exact ⟨x,by simp[e]⟩
  ·obtain ⟨y,hy⟩:=zakv (l:=l) (i:=i) (by simpa [e] using h);exact ⟨y,by simp[e,hy]⟩
theorem zanx {sh:StSh} {σ:St K.u.U} {ls:List (TV K.u.U)} (h:enter K.u sh (look σ.tm) (look σ.st)=some ls) (hpn:sh.isPanL=true) {v:Value} {a:Act} {w:World} (hr:RelP K V B nt σ v a w):RelP K V B nt (sh.fill ls) v a w:=by
 obtain ⟨G,β,h1,⟨p,hp1,hp2⟩,h2,h3,h4⟩:=hr;obtain ⟨G',β',i1,i2⟩:=zadv h h1 (vals:=fun s=>if s=zaax then some v else a.tmps[s]?) (fun s q hs=>by
  by_cases e:s=zaax
  ·subst e;rw[hp1] at hs;cases hs;exact ⟨v,by simp,hp2⟩
  ·obtain ⟨u,u1,u2⟩:=h2 s q e hs;exact ⟨u,by simp[e,u1],u2⟩)
 have hsl:=zaex h;refine ⟨G',β',i1,?_,fun s q hs hq=>?_,h3,h4⟩
 ·obtain ⟨q,hq⟩:=zakv (l:=(sh.fill ls).tm) (i:=zaax) (by rw[hsl]; exact zava hpn);obtain ⟨u,u1,u2⟩:=i2 _ _ hq;simp at u1;subst u1;exact ⟨q,hq,u2⟩
 ·obtain ⟨u,u1,u2⟩:=i2 s q hq;rw[if_neg hs] at u1;exact ⟨u,u1,u2⟩
theorem zasl {sh:StSh} {σ:St K.u.U} {ls:List (TV K.u.U)} (h:zafv K.u sh σ=some ls) (hpn:sh.isPanL=true) {v:Value} {a:Act} {w:World} (hr:RelP K V B nt σ v a w):RelP K V B nt (sh.fill ls) v a w:=by
 unfold zafv at h;split at h
 ·rename_i ls' he;cases h;exact zanx he hpn hr
 ·cases hb:σ.st.any (fun x=>x.2.isOpn) with
  |false=>rw[hb] at h; cases h
  |true=>
   rw[hb,qg] at h;exact zanx h hpn hr.closed
def zaja (P:Program) (c:Code) (Q:Exit->Act->World->Prop) (a:Act) (w:World):Prop:=
 ∀ (b:Frame) (k:List Item) (cs:List Frame),∃ e a' w',Q e a' w'/\Arrives P (lone (b.at a (.code c::.inLoop c::k)) cs w) b k cs e a' w'
theorem zal7 {P:Program} {c:Code} {Q:Exit->Act->World->Prop} {a:Act} {w:World} (h:zaja P c Q a w):(Code.loop c).wp P Q a w:=by
 intro b k cs;obtain ⟨e,a',w',hq,harr⟩:=h b k cs;exact ⟨e,a',w',hq,.of_steps (.one step_loop) harr⟩
theorem zapd {P:Program} {c:Code} {Q:Exit->Act->World->Prop} {a:Act} {w:World} (h:c.wp P (Exit.then (zaja P c Q) Q) a w):zaja P c Q a w:=by
 intro b k cs;obtain ⟨e,a₁,w₁,hq,harr⟩:=h b (.inLoop c::k) cs;cases e with
 |normal=>
  obtain ⟨e₂,a₂,w₂,hq₂,harr₂⟩:=hq b k cs;exact ⟨e₂,a₂,w₂,hq₂,.of_steps (Steps.trans harr (.one step_inLoop)) harr₂⟩
 |exit id=>exact ⟨_,a₁,w₁,hq,.pass (x:=.inLoop c) rfl (fun _ _=>.inl (by simp)) harr⟩
 |goto l=>exact ⟨_,a₁,w₁,hq,.pass (x:=.inLoop c) rfl (fun _ _=>.inl (by simp)) harr⟩
 |ret=>exact ⟨_,a₁,w₁,hq,.pass (x:=.inLoop c) rfl (fun _ _=>.inl (by simp)) harr⟩
 |panic ch=>exact ⟨_,a₁,w₁,hq,.pass (x:=.inLoop c) rfl (fun _ _=>.inl (by simp)) harr⟩
 |outgrown=>exact ⟨_,a₁,w₁,hq,.pass (x:=.inLoop c) rfl (fun _ _=>.inl (by simp)) harr⟩
theorem zasr {c:Code}:zadt c=true->zaav c=[]:=by
 induction c with
 |seq x y ihx ihy=>intro h; simp only[zadt,qd] at h; simp[zaav,ihx h.1,ihy h.2]
 |cond _ x y ihx ihy=>intro h; simp only[zadt,qd] at h; simp[zaav,ihx h.1,ihy h.2]
 |block _ x ih=>intro h; simp only[zadt] at h; simp[zaav,ih h]
 |loop _ _=>intro h; cases h
 |_=>intro _; rfl
theorem zau8 {n p q:Nat} (h:swpOk n p q=true):((List.range n).filter (pq p q)=[p,q]/\(swapL p q (List.range n)).filter (pq p q)=[q,p]/\(swapL p q (List.range n)).Nodup/\∀ i,i∈swapL p q (List.range n)↔i<n)/\p≠q:=by
 simp only[swpOk,qd,qj,qy,Bool.not_eq_true'] at h;obtain ⟨⟨⟨⟨⟨h1,h2⟩,h3⟩,h4⟩,h5⟩,h6⟩:=h;refine ⟨⟨h2,h3,zabe h4,fun i=>⟨fun hi=>?_,fun hi=>?_⟩⟩,fun e=>?_⟩
 ·have:=h5 i hi;exact Nat.blt_eq.mp this
 ·have:=h6 i (List.mem_range.2 hi);simpa using this
 ·subst e; simp at h1
theorem zael (hK:KitOk K V) {L:Nat->Option (Loop K.u.U)}:∀ {code:Code},zaaq K V nt L code->∀ {σ:St K.u.U} {k:Xit->St K.u.U->Option R} {r:R},K.exec nt L code σ k=some r->∀ {a:Act} {w:World},Rel K V B nt σ a w ->
  ∀ {Q:Exit->Act->World->Prop},(∀ e σ',k e σ'=some r->Ends K V B nt e σ' Q)->code.wp K.P Q a w:=by
 intro code;induction code with
 |skip=>intro hL σ k r h a w hr Q hk; exact wp_skip (hk .normal σ h a w hr)
 |region id ops draw=>
  intro hL σ k r h a w hr Q hk;simp only[Kit.exec] at h;cases draw with
  |true=>
   simp only[if_true] at h;split at h
   ·rename_i hf;split at h
    ·split at h
     ·exact zaud hK hf (c:=fun σ'=>k .normal σ') h hr (fun σ' a' w' h' hr'=>hk .normal σ' h' a' w' hr')
     ·split at h
      ·rename_i hsw;obtain ⟨hx,hy⟩:=zao9 h;obtain ⟨e1,e2⟩:=zau8 hsw;exact zasu hK hf e1 e2 (c:=fun σ'=>k .normal σ') hx hy hr (fun σ' a' w' h' hr'=>hk .normal σ' h' a' w' hr')
      ·cases h
    ·exact zask hK hf h hr (fun σ' v a' w' h' hr'=>hk .pan σ' h' v a' w' hr') (fun σ' a' w' h' hr'=>hk .normal σ' h' a' w' hr')
   ·cases h
  |false=>
   simp only[xg,if_false] at h;cases hj:(L zaar).isSome with
   |true=>
    rw[hj,qg] at h;split at h
    ·rename_i hf;exact wp_region (zar1 hK hf h hr (fun σ' v a' w' h' hr'=>hk .pan σ' h' v a' w' hr') (fun σ' a' w' h' hr'=>hk .normal σ' h' a' w' hr'))
    ·cases h
   |false=>
    rw[hj,qf] at h;exact wp_region (zao8 hK h hr (fun σ' _ a' w' h' hr'=>hk .normal σ' h' a' w' hr'))
 |seq x y ihx ihy=>
  intro hL σ k r h a w hr Q hk;simp only[Kit.exec] at h;refine wp_seq (ihx (fun b hb=>hL b (by simp[zaav,hb])) h hr (fun e σ' h'=>?_));cases e with
  |normal=>exact fun a' w' hr'=>ihy (fun b hb=>hL b (by simp[zaav,hb])) h' hr' hk
  |exit id=>exact fun a' w' hr'=>hk (.exit id) σ' h' a' w' hr'
  |ret=>exact fun a' w' hr'=>hk .ret σ' h' a' w' hr'
  |pan=>exact fun v a' w' hr'=>hk .pan σ' h' v a' w' hr'
 |cond c x y ihx ihy=>
  intro hL σ k r h a w hr Q hk;simp only[Kit.exec] at h;split at h
  ·rename_i t ht;have hr0:=hr;obtain ⟨G,β,h1,h2,h3,h4⟩:=hr0;have he:=zaae h2 ht;simp only[PRel] at he;have he:=he.bool_inv;cases t with
   |true=>exact wp_cond_true he (ihx (fun b hb=>hL b (by simp[zaav,hb])) h hr hk)
   |false=>exact wp_cond_false he (ihy (fun b hb=>hL b (by simp[zaav,hb])) h hr hk)
  ·rename_i ht;have hr0:=hr;obtain ⟨G,β,h1,h2,h3,h4⟩:=hr0;have he:=zaae h2 ht;simp only[PRel] at he;obtain ⟨t,he⟩:=he;obtain ⟨hx,hy⟩:=zao9 h;cases t with
   |true=>exact wp_cond_true he (ihx (fun b hb=>hL b (by simp[zaav,hb])) hx hr hk)
   |false=>exact wp_cond_false he (ihy (fun b hb=>hL b (by simp[zaav,hb])) hy hr hk)
  ·cases h
 |block id b ih=>
  intro hL σ k r h a w hr Q hk;simp only[Kit.exec] at h;refine wp_block (ih (fun b hb=>hL b (by simpa [zaav] using hb)) h hr (fun e σ' h'=>?_));cases e with
  |normal=>exact fun a' w' hr'=>hk .normal σ' h' a' w' hr'
  |exit j=>
   intro a' w' hr';simp only at h';simp only[Xit.up,Exit.inBlock];split at h'
   ·rename_i hj;rw[if_pos hj];exact hk .normal σ' h' a' w' hr'
   ·rename_i hj;rw[if_neg hj];exact hk (.exit j) σ' h' a' w' hr'
  |ret=>exact fun a' w' hr'=>hk .ret σ' h' a' w' hr'
  |pan=>exact fun v a' w' hr'=>hk .pan σ' h' v a' w' hr'
 |loop b ih=>
  intro hL σ k r h a w hr Q hk;simp only[Kit.exec] at h;split at h
  ·rename_i lp hlp;cases hu:isUnr lp with
   |true=>
    rw[hu,qg] at h;split at h
    ·rename_i hn;have hLb:zaaq K V nt L b:=fun x hx=>by rw[zasr hn] at hx; cases hx
     have key:∀ n {σ:St K.u.U} {a:Act} {w:World},zaqb (K.exec nt L b) n σ k=some r->Rel K V B nt σ a w->zaja K.P b Q a w:=by
      intro n;induction n with
      |zero=>intro σ a w h; cases h
      |succ n ihn=>
       intro σ a w h hr;refine zapd (ih hLb h hr (fun e σ' h'=>?_));cases e with
       |normal=>exact fun a' w' hr'=>ihn h' hr'
       |exit id=>exact fun a' w' hr'=>hk (.exit id) σ' h' a' w' hr'
       |ret=>exact fun a' w' hr'=>hk .ret σ' h' a' w' hr'
       |pan=>exact fun v a' w' hr'=>hk .pan σ' h' v a' w' hr'
     exact zal7 (key 8 h hr)
    ·cases h
   |false=>
   rw[hu,qf] at h;split at h
   ·rename_i hs;simp only[Tr.on_eq,qb] at h;obtain ⟨ls,h0,⟨j,rs⟩,h1,o,h2,h3⟩:=h;exact hL b (by simp[zaav]) lp hlp ls j rs h1 B o h2 a w (zag6 h0 hr) Q (hk _ _ h3)
   ·cases h
  ·cases h
 |exit id=>intro hL σ k r h a w hr Q hk; exact wp_exit (hk (.exit id) σ h a w hr)
 |ret=>intro hL σ k r h a w hr Q hk; exact wp_ret (hk .ret σ h a w hr)
 |_=>intro hL σ k r h; simp[Kit.exec] at h
theorem zanm {e:Xit} {σ:St K.u.U} {out:Nat->List (TV K.u.U)->Option R} {r:R}:∀ {os:List Out} {j:Nat},outOf K.u e σ out j os=some r->∃ i o ls,os[i]? = some o/\o.xit=e/\(zafv K.u o.sh σ=some ls/\Xit.same e .pan=o.sh.isPanL)/\out (j+i) ls=some r
 |[],j,h=>by simp[outOf] at h
 |o::os,j,h=>by
  simp only[outOf] at h;have go:outOf K.u e σ out (j+1) os=some r->∃ i o' ls,(o::os)[i]? = some o'/\o'.xit=e/\(zafv K.u o'.sh σ=some ls/\Xit.same e .pan=o'.sh.isPanL)/\out (j+i) ls=some r:=fun h=>by
   obtain ⟨i,o',ls,h1,h2,h4,h5⟩:=zanm h;exact ⟨i+1,o',ls,by simpa using h1,h2,h4,by rw[<-h5]; congr 1; omega⟩
  split at h
  ·rename_i hc;have hx:o.xit=e:=by
    cases ho:o.xit<;>cases e<;>simp_all[Xit.same]
   split at h
   ·rename_i ls hl;split at hl
    ·rename_i hpn;exact ⟨0,o,ls,by simp,hx,⟨hl,hpn⟩,h⟩
    ·cases hl
   ·exact go h
  ·exact go h
def zabt (K:Kit) (V:Env) (nt:Nat) (b:Code) (sh:StSh) (outs:List Out) (ls:List (TV K.u.U)) (j:Nat) (rs:List (TV K.u.U)):Prop:=
 ∀ (B:Base) o,outs[j]? = some o->∀ a w,Rel K V B nt (sh.fill ls) a w->∀ Q:Exit->Act->World->Prop,Ends K V B nt o.xit (o.sh.fill rs) Q->zaja K.P b Q a w
theorem zabt.loop {b:Code} {sh:StSh} {outs:List Out} {ls:List (TV K.u.U)} {j:Nat} {rs:List (TV K.u.U)} (h:zabt K V nt b sh outs ls j rs):zar8 K V nt b sh outs ls j rs:=
 fun B o ho a w hr Q hQ=>zal7 (h B o ho a w hr Q hQ)
theorem zavb (hK:KitOk K V) {L:Nat->Option (Loop K.u.U)} {sh:StSh} {outs:List Out} {b:Code} (hL:zaaq K V nt L b) {ls:List (TV K.u.U)} {rec:List (TV K.u.U)->Option R} {out:Nat->List (TV K.u.U)->Option R} {r:R} {j:Nat} {rs:List (TV K.u.U)}
  (h:K.turn nt L sh outs b ls rec out=some r) (hrec:∀ q,rec q=some r->zabt K V nt b sh outs q j rs) (hout:∀ i qs,out i qs=some r->i=j/\qs=rs):zabt K V nt b sh outs ls j rs:=by
 intro B o ho a w hr Q hQ;refine zapd ?_;unfold Kit.turn at h;refine zael hK hL h hr (fun e σ' h'=>?_);have done:∀ e,e≠.normal->outOf K.u e σ' out 0 outs=some r->Ends K V B nt e σ' (Exit.then (zaja K.P b Q) Q):=fun e hne h'=>by
  obtain ⟨i,o',ls',h1,h2,⟨h4,h4'⟩,h5⟩:=zanm h';obtain ⟨rfl,rfl⟩:=hout _ _ h5;rw[Nat.zero_add] at ho;rw[ho] at h1;cases h1;subst h2;cases hx:o.xit with
  |normal=>exact absurd hx hne
  |exit id=>rw[hx] at hQ; exact fun a' w' hr'=>hQ a' w' (zag6 h4 hr')
  |ret=>rw[hx] at hQ; exact fun a' w' hr'=>hQ a' w' (zag6 h4 hr')
  |pan=>rw[hx] at hQ h4'; exact fun v a' w' hr'=>hQ v a' w' (zasl h4 h4'.symm hr')
 cases e with
 |normal=>
  intro a' w' hr';simp only[qb] at h';obtain ⟨q,h1,h2⟩:=h';exact hrec q h2 B o ho a' w' (zag6 h1 hr') Q hQ
 |exit id=>exact done (.exit id) (by simp) h'
 |ret=>exact done .ret (by simp) h'
 |pan=>exact done .pan (by simp) h'
def zaah (c:Code) (i:Nat):Code:=(zaav c).getD i .skip
variable (K) in
def Kit.finOne (σ:St K.u.U):ResultVar->Option (PV K.u.U)
 |.tmp s=>look σ.tm s
 |.cell s T'=>match look σ.tm s with
  |some (.ptr id 0)=>match look σ.st id with
   |some (.blk _ cs)=>match zado K.P T',szT K.P T' with
    |some true,some n=>if n=cs.length then some (.agg cs) else none
    |some false,some _=>match cs with
     |[p]=>some p
     |_=>none
    |_,_=>none
   |_=>none
  |_=>none
variable (K) in
def Kit.fin (σ:St K.u.U):List ResultVar->Option (List (PV K.u.U))
 |[]=>some []
 |rv::rvs=>(K.finOne σ rv).bind fun c=>(Kit.fin σ rvs).bind fun cs=>some (c::cs)
def outFn (u:Uni) {R:Type} (rps:List (PV u.U)) (st:List (Nat×Ob u.U)) (out:Nat->List (TV u.U)->Option R):Nat->List StSh->Option R
 |_,[]=>none
 |j,o::r=>if o.slots=List.range rps.length then (match enter u o (fun i=>rps[i]?) (look st) with
  |some ls=>out j ls
  |none=>outFn u rps st out (j+1) r) else outFn u rps st out (j+1) r
def zafs (u:Uni) {R:Type} (p:PV u.U) (st:List (Nat×Ob u.U)) (out:Nat->List (TV u.U)->Option R):Nat->List StSh->Option R
 |_,[]=>none
 |j,o::r=>bif o.isPan then (match enter u o (fun i=>if i=zaax then some p else none) (look st) with
  |some ls=>out j ls
  |none=>zafs u p st out (j+1) r) else zafs u p st out (j+1) r
def zaag (fn:Func):Code:=fn.body.getD .skip
variable (K) in
noncomputable def Kit.fnEval (L:Nat->Option (Loop K.u.U)) (fn:Func) (sh:StSh) (outs:List StSh) (ls:List (TV K.u.U)) (out:Nat->List (TV K.u.U)->Option R):Option R:=
 match fn.body with
 |some c=>if (sh.fill ls).tm.map (·.1)=List.range (sh.fill ls).tm.length/\(sh.fill ls).tm.length<=fn.ntmps then K.exec fn.ntmps L c (sh.fill ls) fun e σ=>match e with
   |.normal=>(K.fin (σ.closed K.u) fn.results.toList).bind fun rps=>outFn K.u rps (σ.closed K.u).st out 0 outs
   |.ret=>(K.fin (σ.closed K.u) fn.results.toList).bind fun rps=>outFn K.u rps (σ.closed K.u).st out 0 outs
   |.pan=>(look (σ.closed K.u).tm zaax).bind fun p=>zafs K.u p (σ.closed K.u).st out 0 outs
   |.exit _=>none
  else none
 |none=>none
def zaet (tmps:Array Value):ResultVar->Sem Value
 |.tmp t=>pure (tmps.getD t undef)
 |.cell a t=>do loadVar t (<-asAddr (tmps.getD a undef))
theorem zan5 (fn:Func) (tmps:Array Value):results fn tmps=(do
  let vs <-fn.results.mapM (zaet tmps)
  pure (if h:vs.size=1 then vs[0] else .tuple vs)):=by
 unfold results zaet;rfl
theorem zaq4 {G:Nat->Option Obj} {β:Nat->Gh} {a:Act} {w:World} {σ:St K.u.U} (hI:Inv K V B G (look σ.st) β w) (ht:TmOk K G (look σ.st) β (look σ.tm) a) {rv:ResultVar} {p:PV K.u.U} (h:K.finOne σ rv=some p) :
  ∃ v,(zaet a.tmps rv).run K.P w=.ok v w/\PRel K G (look σ.st) β p v:=by
 cases rv with
 |tmp s=>
  obtain ⟨v,h3,h4⟩:=ht s p h;exact ⟨v,by simp[zaet,h3],h4⟩
 |cell s T'=>
  simp only[Kit.finOne] at h;split at h
  ·rename_i id hs;obtain ⟨u,hu1,hu2⟩:=ht s _ hs;split at h
   ·rename_i cs hS;simp only[PRel] at hu2;obtain ⟨_,ob,h1,h2⟩:=hu2;rw[hS] at h1;cases h1;have hu:=h2 rfl;obtain ⟨b,vs,hb,hh,hps,h1c⟩:=hI.obs id _ hS;simp[hb,zabk] at hu;subst hu;have hcell:∀ j v,vs[j]? = some v->w.cell? ⟨b,0+j,none⟩=some v:=fun j v hj=>by rw[zadb hh]; simpa using hj
    have hl:=hps.length;split at h
    ·rename_i n ha hz;split at h
     ·rename_i hn;cases h;refine ⟨.agg vs.toArray,?_,by simp only[PRel]; exact ⟨vs,rfl,hps,h1c⟩⟩;simp only[zaet,hu1,Array.getD_eq_getD_getElem?,Option.getD_some,asAddr,Sem.run_bind,Sem.run_pure,Result.andThen_ok];exact zab1 ha (by rw[hz,hn,hl]) hcell
     ·cases h
    ·rename_i n ha hz;split at h
     ·rename_i q;cases h;obtain ⟨v,h5,h6⟩:=hps.get 0 (show [p][0]? = some p from rfl);refine ⟨v,?_,h6⟩;simp only[zaet,hu1,Array.getD_eq_getD_getElem?,Option.getD_some,asAddr,Sem.run_bind,Sem.run_pure,Result.andThen_ok];exact zacv ha (hcell 0 v h5)
     ·cases h
    ·cases h
   ·cases h
  ·cases h
theorem zakz {G:Nat->Option Obj} {β:Nat->Gh} {a:Act} {w:World} {σ:St K.u.U} (hI:Inv K V B G (look σ.st) β w) (ht:TmOk K G (look σ.st) β (look σ.tm) a) :
  ∀ {rvs:List ResultVar} {ps:List (PV K.u.U)},K.fin σ rvs=some ps->∃ vs,(rvs.mapM (zaet a.tmps)).run K.P w=.ok vs w/\PsRel K G (look σ.st) β ps vs
 |[],ps,h=>by simp[Kit.fin] at h; subst h; exact ⟨[],by simp,by simp[PsRel]⟩
 |rv::rvs,ps,h=>by
  simp only[Kit.fin,qb] at h;obtain ⟨c,h1,ds,h2,h3⟩:=h;cases h3;obtain ⟨v,i1,i2⟩:=zaq4 hI ht h1;obtain ⟨vs,j1,j2⟩:=zakz hI ht h2;exact ⟨v::vs,by simp[List.mapM_cons,i1,j1],by simp only[PsRel]; exact ⟨v,vs,rfl,i2,j2⟩⟩
theorem zagy {rps : List (PV K.u.U)} {st : List (Nat × Ob K.u.U)} {out : Nat -> List (TV K.u.U) -> Option R} {r : R} : ∀ {os : List StSh} {j : Nat}, outFn K.u rps st out j os = some r -> ∃ i o ls, os[i]? = some o /\ o.slots = List.range rps.length /\ enter K.u o (fun i => rps[i]?) (look st) = some ls /\ out (j + i) ls = some r
 |[],j,h=>by simp[outFn] at h
 |o::os,j,h=>by
  simp only[outFn] at h;split at h
  ·rename_i hs;split at h
   ·rename_i ls hl;exact ⟨0,o,ls,by simp,hs,hl,h⟩
   ·obtain ⟨i,o',ls,h1,h2,h4,h5⟩:=zagy h;exact ⟨i+1,o',ls,by simpa using h1,h2,h4,by rw[<-h5]; congr 1; omega⟩
  ·obtain ⟨i,o',ls,h1,h2,h4,h5⟩:=zagy h;exact ⟨i+1,o',ls,by simpa using h1,h2,h4,by rw[<-h5]; congr 1; omega⟩
theorem zaix {p : PV K.u.U} {st : List (Nat × Ob K.u.U)} {out : Nat -> List (TV K.u.U) -> Option R} {r : R} : ∀ {os : List StSh} {j : Nat}, zafs K.u p st out j os = some r -> ∃ i o ls, os[i]? = some o /\ o.isPan = true /\ enter K.u o (fun i => if i = zaax then some p else none) (look st) = some ls /\ out (j + i) ls = some r
 |[],j,h=>by simp[zafs] at h
 |o::os,j,h=>by
  simp only[zafs] at h;have go:zafs K.u p st out (j+1) os=some r->∃ i o' ls,(o::os)[i]? = some o'/\o'.isPan=true/\enter K.u o' (fun i=>if i=zaax then some p else none) (look st)=some ls/\out (j+i) ls=some r:=fun h=>by
   obtain ⟨i,o',ls,h1,h2,h4,h5⟩:=zaix h;exact ⟨i+1,o',ls,by simpa using h1,h2,h4,by rw[<-h5]; congr 1; omega⟩
  cases hpn:o.isPan with
  |true=>
   rw[hpn,qg] at h;split at h
   ·rename_i ls hl;exact ⟨0,o,ls,by simp,hpn,hl,h⟩
   ·exact go h
  |false=>rw[hpn,qf] at h; exact go h
theorem zakh {G':Nat->Option Obj} {S':Nat->Option (Ob K.u.U)} {β:Nat->Gh} {fn:Func} {a:Act} {w:World} {ps:List (PV K.u.U)} {vs:List Value} (h:(fn.results.toList.mapM (zaet a.tmps)).run K.P w=.ok vs w) (hr:PsRel K G' S' β ps vs) :
  ∃ v,(results fn a.tmps).run K.P w=.ok v w/\ResPV K G' S' β ps v:=by
 rw[zan5,Array.mapM_eq_mapM_toList];simp only[Sem.run_bind,Sem.run_map,h,Result.andThen_ok,Sem.run_pure];refine ⟨_,rfl,?_⟩;cases ps with
 |nil=>simp only[PsRel] at hr; subst hr; exact ⟨[],rfl,by simp[PsRel]⟩
 |cons p ps=>
  have hr0:=hr;simp only[PsRel] at hr;obtain ⟨u,rr,rfl,h1,h2⟩:=hr;cases ps with
  |nil=>simp only[PsRel] at h2; subst h2; exact h1
  |cons q ps=>
   have h3:=h2;simp only[PsRel] at h2;obtain ⟨u2,r2,rfl,_,_⟩:=h2;exact ⟨_,rfl,hr0⟩
theorem Inv.ds {G:Nat->Option Obj} {S:Nat->Option (Ob K.u.U)} {β:Nat->Gh} {w:World} (h:Inv K V B G S β w) (d:List Deferred):Inv K V { B with ds:=d } G S β w:=
 ⟨h.gok,h.obs,h.own,h.inj,h.os,h.tape,h.output,h.size,h.low,h.gl,h.env,h.n0,h.hh,h.pin,h.pinr⟩
theorem zaxr (hK:KitOk K V) {L:Nat->Option (Loop K.u.U)} {f:FuncId} {fn:Func} (hf:K.P.funcs[f]? = some fn) (hL:zaaq K V fn.ntmps L (zaag fn)) {sh:StSh} {outs:List StSh} {ls:List (TV K.u.U)} {out:Nat->List (TV K.u.U)->Option R} {r:R} {j:Nat} {rs:List (TV K.u.U)}
  (h:K.fnEval L fn sh outs ls out=some r) (hout:∀ i qs,out i qs=some r->i=j/\qs=rs):zaa6 K V f sh outs ls j rs:=by
 intro B G β w args o ho hw0 hI hargs;have hI:=hI.ds [];unfold Kit.fnEval at h;split at h
 ·rename_i c hb;split at h
  ·rename_i hlen;obtain ⟨hsl,hlen⟩:=hlen;have hL':zaaq K V fn.ntmps L c:=by rw[zaag,hb] at hL; exact hL
   refine calls_of_wp hf hb ?_;have hal:args.length=(sh.fill ls).tm.length:=by rw[<-hargs.length,List.length_map]
   have hT:TmOk K G (look (sh.fill ls).st) β (look (sh.fill ls).tm) { tmps:=args.toArray++Array.replicate (fn.ntmps-args.toArray.size) undef,defers:=[] }:=by
    intro s p hs;have hm:=zaa7 hs;have hs2:s<(sh.fill ls).tm.length:=by
     have:s∈(sh.fill ls).tm.map (·.1):=xx (f:=Prod.fst) hm;rw[hsl] at this;simpa using this
    have hget:((sh.fill ls).tm.map (·.2))[s]? = some p:=by
     obtain ⟨q,hq⟩:∃ q,((sh.fill ls).tm.map (·.2))[s]? = some q:=⟨_,xp (by simpa using hs2)⟩;have:=zaee (k:=0) (l:=(sh.fill ls).tm) (by rw[hsl,List.range_eq_range']) hq;rw[Nat.zero_add,hs] at this;cases this;exact hq
    obtain ⟨v,h2,h3⟩:=hargs.get s hget;refine ⟨v,?_,h3⟩;have hlt:s<args.length:=by omega
    simp only[Array.getElem?_append,List.size_toArray,hlt,if_true];simpa using h2
   have hrel:Rel K V { B with ds:=[] } fn.ntmps (sh.fill ls) { tmps:=args.toArray++Array.replicate (fn.ntmps-args.toArray.size) undef,defers:=[] } w:=
    ⟨G,_,hI,hT,by simp; omega,rfl⟩
   have fin : ∀ (σ' : St K.u.U) (a' : Act) (w' : World), ((K.fin σ' fn.results.toList).bind fun rps => outFn K.u rps σ'.st out 0 outs) = some r -> Rel K V { B with ds := [] } fn.ntmps σ' a' w' ->
     a'.defers=[]/\∃ v,(results fn a'.tmps).run K.P w'=.ok v w'/\∃ G' β' v',Ending.returned v=endOf o v'/\Inv K V B G' (look (o.fill rs).st) β' w'/\ResPV K G' (look (o.fill rs).st) β' ((o.fill rs).tm.map (·.2)) v':=by
    intro σ' a' w' h' ⟨G2,β2,h1,h2,h3,h4⟩;refine ⟨h4,?_⟩;simp only[qb] at h';obtain ⟨rps,h5,h6⟩:=h';obtain ⟨i,o',ls',i1,i2,i3,i4⟩:=zagy h6;obtain ⟨e1,rfl⟩:=hout _ _ i4;rw[Nat.zero_add] at e1;subst e1;rw[ho] at i1;cases i1;obtain ⟨vs,j1,j2⟩:=zakz h1 h2 h5;obtain ⟨G3,β3,k1,k2⟩:=zadv i3 h1 (vals:=fun s=>vs[s]?) (fun s p hs=>by
     obtain ⟨v,v1,v2⟩:=j2.get s hs;exact ⟨v,v1,v2⟩)
    have hps:PsRel K G3 (look (o.fill ls').st) β3 ((o.fill ls').tm.map (·.2)) vs:=by
     have hsl2:(o.fill ls').tm.map (·.1)=List.range vs.length:=by
      have:=zaex i3;rw[this,i2,j2.length]
     have hln:(o.fill ls').tm.length=vs.length:=by
      have:=congrArg List.length hsl2;simpa using this
     refine PsRel.of_get (by simpa using hln) (fun i p hp=>?_);have:=zaee (k:=0) (l:=(o.fill ls').tm) (by rw[hsl2,hln,List.range_eq_range']) hp;rw[Nat.zero_add] at this;exact k2 i p this
    obtain ⟨v,q1,q2⟩:=zakh (fn:=fn) j1 hps;have hnp:o.isPan=false:=by
     cases hpn:o.isPan with
     |false=>rfl
     |true=>
      have:=zaf9 hpn;rw[i2] at this;have hl:=congrArg List.length this;simp only[List.length_range,List.length_singleton] at hl;rw[hl] at this;simp[zaax,List.range_succ] at this
    exact ⟨v,q1,G3,β3,v,(zago hnp v).symm,k1.ds _,q2⟩
   refine zael hK hL' h hrel (fun e σ' h'=>?_);cases e with
   |normal=>exact fun a' w' hr'=>fin _ a' w' h' hr'.closed
   |ret=>exact fun a' w' hr'=>fin _ a' w' h' hr'.closed
   |exit id=>cases h'
   |pan=>
    intro v a' w' hr';have hr':=hr'.closed;simp only[qb] at h';obtain ⟨p0,hp0,h'⟩:=h';obtain ⟨G2,β2,h1,⟨p,hp1,hp2⟩,h2,h3,h4⟩:=hr';rw[hp0] at hp1;cases hp1;refine ⟨h4,?_⟩;obtain ⟨i,o',ls',i1,i2,i3,i4⟩:=zaix h';obtain ⟨e1,rfl⟩:=hout _ _ i4;rw[Nat.zero_add] at e1;subst e1;rw[ho] at i1;cases i1;obtain ⟨G3,β3,k1,k2⟩:=zadv i3 h1 (vals:=fun s=>if s=zaax then some v else none) (fun s q hs=>by
     by_cases e:s=zaax
     ·rw[if_pos e] at hs;cases hs;exact ⟨v,by simp[e],hp2⟩
     ·rw[if_neg e] at hs; cases hs)
    refine ⟨G3,β3,v,(zak1 i2 v).symm,k1.ds _,?_⟩;have hsl:=zaex i3;rw[zaf9 i2] at hsl;cases htm:(o.fill ls').tm with
    |nil=>rw[htm] at hsl; cases hsl
    |cons x r=>
     obtain ⟨j,q⟩:=x;rw[htm] at hsl;simp only[xn,xh,List.map_eq_nil_iff] at hsl;obtain ⟨rfl,rfl⟩:=hsl;obtain ⟨u,u1,u2⟩:=k2 zaax q (by rw[htm,zaaf]; simp);simp at u1;subst u1;exact u2
  ·cases h
 ·cases h
end
section
variable {U:Nat->Type}
def zac5:TV U->TV U->Bool
 |⟨.int _,a⟩,⟨.int _,b⟩=>a==b
 |⟨.bool,a⟩,⟨.bool,b⟩=>a==b
 |⟨.str,a⟩,⟨.str,b⟩=>a==b
 |_,_=>false
def zabv:List (TV U)->List (TV U)->Bool
 |c::cs,d::ds=>bif zac5 c d then zabv cs ds else false
 |_,_=>true
end
def zaeg (P:Program):List Field->List Ty->Nat->Bool
 |[],[],_=>true
 | f :: fs, t :: ts, i => (f.name != "_") && (Nat.beq f.offset i && ((match P.underlying f.type, t with
   |some (.int k),.int k'=>decide (k=k')
   |some .bool,.bool=>true
   |some .string,.str=>true
   |_,_=>false)&&zaeg P fs ts (i+1)))
 |_,_,_=>false
def zag3 (P:Program) (T:TypeId) (ts:List Ty):Bool:=match P.underlying T with
 |some (.struct fs)=>zaeg P fs.toList ts 0&&(!P.stoodInHeld T&&!P.eqGuardType P.depth T)
 |_=>false
section
variable {u:Uni} {G:Nat->Option Obj} {P:Program}
theorem zaq7 {T:TypeId} {xs:Array Value} {i:Nat} {v:Value} {w:World} (ha:zado P T=some false) (h:xs[i]? = some v):(part T xs i).run P w=.ok v w:=by
 simp[part,Sem.run_bind,zaeh ha,h]
theorem zakm {xs ys:Array Value} {d:Nat}:∀ {fs:List Field} {ts:List Ty} {i:Nat},zaeg P fs ts i=true->∀ {cs ds:List (TV u.U)},TsRel u G cs (xs.toList.drop i)->TsRel u G ds (ys.toList.drop i) ->
  cs.map TV.t=ts->ds.map TV.t=ts->∀ w,(Op.eqFields (d+1) xs ys fs).run P w=.ok (zabv cs ds) w
 |[],[],i,h,cs,ds,hc,hd,ec,ed,w=>by
  have e1:cs=[]:=by simpa using ec
  have e2:ds=[]:=by simpa using ed
  subst e1; subst e2;simp[Op.eqFields,zabv]
 |f::fs,t::ts,i,h,cs,ds,hc,hd,ec,ed,w=>by
  simp only[zaeg,qd] at h;obtain ⟨hn,ho,hu,hr⟩:=h;have ho:=qx ho;cases cs with
  |nil=>simp at ec
  |cons c cs=>
  cases ds with
  |nil=>simp at ed
  |cons e ds=>
  simp only[xn,xh] at ec ed;obtain ⟨ec,ec'⟩:=ec;obtain ⟨ed,ed'⟩:=ed;have key:∀ (zs:Array Value) (c:TV u.U) (cs:List (TV u.U)),TsRel u G (c::cs) (zs.toList.drop i)->∃ v,zs[i]? = some v/\TRel u G c v/\TsRel u G cs (zs.toList.drop (i+1)):=by
   intro zs c cs h;generalize hl:zs.toList.drop i=l at h;cases h with
   |cons _ _ v vs h1 h2=>
    refine ⟨v,?_,h1,?_⟩
    ·have:=congrArg (fun l=>l[0]?) hl;simpa [List.getElem?_drop] using this
    ·have:=congrArg List.tail hl;simp at this;rw[this]; exact h2
  obtain ⟨v1,g1,r1,t1⟩:=key xs c cs hc;obtain ⟨v2,g2,r2,t2⟩:=key ys e ds hd;have ih:=fun w=>zakm (d:=d) hr t1 t2 ec' ed' w
  have hn' : f.name ≠ "_" := by simpa using hn
  have hagg:zado P f.type=some false:=by
   unfold zado;split at hu<;>simp_all
  have step:∀ b,(Op.equalIn (d+1) f.type v1 v2).run P w=.ok b w->b=zac5 c e->(Op.eqFields (d+1) xs ys (f::fs)).run P w=.ok (zabv (c::cs) (e::ds)) w:=by
   intro b h1 h2;simp only[Op.eqFields,if_pos hn',Sem.run_bind,ho,zaq7 hagg g1,zaq7 hagg g2,Result.andThen_ok,h1];cases b with
   |true=>simp[zabv,<-h2,ih]
   |false=>simp[zabv,<-h2]
  obtain ⟨tc,xc⟩:=c;obtain ⟨te,xe⟩:=e;simp only at ec ed;subst ec;split at hu
  ·rename_i k k' hk;subst ed;rw[r1.int_inv,r2.int_inv] at step;exact step _ (run_equalIn_int w d f.type _ _ _ _ hk) rfl
  ·rename_i hk;subst ed;rw[r1.bool_inv,r2.bool_inv] at step;exact step _ (run_equalIn_bool w d f.type _ _ hk) rfl
  ·rename_i hk;subst ed;rw[r1.str_inv,r2.str_inv] at step;refine step _ (run_equalIn_string w d f.type _ _ hk) ?_;simp[zac5,zajx]
  ·cases hu
 |[],_::_,i,h,cs,ds,hc,hd,ec,ed,w=>by simp[zaeg] at h
 |_::_,[],i,h,cs,ds,hc,hd,ec,ed,w=>by simp[zaeg] at h
theorem zazx {T:TypeId} {ts:List Ty} (h:zag3 P T ts=true) {cs ds:List (TV u.U)} {va vb:List Value} (hc:TsRel u G cs va) (hd:TsRel u G ds vb) (ec:cs.map TV.t=ts) (ed:ds.map TV.t=ts) (w:World) (x y:Operand) :
  (do eqGuard .eql T x y (.agg va.toArray) (.agg vb.toArray); binOp .eql T (.agg va.toArray) (.agg vb.toArray)).run P w=.ok (.bool (zabv cs ds)) w /\
  (do eqGuard .neq T x y (.agg va.toArray) (.agg vb.toArray); binOp .neq T (.agg va.toArray) (.agg vb.toArray)).run P w=.ok (.bool (!(zabv cs ds))) w:=by
 unfold zag3 at h;split at h
 ·rename_i fs hu;simp only[qd,Bool.not_eq_true'] at h;obtain ⟨h1,h2,h3⟩:=h;have ht:P.underlying T=some (.struct (P.fieldsOf T)):=by simp[Program.fieldsOf,hu]
  have hf:(P.fieldsOf T).toList=fs.toList:=by simp[Program.fieldsOf,hu]
  have he:(Op.equalIn 10000 T (.agg va.toArray) (.agg vb.toArray)).run P w=.ok (zabv cs ds) w:=by
   rw[show (10000:Nat)=9998+1+1 from rfl,run_equalIn_struct w _ T _ _ ht h2,hf];exact zakm h1 (by simpa using hc) (by simpa using hd) ec ed w
  constructor
  ·simp only[Sem.run_bind,run_eqGuard_agg w .eql T x y _ _ h3,Result.andThen_ok,run_eql_struct,he]
  ·simp only[Sem.run_bind,run_eqGuard_agg w .neq T x y _ _ h3,Result.andThen_ok,run_neq_struct,he]
 ·cases h
theorem zaws {K:Kit} (h:∀ T n f,K.eqOf T n=some f->zag3 K.P T (K.u.ctys n)=true/\∀ a b,f a b=zabv (K.u.cells n a) (K.u.cells n b)):EqOk K:=by
 refine ⟨fun T n f hf G a b va vb ha hb w x y=>?_⟩;obtain ⟨h1,h2⟩:=h T n f hf;rw[h2];exact zazx h1 ha hb (K.u.tys_ok n a) (K.u.tys_ok n b) w x y
end
section
variable {K:Kit}
@[reducible] def Kit.withModes (K:Kit) (ms:FuncId->List (Mode K.u.U)):Kit:={ K with modes:=ms }
section
variable {ms:FuncId->List (Mode K.u.U)}
mutual
theorem PRel.modes {G:Nat->Option Obj} {S:Nat->Option (Ob K.u.U)} {β:Nat->Gh}:∀ (p:PV K.u.U) {v:Value},PRel (K.withModes ms) G S β p v↔PRel K G S β p v
 |.t c,v=>by simp only[PRel]
 |.junk,v=>by simp only[PRel]
 |.k c,v=>by simp only[PRel]
 |.ub,v=>by simp only[PRel]
 |.ptr id off,v=>by simp only[PRel]
 |.selfp id,v=>by simp only[PRel]
 |.bslc id n,v=>by simp only[PRel]
 |.oslc id ver,v=>by simp only[PRel]
 |.eptr id ver i off,v=>by simp only[PRel]
 |.win id ver i,v=>by simp only[PRel]
 |.rptr c off,v=>by simp only[PRel]
 |.agg l,v=>by simp only[PRel]; exact exists_congr fun vs=>and_congr_right fun _=>and_congr_left fun _=>PsRel.modes l
 |.tup l,v=>by simp only[PRel]; exact exists_congr fun vs=>and_congr_right fun _=>PsRel.modes l
 |.clo f l,v=>by simp only[PRel]; exact exists_congr fun vs=>and_congr_right fun _=>PsRel.modes l
 |.ifc T p,v=>by simp only[PRel]; exact exists_congr fun x=>and_congr_right fun _=>PRel.modes p
theorem PsRel.modes {G:Nat->Option Obj} {S:Nat->Option (Ob K.u.U)} {β:Nat->Gh}:∀ (l:List (PV K.u.U)) {vs:List Value},PsRel (K.withModes ms) G S β l vs↔PsRel K G S β l vs
 |[],vs=>by simp only[PsRel]
 |p::l,vs=>by simp only[PsRel]; exact exists_congr fun u=>exists_congr fun r=>and_congr_right fun _=>and_congr (PRel.modes p) (PsRel.modes l)
end
theorem ObRel.modes {G:Nat->Option Obj} {S:Nat->Option (Ob K.u.U)} {β:Nat->Gh} {w:World} {i:Nat}:∀ (ob:Ob K.u.U),ObRel (K.withModes ms) G S β w i ob↔ObRel K G S β w i ob
 |.blk bT cs=>by simp only[ObRel]; exact exists_congr fun b=>exists_congr fun vs=>and_congr_right fun _=>and_congr_right fun _=>and_congr_left fun _=>PsRel.modes cs
 |.row T v e l=>Iff.rfl
 |.frz v e l=>Iff.rfl
 |.sit s p=>Iff.rfl
 |.mp _ _ _=>Iff.rfl
 |.fmp _ _ _=>Iff.rfl
 | .opn T v e l j cs => ⟨fun ⟨vals, cvs, F1, F3, a1, a2, a3, a4, a5, a6, a7, a8, a9, a10, a11, a12⟩ => ⟨vals, cvs, F1, F3, a1, a2, a3, a4, a5, a6, a7, a8, (PsRel.modes cs).1 a9, a10, a11, a12⟩,
   fun ⟨vals,cvs,F1,F3,a1,a2,a3,a4,a5,a6,a7,a8,a9,a10,a11,a12⟩=>⟨vals,cvs,F1,F3,a1,a2,a3,a4,a5,a6,a7,a8,(PsRel.modes (K:=K) cs).2 a9,a10,a11,a12⟩⟩
 |.dead=>Iff.rfl
theorem Inv.modes {V:Env} {B:Base} {G:Nat->Option Obj} {S:Nat->Option (Ob K.u.U)} {β:Nat->Gh} {w:World}:Inv (K.withModes ms) V B G S β w↔Inv K V B G S β w:=
  ⟨fun h => ⟨h.gok, fun id ob hi => (ObRel.modes ob).1 (h.obs id ob hi), h.own, h.inj, h.os, h.tape, h.output, h.size, h.low, h.gl, h.env, h.n0, h.hh, h.pin, h.pinr⟩,
   fun h=>⟨h.gok,fun id ob hi=>(ObRel.modes (K:=K) ob).2 (h.obs id ob hi),h.own,h.inj,h.os,h.tape,h.output,h.size,h.low,h.gl,h.env,h.n0,h.hh,h.pin,h.pinr⟩⟩
theorem ResPV.modes {G:Nat->Option Obj} {S:Nat->Option (Ob K.u.U)} {β:Nat->Gh} {l:List (PV K.u.U)} {v:Value}:ResPV (K.withModes ms) G S β l v↔ResPV K G S β l v:=by
 cases l with
 |nil=>simp only[ResPV]; exact exists_congr fun vs=>and_congr_right fun _=>PsRel.modes _
 |cons p l=>cases l with
  |nil=>simp only[ResPV]; exact PRel.modes p
  |cons q l=>simp only[ResPV]; exact exists_congr fun vs=>and_congr_right fun _=>PsRel.modes _
theorem zaa6.modes {V:Env} {f:FuncId} {sh:StSh} {outs:List StSh} {ls:List (TV K.u.U)} {j:Nat} {rs:List (TV K.u.U)}:zaa6 (K.withModes ms) V f sh outs ls j rs↔zaa6 K V f sh outs ls j rs:=by
 constructor
 ·intro h B G β w args o h1 h2 h3 h4;exact (h B G β w args o h1 h2 (Inv.modes.2 h3) ((PsRel.modes _).2 h4)).mono fun e w' ⟨G',β',v,a,b,c⟩=>⟨G',β',v,a,Inv.modes.1 b,ResPV.modes.1 c⟩
 ·intro h B G β w args o h1 h2 h3 h4;exact (h B G β w args o h1 h2 (Inv.modes.1 h3) ((PsRel.modes _).1 h4)).mono fun e w' ⟨G',β',v,a,b,c⟩=>⟨G',β',v,a,Inv.modes.2 b,ResPV.modes.2 c⟩
theorem Rel.modes {V:Env} {B:Base} {nt:Nat} {σ:St K.u.U} {a:Act} {w:World}:Rel (K.withModes ms) V B nt σ a w↔Rel K V B nt σ a w:=by
 constructor
 ·rintro ⟨G,β,h1,h2,h3,h4⟩
  exact ⟨G,β,Inv.modes.1 h1,fun s p hs=>by obtain ⟨v,a,b⟩:=h2 s p hs; exact ⟨v,a,(PRel.modes p).1 b⟩,h3,h4⟩
 ·rintro ⟨G,β,h1,h2,h3,h4⟩
  exact ⟨G,β,Inv.modes.2 h1,fun s p hs=>by obtain ⟨v,a,b⟩:=h2 s p hs; exact ⟨v,a,(PRel.modes (K:=K) p).2 b⟩,h3,h4⟩
theorem RelP.modes {V:Env} {B:Base} {nt:Nat} {σ:St K.u.U} {v:Value} {a:Act} {w:World}:RelP (K.withModes ms) V B nt σ v a w↔RelP K V B nt σ v a w:=by
 constructor
 ·rintro ⟨G,β,h1,⟨q,q1,q2⟩,h2,h3,h4⟩
  exact ⟨G,β,Inv.modes.1 h1,⟨q,q1,(PRel.modes (K:=K) (ms:=ms) q).1 q2⟩,fun s p hn hs=>by obtain ⟨v,a,b⟩:=h2 s p hn hs; exact ⟨v,a,(PRel.modes p).1 b⟩,h3,h4⟩
 ·rintro ⟨G,β,h1,⟨q,q1,q2⟩,h2,h3,h4⟩
  exact ⟨G,β,Inv.modes.2 h1,⟨q,q1,(PRel.modes (K:=K) q).2 q2⟩,fun s p hn hs=>by obtain ⟨v,a,b⟩:=h2 s p hn hs; exact ⟨v,a,(PRel.modes (K:=K) p).2 b⟩,h3,h4⟩
theorem Ends.modes {V:Env} {B:Base} {nt:Nat} {e:Xit} {σ:St K.u.U} {Q:Exit->Act->World->Prop}:Ends (K.withModes ms) V B nt e σ Q↔Ends K V B nt e σ Q:=by
 cases e with
 |pan=>exact forall_congr' fun v=>forall_congr' fun a=>forall_congr' fun w=>⟨fun h hr=>h (RelP.modes.2 hr),fun h hr=>h (RelP.modes.1 hr)⟩
 |_=>exact forall_congr' fun a=>forall_congr' fun w=>⟨fun h hr=>h (Rel.modes.2 hr),fun h hr=>h (Rel.modes.1 hr)⟩
theorem zabt.modes {V:Env} {nt:Nat} {b:Code} {sh:StSh} {outs:List Out} {ls:List (TV K.u.U)} {j:Nat} {rs:List (TV K.u.U)}:zabt (K.withModes ms) V nt b sh outs ls j rs↔zabt K V nt b sh outs ls j rs:=by
 constructor
 ·intro h B o ho a w hr Q hQ;exact h B o ho a w (Rel.modes.2 hr) Q (Ends.modes.2 hQ)
 ·intro h B o ho a w hr Q hQ;exact h B o ho a w (Rel.modes.1 hr) Q (Ends.modes.1 hQ)
def Known (K:Kit) (V:Env) (ms:FuncId->List (Mode K.u.U)):Prop:=∀ f m,m∈ms f->zabo K.P f=true/\∀ ls j rs,(m.sum ls).val=some (j,rs)->zaa6 K V f m.sh m.outs ls j rs
theorem zayq {V:Env} (hE:EqOk K) (hmix:K.P.follows .mixedOrders=true) (h:Known K V ms):KitOk (K.withModes ms) V:=
 ⟨⟨hE.eq⟩,fun f m hm=>⟨(h f m hm).1,fun ls j rs hv=>zaa6.modes.2 ((h f m hm).2 ls j rs hv)⟩,hmix⟩
theorem zaal.of_round {V:Env} {nt:Nat} {b:Code} {lp:Loop K.u.U} (h:∀ ls j rs,(lp.sum ls).val=some (j,rs)->zabt K V nt b lp.sh lp.outs ls j rs):zaal (K.withModes ms) V nt b lp:=
 fun ls j rs hv=>(zabt.modes.2 (h ls j rs hv)).loop
def zaac {U:Nat->Type}:List (FuncId×Mode U)->FuncId->List (Mode U)
 |[],_=>[]
 |(g,m)::r,f=>bif Nat.beq g f then m::zaac r f else zaac r f
theorem known_nil {V:Env}:Known K V (zaac []):=fun f m hm=>by cases hm
theorem known_cons {V:Env} {l:List (FuncId×Mode K.u.U)} {g:FuncId} {m:Mode K.u.U} (hc:zabo K.P g=true) (hm:∀ ls j rs,(m.sum ls).val=some (j,rs)->zaa6 K V g m.sh m.outs ls j rs) (h:Known K V (zaac l)):Known K V (zaac ((g,m)::l)):=by
 intro f m' hm';simp only[zaac] at hm';cases hb:Nat.beq g f with
 |true=>
  rw[hb] at hm';cases qx hb;simp only[qg,List.mem_cons] at hm';rcases hm' with rfl|hm'
  ·exact ⟨hc,hm⟩
  ·exact h _ _ hm'
 |false=>rw[hb] at hm'; exact h _ _ hm'
end
end
noncomputable def sealF {α:Type} (a:α):α:=Classical.choose (⟨a,rfl⟩:∃ x:α,x=a)
theorem zaaa {α:Type} (a:α):sealF a=a:=Classical.choose_spec (⟨a,rfl⟩:∃ x:α,x=a)
theorem Tr.get_val {α β:Type} {o:Option β} {k:β->Tr α} {y:α} (h:(Tr.get o k).val=some y):∃ b,o=some b/\(k b).val=some y:=by
 cases o with
 |none=>cases h
 |some b=>exact ⟨b,rfl,h⟩
def fuel:Nat:=1180591620717411303424
section
variable {K:Kit} {V:Env} {nt:Nat} {L:Nat->Option (Loop K.u.U)} {c:Code}
def AllOk (K:Kit) (V:Env) (nt:Nat) (L:Nat->Option (Loop K.u.U)):List Code->Prop
 |[]=>True
 |b::r=>(L (zadj b)=none\/∃ lp,L (zadj b)=some lp/\zaal K V nt b lp)/\AllOk K V nt L r
theorem zaab {bs:List Code} (h:zaav c=bs) (hh:AllOk K V nt L bs):zaaq K V nt L c:=by
 intro b hb lp hlp;rw[h] at hb;clear h;induction bs with
 |nil=>cases hb
 |cons x r ih=>
  obtain ⟨h1,h2⟩:=hh;cases hb with
  |head=>
   rcases h1 with h1|⟨lp',h1,h3⟩
   ·rw[h1] at hlp; cases hlp
   ·rw[h1] at hlp; cases hlp; exact h3
  |tail _ hb=>exact ih h2 hb
end
variable {K:Kit} {V:Env} {ms:FuncId->List (Mode K.u.U)} {T:Type}
def LoopR (K:Kit) (V:Env) (nt:Nat) (b:Code) (lp:Loop K.u.U):Prop:=∀ ls j rs,(lp.sum ls).val=some (j,rs)->zabt K V nt b lp.sh lp.outs ls j rs
theorem fn_of {f:FuncId} {fn:Func} {L:Nat->Option (Loop K.u.U)} {sh:StSh} {os:List StSh} {tr:T->Tr (Nat×List (TV K.u.U))} (enc:Nat->List (TV K.u.U)->Option T) (dec:T->Nat×List (TV K.u.U))
  (hk:KitOk (K.withModes ms) V) (hf:K.P.funcs[f]? = some fn) (inner:zaaq (K.withModes ms) V fn.ntmps L (zaag fn)) {F:List (TV K.u.U)->Option T}
  (htr:∀ r,(tr r).val=some (dec r)) (henc:∀ i qs r,enc i qs=some r->dec r=(i,qs)) (hE:∀ ls r,F ls=some r->(K.withModes ms).fnEval L fn sh os ls enc=some r) :
  ∀ ls j rs,(Tr.get (F ls) tr).val=some (j,rs)->zaa6 K V f sh os ls j rs:=by
 intro ls j rs h;obtain ⟨r,hr,h⟩:=Tr.get_val h;rw[htr r] at h;have hd:=Option.some.inj h;refine zaa6.modes.1 (zaxr hk hf inner (hE ls r hr) fun i qs he=>?_);have:=(henc i qs r he).symm.trans hd;cases this;exact ⟨rfl,rfl⟩
theorem zazr {nt:Nat} {b:Code} {L:Nat->Option (Loop K.u.U)} {sh:StSh} {os:List Out} {tr:T->Tr (Nat×List (TV K.u.U))} (enc:Nat->List (TV K.u.U)->Option T) (dec:T->Nat×List (TV K.u.U))
  (R:Nat->List (TV K.u.U)->Option T) (hk:KitOk (K.withModes ms) V) (inner:zaaq (K.withModes ms) V nt L b) {F:List (TV K.u.U)->Option T}
  (htr:∀ r,(tr r).val=some (dec r)) (henc:∀ i qs r,enc i qs=some r->dec r=(i,qs)) (h0:∀ ls r,R 0 ls=some r->False)
  (h1:∀ n ls r,R (n+1) ls=some r->(K.withModes ms).turn nt L sh os b ls (R n) enc=some r) (hF:F=R fuel) :
  ∀ ls j rs,(Tr.get (F ls) tr).val=some (j,rs)->zabt K V nt b sh os ls j rs:=by
 have key:∀ n ls r,R n ls=some r->zabt K V nt b sh os ls (dec r).1 (dec r).2:=by
  intro n;induction n with
  |zero=>intro ls r h; exact (h0 ls r h).elim
  |succ n ih=>
   intro ls r h;refine zabt.modes.1 (zavb hk inner (h1 n ls r h) (fun q hq=>zabt.modes.2 (ih q r hq)) fun i qs he=>?_);have:=henc i qs r he;rw[this];exact ⟨rfl,rfl⟩
 intro ls j rs h;obtain ⟨r,hr,h⟩:=Tr.get_val h;rw[htr r] at h;have hd:=Option.some.inj h;rw[hF] at hr;have:=key fuel ls r hr;rw[hd] at this;exact this
theorem zaz9 {A:Type} {f:FuncId} (m:A->Mode K.u.U) (i:Nat->A) {F:A} (hF:F=i fuel) (h0:zaad K V f (m (i 0))) (h1:∀ n,zaad K V f (m (i n))->zaad K V f (m (i (n+1)))):zaad K V f (m F):=by
 rw[hF];generalize fuel=n;induction n with
 |zero=>exact h0
 |succ n ih=>exact h1 n ih
theorem zaxz {f:FuncId} {sh:StSh} {os:List StSh} {fi:List Find} {tr:T->Tr (Nat×List (TV K.u.U))} {F:List (TV K.u.U)->Option T} (h:∀ ls r,F ls=some r->False):zaad K V f ⟨sh,fi,os,fun ls=>.get (F ls) tr⟩:=by
 intro ls j rs h';obtain ⟨r,hr,_⟩:=Tr.get_val h';exact (h ls r hr).elim
def jnL {U:Nat->Type}:Nat->Option (Loop U):=fun n=>bif Nat.beq n zaar then some zaao else none
def noL {U:Nat->Type}:Nat->Option (Loop U):=fun _=>none
structure Dfr (U:Nat->Type) where
 f:FuncId
 ps:List (PV U)
def zact:Nat:=170000
def zan3 (i:Nat):Bool:=Nat.ble zact i&&Nat.blt i (zact+1000)
def PV.ptrId {U:Nat->Type}:PV U->Option Nat
 |.ptr id _=>bif Nat.blt id zaai then some id else none
 |_=>none
def envOf:List Nat->Nat->List (Nat×Nat)
 |[],_=>[]
 |id::r,k=>(zact+k,id)::envOf r (k+1)
def zabi (env:List (Nat×Nat)):Ren:=fun i=>match swap env i with
 |some n=>(n,0)
 |none=>(i,0)
def nub {α:Type}:List (Nat×α)->List Nat->List (Nat×α)
 |[],_=>[]
 |(i,x)::r,seen=>bif seen.elem i then nub r seen else (i,x)::nub r (i::seen)
def PV.dfrOk (u:Uni) (st:List (Nat×Ob u.U)):PV u.U->Bool
 |.ptr id _=>match look st id with
  |some (.blk _ _)=>true
  |_=>false
 |.t v=>zacl v.t
 |_=>false
section
variable (K:Kit) {R:Type}
def Kit.dfrOf (σ:St K.u.U) (cl:Call):Option (Dfr K.u.U):=(evs K (look σ.tm) cl.args.toList).bind fun ps=>match cl.callee with
 |.value (.func f)=>some ⟨f,ps⟩
 |.value x=>match ev K (look σ.tm) x with
  |some (.clo f cs)=>some ⟨f,ps++cs⟩
  |some (.k (.func (.func f) a b))=>if a.size=0/\b.size=0 then some ⟨f,ps⟩ else none
  |_=>none
 |_=>none
def Kit.dfrPin (σ:St K.u.U) (d:Dfr K.u.U):Option (Dfr K.u.U×St K.u.U):=
 match d.ps.filterMap PV.ptrId,nub σ.st [] with
 |ids,st0=>match envOf ids 0 with
  | env => if ids.length <= 1000 /\ zabs ids = true /\ zabs (st0.map (·.1)) = true /\ zabs (st0.map fun x => (zabi env x.1).1) = true /\ (st0.all fun x => (look env x.1).isNone) = true /\ (d.ps.all (PV.dfrOk K.u st0)) = true then
    some (⟨d.f,renPs (zabi env) d.ps⟩,⟨renTm (zabi env) σ.tm,renSt (zabi env) st0⟩) else none
def zaok (ops:List Oper):Option Call:=match ops.getLast? with
 |some o=>match o.op,o.guard,o.dst with
  |.defer cl,none,none=>some cl
  |_,_,_=>none
 |none=>none
noncomputable def Kit.execD (nt:Nat) (L:Nat->Option (Loop K.u.U)):Code->Option (Dfr K.u.U)->St K.u.U->(Option (Dfr K.u.U)->Xit->St K.u.U->Option R)->Option R
 |.seq a b,D,σ,k=>Kit.execD nt L a D σ fun D' e σ'=>match e with
  |.normal=>Kit.execD nt L b D' σ' k
  |.exit id=>k D' (.exit id) σ'
  |.ret=>k D' .ret σ'
  |.pan=>k D' .pan σ'
 |.cond c a b,D,σ,k=>match ev K (look σ.tm) c with
  |some (.t ⟨.bool,t⟩)=>bif t then Kit.execD nt L a D σ k else Kit.execD nt L b D σ k
  |_=>none
 |.region id ops draw,D,σ,k=>match zaok ops.toList with
  |some cl=>if draw=true then none else (match D with
   |some _=>none
   |none=>K.ops nt ops.toList (List.range (ops.size-1)) σ [] fun σ' _=>(K.dfrOf σ' cl).bind fun d=>(K.dfrPin σ' d).bind fun x=>k (some x.1) .normal x.2)
  |none=>K.exec nt L (.region id ops draw) σ (k D)
 |.block id b,D,σ,k=>Kit.execD nt L b D σ fun D' e σ'=>match e with
  |.normal=>k D' .normal σ'
  |.exit j=>if j=id then k D' .normal σ' else k D' (.exit j) σ'
  |.ret=>k D' .ret σ'
  |.pan=>k D' .pan σ'
 |c,D,σ,k=>K.exec nt L c σ (k D)
variable {K} {V:Env} {B:Base} {nt:Nat}
def PinV (K:Kit) (B:Base):PV K.u.U->Value->Prop
 |.ptr id off,v=>v.oneCell'=true/\zaai<=id/\v=zabk (B.pv id) off
 |.t c,v=>zacl c.t=true/\∀ G,TRel K.u G c v
 |_,_=>False
def PinVs (K:Kit) (B:Base):List (PV K.u.U)->List Value->Prop
 |[],vs=>vs=[]
 |p::l,vs=>∃ v r,vs=v::r/\PinV K B p v/\PinVs K B l r
def DfrOk (K:Kit) (B:Base) (d:Dfr K.u.U) (x:Deferred):Prop:=∃ cap args,x=⟨.fn (.func d.f) cap,args⟩/\PinVs K B d.ps (args++cap).toList
def DsIs (K:Kit) (B:Base):Option (Dfr K.u.U)->Prop
 |none=>B.ds=[]
 |some d=>∃ x,B.ds=[x]/\DfrOk K B d x
structure Bext (B B':Base):Prop where
 w0:B'.w0=B.w0
 G0:B'.G0=B.G0
 H:B'.H=B.H
 pv:∀ i,zan3 i=false->B'.pv i=B.pv i
theorem Bext.refl (B:Base):Bext B B:=⟨rfl,rfl,rfl,fun _ _=>rfl⟩
theorem Bext.trans {B B' B'':Base} (h:Bext B B') (h':Bext B' B''):Bext B B'':=
 ⟨h'.w0.trans h.w0,h'.G0.trans h.G0,h'.H.trans h.H,fun i hi=>(h'.pv i hi).trans (h.pv i hi)⟩
theorem zamq {α:Type}:∀ (l:List (Nat×α)) (seen:List Nat) (i:Nat),i∉seen->look (nub l seen) i=look l i
 |[],_,_,_=>rfl
 |(j,x)::r,seen,i,h=>by
  simp only[nub];cases he:seen.elem j with
  |true=>
   rw[qg,zaaf,zamq r seen i h];have hj:j∈seen:=by simpa using he
   rw[if_neg (fun e=>h (by rw[e]; exact hj))]
  |false=>
   rw[qf,zaaf,zaaf];by_cases e:i=j
   ·rw[if_pos e,if_pos e]
   ·rw[if_neg e,if_neg e,zamq r (j::seen) i (by simp[e,h])]
theorem zaj7 {ids:List Nat}:∀ (k:Nat) {i n:Nat},swap (envOf ids k) i=some n->i∈ids/\zact+k<=n/\n<zact+k+ids.length/\(n,i)∈envOf ids k:=by
 induction ids with
 |nil=>intro k i n h; cases h
 |cons id r ih=>
  intro k i n h;simp only[envOf,swap] at h;cases he:Nat.beq id i with
  |true=>
   rw[he,qg] at h;cases h;have:=qx he;subst this;exact ⟨by simp,qz _,by simp,by simp[envOf]⟩
  |false=>
   rw[he,qf] at h;obtain ⟨h1,h2,h3,h4⟩:=ih (k+1) h;exact ⟨by simp[h1],by omega,by simp only[qe]; omega,by simp only[envOf,List.mem_cons]; exact .inr h4⟩
theorem zavq {ids:List Nat}:∀ (k:Nat) {i:Nat},i∈ids->∃ n,swap (envOf ids k) i=some n:=by
 induction ids with
 |nil=>intro k i h; cases h
 |cons id r ih=>
  intro k i h;simp only[envOf,swap];cases he:Nat.beq id i with
  |true=>exact ⟨_,rfl⟩
  |false=>
   rw[qf];rcases List.mem_cons.1 h with h|h
   ·subst h; simp at he
   ·exact ih (k+1) h
theorem zan8 {ids:List Nat}:∀ (k:Nat) {n i:Nat},(n,i)∈envOf ids k->look (envOf ids k) n=some i/\zact+k<=n:=by
 induction ids with
 |nil=>intro k n i h; cases h
 |cons id r ih=>
  intro k n i h;simp only[envOf,List.mem_cons,xa] at h;rcases h with ⟨rfl,rfl⟩|h
  ·exact ⟨by simp[envOf,zaaf],qz _⟩
  ·obtain ⟨h1,h2⟩:=ih (k+1) h;refine ⟨?_,by omega⟩;simp only[envOf,zaaf];rw[if_neg (by omega)];exact h1
theorem zauu {ids:List Nat}:∀ (k:Nat) {n:Nat},n<zact+k\/zact+k+ids.length<=n->look (envOf ids k) n=none:=by
 induction ids with
 |nil=>intro k n _; rfl
 |cons id r ih=>
  intro k n h;simp only[qe] at h;simp only[envOf,zaaf];rw[if_neg (by omega)];exact ih (k+1) (by omega)
theorem Inv.pinned {G : Nat -> Option Obj} {st : List (Nat × Ob K.u.U)} {β : Nat -> Gh} {w : World} {ids : List Nat} (hI : Inv K V B G (look st) β w) (hk : (st.map (·.1)).Nodup) (hn : (st.map fun x => (zabi (envOf ids 0) x.1).1).Nodup)
  (hlen:ids.length<=1000) (hlo:∀ i∈ids,i<zaai) (he:∀ x∈st,look (envOf ids 0) x.1=none) (ds:List Deferred) :
  ∃ β' B',Bext B B'/\B'.ds=ds/\Inv K V B' G (look (renSt (zabi (envOf ids 0)) st)) β' w /\
   ∀ n ob,look st n=some ob->look (renSt (zabi (envOf ids 0)) st) (zabi (envOf ids 0) n).1=some (renO (zabi (envOf ids 0)) n ob)/\β' (zabi (envOf ids 0) n).1=β n:=by
 generalize hφ:zabi (envOf ids 0)=φ at *;have hn':((st.map (·.1)).map fun n=>(φ n).1).Nodup:=by rw[List.map_map]; exact hn
 have mv:∀ n ob,look st n=some ob->look (renSt φ st) (φ n).1=some (renO φ n ob)/\renβ φ β (st.map (·.1)) (φ n).1=β n:=fun n ob h=>
  ⟨zafu hn h,zah9 hn' (xx (f:=Prod.fst) (zaa7 h))⟩
 have back:∀ i ob',look (renSt φ st) i=some ob'->∃ n ob,look st n=some ob/\(φ n).1=i/\ob'=renO φ n ob:=fun i ob' h=>by
  obtain ⟨n,ob,h1,h2,h3⟩:=zafp h;exact ⟨n,ob,zadx hk h1,h2,h3⟩
 refine ⟨renβ φ β (st.map (·.1)),{ B with pv:=fun i=>match look (envOf ids 0) i with|some old=>(β old).v|none=>B.pv i,ds:=ds },⟨rfl,rfl,rfl,fun i hi=>?_⟩,rfl,⟨hI.gok,fun i ob' h=>?_,fun i ob' b h hl hb=>?_,fun i j ob1 ob2 b h1 h2 hl1 hl2 hb1 hb2=>?_,hI.os,hI.tape,hI.output,hI.size,hI.low,hI.gl,hI.env,hI.n0,hI.hh,fun i ob' hi h hp=>?_,fun i ob' x hk2 h hx=>?_⟩,mv⟩
 ·have:look (envOf ids 0) i=none:=zauu 0 (by
   unfold zan3 at hi;by_cases h1:zact<=i
   ·by_cases h2:i<zact+1000
    ·rw[Nat.ble_eq_true_of_le h1,Bool.true_and] at hi;have h3:Nat.blt i (zact+1000)=true:=Nat.ble_eq_true_of_le h2;rw[h3] at hi;cases hi
    ·right; omega
   ·left; omega)
  simp only[this]
 ·obtain ⟨n,ob,h1,rfl,rfl⟩:=back i ob' h;exact ObRel.ren mv h1 (hI.obs n ob h1)
 ·obtain ⟨n,ob,h1,rfl,rfl⟩:=back i ob' h;rw[zafg] at hl;rw[(mv n ob h1).2,zaeb] at hb;exact hI.own n ob b h1 hl hb
 ·obtain ⟨n,o1,a1,rfl,rfl⟩:=back i ob1 h1;obtain ⟨m,o2,a2,rfl,rfl⟩:=back j ob2 h2;rw[zafg] at hl1 hl2;rw[(mv n o1 a1).2,zaeb] at hb1;rw[(mv m o2 a2).2,zaeb] at hb2;rw[hI.inj n m o1 o2 b a1 a2 hl1 hl2 hb1 hb2]
 ·obtain ⟨n,ob,h1,rfl,rfl⟩:=back i ob' h;rw[zae3] at hp;rw[(mv n ob h1).2];have hmem:=zaa7 h1;show (β n).v=match look (envOf ids 0) (φ n).1 with|some old=>(β old).v|none=>B.pv (φ n).1
  cases hs:swap (envOf ids 0) n with
  |some m=>
   have e:(φ n).1=m:=by rw[<-hφ]; simp[zabi,hs]
   rw[e,(zan8 0 (zaj7 0 hs).2.2.2).1]
  |none=>
   have e:(φ n).1=n:=by rw[<-hφ]; simp[zabi,hs]
   rw[e] at hi ⊢;rw[he _ hmem];exact hI.pin n ob hi h1 hp
 ·obtain ⟨n,ob,h1,rfl,rfl⟩:=back i ob' h;rw[(mv n ob h1).2];have hmem:=zaa7 h1;show (β n).v=match look (envOf ids 0) (φ n).1 with|some old=>(β old).v|none=>B.pv (φ n).1
  cases hs:swap (envOf ids 0) n with
  |some m=>
   have e:(φ n).1=m:=by rw[<-hφ]; simp[zabi,hs]
   rw[e,(zan8 0 (zaj7 0 hs).2.2.2).1]
  |none=>
   have e:(φ n).1=n:=by rw[<-hφ]; simp[zabi,hs]
   have e2:(φ n).2=0:=by rw[<-hφ]; simp[zabi,hs]
   rw[e] at hk2 ⊢;rw[he _ hmem];have hx:ob.now 0=some x:=by
    have h2:(renO φ n ob).now ((φ n).2+0)=some x:=by rw[e2]; exact hx
    rw[zaj3] at h2;exact h2
   exact hI.pinr n ob x hk2 h1 hx
theorem Bext.back {B B':Base} (hb:Bext B B') {G:Nat->Option Obj} {S:Nat->Option (Ob K.u.U)} {β:Nat->Gh} {w:World} (hI:Inv K V B' G S β w) (h:∀ i ob,S i=some ob->zan3 i=false):Inv K V B G S β w:=by
 obtain ⟨h1,h2,h3,h4⟩:=hb;refine ⟨hI.gok,hI.obs,?_,hI.inj,?_,?_,?_,?_,?_,?_,hI.env,?_,?_,?_,?_⟩
 ·have:=hI.own; rw[h1,h3] at this; exact this
 ·rw[<-h1]; exact hI.os
 ·rw[<-h1]; exact hI.tape
 ·rw[<-h1]; exact hI.output
 ·rw[<-h1]; exact hI.size
 ·have:=hI.low; rw[h1,h3] at this; exact this
 ·have:=hI.gl; rw[h1,h2,h3] at this; exact this
 ·rw[<-h1]; exact hI.n0
 ·rw[<-h3]; exact hI.hh
 ·intro id ob hid hS hp;rw[hI.pin id ob hid hS hp,h4 id (h id ob hS)]
 ·intro id ob x hk hS hx;rw[hI.pinr id ob x hk hS hx,h4 id (h id ob hS)]
theorem zang (hK:KitOk K V) {ops:Array Oper} {l2:List Nat}:∀ {l:List Nat} {σ:St K.u.U} {rs:List Rec} {c:St K.u.U->List Rec->Option R} {r:R},K.ops nt ops.toList l σ rs c=some r->∀ {a:Act} {w:World},Rel K V B nt σ a w ->
  ∀ {Q:Exit->Act->World->Prop},(∀ σ' rs' a' w',c σ' rs'=some r->Rel K V B nt σ' a' w'->wpOps K.P ops Q l2 a' w')->wpOps K.P ops Q (l++l2) a w
 |[],σ,rs,c,r,h,a,w,hr,Q,hk=>hk _ _ _ _ h hr
 |i::l,σ,rs,c,r,h,a,w,hr,Q,hk=>by
  rw[qp,wpOps_cons];simp only[Kit.ops] at h;exact zae2 hK h hr (fun σ' rec a' w' hc hr'=>zang hK hc hr' hk)
theorem zanp {φ:Ren}:∀ {l:List (Nat×PV K.u.U)} {i:Nat},look (renTm φ l) i=(look l i).map (renP φ)
 |[],_=>rfl
 |(j,x)::l,i=>by
  show look ((j,renP φ x)::renTm φ l) i=_;rw[zaaf,zaaf,zanp (l:=l)];split<;>rfl
theorem zas0 {σ:St K.u.U} {cl:Call} {d:Dfr K.u.U} (h:K.dfrOf σ cl=some d) {G:Nat->Option Obj} {β:Nat->Gh} {a:Act} (ht:TmOk K G (look σ.st) β (look σ.tm) a) (w:World) (ty:TypeId) :
  ∃ cap args,(resolve a.eval cl ty).run K.P w=.ok ⟨.fn (.func d.f) cap,args⟩ w/\PsRel K G (look σ.st) β d.ps (args++cap).toList:=by
 unfold Kit.dfrOf at h;simp only[qb] at h;obtain ⟨ps,h1,h2⟩:=h;have hps:=zaci ht h1;have e:(cl.args.map a.eval).toList=cl.args.toList.map a.eval:=by simp
 split at h2
 ·rename_i f hcl;cases h2;refine ⟨#[],cl.args.map a.eval,by simp[resolve,hcl,Act.eval,Deferred.ofValue],?_⟩;rw[Array.append_empty,e];exact hps
 ·rename_i x hne hcl;split at h2
  ·rename_i f cs hx;cases h2;have hxv:=zaae ht hx;simp only[PRel] at hxv;obtain ⟨vs,hv,hvs⟩:=hxv;refine ⟨vs.toArray,cl.args.map a.eval,by simp[resolve,hcl,hv,Deferred.ofValue],?_⟩;rw[Array.toList_append,e];exact hps.append (by simpa using hvs)
  ·rename_i f fst cap hx;split at h2
   ·rename_i hh;cases h2;have hxv:=zaae ht hx;simp only[PRel] at hxv;have ea:=Array.eq_empty_of_size_eq_zero hh.1;have eb:=Array.eq_empty_of_size_eq_zero hh.2;subst ea eb;refine ⟨#[],cl.args.map a.eval,by simp[resolve,hcl,hxv.1,Deferred.ofValue],?_⟩;rw[Array.append_empty,e];exact hps
   ·cases h2
  ·cases h2
 ·cases h2
theorem zaqm {B':Base} {G:Nat->Option Obj} {S':Nat->Option (Ob K.u.U)} {β':Nat->Gh} {w:World} {st0:List (Nat×Ob K.u.U)} {ids:List Nat} (hI:Inv K V B' G S' β' w) (hlo:∀ i∈ids,i<zaai)
  (mv:∀ n ob,look st0 n=some ob->S' (zabi (envOf ids 0) n).1=some (renO (zabi (envOf ids 0)) n ob)) :
  ∀ {ps:List (PV K.u.U)} {vs:List Value},(∀ p∈ps,PV.dfrOk K.u st0 p=true)->(∀ p∈ps,∀ i,PV.ptrId p=some i->i∈ids)->PsRel K G S' β' (renPs (zabi (envOf ids 0)) ps) vs->PinVs K B' (renPs (zabi (envOf ids 0)) ps) vs
 |[],vs,_,_,h=>by simpa [renPs,PsRel,PinVs] using h
 |p::ps,vs,h1,h2,h=>by
  simp only[renPs,PsRel] at h;obtain ⟨v,r,rfl,h3,h4⟩:=h;refine ⟨v,r,rfl,?_,zaqm hI hlo mv (fun q hq=>h1 q (by simp[hq])) (fun q hq=>h2 q (by simp[hq])) h4⟩;have h5:=h1 p (by simp);cases p with
  |ptr id off=>
   simp only[PV.dfrOk] at h5;split at h5
   ·rename_i T cs hS;simp only[renP,PRel] at h3;obtain ⟨h6,ob,h7,h8⟩:=h3;have h9:=mv id _ hS;rw[h9] at h7;cases h7;have hp:=h8 rfl;have hge:zaai<=(zabi (envOf ids 0) id).1:=by
     cases hs:swap (envOf ids 0) id with
     |some n=>
      have:=(zaj7 0 hs).2.1;simp only[zabi,hs];unfold zact at this;unfold zaai;omega
     |none=>
      simp only[zabi,hs];by_cases hlt:id<zaai
      ·have:PV.ptrId (U:=K.u.U) (.ptr id off)=some id:=by
        have h3:Nat.blt id zaai=true:=Nat.ble_eq_true_of_le hlt;simp[PV.ptrId,h3]
       obtain ⟨n,hn⟩:=zavq 0 (h2 _ (by simp) id this);rw[hn] at hs;cases hs
      ·omega
    refine ⟨h6,hge,?_⟩;rw[hp,hI.pin _ _ hge h9 rfl]
   ·cases h5
  |t c=>
   simp only[PV.dfrOk] at h5;simp only[renP,PRel] at h3;exact ⟨h5,fun G=>h3.scalar h5⟩
  |_=>cases h5
theorem zarp {σ σ':St K.u.U} {d d':Dfr K.u.U} (h:K.dfrPin σ d=some (d',σ')) {G:Nat->Option Obj} {β:Nat->Gh} {a:Act} {w:World} (hI:Inv K V B G (look σ.st) β w) (ht:TmOk K G (look σ.st) β (look σ.tm) a)
  {vs:List Value} (hps:PsRel K G (look σ.st) β d.ps vs) (ds:List Deferred) :
  ∃ B' β',Bext B B'/\B'.ds=ds/\Inv K V B' G (look σ'.st) β' w/\TmOk K G (look σ'.st) β' (look σ'.tm) a/\PinVs K B' d'.ps vs/\d'.f=d.f:=by
 unfold Kit.dfrPin at h;simp only at h;split at h
 ·rename_i hc;obtain ⟨c1,c2,c3,c4,c5,c6⟩:=hc;cases h;have hl:look (nub σ.st [])=look σ.st:=funext fun i=>zamq _ _ _ (by simp)
  rw[<-hl] at hI ht hps;have hlo:∀ i∈d.ps.filterMap PV.ptrId,i<zaai:=by
   intro i hi;obtain ⟨p,_,hp⟩:=List.mem_filterMap.1 hi;cases p with
   |ptr id off=>
    simp only[PV.ptrId] at hp;cases hb:Nat.blt id zaai with
    |true=>rw[hb,qg] at hp; cases hp; exact Nat.le_of_ble_eq_true hb
    |false=>rw[hb] at hp; cases hp
   |_=>cases hp
  obtain ⟨β',B',e1,e2,e3,e4⟩:=Inv.pinned (ids:=d.ps.filterMap PV.ptrId) hI (zabe c3) (zabe c4) c1 hlo (fun x hx=>by
   have:=qy.1 c5 x hx;simpa using this) ds
  have mv':∀ n ob,look (nub σ.st []) n=some ob->look (renSt (zabi (envOf (d.ps.filterMap PV.ptrId) 0)) (nub σ.st [])) (zabi (envOf (d.ps.filterMap PV.ptrId) 0) n).1=some (renO (zabi (envOf (d.ps.filterMap PV.ptrId) 0)) n ob)/\β' (zabi (envOf (d.ps.filterMap PV.ptrId) 0) n).1=β n:=e4;refine ⟨B',β',e1,e2,e3,?_,?_,rfl⟩
  ·intro s p hs;rw[zanp] at hs;simp only[xw] at hs;obtain ⟨q,hq,rfl⟩:=hs;obtain ⟨v,v1,v2⟩:=ht s q hq;exact ⟨v,v1,PRel.ren mv' q v2⟩
  ·exact zaqm e3 hlo (fun n ob hn=>(mv' n ob hn).1) (fun p hp=>qy.1 c6 p hp) (fun p hp i hi=>List.mem_filterMap.2 ⟨p,hp,hi⟩) (PsRel.ren mv' _ hps)
 ·cases h
theorem zasw (hK:KitOk K V) {L:Nat->Option (Loop K.u.U)}:∀ {c:Code},zaaq K V nt L c->∀ {D:Option (Dfr K.u.U)} {σ:St K.u.U} {k:Option (Dfr K.u.U)->Xit->St K.u.U->Option R} {r:R},K.execD nt L c D σ k=some r ->
  ∀ {B:Base} {a:Act} {w:World},DsIs K B D->Rel K V B nt σ a w->∀ {Q:Exit->Act->World->Prop},(∀ D' e σ' B',k D' e σ'=some r->DsIs K B' D'->Bext B B'->Ends K V B' nt e σ' Q)->c.wp K.P Q a w:=by
 intro c
 have gen:∀ {c:Code},(∀ {D:Option (Dfr K.u.U)} {σ:St K.u.U} {k:Option (Dfr K.u.U)->Xit->St K.u.U->Option R},K.execD nt L c D σ k=K.exec nt L c σ (k D))->zaaq K V nt L c->∀ {D:Option (Dfr K.u.U)} {σ:St K.u.U} {k:Option (Dfr K.u.U)->Xit->St K.u.U->Option R} {r:R},K.execD nt L c D σ k=some r ->
  ∀ {B:Base} {a:Act} {w:World},DsIs K B D->Rel K V B nt σ a w->∀ {Q:Exit->Act->World->Prop},(∀ D' e σ' B',k D' e σ'=some r->DsIs K B' D'->Bext B B'->Ends K V B' nt e σ' Q)->c.wp K.P Q a w:=by
  intro c hc hL D σ k r h B a w hD hr Q hk;rw[hc] at h;exact zael hK hL h hr fun e σ' h'=>hk D e σ' B h' hD (Bext.refl B)
 induction c with
 |seq x y ihx ihy=>
  intro hL D σ k r h B a w hD hr Q hk;simp only[Kit.execD] at h;refine wp_seq (ihx (fun b hb=>hL b (by simp[zaav,hb])) h hD hr (fun D' e σ' B' h' hD' hB=>?_));cases e with
  |normal=>exact fun a' w' hr'=>ihy (fun b hb=>hL b (by simp[zaav,hb])) h' hD' hr' (fun D2 e2 σ2 B2 h2 hD2 hB2=>hk D2 e2 σ2 B2 h2 hD2 (hB.trans hB2))
  |exit id=>exact fun a' w' hr'=>hk D' (.exit id) σ' B' h' hD' hB a' w' hr'
  |ret=>exact fun a' w' hr'=>hk D' .ret σ' B' h' hD' hB a' w' hr'
  |pan=>exact fun v a' w' hr'=>hk D' .pan σ' B' h' hD' hB v a' w' hr'
 |cond c x y ihx ihy=>
  intro hL D σ k r h B a w hD hr Q hk;simp only[Kit.execD] at h;split at h
  ·rename_i t ht;have hr0:=hr;obtain ⟨G,β,h1,h2,h3,h4⟩:=hr0;have he:=zaae h2 ht;simp only[PRel] at he;have he:=he.bool_inv;cases t with
   |true=>exact wp_cond_true he (ihx (fun b hb=>hL b (by simp[zaav,hb])) h hD hr hk)
   |false=>exact wp_cond_false he (ihy (fun b hb=>hL b (by simp[zaav,hb])) h hD hr hk)
  ·cases h
 |region id ops draw=>
  intro hL D σ k r h B a w hD hr Q hk;simp only[Kit.execD] at h;cases hd:zaok ops.toList with
  |none=>
   rw[hd] at h;exact zael hK hL h hr fun e σ' h'=>hk D e σ' B h' hD (Bext.refl B)
  |some cl=>
   rw[hd] at h;simp only at h;split at h
   ·cases h
   ·rename_i hdr;have hdr:draw=false:=by simpa using hdr
    subst hdr;split at h
    ·cases h
    ·refine wp_region ?_
     -- the last operation
     unfold zaok at hd;split at hd
     ·rename_i o hlast;split at hd
      ·rename_i cl' hop hgu hdst;cases hd;have hne:0<ops.size:=by
        cases hs:ops.toList with
        |nil=>rw[hs] at hlast; cases hlast
        |cons x l=>rw[<-xm,hs]; simp
       have hrange:List.range ops.size=List.range (ops.size-1)++[ops.size-1]:=by
        have:ops.size=(ops.size-1)+1:=by omega
        rw[this,List.range_succ];simp
       rw[hrange];have hget:ops[ops.size-1]? = some o:=by
        rw[List.getLast?_eq_getElem?] at hlast;simpa using hlast
       refine zang hK h hr (fun σ' rs' a' w' h' hr'=>?_);simp only[qb] at h';obtain ⟨d,d1,⟨d',σ2⟩,d2,d3⟩:=h';obtain ⟨G,β,i1,i2,i3,i4⟩:=hr';obtain ⟨cap,args,j1,j2⟩:=zas0 d1 i2 w' o.type;obtain ⟨B',β',e1,e2,e3,e4,e5,e6⟩:=zarp d2 i1 i2 j2 [⟨.fn (.func d.f) cap,args⟩];rw[wpOps_cons];unfold wpOp;rw[hget];simp only;have hw:Region.wanted o (yielded ops a'.tmps)=true:=by simp[Region.wanted,hgu]
       rw[if_pos hw];left;unfold Oper.wp;have hrun:(execOp a'.eval o).run K.P w'=.ok (.defer ⟨.fn (.func d.f) cap,args⟩) w':=by
        simp only[execOp,hop,Sem.run_bind,j1,Result.andThen_ok,Sem.run_pure]
       rw[hrun,Oper.upon_defer,hdst];simp only[wpOps];have hds0:B.ds=[]:=hD;rw[hds0] at i4;refine hk (some d') .normal σ2 B' d3 ⟨_,e2,cap,args,by rw[e6],e5⟩ e1 _ _ ⟨G,β',e3,?_,i3,?_⟩
       ·exact e4
       ·show _::a'.defers=B'.ds;rw[i4,e2]
      ·cases hd
     ·cases hd
 |block id b ih=>
  intro hL D σ k r h B a w hD hr Q hk;simp only[Kit.execD] at h;refine wp_block (ih (fun b hb=>hL b (by simpa [zaav] using hb)) h hD hr (fun D' e σ' B' h' hD' hB=>?_));cases e with
  |normal=>exact fun a' w' hr'=>hk D' .normal σ' B' h' hD' hB a' w' hr'
  |exit j=>
   intro a' w' hr';simp only at h';simp only[Xit.up,Exit.inBlock];split at h'
   ·rename_i hj;rw[if_pos hj];exact hk D' .normal σ' B' h' hD' hB a' w' hr'
   ·rename_i hj;rw[if_neg hj];exact hk D' (.exit j) σ' B' h' hD' hB a' w' hr'
  |ret=>exact fun a' w' hr'=>hk D' .ret σ' B' h' hD' hB a' w' hr'
  |pan=>exact fun v a' w' hr'=>hk D' .pan σ' B' h' hD' hB v a' w' hr'
 |_=>exact gen (by intros; rfl)
end
def recOf:Code->Option (Nat×Nat×Code)
 |.seq (.region _ ops false) rest=>match ops.toList with
  |[o0,o1]=>match o0.op,o0.dst,o0.guard,o1.op,o1.dst,o1.guard with
   |.call cl,some d0,none,.assign (.tmp t),some d1,none=>match cl.callee with
    |.builtin .recover=>bif Nat.beq t d0&&Nat.beq cl.args.size 0 then some (d0,d1,rest) else none
    |_=>none
   |_,_,_,_,_,_=>none
  |_=>none
 |_=>none
def blkAt {U:Nat->Type} (st:List (Nat×Ob U)) (id:Nat):Bool:=match look st id with
 |some (.blk _ _)=>true
 |_=>false
section
variable (K:Kit) {R:Type}
def resTm (σ:St K.u.U):List ResultVar->Option (List (Nat×PV K.u.U))
 |[]=>some []
 |.cell s _::r=>match look σ.tm s with
  |some (.ptr id 0)=>bif Nat.ble zaai id&&blkAt σ.st id then (resTm σ r).bind fun l=>some ((s,.ptr id 0)::l) else none
  |_=>none
 |.tmp _::_=>none
def zanz (l:List ResultVar):Bool:=l.all fun|.tmp _=>true|.cell _ _=>false
def liveD {U:Nat->Type} (st:List (Nat×Ob U)):PV U->Bool
 |.ptr id _=>blkAt st id
 |.t _=>true
 |_=>false
def zadw {U:Nat->Type} (st:List (Nat×Ob U)) (l:List (Nat×PV U)):Bool:=l.all fun x=>liveD st x.2
def zadk {U:Nat->Type}:Nat->List (PV U)->List (Nat×PV U)
 |_,[]=>[]
 |k,p::l=>(k,p)::zadk (k+1) l
noncomputable def Kit.finD (rvs:List ResultVar) (D:Dfr K.u.U) (e:Xit) (σ:St K.u.U) (c:St K.u.U->Option R):Option R:=
 match K.P.funcs[D.f]? with
 |none=>none
 |some g=>match g.body with
  |none=>none
  | some gb => if zabo K.P D.f = true /\ D.ps.length <= g.ntmps /\ zanz g.results.toList = true /\ D.ps.all (liveD σ.st) = true then
    (resTm K σ rvs).bind fun rt=>match recOf gb with
     | some (d0, d1, rest) => if d0 < g.ntmps /\ d1 < g.ntmps then
       (match e with|.pan=>look σ.tm zaax|_=>some (.k .nilIface)).bind fun pv=>
        K.exec g.ntmps (fun _=>none) rest ⟨(d1,pv)::(d0,pv)::zadk 0 D.ps,σ.st⟩ fun e2 τ=>match e2 with
         |.normal=>if zadw τ.st rt=true then c ⟨rt,τ.st⟩ else none
         |.ret=>if zadw τ.st rt=true then c ⟨rt,τ.st⟩ else none
         |_=>none
      else none
     |none=>match e with
      |.pan=>none
      |_=>K.exec g.ntmps (fun _=>none) gb ⟨zadk 0 D.ps,σ.st⟩ fun e2 τ=>match e2 with
        |.normal=>if zadw τ.st rt=true then c ⟨rt,τ.st⟩ else none
        |.ret=>if zadw τ.st rt=true then c ⟨rt,τ.st⟩ else none
        |_=>none
   else none
noncomputable def Kit.fnEvalD (L:Nat->Option (Loop K.u.U)) (fn:Func) (sh:StSh) (outs:List StSh) (ls:List (TV K.u.U)) (out:Nat->List (TV K.u.U)->Option R):Option R:=
 match fn.body with
 |some c=>if ((sh.fill ls).tm.map (·.1)=List.range (sh.fill ls).tm.length/\(sh.fill ls).tm.length<=fn.ntmps)/\(outs.all fun o=>o.ids.all fun i=>!zan3 i)=true then K.execD fn.ntmps L c none (sh.fill ls) fun D e σ=>match D with
   |none=>match e with
    |.normal=>(K.fin (σ.closed K.u) fn.results.toList).bind fun rps=>outFn K.u rps (σ.closed K.u).st out 0 outs
    |.ret=>(K.fin (σ.closed K.u) fn.results.toList).bind fun rps=>outFn K.u rps (σ.closed K.u).st out 0 outs
    |.pan=>(look (σ.closed K.u).tm zaax).bind fun p=>zafs K.u p (σ.closed K.u).st out 0 outs
    |.exit _=>none
   |some d=>match e with
    |.exit _=>none
    |e=>K.finD fn.results.toList d e (σ.closed K.u) fun τ=>(K.fin (τ.closed K.u) fn.results.toList).bind fun rps=>outFn K.u rps (τ.closed K.u).st out 0 outs
  else none
 |none=>none
variable {K} {V:Env} {B:Base} {nt:Nat}
theorem zalp {P:Program} {w:World} {g:Func} (h:zanz g.results.toList=true) (tmps:Array Value):∃ v,(results g tmps).run P w=.ok v w:=by
 rw[zan5,Array.mapM_eq_mapM_toList];have key:∀ l:List ResultVar,zanz l=true->∃ vs,(l.mapM (zaet tmps)).run P w=.ok vs w:=by
  intro l;induction l with
  |nil=>intro _; exact ⟨[],by simp⟩
  |cons x l ih=>
   intro hl;simp only[zanz,xv,qd] at hl;obtain ⟨vs,hvs⟩:=ih hl.2;cases x with
   |tmp t=>exact ⟨_,by simp[List.mapM_cons,zaet,hvs]; rfl⟩
   |cell s t=>cases hl.1
 obtain ⟨vs,hvs⟩:=key _ h;simp only[Sem.run_bind,Sem.run_map,hvs,Result.andThen_ok,Sem.run_pure];exact ⟨_,rfl⟩
theorem zan9 {B':Base} {G:Nat->Option Obj} {st:List (Nat×Ob K.u.U)} {β:Nat->Gh} {w:World} (hI:Inv K V B' G (look st) β w):∀ {ps:List (PV K.u.U)} {vs:List Value},PinVs K B' ps vs->(∀ p∈ps,liveD st p=true)->PsRel K G (look st) β ps vs
 |[],vs,h,_=>by simpa [PinVs,PsRel] using h
 |p::ps,vs,h,hl=>by
  obtain ⟨v,r,rfl,h1,h2⟩:=h;simp only[PsRel];refine ⟨v,r,rfl,?_,zan9 hI h2 (fun q hq=>hl q (by simp[hq]))⟩;have h3:=hl p (by simp);cases p with
  |ptr id off=>
   obtain ⟨a1,a2,a3⟩:=h1;simp only[liveD,blkAt] at h3;split at h3
   ·rename_i T cs hS;simp only[PRel];exact ⟨a1,_,hS,fun _=>by rw[hI.pin id _ a2 hS rfl]; exact a3⟩
   ·cases h3
  |t c=>simp only[PRel]; exact h1.2 G
  |_=>exact h1.elim
theorem zakf:∀ {ps:List (PV K.u.U)} {k s:Nat} {p:PV K.u.U},look (zadk k ps) s=some p->k<=s/\ps[s-k]? = some p
 |[],_,_,_,h=>by cases h
 |q::ps,k,s,p,h=>by
  simp only[zadk,zaaf] at h;split at h
  ·rename_i e;subst e;cases h;exact ⟨qz _,by simp⟩
  ·rename_i e;obtain ⟨h1,h2⟩:=zakf h;refine ⟨by omega,?_⟩;have:s-k=(s-(k+1))+1:=by omega
   rw[this,List.getElem?_cons_succ];exact h2
theorem zalx {G:Nat->Option Obj} {S:Nat->Option (Ob K.u.U)} {β:Nat->Gh} {ps:List (PV K.u.U)} {vs:List Value} (h:PsRel K G S β ps vs) (n:Nat) :
  TmOk K G S β (look (zadk 0 ps)) { tmps:=vs.toArray++Array.replicate (n-vs.toArray.size) undef,defers:=[] }:=by
 intro s p hs;obtain ⟨_,h1⟩:=zakf hs;obtain ⟨v,h2,h3⟩:=h.get s (by simpa using h1);refine ⟨v,?_,h3⟩;have hlt:s<vs.length:=(xr.1 h2).1;simp only[Array.getElem?_append,List.size_toArray,hlt,if_true];simpa using h2
def zaoa (K:Kit) (B:Base) (a:Act) (rt:List (Nat×PV K.u.U)):Prop:=∀ x∈rt,∃ id,x.2=.ptr id 0/\zaai<=id/\∃ v,a.tmps[x.1]? = some v/\v.oneCell'=true/\v=zabk (B.pv id) 0
theorem zapm {G:Nat->Option Obj} {σ:St K.u.U} {β:Nat->Gh} {a:Act} {w:World} (hI:Inv K V B G (look σ.st) β w) (ht:∀ s p,s≠zaax->look σ.tm s=some p->∃ u,a.tmps[s]? = some u/\PRel K G (look σ.st) β p u) :
  ∀ {rvs:List ResultVar} {rt:List (Nat×PV K.u.U)},(∀ s t,.cell s t∈rvs->s≠zaax)->resTm K σ rvs=some rt->zaoa K B a rt
 |[],rt,_,h=>by cases h; intro x hx; cases hx
 |.tmp _::r,rt,_,h=>by cases h
 |.cell s t::r,rt,hs,h=>by
  simp only[resTm] at h;split at h
  ·rename_i id hid;cases hb:(Nat.ble zaai id&&blkAt σ.st id) with
   |false=>rw[hb] at h; cases h
   |true=>
    rw[hb,qg] at h;simp only[qb] at h;obtain ⟨l,h1,h2⟩:=h;cases h2;rw[qd] at hb;obtain ⟨hb1,hb2⟩:=hb;have ih:=zapm hI ht (fun s' t' h=>hs s' t' (by simp[h])) h1;intro x hx;cases hx with
    |tail _ hx=>exact ih x hx
    |head=>
     have hge:=Nat.le_of_ble_eq_true hb1;obtain ⟨v,v1,v2⟩:=ht s _ (hs s t (by simp)) hid;simp only[PRel] at v2;obtain ⟨v3,ob,v4,v5⟩:=v2;simp only[blkAt] at hb2;split at hb2
     ·rename_i T cs hS;rw[hS] at v4;cases v4;exact ⟨id,rfl,hge,v,v1,v3,by rw[v5 rfl,hI.pin id _ hge hS rfl]⟩
     ·cases hb2
  ·cases h
theorem zaoa.tm {G:Nat->Option Obj} {st:List (Nat×Ob K.u.U)} {β:Nat->Gh} {a:Act} {w:World} {rt:List (Nat×PV K.u.U)} (h:zaoa K B a rt) (hI:Inv K V B G (look st) β w) (hl:zadw st rt=true):TmOk K G (look st) β (look rt) a:=by
 intro s p hs;have hm:=zaa7 hs;obtain ⟨id,h1,h2,v,h3,h4,h5⟩:=h _ hm;have h1:p=.ptr id 0:=h1;subst h1;have h6:=qy.1 hl _ hm;simp only[liveD,blkAt] at h6;split at h6
 ·rename_i T cs hS;refine ⟨v,h3,?_⟩;simp only[PRel];exact ⟨h4,_,hS,fun _=>by rw[hI.pin id _ h2 hS rfl]; exact h5⟩
 ·cases h6
theorem zak6 {c:Code}:zaaq K V nt (fun _=>none) c:=by
 intro b _ lp h;cases h
theorem zar6 (l:List Value) (n:Nat) (h:l.length<=n):(l.toArray++Array.replicate (n-l.toArray.size) undef).size=n:=by
 simp;omega
theorem zanh (hK:KitOk K V) {fn:Func} {d:Dfr K.u.U} {e:Xit} {σ:St K.u.U} {c:St K.u.U->Option R} {r:R} (h:K.finD fn.results.toList d e σ c=some r) {B':Base} {x:Deferred} (hx:DfrOk K B' d x) {G:Nat->Option Obj} {β:Nat->Gh} {a:Act} {w:World}
  (hI:Inv K V B' G (look σ.st) β w) (ht:∀ s p,s≠zaax->look σ.tm s=some p->∃ u,a.tmps[s]? = some u/\PRel K G (look σ.st) β p u) {u:FrameMode} (hs:∀ s t,.cell s t∈fn.results.toList->s≠zaax)
  (hmode:(e≠.pan/\u=.returning)\/(e=.pan/\∃ v0 p,u=.panicking [{ v:=v0,recovered:=false }]/\look σ.tm zaax=some p/\PRel K G (look σ.st) β p v0)) {R':Ending->World->Prop}
  (hfin:∀ τ G2 β2 w',c τ=some r->Inv K V { B' with ds:=[] } G2 (look τ.st) β2 w'->TmOk K G2 (look τ.st) β2 (look τ.tm) a->∃ v,(results fn a.tmps).run K.P w'=.ok v w'/\R' (.returned v) w') :
  Leaves K.P fn a.tmps R' [x] u w:=by
 obtain ⟨cap,args,rfl,hpins⟩:=hx;unfold Kit.finD at h;split at h
 ·cases h
 ·rename_i g hg;split at h
  ·cases h
  ·rename_i gb hgb;split at h
   ·rename_i hc;obtain ⟨c1,c2,c3,c4⟩:=hc;simp only[qb] at h;obtain ⟨rt,h1,h2⟩:=h;have hres:=zapm hI ht hs h1;have hps:=zan9 hI hpins (fun p hp=>qy.1 c4 p hp);have hlen:(args++cap).toList.length<=g.ntmps:=by rw[<-hps.length]; exact c2
    have hargs:(args++cap).toList.toArray=args++cap:=by simp
    have hI0:Inv K V { B' with ds:=[] } G (look σ.st) β w:=hI.ds [];have hu:u≠.run:=by
     rcases hmode with ⟨_,rfl⟩|⟨_,v0,p,rfl,_⟩<;>simp
    have hinv:(invoke (.fn (.func d.f) cap) args).run K.P w=.ok (.enter d.f (args++cap)) w:=by
     simp only[invoke];exact zacf c1
    -- the end,whichever way it was come to
    have endk:∀ (τ:St K.u.U) (w':World) (G2:Nat->Option Obj) (β2:Nat->Gh),(if zadw τ.st rt=true then c ⟨rt,τ.st⟩ else none)=some r->Inv K V { B' with ds:=[] } G2 (look τ.st) β2 w'->∃ v,(results fn a.tmps).run K.P w'=.ok v w'/\R' (.returned v) w':=by
     intro τ w' G2 β2 hh hI2;split at hh
     ·rename_i hl;have hres2:zaoa K { B' with ds:=[] } a rt:=hres;exact hfin ⟨rt,τ.st⟩ G2 β2 w' hh hI2 (hres2.tm hI2 hl)
     ·cases hh
    refine leaves_cons hu hinv ?_;split at h2
    ·rename_i d0 d1 rest hrec;split at h2
     ·rename_i hd;obtain ⟨hd0,hd1⟩:=hd;simp only[qb] at h2;obtain ⟨pv,hpv,h3⟩:=h2
      -- what is recovered
      obtain ⟨v0,hv0,hrecD⟩:∃ v0,PRel K G (look σ.st) β pv v0/\∀ (c₀:Frame) (cs:List Frame),c₀.mode=u ->
        ((recoverD (c₀::cs)=none/\v0=.nilIface/\u=.returning)\/(recoverD (c₀::cs)=some (v0,{ c₀ with mode:=.panicking [{ v:=v0,recovered:=true }] }::cs))):=by
       rcases hmode with ⟨hne,rfl⟩|⟨rfl,v0,p,rfl,hp1,hp2⟩
       ·have:pv=.k .nilIface:=by cases e<;>simp_all
        subst this;exact ⟨.nilIface,by simp only[PRel]; exact ⟨trivial,rfl⟩,fun c₀ cs hc=>.inl ⟨by simp[recoverD,hc],rfl,rfl⟩⟩
       ·simp only[hp1,qk] at hpv;subst hpv;exact ⟨v0,hp2,fun c₀ cs hc=>.inr (by simp[recoverD,hc])⟩
      have hcall:CallsD K.P d.f (args++cap) u w (fun en u' w'=>(∃ v,en=.returned v)/\Go.settle u'=.returning/\∃ v,(results fn a.tmps).run K.P w'=.ok v w'/\R' (.returned v) w'):=by
       refine callsD_of_wpS hg hgb (fun c₀ cs hc=>?_);have hasz:=zar6 (args++cap).toList g.ntmps hlen;have htm:=zalx hps g.ntmps;rw[hargs] at hasz htm;obtain ⟨A0,hA0⟩:∃ A:Act,A={ tmps:=(args++cap)++Array.replicate (g.ntmps-(args++cap).size) undef,defers:=[] }:=⟨_,rfl⟩;rw[<-hA0] at htm ⊢;have hsz0:A0.tmps.size=g.ntmps:=by rw[hA0]; exact hasz
       have hdf0:A0.defers=[]:=by rw[hA0]
       clear hA0
       -- the code's form
       unfold recOf at hrec;split at hrec
       ·rename_i id ops rest';split at hrec
        ·rename_i o0 o1 hops;split at hrec
         ·rename_i cl d0' t d1' e0 e1 e2 e3 e4 e5;split at hrec
          ·rename_i hcl;cases hb:(Nat.beq t d0'&&Nat.beq cl.args.size 0) with
           |false=>rw[hb] at hrec; cases hrec
           |true=>
            rw[hb,qg] at hrec;cases hrec;rw[qd] at hb;have ht0:=qx hb.1;have hsz:=qx hb.2;subst ht0;have hargs0:cl.args=#[]:=Array.eq_empty_of_size_eq_zero hsz;have hsize:ops.size=2:=by rw[<-xm,hops]; rfl
            have hget0:ops[0]? = some o0:=by rw[<-Array.getElem?_toList,hops]; rfl
            have hget1:ops[1]? = some o1:=by rw[<-Array.getElem?_toList,hops]; rfl
            refine wpS_seq (wpS_region ?_);rw[hsize,show List.range 2=[0,1] from rfl]
            -- the slots behind
            have hrun0:∀ (ρ:Operand->Value),(execOp ρ o0).run K.P w=.ok .recover w:=by
             intro ρ;simp[execOp,e0,resolve,hcl,hargs0,invoke,builtin]
            have hw0:∀ tm,Region.wanted o0 (yielded ops tm)=true:=fun tm=>by simp[Region.wanted,e2]
            have hw1:∀ tm,Region.wanted o1 (yielded ops tm)=true:=fun tm=>by simp[Region.wanted,e5]
            have tail : ∀ (cs' : List Frame) (u' : FrameMode), cs' = { c₀ with mode := u' } :: cs -> Go.settle u' = .returning -> rest.wpS K.P (bodyPostS K.P g c₀ cs (fun en u' w' => (∃ v, en = .returned v) /\ Go.settle u' = .returning /\ ∃ v, (results fn a.tmps).run K.P w' = .ok v w' /\ R' (.returned v) w'))
              ((A0.put (some t) v0).put (some d1) v0) cs' w:=by
             intro cs' u' hcs hset;refine wpS_of_wp ?_;have hrel:Rel K V { B' with ds:=[] } g.ntmps ⟨(d1,pv)::(t,pv)::zadk 0 d.ps,σ.st⟩ ((A0.put (some t) v0).put (some d1) v0) w:=by
              refine ⟨G,β,hI0,fun s p hs=>?_,by simp[Act.put,hsz0],by simp[Act.put,hdf0]⟩;simp only[zaaf] at hs;by_cases es1:s=d1
              ·rw[if_pos es1] at hs;cases hs;subst es1;exact ⟨v0,by simp only[Act.put]; rw[Array.getElem?_setIfInBounds_self_of_lt (by simp only[Array.size_setIfInBounds]; omega)],hv0⟩
              ·rw[if_neg es1] at hs;by_cases es2:s=t
               ·rw[if_pos es2] at hs;cases hs;subst es2;exact ⟨v0,by simp only[Act.put]; rw[Array.getElem?_setIfInBounds_ne (Ne.symm es1),Array.getElem?_setIfInBounds_self_of_lt (by omega)],hv0⟩
               ·rw[if_neg es2] at hs;obtain ⟨v,v1,v2⟩:=htm s p hs;exact ⟨v,by simp only[Act.put]; rw[Array.getElem?_setIfInBounds_ne (Ne.symm es1),Array.getElem?_setIfInBounds_ne (Ne.symm es2)]; exact v1,v2⟩
             refine zael hK zak6 h3 hrel (fun e2 τ h4=>?_)
             have fin2:∀ (a':Act) (w':World),(if zadw τ.st rt=true then c ⟨rt,τ.st⟩ else none)=some r->Rel K V { B' with ds:=[] } g.ntmps τ a' w' ->
               a'.defers=[]/\∃ u',cs'={ c₀ with mode:=u' }::cs/\∃ v,(results g a'.tmps).run K.P w'=.ok v w'/\((∃ v',Ending.returned v=.returned v')/\Go.settle u'=.returning/\∃ v,(results fn a.tmps).run K.P w'=.ok v w'/\R' (.returned v) w'):=by
              intro a' w' h5 ⟨G2,β2,i1,i2,i3,i4⟩;obtain ⟨v,hv⟩:=zalp (P:=K.P) (w:=w') c3 a'.tmps;exact ⟨i4,u',hcs,v,hv,⟨v,rfl⟩,hset,endk τ w' G2 β2 h5 i1⟩
             cases e2 with
             |normal=>exact fun a' w' hr'=>fin2 a' w' h4 hr'
             |ret=>exact fun a' w' hr'=>fin2 a' w' h4 hr'
             |exit id=>cases h4
             |pan=>cases h4
            have hev:∀ (A:Act),t<A.tmps.size->(A.put (some t) v0).eval (.tmp t)=v0:=by
             intro A hA;simp[Act.eval,Act.put,hA]
            have hput:t<A0.tmps.size:=by rw[hsz0]; exact hd0
            simp only[wpOpsS,hget0,hget1,hw0,if_true,hrun0,e1];rcases hrecD c₀ cs hc with ⟨hr1,hr2,hr3⟩|hr1
            ·rw[hr1];simp only[hw1,if_true];have hrun1:(execOp ((A0.put (some t) .nilIface).eval) o1).run K.P w=.ok (.value v0) w:=by
              have:=hev A0 hput;rw[hr2] at this ⊢;simp[execOp,e3,this]
             rw[hrun1];simp only[Oper.upon,e4];have:=tail (c₀::cs) .returning (by rw[<-hr3,<-hc]) (by simp[Go.settle]);rw[hr2] at this ⊢;exact this
            ·rw[hr1];simp only[hw1,if_true];have hrun1:(execOp ((A0.put (some t) v0).eval) o1).run K.P w=.ok (.value v0) w:=by
              simp[execOp,e3,hev A0 hput]
             rw[hrun1];simp only[Oper.upon,e4];exact tail _ _ rfl (by simp[Go.settle])
          ·cases hrec
         ·cases hrec
        ·cases hrec
       ·cases hrec
      refine hcall.mono (fun en u' w' hh=>?_);obtain ⟨⟨v,rfl⟩,h5,v2,h6,h7⟩:=hh;simp only[h5,Leaves];exact ⟨v2,h6,h7⟩
     ·cases h2
    ·have hne:e≠.pan:=by intro he; subst he; cases h2
     have hur:u=.returning:=by
      rcases hmode with ⟨_,h⟩|⟨h,_⟩
      ·exact h
      ·exact absurd h hne
     subst hur;have h3:(K.exec g.ntmps (fun _=>none) gb ⟨zadk 0 d.ps,σ.st⟩ fun e2 τ=>match e2 with
        |.normal=>if zadw τ.st rt=true then c ⟨rt,τ.st⟩ else none
        |.ret=>if zadw τ.st rt=true then c ⟨rt,τ.st⟩ else none
        |_=>none)=some r:=by
      cases e with
      |pan=>exact absurd rfl hne
      |_=>exact h2
     have htm:=zalx hps g.ntmps;have hasz:=zar6 (args++cap).toList g.ntmps hlen;rw[hargs] at hasz htm;have hrel:Rel K V { B' with ds:=[] } g.ntmps ⟨zadk 0 d.ps,σ.st⟩ { tmps:=(args++cap)++Array.replicate (g.ntmps-(args++cap).size) undef,defers:=[] } w:=⟨G,β,hI0,htm,hasz,rfl⟩;have hcall:CallsD K.P d.f (args++cap) .returning w fun en u' w'=>u'=.returning/\((∃ v,en=.returned v)/\∃ v,(results fn a.tmps).run K.P w'=.ok v w'/\R' (.returned v) w'):=by
      refine callsD_of_wp (R:=fun en w'=>(∃ v,en=.returned v)/\∃ v,(results fn a.tmps).run K.P w'=.ok v w'/\R' (.returned v) w') hg hgb ?_;refine zael hK zak6 h3 hrel (fun e2 τ h4=>?_)
      have fin2:∀ (a':Act) (w':World),(if zadw τ.st rt=true then c ⟨rt,τ.st⟩ else none)=some r->Rel K V { B' with ds:=[] } g.ntmps τ a' w' ->
        a'.defers=[]/\∃ v,(results g a'.tmps).run K.P w'=.ok v w'/\((∃ v',Ending.returned v=.returned v')/\∃ v,(results fn a.tmps).run K.P w'=.ok v w'/\R' (.returned v) w'):=by
       intro a' w' h5 ⟨G2,β2,i1,i2,i3,i4⟩;obtain ⟨v,hv⟩:=zalp (P:=K.P) (w:=w') c3 a'.tmps;exact ⟨i4,v,hv,⟨v,rfl⟩,endk τ w' G2 β2 h5 i1⟩
      cases e2 with
      |normal=>exact fun a' w' hr'=>fin2 a' w' h4 hr'
      |ret=>exact fun a' w' hr'=>fin2 a' w' h4 hr'
      |exit id=>cases h4
      |pan=>cases h4
     refine hcall.mono (fun en u' w' hh=>?_);obtain ⟨rfl,⟨v,rfl⟩,v2,h6,h7⟩:=hh;simp only[Go.settle,Leaves];exact ⟨v2,h6,h7⟩
   ·cases h
theorem zal5:∀ {ss:List OSh} {is:List Nat} {ls:List (TV K.u.U)} {i:Nat} {ob:Ob K.u.U},look (zadn ss is ls) i=some ob->i∈is
 |[],is,ls,i,ob,h=>by cases is<;>simp[zadn,look] at h
 |s::ss,[],ls,i,ob,h=>by simp[zadn,look] at h
 |s::ss,j::is,ls,i,ob,h=>by
  simp only[zadn,zaaf] at h;split at h
  ·rename_i e; simp[e]
  ·exact List.mem_cons_of_mem _ (zal5 h)
theorem zath {fn:Func} {outs:List StSh} {out:Nat->List (TV K.u.U)->Option R} {r:R} {j:Nat} {rs:List (TV K.u.U)} (hout:∀ i qs,out i qs=some r->i=j/\qs=rs) {o:StSh} (ho:outs[j]? = some o)
  {σ':St K.u.U} {a:Act} {w':World} {B':Base} {G2:Nat->Option Obj} {β2:Nat->Gh} (h':((K.fin σ' fn.results.toList).bind fun rps=>outFn K.u rps σ'.st out 0 outs)=some r) (h1:Inv K V B' G2 (look σ'.st) β2 w') (h2:TmOk K G2 (look σ'.st) β2 (look σ'.tm) a) :
  ∃ v,(results fn a.tmps).run K.P w'=.ok v w'/\∃ G' β' v',Ending.returned v=endOf o v'/\Inv K V B' G' (look (o.fill rs).st) β' w'/\ResPV K G' (look (o.fill rs).st) β' ((o.fill rs).tm.map (·.2)) v':=by
 simp only[qb] at h';obtain ⟨rps,h5,h6⟩:=h';obtain ⟨i,o',ls',i1,i2,i3,i4⟩:=zagy h6;obtain ⟨e1,rfl⟩:=hout _ _ i4;rw[Nat.zero_add] at e1;subst e1;rw[ho] at i1;cases i1;obtain ⟨vs,j1,j2⟩:=zakz h1 h2 h5;obtain ⟨G3,β3,k1,k2⟩:=zadv i3 h1 (vals:=fun s=>vs[s]?) (fun s p hs=>by
  obtain ⟨v,v1,v2⟩:=j2.get s hs;exact ⟨v,v1,v2⟩)
 have hps:PsRel K G3 (look (o.fill ls').st) β3 ((o.fill ls').tm.map (·.2)) vs:=by
  have hsl2:(o.fill ls').tm.map (·.1)=List.range vs.length:=by
   have:=zaex i3;rw[this,i2,j2.length]
  have hln:(o.fill ls').tm.length=vs.length:=by
   have:=congrArg List.length hsl2;simpa using this
  refine PsRel.of_get (by simpa using hln) (fun i p hp=>?_);have:=zaee (k:=0) (l:=(o.fill ls').tm) (by rw[hsl2,hln,List.range_eq_range']) hp;rw[Nat.zero_add] at this;exact k2 i p this
 obtain ⟨v,q1,q2⟩:=zakh (fn:=fn) j1 hps;have hnp:o.isPan=false:=by
  cases hpn:o.isPan with
  |false=>rfl
  |true=>
   have:=zaf9 hpn;rw[i2] at this;have hl:=congrArg List.length this;simp only[List.length_range,List.length_singleton] at hl;rw[hl] at this;simp[zaax,List.range_succ] at this
 exact ⟨v,q1,G3,β3,v,(zago hnp v).symm,k1,q2⟩
theorem zazi {outs:List StSh} {out:Nat->List (TV K.u.U)->Option R} {r:R} {j:Nat} {rs:List (TV K.u.U)} (hout:∀ i qs,out i qs=some r->i=j/\qs=rs) {o:StSh} (ho:outs[j]? = some o)
  {st:List (Nat×Ob K.u.U)} {w':World} {B':Base} {G2:Nat->Option Obj} {β2:Nat->Gh} {p:PV K.u.U} {v:Value} (h':zafs K.u p st out 0 outs=some r) (h1:Inv K V B' G2 (look st) β2 w') (hp2:PRel K G2 (look st) β2 p v) :
  ∃ G' β' v',Ending.panicked [{ v:=v,recovered:=false }]=endOf o v'/\Inv K V B' G' (look (o.fill rs).st) β' w'/\ResPV K G' (look (o.fill rs).st) β' ((o.fill rs).tm.map (·.2)) v':=by
 obtain ⟨i,o',ls',i1,i2,i3,i4⟩:=zaix h';obtain ⟨e1,rfl⟩:=hout _ _ i4;rw[Nat.zero_add] at e1;subst e1;rw[ho] at i1;cases i1;obtain ⟨G3,β3,k1,k2⟩:=zadv i3 h1 (vals:=fun s=>if s=zaax then some v else none) (fun s q hs=>by
  by_cases e:s=zaax
  ·rw[if_pos e] at hs;cases hs;exact ⟨v,by simp[e],hp2⟩
  ·rw[if_neg e] at hs; cases hs)
 refine ⟨G3,β3,v,(zak1 i2 v).symm,k1,?_⟩;have hsl:=zaex i3;rw[zaf9 i2] at hsl;cases htm:(o.fill ls').tm with
 |nil=>rw[htm] at hsl; cases hsl
 |cons x r=>
  obtain ⟨j,q⟩:=x;rw[htm] at hsl;simp only[xn,xh,List.map_eq_nil_iff] at hsl;obtain ⟨rfl,rfl⟩:=hsl;obtain ⟨u,u1,u2⟩:=k2 zaax q (by rw[htm,zaaf]; simp);simp at u1;subst u1;exact u2
theorem zawn (hK : KitOk K V) {L : Nat -> Option (Loop K.u.U)} {f : FuncId} {fn : Func} (hf : K.P.funcs[f]? = some fn) (hL : zaaq K V fn.ntmps L (zaag fn)) (hcl : (fn.results.toList.all fun | .cell s _ => !Nat.beq s zaax | .tmp _ => true) = true) {sh : StSh} {outs : List StSh} {ls : List (TV K.u.U)} {out : Nat -> List (TV K.u.U) -> Option R} {r : R} {j : Nat} {rs : List (TV K.u.U)}
  (h:K.fnEvalD L fn sh outs ls out=some r) (hout:∀ i qs,out i qs=some r->i=j/\qs=rs):zaa6 K V f sh outs ls j rs:=by
 intro B G β w args o ho hw0 hI hargs;have hI:=hI.ds [];have hs:∀ s t,ResultVar.cell s t∈fn.results.toList->s≠zaax:=by
  intro s t hm he;have:=qy.1 hcl _ hm;subst he;simp at this
 unfold Kit.fnEvalD at h;split at h
 ·rename_i c hb;split at h
  ·rename_i hlen;obtain ⟨⟨hsl,hlen⟩,hids⟩:=hlen;have hL':zaaq K V fn.ntmps L c:=by rw[zaag,hb] at hL; exact hL
   refine calls_of_wp_defers hf hb ?_;have hal:args.length=(sh.fill ls).tm.length:=by rw[<-hargs.length,List.length_map]
   have hT:TmOk K G (look (sh.fill ls).st) β (look (sh.fill ls).tm) { tmps:=args.toArray++Array.replicate (fn.ntmps-args.toArray.size) undef,defers:=[] }:=by
    intro s p hs;have hm:=zaa7 hs;have hs2:s<(sh.fill ls).tm.length:=by
     have:s∈(sh.fill ls).tm.map (·.1):=xx (f:=Prod.fst) hm;rw[hsl] at this;simpa using this
    have hget:((sh.fill ls).tm.map (·.2))[s]? = some p:=by
     obtain ⟨q,hq⟩:∃ q,((sh.fill ls).tm.map (·.2))[s]? = some q:=⟨_,xp (by simpa using hs2)⟩;have:=zaee (k:=0) (l:=(sh.fill ls).tm) (by rw[hsl,List.range_eq_range']) hq;rw[Nat.zero_add,hs] at this;cases this;exact hq
    obtain ⟨v,h2,h3⟩:=hargs.get s hget;refine ⟨v,?_,h3⟩;have hlt:s<args.length:=by omega
    simp only[Array.getElem?_append,List.size_toArray,hlt,if_true];simpa using h2
   have hrel:Rel K V { B with ds:=[] } fn.ntmps (sh.fill ls) { tmps:=args.toArray++Array.replicate (fn.ntmps-args.toArray.size) undef,defers:=[] } w:=
    ⟨G,_,hI,hT,by simp; omega,rfl⟩
   have back:∀ {B':Base} {G':Nat->Option Obj} {β':Nat->Gh} {w':World},Bext { B with ds:=[] } B'->Inv K V B' G' (look (o.fill rs).st) β' w'->Inv K V B G' (look (o.fill rs).st) β' w':=by
    intro B' G' β' w' hB hI';refine (hB.back hI' (fun i ob hi=>?_)).ds B.ds;have:=qy.1 hids o (List.mem_of_getElem? ho);have:=qy.1 this i (zal5 hi);simpa using this
   refine zasw hK hL' h (show DsIs K { B with ds:=[] } none from rfl) hrel (fun D' e σ' B' h' hD' hB=>?_);cases D' with
   |none=>
    have hD':B'.ds=[]:=hD'
    have fin : ∀ (a' : Act) (w' : World), ((K.fin (σ'.closed K.u) fn.results.toList).bind fun rps => outFn K.u rps (σ'.closed K.u).st out 0 outs) = some r -> Rel K V B' fn.ntmps (σ'.closed K.u) a' w' ->
      Leaves K.P fn a'.tmps (fun e w'=>∃ G' β' v,e=endOf o v/\Inv K V B G' (look (o.fill rs).st) β' w'/\ResPV K G' (look (o.fill rs).st) β' ((o.fill rs).tm.map (·.2)) v) a'.defers .returning w':=by
     intro a' w' h5 ⟨G2,β2,h1,h2,h3,h4⟩;rw[h4,hD'];obtain ⟨v,hv,G3,β3,v',i1,i2,i3⟩:=zath hout ho h5 h1 h2;simp only[Leaves];exact ⟨v,hv,G3,β3,v',i1,back hB i2,i3⟩
    cases e with
    |normal=>exact fun a' w' hr'=>fin a' w' h' hr'.closed
    |ret=>exact fun a' w' hr'=>fin a' w' h' hr'.closed
    |exit id=>cases h'
    |pan=>
     intro v a' w' hr';simp only[qb] at h';obtain ⟨p0,hp0,h'⟩:=h';obtain ⟨G2,β2,h1,⟨p,hp1,hp2⟩,h2,h3,h4⟩:=hr'.closed;rw[hp0] at hp1;cases hp1;show Leaves _ _ _ _ a'.defers (.panicking _) w';rw[h4,hD'];simp only[Leaves];obtain ⟨G3,β3,v',i1,i2,i3⟩:=zazi hout ho h' h1 hp2;exact ⟨G3,β3,v',i1,back hB i2,i3⟩
   |some d=>
    obtain ⟨x,hx1,hx2⟩:=hD'
    have hfin : ∀ (a' : Act), ∀ (τ : St K.u.U) (G2 : Nat -> Option Obj) (β2 : Nat -> Gh) (w' : World), ((K.fin (τ.closed K.u) fn.results.toList).bind fun rps => outFn K.u rps (τ.closed K.u).st out 0 outs) = some r -> Inv K V { B' with ds := [] } G2 (look τ.st) β2 w' -> TmOk K G2 (look τ.st) β2 (look τ.tm) a' ->
      ∃ v,(results fn a'.tmps).run K.P w'=.ok v w'/\∃ G' β' v',Ending.returned v=endOf o v'/\Inv K V B G' (look (o.fill rs).st) β' w'/\ResPV K G' (look (o.fill rs).st) β' ((o.fill rs).tm.map (·.2)) v':=by
     intro a' τ G2 β2 w' h5 h1 h2;have hcl:∃ G2 β3,Inv K V { B' with ds:=[] } G2 (look (τ.closed K.u).st) β3 w'/\TmOk K G2 (look (τ.closed K.u).st) β3 (look (τ.closed K.u).tm) a':=by
      unfold St.closed;cases τ.st.any (fun x=>x.2.isOpn) with
      |true=>
       obtain ⟨G',β',i1,i2⟩:=zadd (ids:=zar0 τ.st) h1;exact ⟨G',β',i1,fun s p hs=>by obtain ⟨v,v1,v2⟩:=h2 s p hs; exact ⟨v,v1,v2.over i2⟩⟩
      |false=>exact ⟨G2,β2,h1,h2⟩
     obtain ⟨G2,β3,c1,c2⟩:=hcl;obtain ⟨v,hv,G3,β4,v',i1,i2,i3⟩:=zath hout ho h5 c1 c2;exact ⟨v,hv,G3,β4,v',i1,back hB (i2.ds B'.ds),i3⟩
    have main : ∀ (e : Xit), e ≠ .pan -> ∀ (a' : Act) (w' : World), (K.finD fn.results.toList d e (σ'.closed K.u) fun τ => (K.fin (τ.closed K.u) fn.results.toList).bind fun rps => outFn K.u rps (τ.closed K.u).st out 0 outs) = some r -> Rel K V B' fn.ntmps (σ'.closed K.u) a' w' ->
      Leaves K.P fn a'.tmps (fun e w'=>∃ G' β' v,e=endOf o v/\Inv K V B G' (look (o.fill rs).st) β' w'/\ResPV K G' (look (o.fill rs).st) β' ((o.fill rs).tm.map (·.2)) v) a'.defers .returning w':=by
     intro e he a' w' h5 ⟨G2,β2,h1,h2,h3,h4⟩;rw[h4,hx1];exact zanh hK h5 hx2 h1 (fun s p _ hs=>h2 s p hs) hs (.inl ⟨he,rfl⟩) (hfin a')
    cases e with
    |normal=>exact fun a' w' hr'=>main .normal (by simp) a' w' h' hr'.closed
    |ret=>exact fun a' w' hr'=>main .ret (by simp) a' w' h' hr'.closed
    |exit id=>cases h'
    |pan=>
     intro v a' w' hr';obtain ⟨G2,β2,h1,⟨p,hp1,hp2⟩,h2,h3,h4⟩:=hr'.closed;show Leaves _ _ _ _ a'.defers (.panicking _) w';rw[h4,hx1];exact zanh hK h' hx2 h1 h2 hs (.inr ⟨rfl,v,p,rfl,hp1,hp2⟩) (hfin a')
  ·cases h
 ·cases h
end
section
variable {K:Kit} {V:Env} {T:Type} {ms:FuncId->List (Mode K.u.U)}
theorem za0z {f:FuncId} {fn:Func} {L:Nat->Option (Loop K.u.U)} {sh:StSh} {os:List StSh} {tr:T->Tr (Nat×List (TV K.u.U))} (enc:Nat->List (TV K.u.U)->Option T) (dec:T->Nat×List (TV K.u.U))
  (hk:KitOk (K.withModes ms) V) (hf:K.P.funcs[f]? = some fn) (inner:zaaq (K.withModes ms) V fn.ntmps L (zaag fn)) {F:List (TV K.u.U)->Option T}
  (htr:∀ r,(tr r).val=some (dec r)) (henc:∀ i qs r,enc i qs=some r->dec r=(i,qs)) (hE:∀ ls r,F ls=some r->(K.withModes ms).fnEvalD L fn sh os ls enc=some r)
  (hcl:(fn.results.toList.all fun|.cell s _=>!Nat.beq s zaax|.tmp _=>true)=true) :
  ∀ ls j rs,(Tr.get (F ls) tr).val=some (j,rs)->zaa6 K V f sh os ls j rs:=by
 intro ls j rs h;obtain ⟨r,hr,h⟩:=Tr.get_val h;rw[htr r] at h;have hd:=Option.some.inj h;refine zaa6.modes.1 (zawn hk hf inner hcl (hE ls r hr) fun i qs he=>?_);have:=(henc i qs r he).symm.trans hd;cases this;exact ⟨rfl,rfl⟩
end
section
variable {U:Nat->Type} {R:Type}
def castV (t:Ty) (v:TV U):Option (t.den U):=if h:v.t=t then some (h▸v.x) else none
theorem zami {t:Ty} {v:TV U} {x:t.den U} (h:castV t v=some x):v=⟨t,x⟩:=by
 obtain ⟨t',y⟩:=v;unfold castV at h;split at h
 ·rename_i e;cases e;cases h;rfl
 ·cases h
def tupT1 (U:Nat->Type):Ty->List Ty->Type
 |t,[]=>t.den U
 |t,u::l=>t.den U×tupT1 U u l
def tupE1:(t:Ty)->(l:List Ty)->List (TV U)->Option (tupT1 U t l)
 |t,[],vs=>match vs with
  |[]=>none
  |v::vs=>match vs with
   |[]=>castV t v
   |_::_=>none
 |t,u::l,vs=>match vs with
  |[]=>none
  |v::vs=>match castV t v with
   |none=>none
   |some x=>match tupE1 u l vs with
    |none=>none
    |some y=>some (x,y)
def tupD1:(t:Ty)->(l:List Ty)->tupT1 U t l->List (TV U)
 |t,[],x=>[⟨t,x⟩]
 |t,u::l,x=>⟨t,x.1⟩::tupD1 u l x.2
theorem zatx:∀ (l:List Ty) (t:Ty) (vs:List (TV U)) (r:tupT1 U t l),tupE1 t l vs=some r->tupD1 t l r=vs
 |[],t,vs,r,h=>by
  cases vs with
  |nil=>exact nomatch h
  |cons v vs=>
   cases vs with
   |nil=>
    have h:castV t v=some r:=h;obtain rfl:=zami h;rfl
   |cons _ _=>exact nomatch h
 |u::l,t,vs,r,h=>by
  cases vs with
  |nil=>exact nomatch h
  |cons v vs=>
   have h:(match castV t v with
    |none=>none
    |some x=>match tupE1 u l vs with
     |none=>none
     |some y=>some (x,y))=some r:=h
   revert h;cases h1:castV t v with
   |none=>intro h; exact nomatch h
   |some x=>
    cases h2:tupE1 u l vs with
    |none=>intro h; exact nomatch h
    |some y=>
     intro h;have e:=zatx l u vs y h2;have q:(x,y)=r:=Option.some.inj h;subst q;have e1:=zami h1;subst e1;exact congrArg (List.cons _) e
def tupT (U:Nat->Type):List Ty->Type
 |[]=>Unit
 |t::l=>tupT1 U t l
def tupE:(ts:List Ty)->List (TV U)->Option (tupT U ts)
 |[],vs=>match vs with
  |[]=>some ()
  |_::_=>none
 |t::l,vs=>tupE1 t l vs
def tupD:(ts:List Ty)->tupT U ts->List (TV U)
 |[],_=>[]
 |t::l,x=>tupD1 t l x
theorem zavv (ts:List Ty) (vs:List (TV U)) (r:tupT U ts) (h:tupE ts vs=some r):tupD ts r=vs:=by
 cases ts with
 |nil=>
  cases vs with
  |nil=>rfl
  |cons _ _=>exact nomatch h
 |cons t l=>exact zatx l t vs r h
def sumT1 (U:Nat->Type):List Ty->List (List Ty)->Type
 |t,[]=>tupT U t
 |t,u::l=>tupT U t⊕sumT1 U u l
def sumE1:(t:List Ty)->(l:List (List Ty))->Nat->List (TV U)->Option (sumT1 U t l)
 |t,[],i,vs=>match i with
  |0=>tupE t vs
  |_+1=>none
 |t,u::l,i,vs=>match i with
  |0=>match tupE t vs with
   |none=>none
   |some x=>some (.inl x)
  |i+1=>match sumE1 u l i vs with
   |none=>none
   |some x=>some (.inr x)
def zaqh:Nat->(t:List Ty)->(l:List (List Ty))->sumT1 U t l->Tr (Nat×List (TV U))
 |k,t,[],x=>.ret (k,tupD t x)
 |k,t,u::l,x=>.alt x (fun x=>.ret (k,tupD t x)) (fun y=>zaqh (k+1) u l y)
def sumD1:Nat->(t:List Ty)->(l:List (List Ty))->sumT1 U t l->Nat×List (TV U)
 |k,t,[],x=>(k,tupD t x)
 |k,t,u::l,x=>match x with
  |.inl x=>(k,tupD t x)
  |.inr y=>sumD1 (k+1) u l y
theorem zaob:∀ (l:List (List Ty)) (k:Nat) (t:List Ty) (r:sumT1 U t l),(zaqh k t l r).val=some (sumD1 k t l r)
 |[],k,t,r=>rfl
 |u::l,k,t,r=>by
  cases r with
  |inl x=>rfl
  |inr y=>exact zaob l (k+1) u y
theorem zat5:∀ (l:List (List Ty)) (k i:Nat) (t:List Ty) (vs:List (TV U)) (r:sumT1 U t l),sumE1 t l i vs=some r->sumD1 k t l r=(k+i,vs)
 |[],k,i,t,vs,r,h=>by
  cases i with
  |zero=>
   have e:=zavv t vs r h;exact congrArg (Prod.mk _) e
  |succ i=>exact nomatch h
 |u::l,k,i,t,vs,r,h=>by
  cases i with
  |zero=>
   have h:(match tupE t vs with
    |none=>none
    |some x=>some (.inl x))=some r:=h
   revert h;cases h1:tupE t vs with
   |none=>intro h; exact nomatch h
   |some x=>
    intro h;have e:=zavv t vs x h1;cases h;exact congrArg (Prod.mk _) e
  |succ i=>
   have h:(match sumE1 u l i vs with
    |none=>none
    |some x=>some (.inr x))=some r:=h
   revert h;cases h1:sumE1 u l i vs with
   |none=>intro h; exact nomatch h
   |some x=>
    intro h;have e:=zat5 l (k+1) i u vs x h1;cases h;have e2:sumD1 (k+1) u l x=(k+(i+1),vs):=by rw[e,Nat.add_assoc,Nat.add_comm 1 i]
    exact e2
def sumT (U:Nat->Type):List (List Ty)->Type
 |[]=>Empty
 |t::l=>sumT1 U t l
def sumE:(os:List (List Ty))->Nat->List (TV U)->Option (sumT U os)
 |[],_,_=>none
 |t::l,i,vs=>sumE1 t l i vs
def sumTr:(os:List (List Ty))->sumT U os->Tr (Nat×List (TV U))
 |[],_=>.fail
 |t::l,x=>zaqh 0 t l x
def sumD:(os:List (List Ty))->sumT U os->Nat×List (TV U)
 |[],_=>(0,[])
 |t::l,x=>sumD1 0 t l x
theorem zak7 (os:List (List Ty)) (r:sumT U os):(sumTr os r).val=some (sumD os r):=by
 cases os with
 |nil=>exact nomatch r
 |cons t l=>exact zaob l 0 t r
theorem zar9 (os:List (List Ty)) (i:Nat) (vs:List (TV U)) (r:sumT U os) (h:sumE os i vs=some r):sumD os r=(i,vs):=by
 cases os with
 |nil=>exact nomatch r
 |cons t l=>
  have e:=zat5 l 0 i t vs r h;rw[Nat.zero_add] at e;exact e
def curT (U:Nat->Type) (R:Type):List Ty->Type
 |[]=>Option R
 |t::l=>t.den U->curT U R l
def curA:(ts:List Ty)->curT U R ts->List (TV U)->Option R
 |[],f,vs=>match vs with
  |[]=>f
  |_::_=>none
 |t::l,f,vs=>match vs with
  |[]=>none
  |v::vs=>match castV t v with
   |none=>none
   |some x=>curA l (f x) vs
def curL:(ts:List Ty)->(List (TV U)->Option R)->curT U R ts
 |[],e=>e []
 |t::l,e=>fun x=>curL l fun vs=>e (⟨t,x⟩::vs)
def curC:(ts:List Ty)->curT U R ts
 |[]=>none
 |_::l=>fun _=>curC l
theorem zanj:∀ (ts:List Ty) (e:List (TV U)->Option R) (vs:List (TV U)) (r:R),curA ts (curL ts e) vs=some r->e vs=some r
 |[],e,vs,r,h=>by
  cases vs with
  |nil=>exact h
  |cons _ _=>exact nomatch h
 |t::l,e,vs,r,h=>by
  cases vs with
  |nil=>exact nomatch h
  |cons v vs=>
   have h:(match castV t v with
    |none=>none
    |some x=>curA l (curL l fun vs=>e (⟨t,x⟩::vs)) vs)=some r:=h
   revert h;cases h1:castV t v with
   |none=>intro h; exact nomatch h
   |some x=>
    intro h;have e2:=zanj l (fun vs=>e (⟨t,x⟩::vs)) vs r h;obtain rfl:=zami h1;exact e2
theorem zarc:∀ (ts:List Ty) (vs:List (TV U)) (r:R),curA ts (curC ts) vs=some r->False
 |[],vs,r,h=>by
  cases vs with
  |nil=>exact nomatch h
  |cons _ _=>exact nomatch h
 |t::l,vs,r,h=>by
  cases vs with
  |nil=>exact nomatch h
  |cons v vs=>
   have h:(match castV t v with
    |none=>none
    |some x=>curA l (curC l) vs)=some r:=h
   revert h;cases h1:castV t v with
   |none=>intro h; exact nomatch h
   |some x=>intro h; exact zarc l vs r h
def mdG (sh:StSh) (fi:List Find) (os:List StSh) (ts:List Ty) (rs:List (List Ty)) (F:curT U (sumT U rs) ts):Mode U:=⟨sh,fi,os,fun ls=>.get (curA ts F ls) (sumTr rs)⟩
def lpG (sh:StSh) (os:List Out) (ts:List Ty) (rs:List (List Ty)) (F:curT U (sumT U rs) ts):Loop U:=⟨sh,os,fun ls=>.get (curA ts F ls) (sumTr rs)⟩
end
section
variable {K:Kit} {V:Env} {ms:FuncId->List (Mode K.u.U)} {ts:List Ty} {rs:List (List Ty)}
theorem fnG {f:FuncId} {fn:Func} {L:Nat->Option (Loop K.u.U)} {sh:StSh} {fi:List Find} {os:List StSh} {F F':curT K.u.U (sumT K.u.U rs) ts} (hk:KitOk (K.withModes ms) V) (hf:K.P.funcs[f]? = some fn)
  (inner:zaaq (K.withModes ms) V fn.ntmps L (zaag fn)) (hF:F=F') (hE:curL ts (fun ls=>(K.withModes ms).fnEval L fn sh os ls (sumE rs))=F'):zaad K V f (mdG sh fi os ts rs F):=by
 rw[hF,<-hE];exact fn_of (sumE rs) (sumD rs) hk hf inner (fun r=>zak7 rs r) (fun i qs r h=>zar9 rs i qs r h) (fun ls r h=>zanj ts _ ls r h)
theorem fnGD {f:FuncId} {fn:Func} {L:Nat->Option (Loop K.u.U)} {sh:StSh} {fi:List Find} {os:List StSh} {F F':curT K.u.U (sumT K.u.U rs) ts} (hk:KitOk (K.withModes ms) V) (hf:K.P.funcs[f]? = some fn)
  (inner:zaaq (K.withModes ms) V fn.ntmps L (zaag fn)) (hF:F=F') (hE:curL ts (fun ls=>(K.withModes ms).fnEvalD L fn sh os ls (sumE rs))=F')
  (hcl:(fn.results.toList.all fun|.cell s _=>!Nat.beq s zaax|.tmp _=>true)=true):zaad K V f (mdG sh fi os ts rs F):=by
 rw[hF,<-hE];exact za0z (sumE rs) (sumD rs) hk hf inner (fun r=>zak7 rs r) (fun i qs r h=>zar9 rs i qs r h) (fun ls r h=>zanj ts _ ls r h) hcl
theorem loopG {nt:Nat} {b:Code} {L:Nat->Option (Loop K.u.U)} {sh:StSh} {os:List Out} {F:curT K.u.U (sumT K.u.U rs) ts} (i:Nat->curT K.u.U (sumT K.u.U rs) ts) (t:curT K.u.U (sumT K.u.U rs) ts->curT K.u.U (sumT K.u.U rs) ts)
  (hk:KitOk (K.withModes ms) V) (inner:zaaq (K.withModes ms) V nt L b) (h0:i 0=curC ts) (hS:∀ n,i (n+1)=t (i n)) (hF:F=i fuel)
  (hE:∀ r,curL ts (fun ls=>(K.withModes ms).turn nt L sh os b ls (curA ts r) (sumE rs))=t r):LoopR K V nt b (lpG sh os ts rs F):=
 zazr (sumE rs) (sumD rs) (fun n => curA ts (i n)) hk inner (fun r => zak7 rs r) (fun i qs r h => zar9 rs i qs r h)
  (fun ls r h=>by rw[h0] at h; exact zarc ts ls r h)
  (fun n ls r h=>by rw[hS,<-hE] at h; exact zanj ts _ ls r h) (by rw[hF])
theorem recG {f:FuncId} {sh:StSh} {fi:List Find} {os:List StSh} {F:curT K.u.U (sumT K.u.U rs) ts} (i:Nat->curT K.u.U (sumT K.u.U rs) ts) (t:curT K.u.U (sumT K.u.U rs) ts->curT K.u.U (sumT K.u.U rs) ts)
  (h0:i 0=curC ts) (hS:∀ n,i (n+1)=t (i n)) (hF:F=i fuel) (h1:∀ r,zaad K V f (mdG sh fi os ts rs r)->zaad K V f (mdG sh fi os ts rs (t r))):zaad K V f (mdG sh fi os ts rs F):=by
 refine zaz9 (fun r=>mdG sh fi os ts rs r) i hF ?_ (fun n ih=>?_)
 ·rw[h0];exact zaxz (fun ls r h=>zarc ts ls r h)
 ·rw[hS];exact h1 _ ih
end
end Lift
namespace Lift
structure Spot where
 rune:Int
 at_:Int
 line:Int
 col:Int
 deriving DecidableEq
structure Fault where
 code:Int
 at_:Int
 name:List UInt8
 deriving DecidableEq
structure Finding where
 kind:Int
 thread:Int
 other:Int
 what:Int
 schedule:List Int
 deriving DecidableEq
structure Names where
 cells:List (List UInt8)
 mutexes:List (List UInt8)
 threads:List (List UInt8)
 regs:List (List (List UInt8))
 deriving DecidableEq
structure Run where
 n:Int
 times:Int
 deriving DecidableEq
structure Rdr where
 b:List Int
 at_:Int
 bad:Bool
 deriving DecidableEq
structure Token where
 kind:Int
 text:List UInt8
 num:Int
 at_:Int
 deriving DecidableEq
structure TExpr where
 kind:Int
 num:Int
 name:List UInt8
 args:List TExpr
structure TStmt where
 kind:Int
 reg:List UInt8
 name:List UInt8
 expr:TExpr
 count:Int
 then_:List TStmt
 else_:List TStmt
structure TCell where
 name:List UInt8
 init:Int
 deriving DecidableEq
structure TThread where
 name:List UInt8
 body:List TStmt
structure TProg where
 cells:List TCell
 mutexes:List (List UInt8)
 threads:List TThread
structure Shape where
 reg:Bool
 name:Bool
 expr:Bool
 count:Bool
 then_:Bool
 other:Bool
 deriving DecidableEq
structure TAct where
 kind:Int
 reg:Int
 obj:Int
 expr:TExpr
 count:Int
 then_:List TAct
 else_:List TAct
structure TBody where
 regs:Int
 acts:List TAct
structure TUnit where
 cells:List Int
 mutexes:Int
 threads:List TBody
structure Instr where
 op:Int
 a:Int
 b:Int
 c:Int
 deriving DecidableEq
structure ACode where
 regs:Int
 instrs:List Instr
 deriving DecidableEq
structure Image where
 cells:List Int
 mutexes:Int
 threads:List ACode
 deriving DecidableEq
structure Namer where
 cells:List (List UInt8)
 mutexes:List (List UInt8)
 threads:List (List UInt8)
 regs:List (List UInt8)
structure Thing where
 kind:Int
 number:Int
 deriving DecidableEq
structure Refused where
 e:Int
 name:List UInt8
 deriving DecidableEq
structure Operation where
 word:List UInt8
 numbers:List UInt8
 deriving DecidableEq
open Go
def zaa9 (s:List UInt8):Int×Bool:=match Lib.atoiAll s with
 |.ok v=>(v,false)
 |.range=>(Lib.atoiSat s,true)
 |_=>(0,true)
end Lift
namespace Lift.Fn
open Go Lift
noncomputable def zai5 (l:List (List UInt8)) (sep:List UInt8):Option (List UInt8):=bif decide (l.length<=140737488355328/\(Lib.join l sep).length<=140737488355328) then some (Lib.join l sep) else none
noncomputable def strings_Join:List (List UInt8)->List UInt8->Option (List UInt8):=sealF zai5
noncomputable def zad5 (s t:List UInt8):Option Bool:=bif decide (s.length<4294967281) then some (Lib.contains s t) else none
noncomputable def strings_Contains:List UInt8->List UInt8->Option Bool:=sealF zad5
noncomputable def zabw (s:List UInt8):Option (Int×Int):=some (((Lib.decodeGo ⟨s.toArray⟩).1:Int),((Lib.decodeGo ⟨s.toArray⟩).2:Int))
noncomputable def zabb:List UInt8->Option (Int×Int):=sealF zabw
noncomputable def zab0 (s:List UInt8):Option Int:=bif decide (s.length<9223372036854775807) then some ((Lib.runeCount ⟨s.toArray⟩:Nat):Int) else none
noncomputable def zabh:List UInt8->Option Int:=sealF zab0
noncomputable def zaf1 (s c:List UInt8):Option (List UInt8):=bif decide (s.length<=9223372036854775807/\c.length<4294967281)&&c.all (fun b=>decide (b.toNat<128)) then some (Lib.trimS s c) else none
noncomputable def zadf:List UInt8->List UInt8->Option (List UInt8):=sealF zaf1
noncomputable def zaf6 (s:List UInt8):Option (Int×Bool):=bif decide (s.length<=281474976710656) then some (zaa9 s) else none
noncomputable def zac9:List UInt8->Option (Int×Bool):=sealF zaf6
end Lift.Fn
namespace Lift
end Lift
namespace Lift.Fn
open Go Lift
noncomputable def zaof (n:Int):Option (List UInt8):=bif decide (0<=n/\n<100) then some (Lib.decDigits n.toNat) else none
noncomputable def strconv_Itoa:Int->Option (List UInt8):=sealF zaof
noncomputable def zad4 (l:List Int):Option (List UInt8):=bif l.all (fun n=>decide (0<=n/\n<256)) then some (bytesOf l) else none
noncomputable def zaeu:List Int->Option (List UInt8):=sealF zad4
noncomputable def zaib (n:Int):Option (List UInt8):=bif decide (-9223372036854775808<=n/\n<=9223372036854775807) then some (Lib.itoa n) else none
noncomputable def zakj:Int->Option (List UInt8):=sealF zaib
noncomputable def zahr (s:List UInt8) (n:Int):Option (List UInt8):=bif decide (0<=n/\n<=9223372036854775807)&&decide (s.length*n.toNat<=140737488355328) then some (Lib.repeatL s n.toNat) else none
noncomputable def strings_Repeat:List UInt8->Int->Option (List UInt8):=sealF zahr
end Lift.Fn
namespace Lift
open Go Go.RowKit
theorem zajh {K:Kit} {G:Nat->Option Obj} {S:Nat->Option (Ob K.u.U)} {β:Nat->Gh}:∀ {ls:List (TV K.u.U)} {vs:List Value},PsRel K G S β (ls.map .t) vs↔TsRel K.u G ls vs
 |[],vs=>by
  constructor
  ·intro h;have:vs=[]:=h;subst this;exact .nil
  ·intro h;cases h;rfl
 |c::ls,vs=>by
  constructor
  ·rintro ⟨u,r,rfl,h1,h2⟩
   exact .cons _ _ _ _ h1 (zajh.1 h2)
  ·intro h;cases h with
   |cons _ _ v vs h1 h2=>exact ⟨_,_,rfl,h1,zajh.2 h2⟩
def ResT (u:Uni) (G:Nat->Option Obj):List (TV u.U)->Value->Prop
 |[c],v=>TRel u G c v
 |l,v=>∃ vs:List Value,v=.tuple vs.toArray/\TsRel u G l vs
theorem zazv {K:Kit} {G:Nat->Option Obj} {S:Nat->Option (Ob K.u.U)} {β:Nat->Gh} {rs:List (TV K.u.U)} {v:Value} (h:ResT K.u G rs v):ResPV K G S β (rs.map .t) v:=by
 match rs,h with
 |[],⟨vs,h1,h2⟩=>exact ⟨vs,h1,zajh.2 h2⟩
 |[c],h=>exact h
 |a::b::r,⟨vs,h1,h2⟩=>exact ⟨vs,h1,zajh (ls:=a::b::r).2 h2⟩
def grow (n:Nat) (G:Nat->Option Obj) (w:World):Nat->Option Obj:=fun k=>if k<n then G k else w.heap[k]?
theorem zac1 {K : Kit} {V : Env} {f : FuncId} {sh o : StSh} {outs : List StSh} {ls rs : List (TV K.u.U)} (hs : (sh.fill ls).st = []) (ht : (sh.fill ls).tm.map (·.2) = ls.map .t) (ho : outs[0]? = some o)
  (hos:(o.fill rs).st=[]) (hot:(o.fill rs).tm.map (·.2)=rs.map .t)
  (h:∀ (G:Nat->Option Obj) (w:World) (args:List Value),V.E w->V.N0<=w.heap.size->(∀ k o,G k=some o->w.heap[k]? = some o)->TsRel K.u G ls args ->
   Calls K.P f args.toArray w fun e w'=>∃ v,e=.returned v/\Below w.heap.size w w'/\ResT K.u (grow w.heap.size G w') rs v) (hpn:o.isPan=false:=by rfl):zaa6 K V f sh outs ls 0 rs:=by
 intro B G β w args o' ho' hw hI hp;rw[ho] at ho';cases ho';rw[hs] at hI hp;rw[ht] at hp;have hN:V.N0<=w.heap.size:=by rw[<-hw]; exact hI.n0
 refine (h G w args hI.env hN hI.gok (zajh.1 hp)).mono ?_;rintro e w' ⟨v,rfl,hb,hr⟩
 refine ⟨grow w.heap.size G w',β,v,(zago hpn v).symm,?_,?_⟩
 ·rw[hos];refine ⟨?_,(fun _ _ h=>by cases h),(fun _ _ _ h=>by cases h),(fun _ _ _ _ _ h=>by cases h),hb.os.trans hI.os,hb.tape.trans hI.tape,hb.output.trans hI.output,Nat.le_trans hI.size hb.size,?_,?_,?_,hI.n0,hI.hh,(fun _ _ _ h=>by cases h),(fun _ _ _ _ h=>by cases h)⟩
  ·intro k o hk;unfold grow at hk;split at hk
   ·rename_i hlt;rw[hb.block k hlt];exact hI.gok k o hk
   ·exact hk
  ·intro k hk hH;have:k<w.heap.size:=by rw[<-hw]; exact hk
   rw[hb.block k this];exact hI.low k hk hH
  ·intro k hk hH;have:k<w.heap.size:=by rw[<-hw]; exact hk
   unfold grow;rw[if_pos this];exact hI.gl k hk hH
  ·exact V.stays w w' hI.env (fun k hk=>hb.block k (Nat.lt_of_lt_of_le hk hN)) hb.size hb.tape hb.os
 ·rw[hot];exact zazv hr
open Go.Shelf Go.Proofs
section
variable {u:Uni} {G:Nat->Option Obj}
theorem zajj {c:TV u.U} {args:List Value} (h:TsRel u G [c] args):∃ v,args=[v]/\TRel u G c v:=by
 cases h with
 |cons _ _ v vs h h'=>cases h'; exact ⟨v,rfl,h⟩
theorem zalc {c d:TV u.U} {args:List Value} (h:TsRel u G [c,d] args):∃ v v',args=[v,v']/\TRel u G c v/\TRel u G d v':=by
 cases h with
 |cons _ _ v vs h h'=>
  obtain ⟨v',rfl,h2⟩:=zajj h';exact ⟨v,v',rfl,h,h2⟩
theorem str_inv {s:List UInt8} {v:Value} (h:TRel u G ⟨.str,s⟩ v):v=.string ⟨s.toArray⟩:=by cases h; rfl
theorem zaos : ∀ {l : List (List UInt8)} {vals : List Value}, TsRel u G (l.map (TV.mk .str)) vals -> vals = l.map fun x => Value.string ⟨x.toArray⟩
 |[],vals=>by intro h; cases h; rfl
 |x::l,vals=>by
  intro h;cases h with
  |cons _ _ v vs h h'=>rw[str_inv h,zaos h']; rfl
theorem zaxl {l:List (List UInt8)} {v:Value} (h:TRel u G ⟨.slc .str,l⟩ v):((∃ p,v=.slice p 0 0)/\l=[]) \/
  ∃ b off cap cur T fz,v=.slice (some ⟨b,off,none⟩) l.length cap/\l.length<=cap/\G b=some (.cells cur T fz)/\∀ (j:Nat) x,l[j]? = some x->cur[off+j]? = some (.string ⟨x.toArray⟩):=by
 cases h with
 |nil=>exact .inl ⟨⟨_,rfl⟩,rfl⟩
 |slc _ _ b off cap cur T fz vals hl hb hv hlaid=>
  refine .inr ⟨b,off,cap,cur,T,fz,rfl,hl,hb,?_⟩;intro j x hx;have hvals:=zaos hv;have h1:vals[j]? = some (.string ⟨x.toArray⟩):=by
   rw[hvals,List.getElem?_map,hx]; rfl
  have h2:=(hlaid j _ h1).2 0 (.string ⟨x.toArray⟩) rfl;simpa [Uni.size] using h2
end
theorem zat9 (w:World) (s:ByteArray) (pos:Nat):Below w.heap.size w (w.iter s pos):=(Below.refl _ _).alloc (qz _) _
section
variable {K:Kit} {V:Env} {ρ:Shelf.Ren}
theorem join_post (L:Lays.n156 K.P ρ) (X:Builder.Extra K.P ρ) (l:List (List UInt8)) (sep:List UInt8) (h1:l.length<=140737488355328) (h2:(Lib.join l sep).length<=140737488355328) :
  zaa6 K V (ρ.f 156) ⟨⟨[0,1],[],[]⟩,[.t (.slc .str),.t .str],[]⟩ [⟨⟨[0],[],[]⟩,[.t .str],[]⟩] [⟨.slc .str,l⟩,⟨.str,sep⟩] 0 [⟨.str,Lib.join l sep⟩]:=by
 refine zac1 rfl rfl rfl rfl rfl ?_;intro G w args _ _ hG ha;obtain ⟨v,v',rfl,hv,hv'⟩:=zalc ha;rw[str_inv hv'];rcases zaxl hv with ⟨⟨p,rfl⟩,rfl⟩|⟨b,off,cap,cur,T,fz,rfl,h3,h4,h5⟩
 ·exact (Any.strings_Join_none L X p 0 ⟨sep.toArray⟩ w).mono fun e w' ⟨he,hw⟩=>⟨_,he,hw▸Below.refl _ _,.str _⟩
 ·have hb:=hG b _ h4;have hm:(l.map fun x=>(⟨x.toArray⟩:ByteArray)).length=l.length:=by simp
  have hj:(l.map fun x=>(⟨x.toArray⟩:ByteArray)).map (·.data.toList)=l:=by
   rw[List.map_map]; exact (List.map_congr_left fun x _=>by simp).trans (List.map_id l)
  have:=Any.strings_Join L X b off cap (l.map fun x=>⟨x.toArray⟩) ⟨sep.toArray⟩ w ?_ (Array.getElem?_eq_some_iff.1 hb).1 (by rw[hm]; exact h1) (by rw[hm]; exact h3) (by rw[hj]; exact h2)
  ·rw[hm,hj] at this;exact this.mono fun e w' ⟨he,hw⟩=>⟨_,he,hw,.str _⟩
  ·intro j x hx;rw[List.getElem?_map,xw] at hx;obtain ⟨y,hy,rfl⟩:=hx;unfold World.cell?;simp only[hb];exact h5 j y hy
theorem contains_post (L:Lays.n144 K.P ρ) (hE:∀ w,V.E w->∃ m,w.cell? ⟨ρ.g 1,0,none⟩=some (.int .i64 m)) (s t:List UInt8) (h1:s.length<4294967281) :
  zaa6 K V (ρ.f 144) ⟨⟨[0,1],[],[]⟩,[.t .str,.t .str],[]⟩ [⟨⟨[0],[],[]⟩,[.t .bool],[]⟩] [⟨.str,s⟩,⟨.str,t⟩] 0 [⟨.bool,Lib.contains s t⟩]:=by
 refine zac1 rfl rfl rfl rfl rfl ?_;intro G w args hV _ hG ha;obtain ⟨v,v',rfl,hv,hv'⟩:=zalc ha;rw[str_inv hv,str_inv hv'];obtain ⟨m,hm⟩:=hE w hV;exact (Any.strings_Contains L ⟨s.toArray⟩ ⟨t.toArray⟩ m w (by simpa [ByteArray.size] using h1) hm).mono fun e w' ⟨he,hw⟩=>⟨_,he,hw▸Below.refl _ _,.bool _⟩
theorem decode_post (L:Lays.n197 K.P ρ) (hE:∀ w,V.E w->Lib.Utf8Tabs (ρ.g 3) (ρ.g 4) w) (s:List UInt8) :
  zaa6 K V (ρ.f 197) ⟨⟨[0],[],[]⟩,[.t .str],[]⟩ [⟨⟨[0,1],[],[]⟩,[.t (.int .i32),.t (.int .i64)],[]⟩] [⟨.str,s⟩] 0 [⟨.int .i32,((Lib.decodeGo ⟨s.toArray⟩).1:Int)⟩,⟨.int .i64,((Lib.decodeGo ⟨s.toArray⟩).2:Int)⟩]:=by
 refine zac1 rfl rfl rfl rfl rfl ?_;intro G w args hV _ hG ha;obtain ⟨v,rfl,hv⟩:=zajj ha;rw[str_inv hv];exact (Any.utf8_DecodeRuneInString L ⟨s.toArray⟩ w (hE w hV)).mono fun e w' ⟨he,hw⟩=>⟨_,he,hw,_,rfl,.cons _ _ _ _ (.int _ _) (.cons _ _ _ _ (.int _ _) .nil)⟩
theorem runeCount_post (L:Lays.n195 K.P ρ) (s:List UInt8) (h1:s.length<9223372036854775807) :
  zaa6 K V (ρ.f 195) ⟨⟨[0],[],[]⟩,[.t .str],[]⟩ [⟨⟨[0],[],[]⟩,[.t (.int .i64)],[]⟩] [⟨.str,s⟩] 0 [⟨.int .i64,((Lib.runeCount ⟨s.toArray⟩:Nat):Int)⟩]:=by
 refine zac1 rfl rfl rfl rfl rfl ?_;intro G w args hV _ hG ha;obtain ⟨v,rfl,hv⟩:=zajj ha;rw[str_inv hv];exact (Any.utf8_RuneCountInString L ⟨s.toArray⟩ w (by simpa [ByteArray.size] using h1)).mono fun e w' ⟨he,pos,hw⟩=>⟨_,he,hw▸zat9 _ _ _,.int _ _⟩
theorem trim_post (L : Lays.n160 K.P ρ) (h116 : (K.P.info? (ρ.t 116)).map (fun i => (i.zero, i.size)) = some (some (.agg (Array.replicate 256 (.bool false))), 256)) (s c : List UInt8) (h1 : s.length <= 9223372036854775807) (h2 : c.length < 4294967281)
  (h3:c.all (fun b=>decide (b.toNat<128))=true) :
  zaa6 K V (ρ.f 160) ⟨⟨[0,1],[],[]⟩,[.t .str,.t .str],[]⟩ [⟨⟨[0],[],[]⟩,[.t .str],[]⟩] [⟨.str,s⟩,⟨.str,c⟩] 0 [⟨.str,Lib.trimS s c⟩]:=by
 refine zac1 rfl rfl rfl rfl rfl ?_;intro G w args hV _ hG ha;obtain ⟨v,v',rfl,hv,hv'⟩:=zalc ha;rw[str_inv hv,str_inv hv'];exact (Any.strings_Trim_laid L h116 ⟨s.toArray⟩ ⟨c.toArray⟩ w (by simpa [ByteArray.size] using h1) (by simpa [ByteArray.size] using h2) (fun j b hj=>ascii_of_all h3 j b hj)).mono fun e w' ⟨he,hw⟩=>⟨_,he,hw,.str _⟩
theorem atoi_post (L:LaysC.n172 K.P ρ) (hE:∀ w,V.E w->∃ a b,(w.cell? ⟨ρ.g 15,0,none⟩=some a/\(a=.nilIface\/∃ te pe,a=.iface te pe))/\(w.cell? ⟨ρ.g 16,0,none⟩=some b/\(b=.nilIface\/∃ te pe,b=.iface te pe)))
  (s:List UInt8) (h1:s.length<=281474976710656) :
  zaa6 K V (ρ.f 172) ⟨⟨[0],[],[]⟩,[.t .str],[]⟩ [⟨⟨[0,1],[],[]⟩,[.t (.int .i64),.t .err],[]⟩] [⟨.str,s⟩] 0 [⟨.int .i64,(zaa9 s).1⟩,⟨.err,(zaa9 s).2⟩]:=by
 refine zac1 rfl rfl rfl rfl rfl ?_;intro G w args hV _ hG ha;obtain ⟨v,rfl,hv⟩:=zajj ha;rw[str_inv hv];obtain ⟨a,b,⟨ha1,ha2⟩,hb1,hb2⟩:=hE w hV;have hsz:(⟨s.toArray⟩:ByteArray).size<=281474976710656:=by simpa [ByteArray.size] using h1
 unfold zaa9;cases hc:Lib.atoiAll s
 ·rename_i v;refine (Any.strconv_Atoi_ok L ⟨s.toArray⟩ (by omega) v hc w).mono fun e w' ⟨he,hw⟩=>⟨_,he,?_,_,rfl,.cons _ _ _ _ (.int _ _) (.cons _ _ _ _ .noErr .nil)⟩
  rcases hw with rfl|⟨t,rfl⟩
  ·exact Below.refl _ _
  ·exact Go.Joins.below_bytesWorld _ _ _ _ (qz _)
 ·exact (Any.strconv_Atoi_syntax L ⟨s.toArray⟩ hsz hc a w ha1 ha2).mono fun e w' ⟨N,he,_,_,hw⟩=>⟨_,he,hw,_,rfl,.cons _ _ _ _ (.int _ _) (.cons _ _ _ _ (.anErr _ _) .nil)⟩
 ·exact (Any.strconv_Atoi_range L ⟨s.toArray⟩ hsz hc b w hb1 hb2).mono fun e w' ⟨N,he,_,_,hw⟩=>⟨_,he,hw,_,rfl,.cons _ _ _ _ (.int _ _) (.cons _ _ _ _ (.anErr _ _) .nil)⟩
end
section
variable {K:Kit} {V:Env} {ρ:Shelf.Ren}
theorem Inv.empty {B:Base} {G:Nat->Option Obj} {S:Nat->Option (Ob K.u.U)} {β:Nat->Gh} {w w':World} {row:Option Nat} (hI:Inv K V B G S β w) (hg:w.grownBy w' row)
  (hrow:∀ k,row=some k->∃ id ob,S id=some ob/\ob.live=true/\ob.has (β id) k):Inv K V B G (look []) β w':=by
 have hn:∀ k,row=some k->G k=none/\(B.w0.heap.size<=k\/B.H k):=fun k hk=>by
  obtain ⟨id,ob,a,b,c⟩:=hrow k hk;exact hI.own id ob k a b c
 have hlow:∀ k,k<B.w0.heap.size->¬ B.H k->w'.heap[k]? = w.heap[k]? := fun k hk h=>
  hg.block k (Nat.lt_of_lt_of_le hk hI.size) (fun e=>by
   rcases (hn k e.symm).2 with h'|h'
   ·omega
   ·exact h h')
 refine ⟨fun k o hk => ?_, (fun _ _ h => by cases h), (fun _ _ _ h => by cases h), (fun _ _ _ _ _ h => by cases h), hg.os.trans hI.os, hg.tape.trans hI.tape, hg.output.trans hI.output, Nat.le_trans hI.size hg.size,
  fun k hk h=>(hlow k hk h).trans (hI.low k hk h),hI.gl,hI.env' hlow hg.size hg.tape hg.os,hI.n0,hI.hh,(fun _ _ _ h=>by cases h),(fun _ _ _ _ h=>by cases h)⟩
 have h1:=hI.gok k o hk;rw[hg.block k (Array.getElem?_eq_some_iff.1 h1).1 (fun e=>by rw[(hn k e.symm).1] at hk; cases hk)];exact h1
theorem zals : ∀ (l : List Int), (∀ n ∈ l, 0 <= n /\ n < 256) -> l.map (Value.int .u8) = Lib.byteCells (bytesOf l)
 |[],_=>rfl
 |n::l,h=>by
  have h1:=h n (by simp);have ih:=zals l (fun m hm=>h m (by simp[hm]));unfold Lib.byteCells bytesOf at ih ⊢;simp only[xn,ih,xh,and_true];congr 1;have:(UInt8.ofNat n.toNat).toNat=n.toNat:=by rw[UInt8.toNat_ofNat']; omega
  rw[this];omega
theorem zaop {w:World} {g n:Nat}:w.grownBy (w.freeze ⟨g,0,none⟩ n) (some g):=by
 unfold World.freeze;split
 ·exact ⟨rfl,rfl,rfl,qz _,fun _ _ _=>rfl⟩
 ·refine ⟨rfl,rfl,rfl,by simp,fun k hk hne=>?_⟩;simp only[Array.getElem?_modify];split
  ·rename_i e; exact absurd (congrArg some e.symm) hne
  ·rfl
end
open Lift.Fn
section
variable {K:Kit} {V:Env} {ρ:Shelf.Ren}
end
end Lift
namespace Lift
open Go Go.RowKit Go.Proofs
section
variable {K:Kit} {V:Env} {ρ:Shelf.Ren}
theorem itoaW_post (L : LaysM.n171 K.P ρ) (hT : ∀ w, V.E w → Lib.TabIs K.P w "internal/strconv.uint64pow10" .u64 Lib.pow10Tab) (n : Int) (h : -9223372036854775808 ≤ n ∧ n ≤ 9223372036854775807) :
  zaa6 K V (ρ.f 171) ⟨⟨[0],[],[]⟩,[.t (.int .i64)],[]⟩ [⟨⟨[0],[],[]⟩,[.t .str],[]⟩] [⟨.int .i64,n⟩] 0 [⟨.str,Lib.itoa n⟩]:=by
 refine zac1 rfl rfl rfl rfl rfl ?_;intro G w args hE _ hG ha;obtain ⟨v,rfl,hv⟩:=zajj ha;rw[hv.int_inv];refine (Any.strconv_Itoa L n h.1 h.2 w (hT w hE)).mono ?_;rintro e w' ⟨rfl,k,os,rfl⟩
 exact ⟨_,rfl,Lib.below_grow _ _ (qz _) _ _,.str _⟩
theorem zayu {P:Program} {w w':World} {name:String} {k:IntKind} {zs:List Int} {g n:Nat} (hg:P.globalNamed name=some g) (hn:g<n) (hs:∀ k,k<n->w'.heap[k]? = w.heap[k]?) (h:Lib.TabIs P w name k zs):Lib.TabIs P w' name k zs:=by
 unfold Lib.TabIs World.var? at *;rw[hg,qa] at h ⊢;rw[hs g hn];exact h
theorem zaww {P:Program} {W:World} {name:String} {k:IntKind} {zs:List Int} {l:List (String×DataW Unit)} {g:Nat} {t e:TypeId} {n:Nat}
  (hg:P.globalNamed name=some g) (hty:(P.globals[g]?).map (·.type)=some t) (ht:P.underlying t=some (.array n e)) (he:P.underlying e=some (.int k)) (hce:P.cellsOf e=1) (hct:P.cellsOf t=n)
  (h:Lib.VarReads P W name (Lib.tabData k zs)):Lib.TabIs P W name k zs:=by
 obtain ⟨g',t',cs,fuel,p,hg',ht',hvar,hd⟩:=h;obtain rfl:=Option.some.inj (hg.symm.trans hg');obtain rfl:=Option.some.inj (hty.symm.trans ht');unfold Lib.TabIs;rw[hvar,<-Lib.cells_of_tab ht he hce hct hd]
end
open Go.Shelf
def wrtSh (T E:TypeId) (ty:Ty):StSh:=⟨⟨[0],[100000],[⟨.cell 100000 1,200001,E,.int .u8⟩]⟩,[.ptr 100000 0],[.blk T [.selfp 100000,.oslc 200001,.t ty],.row E (.int .u8)]⟩
def za1b (T E:TypeId) (ty:Ty):StSh:=⟨⟨[],[100000],[⟨.cell 100000 1,200001,E,.int .u8⟩]⟩,[],[.blk T [.selfp 100000,.oslc 200001,.t ty],.row E (.int .u8)]⟩
section
variable {K:Kit} {V:Env} {ρ:Shelf.Ren}
abbrev wrtSt (K:Kit) (T E:TypeId) (x:TV K.u.U) (l:List Int):List (Nat×Ob K.u.U):=[(100000,.blk T [.selfp 100000,.oslc 200001 0,.t x]),(200001,.row E 0 (.int .u8) l)]
theorem zatu {B:Base} {G:Nat->Option Obj} {β:Nat->Gh} {w:World} {T E:TypeId} {x:TV K.u.U} {l:List Int} {args:List Value} (hI:Inv K V B G (look (wrtSt K T E x l)) β w)
  (hp:PsRel K G (look (wrtSt K T E x l)) β [.ptr 100000 0] args):∃ b p q r,args=[.pointer (some ⟨b,0,none⟩)]/\(β 100000).v=.pointer (some ⟨b,0,none⟩)/\w.heap[b]? = some (.cells #[p,q,r] T (0,0)) /\
   (p=.pointer none\/p=.pointer (some ⟨b,0,none⟩))/\q=(β 200001).v/\p.oneCell'=true/\q.oneCell'=true/\r.oneCell'=true/\TRel K.u G x r:=by
 obtain ⟨v,r,rfl,hv,hr⟩:=hp;cases hr;obtain ⟨b,vs,hb1,hb2,hb3,hb4⟩:=hI.obs 100000 _ zabq;obtain ⟨p,r,rfl,h1,q,r',rfl,h2,z,r'',rfl,h3,rfl⟩:=hb3;simp only[PRel] at hv h1 h2 h3;obtain ⟨_,ob,h5,h4⟩:=hv;rw[zabq] at h5;cases h5;have hv':=h4 rfl;rw[hb1] at hv';simp only[zabk,Nat.add_zero] at hv';refine ⟨b,p,q,z,by rw[hv'],hb1,hb2,?_,?_,hb4 p (by simp),hb4 q (by simp),hb4 z (by simp),h3⟩
 ·rcases h1.2 with h|⟨ob,h5,h6⟩
  ·exact .inl h
  ·rw[zabq] at h5;cases h5;right;rw[h6 rfl,hb1];rfl
 ·obtain ⟨_,ob,h5,_,h6⟩:=h2;have h7:look (wrtSt K T E x l) 200001=some (.row E 0 (.int .u8) l):=rfl;rw[h7] at h5;cases h5;exact h6 _ zabc
set_option maxHeartbeats 1000000 in
set_option maxRecDepth 100000 in
theorem zamo {P:Program} (L:Lays.n240 P ρ) (X:Builder.X72 P ρ) (b:Nat) (w:World) {T:TypeId} {n:Nat} (h0:w.cell? ⟨b,0,none⟩=some (.pointer none)) (hsh:w.shape? b=some (T,n+1)) (hfz:w.frozen? ⟨b,0,none⟩=false)
  (hlies:liesAt P P.depth T ((n+1) / P.cellsOf T) 0 (ρ.t 72) 1=true) :
  Calls P (ρ.f 240) #[.pointer (some ⟨b,0,none⟩)] w fun e w'=>e=.returned (.tuple #[])/\w'=w.setCell ⟨b,0,none⟩ (.pointer (some ⟨b,0,none⟩)):=by
 obtain ⟨j,hj,hjs⟩:=xw.1 X.sizeBuilder;have mixed:=L.mixed;have t72:=L.t72; have a72:=L.a72; have z72:=L.z72; have v72:=L.v72; have u72:=run_underlying L.t72;have t70:=L.t70; have a70:=L.a70; have z70:=L.z70; have v70:=L.v70; have u70:=run_underlying L.t70;have t9:=L.t9; have a9:=L.a9; have z9:=L.z9; have v9:=L.v9; have u9:=run_underlying L.t9;have t4:=L.t4; have a4:=L.a4; have z4:=L.z4; have v4:=L.v4; have u4:=run_underlying L.t4;have t164:=L.t164; have a164:=L.a164; have z164:=L.z164; have v164:=L.v164; have u164:=run_underlying L.t164;go_enter L.f240,Body.n240_ntmps ρ
 go_wp2
 rw[Lib.run_to_unsafe w ⟨b,0,none⟩ L.t70 L.t164 hj (by rw[hjs]; decide) hsh (Nat.zero_lt_succ n)];simp only[Result.andThen];rw[Oper.upon_value];go_wp2
 rw[run_callFunc_extern L.f276 (by kernel_rfl) (by kernel_rfl) (by kernel_rfl) (e:=Extern.AbiNoEscape.same) (by kernel_rfl)];rw[Lib.run_noEscape];simp only[Result.andThen];rw[Oper.upon_value];go_wp2
 rw[Lib.run_from_unsafe w ⟨b,0,none⟩ L.t164 L.t70 hj hsh hlies];simp only[Result.andThen];rw[Oper.upon_value];go_wp2
 go_end0
 exact ⟨rfl,rfl⟩
theorem zam4 (L:Lays.n240 K.P ρ) (X:Builder.X72 K.P ρ) (T E:TypeId) (hlies:liesAt K.P K.P.depth T (3 / K.P.cellsOf T) 0 (ρ.t 72) 1=true) (ty:Ty) (x:TV K.u.U) (l:List Int) :
  zaa6 K V (ρ.f 240) (wrtSh T E ty) [za1b T E ty] [x,⟨.slc (.int .u8),l⟩] 0 [x,⟨.slc (.int .u8),l⟩]:=by
 intro B G β w args o ho hw hI hp;cases ho;change Inv K V B G (look (wrtSt K T E x l)) β w at hI
 change PsRel K G (look (wrtSt K T E x l)) β [.ptr 100000 0] args at hp
 obtain ⟨b,p,q,r,rfl,hb1,hb2,hpp,hq,hp1,hq1,hr1,hr⟩:=zatu hI hp;change Calls K.P (ρ.f 240) #[.pointer (some ⟨b,0,none⟩)] w fun e w'=>∃ G' β' v,e=.returned v/\Inv K V B G' (look (wrtSt K T E x l)) β' w'/\ResPV K G' (look (wrtSt K T E x l)) β' [] v
 have hcell:w.cell? ⟨b,0,none⟩=some p:=by rw[zadb hb2]; rfl
 rcases hpp with rfl|rfl
 ·refine (zamo L X b w (T:=T) (n:=2) hcell (by simp[World.shape?,hb2]) (by simp[World.frozen?,hb2]) hlies).mono ?_;rintro e w' ⟨rfl,rfl⟩
  refine ⟨G,β,_,rfl,?_,⟨[],rfl,rfl⟩⟩;have hS:look ((100000,.blk T [.selfp 100000,.oslc 200001 0,.t x])::wrtSt K T E x l)=look (wrtSt K T E x l):=by
   funext i;rw[zaaf];by_cases e:i=100000
   ·subst e; simp[zabq]
   ·simp[e]
  have hβ:upd β 100000 (β 100000)=β:=by
   funext i;unfold upd;split
   ·rename_i e; rw[e]
   ·rfl
  have hset:w.setCell ⟨b,0,none⟩ (.pointer (some ⟨b,0,none⟩))=w.setRow b #[.pointer (some ⟨b,0,none⟩),q,r]:=by
   rw[setCell_eq_setRow w b 0 _ _ _ _ hb2]; rfl
  rw[hset]
  have:=hI.one (id:=100000) (ob':=.blk T [.selfp 100000,.oslc 200001 0,.t x]) (v':=β 100000) (row:=some b) zad7
   (fun k hk=>⟨_,zabq,rfl,.inl (by cases hk; simp[hb1,blkOf])⟩) (fun _ b' hb'=>.inl ⟨_,zabq,rfl,hb'⟩)
   (by rw[hS,hβ]; exact Comp.refl) (fun _=>⟨_,zabq⟩)
   (by
    rw[hS,hβ];refine ⟨b,[.pointer (some ⟨b,0,none⟩),q,r],hb1,setRow_heap w b _ _ _ _ hb2,?_,?_⟩
    ·refine ⟨_,_,rfl,?_,_,_,rfl,?_,_,_,rfl,?_,rfl⟩
     ·simp only[PRel];exact ⟨rfl,.inr ⟨_,zabq,fun _=>by rw[hb1]; rfl⟩⟩
     ·simp only[PRel];exact ⟨hq1,_,rfl,qz _,fun _ _=>hq⟩
     ·simp only[PRel];exact hr
    ·intro y hy;simp only[List.mem_cons,List.not_mem_nil,or_false] at hy;rcases hy with rfl|rfl|rfl
     ·rfl
     ·exact hq1
     ·exact hr1)
  rw[hS,hβ] at this;exact this
 ·refine (Any.Builder_copyCheck_used L X b w hcell).mono ?_;rintro e w' ⟨rfl,rfl⟩
  exact ⟨G,β,_,rfl,hI,⟨[],rfl,rfl⟩⟩
set_option maxHeartbeats 2000000 in
set_option maxRecDepth 100000 in
theorem zaq3 {P:Program} (L:Lays.n169 P ρ) (X:Builder.Extra P ρ) (b:Nat) (p v r:Value) {T:TypeId} (l:List UInt8) (w:World) (hbk:w.heap[b]? = some (.cells #[p,v,r] T (0,0)))
  (hown:w.ownsZ 0 (ρ.t 5) 1 v l.length (Lib.byteCells l)) :
  Calls P (ρ.f 169) #[.pointer (some ⟨b,0,none⟩)] w fun e w'=>e=.returned (.string ⟨l.toArray⟩)/\(w'=w.drew\/(∃ o,w'=w.drew.alloc o\/w'=(w.alloc o).drew)\/∃ g,v.ownBlock=some g/\w'=w.drew.freeze ⟨g,0,none⟩ l.length):=by
 have hlt:b<w.heap.size:=(Array.getElem?_eq_some_iff.1 hbk).1;have mixed:=L.mixed;have t72:=L.t72; have a72:=L.a72; have z72:=L.z72; have v72:=L.v72; have u72:=run_underlying L.t72;have t70:=L.t70; have a70:=L.a70; have z70:=L.z70; have v70:=L.v70; have u70:=run_underlying L.t70;have t37:=L.t37; have a37:=L.a37; have z37:=L.z37; have v37:=L.v37; have u37:=run_underlying L.t37;have t127:=L.t127; have a127:=L.a127; have z127:=L.z127; have v127:=L.v127; have u127:=run_underlying L.t127;have t3:=L.t3; have a3:=L.a3; have z3:=L.z3; have v3:=L.v3; have u3:=run_underlying L.t3;have t9:=L.t9; have a9:=L.a9; have z9:=L.z9; have v9:=L.v9; have u9:=run_underlying L.t9;have t5:=X.t5; have a5:=X.a5; have z5:=X.z5; have v5:=X.v5; have u5:=run_underlying X.t5;rcases hown.2 with ⟨rfl,hz⟩|⟨g,cap,cur,fz,rfl,hfz,hg,hnc,hcm,hcs,htake⟩
 ·have hl:l=[]:=qt hz;subst hl;have hUS:=Any.unsafeString_none L X;have c1:w.drew.cell? ⟨b,1,none⟩=some (.slice none 0 0):=by
   have:w.drew.heap[b]? = some (.cells #[p,.slice none 0 0,r] T (0,0)):=hbk;rw[Lib.cell_of_heap this]; rfl
  have hSD:(Builtin.unsafeSliceData_ #[(ρ.t 37)] (ρ.t 127) #[.slice none 0 0]).run P w.drew=.ok (.pointer none) w.drew:=rfl;go_enter L.f169,Body.n169_ntmps ρ
  go_wp2
  go_region_o
  all_goals (go_wp2; go_ret; exact ⟨rfl,.inl rfl⟩)
 ·by_cases hl:l=[]
  ·subst hl;have hUS:=Any.unsafeString_none L X;by_cases hc0:cap=0
   ·subst hc0;have c1:w.drew.cell? ⟨b,1,none⟩=some (.slice (some ⟨g,0,none⟩) 0 0):=by
     have:w.drew.heap[b]? = some (.cells #[p,.slice (some ⟨g,0,none⟩) 0 0,r] T (0,0)):=hbk;rw[Lib.cell_of_heap this]; rfl
    have hSD:(Builtin.unsafeSliceData_ #[(ρ.t 37)] (ρ.t 127) #[.slice (some ⟨g,0,none⟩) 0 0]).run P w.drew=.ok (.pointer (some ⟨w.drew.heap.size,0,none⟩)) (w.drew.alloc (.view ⟨g,0,none⟩ (ρ.t 5))):=
     Lib.run_unsafeSliceData_zero w.drew _ _ (ρ.t 5) L.t127 ⟨g,0,none⟩ 0 ((ρ.t 5),cur.size) (by have hg':w.drew.heap[g]? = some (.cells cur (ρ.t 5) fz):=hg; simp[World.shape?,hg'])
    have c2:(w.drew.alloc (.view ⟨g,0,none⟩ (ρ.t 5))).cell? ⟨b,1,none⟩=some (.slice (some ⟨g,0,none⟩) 0 0):=by
     have:(w.drew.alloc (.view ⟨g,0,none⟩ (ρ.t 5))).heap[b]? = _:=(Lib.alloc_old w.drew _ b hlt).trans hbk;rw[Lib.cell_of_heap this]; rfl
    have c3:(w.alloc (.view ⟨g,0,none⟩ (ρ.t 5))).drew.cell? ⟨b,1,none⟩=some (.slice (some ⟨g,0,none⟩) 0 0):=c2;have c0:w.cell? ⟨b,1,none⟩=some (.slice (some ⟨g,0,none⟩) 0 0):=c1;go_enter L.f169,Body.n169_ntmps ρ
    go_wp2
    go_region_o
    all_goals (go_wp2; go_ret; exact ⟨rfl,.inr (.inl ⟨_,by first|exact .inl rfl|exact .inr rfl⟩)⟩)
   ·have c1:w.drew.cell? ⟨b,1,none⟩=some (.slice (some ⟨g,0,none⟩) 0 cap):=by
     have:w.drew.heap[b]? = some (.cells #[p,.slice (some ⟨g,0,none⟩) 0 cap,r] T (0,0)):=hbk;rw[Lib.cell_of_heap this]; rfl
    have hSD:(Builtin.unsafeSliceData_ #[(ρ.t 37)] (ρ.t 127) #[.slice (some ⟨g,0,none⟩) 0 cap]).run P w.drew=.ok (.pointer (some ⟨g,0,none⟩)) w.drew:=
     Lib.run_unsafeSliceData_row _ _ _ _ _ _ hc0
    clear hc0;go_enter L.f169,Body.n169_ntmps ρ
    go_wp2
    go_region_o
    all_goals (go_wp2; go_ret; exact ⟨rfl,.inl rfl⟩)
  ·have hl0:l.length≠0:=by simpa using hl
   have c1:w.drew.cell? ⟨b,1,none⟩=some (.slice (some ⟨g,0,none⟩) l.length cap):=by
    have:w.drew.heap[b]? = some (.cells #[p,.slice (some ⟨g,0,none⟩) l.length cap,r] T (0,0)):=hbk;rw[Lib.cell_of_heap this]; rfl
   have hSD:(Builtin.unsafeSliceData_ #[(ρ.t 37)] (ρ.t 127) #[.slice (some ⟨g,0,none⟩) l.length cap]).run P w.drew=.ok (.pointer (some ⟨g,0,none⟩)) w.drew:=
    Lib.run_unsafeSliceData_row _ _ _ _ _ _ (by omega)
   have hUS:(Builtin.unsafeString_ #[(ρ.t 127),(ρ.t 3)] (ρ.t 9) #[.pointer (some ⟨g,0,none⟩),.int .i64 l.length]).run P w.drew=.ok (.string ⟨l.toArray⟩) (w.drew.freeze ⟨g,0,none⟩ l.length):=by
    refine Lib.run_unsafeString_row w.drew (ρ.t 127) (ρ.t 3) (ρ.t 9) (ρ.t 5) L.t127 X.cellsByte g cur.size (by have hg':w.drew.heap[g]? = some (.cells cur (ρ.t 5) fz):=hg; simp[World.shape?,hg']) l hl (by omega) (by unfold maxLen at hcm; omega) ?_;intro j x hx;have:=hown.cells (g:=g) rfl j (.int .u8 x.toNat) (by simp[Lib.byteCells,hx]);exact this
   clear hown hfz hg hnc hcm hcs htake;go_enter L.f169,Body.n169_ntmps ρ
   go_wp2
   go_region_o
   all_goals (go_wp2; go_ret; exact ⟨rfl,.inr (.inr ⟨g,rfl,rfl⟩)⟩)
theorem zapo (L:Lays.n169 K.P ρ) (X:Builder.Extra K.P ρ) (T:TypeId) (ty:Ty) (x:TV K.u.U) (l:List Int) (h:∀ n∈l,0<=n/\n<256) :
  zaa6 K V (ρ.f 169) (wrtSh T (ρ.t 5) ty) [⟨⟨[0],[],[]⟩,[.t .str],[]⟩] [x,⟨.slc (.int .u8),l⟩] 0 [⟨.str,bytesOf l⟩]:=by
 intro B G β w args o ho hw hI hp;cases ho;change Inv K V B G (look (wrtSt K T (ρ.t 5) x l)) β w at hI
 change PsRel K G (look (wrtSt K T (ρ.t 5) x l)) β [.ptr 100000 0] args at hp
 obtain ⟨b,p,q,r,rfl,hb1,hb2,hpp,hq,hp1,hq1,hr1,hr⟩:=zatu hI hp;change Calls K.P (ρ.f 169) #[.pointer (some ⟨b,0,none⟩)] w fun e w'=>∃ G' β' v,e=.returned v/\Inv K V B G' (look []) β' w'/\ResPV K G' (look []) β' [.t ⟨.str,bytesOf l⟩] v
 have hl2:look (wrtSt K T (ρ.t 5) x l) 200001=some (.row (ρ.t 5) 0 (.int .u8) l):=rfl;obtain ⟨_,vals,hT,hown⟩:=zaq8 rfl (hI.obs 200001 _ hl2);have hf:=zaic hT;rw[hf,zals l h] at hown;have hlen:(bytesOf l).length=l.length:=by simp[bytesOf]
 rw[<-hlen,<-hq] at hown;have hsz:K.u.size (.int .u8)=1:=rfl;rw[hsz] at hown;have hvb:blkOf q=q.ownBlock:=zaff hown;refine (zaq3 L X b p q r (bytesOf l) w hb2 hown).mono ?_;rintro e w' ⟨rfl,hw'⟩
 refine ⟨G,β,_,rfl,?_,?_⟩
 ·rcases hw' with rfl|⟨o,rfl|rfl⟩|⟨g,hg,rfl⟩
  ·exact hI.empty (row:=none) ⟨rfl,rfl,rfl,qz _,fun _ _ _=>rfl⟩ (fun _ hk=>by cases hk)
  ·exact hI.empty (row:=none) ⟨rfl,rfl,rfl,by simp,fun k hk _=>heap_alloc_old w.drew _ hk⟩ (fun _ hk=>by cases hk)
  ·exact hI.empty (row:=none) ⟨rfl,rfl,rfl,by simp,fun k hk _=>heap_alloc_old w _ hk⟩ (fun _ hk=>by cases hk)
  ·have hgr:=zaop (w:=w.drew) (g:=g) (n:=(bytesOf l).length);refine hI.empty (row:=some g) ⟨hgr.os,hgr.tape,hgr.output,hgr.size,hgr.block⟩ (fun k hk=>?_);cases hk;exact ⟨200001,_,hl2,rfl,.inl (by rw[<-hq,hvb]; exact hg)⟩
 ·exact .str _
theorem repeat_post (L:Lays.n105 K.P ρ) (X:Builder.Extra K.P ρ) (s:List UInt8) (n:Int) (h:0<=n/\n<=9223372036854775807) (hl:s.length*n.toNat<=140737488355328) :
  zaa6 K V (ρ.f 105) ⟨⟨[0,1],[],[]⟩,[.t .str,.t (.int .i64)],[]⟩ [⟨⟨[0],[],[]⟩,[.t .str],[]⟩] [⟨.str,s⟩,⟨.int .i64,n⟩] 0 [⟨.str,Lib.repeatL s n.toNat⟩]:=by
 refine zac1 rfl rfl rfl rfl rfl ?_;intro G w args hE _ hG ha;obtain ⟨v,v',rfl,hv,hv'⟩:=zalc ha;rw[hv.str_inv,hv'.int_inv];have hn:n=((n.toNat:Nat):Int):=by omega
 rw[hn];refine (Any.strings_Repeat L X ⟨s.toArray⟩ n.toNat w (by omega) (by simpa [ByteArray.size] using hl)).mono ?_;rintro e w' ⟨rfl,hw⟩
 exact ⟨_,rfl,hw,.str _⟩
end
end Lift
namespace Lift
open Go Go.RowKit
theorem zauj {K : Kit} {V : Env} {β : Nat -> Gh} {w : World} (hE : V.E w) (hN : V.N0 <= w.heap.size) : Inv K V ⟨w, fun k => w.heap[k]?, fun _ => False, fun _ => undef, []⟩ (fun k => w.heap[k]?) (look ([] : List (Nat × Ob K.u.U))) β w where
 gok:=fun _ _ h=>h
 obs:=fun _ _ h=>by cases h
 own:=fun _ _ _ h=>by cases h
 inj:=fun _ _ _ _ _ h=>by cases h
 os:=rfl
 tape:=rfl
 output:=rfl
 size:=qz _
 low:=fun _ _ _=>rfl
 gl:=fun _ _ _=>rfl
 env:=hE
 n0:=hN
 hh:=fun _ h=>h.elim
 pin:=fun _ _ _ h=>by cases h
 pinr:=fun _ _ _ _ h=>by cases h
theorem bool_of_postV {K:Kit} {V:Env} {f:FuncId} {sh:StSh} {os:List StSh} {ls:List (TV K.u.U)} {b:Bool} {o:StSh} {args:List Value} {w:World} (hE:V.E w) (hN:V.N0<=w.heap.size)
  (h:zaa6 K V f sh os ls 0 [⟨.bool,b⟩]) (ho:os[0]? = some o) (hr:(o.fill ([⟨.bool,b⟩]:List (TV K.u.U))).tm.map (·.2)=[.t ⟨.bool,b⟩]) (hs:(sh.fill ls).st=[])
  (ha:PsRel K (fun k=>w.heap[k]?) (look ([]:List (Nat×Ob K.u.U))) (fun _=>Gh.of undef) ((sh.fill ls).tm.map (·.2)) args) (hpn:o.isPan=false:=by rfl) :
  Calls K.P f args.toArray w fun e w'=>e=.returned (.bool b)/\Below w.heap.size w w':=by
 refine (h ⟨w,fun k=>w.heap[k]?,fun _=>False,fun _=>undef,[]⟩ (fun k=>w.heap[k]?) (fun _=>Gh.of undef) w args o ho rfl ?_ ?_).mono ?_
 ·rw[hs]; exact zauj hE hN
 ·rw[hs]; exact ha
 ·rintro e w' ⟨G',β',v,rfl,hI,hv⟩
  rw[hr] at hv;have hv':TRel K.u G' ⟨.bool,b⟩ v:=by
   unfold ResPV PRel at hv;exact hv
  refine ⟨?_,hI.os,hI.tape,hI.output,hI.size,fun k hk=>hI.low k hk (fun hh=>hh)⟩;rw[hv'.bool_inv,zago hpn]
section
variable (K:Kit)
def zagl (Ts:List TypeId):List Field->Nat->List Ty->Bool
 |[],_,ts=>ts.isEmpty
 |f::fs,off,ts=>match K.tyOf f.type with
  |some t=>Ts.contains f.type&&Nat.beq f.offset off&&Nat.beq (K.P.cellsOf f.type) (K.u.ctysOf t).length&&decide (ts.take (K.u.ctysOf t).length=K.u.ctysOf t)&&zagl Ts fs (off+(K.u.ctysOf t).length) (ts.drop (K.u.ctysOf t).length)
  |none=>false
def tyFits (Ts:List TypeId) (wt:Ty->Nat) (T:TypeId):Bool:=
 match K.tyOf T,K.P.underlying T with
 |some (.int k),some (.int k')=>decide (k=k')&&Nat.beq (K.P.cellsOf T) 1
 |some .bool,some .bool=>Nat.beq (K.P.cellsOf T) 1
 |some .str,some .string=>Nat.beq (K.P.cellsOf T) 1
 |some (.slc e),some (.slice E)=>decide (K.tyOf E=some e)&&Ts.contains E&&Nat.beq (K.P.cellsOf T) 1&&Nat.beq (K.P.cellsOf E) (K.u.size e)&&Nat.blt 0 (K.u.size e)&&Nat.ble (wt e) (K.P.bytesOf E)
 |some (.st n),some (.struct fs)=>Nat.beq (K.P.cellsOf T) (K.u.ctys n).length&&zagl K Ts fs.toList 0 (K.u.ctys n)
 |_,_=>false
end
mutual
inductive Sized (u:Uni):TV u.U->Nat->Prop
 |int (k:IntKind) (n:Int) (N:Nat):Sized u ⟨.int k,n⟩ N
 |bool (b:Bool) (N:Nat):Sized u ⟨.bool,b⟩ N
 |str (s:List UInt8) (N:Nat):s.length<=N->Sized u ⟨.str,s⟩ N
 |slc (e:Ty) (l:List (e.den u.U)) (N:Nat):SizedL u (l.map (TV.mk e)) N->Sized u ⟨.slc e,l⟩ N
 |st (n:Nat) (x:u.U n) (N:Nat):SizedL u (u.cells n x) N->Sized u ⟨.st n,x⟩ N
inductive SizedL (u:Uni):List (TV u.U)->Nat->Prop
 |nil (N:Nat):SizedL u [] N
 |cons (c:TV u.U) (cs:List (TV u.U)) (a b N:Nat):Sized u c a->SizedL u cs b->a+b+1<=N->SizedL u (c::cs) N
end
mutual
inductive Reach (u:Uni) (wt:Ty->Nat) (R:Nat):TV u.U->Prop
 |int (k:IntKind) (n:Int):Reach u wt R ⟨.int k,n⟩
 |bool (b:Bool):Reach u wt R ⟨.bool,b⟩
 |str (s:List UInt8):s.length<=R->Reach u wt R ⟨.str,s⟩
 |slc (e:Ty) (l:List (e.den u.U)):l.length*wt e<=R->ReachL u wt R (l.map (TV.mk e))->Reach u wt R ⟨.slc e,l⟩
 |st (n:Nat) (x:u.U n):ReachL u wt R (u.cells n x)->Reach u wt R ⟨.st n,x⟩
inductive ReachL (u:Uni) (wt:Ty->Nat) (R:Nat):List (TV u.U)->Prop
 |nil:ReachL u wt R []
 |cons (c:TV u.U) (cs:List (TV u.U)):Reach u wt R c->ReachL u wt R cs->ReachL u wt R (c::cs)
end
section
variable {u:Uni}
mutual
theorem Sized.le:∀ {c:TV u.U} {a b:Nat},Sized u c a->a<=b->Sized u c b
 |_,_,b,.int k n _,_=>.int k n b
 |_,_,b,.bool x _,_=>.bool x b
 |_,_,b,.str s _ h,hl=>.str s b (Nat.le_trans h hl)
 |_,_,b,.slc e l _ h,hl=>.slc e l b (SizedL.le h hl)
 |_,_,b,.st n x _ h,hl=>.st n x b (SizedL.le h hl)
theorem SizedL.le:∀ {c:List (TV u.U)} {a b:Nat},SizedL u c a->a<=b->SizedL u c b
 |_,_,b,.nil _,_=>.nil b
 |_,_,b,.cons c cs x y _ h1 h2 h3,hl=>.cons c cs x y b h1 h2 (Nat.le_trans h3 hl)
end
theorem SizedL.append {c d:List (TV u.U)} {a b:Nat} (h:SizedL u c a) (h':SizedL u d b):SizedL u (c++d) (a+b):=by
 induction c generalizing a with
 |nil=>exact h'.le (by omega)
 |cons x c ih=>
  cases h with
  |cons _ _ p q _ h1 h2 h3=>exact .cons _ _ p (q+b) _ h1 (ih h2) (by omega)
theorem ReachL.append {wt:Ty->Nat} {R:Nat} {c d:List (TV u.U)} (h:ReachL u wt R c) (h':ReachL u wt R d):ReachL u wt R (c++d):=by
 induction c with
 |nil=>exact h'
 |cons x c ih=>cases h with|cons _ _ h1 h2=>exact .cons _ _ h1 (ih h2)
theorem SizedL.length {c:List (TV u.U)} {a:Nat} (h:SizedL u c a):c.length<=a:=by
 induction c generalizing a with
 |nil=>exact Nat.zero_le _
 |cons x c ih=>cases h with|cons _ _ p q _ h1 h2 h3=>have:=ih h2; simp only[qe]; omega
theorem SizedL.mem {c:List (TV u.U)} {a:Nat} (h:SizedL u c a) {x:TV u.U} (hx:x∈c):∃ b,b+1<=a/\Sized u x b:=by
 induction c generalizing a with
 |nil=>cases hx
 |cons y c ih=>
  cases h with
  |cons _ _ p q _ h1 h2 h3=>
   rcases List.mem_cons.1 hx with rfl|hx
   ·exact ⟨p,by omega,h1⟩
   ·obtain ⟨b,hb,h⟩:=ih h2 hx; exact ⟨b,by omega,h⟩
theorem Sized.str_inv {s:List UInt8} {N:Nat} (h:Sized u ⟨.str,s⟩ N):s.length<=N:=by cases h; assumption
theorem Sized.slc_inv {e:Ty} {l:List (e.den u.U)} {N:Nat} (h:Sized u ⟨.slc e,l⟩ N):SizedL u (l.map (TV.mk e)) N:=by cases h; assumption
theorem Sized.st_inv {n:Nat} {x:u.U n} {N:Nat} (h:Sized u ⟨.st n,x⟩ N):SizedL u (u.cells n x) N:=by cases h; assumption
theorem Reach.str_inv {wt:Ty->Nat} {R:Nat} {s:List UInt8} (h:Reach u wt R ⟨.str,s⟩):s.length<=R:=by cases h; assumption
theorem Reach.slc_inv {wt:Ty->Nat} {R:Nat} {e:Ty} {l:List (e.den u.U)} (h:Reach u wt R ⟨.slc e,l⟩):l.length*wt e<=R/\ReachL u wt R (l.map (TV.mk e)):=by cases h; exact ⟨by assumption,by assumption⟩
theorem Reach.st_inv {wt:Ty->Nat} {R:Nat} {n:Nat} {x:u.U n} (h:Reach u wt R ⟨.st n,x⟩):ReachL u wt R (u.cells n x):=by cases h; assumption
theorem ReachL.mem {wt:Ty->Nat} {R:Nat} {c:List (TV u.U)} (h:ReachL u wt R c) {x:TV u.U} (hx:x∈c):Reach u wt R x:=by
 induction c with
 |nil=>cases hx
 |cons y c ih=>
  cases h with
  |cons _ _ h1 h2=>
   rcases List.mem_cons.1 hx with rfl|hx
   ·exact h1
   ·exact ih h2 hx
end
structure Bulky {H:Type} (bulk:DataW H->Nat) (all:List (DataW H)->Nat):Prop where
 lit:∀ l,1<=bulk (.lit l)
 str:∀ s:List UInt8,s.length+1<=bulk (.lit (.string s))
 nil:1<=bulk .nil
 slice:∀ a b,all a+all b+1<=bulk (.slice a b)
 agg:∀ a,all a+1<=bulk (.agg a)
 cons:∀ d r,bulk d+all r<=all (d::r)
section
variable {H:Type} {enc:TypeId×Value->H} {K:Kit} {W:World}
def zaq5 (K:Kit) (W:World) (wt:Ty->Nat) (bulk:DataW H->Nat) (T:TypeId) (ty:Ty) (cs:List Value) (d:DataW H):Prop:=
 ∃ y:ty.den K.u.U,TsRel K.u (fun k=>W.heap[k]?) (K.u.tcells ⟨ty,y⟩) cs/\(∃ a,Sized K.u ⟨ty,y⟩ a/\a+1<=bulk d)/\(∀ R,(DataW.weights K.P T d).all (·<=R)=true->Reach K.u wt R ⟨ty,y⟩)
theorem zauk {base:Nat} {a:Addr} {n:Nat} {cs:List Value} (h:W.cells? base a n=some cs) (hn:0<n):a.spot=none/\∃ cur T fz,W.heap[a.block]? = some (.cells cur T fz):=by
 have h0:=(World.cells?_some h).2.2 0 (by omega);have h1:cs.length=n:=(World.cells?_some h).2.1;have e:Addr.add a 0=a:=by simp[Addr.add]
 rw[e,xp (by omega)] at h0;unfold World.cell? at h0;split at h0
 ·rename_i c t fz hc;split at h0
  ·cases h0
  ·rename_i hs;refine ⟨?_,c,t,fz,hc⟩;cases hsp:a.spot with
   |none=>rfl
   |some x=>rw[hsp] at hs; simp at hs
 ·cases h0
theorem zaxg {base:Nat} {b o n:Nat} {cs:List Value} {cur:Array Value} {T:TypeId} {fz:Nat×Nat} (h:W.cells? base ⟨b,o,none⟩ n=some cs) (hc:W.heap[b]? = some (.cells cur T fz)):cs.length=n/\∀ j v,cs[j]? = some v->cur[o+j]? = some v:=by
 have h1:cs.length=n:=(World.cells?_some h).2.1;refine ⟨h1,fun j v hj=>?_⟩;have hlt:j<cs.length:=(xr.1 hj).1;have h0:=(World.cells?_some h).2.2 j (by omega);rw[zaca,zadb hc,hj] at h0;exact h0
theorem zanq {wt:Ty->Nat} {bulk:DataW H->Nat} {all:List (DataW H)->Nat} (hB:Bulky bulk all) {E:TypeId} {e:Ty} {b o:Nat} {cur:Array Value} {T0:TypeId} {fz:Nat×Nat} (hc:W.heap[b]? = some (.cells cur T0 fz)) (hs:K.P.cellsOf E=K.u.size e) :
  ∀ (ds:List (DataW H)) (k:Nat),(∀ i d,ds[i]? = some d->∃ cs,W.cells? 0 ⟨b,o+(k+i)*K.u.size e,none⟩ (K.u.size e)=some cs/\zaq5 K W wt bulk E e cs d) ->
  ∃ (l : List (e.den K.u.U)) (vals : List Value), l.length = ds.length /\ TsRel K.u (fun k => W.heap[k]?) (l.map (TV.mk e)) vals /\
   (∀ i x,vals[i]? = some x->x.cells.size=K.u.size e/\∀ j c,x.cells[j]? = some c->cur[o+(k+i)*K.u.size e+j]? = some c) /\
   SizedL K.u (l.map (TV.mk e)) (all ds)/\(∀ R,(DataW.weightsAll K.P E ds).all (·<=R)=true->ReachL K.u wt R (l.map (TV.mk e)))
 |[],k,_=>⟨[],[],rfl,.nil,fun i x h=>by simp at h,.nil _,fun _ _=>.nil⟩
 |d::ds,k,h=>by
  obtain ⟨cs,h1,y,h2,⟨a,h3,h4⟩,h5⟩:=h 0 d rfl;obtain ⟨l,vals,q1,q2,q3,q4,q5⟩:=zanq hB hc hs ds (k+1) (fun i d' hd=>by
   have:=h (i+1) d' (by simpa using hd);rwa [show k+(i+1)=k+1+i by omega] at this)
  obtain ⟨r1,r2⟩:=zaxg h1 hc;obtain ⟨v,hv1,hv2⟩:∃ v:Value,TRel K.u (fun k=>W.heap[k]?) ⟨e,y⟩ v/\v.cells.toList=cs:=by
   by_cases hf:∃ n,e=.st n
   ·obtain ⟨n,rfl⟩:=hf;exact ⟨.agg cs.toArray,.st n y cs h2,by simp[Value.cells]⟩
   ·have ht:K.u.tcells ⟨e,y⟩=[⟨e,y⟩]:=by
     cases e<;>first|rfl|exact absurd ⟨_,rfl⟩ hf
    rw[ht] at h2;cases h2 with
    |cons _ _ v vs hv hn=>
     cases hn;refine ⟨v,hv,?_⟩;rw[hv.cells_flat (by cases e<;>first|rfl|exact absurd ⟨_,rfl⟩ hf)]
  refine ⟨y::l,v::vals,by simp[q1],.cons _ _ _ _ hv1 q2,?_,.cons _ _ a (all ds) _ h3 q4 ?_,?_⟩
  ·intro i x hx;cases i with
   |zero=>
    simp only[List.getElem?_cons_zero,qk] at hx;subst hx;refine ⟨hv1.size,fun j c hj=>?_⟩;have:cs[j]? = some c:=by rw[<-hv2]; simpa using hj
    exact r2 j c this
   |succ i=>
    have:=q3 i x (by simpa using hx);rwa [show k+1+i=k+(i+1) by omega] at this
  ·have:=hB.cons d ds; omega
  ·intro R hR;simp only[DataW.weightsAll,List.all_append,qd] at hR;exact .cons _ _ (h5 R hR.1) (q5 R hR.2)
end
section
variable {H:Type} {enc:TypeId×Value->H} {K:Kit} {W:World}
theorem zalv {Ts:List TypeId} {wt:Ty->Nat} {bulk:DataW H->Nat} {all:List (DataW H)->Nat} (hB:Bulky bulk all) {cs:List Value} {n:Nat}
  (ih:∀ T∈Ts,∀ ty cs x,K.tyOf T=some ty->DataW.trod enc K.P W 0 (fun _=>true) true n T cs=some x->zaq5 K W wt bulk T ty cs x.1) :
  ∀ (fs:List Field) (off:Nat) (ts:List Ty) (xs:List (DataW H×List MemPlace)),zagl K Ts fs off ts=true->xs.length=fs.length ->
   (∀ (i:Nat) (f:Field),fs[i]? = some f->DataW.trod enc K.P W 0 (fun _=>true) true n f.type ((cs.drop f.offset).take (K.P.cellsOf f.type))=xs[i]?)->cs.length=off+ts.length ->
   ∃ l : List (TV K.u.U), l.map TV.t = ts /\ TsRel K.u (fun k => W.heap[k]?) l (cs.drop off) /\ SizedL K.u l (all (xs.map (·.1))) /\
    (∀ R,(DataW.weightsEach K.P (fs.map (·.type)) (xs.map (·.1))).all (·<=R)=true->ReachL K.u wt R l)
 |[],off,ts,xs,h,hl,_,hc=>by
  simp only[zagl,List.isEmpty_iff] at h;subst h;have:cs.drop off=[]:=by rw[List.drop_eq_nil_iff]; simp at hc; omega
  rw[this];exact ⟨[],rfl,.nil,.nil _,fun _ _=>.nil⟩
 |f::fs,off,ts,xs,h,hl,hf,hc=>by
  simp only[zagl] at h;split at h
  ·rename_i t ht;simp only[qd,qj] at h;obtain ⟨⟨⟨⟨h1,h2⟩,h3⟩,h4⟩,h5⟩:=h;have h2:=qx h2;have h3:=qx h3;obtain ⟨x,xs,rfl⟩:∃ x r,xs=x::r:=by
    cases xs with
    |nil=>simp at hl
    |cons x r=>exact ⟨x,r,rfl⟩
   have hx:=hf 0 f rfl;rw[List.getElem?_cons_zero,h2,h3] at hx;obtain ⟨y,q1,⟨a,q2,q3⟩,q4⟩:=ih f.type (by simpa using h1) t _ x ht hx;have hlen:ts.length=(K.u.ctysOf t).length+(ts.drop (K.u.ctysOf t).length).length:=by
    have h6:=congrArg List.length h4;rw[xy] at h6;rw[List.length_drop];omega
   obtain ⟨l,r1,r2,r3,r4⟩:=zalv hB ih fs (off+(K.u.ctysOf t).length) (ts.drop (K.u.ctysOf t).length) xs h5 (by simpa using hl) (fun i g hg=>by simpa using hf (i+1) g (by simpa using hg)) (by omega);have htc:(K.u.tcells ⟨t,y⟩).map TV.t=K.u.ctysOf t:=by
    cases t with
    |st m=>exact K.u.tys_ok m y
    |_=>rfl
   refine ⟨K.u.tcells ⟨t,y⟩++l,?_,?_,?_,?_⟩
   ·have h7:=List.take_append_drop (K.u.ctysOf t).length ts;rw[h4] at h7;rw[List.map_append,htc,r1];exact h7
   ·have:cs.drop off=(cs.drop off).take (K.u.ctysOf t).length++cs.drop (off+(K.u.ctysOf t).length):=by
     rw[<-List.drop_drop,List.take_append_drop]
    rw[this];exact q1.append r2
   ·have hs:SizedL K.u (K.u.tcells ⟨t,y⟩) (bulk x.1):=by
     cases t with
     |st m=>exact q2.st_inv.le (by omega)
     |_=>exact .cons _ _ a 0 _ q2 (.nil 0) (by omega)
    refine (hs.append r3).le ?_;rw[xn];exact hB.cons _ _
   ·intro R hR;simp only[xn,DataW.weightsEach,List.all_append,qd] at hR;have hq:=q4 R hR.1;have hs:ReachL K.u wt R (K.u.tcells ⟨t,y⟩):=by
     cases t with
     |st m=>exact hq.st_inv
     |_=>exact .cons _ _ hq .nil
    exact hs.append (r4 R hR.2)
  ·cases h
theorem zakp {Ts:List TypeId} {wt:Ty->Nat} {bulk:DataW H->Nat} {all:List (DataW H)->Nat} (hB:Bulky bulk all) (hT:∀ T∈Ts,tyFits K Ts wt T=true)
  (hM:∀ T∈Ts,∀ n,K.tyOf T=some (.st n)->∀ cs,cs.map TV.t=K.u.ctys n->∃ x,K.u.make n cs=some x) :
  ∀ (fuel:Nat) (T:TypeId),T∈Ts->∀ ty cs x,K.tyOf T=some ty->DataW.trod enc K.P W 0 (fun _=>true) true fuel T cs=some x->zaq5 K W wt bulk T ty cs x.1
 |0,T,_,ty,cs,x,_,h=>by simp[DataW.trod] at h
 |fuel+1,T,hm,ty,cs,x,ht,h=>by
  have hfit:=hT T hm;unfold tyFits at hfit;rw[ht] at hfit;split at hfit
  ·rename_i k k' h1 h2;simp only[qd,qj] at hfit;obtain ⟨rfl,_⟩:=hfit;cases h1;obtain ⟨n,rfl,rfl,_⟩:=DataW.trod_int h2 h;exact ⟨n,.cons _ _ _ _ (.int _ _) .nil,⟨0,.int _ _ _,hB.lit _⟩,fun _ _=>.int _ _⟩
  ·rename_i h1 h2;cases h1;obtain ⟨n,rfl,rfl⟩:=DataW.trod_bool h2 h;exact ⟨n,.cons _ _ _ _ (.bool _) .nil,⟨0,.bool _ _,hB.lit _⟩,fun _ _=>.bool _⟩
  ·rename_i h1 h2;cases h1;obtain ⟨s,rfl,rfl,_⟩:=DataW.trod_string h2 h;refine ⟨s.data.toList,.cons _ _ _ _ ?_ .nil,⟨s.data.toList.length,.str _ _ (qz _),hB.str _⟩,fun R hR=>.str _ ?_⟩
   ·have:=TRel.str (u:=K.u) (G:=fun k=>W.heap[k]?) s.data.toList;simpa using this
   ·simpa [DataW.weights] using hR
  ·rename_i e E h1 h2;simp only[qd,qj] at hfit;obtain ⟨⟨⟨⟨⟨g1,g2⟩,g3⟩,g4⟩,g5⟩,g6⟩:=hfit;have g4:=qx g4;have g5:0<K.u.size e:=by simpa [Nat.blt_eq] using g5
   have g6:wt e<=K.P.bytesOf E:=Nat.le_of_ble_eq_true g6;cases h1;have g2:E∈Ts:=by simpa using g2
   rcases DataW.trod_slice h2 h with ⟨rfl,rfl⟩|⟨a,len,cap,elems,rest,n,hn,rfl,rfl,_,hl,hmx,hlen,hel,hsp,_⟩
   ·exact ⟨[],.cons _ _ _ _ (.nil _ _) .nil,⟨0,.slc _ _ _ (.nil _),hB.nil⟩,fun _ _=>.slc _ _ (by simp) .nil⟩
   ·obtain rfl:n=fuel:=by omega
    obtain ⟨hrl,hrest⟩:=hsp rfl;obtain ⟨b,off,spot⟩:=a
    -- each member's cells
    have each:∀ i y,(elems++rest)[i]? = some y->∃ cs,W.cells? 0 (Addr.add ⟨b,off,spot⟩ (i*K.u.size e)) (K.u.size e)=some cs/\DataW.trod enc K.P W 0 (fun _=>true) true n E cs=some y:=by
     intro i y hy;have hb':(W.cells? 0 (Addr.add ⟨b,off,spot⟩ (i*K.P.cellsOf E)) (K.P.cellsOf E)).bind (DataW.trod enc K.P W 0 (fun _=>true) true n E)=some y:=by
      by_cases hi:i<len
      ·rw[hel i hi,<-hy,List.getElem?_append_left (by omega)]
      ·have hi':i-len<rest.length:=by
        have:=(xr.1 hy).1;simp at this;omega
       have:=hrest (i-len) (by omega);rw[show len+(i-len)=i by omega] at this;rw[this,<-hy,List.getElem?_append_right (by omega),hlen]
     rw[g4,qb] at hb';exact hb'
    by_cases hz:cap=0
    ·have:len=0:=by omega
     subst hz this;have he:elems=[]:=qt hlen;subst he;refine ⟨[],.cons _ _ _ _ (.nil _ _) .nil,⟨0,.slc _ _ _ (.nil _),?_⟩,fun _ _=>.slc _ _ (by simp) .nil⟩;have:=hB.slice ([]:List (DataW H)) (rest.map (·.1));simp only[List.map_nil];omega
    ·
     have hne:0<(elems++rest).length:=by rw[qc]; omega
     obtain ⟨cs0,hc0,_⟩:=each 0 _ (xp hne);have e0:Addr.add ⟨b,off,spot⟩ (0*K.u.size e)=⟨b,off,spot⟩:=by simp[Addr.add]
     rw[e0] at hc0;obtain ⟨hs0,cur,T0,fz,hcur⟩:=zauk hc0 g5;simp only at hs0;subst hs0;obtain ⟨l,vals,q1,q2,q3,q4,q5⟩:=zanq (wt:=wt) (b:=b) (o:=off) hB hcur g4 (elems.map (·.1)) 0 (fun i d hd=>by
      rw[List.getElem?_map,xw] at hd;obtain ⟨y,hy,rfl⟩:=hd;have hi:i<elems.length:=(xr.1 hy).1;obtain ⟨cs,hc,ht'⟩:=each i y (by rw[List.getElem?_append_left hi]; exact hy);rw[zaca] at hc;refine ⟨cs,by simpa using hc,zakp hB hT hM n E g2 e cs y g1 ht'⟩)
     have hll:l.length=len:=by rw[q1,List.length_map,hlen]
     refine ⟨l,.cons _ _ _ _ ?_ .nil,⟨all (elems.map (·.1)),.slc _ _ _ q4,?_⟩,?_⟩
     ·have hr:=TRel.slc (u:=K.u) (G:=fun k=>W.heap[k]?) e l b off cap cur T0 fz vals (by omega) hcur q2 (fun i x hx=>by
       obtain ⟨a1,a2⟩:=q3 i x hx;exact ⟨a1,fun j c hj=>by have:=a2 j c hj; rwa [Nat.zero_add] at this⟩)
      rw[hll] at hr;exact hr
     ·exact Nat.le_trans (by omega) (hB.slice (elems.map (·.1)) (rest.map (·.1)))
     ·intro R hR;simp only[DataW.weights,h2,xv,List.all_append,qd,qj] at hR;refine .slc _ _ ?_ (q5 R hR.2.1);have h8:l.length*wt e<=(elems.length+rest.length)*K.P.bytesOf E:=by
       rw[hll,<-hlen];exact Nat.mul_le_mul (by omega) g6
      simp only[List.length_map] at hR;omega
  ·rename_i n fs h1 h2;simp only[qd] at hfit;cases h1;obtain ⟨xs,n',hn,rfl,hcl,hxl,hf⟩:=DataW.trod_struct h2 h;obtain rfl:n'=fuel:=by omega
   have g1:=qx hfit.1;obtain ⟨l,q1,q2,q3,q4⟩:=zalv (wt:=wt) (bulk:=bulk) (Ts:=Ts) (K:=K) (W:=W) (enc:=enc) (n:=n') (cs:=cs) hB (fun T hT' ty cs x ht' h'=>zakp hB hT hM n' T hT' ty cs x ht' h') fs.toList 0 (K.u.ctys n) xs hfit.2 (by simpa using hxl) (fun i f hi=>hf i f (by simpa using hi)) (by omega);obtain ⟨y,hy⟩:=hM T hm n ht l q1;have hcells:=K.u.make_ok n l y hy;refine ⟨y,?_,⟨all (xs.map (·.1)),.st _ _ _ (by rw[hcells]; exact q3),hB.agg _⟩,?_⟩
   ·show TsRel K.u _ (K.u.cells n y) cs;rw[hcells];simpa using q2
   ·intro R hR;simp only[DataW.weights,h2] at hR;exact .st _ _ (by rw[hcells]; exact q4 R hR)
  ·cases hfit
end
theorem open_arg {H:Type} {enc:TypeId×Value->H} {K:Kit} {W:World} {Ts:List TypeId} {wt:Ty->Nat} {bulk:DataW H->Nat} {all:List (DataW H)->Nat} (hB:Bulky bulk all) (hT:∀ T∈Ts,tyFits K Ts wt T=true)
  (hM:∀ T∈Ts,∀ n,K.tyOf T=some (.st n)->∀ cs,cs.map TV.t=K.u.ctys n->∃ x,K.u.make n cs=some x) {T:TypeId} (hm:T∈Ts) {ty:Ty} (ht:K.tyOf T=some ty) {b0:Nat} {v:Value} {d:DataW H} {ps:List MemPlace}
  (hval:Value.okWide K.P W .any b0 T v) (hd:DataW.Trod enc K.P W 0 (fun _=>true) true T v d ps) :
  ∃ y:ty.den K.u.U,TRel K.u (fun k=>W.heap[k]?) ⟨ty,y⟩ v/\(∃ a,Sized K.u ⟨ty,y⟩ a/\a+1<=bulk d)/\(∀ R,(DataW.weights K.P T d).all (·<=R)=true->Reach K.u wt R ⟨ty,y⟩):=by
 obtain ⟨fuel,hf⟩:=hd;obtain ⟨y,h1,h2,h3⟩:=zakp hB hT hM fuel T hm ty _ _ ht hf;refine ⟨y,?_,h2,h3⟩;have hfit:=hT T hm;unfold tyFits at hfit;rw[ht] at hfit;have flat:(∀ fs,K.P.underlying T≠some (.struct fs))->(∀ n,ty≠.st n)->TRel K.u (fun k=>W.heap[k]?) ⟨ty,y⟩ v:=by
  intro _ hns;have htc:K.u.tcells ⟨ty,y⟩=[⟨ty,y⟩]:=by cases ty<;>first|rfl|exact absurd rfl (hns _)
  rw[htc] at h1;have hv:v.cells.toList=[v]\/∃ cs,v=.agg cs:=by
   cases v<;>first|exact .inr ⟨_,rfl⟩|exact .inl rfl
  cases hc:v.cells.toList with
  |nil=>rw[hc] at h1; cases h1
  |cons a r=>
   rw[hc] at h1;cases h1 with
   |cons _ _ _ _ hr hn=>
    cases hn;rcases hv with hv|⟨cs,rfl⟩
    ·rw[hv] at hc; cases hc; exact hr
    ·
     exfalso;unfold Value.okWide at hval;split at hfit<;>rename_i h1 h2
     all_goals first
      |(rw[h2] at hval; simp[Cell.okWide,h2,Cell.ok] at hval; done)
      |(cases h1; exact absurd rfl (hns _))
      |cases hfit
 split at hfit
 ·rename_i h1 h2; exact flat (fun fs hh=>by rw[h2] at hh; cases hh) (fun n hh=>by rw[hh] at h1; cases h1)
 ·rename_i h1 h2; exact flat (fun fs hh=>by rw[h2] at hh; cases hh) (fun n hh=>by rw[hh] at h1; cases h1)
 ·rename_i h1 h2; exact flat (fun fs hh=>by rw[h2] at hh; cases hh) (fun n hh=>by rw[hh] at h1; cases h1)
 ·rename_i h1 h2; exact flat (fun fs hh=>by rw[h2] at hh; cases hh) (fun n hh=>by rw[hh] at h1; cases h1)
 ·rename_i n fs g1 g2;cases g1;unfold Value.okWide at hval;rw[g2] at hval;obtain ⟨cs,rfl,_,_⟩:=hval;have:=TRel.st (u:=K.u) (G:=fun k=>W.heap[k]?) n y cs.toList (by simpa [Value.cells,Uni.tcells] using h1);simpa using this
 ·cases hfit
end Lift
namespace Lift
end Lift
