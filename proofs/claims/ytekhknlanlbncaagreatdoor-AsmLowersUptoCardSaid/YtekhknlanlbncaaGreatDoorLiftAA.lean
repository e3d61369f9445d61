/-
  DERIVED. A function's code, evaluated: the values, what they are in memory, the operations' laws. Conditions: none.
-/
import Derived.WalkKit
import Derived.WalkSpells
import Derived.WalkLawsBesides
import Derived.Great.FillDense
import Derived.Great.BuildSlice
import Derived.Laws.Cover4
import Derived.Laws.BytesString
import Derived.Laws.AppendOwn
import Derived.Laws.CopyRow
import Derived.Lib.AppendStr
import Derived.Lib.ConvBytes
set_option linter.unusedVariables false
set_option linter.unusedSimpArgs false
set_option linter.unusedSectionVars false
namespace Lift
open Go Go.RowKit
inductive Ty where
 |int (k:IntKind)|bool|str|slc (e:Ty)|st (n:Nat)|fn|err|map (k e:Ty)|own (T:Nat) (e:Ty)
 deriving DecidableEq
@[reducible] def Ty.den (U:Nat→Type):Ty→Type
 |.int _=>Int
 |.bool=>Bool
 |.str=>List UInt8
 |.slc e=>List (e.den U)
 |.st n=>U n
 |.fn=>Nat
 |.err=>Bool
 |.map k e=>List (k.den U×e.den U)
 |.own _ e=>List (e.den U)
def Ty.plain (pn:Nat→Nat):Ty→Ty
 |.own _ e=>.slc (e.plain pn)
 |.st n=>.st (pn n)
 |.int k=>.int k
 |.bool=>.bool
 |.str=>.str
 |.slc e=>.slc e
 |.fn=>.fn
 |.err=>.err
 |.map k e=>.map k e
theorem Ty.plain_den {U:Nat→Type} {pn:Nat→Nat} (pd:∀ n,U (pn n)=U n):∀ t:Ty,(t.plain pn).den U=t.den U
 |.own _ e=>congrArg List (Ty.plain_den pd e)
 |.st n=>pd n
 |.int _=>rfl
 |.bool=>rfl
 |.str=>rfl
 |.slc _=>rfl
 |.fn=>rfl
 |.err=>rfl
 |.map _ _=>rfl
structure TV (U:Nat→Type) where
 t:Ty
 x:t.den U
def TV.plain {U:Nat→Type} {pn:Nat→Nat} (pd:∀ n,U (pn n)=U n) (v:TV U):TV U:=⟨v.t.plain pn,cast (Ty.plain_den pd v.t).symm v.x⟩
def Ty.isOwn:Ty→Bool
 |.own _ _=>true
 |_=>false
def Ty.flat:Ty→Bool
 |.st _=>false
 |_=>true
structure Uni where
 U:Nat→Type
 cells:(n:Nat)→U n→List (TV U)
 ctys:Nat→List Ty
 make:(n:Nat)→List (TV U)→Option (U n)
 make_ok:∀ n cs x,make n cs=some x→cells n x=cs
 tys_ok:∀ n x,(cells n x).map TV.t=ctys n
 flat_ok:∀ n t,t∈ctys n→t.flat=true
 pn:Nat→Nat:=fun n=>n
 pd:∀ n,U (pn n)=U n:=by intro n; rfl
 pc:∀ n (x:U n),cells (pn n) (cast (pd n).symm x)=(cells n x).map (TV.plain pd)
 pt:∀ n,ctys (pn n)=(ctys n).map (Ty.plain pn)
 closed:Nat→Bool:=fun _=>false
 closed_ok:∀ n,closed n=true→∀ t∈ctys n,(match t with
  |.int _=>true|.bool=>true|.str=>true|.err=>true|.fn=>true
  |.own _ (.st m)=>closed m
  |.own _ e=>match e with|.int _=>true|.bool=>true|.str=>true|_=>false
  |_=>false)=true
def Uni.size (u:Uni):Ty→Nat
 |.st n=>(u.ctys n).length
 |_=>1
def Uni.ctysOf (u:Uni):Ty→List Ty
 |.st n=>u.ctys n
 |t=>[t]
def Uni.tcells (u:Uni):TV u.U→List (TV u.U)
 |⟨.st n,x⟩=>u.cells n x
 |v=>[v]
def Uni.plainTy (u:Uni):Ty→Bool
 |.own _ _=>false
 |.st n=>(u.ctys n).all fun t=>!t.isOwn
 |_=>true
def Laid (cur:Array Value) (off es:Nat) (vals:List Value):Prop:=
 ∀ i x,vals[i]? = some x→x.cells.size=es∧∀ j c,x.cells[j]? = some c→cur[off+i*es+j]? = some c
mutual
inductive TRel (u:Uni) (G:Nat→Option Obj):TV u.U→Value→Prop
 |int (k:IntKind) (n:Int):TRel u G ⟨.int k,n⟩ (.int k n)
 |bool (b:Bool):TRel u G ⟨.bool,b⟩ (.bool b)
 |str (s:List UInt8):TRel u G ⟨.str,s⟩ (.string ⟨s.toArray⟩)
 |fn (f:Nat):TRel u G ⟨.fn,f⟩ (.func (.func f) #[] #[])
 |noErr:TRel u G ⟨.err,false⟩ .nilIface
 |anErr (t:TypeId) (v:Value):TRel u G ⟨.err,true⟩ (.iface t v)
 |nil (e:Ty) (p:Option Addr):TRel u G ⟨.slc e,([]:List (e.den u.U))⟩ (.slice p 0 0)
 |slc (e:Ty) (l:List (e.den u.U)) (b off cap:Nat) (cur:Array Value) (T:TypeId) (fz:Nat×Nat) (vals:List Value) :
   l.length≤cap→G b=some (.cells cur T fz)→TsRel u G (l.map (TV.mk e)) vals→Laid cur off (u.size e) vals →
   TRel u G ⟨.slc e,l⟩ (.slice (some ⟨b,off,none⟩) l.length cap)
 |st (n:Nat) (x:u.U n) (vs:List Value):TsRel u G (u.cells n x) vs→TRel u G ⟨.st n,x⟩ (.agg vs.toArray)
 |mnil (k e:Ty):TRel u G ⟨.map k e,([]:List (k.den u.U×e.den u.U))⟩ (.map none)
 | map (k e : Ty) (l : List (k.den u.U × e.den u.U)) (b : Nat) (es : Array MapEntry) (clock : Nat) : G b = some (.map es clock) → TsRel u G (l.map fun x => ⟨k, x.1⟩) (es.toList.map (·.key)) → TsRel u G (l.map fun x => ⟨e, x.2⟩) (es.toList.map (·.val)) →
   TRel u G ⟨.map k e,l⟩ (.map (some b))
inductive TsRel (u:Uni) (G:Nat→Option Obj):List (TV u.U)→List Value→Prop
 |nil:TsRel u G [] []
 |cons (c:TV u.U) (cs:List (TV u.U)) (v:Value) (vs:List Value):TRel u G c v→TsRel u G cs vs→TsRel u G (c::cs) (v::vs)
end
section
variable {u:Uni} {G G':Nat→Option Obj}
mutual
theorem TRel.mono (h:∀ k o,G k=some o→G' k=some o):∀ {c:TV u.U} {v:Value},TRel u G c v→TRel u G' c v
 |_,_,.int k n=>.int k n
 |_,_,.bool b=>.bool b
 |_,_,.str s=>.str s
 |_,_,.fn f=>.fn f
 |_,_,.noErr=>.noErr
 |_,_,.anErr t v=>.anErr t v
 |_,_,.nil e p=>.nil e p
 |_,_,.slc e l b off cap cur T fz vals h1 h2 h3 h4=>.slc e l b off cap cur T fz vals h1 (h _ _ h2) (TsRel.mono h h3) h4
 |_,_,.st n x vs h1=>.st n x vs (TsRel.mono h h1)
 |_,_,.mnil k e=>.mnil k e
 |_,_,.map k e l b es clock h1 h2 h3=>.map k e l b es clock (h _ _ h1) (TsRel.mono h h2) (TsRel.mono h h3)
theorem TsRel.mono (h:∀ k o,G k=some o→G' k=some o):∀ {c:List (TV u.U)} {v:List Value},TsRel u G c v→TsRel u G' c v
 |_,_,.nil=>.nil
 |_,_,.cons c cs v vs h1 h2=>.cons c cs v vs (TRel.mono h h1) (TsRel.mono h h2)
end
theorem TRel.int_inv {k:IntKind} {n:Int} {v:Value} (h:TRel u G ⟨.int k,n⟩ v):v=.int k n:=by cases h; rfl
theorem TRel.bool_inv {b:Bool} {v:Value} (h:TRel u G ⟨.bool,b⟩ v):v=.bool b:=by cases h; rfl
theorem TRel.str_inv {s:List UInt8} {v:Value} (h:TRel u G ⟨.str,s⟩ v):v=.string ⟨s.toArray⟩:=by cases h; rfl
theorem TRel.fn_inv {f:Nat} {v:Value} (h:TRel u G ⟨.fn,f⟩ v):v=.func (.func f) #[] #[]:=by cases h; rfl
theorem TRel.st_inv {n:Nat} {x:u.U n} {v:Value} (h:TRel u G ⟨.st n,x⟩ v):∃ vs:List Value,v=.agg vs.toArray∧TsRel u G (u.cells n x) vs:=by
 cases h; exact ⟨_,rfl,‹_›⟩
theorem TRel.slc_inv {e:Ty} {l:List (e.den u.U)} {v:Value} (h:TRel u G ⟨.slc e,l⟩ v) :
  (l=[]∧∃ p,v=.slice p 0 0)∨∃ b off cap cur T fz vals,v=.slice (some ⟨b,off,none⟩) l.length cap∧l.length≤cap∧G b=some (.cells cur T fz) ∧
   TsRel u G (l.map (TV.mk e)) vals∧Laid cur off (u.size e) vals:=by
 cases h
 ·exact .inl ⟨rfl,_,rfl⟩
 ·exact .inr ⟨_,_,_,_,_,_,_,rfl,‹_›,‹_›,‹_›,‹_›⟩
theorem TRel.map_inv {k e:Ty} {l:List (k.den u.U×e.den u.U)} {v:Value} (h:TRel u G ⟨.map k e,l⟩ v):(l=[]∧v=.map none) ∨
  ∃ b es clock,v=.map (some b)∧G b=some (.map es clock)∧TsRel u G (l.map fun x=>⟨k,x.1⟩) (es.toList.map (·.key))∧TsRel u G (l.map fun x=>⟨e,x.2⟩) (es.toList.map (·.val)):=by
 cases h
 ·exact .inl ⟨rfl,rfl⟩
 ·exact .inr ⟨_,_,_,rfl,‹_›,‹_›,‹_›⟩
theorem TsRel.length {cs:List (TV u.U)} {vs:List Value} (h:TsRel u G cs vs):cs.length=vs.length:=by
 induction cs generalizing vs with
 |nil=>cases h; rfl
 |cons c cs ih=>cases h with|cons _ _ v vs h1 h2=>simp[ih h2]
theorem TsRel.get {cs:List (TV u.U)} {vs:List Value} (h:TsRel u G cs vs) (i:Nat) {c:TV u.U} (hc:cs[i]? = some c):∃ v,vs[i]? = some v∧TRel u G c v:=by
 induction cs generalizing vs i with
 |nil=>simp at hc
 |cons d cs ih=>
  cases h with
  |cons _ _ v vs h1 h2=>
   cases i with
   |zero=>simp at hc; subst hc; exact ⟨v,by simp,h1⟩
   |succ i=>simp at hc; obtain ⟨v',h3,h4⟩:=ih h2 i hc; exact ⟨v',by simpa using h3,h4⟩
theorem TsRel.get' {cs:List (TV u.U)} {vs:List Value} (h:TsRel u G cs vs) (i:Nat) {v:Value} (hc:vs[i]? = some v):∃ c,cs[i]? = some c∧TRel u G c v:=by
 induction cs generalizing vs i with
 |nil=>cases h; simp at hc
 |cons d cs ih=>
  cases h with
  |cons _ _ v vs h1 h2=>
   cases i with
   |zero=>simp at hc; subst hc; exact ⟨d,by simp,h1⟩
   |succ i=>simp at hc; obtain ⟨v',h3,h4⟩:=ih h2 i hc; exact ⟨v',by simpa using h3,h4⟩
theorem TsRel.append {cs ds:List (TV u.U)} {vs us:List Value} (h:TsRel u G cs vs) (h':TsRel u G ds us):TsRel u G (cs++ds) (vs++us):=by
 induction cs generalizing vs with
 |nil=>cases h; simpa using h'
 |cons c cs ih=>cases h with|cons _ _ v vs h1 h2=>exact .cons _ _ _ _ h1 (ih h2)
theorem TsRel.take {cs:List (TV u.U)} {vs:List Value} (h:TsRel u G cs vs) (n:Nat):TsRel u G (cs.take n) (vs.take n):=by
 induction cs generalizing vs n with
 |nil=>cases h; simpa using TsRel.nil
 |cons c cs ih=>
  cases h with
  |cons _ _ v vs h1 h2=>
   cases n with
   |zero=>simpa using TsRel.nil
   |succ n=>simpa using TsRel.cons _ _ _ _ h1 (ih h2 n)
theorem TsRel.drop {cs:List (TV u.U)} {vs:List Value} (h:TsRel u G cs vs) (n:Nat):TsRel u G (cs.drop n) (vs.drop n):=by
 induction cs generalizing vs n with
 |nil=>cases h; simpa using TsRel.nil
 |cons c cs ih=>
  cases h with
  |cons _ _ v vs h1 h2=>
   cases n with
   |zero=>simpa using TsRel.cons _ _ _ _ h1 h2
   |succ n=>simpa using ih h2 n
theorem TsRel.set {cs:List (TV u.U)} {vs:List Value} (h:TsRel u G cs vs) (i:Nat) {c:TV u.U} {v:Value} (hc:TRel u G c v):TsRel u G (cs.set i c) (vs.set i v):=by
 induction cs generalizing vs i with
 |nil=>cases h; simpa using TsRel.nil
 |cons d cs ih=>
  cases h with
  |cons _ _ v' vs h1 h2=>
   cases i with
   |zero=>simpa using TsRel.cons _ _ _ _ hc h2
   |succ i=>simpa using TsRel.cons _ _ _ _ h1 (ih h2 i)
theorem TRel.oneCell {c:TV u.U} {v:Value} (h:TRel u G c v) (hf:c.t.flat=true):v.oneCell'=true:=by
 cases h<;>simp_all[Value.oneCell',Ty.flat]
theorem TRel.cells_flat {c:TV u.U} {v:Value} (h:TRel u G c v) (hf:c.t.flat=true):v.cells=#[v]:=by
 cases h<;>simp_all[Value.cells,Ty.flat]
theorem TRel.cells {c:TV u.U} {v:Value} (h:TRel u G c v):TsRel u G (u.tcells c) v.cells.toList:=by
 obtain ⟨t,x⟩:=c;cases t
 case st n=>obtain ⟨vs,rfl,h2⟩:=h.st_inv; simpa [Uni.tcells,Value.cells] using h2
 all_goals (rw[h.cells_flat rfl]; exact .cons _ _ _ _ h .nil)
theorem Uni.tcells_length (u:Uni) (c:TV u.U):(u.tcells c).length=u.size c.t:=by
 obtain ⟨t,x⟩:=c;cases t<;>simp[Uni.tcells,Uni.size];rename_i n;have h:=congrArg List.length (u.tys_ok n x);simpa using h
theorem Uni.tcells_flat (u:Uni) (c d:TV u.U) (h:d∈u.tcells c):d.t.flat=true:=by
 obtain ⟨t,x⟩:=c;cases t
 case st n=>
  simp only[Uni.tcells] at h;refine u.flat_ok n d.t ?_;rw[← u.tys_ok n x];exact List.mem_map_of_mem h
 all_goals (simp[Uni.tcells] at h; subst h; rfl)
theorem TRel.size {c:TV u.U} {v:Value} (h:TRel u G c v):v.cells.size=u.size c.t:=by
 have:=h.cells.length;rw[u.tcells_length] at this;simpa using this.symm
theorem TRel.cells_oneCell {c:TV u.U} {v:Value} (h:TRel u G c v) {x:Value} (hx:x∈v.cells):x.oneCell'=true:=by
 obtain ⟨i,hi⟩:=List.getElem?_of_mem (Array.mem_toList_iff.2 hx);obtain ⟨d,hd,hr⟩:=h.cells.get' i hi;exact hr.oneCell (u.tcells_flat c d (List.mem_of_getElem? hd))
end
end Lift
namespace Go
def okFz (fz:Nat×Nat) (n:Nat):Prop:=fz.2=0∨n≤fz.1
def World.ownsZ (w:World) (_base:Nat) (e:TypeId) (size:Nat) (v:Value) (n:Nat) (xs:List Value):Prop:=
  xs.length=n*size ∧
  ((v=.slice none 0 0∧n=0) ∨
   ∃ g cap cur fz,v=.slice (some ⟨g,0,none⟩) n cap∧okFz fz cur.size∧w.heap[g]? = some (.cells cur e fz)∧n≤cap∧cap≤maxLen∧cap*size≤cur.size∧cur.toList.take (n*size)=xs)
theorem zahp (n:Nat):okFz (0,0) n:=.inl rfl
section
variable {w:World} {base:Nat} {e:TypeId} {size:Nat} {v:Value} {n:Nat} {xs:List Value}
theorem World.ownsZ_nil (w:World) (base:Nat) (e:TypeId) (size:Nat):w.ownsZ base e size (.slice none 0 0) 0 []:=⟨by simp,.inl ⟨rfl,rfl⟩⟩
theorem World.ownsZ.lt (h:w.ownsZ base e size v n xs):∀ k,v.ownBlock=some k→0≤k∧k<w.heap.size:=by
 intro k hk;rcases h.2 with ⟨rfl,_⟩|⟨g,cap,cur,fz,rfl,hb,hg,_⟩
 ·simp[Value.ownBlock] at hk
 ·simp[Value.ownBlock] at hk;subst hk;exact ⟨Nat.zero_le _,(Array.getElem?_eq_some_iff.1 hg).1⟩
theorem World.ownsZ.kept {w':World} {row:Option Nat} (h:w.ownsZ base e size v n xs) (hg:w.grownBy w' row) (hne:v.ownBlock=none∨v.ownBlock≠row):w'.ownsZ base e size v n xs:=by
 refine ⟨h.1,?_⟩;rcases h.2 with hn|⟨g,cap,cur,fz,rfl,hb,hgg,rest⟩
 ·exact .inl hn
 ·refine .inr ⟨g,cap,cur,fz,rfl,hb,?_,rest⟩;rw[hg.block g (Array.getElem?_eq_some_iff.1 hgg).1 (by simpa [Value.ownBlock] using hne)];exact hgg
theorem World.ownsZ.cells (h:w.ownsZ base e size v n xs) {g:Nat} (hg:v.ownBlock=some g):∀ j u,xs[j]? = some u→w.cell? ((⟨g,0,none⟩:Addr).add j)=some u:=by
 intro j u hu;rcases h.2 with ⟨rfl,_⟩|⟨g',cap,cur,fz,rfl,_,hgg,_,_,_,htake⟩
 ·simp[Value.ownBlock] at hg
 ·simp[Value.ownBlock] at hg;subst hg;have hadd:(⟨g',0,none⟩:Addr).add j=⟨g',j,none⟩:=by unfold Addr.add; split<;>simp_all
  rw[hadd,cell_of_row w g' j cur e fz hgg];rw[← htake,List.getElem?_take] at hu;split at hu
  ·simpa using hu
  ·cases hu
end
theorem zab5 (P:Program) (g o:Nat) (t:TypeId) (fz:Nat×Nat):∀ (vs:List Value) (i:Nat) (cur:Array Value) (w:World),w.heap[g]? = some (.cells cur t fz)→okFz fz cur.size→o+i+vs.length≤cur.size→(∀ v∈vs,v.oneCell'=true) →
  (storeCells ⟨g,o,none⟩ vs i).run P w=.ok () (w.setRow g (cur.toList.take (o+i)++vs++cur.toList.drop (o+i+vs.length)).toArray)
 |[],i,cur,w,hg,_,_,_=>by
  simp only[storeCells,List.append_nil,List.length_nil,Nat.add_zero,List.take_append_drop,Array.toArray_toList];rw[setRow_self w g cur t fz hg];rfl
 |v::rest,i,cur,w,hg,hz,hl,h1=>by
  have hi:o+i<cur.size:=by simp at hl; omega
  have hadd:(⟨g,o,none⟩:Addr).add i=⟨g,o+i,none⟩:=by unfold Addr.add; split<;>simp_all
  have hcell:w.cell? ⟨g,o+i,none⟩=some cur[o+i]:=by simp[World.cell?,hg,hi]
  have hfro:w.frozen? ⟨g,o+i,none⟩=false:=by
   obtain ⟨a,b⟩:=fz;simp only[World.frozen?,hg,okFz] at hz ⊢;simp only[Bool.and_eq_false_iff,decide_eq_false_iff_not];omega
  have hst:(store ((⟨g,o,none⟩:Addr).add i) v).run P w=.ok () (w.setRow g (cur.setIfInBounds (o+i) v)):=by
   rw[hadd,run_store P w _ v _ (h1 v (by simp)),hcell];simp[hfro,setCell_eq_setRow w g (o+i) cur t fz v hg]
  have ih:=zab5 P g o t fz rest (i+1) (cur.setIfInBounds (o+i) v) (w.setRow g (cur.setIfInBounds (o+i) v)) (setRow_heap w g cur _ t _ hg) (by simpa using hz) (by simp at hl ⊢; omega) (fun x hx=>h1 x (by simp[hx]));simp only[storeCells,Sem.run_bind,hst,Result.andThen_ok,ih,setRow_setRow];congr 3;have e:=list_seg_step cur.toList (o+i) v rest (by simp at hl ⊢; omega);simpa [Array.toList_setIfInBounds,Nat.add_assoc] using e
theorem zame {P:Program} (w:World) (t ty e:TypeId) (i:TypeInfo) (ht:P.underlying t=some (.slice e)) (hi:P.info? e=some i)
  (g sLen sCap:Nat) (cur:Array Value) (fz:Nat×Nat) (hg:w.heap[g]? = some (.cells cur e fz)) (hz:okFz fz cur.size)
  (a:Addr) (m c:Nat) (news:List Value) (hl:news.length=m*i.size) (hnews:∀ j u,news[j]? = some u→w.cell? (a.add j)=some u) (h1:∀ u∈news,u.oneCell'=true)
  (hroom:sLen+m≤sCap) (hfit:sLen*i.size+news.length≤cur.size) :
  (Builtin.append_ #[t,t] ty #[.slice (some ⟨g,0,none⟩) sLen sCap,.slice (some a) m c]).run P w =
   .ok (.slice (some ⟨g,0,none⟩) (sLen+m) sCap) (w.setRow g (cur.toList.take (sLen*i.size)++news++cur.toList.drop (sLen*i.size+news.length)).toArray):=by
 have hf:=run_firstCells_some (P:=P) w i.size m a m c news hl hnews;have hst:=zab5 P g (sLen*i.size) e fz news 0 cur w hg hz (by simpa using hfit) h1;simp only[Nat.add_zero] at hst;simp[Builtin.append_,run_underlying ht,Go.sizeOf,typeInfo,hi,Builtin.lenOf,hroom,hf,Addr.add_lit,hst]
theorem zah0 {P:Program} {w:World} (base:Nat) (t ty e:TypeId) (i:TypeInfo) (size:Nat) (ht:P.underlying t=some (.slice e)) (hi:P.info? e=some i)
  (v:Value) (n:Nat) (xs:List Value) (hown:w.ownsZ base e size v n xs) :
  (Builtin.append_ #[t,t] ty #[v,.slice none 0 0]).run P w=.ok v w:=by
 rcases hown.2 with ⟨rfl,rfl⟩|⟨g,cap,cur,fz,rfl,_,_,hnc,_⟩
 ·simp[Builtin.append_,run_underlying ht,Go.sizeOf,typeInfo,hi,Builtin.lenOf,Builtin.firstCells]
 ·simp[Builtin.append_,run_underlying ht,Go.sizeOf,typeInfo,hi,Builtin.lenOf,Builtin.firstCells,hnc,storeCells]
theorem zasi {w:World} {e:TypeId} {s:ByteArray} (hm:s.size≤maxLen) :
  (Lib.bytesWorld w e s).ownsZ 0 e 1 (.slice (some ⟨w.heap.size,0,none⟩) s.size (grownCap w s.size 0 e)) s.size (Lib.strCells s):=by
 have hge:=grownCap_ge w s.size 0 e;have hle:=grownCap_le_maxLen w s.size 0 e hm;have hsz:(Lib.bytesCells w e s).size=grownCap w s.size 0 e:=by
  simp only[Lib.bytesCells,Array.size_append,Array.size_map,Array.size_replicate];change s.size+_=_
  omega
 refine ⟨by simp[Lib.strCells_length],.inr ⟨w.heap.size,_,_,_,rfl,?_,Lib.bytesWorld_at_new w e s,hge,hle,by rw[hsz]; omega,?_⟩⟩
 ·right;simp only;rw[hsz];omega
 ·simp only[Lib.bytesCells,Array.toList_append,Nat.mul_one];have h1:(Array.map (fun b:UInt8=>Value.int .u8 b.toNat) s.data).toList=Lib.strCells s:=by simp[Lib.strCells]
  rw[h1,List.take_append_of_le_length (by rw[Lib.strCells_length]; omega),List.take_of_length_le (by rw[Lib.strCells_length]; omega)]
theorem zapl {w:World} {e:TypeId} {s:ByteArray} {row:Option Nat}:w.grownBy (Lib.bytesWorld w e s) row:=
 ⟨rfl,rfl,rfl,by rw[Lib.bytesWorld_size]; omega,fun k hk _=>Lib.bytesWorld_at_old w e s k hk⟩
theorem zahg {P:Program} (w:World) (t u ty e:TypeId) (i:TypeInfo) (ht:P.underlying t=some (.slice e)) (hu:P.underlying u=some .string) (hi:P.info? e=some i) (hs1:i.size=1)
  (g sLen sCap:Nat) (cur:Array Value) (fz:Nat×Nat) (hg:w.heap[g]? = some (.cells cur e fz)) (hz:okFz fz cur.size) (s:ByteArray)
  (hroom:sLen+s.size≤sCap) (hfit:sLen+s.size≤cur.size) :
  (Builtin.append_ #[t,u] ty #[.slice (some ⟨g,0,none⟩) sLen sCap,.string s]).run P w =
   .ok (.slice (some ⟨g,0,none⟩) (sLen+s.size) sCap) (w.setRow g (cur.toList.take sLen++Lib.strCells s++cur.toList.drop (sLen+s.size)).toArray):=by
 have hf:=Lib.run_firstCells_string (P:=P) w 1 s;have hst:=zab5 P g sLen e fz (Lib.strCells s) 0 cur w hg hz (by simpa [Lib.strCells_length] using hfit) (Lib.strCells_oneCell s);simp only[Nat.add_zero,Lib.strCells_length] at hst;simp[Builtin.append_,run_underlying ht,run_underlying hu,Go.sizeOf,typeInfo,hi,hs1,Builtin.lenOf,hroom,hf,Addr.add_lit,hst]
end Go
namespace Lift
open Go Go.RowKit
mutual
inductive HRel (u:Uni) (G h:Nat→Option Obj):List Nat→TV u.U→Value→Prop
 |base (c:TV u.U) (v:Value):c.t.flat=true→TRel u G c v→HRel u G h [] c v
 |onil (T:Nat) (e:Ty):HRel u G h [] ⟨.own T e,([]:List (e.den u.U))⟩ (.slice none 0 0)
 |own (T:Nat) (e:Ty) (l:List (e.den u.U)) (b cap:Nat) (cur:Array Value) (fz:Nat×Nat) (vals:List Value) (F:List Nat):okFz fz cur.size→h b=some (.cells cur T fz)→l.length≤cap→cap≤maxLen →
   cap*u.size e≤cur.size→cur.toList.take (l.length*u.size e)=vals.flatMap (fun x=>x.cells.toList)→HsRel u G h F (l.map (TV.mk e)) vals→b∉F→HRel u G h (b::F) ⟨.own T e,l⟩ (.slice (some ⟨b,0,none⟩) l.length cap)
 |st (n:Nat) (x:u.U n) (vs:List Value) (F:List Nat):HsRel u G h F (u.cells n x) vs→HRel u G h F ⟨.st n,x⟩ (.agg vs.toArray)
inductive HsRel (u:Uni) (G h:Nat→Option Obj):List Nat→List (TV u.U)→List Value→Prop
 |nil:HsRel u G h [] [] []
 |cons (c:TV u.U) (cs:List (TV u.U)) (v:Value) (vs:List Value) (F1 F2:List Nat):HRel u G h F1 c v→HsRel u G h F2 cs vs→(∀ b∈F1,b∉F2)→HsRel u G h (F1++F2) (c::cs) (v::vs)
end
section
variable {u:Uni} {G G' h h':Nat→Option Obj}
mutual
theorem HRel.over (hg:∀ k o,G k=some o→G' k=some o):∀ {F:List Nat} {c:TV u.U} {v:Value},HRel u G h F c v→(∀ b∈F,h' b=h b)→HRel u G' h' F c v
 |_,_,_,.base c v hf ht,_=>.base c v hf (ht.mono hg)
 |_,_,_,.onil T e,_=>.onil T e
 |_,_,_,.own T e l b cap cur fz vals F h1 h2 h3 h4 h5 h6 h7 h8,hk=>.own T e l b cap cur fz vals F h1 ((hk b (by simp)).trans h2) h3 h4 h5 h6 (HsRel.over hg h7 (fun b hb=>hk b (by simp[hb]))) h8
 |_,_,_,.st n x vs F h1,hk=>.st n x vs F (HsRel.over hg h1 hk)
theorem HsRel.over (hg:∀ k o,G k=some o→G' k=some o):∀ {F:List Nat} {c:List (TV u.U)} {v:List Value},HsRel u G h F c v→(∀ b∈F,h' b=h b)→HsRel u G' h' F c v
 |_,_,_,.nil,_=>.nil
 |_,_,_,.cons c cs v vs F1 F2 h1 h2 h3,hk=>.cons c cs v vs F1 F2 (HRel.over hg h1 (fun b hb=>hk b (by simp[hb]))) (HsRel.over hg h2 (fun b hb=>hk b (by simp[hb]))) h3
end
theorem HsRel.length {F:List Nat} {cs:List (TV u.U)} {vs:List Value} (hr:HsRel u G h F cs vs):cs.length=vs.length:=by
 induction cs generalizing vs F with
 |nil=>cases hr; rfl
 |cons c cs ih=>cases hr with|cons _ _ v vs F1 F2 h1 h2 h3=>simp[ih h2]
mutual
theorem HRel.lies:∀ {F:List Nat} {c:TV u.U} {v:Value},HRel u G h F c v→∀ b∈F,∃ o,h b=some o
 |_,_,_,.base c v hf ht,b,hb=>by cases hb
 |_,_,_,.onil T e,b,hb=>by cases hb
 |_,_,_,.own T e l b cap cur fz vals F h1 h2 h3 h4 h5 h6 h7 h8,k,hk=>by
  cases hk with
  |head=>exact ⟨_,h2⟩
  |tail _ hk=>exact HsRel.lies h7 k hk
 |_,_,_,.st n x vs F h1,b,hb=>HsRel.lies h1 b hb
theorem HsRel.lies:∀ {F:List Nat} {c:List (TV u.U)} {v:List Value},HsRel u G h F c v→∀ b∈F,∃ o,h b=some o
 |_,_,_,.nil,b,hb=>by cases hb
 |_,_,_,.cons c cs v vs F1 F2 h1 h2 h3,b,hb=>by
  rcases List.mem_append.1 hb with hb|hb
  ·exact HRel.lies h1 b hb
  ·exact HsRel.lies h2 b hb
end
theorem HsRel.append {F1 F2:List Nat} {cs ds:List (TV u.U)} {vs us:List Value} (h1:HsRel u G h F1 cs vs) (h2:HsRel u G h F2 ds us) (hd:∀ b∈F1,b∉F2):HsRel u G h (F1++F2) (cs++ds) (vs++us):=by
 induction cs generalizing vs F1 with
 |nil=>cases h1; simpa using h2
 |cons c cs ih=>
  cases h1 with
  |cons _ _ v vs F3 F4 a1 a2 a3=>
   have:=ih a2 (fun b hb=>hd b (by simp[hb]));have:=HsRel.cons c _ v _ F3 (F4++F2) a1 this (fun b hb=>by
    simp only[List.mem_append,not_or];exact ⟨a3 b hb,hd b (by simp[hb])⟩)
   simpa using this
theorem HsRel.split {F:List Nat} {cs ds:List (TV u.U)} {vs:List Value} (hr:HsRel u G h F (cs++ds) vs):∃ F1 F2 us ws,F=F1++F2∧vs=us++ws∧HsRel u G h F1 cs us∧HsRel u G h F2 ds ws∧∀ b∈F1,b∉F2:=by
 induction cs generalizing vs F with
 |nil=>exact ⟨[],F,[],vs,rfl,rfl,.nil,hr,fun b hb=>by cases hb⟩
 |cons c cs ih=>
  cases hr with
  |cons _ _ v vs F3 F4 a1 a2 a3=>
   obtain ⟨F1,F2,us,ws,rfl,rfl,i1,i2,i3⟩:=ih a2;refine ⟨F3++F1,F2,v::us,ws,by simp,rfl,.cons c cs v us F3 F1 a1 i1 (fun b hb hb'=>a3 b hb (by simp[hb'])),i2,fun b hb=>?_⟩;simp only[List.mem_append] at hb;rcases hb with hb|hb
   ·exact fun hb'=>a3 b hb (by simp[hb'])
   ·exact i3 b hb
theorem HsRel.at {F:List Nat} {cs:List (TV u.U)} {vs:List Value} (hr:HsRel u G h F cs vs) {i:Nat} {c:TV u.U} (hc:cs[i]? = some c) :
  ∃ v F1 F2 F3,vs[i]? = some v∧F=F1++F2++F3∧HRel u G h F2 c v∧HsRel u G h F1 (cs.take i) (vs.take i)∧HsRel u G h F3 (cs.drop (i+1)) (vs.drop (i+1))∧(∀ b∈F1,b∉F2∧b∉F3)∧(∀ b∈F2,b∉F3):=by
 have hi:i<cs.length:=(List.getElem?_eq_some_iff.1 hc).1;have e:cs=cs.take i++(c::cs.drop (i+1)):=by
  conv=>lhs; rw[← List.take_append_drop i cs]
  rw[List.drop_eq_getElem_cons hi];congr 2;have:=(List.getElem?_eq_some_iff.1 hc).2;exact this
 have hl:=hr.length;rw[e] at hr;obtain ⟨F1,F2,us,ws,rfl,e2,h1,h2,h3⟩:=hr.split;have hus:us.length=i:=by rw[← h1.length,List.length_take]; omega
 cases h2 with
 |cons _ _ v ws' F4 F5 a1 a2 a3=>
  have t1:vs.take i=us:=by rw[e2,← hus,List.take_left]
  have t2:vs.drop (i+1)=ws':=by rw[e2,← hus,List.drop_append]; simp
  refine ⟨v,F1,F4,F5,by rw[e2,List.getElem?_append_right (by omega),hus]; simp,by simp,a1,by rw[t1]; exact h1,by rw[t2]; exact a2,fun b hb=>?_,a3⟩;have:=h3 b hb;simp only[List.mem_append,not_or] at this;exact this
theorem HsRel.put {F1 F2 F3:List Nat} {cs:List (TV u.U)} {vs:List Value} {i:Nat} {c:TV u.U} {v:Value} (hi:i<cs.length) (hv:i<vs.length) (h1:HsRel u G h F1 (cs.take i) (vs.take i)) (h2:HRel u G h F2 c v) (h3:HsRel u G h F3 (cs.drop (i+1)) (vs.drop (i+1)))
  (d1:∀ b∈F1,b∉F2∧b∉F3) (d2:∀ b∈F2,b∉F3):HsRel u G h (F1++F2++F3) (cs.set i c) (vs.set i v):=by
 rw[List.set_eq_take_append_cons_drop,List.set_eq_take_append_cons_drop,if_pos hi,if_pos hv,List.append_assoc];exact h1.append (.cons _ _ _ _ _ _ h2 h3 d2) (fun b hb=>by
  simp only[List.mem_append,not_or];exact d1 b hb)
theorem HsRel.take {F:List Nat} {cs:List (TV u.U)} {vs:List Value} (hr:HsRel u G h F cs vs) (n:Nat):∃ F1 F2,F=F1++F2∧HsRel u G h F1 (cs.take n) (vs.take n)∧HsRel u G h F2 (cs.drop n) (vs.drop n)∧∀ b∈F1,b∉F2:=by
 have hl:=hr.length;rw[← List.take_append_drop n cs] at hr;obtain ⟨F1,F2,us,ws,rfl,rfl,h1,h2,h3⟩:=hr.split;have:=h1.length;have e:us.length=min n cs.length:=by rw[← this,List.length_take]
 refine ⟨F1,F2,rfl,?_,?_,h3⟩
 ·by_cases c:n≤cs.length
  ·rw[show (us++ws).take n=us by rw[show n=us.length by omega,List.take_left]]; exact h1
  ·have e2:ws=[]:=by
    have:=h2.length;rw[List.length_drop] at this;exact List.eq_nil_of_length_eq_zero (by omega)
   subst e2;have e3:us.take n=us:=List.take_of_length_le (by omega);rw[List.append_nil,e3];exact h1
 ·by_cases c:n≤cs.length
  ·rw[show (us++ws).drop n=ws by rw[show n=us.length by omega,List.drop_left]]; exact h2
  ·have e2:ws=[]:=by
    have:=h2.length;rw[List.length_drop] at this;exact List.eq_nil_of_length_eq_zero (by omega)
   subst e2;rw[List.append_nil,List.drop_eq_nil_of_le (as:=us) (by omega)];exact h2
theorem HsRel.ofTs {cs:List (TV u.U)} {vs:List Value} (hf:∀ c∈cs,c.t.flat=true) (hr:TsRel u G cs vs):HsRel u G h [] cs vs:=by
 induction cs generalizing vs with
 |nil=>cases hr; exact .nil
 |cons c cs ih=>cases hr with|cons _ _ v vs h1 h2=>exact .cons _ _ _ _ [] [] (.base _ _ (hf c (by simp)) h1) (ih (fun d hd=>hf d (by simp[hd])) h2) (fun b hb=>by cases hb)
theorem HRel.ofT {c:TV u.U} {v:Value} (hr:TRel u G c v):HRel u G h [] c v:=by
 obtain ⟨t,x⟩:=c;cases t
 case st n=>
  obtain ⟨vs,rfl,h2⟩:=hr.st_inv;exact .st n x vs [] (.ofTs (fun d hd=>u.tcells_flat ⟨.st n,x⟩ d hd) h2)
 all_goals exact .base _ _ rfl hr
theorem HsRel.ofTsL {cs:List (TV u.U)} {vs:List Value} (hr:TsRel u G cs vs):HsRel u G h [] cs vs:=by
 induction cs generalizing vs with
 |nil=>cases hr; exact .nil
 |cons c cs ih=>cases hr with|cons _ _ v vs h1 h2=>exact .cons _ _ _ _ [] [] (.ofT h1) (ih h2) (fun b hb=>by cases hb)
theorem HsRel.toTs {F:List Nat} {cs:List (TV u.U)} {vs:List Value} (hf:∀ c∈cs,c.t.flat=true∧c.t.isOwn=false) (hr:HsRel u G h F cs vs):F=[]∧TsRel u G cs vs:=by
 induction cs generalizing vs F with
 |nil=>cases hr; exact ⟨rfl,.nil⟩
 |cons c cs ih=>
  cases hr with
  |cons _ _ v vs F1 F2 h1 h2 h3=>
   obtain ⟨rfl,i2⟩:=ih (fun d hd=>hf d (by simp[hd])) h2;obtain ⟨f1,f2⟩:=hf c (by simp);cases h1 with
   |base _ _ _ ht=>exact ⟨rfl,.cons _ _ _ _ ht i2⟩
   |onil=>simp[Ty.isOwn] at f2
   |own=>simp[Ty.isOwn] at f2
   |st=>simp[Ty.flat] at f1
theorem HRel.toT {F:List Nat} {c:TV u.U} {v:Value} (hp:u.plainTy c.t=true) (hr:HRel u G h F c v):F=[]∧TRel u G c v:=by
 cases hr with
 |base _ _ _ ht=>exact ⟨rfl,ht⟩
 |onil=>simp[Uni.plainTy] at hp
 |own=>simp[Uni.plainTy] at hp
 |st n x vs F h1=>
  simp only[Uni.plainTy,List.all_eq_true,Bool.not_eq_true'] at hp;obtain ⟨rfl,h2⟩:=h1.toTs (fun c hc=>⟨u.tcells_flat ⟨.st n,x⟩ c hc,hp _ (by rw[← u.tys_ok n x]; exact List.mem_map_of_mem hc)⟩);exact ⟨rfl,.st n x vs h2⟩
theorem HsRel.toTsL {F:List Nat} {e:Ty} (hp:u.plainTy e=true) {l:List (e.den u.U)} {vs:List Value} (hr:HsRel u G h F (l.map (TV.mk e)) vs):F=[]∧TsRel u G (l.map (TV.mk e)) vs:=by
 induction l generalizing vs F with
 |nil=>cases hr; exact ⟨rfl,.nil⟩
 |cons c cs ih=>
  simp only[List.map_cons] at hr ⊢;cases hr with
  |cons _ _ v vs F1 F2 h1 h2 h3=>
   obtain ⟨rfl,i2⟩:=ih h2;obtain ⟨rfl,i1⟩:=h1.toT hp;exact ⟨rfl,.cons _ _ _ _ i1 i2⟩
theorem HRel.oneCell {F:List Nat} {c:TV u.U} {v:Value} (hr:HRel u G h F c v) (hf:c.t.flat=true):v.oneCell'=true:=by
 cases hr with
 |base _ _ _ ht=>exact ht.oneCell hf
 |onil=>rfl
 |own=>rfl
 |st=>simp[Ty.flat] at hf
theorem HRel.cells_flat {F:List Nat} {c:TV u.U} {v:Value} (hr:HRel u G h F c v) (hf:c.t.flat=true):v.cells=#[v]:=by
 cases hr with
 |base _ _ _ ht=>exact ht.cells_flat hf
 |onil=>rfl
 |own=>rfl
 |st=>simp[Ty.flat] at hf
theorem HRel.cells {F:List Nat} {c:TV u.U} {v:Value} (hr:HRel u G h F c v):HsRel u G h F (u.tcells c) v.cells.toList:=by
 cases hr with
 |st n x vs F h1=>simpa [Uni.tcells,Value.cells] using h1
 |base c v hf ht=>
  have e:u.tcells c=[c]:=by
   obtain ⟨t,x⟩:=c;cases t<;>first|rfl|(simp[Ty.flat] at hf)
  rw[e,ht.cells_flat hf];exact .cons _ _ _ _ [] [] (.base _ _ hf ht) .nil (fun b hb=>by cases hb)
 |onil T e=>exact .cons _ _ _ _ [] [] (.onil T e) .nil (fun b hb=>by cases hb)
 |own T e l b cap cur fz vals F h1 h2 h3 h4 h5 h6 h7 h8=>
  have:=HsRel.cons _ _ _ _ _ [] (HRel.own (u:=u) (G:=G) T e l b cap cur fz vals F h1 h2 h3 h4 h5 h6 h7 h8) .nil (fun b _ hb=>by cases hb);simpa [Uni.tcells,Value.cells] using this
theorem HRel.size {F:List Nat} {c:TV u.U} {v:Value} (hr:HRel u G h F c v):v.cells.size=u.size c.t:=by
 have:=hr.cells.length;rw[u.tcells_length] at this;simpa using this.symm
theorem HsRel.mem {F:List Nat} {cs:List (TV u.U)} {vs:List Value} (hr:HsRel u G h F cs vs) {v:Value} (hv:v∈vs):∃ c∈cs,∃ F',HRel u G h F' c v:=by
 induction cs generalizing vs F with
 |nil=>cases hr; cases hv
 |cons c cs ih=>
  cases hr with
  |cons _ _ v' vs F1 F2 h1 h2 h3=>
   cases hv with
   |head=>exact ⟨c,by simp,F1,h1⟩
   |tail _ hv=>obtain ⟨d,h4,h5⟩:=ih h2 hv; exact ⟨d,by simp[h4],h5⟩
theorem HRel.cells_oneCell {F:List Nat} {c:TV u.U} {v:Value} (hr:HRel u G h F c v) {x:Value} (hx:x∈v.cells.toList):x.oneCell'=true:=by
 obtain ⟨d,hd,F',hr'⟩:=hr.cells.mem hx;exact hr'.oneCell (u.tcells_flat c d hd)
theorem HsRel.sizes {F:List Nat} {e:Ty} {l:List (e.den u.U)} {vals:List Value} (hr:HsRel u G h F (l.map (TV.mk e)) vals):∀ x∈vals,x.cells.size=u.size e:=by
 intro x hx;obtain ⟨c,hc,F',h1⟩:=hr.mem hx;simp only[List.mem_map] at hc;obtain ⟨y,_,rfl⟩:=hc;exact h1.size
theorem castL {α β:Type} (h:α=β) (h':List α=List β) (l:List α):cast h' l=l.map (cast h):=by
 subst h;exact (List.map_id l).symm
theorem Uni.size_plain (u:Uni):∀ e:Ty,u.size (e.plain u.pn)=u.size e
 |.st n=>by
  show (u.ctys (u.pn n)).length=(u.ctys n).length;rw[u.pt n,List.length_map]
 |.own _ _=>rfl
 |.int _=>rfl
 |.bool=>rfl
 |.str=>rfl
 |.slc _=>rfl
 |.fn=>rfl
 |.err=>rfl
 |.map _ _=>rfl
theorem zamc {u:Uni} {e:Ty} (l:List (e.den u.U)):(l.map (TV.mk (U:=u.U) e)).map (TV.plain u.pd)=(l.map (cast (Ty.plain_den u.pd e).symm)).map (TV.mk (e.plain u.pn)):=by
 rw[List.map_map,List.map_map];rfl
theorem zaod {u:Uni} {T:Nat} {e:Ty} (l:List (e.den u.U)):TV.plain u.pd (⟨.own T e,l⟩:TV u.U)=⟨.slc (e.plain u.pn),l.map (cast (Ty.plain_den u.pd e).symm)⟩:=by
 show (⟨_,cast _ l⟩:TV u.U)=_;congr 1;exact castL _ _ l
theorem zaxu {u:Uni} {n:Nat} (x:u.U n):TV.plain u.pd (⟨.st n,x⟩:TV u.U)=⟨.st (u.pn n),cast (u.pd n).symm x⟩:=rfl
theorem zamw {u:Uni} {c:TV u.U} (h:c.t.flat=true) (h':c.t.isOwn=false):c.plain u.pd=c:=by
 obtain ⟨t,x⟩:=c;cases t<;>first|rfl|(simp[Ty.flat] at h; done)|(simp[Ty.isOwn] at h'; done)
theorem TRel.notOwn {c:TV u.U} {v:Value} (h:TRel u G c v):c.t.isOwn=false:=by cases h<;>rfl
theorem zahl {es n:Nat} {cur:Array Value} {vals:List Value} (hs:∀ x∈vals,x.cells.size=es) (h:cur.toList.take n=vals.flatMap fun x=>x.cells.toList):Laid cur 0 es vals:=by
 have key:∀ (vals pre:List Value),(∀ x∈vals,x.cells.size=es)→Laid (pre++vals.flatMap fun x=>x.cells.toList).toArray pre.length es vals:=by
  intro vals;induction vals with
  |nil=>intro pre h i x hx; simp at hx
  |cons v vals ih=>
   intro pre h;have ih:=ih (pre++v.cells.toList) (fun x hx=>h x (by simp[hx]));intro i x hx;have hv:=h v (by simp);cases i with
   |zero=>
    simp at hx;subst hx;refine ⟨hv,fun j c hc=>?_⟩;have hj:j<v.cells.size:=(Array.getElem?_eq_some_iff.1 hc).1;simp only[Nat.zero_mul,Nat.add_zero,List.flatMap_cons,List.getElem?_toArray];rw[List.getElem?_append_right (by omega),List.getElem?_append_left (by simp; omega)];simpa using hc
   |succ i=>
    simp at hx;obtain ⟨h1,h2⟩:=ih i x hx;refine ⟨h1,fun j c hc=>?_⟩;have:=h2 j c hc;simp only[List.flatMap_cons,List.append_assoc,List.length_append,Array.length_toList,hv] at this ⊢;rw[show pre.length+(i+1)*es+j=pre.length+es+i*es+j by rw[Nat.add_mul]; omega];exact this
 have hL:=key vals [] hs;intro i x hx;obtain ⟨a,b⟩:=hL i x hx;refine ⟨a,fun j y hy=>?_⟩;have:=b j y hy;simp only[List.nil_append,List.getElem?_toArray,List.length_nil,Nat.zero_add] at this ⊢;rw[← h,List.getElem?_take] at this;split at this
 ·simpa using this
 ·cases this
mutual
theorem HRel.settle (hg:∀ k o,G k=some o→G' k=some o):∀ {F:List Nat} {c:TV u.U} {v:Value},HRel u G h F c v→(∀ b∈F,G' b=h b)→TRel u G' (c.plain u.pd) v
 |_,_,_,.base c v hf ht,_=>by rw[zamw hf ht.notOwn]; exact ht.mono hg
 |_,_,_,.onil T e,_=>by rw[zaod]; exact .nil _ _
 |_,_,_,.own T e l b cap cur fz vals F h1 h2 h3 h4 h5 h6 h7 h8,hk=>by
  rw[zaod];have ht:=HsRel.settle hg h7 (fun b hb=>hk b (by simp[hb]));rw[zamc] at ht
  have:=TRel.slc (u:=u) (G:=G') (e.plain u.pn) (l.map (cast (Ty.plain_den u.pd e).symm)) b 0 cap cur T fz vals (by simpa using h3) ((hk b (by simp)).trans h2) ht (by
   rw[u.size_plain];exact zahl h7.sizes h6)
  simpa using this
 |_,_,_,.st n x vs F h1,hk=>by
  rw[zaxu];have ht:=HsRel.settle hg h1 hk;rw[← u.pc n x] at ht;exact .st _ _ vs ht
theorem HsRel.settle (hg:∀ k o,G k=some o→G' k=some o):∀ {F:List Nat} {c:List (TV u.U)} {v:List Value},HsRel u G h F c v→(∀ b∈F,G' b=h b)→TsRel u G' (c.map (TV.plain u.pd)) v
 |_,_,_,.nil,_=>.nil
 |_,_,_,.cons c cs v vs F1 F2 h1 h2 h3,hk=>.cons _ _ _ _ (HRel.settle hg h1 (fun b hb=>hk b (by simp[hb]))) (HsRel.settle hg h2 (fun b hb=>hk b (by simp[hb])))
end
def Uni.closedTy (u:Uni):Ty→Bool
 |.int _=>true|.bool=>true|.str=>true|.err=>true|.fn=>true
 |.st n=>u.closed n
 |.own _ (.st m)=>u.closed m
 |.own _ e=>match e with|.int _=>true|.bool=>true|.str=>true|_=>false
 |_=>false
theorem Uni.closed_cells (u:Uni) {n:Nat} (hc:u.closed n=true) {x:u.U n} {c:TV u.U} (h:c∈u.cells n x):u.closedTy c.t=true:=by
 have hm:c.t∈u.ctys n:=by rw[← u.tys_ok n x]; exact List.mem_map_of_mem h
 have h1:=u.closed_ok n hc _ hm;have h2:=u.flat_ok n _ hm;generalize c.t=t at h1 h2;cases t with
 |own T e=>cases e<;>first|exact h1|(simp at h1)
 |st n=>simp[Ty.flat] at h2
 |_=>first|rfl|(simp at h1)
mutual
theorem HRel.closed:∀ {F:List Nat} {c:TV u.U} {v:Value},HRel u G h F c v→u.closedTy c.t=true→HRel u G' h F c v
 |_,_,_,.base c v hf ht,hc=>by
  refine .base c v hf ?_;cases ht with
  |int=>exact .int _ _
  |bool=>exact .bool _
  |str=>exact .str _
  |fn=>exact .fn _
  |noErr=>exact .noErr
  |anErr=>exact .anErr _ _
  |nil=>simp[Uni.closedTy] at hc
  |slc=>simp[Uni.closedTy] at hc
  |st=>simp[Ty.flat] at hf
  |mnil=>simp[Uni.closedTy] at hc
  |map=>simp[Uni.closedTy] at hc
 |_,_,_,.onil T e,_=>.onil T e
 |_,_,_,.own T e l b cap cur fz vals F h1 h2 h3 h4 h5 h6 h7 h8,hc=>.own T e l b cap cur fz vals F h1 h2 h3 h4 h5 h6 (HsRel.closed h7 (fun c hc'=>by
   simp only[List.mem_map] at hc';obtain ⟨y,_,rfl⟩:=hc';cases e<;>first|exact hc|rfl|(simp[Uni.closedTy] at hc))) h8
 |_,_,_,.st n x vs F h1,hc=>.st n x vs F (HsRel.closed h1 (fun c hm=>u.closed_cells hc hm))
theorem HsRel.closed:∀ {F:List Nat} {c:List (TV u.U)} {v:List Value},HsRel u G h F c v→(∀ d∈c,u.closedTy d.t=true)→HsRel u G' h F c v
 |_,_,_,.nil,_=>.nil
 |_,_,_,.cons c cs v vs F1 F2 h1 h2 h3,hc=>.cons c cs v vs F1 F2 (HRel.closed h1 (hc c (by simp))) (HsRel.closed h2 (fun d hd=>hc d (by simp[hd]))) h3
end
end
end Lift
namespace Lift
open Go Go.RowKit
inductive PV (U:Nat→Type) where
 |t (v:TV U)
 |junk
 |k (v:Value)
 |ptr (id off:Nat)
 |selfp (id:Nat)
 |bslc (id n:Nat)
 |oslc (id ver:Nat)
 |eptr (id ver i off:Nat)
 |rptr (v:TV U) (off:Nat)
 |agg (l:List (PV U))
 |tup (l:List (PV U))
 |clo (f:Nat) (caps:List (PV U))
 |ifc (T:TypeId) (p:PV U)
 |ub
inductive Ob (U:Nat→Type) where
 |blk (T:TypeId) (cells:List (PV U))
 |row (T:TypeId) (ver:Nat) (e:Ty) (l:List (e.den U))
 |frz (ver:Nat) (e:Ty) (l:List (e.den U))
 |sit (s:List UInt8) (pos:Nat)
 |mp (k e:Ty) (l:List (k.den U×e.den U))
 |fmp (k e:Ty) (l:List (k.den U×e.den U))
 |opn (T:TypeId) (ver:Nat) (e:Ty) (l:List (e.den U)) (i:Nat) (cs:List (PV U))
 |dead
def Ob.now {U:Nat→Type} (ver:Nat):Ob U→Option ((e:Ty)×List (e.den U))
 |.row _ v e l=>bif Nat.beq v ver then some ⟨e,l⟩ else none
 |.frz v e l=>bif Nat.beq v ver then some ⟨e,l⟩ else none
 |.opn _ v e l _ _=>bif Nat.beq v ver then some ⟨e,l⟩ else none
 |_=>none
def Ob.val {U:Nat→Type} (ver:Nat):Ob U→Option ((e:Ty)×List (e.den U))
 |.row _ v e l=>bif Nat.beq v ver then some ⟨e,l⟩ else none
 |.frz v e l=>bif Nat.beq v ver then some ⟨e,l⟩ else none
 |_=>none
def Ob.isOpn {U:Nat→Type}:Ob U→Bool
 |.opn _ _ _ _ _ _=>true
 |_=>false
def Ob.mapOf {U:Nat→Type}:Ob U→Option ((k:Ty)×(e:Ty)×List (k.den U×e.den U))
 |.mp k e l=>some ⟨k,e,l⟩
 |.fmp k e l=>some ⟨k,e,l⟩
 |_=>none
def zacw (u:Uni) (e:Ty) (l:List (e.den u.U)):List ((e.plain u.pn).den u.U):=cast (congrArg List (Ty.plain_den u.pd e).symm) l
def Ob.freeze (u:Uni):Ob u.U→Ob u.U
 |.row _ v e l=>.frz v (e.plain u.pn) (zacw u e l)
 |.mp k e l=>.fmp k e l
 |o=>o
def Ob.isP {U:Nat→Type}:Ob U→Bool
 |.blk _ _=>true
 |.sit _ _=>true
 |.mp _ _ _=>true
 |.fmp _ _ _=>true
 |_=>false
def look {α:Type}:List (Nat×α)→Nat→Option α
 |[],_=>none
 |(j,x)::r,i=>bif Nat.beq j i then some x else look r i
structure St (U:Nat→Type) where
 tm:List (Nat×PV U)
 st:List (Nat×Ob U)
noncomputable def both {R:Type} (x y:Option R):Option R:=match Classical.propDecidable (x=y) with
 |.isTrue _=>x
 |.isFalse _=>none
theorem zava {R:Type} {x y:Option R} {r:R} (h:both x y=some r):x=some r∧y=some r:=by
 unfold both at h;split at h
 ·rename_i e _; exact ⟨h,e▸h⟩
 ·cases h
theorem zaom {R:Type} (x:Option R):both x x=x:=by
 unfold both;split
 ·rfl
 ·rename_i h _; exact absurd rfl h
inductive Tr (α:Type) where
 |fail
 |ret (a:α)
 |br (b:Bool) (x y:Tr α)
 |get {β:Type} (o:Option β) (k:β→Tr α)
 |alt {β γ:Type} (s:β⊕γ) (k:β→Tr α) (h:γ→Tr α)
def Tr.val {α:Type}:Tr α→Option α
 |.fail=>none
 |.ret a=>some a
 |.br b x y=>match b with|true=>x.val|false=>y.val
 |.get o k=>match o with|some b=>(k b).val|none=>none
 |.alt s k h=>match s with|.inl b=>(k b).val|.inr c=>(h c).val
def Tr.on {α R:Type}:Tr α→(α→Option R)→Option R
 |.fail=>fun _=>none
 |.ret a=>fun k=>k a
 |.br b x y=>fun c=>match b with|true=>x.on c|false=>y.on c
 |.get o k=>fun c=>match o with|some b=>(k b).on c|none=>none
 |.alt s k h=>fun c=>match s with|.inl b=>(k b).on c|.inr d=>(h d).on c
theorem Tr.on_eq {α R:Type} (t:Tr α) (k:α→Option R):t.on k=t.val.bind k:=by
 induction t with
 |fail=>rfl
 |ret a=>rfl
 |br b x y ih1 ih2=>cases b<;>simp[Tr.on,Tr.val,ih1,ih2]
 |get o f ih=>cases o<;>simp[Tr.on,Tr.val,ih]
 |alt s f g ih1 ih2=>cases s<;>simp[Tr.on,Tr.val,ih1,ih2]
section
def asT {U:Nat→Type} (t:Ty) (v:TV U):Option (t.den U):=if h:v.t=t then some (h▸v.x) else none
def PV.asFlat {U:Nat→Type} (t:Ty):PV U→Option (TV U)
 |.t v=>if v.t=t then some v else none
 |.k (.slice none 0 0)=>match t with|.slc e=>some ⟨.slc e,([]:List (e.den U))⟩|_=>none
 |.k .nilIface=>match t with|.err=>some ⟨.err,false⟩|_=>none
 |.k (.map none)=>match t with|.map kt e=>some ⟨.map kt e,([]:List (kt.den U×e.den U))⟩|_=>none
 |.k (.func (.func f) a b)=>match t with|.fn=>if a.size=0∧b.size=0 then some ⟨.fn,f⟩ else none|_=>none
 |_=>none
def PV.asOwn (u:Uni) (S:Nat→Option (Ob u.U)) (t:Ty):PV u.U→Option (TV u.U)
 |.oslc id ver=>match (S id).bind (·.val ver) with
  |some ⟨e,l⟩=>if Ty.slc (e.plain u.pn)=t then some ⟨.slc (e.plain u.pn),zacw u e l⟩ else none
  |none=>none
 |.ptr id 0=>match (S id).bind Ob.mapOf with
  |some ⟨kt,e,l⟩=>if Ty.map kt e=t then some ⟨.map kt e,l⟩ else none
  |none=>none
 |p=>p.asFlat t
def zaa7 {U:Nat→Type} (f:Ty→PV U→Option (TV U)):List Ty→List (PV U)→Option (List (TV U))
 |[],[]=>some []
 |t::ts,p::ps=>(f t p).bind fun v=>(zaa7 f ts ps).bind fun vs=>some (v::vs)
 |_,_=>none
def PV.asVal (u:Uni) (S:Nat→Option (Ob u.U)) (t:Ty):PV u.U→Option (TV u.U)
 |.agg l=>match t with
  |.st n=>(zaa7 (PV.asOwn u S) (u.ctys n) l).bind fun cs=>(u.make n cs).bind fun x=>some ⟨.st n,x⟩
  |_=>none
 |p=>p.asOwn u S t
end
def zaf1 (u:Uni) (S:Nat→Option (Ob u.U)):Ty→PV u.U→Option (TV u.U×List Nat)
 |.own T e,.oslc id ver=>match S id with
  |some (.row T' v e' m)=>if h:e'=e then (if v=ver∧T'=T then some (⟨.own T e,(h▸m:List (e.den u.U))⟩,[id]) else none) else none
  |_=>none
 |.own T e,.k (.slice none 0 0)=>some (⟨.own T e,([]:List (e.den u.U))⟩,[])
 |.own _ _,_=>none
 |t,p=>(p.asFlat t).map fun v=>(v,[])
def zab4 (u:Uni) (S:Nat→Option (Ob u.U)):List Ty→List (PV u.U)→Option (List (TV u.U)×List Nat)
 |[],[]=>some ([],[])
 |t::ts,p::ps=>(zaf1 u S t p).bind fun v=>(zab4 u S ts ps).bind fun vs=>some (v.1::vs.1,v.2++vs.2)
 |_,_=>none
def zagv (u:Uni) (S:Nat→Option (Ob u.U)) (t:Ty) (p:PV u.U):Option (TV u.U×List Nat):=
 match t with
 |.st n=>match p with
  |.agg l=>(zab4 u S (u.ctys n) l).bind fun v=>(u.make n v.1).bind fun x=>some (⟨.st n,x⟩,v.2)
  |_=>none
 |t=>zaf1 u S t p
def zady (u:Uni) (S:Nat→Option (Ob u.U)) (t:Ty):List (PV u.U)→Option (List (TV u.U)×List Nat)
 |[]=>some ([],[])
 |p::ps=>(zagv u S t p).bind fun v=>(zady u S t ps).bind fun vs=>some (v.1::vs.1,v.2++vs.2)
def zaes (u:Uni) (e:Ty) (cs:List (TV u.U)):Option (e.den u.U):=
 match e with
 |.st n=>u.make n cs
 |e=>match cs with
  |[v]=>asT e v
  |_=>none
mutual
def PV.ids {U:Nat→Type}:PV U→List Nat
 |.ptr id _=>[id]
 |.selfp id=>[id]
 |.bslc id _=>[id]
 |.oslc id _=>[id]
 |.eptr id _ _ _=>[id]
 |.agg l=>PV.idsL l
 |.tup l=>PV.idsL l
 |.clo _ l=>PV.idsL l
 |.ifc _ p=>p.ids
 |_=>[]
def PV.idsL {U:Nat→Type}:List (PV U)→List Nat
 |[]=>[]
 |p::l=>p.ids++PV.idsL l
end
inductive Loc where
 |slot (s:Nat)
 |cell (id j:Nat)
 |sub (s j:Nat)
 deriving DecidableEq
structure RowAnn where
 loc:Loc
 id:Nat
 T:TypeId
 e:Ty
structure Ann where
 slots:List Nat
 objs:List Nat
 rows:List RowAnn
inductive Sh where
 |t (ty:Ty)
 |junk
 |nil
 |fnc (f:Nat)
 |ptr (id off:Nat)
 |selfp (id:Nat)
 |oslc (id:Nat)
 |rptr (ty:Ty) (off:Nat)
 |agg (l:List Sh)
 |tup (l:List Sh)
 |clo (f:Nat) (l:List Sh)
 |ifc (T:TypeId) (s:Sh)
inductive OSh where
 |blk (T:TypeId) (l:List Sh)
 |row (T:TypeId) (e:Ty)
 |sit
 |mp (k e:Ty)
 |opn (T:TypeId) (e:Ty) (l:List Sh)
structure StSh where
 ann:Ann
 tm:List Sh
 st:List OSh
def zaba:Nat:=777777
def StSh.isPanL (s:StSh):Bool:=s.ann.slots.elem zaba
def StSh.isPan (s:StSh):Bool:=match s.ann.slots with
 |[i]=>Nat.beq i zaba
 |_=>false
def StSh.slots (s:StSh):List Nat:=s.ann.slots
def StSh.ids (s:StSh):List Nat:=s.ann.objs++s.ann.rows.map (·.id)
inductive Xit where
 |normal
 |exit (id:Nat)
 |ret
 |pan
structure Out where
 xit:Xit
 sh:StSh
structure Loop (U:Nat→Type) where
 sh:StSh
 outs:List Out
 sum:List (TV U)→Tr (Nat×List (TV U))
structure Find where
 id:Nat
 loc:Loc
 path:List Nat
structure Mode (U:Nat→Type) where
 sh:StSh
 finds:List Find
 outs:List StSh
 sum:List (TV U)→Tr (Nat×List (TV U))
section
variable {U:Nat→Type}
mutual
def Sh.fill:Sh→List (TV U)→PV U×List (TV U)
 |.t _,c::r=>(.t c,r)
 |.t _,[]=>(.junk,[])
 |.junk,r=>(.junk,r)
 |.nil,r=>(.k (.slice none 0 0),r)
 |.fnc f,r=>(.k (.func (.func f) #[] #[]),r)
 |.ptr i o,r=>(.ptr i o,r)
 |.selfp i,r=>(.selfp i,r)
 |.oslc i,r=>(.oslc i 0,r)
 |.rptr _ o,c::r=>(.rptr c o,r)
 |.rptr _ _,[]=>(.junk,[])
 |.agg l,r=>(.agg (Sh.fills l r).1,(Sh.fills l r).2)
 |.tup l,r=>(.tup (Sh.fills l r).1,(Sh.fills l r).2)
 |.clo f l,r=>(.clo f (Sh.fills l r).1,(Sh.fills l r).2)
 |.ifc T s,r=>(.ifc T (s.fill r).1,(s.fill r).2)
def Sh.fills:List Sh→List (TV U)→List (PV U)×List (TV U)
 |[],r=>([],r)
 |s::ss,r=>((s.fill r).1::(Sh.fills ss (s.fill r).2).1,(Sh.fills ss (s.fill r).2).2)
end
def OSh.fill:OSh→List (TV U)→Ob U×List (TV U)
 |.blk bT ss,r=>(.blk bT (Sh.fills ss r).1,(Sh.fills ss r).2)
 |.row T _,⟨.slc e,l⟩::r=>(.row T 0 e l,r)
 |.sit,⟨.str,s⟩::⟨.fn,p⟩::r=>(.sit s p,r)
 |.mp _ _,⟨.map k e,l⟩::r=>(.mp k e l,r)
 |.opn T _ ss,⟨.slc e,l⟩::⟨.fn,i⟩::r=>(.opn T 0 e l i (Sh.fills ss r).1,(Sh.fills ss r).2)
 |_,r=>(.dead,r)
def zafu:List OSh→List Nat→List (TV U)→List (Nat×Ob U)
 |s::ss,i::is,r=>(i,(s.fill r).1)::zafu ss is (s.fill r).2
 |_,_,_=>[]
def zadf:List Sh→List Nat→List (TV U)→List (Nat×PV U)×List (TV U)
 |s::ss,i::is,r=>((i,(s.fill r).1)::(zadf ss is (s.fill r).2).1,(zadf ss is (s.fill r).2).2)
 |_,_,r=>([],r)
def StSh.fill (sh:StSh) (ls:List (TV U)):St U:=⟨(zadf sh.tm sh.slots ls).1,zafu sh.st sh.ids (zadf sh.tm sh.slots ls).2⟩
structure RowNow (U:Nat→Type) where
 ann:RowAnn
 src:Option Nat
 ver:Nat
 l:List (ann.e.den U)
 o:Option (Nat×List (PV U)):=none
variable (tm:Nat→Option (PV U)) (S:Nat→Option (Ob U))
def locPV:Loc→Option (PV U)
 |.slot s=>tm s
 |.cell id j=>match S id with
  |some (.blk _ cs)=>cs[j]?
  |_=>none
 |.sub s j=>match tm s with
  |some (.agg l)=>l[j]?
  |_=>none
def zakn (fc:Bool) (r:RowAnn):Option (RowNow U):=
 match locPV tm S r.loc with
 |some (.k (.slice none 0 0))=>some ⟨r,none,0,[],none⟩
 |some (.oslc id v)=>match S id with
  |some (.row T v' e l)=>if h:e=r.e then (if v'=v∧T=r.T then some ⟨r,some id,v,h▸l,none⟩ else none) else none
  |some (.opn T v' e l i cs)=>bif fc then (if h:e=r.e then (if v'=v∧T=r.T then some ⟨r,some id,v,h▸l,some (i,cs)⟩ else none) else none) else none
  |_=>none
 |_=>none
def zadi (fc:Bool):List RowAnn→Option (List (RowNow U))
 |[]=>some []
 |r::rs=>(zakn tm S fc r).bind fun x=>(zadi fc rs).bind fun xs=>some (x::xs)
def renOf (rn:List (RowNow U)) (id:Nat):Option Nat:=match rn with
 |[]=>none
 |x::r=>if x.src=some id then some x.ann.id else renOf r id
def atLoc (rn:List (RowNow U)) (loc:Loc):Option Nat:=match rn with
 |[]=>none
 |x::r=>if x.ann.loc=loc then some x.ann.id else atLoc r loc
mutual
def zaan (fc:Bool) (objs:List Nat) (rn:List (RowNow U)):PV U→PV U
 |.t v=>.t v
 |.k v=>.k v
 |.rptr v o=>.rptr v o
 |.ptr id off=>if objs.elem id=true then .ptr id off else .junk
 |.selfp id=>if objs.elem id=true then .selfp id else .junk
 |.oslc id ver=>match renOf rn id with
  |some c=>match S id with
   |some (.row _ v _ _)=>if v=ver then .oslc c 0 else .junk
   |some (.opn _ v _ _ _ _)=>if v=ver then .oslc c 0 else .junk
   |_=>.junk
  |none=>if fc=true then (match S id with
   |some (.frz v e l)=>if v=ver then .t ⟨.slc e,l⟩ else .junk
   |_=>.junk) else .junk
 |.agg l=>.agg (zab1 fc objs rn l)
 |.tup l=>.tup (zab1 fc objs rn l)
 |.clo f l=>.clo f (zab1 fc objs rn l)
 |.ifc T p=>.ifc T (zaan fc objs rn p)
 |_=>.junk
def zab1 (fc:Bool) (objs:List Nat) (rn:List (RowNow U)):List (PV U)→List (PV U)
 |[]=>[]
 |p::l=>zaan fc objs rn p::zab1 fc objs rn l
end
def zaf4 (fc:Bool) (objs:List Nat) (rn:List (RowNow U)) (loc:Loc) (p:PV U):PV U:=
 match atLoc rn loc with
 |some c=>.oslc c 0
 |none=>zaan S fc objs rn p
def zadu (fc:Bool) (objs:List Nat) (rn:List (RowNow U)) (s:Nat):Nat→List (PV U)→List (PV U)
 |_,[]=>[]
 |j,p::l=>zaf4 S fc objs rn (.sub s j) p::zadu fc objs rn s (j+1) l
def zaeh (fc:Bool) (objs:List Nat) (rn:List (RowNow U)) (s:Nat) (p:PV U):PV U:=
 match p with
 |.agg l=>.agg (zadu S fc objs rn s 0 l)
 |p=>zaf4 S fc objs rn (.slot s) p
def zacf (fc:Bool) (objs:List Nat) (rn:List (RowNow U)) (id:Nat):Nat→List (PV U)→List (PV U)
 |_,[]=>[]
 |j,p::l=>zaf4 S fc objs rn (.cell id j) p::zacf fc objs rn id (j+1) l
def zadl (fc:Bool) (objs:List Nat) (rn:List (RowNow U)):List Nat→Option (List (Nat×Ob U))
 |[]=>some []
 |id::r=>match S id with
  |some (.blk bT cs)=>(zadl fc objs rn r).bind fun xs=>some ((id,.blk bT (zacf S fc objs rn id 0 cs))::xs)
  |some (.sit s p)=>(zadl fc objs rn r).bind fun xs=>some ((id,.sit s p)::xs)
  |some (.mp k e l)=>(zadl fc objs rn r).bind fun xs=>some ((id,.mp k e l)::xs)
  |_=>none
def rowOb (fc:Bool) (objs:List Nat) (rn:List (RowNow U)) (x:RowNow U):Ob U:=match x.o with
 |none=>.row x.ann.T 0 x.ann.e x.l
 |some (i,cs)=>.opn x.ann.T 0 x.ann.e x.l i (zab1 S fc objs rn cs)
def zab7 (fc:Bool) (objs:List Nat) (rn:List (RowNow U)):List (Nat×Ob U):=rn.map fun x=>(x.ann.id,rowOb S fc objs rn x)
def zacb:List Nat→Bool
 |[]=>true
 |x::l=>!l.elem x&&zacb l
def zaer (fc:Bool) (objs:List Nat) (rn:List (RowNow U)):List Nat→List (Nat×PV U)
 |[]=>[]
 |s::r=>match tm s with
  |some p=>(s,zaeh S fc objs rn s p)::zaer fc objs rn r
  |none=>zaer fc objs rn r
def mask (fc:Bool) (A:Ann):Option (St U×List (RowNow U)):=
 (zadi tm S fc A.rows).bind fun rn=>(zadl S fc A.objs rn A.objs).bind fun obs=>
  if zacb (A.objs ++ rn.map (·.ann.id)) = true ∧ zacb (rn.filterMap (·.src)) = true then
   some (⟨zaer tm S fc A.objs rn A.slots,obs++zab7 S fc A.objs rn⟩,rn)
  else none
abbrev Ren:=Nat→Nat×Nat
mutual
def renP (φ:Ren):PV U→PV U
 |.ptr id off=>.ptr (φ id).1 off
 |.selfp id=>.selfp (φ id).1
 |.bslc id n=>.bslc (φ id).1 n
 |.oslc id ver=>.oslc (φ id).1 ((φ id).2+ver)
 |.eptr id ver i off=>.eptr (φ id).1 ((φ id).2+ver) i off
 |.agg l=>.agg (renPs φ l)
 |.tup l=>.tup (renPs φ l)
 |.clo f l=>.clo f (renPs φ l)
 |.ifc T p=>.ifc T (renP φ p)
 |p=>p
def renPs (φ:Ren):List (PV U)→List (PV U)
 |[]=>[]
 |p::l=>renP φ p::renPs φ l
end
def renO (φ:Ren) (id:Nat):Ob U→Ob U
 |.blk bT cs=>.blk bT (renPs φ cs)
 |.row T v e l=>.row T ((φ id).2+v) e l
 |.frz v e l=>.frz ((φ id).2+v) e l
 |.opn T v e l i cs=>.opn T ((φ id).2+v) e l i (renPs φ cs)
 |o=>o
def renSt (φ:Ren) (l:List (Nat×Ob U)):List (Nat×Ob U):=l.map fun x=>((φ x.1).1,renO φ x.1 x.2)
def renTm (φ:Ren) (l:List (Nat×PV U)):List (Nat×PV U):=l.map fun x=>(x.1,renP φ x.2)
def PV.sub:List Nat→PV U→Option (PV U)
 |[],p=>some p
 |i::r,.agg l=>(l[i]?).bind (PV.sub r)
 |i::r,.clo _ l=>(l[i]?).bind (PV.sub r)
 |_::_,_=>none
def zamp (acc:List (Nat×Nat)):Loc→Option (PV U)
 |.slot s=>tm s
 |.cell n j=>(look acc n).bind fun id=>match S id with
  |some (.blk _ cs)=>cs[j]?
  |_=>none
 |.sub s j=>match tm s with
  |some (.agg l)=>l[j]?
  |_=>none
def zad1:List Find→List (Nat×Nat)→Option (List (Nat×Nat))
 |[],acc=>some acc
 |f::fs,acc=>match (zamp tm S acc f.loc).bind (PV.sub f.path) with
  |some (.ptr id _)=>zad1 fs ((f.id,id)::acc)
  |_=>none
end
section
variable (u:Uni)
def PV.asOne (ty:Ty):PV u.U→Option (TV u.U)
 |.agg l=>match ty with
  |.st n=>(zaa7 PV.asFlat (u.ctys n) l).bind fun cs=>(u.make n cs).bind fun x=>some ⟨.st n,x⟩
  |_=>none
 |p=>p.asFlat ty
mutual
def Sh.fit:Sh→PV u.U→Option (List (TV u.U))
 |.t ty,p=>(p.asOne u ty).bind fun c=>some [c]
 |.junk,_=>some []
 |.nil,.k (.slice none 0 0)=>some []
 |.fnc f,.k (.func (.func g) a b)=>if f=g∧a.size=0∧b.size=0 then some [] else none
 |.ptr i o,.ptr i' o'=>if i'=i∧o'=o then some [] else none
 |.selfp i,.selfp i'=>if i'=i then some [] else none
 |.selfp i,.ptr i' 0=>if i'=i then some [] else none
 |.selfp _,.k (.pointer none)=>some []
 |.oslc i,.oslc i' 0=>if i'=i then some [] else none
 |.rptr ty o,.rptr c o'=>if c.t=ty∧o'=o then some [c] else none
 |.agg ss,.agg l=>Sh.fits ss l
 |.tup ss,.tup l=>Sh.fits ss l
 |.clo f ss,.clo g l=>if f=g then Sh.fits ss l else none
 |.ifc T s,.ifc T' p=>if T=T' then s.fit p else none
 |_,_=>none
def Sh.fits:List Sh→List (PV u.U)→Option (List (TV u.U))
 |[],[]=>some []
 |s::ss,p::ps=>(s.fit p).bind fun a=>(Sh.fits ss ps).bind fun b=>some (a++b)
 |_,_=>none
end
def OSh.fit:OSh→Ob u.U→Option (List (TV u.U))
 |.blk bT ss,.blk bT' l=>if bT'=bT then Sh.fits u ss l else none
 |.row T e,.row T' 0 e' l=>if T'=T∧e'=e then some [⟨.slc e',l⟩] else none
 |.sit,.sit s p=>some [⟨.str,s⟩,⟨.fn,p⟩]
 |.mp k e,.mp k' e' l=>if k'=k∧e'=e then some [⟨.map k' e',l⟩] else none
 |.opn T e ss,.opn T' 0 e' l i cs=>if T'=T∧e'=e then (Sh.fits u ss cs).bind fun a=>some (⟨.slc e',l⟩::⟨.fn,i⟩::a) else none
 |_,_=>none
def obFit:List OSh→List (Nat×Ob u.U)→Option (List (TV u.U))
 |[],[]=>some []
 |s::ss,(_,o)::os=>(s.fit u o).bind fun a=>(obFit ss os).bind fun b=>some (a++b)
 |_,_=>none
def tmFit (tm:Nat→Option (PV u.U)) (S:Nat→Option (Ob u.U)) (σ:St u.U):List Sh→List Nat→Option (List (TV u.U))
 |[],[]=>some []
 |s::ss,i::is=>(match s with
   |.t ty=>(tm i).bind fun p=>(p.asVal u S ty).bind fun c=>some [c]
   |s=>(look σ.tm i).bind fun p=>s.fit u p).bind fun a=>(tmFit tm S σ ss is).bind fun b=>some (a++b)
 |_,_=>none
def owned {U:Nat→Type}:List (PV U)→List Nat
 |[]=>[]
 |.oslc id _::r=>id::owned r
 |.ptr id _::r=>id::owned r
 |.agg l::r=>(l.filterMap fun|.oslc id _=>some id|.ptr id _=>some id|_=>none)++owned r
 |_::r=>owned r
def wants {U:Nat→Type} (tm:Nat→Option (PV U)):List Sh→List Nat→List Nat
 |s::ss,i::is=>(match s with
   |.t _=>match tm i with|some p=>owned [p]|none=>[]
   |_=>[])++wants tm ss is
 |_,_=>[]
def frzs (u:Uni) (S:Nat→Option (Ob u.U)) (ids:List Nat):List (Nat×Ob u.U):=ids.filterMap fun id=>match S id with
 |some (.row _ v e l)=>some (id,.frz v (e.plain u.pn) (zacw u e l))
 |some (.mp k e l)=>some (id,.fmp k e l)
 |_=>none
def zag5 {α:Type} (l:List (Nat×α)) (S:Nat→Option α) (i:Nat):Option α:=match look l i with
 |some x=>some x
 |none=>S i
def enter (sh:StSh) (tm:Nat→Option (PV u.U)) (S:Nat→Option (Ob u.U)):Option (List (TV u.U)):=
 (mask tm (zag5 (frzs u S (wants tm sh.tm sh.slots)) S) true sh.ann).bind fun x=>if x.1.st.map (·.1)=sh.ids then (tmFit u tm S x.1 sh.tm sh.slots).bind fun a=>(obFit u sh.st x.1.st).bind fun b=>some (a++b) else none
def zabk:Nat:=100000
def zaiq:Nat:=5000000
def swap:List (Nat×Nat)→Nat→Option Nat
 |[],_=>none
 |(n,o)::r,i=>bif Nat.beq o i then some n else swap r i
structure Came (U:Nat→Type) where
 env:List (Nat×Nat)
 bl:List (Nat×Nat)
 rows:List (Nat×Nat×Nat)
 ls:List (TV U)
def zaur (env:List (Nat×Nat)):Loc→Loc
 |.slot s=>.slot s
 |.cell n j=>match look env n with|some id=>.cell id j|none=>.slot 1000000
 |.sub s j=>.sub s j
def inRen (env:List (Nat×Nat)):Ren:=fun i=>match swap env i with
 |some n=>(n,0)
 |none=>(i-zaiq,0)
def zagn (sh:StSh) (env:List (Nat×Nat)):Ann:=⟨sh.ann.slots,sh.ann.objs.filterMap (fun n=>look env n),sh.ann.rows.map fun r=>⟨zaur env r.loc,zaiq+r.id,r.T,r.e⟩⟩
def zav8 {U:Nat→Type} (rn:List (RowNow U)):List (Nat×Nat×Nat):=rn.filterMap fun x=>match x.src with
 |some id=>some (x.ann.id-zaiq,id,x.ver)
 |none=>none
def blsOf (sh:StSh) (env:List (Nat×Nat)):List (Nat×Nat):=sh.ann.objs.filterMap fun n=>(look env n).map fun id=>(n,id)
def come (m:Mode u.U) (ps:List (PV u.U)) (S:Nat→Option (Ob u.U)):Option (Came u.U):=
 (zad1 (fun i=>ps[i]?) S m.finds []).bind fun env=>
  (mask (fun i=>ps[i]?) (zag5 (frzs u S (wants (fun i=>ps[i]?) m.sh.tm m.sh.slots)) S) false (zagn m.sh env)).bind fun x=>
   if (renSt (inRen env) x.1.st).map (·.1) = m.sh.ids ∧ m.sh.slots = List.range ps.length ∧ zacb m.sh.ids = true ∧ ((blsOf m.sh env).all fun y => Nat.beq (inRen env y.2).1 y.1) = true then
    (tmFit u (fun i=>ps[i]?) S ⟨renTm (inRen env) x.1.tm,[]⟩ m.sh.tm m.sh.slots).bind fun a=>(obFit u m.sh.st (renSt (inRen env) x.1.st)).bind fun b=>some ⟨env,blsOf m.sh env,zav8 x.2,a++b⟩
   else none
def fresh (d n:Nat):Nat:=(n-zabk+1)*1000+d
def zad6:List (Nat×Nat×Nat)→Nat→Option (Nat×Nat)
 |[],_=>none
 |(n,x)::r,i=>bif Nat.beq n i then some x else zad6 r i
def zacn (c:Came u.U) (d:Nat):Ren:=fun n=>match look c.bl n with
 |some id=>(id,0)
 |none=>match zad6 c.rows n with
  |some (id,ver)=>(id,ver+1)
  |none=>(fresh d n,0)
def zaim (c:Came u.U) (ids:List Nat):List Nat:=ids.filter fun n=>(look c.bl n).isNone&&(zad6 c.rows n).isNone
def resOf {U:Nat→Type}:List (Nat×PV U)→PV U
 |[(_,p)]=>p
 |l=>.tup (l.map (·.2))
def zac0:Ty→Bool
 |.int _=>true|.bool=>true|.str=>true|.err=>true|.fn=>true|_=>false
mutual
def zacl {U:Nat→Type}:PV U→Bool
 |.t v=>zac0 v.t
 |.rptr _ _=>false
 |.agg l=>zab0 l
 |.tup l=>zab0 l
 |.clo _ l=>zab0 l
 |.ifc _ p=>zacl p
 |_=>true
def zab0 {U:Nat→Type}:List (PV U)→Bool
 |[]=>true
 |p::l=>zacl p&&zab0 l
end
def zaji (u:Uni):Ob u.U→Bool
 |.blk _ cs=>zab0 cs
 |.row _ _ e _=>u.closedTy e
 |.frz _ _ _=>false
 |.mp k e _=>zac0 k&&zac0 e
 |.fmp _ _ _=>false
 |.opn _ _ _ _ _ _=>false
 |_=>true
def zai7 (u:Uni) (τ:St u.U):Bool:=(τ.tm.all fun x=>zacl x.2)&&τ.st.all fun x=>zaji u x.2
def deads (U:Nat→Type) (ids:List Nat):List (Nat×Ob U):=ids.map fun id=>(id,.dead)
def went (c:Came u.U) (d:Nat) (S:Nat→Option (Ob u.U)) (τ:St u.U) (fz:List (Nat×Ob u.U)):Option (PV u.U×List (Nat×Ob u.U)):=
  if zacb (τ.st.map fun x => (zacn u c d x.1).1) = true ∧ zacb (τ.st.map (·.1)) = true ∧ ((zaim u c (τ.st.map (·.1))).all fun n => (S (zacn u c d n).1).isNone) = true ∧
     (τ.st.all fun x=>((look c.bl x.1).isSome==x.2.isP)&&(!x.2.isP||Nat.ble zabk x.1))=true then
    some (renP (zacn u c d) (resOf τ.tm),renSt (zacn u c d) τ.st++(deads u.U (c.env.map (·.2)++c.rows.map (·.2.1))++fz))
  else none
end
mutual
def preSh {U:Nat→Type}:Sh→PV U→Bool
 |.t (.map _ _),.ptr _ _=>true
 |.t _,.ptr _ _=>false
 |.t _,.eptr _ _ _ _=>false
 |.t _,.rptr _ _=>false
 |.t _,.clo _ _=>false
 |.t _,.tup _=>false
 |.t _,_=>true
 |.junk,_=>true
 |.nil,.k (.slice none 0 0)=>true
 |.fnc f,.k (.func (.func g) _ _)=>Nat.beq f g
 |.ptr _ _,.ptr _ _=>true
 |.oslc _,.oslc _ _=>true
 |.oslc _,.k (.slice none 0 0)=>true
 |.rptr _ _,.rptr _ _=>true
 |.agg ss,.agg l=>zadv ss l
 |.tup ss,.tup l=>zadv ss l
 |.clo f ss,.clo g l=>Nat.beq f g&&zadv ss l
 |.ifc T s,.ifc T' p=>Nat.beq T T'&&preSh s p
 |_,_=>false
def zadv {U:Nat→Type}:List Sh→List (PV U)→Bool
 |[],[]=>true
 |s::ss,p::ps=>preSh s p&&zadv ss ps
 |_,_=>false
end
structure Kit where
 P:Program
 u:Uni
 tyOf:TypeId→Option Ty
 eqOf:TypeId→(n:Nat)→Option (u.U n→u.U n→Bool)
 modes:FuncId→List (Mode u.U)
 deepOf:TypeId→Option Ty:=fun _=>none
section
variable (K:Kit)
def PV.cellsOf (u:Uni):PV u.U→Option (List (PV u.U))
 |.agg l=>some l
 |.t v=>some ((u.tcells v).map .t)
 |.tup _=>none
 |.junk=>none
 |p=>some [p]
def ofVal {U:Nat→Type}:Value→Option (PV U)
 |.int k n=>some (.t ⟨.int k,n⟩)
 |.bool b=>some (.t ⟨.bool,b⟩)
 |.string s=>some (.t ⟨.str,s.data.toList⟩)
 |v=>if v.oneCell'=true then some (.k v) else none
def zafz {U:Nat→Type}:List Value→Option (List (PV U))
 |[]=>some []
 |v::r=>(ofVal v).bind fun p=>(zafz r).bind fun ps=>some (p::ps)
def szT (P:Program) (T:TypeId):Option Nat:=(P.info? T).map (·.size)
def zeroT (P:Program) (T:TypeId):Option (List Value):=(P.info? T).bind fun i=>i.zero.map fun z=>z.cells.toList
def zadd (P:Program) (T:TypeId):Option Bool:=match P.underlying T with
 |some (.struct _)=>some true
 |some (.array _ _)=>some true
 |some _=>some false
 |none=>none
def Kit.pack (T:TypeId) (cells:List (PV K.u.U)):PV K.u.U:=
 match K.tyOf T with
 |some (.st n)=>match (zaa7 PV.asFlat (K.u.ctys n) cells).bind (K.u.make n) with
  |some x=>.t ⟨.st n,x⟩
  |none=>.agg cells
 |_=>.agg cells
def PV.isNil {U:Nat→Type}:PV U→Bool
 |.k (.slice none 0 0)=>true
 |_=>false
def Kit.packB (T:TypeId) (cells:List (PV K.u.U)):PV K.u.U:=bif cells.any PV.isNil then .agg cells else Kit.pack K T cells
def seg {α:Type} (l:List α) (off n:Nat):Option (List α):=if off+n≤l.length then some ((l.drop off).take n) else none
def splice {α:Type} (l:List α) (off:Nat) (m:List α):Option (List α):=if off+m.length≤l.length then some (l.take off++m++l.drop (off+m.length)) else none
def ev (tm:Nat→Option (PV K.u.U)):Operand→Option (PV K.u.U)
 |.tmp s=>tm s
 |.const v=>ofVal v
 |.func f=>some (.k (.func (.func f) #[] #[]))
 |.global _=>none
def evs (tm:Nat→Option (PV K.u.U)):List Operand→Option (List (PV K.u.U))
 |[]=>some []
 |x::r=>(ev K tm x).bind fun p=>(evs tm r).bind fun ps=>some (p::ps)
def evOpt (tm:Nat→Option (PV K.u.U)):Option Operand→Option (Option (PV K.u.U))
 |none=>some none
 |some x=>(ev K tm x).map some
variable {R:Type}
def zap4 (op:BinOp) (k:IntKind) (a b:Int) (c:TV K.u.U→Option R):Option R:=
 match op with
 |.add=>c ⟨.int k,k.wrap (a+b)⟩
 |.sub=>c ⟨.int k,k.wrap (a-b)⟩
 |.mul=>c ⟨.int k,k.wrap (a*b)⟩
 |.quo=>bif b==0 then none else c ⟨.int k,k.wrap (a.tdiv b)⟩
 |.rem=>bif b==0 then none else c ⟨.int k,a.tmod b⟩
 |.and=>c ⟨.int k,k.wrap (BitVec.ofInt k.bits a &&& BitVec.ofInt k.bits b).toNat⟩
 |.or=>c ⟨.int k,k.wrap (BitVec.ofInt k.bits a ||| BitVec.ofInt k.bits b).toNat⟩
 |.xor=>c ⟨.int k,k.wrap (BitVec.ofInt k.bits a ^^^ BitVec.ofInt k.bits b).toNat⟩
 |.andNot=>c ⟨.int k,k.wrap (BitVec.ofInt k.bits a &&& ~~~(BitVec.ofInt k.bits b)).toNat⟩
 |.eql=>c ⟨.bool,a==b⟩
 |.neq=>c ⟨.bool,a != b⟩
 |.lss=>c ⟨.bool,decide (a<b)⟩
 |.leq=>c ⟨.bool,decide (a≤b)⟩
 |.gtr=>c ⟨.bool,decide (a>b)⟩
 |.geq=>c ⟨.bool,decide (a≥b)⟩
 |_=>none
def zaqr (op:BinOp) (s t:List UInt8) (c:TV K.u.U→Option R):Option R:=
 match op with
 |.add=>bif decide (s.length+t.length≤9223372036854775807) then c ⟨.str,s++t⟩ else none
 |.eql=>c ⟨.bool,s==t⟩
 |.neq=>c ⟨.bool,!(s==t)⟩
 |.lss=>c ⟨.bool,Go.Op.bytesLess s t⟩
 |.leq=>c ⟨.bool,Go.Op.bytesLess s t||s==t⟩
 |.gtr=>c ⟨.bool,!(Go.Op.bytesLess s t||s==t)⟩
 |.geq=>c ⟨.bool,!(Go.Op.bytesLess s t)⟩
 |_=>none
def Kit.bin (op:BinOp) (T:TypeId) (p q:PV K.u.U) (c:TV K.u.U→Option R):Option R:=
 match p,q with
 |.t ⟨.int k,a⟩,.t ⟨.int k',b⟩=>
  match op with
  |.shl=>bif decide (b<0) then none else c ⟨.int k,k.wrap (a*2 ^ (min b.toNat k.bits))⟩
  |.shr=>bif decide (b<0) then none else c ⟨.int k,a.fdiv (2 ^ (min b.toNat k.bits))⟩
  |_=>if k=k' then zap4 K op k a b c else none
 |.t ⟨.str,s⟩,.t ⟨.str,t⟩=>zaqr K op s t c
 |.t ⟨.bool,a⟩,.t ⟨.bool,b⟩=>
  match K.P.underlying T with
  |some .bool=>match op with
   |.eql=>c ⟨.bool,a==b⟩
   |.neq=>c ⟨.bool,!(a==b)⟩
   |_=>none
  |_=>none
 |.t ⟨.st n,a⟩,.t ⟨.st m,b⟩=>
  if h:m=n then
   match K.eqOf T n,op with
   |some f,.eql=>c ⟨.bool,f a (h▸b)⟩
   |some f,.neq=>c ⟨.bool,!(f a (h▸b))⟩
   |_,_=>none
  else none
 |_,_=>none
def isLit:Operand→Bool
 |.const _=>true
 |_=>false
def Kit.bin2 (l:Bool) (op:BinOp) (T:TypeId) (p q:PV K.u.U) (c:TV K.u.U→Option R):Option R:=
 match p,q with
 |.t ⟨.err,b⟩,.k .nilIface=>
  match l,K.P.underlying T,op with
  |true,some (.interface _),.eql=>c ⟨.bool,!b⟩
  |true,some (.interface _),.neq=>c ⟨.bool,b⟩
  |_,_,_=>none
 |p,q=>K.bin op T p q c
def Kit.cmpNil (l:Bool) (op:BinOp) (T:TypeId) (p q:PV K.u.U) (c:PV K.u.U→Option R) (els:Option R):Option R:=
 match p,q with
 |.t ⟨.slc _,s⟩,.k (.slice none 0 0)=>match K.P.underlying T,op with
  |some (.slice _),.eql=>bif s.isEmpty then c .ub else c (.t ⟨.bool,false⟩)
  |some (.slice _),.neq=>bif s.isEmpty then c .ub else c (.t ⟨.bool,true⟩)
  |_,_=>none
 |.k (.slice none 0 0),.k (.slice none 0 0)=>match K.P.underlying T,op with
  |some (.slice _),.eql=>c (.t ⟨.bool,true⟩)
  |some (.slice _),.neq=>c (.t ⟨.bool,false⟩)
  |_,_=>none
 |.ifc _ _,.k .nilIface=>match K.P.underlying T,op with
  |some (.interface _),.eql=>c (.t ⟨.bool,false⟩)
  |some (.interface _),.neq=>c (.t ⟨.bool,true⟩)
  |_,_=>none
 |.k .nilIface,.k .nilIface=>match l,K.P.underlying T,op with
  |true,some (.interface _),.eql=>c (.t ⟨.bool,true⟩)
  |true,some (.interface _),.neq=>c (.t ⟨.bool,false⟩)
  |_,_,_=>none
 |_,_=>els
def Kit.un (op:UnOp) (p:PV K.u.U) (c:TV K.u.U→Option R):Option R:=
 match op,p with
 |.not,.t ⟨.bool,b⟩=>c ⟨.bool,!b⟩
 |.neg,.t ⟨.int k,n⟩=>c ⟨.int k,k.wrap (0-n)⟩
 |_,_=>none
def bytesOf (l:List Int):List UInt8:=l.map fun n=>UInt8.ofNat n.toNat
def zagp (l:List Int):List UInt8:=l.flatMap fun n=>(Utf8.encode n).data.toList
def Kit.conv (S:Nat→Option (Ob K.u.U)) (src dst:TypeId) (p:PV K.u.U) (c:TV K.u.U→Option R):Option R:=
 match K.P.underlying dst with
 |some (.int k)=>match p with
  |.t ⟨.int _,n⟩=>match K.P.underlying src with
   |some _=>c ⟨.int k,k.wrap n⟩
   |none=>none
  |_=>none
 |some .string=>match K.P.underlying src with
  |some .string=>match p with
   |.t ⟨.str,s⟩=>c ⟨.str,s⟩
   |_=>none
  |some (.slice e)=>match K.P.underlying e with
   |some (.int .u8)=>match p.asOwn K.u S (.slc (.int .u8)) with
    |some ⟨.slc (.int .u8),l⟩=>c ⟨.str,bytesOf l⟩
    |_=>none
   |some (.int .i32)=>match p.asOwn K.u S (.slc (.int .i32)) with
    |some ⟨.slc (.int .i32),l⟩=>c ⟨.str,zagp l⟩
    |_=>none
   |_=>none
  |_=>none
 |_=>none
def PV.isPtr {U:Nat→Type}:PV U→Bool
 |.ptr _ _=>true
 |_=>false
def PV.lenOf {U:Nat→Type} (S:Nat→Option (Ob U)):PV U→Option Nat
 |.t ⟨.str,s⟩=>some s.length
 |.t ⟨.slc _,l⟩=>some l.length
 |.k (.slice none 0 0)=>some 0
 |.oslc id ver=>((S id).bind (·.now ver)).map (·.2.length)
 |.bslc id n=>match S id with
  |some (.blk _ _)=>some n
  |_=>none
 |_=>none
def zaa9:Nat:=140737488355328
def Kit.loadR (T:TypeId) (v:TV K.u.U) (off:Nat):Option (PV K.u.U):=
 match zadd K.P T,szT K.P T with
 |some true,some n=>
  if off=0∧K.tyOf T=some v.t∧n=K.u.size v.t∧v.t.flat=false then some (.t v)
  else (seg ((K.u.tcells v).map PV.t) off n).map (K.pack T)
 |some false,some _=>((K.u.tcells v).map PV.t)[off]?
 |_,_=>none
def Kit.flatSeg (T:TypeId) (e:Ty) (off:Nat):Bool:=match szT K.P T with
 |some n=>(((K.u.ctysOf e).drop off).take (max n 1)).all fun t=>!t.isOwn
 |none=>false
def Kit.parts (fs:Array Field) (cells:List (PV K.u.U)):List (Nat×PV K.u.U)→Option (List (PV K.u.U))
 |[]=>some cells
 |(i,p)::r=>(fs[i]?).bind fun f=>(szT K.P f.type).bind fun n=>(p.cellsOf K.u).bind fun cs=>
   if cs.length=n then (splice cells f.offset cs).bind fun cells'=>Kit.parts fs cells' r else none
def unTV {U:Nat→Type} (e:Ty):List (TV U)→Option (List (e.den U))
 |[]=>some []
 |v::r=>(asT e v).bind fun x=>(unTV e r).bind fun xs=>some (x::xs)
def zipEv (tm:Nat→Option (PV K.u.U)):List (Nat×Operand)→Option (List (Nat×PV K.u.U))
 |[]=>some []
 |(i,x)::r=>(ev K tm x).bind fun p=>(zipEv tm r).bind fun ps=>some ((i,p)::ps)
def Kit.zero (e:Ty) (T:TypeId):Option (e.den K.u.U):=
 match (K.P.info? T).bind (·.zero) with
 |none=>none
 |some z=>match e with
  |.st n=>match z with
   |.agg cs=>(zafz cs.toList).bind fun ps=>(zaa7 PV.asFlat (K.u.ctys n) ps).bind (K.u.make n)
   |_=>none
  |e=>(ofVal z).bind fun p=>(p.asFlat e).bind (asT e)
def Kit.deeps (S:Nat→Option (Ob K.u.U)) (E:TypeId) (sz n:Nat) (qs:List (PV K.u.U)):Option ((e:Ty)×List (e.den K.u.U)×List Nat):=
 match K.deepOf E with
 |none=>none
 |some e=>if sz=K.u.size e∧qs.length=n then (zady K.u S e qs).bind fun v=>if zacb v.2=true then (unTV e v.1).bind fun l=>some ⟨e,l,v.2⟩ else none else none
abbrev Ups (U:Nat→Type):=List (Nat×Ob U)
def bound {U:Nat→Type} (d:Nat):Option (PV U)→Option Int
 |none=>some d
 |some (.t ⟨.int _,n⟩)=>some n
 |some _=>none
def Kit.slc (S:Nat→Option (Ob K.u.U)) (T:TypeId) (p:PV K.u.U) (lo hi:Option (PV K.u.U)) (c:PV K.u.U→Ups K.u.U→Option R):Option R:=
 match K.P.underlying T with
 |some .string=>match p with
  |.t ⟨.str,s⟩=>(bound 0 lo).bind fun l=>(bound s.length hi).bind fun h=>
   bif decide (0≤l)&&(decide (l≤h)&&decide (h≤s.length)) then c (.t ⟨.str,(s.take h.toNat).drop l.toNat⟩) [] else none
  |_=>none
 |some (.slice E)=>match p with
  | .t ⟨.slc e, s⟩ => (bound 0 lo).bind fun l => (bound s.length hi).bind fun h => (szT K.P E).bind fun n => if n = K.u.size e then
   bif decide (0≤l)&&(decide (l≤h)&&decide (h≤s.length)) then c (.t ⟨.slc e,(s.take h.toNat).drop l.toNat⟩) [] else none else none
  |.oslc id ver=>match (S id).bind (·.val ver) with
   | some ⟨e, s⟩ => (bound 0 lo).bind fun l => (bound s.length hi).bind fun h => (szT K.P E).bind fun n => if n = K.u.size e then
    bif decide (0≤l)&&(decide (l≤h)&&decide (h≤s.length)) then c (.t ⟨.slc (e.plain K.u.pn),((zacw K.u e s).take h.toNat).drop l.toNat⟩) (frzs K.u S [id]) else none else none
   |none=>none
  |_=>none
 |_=>none
def Kit.clip (S:Nat→Option (Ob K.u.U)) (T:TypeId) (p h m:PV K.u.U) (c:PV K.u.U→Ups K.u.U→Option R):Option R:=
 match h,m with
 |.t ⟨.int _,a⟩,.t ⟨.int _,b⟩=>match K.P.underlying T with
  |some (.slice E)=>match p with
   |.t ⟨.slc e,s⟩=>(szT K.P E).bind fun n=>if n=K.u.size e then bif decide (a=s.length)&&decide (b=s.length) then c (.t ⟨.slc e,s⟩) [] else none else none
   |.oslc id ver=>match S id with
    |some (.row E' v e l)=>if v=ver∧E'=E∧szT K.P E=some (K.u.size e) then bif decide (a=l.length)&&decide (b=l.length) then c (.oslc id (ver+1)) [(id,.row E' (ver+1) e l)] else none else none
    |_=>none
   |_=>none
  |_=>none
 |_,_=>none
def Kit.appendP (d:Nat) (S:Nat→Option (Ob K.u.U)) (argT:Array TypeId) (p q:PV K.u.U) (c:PV K.u.U→Ups K.u.U→Option R):Option R:=
 match argT.toList with
 |[T,T']=>
  match T'==T,K.P.underlying T with
  |true,some (.slice E)=>match K.tyOf E,K.P.info? E with
   |some e,some i=>match q.asOwn K.u S (.slc e) with
    |some ⟨.slc e',m⟩=>
     if h:e'=e then
      match p with
      |.k (.slice none 0 0)=>match S d with
       |none=>if K.u.plainTy e=true∧i.size=K.u.size e∧0<i.size∧(i.zero.map fun z=>z.cells.size)=some i.size then bif decide (m.length*i.bytes≤zaa9∧m.length≤maxLen) then c (.oslc d 0) [(d,.row E 0 e (h▸m))] else none else none
       |some _=>none
      |.oslc id ver=>match S id with
       |some (.row E' v e'' l)=>
        if h':e''=e then
         if K.u.plainTy e=true∧v=ver∧E'=E∧i.size=K.u.size e∧0<i.size∧(i.zero.map fun z=>z.cells.size)=some i.size then bif decide ((l.length+m.length)*i.bytes≤zaa9∧l.length+m.length≤maxLen) then c (.oslc id (ver+1)) [(id,.row E (ver+1) e ((h'▸l)++(h▸m)))] else none else none
        else none
       |_=>none
      |_=>none
     else none
    |_=>none
   |_,_=>none
  |_,_=>none
 |_=>none
def Kit.appendD (d:Nat) (S:Nat→Option (Ob K.u.U)) (argT:Array TypeId) (p:PV K.u.U) (qid:Nat) (c:PV K.u.U→Ups K.u.U→Option R):Option R:=
 match argT.toList with
 |[T,T']=>
  match T'==T,K.P.underlying T with
  |true,some (.slice E)=>match K.P.info? E,S qid with
   |some i,some (.row E'' _ e m)=>
    match p with
    |.k (.slice none 0 0)=>match S d with
     |none=>if E''=E∧i.size=K.u.size e∧0<i.size∧(i.zero.map fun z=>z.cells.size)=some i.size then bif decide (m.length*i.bytes≤zaa9∧m.length≤maxLen) then c (.oslc d 0) [(d,.row E 0 e m),(qid,.dead)] else none else none
     |some _=>none
    |.oslc id ver=>match S id with
     |some (.row E' v e'' l)=>
      if h':e''=e then
       if v=ver∧id≠qid∧E''=E∧E'=E∧i.size=K.u.size e∧0<i.size∧(i.zero.map fun z=>z.cells.size)=some i.size then bif decide ((l.length+m.length)*i.bytes≤zaa9∧l.length+m.length≤maxLen) then c (.oslc id (ver+1)) [(id,.row E (ver+1) e ((h'▸l)++m)),(qid,.dead)] else none else none
      else none
     |_=>none
    |_=>none
   |_,_=>none
  |_,_=>none
 |_=>none
def PV.deepRow (u:Uni) (S:Nat→Option (Ob u.U)):PV u.U→Option Nat
 |.oslc id ver=>match S id with
  |some (.row _ v e _)=>if v=ver∧u.plainTy e=false then some id else none
  |_=>none
 |_=>none
def Kit.append (d:Nat) (S:Nat→Option (Ob K.u.U)) (argT:Array TypeId) (p q:PV K.u.U) (c:PV K.u.U→Ups K.u.U→Option R):Option R:=
 match q.deepRow K.u S with
 |some qid=>K.appendD d S argT p qid c
 |none=>K.appendP d S argT p q c
def ofStr (s:List UInt8):List Int:=s.map fun b=>((b.toNat:Nat):Int)
def Kit.toBytes (d:Option Nat) (S:Nat→Option (Ob K.u.U)) (src E:TypeId) (p:PV K.u.U) (c:PV K.u.U→Ups K.u.U→Option R):Option R:=
 match d,p with
 |some d,.t ⟨.str,s⟩=>match S d,K.P.underlying E,K.P.underlying src with
  |none,some (.int .u8),some .string=>bif decide (s.length≤zaa9∧s.length≤maxLen) then c (.oslc d 0) [(d,.row E 0 (.int .u8) (ofStr s))] else none
  |_,_,_=>none
 |_,_=>none
def Kit.appendS (d:Nat) (S:Nat→Option (Ob K.u.U)) (argT:Array TypeId) (p:PV K.u.U) (s:List UInt8) (c:PV K.u.U→Ups K.u.U→Option R):Option R:=
 match argT.toList with
 |[T,T']=>
  match K.P.underlying T,K.P.underlying T' with
  |some (.slice E),some .string=>match K.tyOf E,K.P.info? E with
   |some (.int .u8),some i=>
    match p with
    |.k (.slice none 0 0)=>match S d with
     |none=>if i.size=1∧i.bytes=1∧(i.zero.map fun z=>z.cells.size)=some 1 then bif decide (s.length≤zaa9∧s.length≤maxLen) then c (.oslc d 0) [(d,.row E 0 (.int .u8) (ofStr s))] else none else none
     |some _=>none
    |.oslc id ver=>match S id with
     |some (.row E' v (.int .u8) l)=>
      if v=ver∧E'=E∧i.size=1∧i.bytes=1∧(i.zero.map fun z=>z.cells.size)=some 1 then bif decide (l.length+s.length≤zaa9∧l.length+s.length≤maxLen) then c (.oslc id (ver+1)) [(id,.row E (ver+1) (.int .u8) (l++ofStr s))] else none else none
     |_=>none
    |_=>none
   |_,_=>none
  |_,_=>none
 |_=>none
def keyTy:Ty→TypeDesc→Bool
 |.int k,.int k'=>decide (k=k')
 |.str,.string=>true
 |_,_=>false
def mapAt {α β:Type} [BEq α] (l:List (α×β)) (x:α):Option β:=(l.find? fun y=>y.1==x).map (·.2)
def zaau {α β:Type} [BEq α] (x:α) (v:β):List (α×β)→List (α×β)
 |[]=>[(x,v)]
 |y::l=>bif y.1==x then (x,v)::l else y::zaau x v l
def zair {U:Nat→Type} (k e:Ty) (l:List (k.den U×e.den U)) (q:TV U):Option (Option (e.den U)):=
 match k,l,q with
 |.int k,l,⟨.int k',n⟩=>if k'=k then some (mapAt (α:=Int) l n) else none
 |.str,l,⟨.str,s⟩=>some (mapAt (α:=List UInt8) l s)
 |_,_,_=>none
def zaf2 {U:Nat→Type} (k e:Ty) (l:List (k.den U×e.den U)) (q:TV U) (v:e.den U):Option (List (k.den U×e.den U)):=
 match k,l,q with
 |.int k,l,⟨.int k',n⟩=>if k'=k then some (zaau (α:=Int) n v l) else none
 |.str,l,⟨.str,s⟩=>some (zaau (α:=List UInt8) s v l)
 |_,_,_=>none
def Kit.mapTys (T:TypeId):Option (TypeId×TypeId×Ty×Ty):=match K.P.underlying T with
 |some (.map KT ET)=>match K.tyOf KT,K.tyOf ET,K.P.underlying KT with
  |some k,some e,some d=>if keyTy k d=true then some (KT,ET,k,e) else none
  |_,_,_=>none
 |_=>none
def Kit.blt (d:Nat) (S:Nat→Option (Ob K.u.U)) (b:Builtin) (argT:Array TypeId) (ps:List (PV K.u.U)) (c:PV K.u.U→Ups K.u.U→Option R):Option R:=
 match b,ps with
 |.len,[p]=>match (argT[0]?).bind K.P.underlying with
  |some .string=>match p with
   |.t ⟨.str,s⟩=>c (.t ⟨.int .i64,(s.length:Int)⟩) []
   |_=>none
  |some (.slice _)=>match p with
   |.t ⟨.str,_⟩=>none
   |p=>(p.lenOf S).bind fun n=>c (.t ⟨.int .i64,(n:Int)⟩) []
  |_=>none
 |.min,[.t ⟨.int k,x⟩,.t ⟨.int _,y⟩]=>c (.t ⟨.int k,if y<x then y else x⟩) []
 |.max,[.t ⟨.int k,x⟩,.t ⟨.int _,y⟩]=>c (.t ⟨.int k,if y>x then y else x⟩) []
 |.append,[p,.t ⟨.str,s⟩]=>K.appendS d S argT p s c
 |.append,[p,q]=>K.append d S argT p q c
 |.copy,[.oslc id ver,q]=>match argT.toList with
  |[T,_]=>match K.P.underlying T,S id with
   |some (.slice E),some (.row E' v e l)=>match q.asOwn K.u S (.slc e) with
    |some ⟨.slc e',m⟩=>
     if h:e'=e then
      if q.deepRow K.u S=none∧K.u.plainTy e=true∧v=ver∧(K.P.info? E).map (·.size)=some (K.u.size e) then c (.t ⟨.int .i64,(min m.length l.length:Nat)⟩) [(id,.row E' v e ((h▸m).take l.length++l.drop m.length))] else none
     else none
    |_=>none
   |_,_=>none
  |_=>none
 |_,_=>none
def Kit.callMs (S:Nat→Option (Ob K.u.U)) (ps:List (PV K.u.U)) (d:Nat) (c:PV K.u.U→Ups K.u.U→Option R):List (Mode K.u.U)→Option R
 |[]=>none
 | m :: ms => bif zadv m.sh.tm ps then (come K.u m ps S).bind fun x => (m.sum x.ls).on fun r => (m.outs[r.1]?).bind fun o => bif o.isPan then none else
    (went K.u x d S (o.fill r.2) (if zai7 K.u (o.fill r.2)=true then [] else frzs K.u S (wants (fun i=>ps[i]?) m.sh.tm m.sh.slots))).bind fun y=>c y.1 y.2
  else Kit.callMs S ps d c ms
def Kit.callMsP (S:Nat→Option (Ob K.u.U)) (ps:List (PV K.u.U)) (d:Nat) (c pc:PV K.u.U→Ups K.u.U→Option R):List (Mode K.u.U)→Option R
 |[]=>none
 |m::ms=>bif zadv m.sh.tm ps then (come K.u m ps S).bind fun x=>(m.sum x.ls).on fun r=>(m.outs[r.1]?).bind fun o=>
    (went K.u x d S (o.fill r.2) (if zai7 K.u (o.fill r.2)=true then [] else frzs K.u S (wants (fun i=>ps[i]?) m.sh.tm m.sh.slots))).bind fun y=>bif o.isPan then pc y.1 y.2 else c y.1 y.2
  else Kit.callMsP S ps d c pc ms
def Kit.callFP (S:Nat→Option (Ob K.u.U)) (f:FuncId) (ps:List (PV K.u.U)) (d:Option Nat) (c pc:PV K.u.U→Ups K.u.U→Option R):Option R:=
 match d with
 |some d=>Kit.callMsP K S ps d c pc (K.modes f)
 |none=>Kit.callMsP K S ps 999 c pc (K.modes f)
def Kit.callF (S:Nat→Option (Ob K.u.U)) (f:FuncId) (ps:List (PV K.u.U)) (d:Option Nat) (c:PV K.u.U→Ups K.u.U→Option R):Option R:=
 match d with
 |some d=>Kit.callMs K S ps d c (K.modes f)
 |none=>Kit.callMs K S ps 999 c (K.modes f)
def zab2 (d k:Nat):Nat:=3000000+d*4+k
def zaax (d:Nat) {U:Nat→Type}:Nat→List (TV U)→List (PV U)
 |_,[]=>[]
 |k,⟨.own _ _,_⟩::r=>.oslc (zab2 d k) 0::zaax d (k+1) r
 |k,c::r=>.t c::zaax d k r
def zaap (d:Nat) {U:Nat→Type}:Nat→List (TV U)→List (Nat×Ob U)
 |_,[]=>[]
 |k,⟨.own T e,l⟩::r=>(zab2 d k,.row T 0 e l)::zaap d (k+1) r
 |k,_::r=>zaap d k r
def Kit.loadC (T:TypeId) (cs:List (PV K.u.U)) (off:Nat):Option (PV K.u.U):=match zadd K.P T,szT K.P T with
 |some true,some n=>(seg cs off n).map (K.pack T)
 |some false,some _=>cs[off]?
 |_,_=>none
def Kit.loadE (S:Nat→Option (Ob K.u.U)) (d:Option Nat) (T:TypeId) (id ver i off:Nat) (c:PV K.u.U→Ups K.u.U→Option R):Option R:=
 match S id with
 |some (.opn _ v _ _ i' cs)=>if v=ver then bif Nat.beq i i' then (K.loadC T cs off).bind fun p=>c p [] else none else none
 | some (.row E v e l) => if v = ver then (l[i]?).bind fun x => bif K.u.plainTy e then (K.loadR T ⟨e, x⟩ off).bind fun p => c p []
   else bif K.flatSeg T e off then (K.loadR T (TV.plain K.u.pd ⟨e,x⟩) off).bind fun p=>c p []
   else match d with
   | some d => if (zaap d 0 (K.u.tcells ⟨e, x⟩)).length ≤ 4 ∧ ((List.range 4).all fun k => (S (zab2 d k)).isNone) = true then
     (K.loadC T (zaax d 0 (K.u.tcells ⟨e,x⟩)) off).bind fun p=>c p ((id,.opn E v e l i (zaax d 0 (K.u.tcells ⟨e,x⟩)))::zaap d 0 (K.u.tcells ⟨e,x⟩)) else none
   |none=>none
   else none
 |some (.frz v e l)=>if v=ver then (l[i]?).bind fun x=>(K.loadR T ⟨e,x⟩ off).bind fun p=>c p [] else none
 |_=>none
def zal0 (u:Uni) (st:List (Nat×Ob u.U)) (id:Nat):Option (List (Nat×Ob u.U)):=match look st id with
 | some (.opn T v e l i cs) => (zab4 u (look st) (u.ctysOf e) cs).bind fun ws => if zacb ws.2 = true ∧ ws.2.elem id = false then
   (zaes u e ws.1).map fun x'=>(id,.row T v e (l.set i x'))::deads u.U ws.2 else none
 |_=>none
def closeL (u:Uni):List Nat→List (Nat×Ob u.U)→List (Nat×Ob u.U)
 |[],st=>st
 |id::r,st=>match zal0 u st id with
  |some up=>closeL u r (up++st)
  |none=>closeL u r st
def zau0 {U:Nat→Type} (st:List (Nat×Ob U)):List Nat:=(st.filter fun x=>x.2.isOpn).map (·.1)
def reach {U:Nat→Type} (st:List (Nat×Ob U)):Nat→List Nat→List Nat
 |0,ids=>ids
 |n+1,ids=>ids++reach st n (ids.flatMap fun id=>match look st id with
  |some (.blk _ cs)=>PV.idsL cs
  |_=>[])
def Kit.step (o:Oper) (tm:Nat→Option (PV K.u.U)) (S:Nat→Option (Ob K.u.U)) (c:PV K.u.U→Ups K.u.U→Option R):Option R:=
 match o.op with
 |.move x=>(ev K tm x).bind fun p=>c p []
 |.assign x=>(ev K tm x).bind fun p=>c p []
 |.pick x a b=>match ev K tm x with
  |some (.t ⟨.bool,t⟩)=>bif t then (ev K tm a).bind fun p=>c p [] else (ev K tm b).bind fun p=>c p []
  |_=>none
 |.alloc T=>match o.dst with
  |some d=>match S d,Nat.blt d zabk with
   |none,true=>(zeroT K.P T).bind fun vs=>(zafz vs).bind fun ps=>c (.ptr d 0) [(d,.blk T ps)]
   |_,_=>none
  |none=>none
 |.box T x=>match o.dst with
  |some d=>match S d,Nat.blt d zabk with
   |none,true=>(ev K tm x).bind fun p=>(p.cellsOf K.u).bind fun ps=>c (.ptr d 0) [(d,.blk T ps)]
   |_,_=>none
  |none=>none
 |.build T ps=>match K.P.underlying T with
  |some (.struct fs)=>if (fs.toList.all fun f=>(szT K.P f.type).isSome)=true then (zipEv K tm ps.toList).bind fun qs=>(zeroT K.P T).bind fun vs=>(zafz vs).bind fun zs=>
    (K.parts fs zs qs).bind fun cs=>c (K.packB T cs) [] else none
  |_=>none
 |.buildSlice T n ps=>match o.dst with
  |some d=>match S d,K.P.underlying T with
   |none,some (.slice E)=>match K.tyOf E,K.P.info? E with
    |some e,some i=>
     if K.u.plainTy e = true ∧ i.size = K.u.size e ∧ 0 < i.size ∧ i.zero.isSome = true ∧ n * i.size ≤ 16777216 ∧ ps.toList.map (·.1) = List.range n then
      (evs K tm (ps.toList.map (·.2))).bind fun qs=>match K.deeps S E i.size n qs with
      |some ⟨e',l,ids⟩=>c (.oslc d 0) ((d,.row E 0 e' l)::deads K.u.U ids)
      |none=>(zaa7 (PV.asVal K.u S) (List.replicate n e) qs).bind fun vs=>(unTV e vs).bind fun l=>
       c (.oslc d 0) ((d,.row E 0 e l):: frzs K.u S (owned qs))
     else none
    | none, some i => if i.size = 1 ∧ i.zero.isSome = true ∧ n * i.size ≤ 16777216 ∧ ps.toList.map (·.1) = List.range n ∧ Nat.blt d zabk = true then
      (evs K tm (ps.toList.map (·.2))).bind fun qs=>if qs.all PV.isPtr=true then c (.bslc d n) [(d,.blk E qs)] else none
     else none
    |_,_=>none
   |_,_=>none
  |none=>none
 |.load T x=>match ev K tm x with
  |some (.ptr id off)=>match S id with
   |some (.blk _ cs)=>match zadd K.P T,szT K.P T with
    |some true,some n=>(seg cs off n).bind fun l=>c (K.pack T l) []
    |some false,some _=>(cs[off]?).bind fun p=>c p []
    |_,_=>none
   |_=>none
  |some (.rptr v off)=>(K.loadR T v off).bind fun p=>c p []
  |some (.eptr id ver i off)=>K.loadE S o.dst T id ver i off c
  |_=>none
 |.store T x y=>match ev K tm x with
  |some (.ptr id off)=>match S id with
   |some (.blk bT cs)=>(ev K tm y).bind fun q=>(q.cellsOf K.u).bind fun ys=>(szT K.P T).bind fun n=>
     if ys.length=n then (splice cs off ys).bind fun cs'=>c .junk [(id,.blk bT cs')] else none
   |_=>none
  |some (.eptr id ver i off)=>match S id with
   | some (.row E v e l) => if v = ver then
     (ev K tm y).bind fun q=>(q.cellsOf K.u).bind fun ys=>(szT K.P T).bind fun n=>
      if ys.length=n then bif K.u.plainTy e then (zaa7 PV.asFlat (((K.u.ctysOf e).drop off).take n) ys).bind fun ws=>
       (l[i]?).bind fun x=>(splice (K.u.tcells ⟨e,x⟩) off ws).bind fun cs=>(zaes K.u e cs).bind fun x'=>c .junk [(id,.row E v e (l.set i x'))]
       else (zab4 K.u S (((K.u.ctysOf e).drop off).take n) ys).bind fun ws=>if zacb ws.2=true∧ws.2.elem id=false then
       (l[i]?).bind fun x=>(splice (K.u.tcells ⟨e,x⟩) off ws.1).bind fun cs=>(zaes K.u e cs).bind fun x'=>c .junk ((id,.row E v e (l.set i x'))::deads K.u.U ws.2) else none
      else none
     else none
   |some (.opn E v e l i' cs)=>if v=ver then bif Nat.beq i i' then (ev K tm y).bind fun q=>(q.cellsOf K.u).bind fun ys=>(szT K.P T).bind fun n=>
     if ys.length=n then (splice cs off ys).bind fun cs'=>c .junk [(id,.opn E v e l i' cs')] else none
     else none else none
   |_=>none
  |_=>none
 |.nilCheck x=>match ev K tm x with
  |some (.ptr id off)=>match S id with
   |some (.blk _ _)=>c (.ptr id off) []
   |_=>none
  |some (.rptr v off)=>c (.rptr v off) []
  |some (.eptr id ver i off)=>c (.eptr id ver i off) []
  |_=>none
 |.binOp op T x y _=>(ev K tm x).bind fun p=>(ev K tm y).bind fun q=>K.cmpNil (isLit x||isLit y) op T p q (fun p=>c p []) (K.bin2 (isLit x||isLit y) op T p q fun v=>c (.t v) [])
 |.unOp op _ x=>(ev K tm x).bind fun p=>K.un op p fun v=>c (.t v) []
 |.convert src dst x=>match K.P.underlying dst with
  |some (.slice E)=>(ev K tm x).bind fun p=>K.toBytes o.dst S src E p c
  |_=>(ev K tm x).bind fun p=>K.conv S src dst p fun v=>c (.t v) []
 |.slice T x lo hi none=>(ev K tm x).bind fun p=>(evOpt K tm lo).bind fun lo=>(evOpt K tm hi).bind fun hi=>K.slc S T p lo hi c
 |.slice T x none (some hi) (some mx)=>(ev K tm x).bind fun p=>(ev K tm hi).bind fun h=>(ev K tm mx).bind fun m=>K.clip S T p h m c
 |.fieldAddr T x f=>match K.P.underlying T with
  |some (.struct fs)=>match fs[f]? with
   |some fd=>match szT K.P fd.type with
    |some (_+1)=>match ev K tm x with
     |some (.ptr id off)=>match S id with
      |some (.blk _ _)=>c (.ptr id (off+fd.offset)) []
      |_=>none
     |some (.rptr v off)=>c (.rptr v (off+fd.offset)) []
     |some (.eptr id ver i off)=>c (.eptr id ver i (off+fd.offset)) []
     |_=>none
    |_=>none
   |none=>none
  |_=>none
 |.indexAddr T x ix=>match K.P.underlying T with
  |some (.slice E)=>match szT K.P E with
   |some n=>match ev K tm ix with
    |some (.t ⟨.int _,i⟩)=>match ev K tm x with
     |some (.t ⟨.slc e,l⟩)=>if n=K.u.size e then bif decide (0≤i) then (l[i.toNat]?).bind fun y=>c (.rptr ⟨e,y⟩ 0) [] else none else none
     |some (.oslc id ver)=>match (S id).bind (·.now ver) with
      |some ⟨e,l⟩=>if n=K.u.size e then bif decide (0≤i)&&decide (i<l.length) then c (.eptr id ver i.toNat 0) [] else none else none
      |none=>none
     |some (.bslc id m)=>match S id with
      |some (.blk _ _)=>if n=1 then bif decide (0≤i)&&decide (i<m) then c (.ptr id i.toNat) [] else none else none
      |_=>none
     |_=>none
    |_=>none
   |none=>none
  |_=>none
 |.index T x ix=>match K.P.underlying T,ev K tm x,ev K tm ix with
  |some .string,some (.t ⟨.str,s⟩),some (.t ⟨.int _,i⟩)=>bif decide (0≤i) then (s[i.toNat]?).bind fun b=>c (.t ⟨.int .u8,(b.toNat:Int)⟩) [] else none
  |_,_,_=>none
 |.field T x f=>match K.P.underlying T with
  |some (.struct fs)=>match fs[f]?,ev K tm x with
   |some fd,some (.t v)=>bif v.t.flat then none else (K.loadR fd.type v fd.offset).bind fun p=>c p []
   |_,_=>none
  |_=>none
 |.extract x i=>match ev K tm x with
  |some (.tup l)=>(l[i]?).bind fun p=>c p []
  |_=>none
 |.range T x=>match o.dst,K.P.underlying T,ev K tm x with
  |some d,some .string,some (.t ⟨.str,s⟩)=>match S d,Nat.blt d zabk with
   |none,true=>c (.ptr d 0) [(d,.sit s 0)]
   |_,_=>none
  |_,_,_=>none
 |.next x true=>match ev K tm x with
  |some (.ptr id 0)=>match S id with
   | some (.sit s pos) => bif decide (pos < s.length)
     then c (.tup [.t ⟨.bool,true⟩,.t ⟨.int .i64,(pos:Int)⟩,.t ⟨.int .i32,((Utf8.decode ⟨s.toArray⟩ pos).1:Int)⟩]) [(id,.sit s (pos+(Utf8.decode ⟨s.toArray⟩ pos).2))]
     else c (.tup [.t ⟨.bool,false⟩]) []
   |_=>none
  |_=>none
 |.makeMap T none=>match o.dst with
  |some d=>match S d,Nat.blt d zabk with
   |none,true=>(K.mapTys T).bind fun x=>c (.ptr d 0) [(d,.mp x.2.2.1 x.2.2.2 [])]
   |_,_=>none
  |none=>none
 |.insert T x y z=>match ev K tm x with
  |some (.ptr id 0)=>match S id with
   |some (.mp k e l)=>(K.mapTys T).bind fun x=>if x.2.2.1=k∧x.2.2.2=e then match ev K tm y with
    |some (.t q)=>(ev K tm z).bind fun p=>(p.asOne K.u e).bind fun v=>(asT e v).bind fun v=>(zaf2 k e l q v).bind fun l'=>c .junk [(id,.mp k e l')]
    |_=>none
    else none
   |_=>none
  |_=>none
 |.mapUpdate T x y z=>match ev K tm x with
  |some (.ptr id 0)=>match S id with
   |some (.mp k e l)=>(K.mapTys T).bind fun x=>if x.2.2.1=k∧x.2.2.2=e then match ev K tm y with
    |some (.t q)=>(ev K tm z).bind fun p=>(p.asOne K.u e).bind fun v=>(asT e v).bind fun v=>(zaf2 k e l q v).bind fun l'=>c .junk [(id,.mp k e l')]
    |_=>none
    else none
   |_=>none
  |_=>none
 |.lookup T x y ok=>(K.mapTys T).bind fun t=>(match ev K tm x with
   |some (.ptr id 0)=>(S id).bind Ob.mapOf
   |some (.t ⟨.map k e,l⟩)=>some ⟨k,e,l⟩
   |_=>none).bind fun m=>if t.2.2.1=m.1∧t.2.2.2=m.2.1 then match ev K tm y with
    |some (.t q)=>(K.zero m.2.1 t.2.1).bind fun z=>(zair m.1 m.2.1 m.2.2 q).bind fun r=>
     bif ok then c (.tup [.t ⟨m.2.1,r.getD z⟩,.t ⟨.bool,r.isSome⟩]) [] else c (.t ⟨m.2.1,r.getD z⟩) []
    |_=>none
    else none
 |.makeFunc (.func f) first caps=>if first.size=0 then (evs K tm caps.toList).bind fun ps=>match ps with
   |[]=>c (.k (.func (.func f) #[] #[])) []
   |p::ps=>c (.clo f (p::ps)) []
  else none
 |.makeInterface T x=>match K.P.underlying T with
  |some (.interface _)=>none
  |some _=>(ev K tm x).bind fun p=>c (.ifc T p) []
  |none=>none
 |.typeAssert x _ T ok=>match ev K tm x,K.P.underlying T with
  |some (.ifc T' p),some d=>match d with
   |.interface _=>none
   |_=>if T'=T then bif ok then c (.tup [p,.t ⟨.bool,true⟩]) [] else c p [] else none
  |_,_=>none
 |.makeSlice T n m=>match o.dst with
  |some d=>match S d,K.P.underlying T with
   |none,some (.slice E)=>match K.tyOf E,K.P.info? E,ev K tm n,ev K tm m with
    |some e,some i,some (.t ⟨.int .i64,a⟩),some (.t ⟨.int .i64,b⟩)=>
     if K.u.plainTy e=true∧i.size=K.u.size e∧0<i.size then (K.zero e E).bind fun z=>bif decide (0≤a)&&(decide (a=b)&&decide (b.toNat*i.bytes≤zaa9∧b.toNat≤maxLen)) then c (.oslc d 0) [(d,.row E 0 e (List.replicate a.toNat z))] else none else none
    |_,_,_,_=>none
   |_,_=>none
  |none=>none
 |.call cl=>match cl.callee with
  |.builtin b=>match o.dst with
   |some d=>(evs K tm cl.args.toList).bind fun ps=>K.blt d S b cl.argTypes ps c
   |none=>none
  |.value (.func f)=>(evs K tm cl.args.toList).bind fun ps=>K.callF S f ps o.dst c
  |.value x=>match ev K tm x with
   |some (.clo f cs)=>(evs K tm cl.args.toList).bind fun ps=>K.callF S f (ps++cs) o.dst c
   |some (.t ⟨.fn,f⟩)=>(evs K tm cl.args.toList).bind fun ps=>K.callF S f ps o.dst c
   |some (.k (.func (.func f) a b))=>if a.size=0∧b.size=0 then (evs K tm cl.args.toList).bind fun ps=>K.callF S f ps o.dst c else none
   |_=>none
  |_=>none
 |_=>none
def Kit.stepP (o:Oper) (tm:Nat→Option (PV K.u.U)) (S:Nat→Option (Ob K.u.U)) (c pc:PV K.u.U→Ups K.u.U→Option R):Option R:=
 match o.op with
 |.panic x=>match ev K tm x with
  |some (.ifc T p)=>pc (.ifc T p) []
  |_=>none
 |.call cl=>match cl.callee with
  |.value (.func f)=>(evs K tm cl.args.toList).bind fun ps=>K.callFP S f ps o.dst c pc
  |.value x=>match ev K tm x with
   |some (.clo f cs)=>(evs K tm cl.args.toList).bind fun ps=>K.callFP S f (ps++cs) o.dst c pc
   |some (.k (.func (.func f) a b))=>if a.size=0∧b.size=0 then (evs K tm cl.args.toList).bind fun ps=>K.callFP S f ps o.dst c pc else none
   |_=>K.step o tm S c
  |_=>K.step o tm S c
 |_=>K.step o tm S c
end
end Lift
namespace Lift
open Go Go.RowKit
def zaa5 (v:Value) (off:Nat):Value:=match v with
 |.pointer (some a)=>.pointer (some ⟨a.block,a.off+off,none⟩)
 |.slice (some a) _ _=>.pointer (some ⟨a.block,a.off+off,none⟩)
 |v=>v
def blkOf:Value→Option Nat
 |.pointer (some a)=>some a.block
 |.slice (some a) _ _=>some a.block
 |.map (some b)=>some b
 |_=>none
section
variable {U:Nat→Type}
def Ob.live:Ob U→Bool
 |.dead=>false
 |.frz _ _ _=>false
 |.fmp _ _ _=>false
 |_=>true
def Ob.sets:Ob U→Bool
 |.row _ _ _ _=>true
 |.mp _ _ _=>true
 |_=>false
theorem Ob.sets_live {o:Ob U} (h:o.sets=true):o.live=true:=by cases o<;>first|rfl|cases h
def Ob.may (ver:Nat):Ob U→Prop
 |.row _ v _ _=>ver≤v
 |.frz v _ _=>ver≤v
 |.opn _ v _ _ _ _=>ver≤v
 |_=>True
theorem zajf {o:Ob U} {ver:Nat} {x:(e:Ty)×List (e.den U)} (h:o.now ver=some x):(∃ T,o=.row T ver x.1 x.2)∨o=.frz ver x.1 x.2∨∃ T i cs,o=.opn T ver x.1 x.2 i cs:=by
 unfold Ob.now at h;split at h
 ·rename_i T v e l;cases hb:Nat.beq v ver with
  |true=>
   rw[hb,cond_true] at h;cases h;exact .inl ⟨T,by rw[Nat.eq_of_beq_eq_true hb]⟩
  |false=>rw[hb] at h; cases h
 ·rename_i v e l;cases hb:Nat.beq v ver with
  |true=>
   rw[hb,cond_true] at h;cases h;exact .inr (.inl (by rw[Nat.eq_of_beq_eq_true hb]))
  |false=>rw[hb] at h; cases h
 ·rename_i T v e l i cs;cases hb:Nat.beq v ver with
  |true=>
   rw[hb,cond_true] at h;cases h;exact .inr (.inr ⟨T,i,cs,by rw[Nat.eq_of_beq_eq_true hb]⟩)
  |false=>rw[hb] at h; cases h
 ·cases h
theorem zahf {o:Ob U} {ver:Nat} {x:(e:Ty)×List (e.den U)} (h:o.val ver=some x):(∃ T,o=.row T ver x.1 x.2)∨o=.frz ver x.1 x.2:=by
 unfold Ob.val at h;split at h
 ·rename_i T v e l;cases hb:Nat.beq v ver with
  |true=>
   rw[hb,cond_true] at h;cases h;exact .inl ⟨T,by rw[Nat.eq_of_beq_eq_true hb]⟩
  |false=>rw[hb] at h; cases h
 ·rename_i v e l;cases hb:Nat.beq v ver with
  |true=>
   rw[hb,cond_true] at h;cases h;exact .inr (by rw[Nat.eq_of_beq_eq_true hb])
  |false=>rw[hb] at h; cases h
 ·cases h
theorem zanz {o:Ob U} {ver:Nat} {x:(e:Ty)×List (e.den U)} (h:o.val ver=some x):o.now ver=some x:=by
 rcases zahf h with ⟨T,rfl⟩|rfl<;>simp[Ob.now]
@[simp] theorem zab3 {T:TypeId} {ver:Nat} {e:Ty} {l:List (e.den U)}:(Ob.row T ver e l:Ob U).now ver=some ⟨e,l⟩:=by simp[Ob.now]
@[simp] theorem zas0 {ver:Nat} {e:Ty} {l:List (e.den U)}:(Ob.frz ver e l:Ob U).now ver=some ⟨e,l⟩:=by simp[Ob.now]
@[simp] theorem zaih {T:TypeId} {ver i:Nat} {e:Ty} {l:List (e.den U)} {cs:List (PV U)}:(Ob.opn T ver e l i cs:Ob U).now ver=some ⟨e,l⟩:=by simp[Ob.now]
theorem zadp {T:TypeId} {v ver:Nat} {e:Ty} {l:List (e.den U)} {x:(e:Ty)×List (e.den U)} (h:(Ob.row T v e l:Ob U).now ver=some x):v=ver∧x=⟨e,l⟩:=by
 rcases zajf h with ⟨T',he⟩|he|⟨_,_,_,he⟩
 ·cases he; exact ⟨rfl,rfl⟩
 ·cases he
 ·cases he
theorem zahd {T:TypeId} {v ver i:Nat} {e:Ty} {l:List (e.den U)} {cs:List (PV U)} {x:(e:Ty)×List (e.den U)} (h:(Ob.opn T v e l i cs:Ob U).now ver=some x):v=ver∧x=⟨e,l⟩:=by
 rcases zajf h with ⟨T',he⟩|he|⟨_,_,_,he⟩
 ·cases he
 ·cases he
 ·cases he; exact ⟨rfl,rfl⟩
theorem zakk {v ver:Nat} {e:Ty} {l:List (e.den U)} {x:(e:Ty)×List (e.den U)} (h:(Ob.frz v e l:Ob U).now ver=some x):v=ver∧x=⟨e,l⟩:=by
 rcases zajf h with ⟨T',he⟩|he|⟨_,_,_,he⟩
 ·cases he
 ·cases he; exact ⟨rfl,rfl⟩
 ·cases he
end
structure Gh where
 v:Value
 F:List Nat
def Gh.of (v:Value):Gh:=⟨v,[]⟩
@[simp] theorem Gh.of_v (v:Value):(Gh.of v).v=v:=rfl
@[simp] theorem Gh.of_F (v:Value):(Gh.of v).F=[]:=rfl
def Ob.isRow {U:Nat→Type}:Ob U→Bool
 |.row _ _ _ _=>true
 |.opn _ _ _ _ _ _=>true
 |_=>false
def Ob.has {U:Nat→Type} (o:Ob U) (g:Gh) (b:Nat):Prop:=blkOf g.v=some b∨(o.isRow=true∧b∈g.F)
section
variable (K:Kit)
mutual
def PRel (G:Nat→Option Obj) (S:Nat→Option (Ob K.u.U)) (β:Nat→Gh):PV K.u.U→Value→Prop
 |.t c,v=>TRel K.u G c v
 |.junk,_=>True
 |.k c,v=>v=c∧c.oneCell'=true
 |.ptr id off,v=>v.oneCell'=true∧∃ ob,S id=some ob∧(ob.isP=true→v=zaa5 ((β id).v) off)
 |.selfp id,v=>v.oneCell'=true∧(v=.pointer none∨∃ ob,S id=some ob∧(ob.isP=true→v=zaa5 ((β id).v) 0))
 |.bslc id n,v=>v.oneCell'=true∧∃ ob,S id=some ob∧(ob.isP=true→∃ b,(β id).v=.pointer (some ⟨b,0,none⟩)∧v=.slice (some ⟨b,0,none⟩) n n)
 |.oslc id ver,v=>v.oneCell'=true∧∃ ob,S id=some ob∧ob.may ver∧(∀ x,ob.now ver=some x→v=(β id).v)
 |.eptr id ver i off,v=>(∃ b o,v=.pointer (some ⟨b,o,none⟩))∧∃ ob,S id=some ob∧ob.may ver∧(∀ x,ob.now ver=some x→i<x.2.length∧v=zaa5 ((β id).v) (i*K.u.size x.1+off))
 |.rptr c off,v=>∃ b o cur T fz x,v=.pointer (some ⟨b,o+off,none⟩)∧G b=some (.cells cur T fz)∧TRel K.u G c x∧∀ j u,x.cells[j]? = some u→cur[o+j]? = some u
 |.agg l,v=>∃ vs:List Value,v=.agg vs.toArray∧PsRel G S β l vs∧∀ x∈vs,x.oneCell'=true
 |.tup l,v=>∃ vs:List Value,v=.tuple vs.toArray∧PsRel G S β l vs
 |.clo f l,v=>∃ vs:List Value,v=.func (.func f) #[] vs.toArray∧PsRel G S β l vs
 |.ifc T p,v=>∃ x,v=.iface T x∧PRel G S β p x
 |.ub,v=>∃ b,v=.bool b
def PsRel (G:Nat→Option Obj) (S:Nat→Option (Ob K.u.U)) (β:Nat→Gh):List (PV K.u.U)→List Value→Prop
 |[],vs=>vs=[]
 |p::l,vs=>∃ u r,vs=u::r∧PRel G S β p u∧PsRel G S β l r
end
def ObRel (G:Nat→Option Obj) (S:Nat→Option (Ob K.u.U)) (β:Nat→Gh) (w:World) (id:Nat):Ob K.u.U→Prop
 |.blk T cs=>∃ b vs,(β id).v=.pointer (some ⟨b,0,none⟩)∧w.heap[b]? = some (.cells (vs:List Value).toArray T (0,0))∧PsRel K G S β cs vs∧∀ x∈vs,x.oneCell'=true
 |.row T _ e l=>∃ vals,HsRel K.u G (fun k=>w.heap[k]?) (β id).F (l.map (TV.mk e)) vals∧w.ownsZ 0 T (K.u.size e) (β id).v l.length (vals.flatMap fun x=>x.cells.toList)∧∀ b∈(β id).F,blkOf (β id).v≠some b
 |.frz _ e l=>TRel K.u G ⟨.slc e,l⟩ ((β id).v)
 |.sit s pos=>∃ b,(β id).v=.pointer (some ⟨b,0,none⟩)∧w.heap[b]? = some (.stringIter ⟨s.toArray⟩ pos)
 |.mp k e l=>∃ b es clock,(β id).v=.map (some b)∧w.heap[b]? = some (.map es clock)∧TsRel K.u G (l.map fun x=>⟨k,x.1⟩) (es.toList.map (·.key))∧TsRel K.u G (l.map fun x=>⟨e,x.2⟩) (es.toList.map (·.val))
 |.fmp k e l=>TRel K.u G ⟨.map k e,l⟩ ((β id).v)
 | .opn T _ e l i cs => ∃ (vals cvs : List Value) (F1 F3 : List Nat), (β id).F = F1 ++ F3 ∧ i < l.length ∧ vals.length = l.length ∧ (∀ z ∈ vals, z.cells.size = K.u.size e) ∧ vals[i]? = some (.agg cvs.toArray) ∧
   HsRel K.u G (fun k=>w.heap[k]?) F1 ((l.map (TV.mk e)).take i) (vals.take i)∧HsRel K.u G (fun k=>w.heap[k]?) F3 ((l.map (TV.mk e)).drop (i+1)) (vals.drop (i+1))∧(∀ b∈F1,b∉F3) ∧
   PsRel K G S β cs cvs∧(∀ x∈cvs,x.oneCell'=true) ∧
   w.ownsZ 0 T (K.u.size e) (β id).v l.length (vals.flatMap fun x=>x.cells.toList)∧∀ b∈(β id).F,blkOf (β id).v≠some b
 |.dead=>True
structure Comp (G G':Nat→Option Obj) (S:Nat→Option (Ob K.u.U)) (β:Nat→Gh) (S':Nat→Option (Ob K.u.U)) (β':Nat→Gh):Prop where
 g:∀ k o,G k=some o→G' k=some o
 s:∀ id ob,S id=some ob→∃ ob',S' id=some ob'∧(ob'.isP=true→ob.isP=true∧(β' id).v=(β id).v) ∧
  (∀ v,ob.may v→ob'.may v) ∧
  (∀ ver x',ob.may ver→ob'.now ver=some x'→∃ x,ob.now ver=some x∧K.u.size x.1=K.u.size x'.1∧x.2.length=x'.2.length∧(β' id).v=(β id).v)
variable {K}
section
variable {G G' G'':Nat→Option Obj} {S S' S'':Nat→Option (Ob K.u.U)} {β β' β'':Nat→Gh}
theorem Comp.refl:Comp K G G S β S β:=
 ⟨fun _ _ h=>h,fun _ ob h=>⟨ob,h,fun h=>⟨h,rfl⟩,fun _ h=>h,fun _ x' _ h=>⟨x',h,rfl,rfl,rfl⟩⟩⟩
theorem Comp.trans (h:Comp K G G' S β S' β') (h':Comp K G' G'' S' β' S'' β''):Comp K G G'' S β S'' β'':=by
 refine ⟨fun k o hk=>h'.g k o (h.g k o hk),fun id ob hob=>?_⟩;obtain ⟨ob1,h1,a1,m1,r1⟩:=h.s id ob hob;obtain ⟨ob2,h2,a2,m2,r2⟩:=h'.s id ob1 h1;refine ⟨ob2,h2,fun hp=>?_,fun v hv=>m2 v (m1 v hv),fun ver x' hv he=>?_⟩
 ·obtain ⟨p1,e1⟩:=a2 hp;obtain ⟨p0,e0⟩:=a1 p1;exact ⟨p0,e1.trans e0⟩
 ·obtain ⟨l1,e1,t1,n1,b1⟩:=r2 ver x' (m1 ver hv) he;obtain ⟨l0,e0,t0,n0,b0⟩:=r1 ver l1 hv e1;exact ⟨l0,e0,t0.trans t1,n0.trans n1,b1.trans b0⟩
mutual
theorem PRel.over (h:Comp K G G' S β S' β'):∀ (p:PV K.u.U) {v:Value},PRel K G S β p v→PRel K G' S' β' p v
 |.t c,v,hp=>by simp only[PRel] at hp ⊢; exact hp.mono h.g
 |.ub,v,hp=>by simp only[PRel] at hp ⊢; exact hp
 |.junk,v,hp=>by simp only[PRel]
 |.k c,v,hp=>by simp only[PRel] at hp ⊢; exact hp
 |.ptr id off,v,hp=>by
  simp only[PRel] at hp ⊢;obtain ⟨h0,ob,h1,h2⟩:=hp;obtain ⟨ob',h3,h4,_,_⟩:=h.s id ob h1;exact ⟨h0,ob',h3,fun hl=>by obtain ⟨h5,h6⟩:=h4 hl; rw[h6]; exact h2 h5⟩
 |.bslc id n,v,hp=>by
  simp only[PRel] at hp ⊢;obtain ⟨h0,ob,h1,h2⟩:=hp;obtain ⟨ob',h3,h4,_,_⟩:=h.s id ob h1;exact ⟨h0,ob',h3,fun hl=>by obtain ⟨h5,h6⟩:=h4 hl; rw[h6]; exact h2 h5⟩
 |.selfp id,v,hp=>by
  simp only[PRel] at hp ⊢;obtain ⟨h0,hp|⟨ob,h1,h2⟩⟩:=hp
  ·exact ⟨h0,.inl hp⟩
  ·obtain ⟨ob',h3,h4,_,_⟩:=h.s id ob h1;exact ⟨h0,.inr ⟨ob',h3,fun hl=>by obtain ⟨h5,h6⟩:=h4 hl; rw[h6]; exact h2 h5⟩⟩
 |.oslc id ver,v,hp=>by
  simp only[PRel] at hp ⊢;obtain ⟨h0,ob,h1,hm,h2⟩:=hp;obtain ⟨ob',h3,_,h5,h6⟩:=h.s id ob h1;exact ⟨h0,ob',h3,h5 _ hm,fun x hl=>by obtain ⟨x0,e0,_,_,eb⟩:=h6 ver x hm hl; rw[eb]; exact h2 x0 e0⟩
 |.eptr id ver i off,v,hp=>by
  simp only[PRel] at hp ⊢;obtain ⟨h0,ob,h1,hm,h2⟩:=hp;obtain ⟨ob',h3,_,h5,h6⟩:=h.s id ob h1;exact ⟨h0,ob',h3,h5 _ hm,fun x hl=>by obtain ⟨x0,e0,et,el,eb⟩:=h6 ver x hm hl; rw[eb,← el,← et]; exact h2 x0 e0⟩
 |.rptr c off,v,hp=>by
  simp only[PRel] at hp ⊢;obtain ⟨b,o,cur,T,fz,x,h1,h2,h3,h4⟩:=hp;exact ⟨b,o,cur,T,fz,x,h1,h.g _ _ h2,h3.mono h.g,h4⟩
 |.agg l,v,hp=>by
  simp only[PRel] at hp ⊢;obtain ⟨vs,h1,h2,h3⟩:=hp;exact ⟨vs,h1,PsRel.over h l h2,h3⟩
 |.tup l,v,hp=>by
  simp only[PRel] at hp ⊢;obtain ⟨vs,h1,h2⟩:=hp;exact ⟨vs,h1,PsRel.over h l h2⟩
 |.clo f l,v,hp=>by
  simp only[PRel] at hp ⊢;obtain ⟨vs,h1,h2⟩:=hp;exact ⟨vs,h1,PsRel.over h l h2⟩
 |.ifc T p,v,hp=>by
  simp only[PRel] at hp ⊢;obtain ⟨x,h1,h2⟩:=hp;exact ⟨x,h1,PRel.over h p h2⟩
theorem PsRel.over (h:Comp K G G' S β S' β'):∀ (l:List (PV K.u.U)) {vs:List Value},PsRel K G S β l vs→PsRel K G' S' β' l vs
 |[],vs,hp=>by simp only[PsRel] at hp ⊢; exact hp
 |p::l,vs,hp=>by
  simp only[PsRel] at hp ⊢;obtain ⟨u,r,h1,h2,h3⟩:=hp;exact ⟨u,r,h1,PRel.over h p h2,PsRel.over h l h3⟩
end
theorem PsRel.length {l:List (PV K.u.U)} {vs:List Value} (h:PsRel K G S β l vs):l.length=vs.length:=by
 induction l generalizing vs with
 |nil=>simp only[PsRel] at h; subst h; rfl
 |cons p l ih=>simp only[PsRel] at h; obtain ⟨u,r,rfl,_,h3⟩:=h; simp[ih h3]
theorem PsRel.get {l:List (PV K.u.U)} {vs:List Value} (h:PsRel K G S β l vs) (i:Nat) {p:PV K.u.U} (hp:l[i]? = some p):∃ v,vs[i]? = some v∧PRel K G S β p v:=by
 induction l generalizing vs i with
 |nil=>simp at hp
 |cons q l ih=>
  simp only[PsRel] at h; obtain ⟨u,r,rfl,h2,h3⟩:=h;cases i with
  |zero=>simp at hp; subst hp; exact ⟨u,by simp,h2⟩
  |succ i=>simp at hp; obtain ⟨v,h4,h5⟩:=ih h3 i hp; exact ⟨v,by simpa using h4,h5⟩
theorem PsRel.append {l m:List (PV K.u.U)} {vs us:List Value} (h:PsRel K G S β l vs) (h':PsRel K G S β m us):PsRel K G S β (l++m) (vs++us):=by
 induction l generalizing vs with
 |nil=>simp only[PsRel] at h; subst h; simpa using h'
 |cons q l ih=>
  simp only[PsRel] at h; obtain ⟨u,r,rfl,h2,h3⟩:=h;simp only[List.cons_append,PsRel];exact ⟨u,r++us,rfl,h2,ih h3⟩
theorem PsRel.take {l:List (PV K.u.U)} {vs:List Value} (h:PsRel K G S β l vs) (n:Nat):PsRel K G S β (l.take n) (vs.take n):=by
 induction l generalizing vs n with
 |nil=>simp only[PsRel] at h; subst h; simp[PsRel]
 |cons q l ih=>
  simp only[PsRel] at h; obtain ⟨u,r,rfl,h2,h3⟩:=h;cases n with
  |zero=>simp[PsRel]
  |succ n=>simp only[List.take_succ_cons,PsRel]; exact ⟨u,r.take n,rfl,h2,ih h3 n⟩
theorem PsRel.drop {l:List (PV K.u.U)} {vs:List Value} (h:PsRel K G S β l vs) (n:Nat):PsRel K G S β (l.drop n) (vs.drop n):=by
 induction l generalizing vs n with
 |nil=>simp only[PsRel] at h; subst h; simp[PsRel]
 |cons q l ih=>
  have h0:=h;simp only[PsRel] at h; obtain ⟨u,r,rfl,h2,h3⟩:=h;cases n with
  |zero=>simpa using h0
  |succ n=>simpa using ih h3 n
theorem PsRel.ofTs {l:List (TV K.u.U)} {vs:List Value} (h:TsRel K.u G l vs):PsRel K G S β (l.map .t) vs:=by
 induction l generalizing vs with
 |nil=>cases h; simp[PsRel]
 |cons c l ih=>cases h with|cons _ _ v vs h1 h2=>simp only[List.map_cons,PsRel]; exact ⟨v,vs,rfl,by simpa only[PRel] using h1,ih h2⟩
theorem PRel.cellsOf {p:PV K.u.U} {v:Value} (h:PRel K G S β p v) {cs:List (PV K.u.U)} (hc:p.cellsOf K.u=some cs) :
  PsRel K G S β cs v.cells.toList∧∀ x∈v.cells.toList,x.oneCell'=true:=by
 have one:v.oneCell'=true→PsRel K G S β [p] v.cells.toList∧∀ x∈v.cells.toList,x.oneCell'=true:=by
  intro h1;have e:v.cells.toList=[v]:=by cases v<;>simp_all[Value.cells,Value.oneCell']
  rw[e];exact ⟨by simp only[PsRel]; exact ⟨v,[],rfl,h,rfl⟩,by simpa using h1⟩
 cases p with
 |t c=>
  simp only[PV.cellsOf,Option.some.injEq] at hc;subst hc;simp only[PRel] at h;exact ⟨PsRel.ofTs h.cells,fun x hx=>h.cells_oneCell (Array.mem_toList_iff.1 hx)⟩
 |agg l=>
  simp only[PV.cellsOf,Option.some.injEq] at hc;subst hc;simp only[PRel] at h;obtain ⟨vs,rfl,h2,h3⟩:=h;exact ⟨by simpa [Value.cells] using h2,by simpa [Value.cells] using h3⟩
 |tup l=>simp[PV.cellsOf] at hc
 |junk=>simp[PV.cellsOf] at hc
 |ub=>simp only[PV.cellsOf,Option.some.injEq] at hc; subst hc; have h0:=h; simp only[PRel] at h0; obtain ⟨b,rfl⟩:=h0; exact one rfl
 |k c=>simp only[PV.cellsOf,Option.some.injEq] at hc; subst hc; simp only[PRel] at h; exact one (by rw[h.1]; exact h.2)
 |rptr c off=>simp only[PV.cellsOf,Option.some.injEq] at hc; subst hc; have h0:=h; simp only[PRel] at h0; obtain ⟨b,o,_,_,_,_,rfl,_⟩:=h0; exact one rfl
 |clo f l=>simp only[PV.cellsOf,Option.some.injEq] at hc; subst hc; have h0:=h; simp only[PRel] at h0; obtain ⟨vs,rfl,_⟩:=h0; exact one rfl
 |ifc T q=>simp only[PV.cellsOf,Option.some.injEq] at hc; subst hc; have h0:=h; simp only[PRel] at h0; obtain ⟨x,rfl,_⟩:=h0; exact one rfl
 |ptr id off=>simp only[PV.cellsOf,Option.some.injEq] at hc; subst hc; have h0:=h; simp only[PRel] at h0; exact one h0.1
 |bslc id n=>simp only[PV.cellsOf,Option.some.injEq] at hc; subst hc; have h0:=h; simp only[PRel] at h0; exact one h0.1
 |selfp id=>simp only[PV.cellsOf,Option.some.injEq] at hc; subst hc; have h0:=h; simp only[PRel] at h0; exact one h0.1
 |oslc id ver=>simp only[PV.cellsOf,Option.some.injEq] at hc; subst hc; have h0:=h; simp only[PRel] at h0; exact one h0.1
 |eptr id ver i off=>simp only[PV.cellsOf,Option.some.injEq] at hc; subst hc; have h0:=h; simp only[PRel] at h0; obtain ⟨_,_,hv⟩:=h0.1; exact one (by rw[hv]; rfl)
end
end
end Lift
namespace Lift
open Go Go.RowKit
theorem zaah {α:Type} (j:Nat) (x:α) (r:List (Nat×α)) (i:Nat):look ((j,x)::r) i=if i=j then some x else look r i:=by
 simp only[look];by_cases h:i=j
 ·subst h; simp
 ·have:Nat.beq j i=false:=by
   cases hb:Nat.beq j i with
   |false=>rfl
   |true=>exact absurd (Nat.eq_of_beq_eq_true hb).symm h
  simp[this,h]
section
variable {K:Kit} {G G':Nat→Option Obj} {S:Nat→Option (Ob K.u.U)} {β:Nat→Gh}
theorem zah4 {v:Value} {p:PV K.u.U} (h:ofVal v=some p):PRel K G S β p v:=by
 unfold ofVal at h;split at h
 ·simp at h; subst h; simp only[PRel]; exact .int _ _
 ·simp at h; subst h; simp only[PRel]; exact .bool _
 ·simp at h; subst h; simp only[PRel]; rename_i s; exact .str s.data.toList
 ·split at h
  ·simp at h; subst h; simp only[PRel]; exact ⟨trivial,by assumption⟩
  ·cases h
theorem zav5 {v:Value} {p:PV K.u.U} (h:ofVal v=some p):v.oneCell'=true:=by
 unfold ofVal at h;split at h<;>first|rfl|(split at h<;>first|assumption|cases h)
theorem zahe {vs:List Value} {ps:List (PV K.u.U)} (h:zafz vs=some ps):PsRel K G S β ps vs∧∀ x∈vs,x.oneCell'=true:=by
 induction vs generalizing ps with
 |nil=>simp[zafz] at h; subst h; simp[PsRel]
 |cons v r ih=>
  simp only[zafz,Option.bind_eq_some_iff] at h;obtain ⟨p,h1,qs,h2,h3⟩:=h;simp at h3;subst h3;obtain ⟨i1,i2⟩:=ih h2;refine ⟨by simp only[PsRel]; exact ⟨v,r,rfl,zah4 h1,i1⟩,?_⟩;intro x hx;cases hx with
  |head=>exact zav5 h1
  |tail _ hx=>exact i2 x hx
def TmOk (K:Kit) (G:Nat→Option Obj) (S:Nat→Option (Ob K.u.U)) (β:Nat→Gh) (tm:Nat→Option (PV K.u.U)) (a:Act):Prop:=
 ∀ s p,tm s=some p→∃ v,a.tmps[s]? = some v∧PRel K G S β p v
theorem zaae {tm:Nat→Option (PV K.u.U)} {a:Act} (ht:TmOk K G S β tm a) {x:Operand} {p:PV K.u.U} (h:ev K tm x=some p):PRel K G S β p (a.eval x):=by
 cases x with
 |tmp s=>
  simp only[ev] at h;obtain ⟨v,h1,h2⟩:=ht s p h;simpa [Act.eval,h1] using h2
 |const v=>exact zah4 h
 |func f=>simp[ev] at h; subst h; simp only[PRel,Act.eval]; exact ⟨trivial,rfl⟩
 |global g=>simp[ev] at h
theorem zace {tm:Nat→Option (PV K.u.U)} {a:Act} (ht:TmOk K G S β tm a):∀ {l:List Operand} {ps:List (PV K.u.U)},evs K tm l=some ps→PsRel K G S β ps (l.map a.eval)
 |[],ps,h=>by simp[evs] at h; subst h; simp[PsRel]
 |x::r,ps,h=>by
  simp only[evs,Option.bind_eq_some_iff] at h;obtain ⟨p,h1,qs,h2,h3⟩:=h;simp at h3;subst h3;simp only[List.map_cons,PsRel];exact ⟨_,_,rfl,zaae ht h1,zace ht h2⟩
theorem zabw {t:Ty} {p:PV K.u.U} {c:TV K.u.U} {v:Value} (h:p.asFlat t=some c) (hp:PRel K G S β p v):TRel K.u G c v∧c.t=t:=by
 unfold PV.asFlat at h;split at h
 ·split at h
  ·simp at h; subst h; simp only[PRel] at hp; exact ⟨hp,by assumption⟩
  ·cases h
 ·split at h
  ·simp at h; subst h; simp only[PRel] at hp; rw[hp.1]; exact ⟨.nil _ _,rfl⟩
  ·cases h
 ·split at h
  ·simp at h; subst h; simp only[PRel] at hp; rw[hp.1]; exact ⟨.noErr,rfl⟩
  ·cases h
 ·split at h
  ·simp at h; subst h; simp only[PRel] at hp; rw[hp.1]; exact ⟨.mnil _ _,rfl⟩
  ·cases h
 ·split at h
  ·split at h
   ·rename_i hh;simp at h; subst h; simp only[PRel] at hp; rw[hp.1];obtain ⟨ha,hb⟩:=hh;have ea:=Array.eq_empty_of_size_eq_zero ha;have eb:=Array.eq_empty_of_size_eq_zero hb;subst ea; subst eb;exact ⟨.fn _,rfl⟩
   ·cases h
  ·cases h
 ·cases h
theorem zag6 {U:Nat→Type} {t:Ty} {c:TV U} {x:t.den U} (h:asT t c=some x):c=⟨t,x⟩:=by
 unfold asT at h;split at h
 ·rename_i hh; subst hh; simp at h; subst h; rfl
 ·cases h
theorem zadx {f:Ty→PV K.u.U→Option (TV K.u.U)} (hf:∀ t p c v,f t p=some c→PRel K G S β p v→TRel K.u G' c v∧c.t=t) :
  ∀ {ts:List Ty} {ps:List (PV K.u.U)} {cs:List (TV K.u.U)} {vs:List Value},zaa7 f ts ps=some cs→PsRel K G S β ps vs→TsRel K.u G' cs vs∧cs.map TV.t=ts
 |[],[],cs,vs,h,hp=>by simp[zaa7] at h; subst h; simp only[PsRel] at hp; subst hp; exact ⟨.nil,rfl⟩
 |t::ts,p::ps,cs,vs,h,hp=>by
  simp only[zaa7,Option.bind_eq_some_iff] at h;obtain ⟨c,h1,ds,h2,h3⟩:=h;simp at h3;subst h3;simp only[PsRel] at hp;obtain ⟨u,r,rfl,h4,h5⟩:=hp;obtain ⟨i1,i2⟩:=hf t p c u h1 h4;obtain ⟨j1,j2⟩:=zadx hf h2 h5;exact ⟨.cons _ _ _ _ i1 j1,by simp[i2,j2]⟩
 |[],_::_,cs,vs,h,hp=>by simp[zaa7] at h
 |_::_,[],cs,vs,h,hp=>by simp[zaa7] at h
def zarm (K:Kit) (G':Nat→Option Obj) (S:Nat→Option (Ob K.u.U)) (β:Nat→Gh) (I:Nat→Prop):Prop:=
 (∀ id ob ver x,I id→S id=some ob→ob.val ver=some x→TRel K.u G' ⟨.slc (x.1.plain K.u.pn),zacw K.u x.1 x.2⟩ (β id).v) ∧
 ∀ id ob x,I id→S id=some ob→ob.mapOf=some x→TRel K.u G' ⟨.map x.1 x.2.1,x.2.2⟩ (β id).v
theorem zaob {U:Nat→Type} {o:Ob U} {x:(k:Ty)×(e:Ty)×List (k.den U×e.den U)} (h:o.mapOf=some x):o.isP=true:=by
 cases o<;>first|rfl|cases h
theorem zall (hg:∀ k o,G k=some o→G' k=some o) {I:Nat→Prop} (hr:zarm K G' S β I) {t:Ty} {p:PV K.u.U} {c:TV K.u.U} {v:Value} (hi:∀ id ver,p=.oslc id ver∨p=.ptr id ver→I id)
  (h:p.asOwn K.u S t=some c) (hp:PRel K G S β p v):TRel K.u G' c v∧c.t=t:=by
 unfold PV.asOwn at h;split at h
 ·rename_i id ver;split at h
  ·rename_i e l hS;split at h
   ·rename_i hh;subst hh;simp at h;subst h;simp only[PRel] at hp;obtain ⟨_,ob,h1,_,h2⟩:=hp;rw[h1,Option.bind_some] at hS;rw[h2 _ (zanz hS)];exact ⟨hr.1 _ _ _ _ (hi _ _ (.inl rfl)) h1 hS,rfl⟩
   ·cases h
  ·cases h
 ·rename_i id;split at h
  ·rename_i kt e l hS;split at h
   ·rename_i hh;subst hh;simp at h;subst h;simp only[PRel] at hp;obtain ⟨_,ob,h1,h2⟩:=hp;rw[h1,Option.bind_some] at hS;have hv:=h2 (zaob hS);have hm:=hr.2 _ _ _ (hi _ _ (.inr rfl)) h1 hS;have e0:zaa5 (β id).v 0=(β id).v:=by
     rcases hm.map_inv with ⟨_,h3⟩|⟨b,_,_,h3,_⟩<;>rw[h3]<;>rfl
    rw[hv,e0];exact ⟨hm,rfl⟩
   ·cases h
  ·cases h
 ·obtain ⟨i1,i2⟩:=zabw h hp;exact ⟨i1.mono hg,i2⟩
theorem zai6 {f:Ty→PV K.u.U→Option (TV K.u.U)} {I:PV K.u.U→Prop} (hf:∀ t p c v,I p→f t p=some c→PRel K G S β p v→TRel K.u G' c v∧c.t=t) :
  ∀ {ts:List Ty} {ps:List (PV K.u.U)} {cs:List (TV K.u.U)} {vs:List Value},(∀ p∈ps,I p)→zaa7 f ts ps=some cs→PsRel K G S β ps vs→TsRel K.u G' cs vs∧cs.map TV.t=ts
 |[],[],cs,vs,_,h,hp=>by simp[zaa7] at h; subst h; simp only[PsRel] at hp; subst hp; exact ⟨.nil,rfl⟩
 |t::ts,p::ps,cs,vs,hi,h,hp=>by
  simp only[zaa7,Option.bind_eq_some_iff] at h;obtain ⟨c,h1,ds,h2,h3⟩:=h;simp at h3;subst h3;simp only[PsRel] at hp;obtain ⟨u,r,rfl,h4,h5⟩:=hp;obtain ⟨i1,i2⟩:=hf t p c u (hi p (by simp)) h1 h4;obtain ⟨j1,j2⟩:=zai6 hf (fun q hq=>hi q (by simp[hq])) h2 h5;exact ⟨.cons _ _ _ _ i1 j1,by simp[i2,j2]⟩
 |[],_::_,cs,vs,_,h,hp=>by simp[zaa7] at h
 |_::_,[],cs,vs,_,h,hp=>by simp[zaa7] at h
theorem zat1 {p:PV K.u.U} {ps:List (PV K.u.U)} {id:Nat} (h:id∈owned [p]):id∈owned (p::ps):=by
 cases p<;>simp_all[owned]
theorem zaup {p:PV K.u.U} {ps:List (PV K.u.U)} {id:Nat} (h:id∈owned ps):id∈owned (p::ps):=by
 cases p<;>simp_all[owned]
theorem zau9 {p:PV K.u.U} {ps:List (PV K.u.U)} (hp:p∈ps) {id:Nat} (h:id∈owned [p]):id∈owned ps:=by
 induction ps with
 |nil=>cases hp
 |cons q ps ih=>
  cases hp with
  |head=>exact zat1 h
  |tail _ hp=>exact zaup (ih hp)
theorem zah9 (hg:∀ k o,G k=some o→G' k=some o) {I:Nat→Prop} (hr:zarm K G' S β I) {t:Ty} {p:PV K.u.U} {c:TV K.u.U} {v:Value} (hi:∀ id∈owned [p],I id)
  (h:p.asVal K.u S t=some c) (hp:PRel K G S β p v):TRel K.u G' c v∧c.t=t:=by
 unfold PV.asVal at h;split at h
 ·rename_i l;split at h
  ·rename_i n;simp only[Option.bind_eq_some_iff] at h;obtain ⟨cs,h1,x,h2,h3⟩:=h;simp at h3;subst h3;simp only[PRel] at hp;obtain ⟨vs,rfl,h5,_⟩:=hp
   obtain ⟨j1, _⟩ := zai6 (I := fun q => ∀ id ver, q = .oslc id ver ∨ q = .ptr id ver → I id) (fun t p c v hi => zall hg hr hi)
    (fun q hq id ver e=>hi id (by
     rcases e with rfl|rfl<;>(simp only[owned,List.append_nil,List.mem_filterMap]; exact ⟨_,hq,rfl⟩))) h1 h5
   refine ⟨.st n x vs ?_,rfl⟩;rw[K.u.make_ok n cs x h2];exact j1
  ·cases h
 ·exact zall hg hr (fun id ver e=>hi id (by rcases e with rfl|rfl<;>simp[owned])) h hp
theorem zad0 {T:TypeId} {ps:List (PV K.u.U)} {vs:List Value} (h:PsRel K G S β ps vs) (h1:∀ x∈vs,x.oneCell'=true):PRel K G S β (K.pack T ps) (.agg vs.toArray):=by
 have plain:PRel K G S β (.agg ps) (.agg vs.toArray):=by simp only[PRel]; exact ⟨vs,rfl,h,h1⟩
 unfold Kit.pack;split
 ·rename_i n _;split
  ·rename_i x hx;simp only[Option.bind_eq_some_iff] at hx;obtain ⟨cs,h2,h3⟩:=hx;obtain ⟨j1,_⟩:=zadx (G':=G) (fun t p c v hc hp=>zabw hc hp) h2 h;simp only[PRel];refine .st n x vs ?_;rw[K.u.make_ok n cs x h3];exact j1
  ·exact plain
 ·exact plain
theorem zar7 {T:TypeId} {ps:List (PV K.u.U)} {vs:List Value} (h:PsRel K G S β ps vs) (h1:∀ x∈vs,x.oneCell'=true):PRel K G S β (K.packB T ps) (.agg vs.toArray):=by
 unfold Kit.packB;cases ps.any PV.isNil with
 |true=>simp only[cond_true,PRel]; exact ⟨vs,rfl,h,h1⟩
 |false=>exact zad0 h h1
theorem zag1 {α:Type} {l m:List α} {off n:Nat} (h:seg l off n=some m):off+n≤l.length∧m=(l.drop off).take n:=by
 unfold seg at h;split at h
 ·simp at h; exact ⟨by assumption,h.symm⟩
 ·cases h
theorem zafk {α:Type} {l m r:List α} {off:Nat} (h:splice l off m=some r):off+m.length≤l.length∧r=l.take off++m++l.drop (off+m.length):=by
 unfold splice at h;split at h
 ·simp at h; exact ⟨by assumption,by simp[h.symm]⟩
 ·cases h
theorem zarg {u:Uni} {e:Ty} {cs:List (TV u.U)} {x:e.den u.U} (h:zaes u e cs=some x) (hf:e.flat=true→True):u.tcells ⟨e,x⟩=cs:=by
 unfold zaes at h;split at h
 ·exact u.make_ok _ _ _ h
 ·split at h
  ·rename_i hne _ v;have:=zag6 h;subst this;cases e<;>first|rfl|exact absurd rfl (hne _)
  ·cases h
end
end Lift
namespace Lift
open Go Go.RowKit
structure Env where
 E:World→Prop
 N0:Nat
 stays:∀ w w',E w→(∀ k,k<N0→w'.heap[k]? = w.heap[k]?)→w.heap.size≤w'.heap.size→w'.tape=w.tape→w'.os=w.os→E w'
def upd (β:Nat→Gh) (id:Nat) (v:Gh):Nat→Gh:=fun i=>if i=id then v else β i
structure Base where
 w0:World
 G0:Nat→Option Obj
 H:Nat→Prop
 pv:Nat→Value
 ds:List Deferred:=[]
structure Inv (K:Kit) (V:Env) (B:Base) (G:Nat→Option Obj) (S:Nat→Option (Ob K.u.U)) (β:Nat→Gh) (w:World):Prop where
 gok:∀ k o,G k=some o→w.heap[k]? = some o
 obs:∀ id ob,S id=some ob→ObRel K G S β w id ob
 own:∀ id ob b,S id=some ob→ob.live=true→ob.has (β id) b→G b=none∧(B.w0.heap.size≤b∨B.H b)
 inj:∀ id id' ob ob' b,S id=some ob→S id'=some ob'→ob.live=true→ob'.live=true→ob.has (β id) b→ob'.has (β id') b→id=id'
 os:w.os=B.w0.os
 tape:w.tape=B.w0.tape
 output:w.output=B.w0.output
 size:B.w0.heap.size≤w.heap.size
 low:∀ k,k<B.w0.heap.size→¬ B.H k→w.heap[k]? = B.w0.heap[k]?
 gl:∀ k,k<B.w0.heap.size→¬ B.H k→G k=B.G0 k
 env:V.E w
 n0:V.N0≤B.w0.heap.size
 hh:∀ k,B.H k→V.N0≤k
 pin:∀ id ob,zabk≤id→S id=some ob→ob.isP=true→(β id).v=B.pv id
section
variable {K:Kit} {V:Env} {B:Base} {G G':Nat→Option Obj} {st:List (Nat×Ob K.u.U)} {S S':Nat→Option (Ob K.u.U)} {β β':Nat→Gh} {w w':World}
theorem zaeq {T:TypeId} {sz n:Nat} {v:Value} {xs:List Value} (h:w.ownsZ 0 T sz v n xs):blkOf v=v.ownBlock:=by
 rcases h.2 with ⟨rfl,_⟩|⟨g,cap,cur,fz,rfl,_⟩<;>rfl
theorem ObRel.over (hc:Comp K G G' S β S' β') {i:Nat} {ob:Ob K.u.U} (h:ObRel K G S β w i ob) (hb:β' i=β i) {row:Option Nat} (hg:w.grownBy w' row)
  (hne:∀ b,ob.has (β i) b→ob.live=true→some b≠row):ObRel K G' S' β' w' i ob:=by
 cases ob with
 |blk bT cs=>
  obtain ⟨b,vs,h1,h2,h3,h4⟩:=h;refine ⟨b,vs,by rw[hb]; exact h1,?_,h3.over hc,h4⟩;rw[hg.block b (Array.getElem?_eq_some_iff.1 h2).1 (hne b (.inl (by simp[h1,blkOf])) rfl)];exact h2
 |row T ver e l=>
  obtain ⟨vals,h1,h2,h3⟩:=h;refine ⟨vals,?_,?_,by rw[hb]; exact h3⟩
  ·rw[hb];refine h1.over hc.g (fun b hbF=>?_);obtain ⟨o,ho⟩:=h1.lies b hbF;have ho:w.heap[b]? = some o:=ho;exact hg.block b (Array.getElem?_eq_some_iff.1 ho).1 (hne b (.inr ⟨rfl,hbF⟩) rfl)
  ·rw[hb];refine h2.kept hg ?_;cases hv:(β i).v.ownBlock with
   |none=>exact .inl rfl
   |some k=>
    exact .inr (hne k (.inl ((zaeq h2).trans hv)) rfl)
 |frz ver e l=>
  show TRel K.u G' ⟨.slc e,l⟩ (β' i).v;rw[hb];exact TRel.mono hc.g h
 |sit s pos=>
  obtain ⟨b,h1,h2⟩:=h;refine ⟨b,by rw[hb]; exact h1,?_⟩;rw[hg.block b (Array.getElem?_eq_some_iff.1 h2).1 (hne b (.inl (by simp[h1,blkOf])) rfl)];exact h2
 |mp kt e l=>
  obtain ⟨b,es,clock,h1,h2,h3,h4⟩:=h;refine ⟨b,es,clock,by rw[hb]; exact h1,?_,TsRel.mono hc.g h3,TsRel.mono hc.g h4⟩;rw[hg.block b (Array.getElem?_eq_some_iff.1 h2).1 (hne b (.inl (by simp[h1,blkOf])) rfl)];exact h2
 |fmp kt e l=>
  show TRel K.u G' ⟨.map kt e,l⟩ (β' i).v;rw[hb];exact TRel.mono hc.g h
 |opn T ver e l j cs=>
  obtain ⟨vals,cvs,F1,F3,h1,h2,h3,h4,h5,h6,h7,h8,h9,h10,h11,h12⟩:=h;have keep:∀ b∈(β i).F,w'.heap[b]? = w.heap[b]? := fun b hbF=>by
   have hbF':=hbF;rw[h1,List.mem_append] at hbF;have hlt:b<w.heap.size:=by
    rcases hbF with hbF|hbF
    ·obtain ⟨o,ho⟩:=h6.lies b hbF;have ho:w.heap[b]? = some o:=ho;exact (Array.getElem?_eq_some_iff.1 ho).1
    ·obtain ⟨o,ho⟩:=h7.lies b hbF;have ho:w.heap[b]? = some o:=ho;exact (Array.getElem?_eq_some_iff.1 ho).1
   exact hg.block b hlt (hne b (.inr ⟨rfl,hbF'⟩) rfl)
  refine ⟨vals,cvs,F1,F3,by rw[hb]; exact h1,h2,h3,h4,h5,h6.over hc.g (fun b hbF=>keep b (by rw[h1]; simp[hbF])),h7.over hc.g (fun b hbF=>keep b (by rw[h1]; simp[hbF])),h8,h9.over hc,h10,?_,by rw[hb]; exact h12⟩;rw[hb];refine h11.kept hg ?_;cases hv:(β i).v.ownBlock with
  |none=>exact .inl rfl
  |some k=>exact .inr (hne k (.inl ((zaeq h11).trans hv)) rfl)
 |dead=>trivial
theorem zabz {α:Type} (l m:List (Nat×α)) (i:Nat):look (l++m) i=(look l i).or (look m i):=by
 induction l with
 |nil=>simp[look]
 |cons x l ih=>
  obtain ⟨j,y⟩:=x;rw[List.cons_append,zaah,zaah,ih];split<;>simp
theorem zaew {ids:List Nat} {i:Nat}:look (deads K.u.U ids++st) i=if i∈ids then some .dead else look st i:=by
 induction ids with
 |nil=>simp[deads]
 |cons j ids ih=>
  unfold deads at ih ⊢;rw[List.map_cons,List.cons_append,zaah,ih];by_cases h:i=j
  ·subst h; simp
  ·simp[h]
theorem Comp.consD (hG:∀ k o,G k=some o→G' k=some o) {id:Nat} {ids:List Nat} {ob':Ob K.u.U} {v':Gh} (h:∀ ob,look st id=some ob→(ob'.isP=true→ob.isP=true∧v'.v=(β id).v)∧(∀ v,ob.may v→ob'.may v) ∧
   (∀ ver x',ob.may ver→ob'.now ver=some x'→∃ x,ob.now ver=some x∧K.u.size x.1=K.u.size x'.1∧x.2.length=x'.2.length∧v'.v=(β id).v)) :
  Comp K G G' (look st) β (look ((id,ob')::(deads K.u.U ids++st))) (upd β id v'):=by
 refine ⟨hG,fun i ob hi=>?_⟩;rw[zaah];by_cases e:i=id
 ·subst e;obtain ⟨h1,h2,h3⟩:=h ob hi
  exact ⟨ob',by simp,fun hp=>⟨(h1 hp).1,by simp[upd,(h1 hp).2]⟩,h2,fun ver x' hm he=>by
   obtain ⟨x,a,t,b,c⟩:=h3 ver x' hm he; exact ⟨x,a,t,b,by simp[upd,c]⟩⟩
 ·rw[if_neg e,zaew];by_cases hm:i∈ids
  ·exact ⟨.dead,by simp[hm],fun hp=>(by cases hp),fun _ _=>trivial,fun _ _ _ he=>(by cases he)⟩
  ·exact ⟨ob,by simp[hm,hi],fun hp=>⟨hp,by simp[upd,e]⟩,fun _ h=>h,fun _ x' _ he=>⟨x',he,rfl,rfl,by simp[upd,e]⟩⟩
theorem Comp.cons (hG:∀ k o,G k=some o→G' k=some o) {id:Nat} {ob':Ob K.u.U} {v':Gh} (h:∀ ob,look st id=some ob→(ob'.isP=true→ob.isP=true∧v'.v=(β id).v)∧(∀ v,ob.may v→ob'.may v) ∧
   (∀ ver x',ob.may ver→ob'.now ver=some x'→∃ x,ob.now ver=some x∧K.u.size x.1=K.u.size x'.1∧x.2.length=x'.2.length∧v'.v=(β id).v)) :
  Comp K G G' (look st) β (look ((id,ob')::st)) (upd β id v'):=Comp.consD (ids:=[]) hG h
theorem Inv.env' (hI:Inv K V B G S β w) (h1:∀ k,k<B.w0.heap.size→¬ B.H k→w'.heap[k]? = w.heap[k]?) (h2:w.heap.size≤w'.heap.size) (h3:w'.tape=w.tape) (h4:w'.os=w.os):V.E w':=
 V.stays w w' hI.env (fun k hk=>h1 k (Nat.lt_of_lt_of_le hk hI.n0) (fun hh=>by have:=hI.hh k hh; omega)) h2 h3 h4
theorem Inv.none_of_ge (hI:Inv K V B G S β w) {b:Nat} (h:w.heap.size≤b):G b=none:=by
 cases hb:G b with
 |none=>rfl
 |some o=>have:=hI.gok b o hb; have:=(Array.getElem?_eq_some_iff.1 this).1; omega
def Ob.kept {U:Nat→Type}:Ob U→Bool
 |.sit _ _=>true
 |.mp _ _ _=>true
 |_=>false
theorem Ob.kept_facts {U:Nat→Type} {o:Ob U} (h:o.kept=true):o.isP=true∧o.live=true:=by cases o<;>first|exact ⟨rfl,rfl⟩|cases h
theorem ObRel.keptO {i:Nat} {o:Ob K.u.U} (h:ObRel K G S β w i o) (hk:o.kept=true) (hb:(β' i).v=(β i).v):ObRel K G S' β' w i o:=by
 cases o with
 |sit s pos=>obtain ⟨b,h1,h2⟩:=h; exact ⟨b,hb.trans h1,h2⟩
 |mp kt e l=>obtain ⟨b,es,clock,h1,h2,h3,h4⟩:=h; exact ⟨b,es,clock,hb.trans h1,h2,h3,h4⟩
 |_=>cases hk
theorem ObRel.lt {i:Nat} {ob:Ob K.u.U} (h:ObRel K G S β w i ob) (hl:ob.live=true) {b:Nat} (hb:ob.has (β i) b):b<w.heap.size:=by
 rcases hb with hb|⟨hb1,hb2⟩
 ·cases ob with
  |blk bT cs=>obtain ⟨b',vs,h1,h2,_⟩:=h; simp[h1,blkOf] at hb; subst hb; exact (Array.getElem?_eq_some_iff.1 h2).1
  |sit s pos=>obtain ⟨b',h1,h2⟩:=h; simp[h1,blkOf] at hb; subst hb; exact (Array.getElem?_eq_some_iff.1 h2).1
  |row T ver e l=>
   obtain ⟨vals,_,h2,_⟩:=h;exact (h2.lt b ((zaeq h2).symm.trans hb)).2
  |mp kt e l=>obtain ⟨b',es,clock,h1,h2,_⟩:=h; simp[h1,blkOf] at hb; subst hb; exact (Array.getElem?_eq_some_iff.1 h2).1
  |dead=>cases hl
  |frz=>cases hl
  |fmp=>cases hl
  |opn T ver e l j cs=>
   obtain ⟨_,_,_,_,_,_,_,_,_,_,_,_,_,_,h2,_⟩:=h;exact (h2.lt b ((zaeq h2).symm.trans hb)).2
 ·cases ob with
  |opn T ver e l j cs=>
   obtain ⟨_,_,F1,F3,h1,_,_,_,_,h6,h7,_⟩:=h;rw[h1,List.mem_append] at hb2;rcases hb2 with hb2|hb2
   ·obtain ⟨o,ho⟩:=h6.lies b hb2;have ho:w.heap[b]? = some o:=ho;exact (Array.getElem?_eq_some_iff.1 ho).1
   ·obtain ⟨o,ho⟩:=h7.lies b hb2;have ho:w.heap[b]? = some o:=ho;exact (Array.getElem?_eq_some_iff.1 ho).1
  |row T ver e l=>
   obtain ⟨vals,h1,_,_⟩:=h;obtain ⟨o,ho⟩:=h1.lies b hb2;have ho:w.heap[b]? = some o:=ho;exact (Array.getElem?_eq_some_iff.1 ho).1
  |_=>cases hb1
theorem Inv.oneD {id:Nat} {ids:List Nat} {ob':Ob K.u.U} {v':Gh} {row:Option Nat} (hI:Inv K V B G (look st) β w) (hg:w.grownBy w' row)
  (hrow:∀ k,row=some k→∃ j ob,(j=id∨j∈ids)∧look st j=some ob∧ob.live=true∧ob.has (β j) k)
  (hv:ob'.live=true→∀ b,ob'.has v' b→(∃ j ob,(j=id∨j∈ids)∧look st j=some ob∧ob.live=true∧ob.has (β j) b)∨w.heap.size≤b)
  (hc:Comp K G G (look st) β (look ((id,ob')::(deads K.u.U ids++st))) (upd β id v'))
  (hpn:ob'.isP=true→zabk≤id→∃ ob,look st id=some ob)
  (hob:ObRel K G (look ((id,ob')::(deads K.u.U ids++st))) (upd β id v') w' id ob'):Inv K V B G (look ((id,ob')::(deads K.u.U ids++st))) (upd β id v') w':=by
 have hrowG:∀ k,row=some k→G k=none∧(B.w0.heap.size≤k∨B.H k):=fun k hk=>by
  obtain ⟨j,ob,_,a,b,c⟩:=hrow k hk;exact hI.own j ob k a b c
 have hlook:∀ i,look ((id,ob')::(deads K.u.U ids++st)) i=if i=id then some ob' else if i∈ids then some .dead else look st i:=fun i=>by
  rw[zaah,zaew]
 have hother:∀ i ob,i≠id→i∉ids→look st i=some ob→ObRel K G (look ((id,ob')::(deads K.u.U ids++st))) (upd β id v') w' i ob:=fun i ob hne hni hi=>by
  refine (hI.obs i ob hi).over hc (by simp[upd,hne]) hg (fun b hb hl e=>?_);obtain ⟨j,ob2,hj,a,l,c⟩:=hrow b e.symm;have:=hI.inj i j ob ob2 b hi a hl l hb c;rcases hj with hj|hj
  ·exact hne (this.trans hj)
  ·exact hni (this▸hj)
 have hlow:∀ k,k<B.w0.heap.size→¬ B.H k→w'.heap[k]? = w.heap[k]? := fun k hk hn=>
  hg.block k (Nat.lt_of_lt_of_le hk hI.size) (fun e=>by
   rcases (hrowG k e.symm).2 with h|h
   ·omega
   ·exact hn h)
 have blk:∀ i ob b,look ((id,ob')::(deads K.u.U ids++st)) i=some ob→ob.live=true→ob.has (upd β id v' i) b →
   (i≠id∧i∉ids∧look st i=some ob∧ob.has (β i) b)∨(i=id∧((∃ j ob0,(j=id∨j∈ids)∧look st j=some ob0∧ob0.live=true∧ob0.has (β j) b)∨w.heap.size≤b)):=by
  intro i ob b hi hl hb;rw[hlook] at hi;by_cases e:i=id
  ·subst e;simp at hi;subst hi;simp[upd] at hb;exact .inr ⟨rfl,hv hl b hb⟩
  ·rw[if_neg e] at hi;by_cases hm:i∈ids
   ·simp[hm] at hi; subst hi; cases hl
   ·simp[hm] at hi;simp[upd,e] at hb;exact .inl ⟨e,hm,hi,hb⟩
 have old_lt:∀ i ob b,look st i=some ob→ob.live=true→ob.has (β i) b→b<w.heap.size:=by
  intro i ob b hi hl hb;have:=hI.obs i ob hi;exact ObRel.lt this hl hb
 refine ⟨fun k o hk => ?_, fun i ob hi => ?_, fun i ob b hi hl hb => ?_, fun i j ob ob2 b hi hj hl hl2 hb hb2 => ?_, hg.os.trans hI.os, hg.tape.trans hI.tape, hg.output.trans hI.output, Nat.le_trans hI.size hg.size,
  fun k hk hn=>(hlow k hk hn).trans (hI.low k hk hn),hI.gl,hI.env' hlow hg.size hg.tape hg.os,hI.n0,hI.hh,fun i ob hp hi hP=>?_⟩
 ·have h1:=hI.gok k o hk;rw[hg.block k (Array.getElem?_eq_some_iff.1 h1).1 (fun e=>by have:=(hrowG k e.symm).1; simp[this] at hk)];exact h1
 ·rw[hlook] at hi;by_cases e:i=id
  ·subst e; simp at hi; subst hi; exact hob
  ·rw[if_neg e] at hi;by_cases hm:i∈ids
   ·simp[hm] at hi; subst hi; trivial
   ·simp[hm] at hi; exact hother i ob e hm hi
 ·rcases blk i ob b hi hl hb with ⟨_,_,h1,h2⟩|⟨rfl,⟨j,ob0,_,h1,h2,h3⟩|h1⟩
  ·exact hI.own i ob b h1 hl h2
  ·exact hI.own j ob0 b h1 h2 h3
  ·exact ⟨hI.none_of_ge h1,.inl (Nat.le_trans hI.size h1)⟩
 ·rcases blk i ob b hi hl hb with ⟨n1,m1,h1,h2⟩|⟨rfl,⟨i0,ob0,q0,h1,h2,h3⟩|h1⟩<;>rcases blk j ob2 b hj hl2 hb2 with ⟨n2,m2,k1,k2⟩|⟨rfl,⟨j0,ob1,q1,k1,k2,k3⟩|k1⟩
  ·exact hI.inj i j ob ob2 b h1 k1 hl hl2 h2 k2
  ·have:=hI.inj i j0 ob ob1 b h1 k1 hl k2 h2 k3;subst this;rcases q1 with q1|q1
   ·exact absurd q1 n1
   ·exact absurd q1 m1
  ·have:=old_lt i ob b h1 hl h2; omega
  ·have:=hI.inj j i0 ob2 ob0 b k1 h1 hl2 h2 k2 h3;subst this;rcases q0 with q0|q0
   ·exact absurd q0 n2
   ·exact absurd q0 m2
  ·rfl
  ·rfl
  ·have:=old_lt j ob2 b k1 hl2 k2; omega
  ·rfl
  ·rfl
 ·rw[hlook] at hi;by_cases e:i=id
  ·subst e;simp at hi;subst hi;obtain ⟨ob0,h0⟩:=hpn hP hp;obtain ⟨ob1,h1,h2,_⟩:=hc.s i ob0 h0;rw[hlook] at h1;simp at h1;subst h1;obtain ⟨h3,h4⟩:=h2 hP;rw[h4];exact hI.pin i ob0 hp h0 h3
  ·rw[if_neg e] at hi;by_cases hm:i∈ids
   ·simp[hm] at hi; subst hi; cases hP
   ·simp[hm] at hi;simp[upd,e];exact hI.pin i ob hp hi hP
theorem Inv.one {id:Nat} {ob':Ob K.u.U} {v':Gh} {row:Option Nat} (hI:Inv K V B G (look st) β w) (hg:w.grownBy w' row)
  (hrow:∀ k,row=some k→∃ ob,look st id=some ob∧ob.live=true∧ob.has (β id) k)
  (hv:ob'.live=true→∀ b,ob'.has v' b→(∃ ob,look st id=some ob∧ob.live=true∧ob.has (β id) b)∨w.heap.size≤b)
  (hc:Comp K G G (look st) β (look ((id,ob')::st)) (upd β id v'))
  (hpn:ob'.isP=true→zabk≤id→∃ ob,look st id=some ob)
  (hob:ObRel K G (look ((id,ob')::st)) (upd β id v') w' id ob'):Inv K V B G (look ((id,ob')::st)) (upd β id v') w':=
 Inv.oneD (ids:=[]) hI hg (fun k hk=>by obtain ⟨ob,h⟩:=hrow k hk; exact ⟨id,ob,.inl rfl,h⟩) (fun hl b hb=>by
  rcases hv hl b hb with ⟨ob,h⟩|h
  ·exact .inl ⟨id,ob,.inl rfl,h⟩
  ·exact .inr h) hc hpn hob
theorem Inv.same (hI:Inv K V B G S β w) (h:w'.heap=w.heap) (h1:w'.os=w.os) (h2:w'.tape=w.tape) (h3:w'.output=w.output):Inv K V B G S β w':=by
 have hg:w.grownBy w' none:=⟨h1,h2,h3,by rw[h]; exact Nat.le_refl _,fun k _ _=>by rw[h]⟩
 exact ⟨fun k o hk => by rw [h]; exact hI.gok k o hk, fun i ob hi => (hI.obs i ob hi).over Comp.refl rfl hg (fun _ _ _ => by simp), hI.own, hI.inj, h1.trans hI.os, h2.trans hI.tape, h3.trans hI.output, by rw [h]; exact hI.size,
  fun k hk hn=>by rw[h]; exact hI.low k hk hn,hI.gl,hI.env' (fun k _ _=>by rw[h]) (by rw[h]; exact Nat.le_refl _) h2 h1,hI.n0,hI.hh,hI.pin⟩
def Ob.hasB {U:Nat→Type} (o:Ob U) (g:Gh) (b:Nat):Bool:=blkOf g.v==some b||(o.isRow&&g.F.elem b)
theorem Ob.hasB_iff {U:Nat→Type} {o:Ob U} {g:Gh} {b:Nat}:o.hasB g b=true↔o.has g b:=by
 simp[Ob.hasB,Ob.has]
def settle (K:Kit) (G:Nat→Option Obj) (S:Nat→Option (Ob K.u.U)) (β:Nat→Gh) (w:World) (ids:List Nat):Nat→Option Obj:=
 fun k=>if (ids.any fun id=>match S id with|some ob=>ob.sets&&ob.hasB (β id) k|none=>false)=true then w.heap[k]? else G k
theorem zafm {ids:List Nat} {k:Nat}:(settle K G S β w ids k=w.heap[k]?∧∃ id ob,id∈ids∧S id=some ob∧ob.live=true∧ob.has (β id) k)∨settle K G S β w ids k=G k:=by
 unfold settle;split
 ·rename_i h;left;simp only[List.any_eq_true] at h;obtain ⟨id,h1,h2⟩:=h;split at h2
  ·rename_i hS;simp only[Bool.and_eq_true] at h2;exact ⟨rfl,id,_,h1,hS,Ob.sets_live h2.1,Ob.hasB_iff.1 h2.2⟩
  ·cases h2
 ·exact .inr rfl
theorem zaqm {ids:List Nat} {k:Nat}:(settle K G S β w ids k=w.heap[k]?∧∃ id ob,id∈ids∧S id=some ob∧ob.sets=true∧ob.has (β id) k)∨settle K G S β w ids k=G k:=by
 unfold settle;split
 ·rename_i h;left;simp only[List.any_eq_true] at h;obtain ⟨id,h1,h2⟩:=h;split at h2
  ·rename_i hS;simp only[Bool.and_eq_true] at h2;exact ⟨rfl,id,_,h1,hS,h2.1,Ob.hasB_iff.1 h2.2⟩
  ·cases h2
 ·exact .inr rfl
theorem zai4 {ids:List Nat} {id k:Nat} {ob:Ob K.u.U} (h:id∈ids) (hS:S id=some ob) (hs:ob.sets=true) (hb:ob.has (β id) k):settle K G S β w ids k=w.heap[k]? := by
 unfold settle;rw[if_pos];simp only[List.any_eq_true];exact ⟨id,h,by simp[hS,Ob.hasB_iff.2 hb,hs]⟩
theorem zaml {ids:List Nat} {id k:Nat} {T:TypeId} {ver:Nat} {e:Ty} {l:List (e.den K.u.U)} (h:id∈ids) (hS:S id=some (.row T ver e l)) (hb:(Ob.row T ver e l:Ob K.u.U).has (β id) k):settle K G S β w ids k=w.heap[k]?:=
 zai4 h hS rfl hb
theorem Inv.drew (hI:Inv K V B G S β w):Inv K V B G S β w.drew:=hI.same rfl rfl rfl rfl
end
end Lift
namespace Lift
open Go Go.RowKit
section
variable {P:Program} {w:World}
theorem zaca (b o n:Nat):(⟨b,o,none⟩:Addr).add n=⟨b,o+n,none⟩:=by unfold Addr.add; split<;>simp_all
theorem zad5 {T:TypeId} {x:Bool} (h:zadd P T=some x):(isAgg T).run P w=.ok x w:=by
 unfold zadd at h;unfold isAgg;cases hu:P.underlying T with
 |none=>simp[hu] at h
 |some d=>
  rw[Sem.run_bind,run_underlying hu w];rw[hu] at h;cases d<;>simp_all
theorem zaqy {T:TypeId} {n:Nat} (h:szT P T=some n):∃ i,P.info? T=some i∧i.size=n:=by
 unfold szT at h;cases hi:P.info? T with
 |none=>simp[hi] at h
 |some i=>exact ⟨i,rfl,by simpa [hi] using h⟩
theorem zabs {T:TypeId} {n:Nat} (h:szT P T=some n):(Go.sizeOf T).run P w=.ok n w:=by
 obtain ⟨i,hi,rfl⟩:=zaqy h;simp[Go.sizeOf,typeInfo,hi]
theorem zabv {T:TypeId} {b o:Nat} {vs:List Value} (ha:zadd P T=some true) (hs:szT P T=some vs.length)
  (h:∀ j v,vs[j]? = some v→w.cell? ⟨b,o+j,none⟩=some v):(loadVar T ⟨b,o,none⟩).run P w=.ok (.agg vs.toArray) w:=by
 have hl:=run_loadCells_list (P:=P) w ⟨b,o,none⟩ vs (fun j v hv=>by rw[zaca]; exact h j v hv);simp[loadVar,Sem.run_bind,zad5 ha,zabs hs,hl]
theorem zacx {T:TypeId} {b o:Nat} {v:Value} (ha:zadd P T=some false)
  (h:w.cell? ⟨b,o,none⟩=some v):(loadVar T ⟨b,o,none⟩).run P w=.ok v w:=by
 simp[loadVar,Sem.run_bind,zad5 ha,h]
theorem zae4 {T E:TypeId} {b o:Nat} {cur:Array Value} {v:Value} {fz:Nat×Nat} (hb:w.heap[b]? = some (.cells cur E fz)) (hz:okFz fz cur.size) (hs:szT P T=some v.cells.size)
  (hl:o+v.cells.size≤cur.size) (h1:∀ x∈v.cells.toList,x.oneCell'=true) :
  (storeVar T ⟨b,o,none⟩ v).run P w=.ok () (w.setRow b (cur.toList.take o++v.cells.toList++cur.toList.drop (o+v.cells.size)).toArray):=by
 have h:=zab5 P b o E fz v.cells.toList 0 cur w hb hz (by simpa using hl) h1;simp only[Nat.add_zero,Array.length_toList] at h;simp[storeVar,Sem.run_bind,zabs hs,h]
theorem zado {b o:Nat} {cur:Array Value} {E:TypeId} {fz:Nat×Nat} (hb:w.heap[b]? = some (.cells cur E fz)):w.cell? ⟨b,o,none⟩=cur[o]? := by
 simp[World.cell?,hb]
theorem zadt {b:Nat} {cs:Array Value}:w.grownBy (w.setRow b cs) (some b):=
 ⟨rfl,rfl,rfl,by simp,fun k _ hk=>setRow_other w b k _ (fun e=>hk (by simp[e]))⟩
theorem zals {o:Obj} {row:Option Nat}:w.grownBy (w.alloc o) row:=World.grownBy_alloc w o row
theorem zank {T:TypeId} {vs:List Value} (h:zeroT P T=some vs):∃ i z,P.info? T=some i∧i.zero=some z∧z.cells.toList=vs:=by
 unfold zeroT at h;simp only[Option.bind_eq_some_iff,Option.map_eq_some_iff] at h;obtain ⟨i,h1,z,h2,h3⟩:=h;exact ⟨i,z,h1,h2,h3⟩
end
end Lift
namespace Lift
open Go Go.RowKit
theorem zaal {P:Program} {o:Oper} {a:Act} {w w':World} {next:Act→World→Prop} {Q:Exit→Act→World→Prop} {v:Value}
  (h:(execOp a.eval o).run P w=.ok (.value v) w') (hn:next (a.put o.dst v) w'):o.wp P a w next Q:=by
 unfold Oper.wp; rw[h]; exact hn
theorem zaii {P:Program} {o:Oper} {a:Act} {w w':World} {next:Act→World→Prop} {Q:Exit→Act→World→Prop}
  (h:(execOp a.eval o).run P w=.ok .skip w') (hn:next (a.put o.dst undef) w'):o.wp P a w next Q:=by
 unfold Oper.wp; rw[h]; exact hn
section
variable {K:Kit} {V:Env} {B:Base} {R:Type}
def Next (K:Kit) (V:Env) (B:Base) (G:Nat→Option Obj) (st:List (Nat×Ob K.u.U)) (β:Nat→Gh) (c:PV K.u.U→Ups K.u.U→Option R) (r:R) (N:Value→World→Prop):Prop:=
 ∀ p up v w' G' β',c p up=some r→Inv K V B G' (look (up++st)) β' w'→Comp K G G' (look st) β (look (up++st)) β'→PRel K G' (look (up++st)) β' p v→N v w'
variable {G:Nat→Option Obj} {st:List (Nat×Ob K.u.U)} {β:Nat→Gh} {w:World} {c:PV K.u.U→Ups K.u.U→Option R} {r:R} {N:Value→World→Prop}
theorem Next.plain (hN:Next K V B G st β c r N) (hI:Inv K V B G (look st) β w) {p:PV K.u.U} {v:Value} (h:c p []=some r) (hp:PRel K G (look st) β p v):N v w:=
 hN p [] v w G β h hI Comp.refl hp
theorem Next.made (hN:Next K V B G st β c r N) (hI:Inv K V B G (look st) β w) {p:PV K.u.U} {v:Value} {d:Nat} {ob:Ob K.u.U} {o:Obj} {x:Value}
  (hd:look st d=none) (h:c p [(d,ob)]=some r) (hb:∀ b,blkOf x=some b→b=w.heap.size) (hpn:ob.isP=true→d<zabk)
  (hob:∀ (_:Comp K G G (look st) β (look ((d,ob)::st)) (upd β d (Gh.of x))),ObRel K G (look ((d,ob)::st)) (upd β d (Gh.of x)) (w.alloc o) d ob)
  (hp:PRel K G (look ((d,ob)::st)) (upd β d (Gh.of x)) p v):N v (w.alloc o):=by
 have hc:Comp K G G (look st) β (look ((d,ob)::st)) (upd β d (Gh.of x)):=Comp.cons (fun _ _ h=>h) (fun ob0 h0=>by rw[hd] at h0; cases h0)
 exact hN p [(d,ob)] v (w.alloc o) G (upd β d (Gh.of x)) h
  (hI.one (zals (row:=none)) (fun k hk=>by cases hk) (fun _ b hb'=>.inr (by
   rcases hb' with hb'|⟨_,hb'⟩
   ·rw[hb b hb']; exact Nat.le_refl _
   ·cases hb')) hc (fun h1 h2=>by have:=hpn h1; omega) (hob hc)) hc hp
theorem zabg {d:Nat} {ob:Ob K.u.U}:look ((d,ob)::st) d=some ob:=by simp[zaah]
theorem zaqu (hN:Next K V B G st β c r N) (hI:Inv K V B G (look st) β w) {d:Nat} {T:TypeId} {ps:List (PV K.u.U)} {vs:List Value} (hd:look st d=none) (hdp:Nat.blt d zabk=true)
  (h:c (.ptr d 0) [(d,.blk T ps)]=some r) (hps:PsRel K G (look st) β ps vs) (h1:∀ x∈vs,x.oneCell'=true) :
  N (.pointer (some ⟨w.heap.size,0,none⟩)) (w.alloc (.cells vs.toArray T)):=by
 refine hN.made hI (x:=.pointer (some ⟨w.heap.size,0,none⟩)) hd h (fun b hb=>by simpa [blkOf] using hb.symm) (fun _=>by simpa using hdp) (fun hc=>?_) ?_
 ·exact ⟨w.heap.size,vs,by simp[upd,Gh.of],heap_alloc_new _ _,hps.over hc,h1⟩
 ·simp only[PRel];exact ⟨rfl,_,zabg,fun _=>by simp[upd,zaa5,Gh.of]⟩
theorem flat_len {es : Nat} : ∀ (vals : List Value), (∀ x ∈ vals, x.cells.size = es) → (vals.flatMap fun x => x.cells.toList).length = vals.length * es
 |[],_=>by simp
 |v::vals,h=>by
  have:=flat_len vals (fun x hx=>h x (by simp[hx]));simp[h v (by simp),this,Nat.add_mul,Nat.add_comm]
theorem TsRel.sizes {u:Uni} {G:Nat→Option Obj} {e:Ty} {l:List (e.den u.U)} {vals:List Value} (h:TsRel u G (l.map (TV.mk e)) vals):∀ x∈vals,x.cells.size=u.size e:=by
 intro x hx;obtain ⟨i,hi⟩:=List.getElem?_of_mem hx;obtain ⟨d,hd,hr⟩:=h.get' i hi;simp at hd;obtain ⟨y,_,rfl⟩:=hd;exact hr.size
theorem zakm (u:Uni) (e:Ty) (l:List (e.den u.U)):zacw u e l=l.map (cast (Ty.plain_den u.pd e).symm):=castL _ _ l
@[simp] theorem zabc (u:Uni) (e:Ty) (l:List (e.den u.U)):(zacw u e l).length=l.length:=by rw[zakm,List.length_map]
theorem zajw {e:Ty} {l:List (e.den K.u.U)} {vals:List Value} {h:Nat→Option Obj} {F:List Nat} (h1:HsRel K.u G h F (l.map (TV.mk e)) vals) {G':Nat→Option Obj}
  (hg:∀ k o,G k=some o→G' k=some o) (hw:∀ b∈F,G' b=h b):TsRel K.u G' ((zacw K.u e l).map (TV.mk (e.plain K.u.pn))) vals:=by
 have:=HsRel.settle hg h1 hw;rw[zamc] at this;rw[zakm];exact this
theorem zak7 {T:TypeId} {ver:Nat} {e:Ty} {l:List (e.den K.u.U)} {S:Nat→Option (Ob K.u.U)} {id:Nat} (h:ObRel K G S β w id (.row T ver e l)) {G':Nat→Option Obj}
  (hg:∀ k o,G k=some o→G' k=some o) (hw:∀ b,(Ob.row T ver e l:Ob K.u.U).has (β id) b→G' b=w.heap[b]?):TRel K.u G' ⟨.slc (e.plain K.u.pn),zacw K.u e l⟩ (β id).v:=by
 obtain ⟨vals,h1,h2,_⟩:=h;have hl:l.length=vals.length:=by simpa using h1.length
 rcases h2.2 with ⟨hv,hn⟩|⟨g,cap,cur,fz,hv,_,hh,hcap,_,hcs,htake⟩
 ·rw[hv];have:zacw K.u e l=[]:=List.eq_nil_of_length_eq_zero (by rw[zabc]; exact hn);rw[this];exact .nil _ _
 ·have hG:=hw g (.inl (by simp[hv,blkOf]));rw[hv,← zabc K.u e l];refine .slc _ _ g 0 cap cur T fz vals (by simpa using hcap) (hG.trans hh) (zajw h1 hg (fun b hb=>hw b (.inr ⟨rfl,hb⟩))) ?_;rw[K.u.size_plain];exact zahl h1.sizes htake
theorem zafx {S:Nat→Option (Ob K.u.U)} {st:List (Nat×Ob K.u.U)} {ids:List Nat} {i:Nat} (hS:S=look st):look (frzs K.u S ids++st) i=if i∈ids then (look st i).map (Ob.freeze K.u) else look st i:=by
 subst hS;induction ids with
 |nil=>simp[frzs]
 |cons j ids ih=>
  unfold frzs at ih ⊢;rw[List.filterMap_cons];cases hj:look st j with
  |none=>
   simp only;rw[ih];by_cases h:i=j
   ·subst h; simp[hj]
   ·simp[h]
  |some ob=>
   cases ob with
   |row T v e l=>
    simp only[List.cons_append];rw[zaah,ih];by_cases h:i=j
    ·subst h; simp[hj,Ob.freeze]
    ·simp[h]
   |mp kt e l=>
    simp only[List.cons_append];rw[zaah,ih];by_cases h:i=j
    ·subst h; simp[hj,Ob.freeze]
    ·simp[h]
   |_=>
    simp only;rw[ih];by_cases h:i=j
    ·subst h; simp[hj,Ob.freeze]
    ·simp[h]
theorem zak9 {o:Ob K.u.U} (h:(o.freeze K.u).live=true):o.freeze K.u=o:=by cases o<;>first|rfl|(cases h)
theorem zamk {o:Ob K.u.U}:(o.freeze K.u).isP=o.isP:=by cases o<;>rfl
theorem Inv.settle (hI:Inv K V B G (look st) β w) (ids:List Nat) :
  Inv K V B (Lift.settle K G (look st) β w ids) (look (frzs K.u (look st) ids++st)) β w∧Comp K G (Lift.settle K G (look st) β w ids) (look st) β (look (frzs K.u (look st) ids++st)) β:=by
 have hGG:∀ k o,G k=some o→Lift.settle K G (look st) β w ids k=some o:=fun k o hk=>by
  rcases zafm (K:=K) (G:=G) (S:=look st) (β:=β) (w:=w) (ids:=ids) (k:=k) with ⟨h,_⟩|h
  ·rw[h]; exact hI.gok k o hk
  ·rw[h]; exact hk
 have back:∀ i ob,look (frzs K.u (look st) ids++st) i=some ob→∃ ob0,look st i=some ob0∧(ob=ob0∧i∉ids∨ob=ob0.freeze K.u∧i∈ids):=by
  intro i ob hi;rw[zafx rfl] at hi;split at hi
  ·rename_i hm;simp only[Option.map_eq_some_iff] at hi;obtain ⟨ob0,h1,rfl⟩:=hi;exact ⟨ob0,h1,.inr ⟨rfl,hm⟩⟩
  ·rename_i hm;exact ⟨ob,hi,.inl ⟨rfl,hm⟩⟩
 have hc:Comp K G (Lift.settle K G (look st) β w ids) (look st) β (look (frzs K.u (look st) ids++st)) β:=by
  refine ⟨hGG,fun i ob hi=>?_⟩;rw[zafx rfl];split
  ·refine ⟨ob.freeze K.u,by rw[hi]; rfl,fun h=>⟨by rw[← zamk]; exact h,rfl⟩,fun v h=>?_,fun ver x' hm h=>?_⟩
   ·cases ob<;>exact h
   ·cases ob with
    |row T v e l=>
     obtain ⟨rfl,rfl⟩:=zakk h;exact ⟨⟨e,l⟩,zab3,(K.u.size_plain e).symm,(zabc K.u e l).symm,rfl⟩
    |_=>exact ⟨x',h,rfl,rfl,rfl⟩
  ·exact ⟨ob,hi,fun h=>⟨h,rfl⟩,fun _ h=>h,fun _ x' _ h=>⟨x',h,rfl,rfl,rfl⟩⟩
 have hg:w.grownBy w none:=⟨rfl,rfl,rfl,Nat.le_refl _,fun _ _ _=>rfl⟩;have backl:∀ i ob,look (frzs K.u (look st) ids++st) i=some ob→ob.live=true→look st i=some ob∧(i∈ids→ob.sets=false):=by
  intro i ob hi hl;obtain ⟨ob0,h1,h2⟩:=back i ob hi;rcases h2 with ⟨rfl,hn⟩|⟨rfl,hm⟩
  ·exact ⟨h1,fun h=>absurd h hn⟩
  ·have e:=zak9 hl;refine ⟨by rw[e]; exact h1,fun _=>?_⟩;cases ob0<;>first|rfl|cases hl
 refine ⟨⟨fun k o hk=>?_,fun i ob hi=>?_,fun i ob b hi hl hb=>?_,fun i j ob ob2 b hi hj hl hl2=>hI.inj i j ob ob2 b (backl i ob hi hl).1 (backl j ob2 hj hl2).1 hl hl2,hI.os,hI.tape,hI.output,hI.size,hI.low,fun k hk hn=>?_,hI.env,hI.n0,hI.hh,fun i ob hp hi hP=>?_⟩,hc⟩
 ·rcases zafm (K:=K) (G:=G) (S:=look st) (β:=β) (w:=w) (ids:=ids) (k:=k) with ⟨h,_⟩|h
  ·rw[h] at hk; exact hk
  ·rw[h] at hk; exact hI.gok k o hk
 ·obtain ⟨ob0,h1,h2⟩:=back i ob hi;have hov:=(hI.obs i ob0 h1).over hc rfl hg (fun _ _ _=>by simp);rcases h2 with ⟨rfl,hn⟩|⟨rfl,hm⟩
  ·exact hov
  ·cases ob0 with
   |row T ver e l=>
    show TRel K.u _ ⟨.slc (e.plain K.u.pn),zacw K.u e l⟩ (β i).v;exact zak7 (hI.obs i _ h1) hGG (fun b hb=>zaml hm h1 hb)
   |mp kt e l=>
    show TRel K.u _ ⟨.map kt e,l⟩ (β i).v;obtain ⟨b,es,clock,g1,g2,g3,g4⟩:=hI.obs i _ h1;rw[g1];exact .map kt e l b es clock ((zai4 hm h1 rfl (.inl (by simp[g1,blkOf]))).trans g2) (TsRel.mono hGG g3) (TsRel.mono hGG g4)
   |_=>exact hov
 ·obtain ⟨hi',hnr⟩:=backl i ob hi hl;obtain ⟨h1,h2⟩:=hI.own i ob b hi' hl hb;refine ⟨?_,h2⟩;rcases zaqm (K:=K) (G:=G) (S:=look st) (β:=β) (w:=w) (ids:=ids) (k:=b) with ⟨_,id,ob3,m1,m2,m3,m4⟩|h
  ·have he:=hI.inj i id ob _ b hi' m2 hl (Ob.sets_live m3) hb m4;subst he;rw[hi'] at m2;cases m2;rw[hnr m1] at m3;cases m3
  ·rw[h]; exact h1
 ·rcases zafm (K:=K) (G:=G) (S:=look st) (β:=β) (w:=w) (ids:=ids) (k:=k) with ⟨_,id,ob2,m1,m2,m3,m4⟩|h
  ·rcases (hI.own id ob2 k m2 m3 m4).2 with h|h
   ·omega
   ·exact absurd h hn
  ·rw[h]; exact hI.gl k hk hn
 ·obtain ⟨ob0,h1,h2⟩:=back i ob hi;rcases h2 with ⟨rfl,hn⟩|⟨rfl,hm⟩
  ·exact hI.pin i ob hp h1 hP
  ·exact hI.pin i ob0 hp h1 (by rw[← zamk]; exact hP)
end
end Lift
namespace Lift
open Go Go.RowKit
section
variable {K:Kit} {V:Env} {B:Base} {R:Type}
variable {G:Nat→Option Obj} {st:List (Nat×Ob K.u.U)} {β:Nat→Gh} {w:World} {c:PV K.u.U→Ups K.u.U→Option R} {r:R} {N:Value→World→Prop}
theorem zah2 {T:TypeId} {v:TV K.u.U} {off:Nat} {p:PV K.u.U} (h:K.loadR T v off=some p) {b o:Nat} {x:Value} (hx:TRel K.u G v x)
  (hcell:∀ j u,x.cells[j]? = some u→w.cell? ⟨b,o+j,none⟩=some u) :
  ∃ y,(loadVar T ⟨b,o+off,none⟩).run K.P w=.ok y w∧PRel K G (look st) β p y:=by
 unfold Kit.loadR at h;split at h
 ·rename_i n ha hs;split at h
  ·rename_i hh;obtain ⟨rfl,hty,hn,hfl⟩:=hh;clear hty;simp at h;subst h;obtain ⟨t,z⟩:=v;cases t<;>simp[Ty.flat] at hfl;rename_i m;obtain ⟨vs,rfl,h2⟩:=hx.st_inv;have hl:vs.length=n:=by
    have:=h2.length;have h3:=K.u.tcells_length ⟨.st m,z⟩;simp only[Uni.tcells] at h3;exact this.symm.trans (h3.trans hn.symm)
   refine ⟨_,zabv ha (by rw[hl]; exact hs) (fun j u hj=>?_),by simp only[PRel]; exact hx⟩;simpa [Nat.add_assoc] using hcell j u (by simpa [Value.cells] using hj)
  ·simp only[Option.map_eq_some_iff] at h;obtain ⟨l,h1,rfl⟩:=h;obtain ⟨h2,rfl⟩:=zag1 h1;have hP:PsRel K G (look st) β ((K.u.tcells v).map .t) x.cells.toList:=PsRel.ofTs hx.cells;have hl:=hP.length;have hP2:=(hP.drop off).take n;have hn:((x.cells.toList.drop off).take n).length=n:=by simp at hl h2 ⊢; omega
   refine ⟨_,zabv ha (by rw[hn]; exact hs) (fun j u hj=>?_),zad0 hP2 (fun u hu=>?_)⟩
   ·rw[List.getElem?_take] at hj;split at hj
    ·rw[List.getElem?_drop] at hj;rw[Nat.add_assoc];exact hcell (off+j) u (by simpa using hj)
    ·cases hj
   ·exact hx.cells_oneCell (Array.mem_toList_iff.1 (List.mem_of_mem_drop (List.mem_of_mem_take hu)))
 ·rename_i n ha hs;have hP:PsRel K G (look st) β ((K.u.tcells v).map .t) x.cells.toList:=PsRel.ofTs hx.cells;obtain ⟨y,h1,h2⟩:=hP.get off h;exact ⟨y,zacx ha (hcell off y (by simpa using h1)),h2⟩
 ·cases h
theorem zasf {T:TypeId} {v:TV K.u.U} {off:Nat} {p:PV K.u.U} (h:K.loadR T v off=some p) {xs:Array Value} (hx:TRel K.u G v (.agg xs)) (hv:v.t.flat=false) :
  ∃ y,(part T xs off).run K.P w=.ok y w∧PRel K G (look st) β p y:=by
 unfold Kit.loadR at h;split at h
 ·rename_i n ha hs;split at h
  ·rename_i hh;obtain ⟨rfl,hty,hn,hfl⟩:=hh;simp at h;subst h;have hl:xs.size=n:=by
    obtain ⟨t,z⟩:=v;cases t<;>simp[Ty.flat] at hfl;obtain ⟨vs,e,h2⟩:=hx.st_inv;have:=h2.length;have h3:=K.u.tcells_length ⟨.st _,z⟩;simp only[Uni.tcells] at h3;cases e;simpa using this.symm.trans (h3.trans hn.symm)
   refine ⟨.agg xs,?_,by simp only[PRel]; exact hx⟩;have e:xs.extract 0 (0+n)=xs:=by rw[Nat.zero_add,← hl]; exact Array.extract_size
   simp only[part,Sem.run_bind,zad5 ha,zabs hs,Result.andThen_ok,if_true,Sem.run_pure,e]
  ·simp only[Option.map_eq_some_iff] at h;obtain ⟨l,h1,rfl⟩:=h;obtain ⟨h2,rfl⟩:=zag1 h1;have hP:PsRel K G (look st) β ((K.u.tcells v).map .t) (Value.agg xs).cells.toList:=PsRel.ofTs hx.cells;have hP2:=(hP.drop off).take n;have e:xs.extract off (off+n)=((xs.toList.drop off).take n).toArray:=by
    apply Array.ext';simp
   refine ⟨.agg ((xs.toList.drop off).take n).toArray,?_,zad0 hP2 (fun u hu=>?_)⟩
   ·simp only[part,Sem.run_bind,zad5 ha,zabs hs,Result.andThen_ok,if_true,Sem.run_pure,e]
   ·exact hx.cells_oneCell (Array.mem_toList_iff.1 (List.mem_of_mem_drop (List.mem_of_mem_take hu)))
 ·rename_i n ha hs;have hP:PsRel K G (look st) β ((K.u.tcells v).map .t) (Value.agg xs).cells.toList:=PsRel.ofTs hx.cells;obtain ⟨y,h1,h2⟩:=hP.get off h;have h1:xs[off]? = some y:=by simpa [Value.cells] using h1
  refine ⟨y,?_,h2⟩;simp[part,Sem.run_bind,zad5 ha,h1]
 ·cases h
theorem zaq6 (u:Uni) (v:TV u.U):u.tcells (v.plain u.pd)=(u.tcells v).map (TV.plain u.pd):=by
 obtain ⟨t,x⟩:=v;cases t
 case st n=>exact u.pc n x
 all_goals rfl
theorem zaq7 (u:Uni) (v:TV u.U):(u.tcells v).map TV.t=u.ctysOf v.t:=by
 obtain ⟨t,x⟩:=v;cases t
 case st n=>exact u.tys_ok n x
 all_goals rfl
theorem zaou {v:TV K.u.U} {off n:Nat} {h:Nat→Option Obj} {F:List Nat} {x:Value} (hx:HRel K.u G h F v x) (hf:∀ t∈((K.u.ctysOf v.t).drop off).take n,t.isOwn=false) :
  TsRel K.u G (((K.u.tcells v).drop off).take n) ((x.cells.toList.drop off).take n)∧(((K.u.tcells (v.plain K.u.pd)).drop off).take n)=(((K.u.tcells v).drop off).take n):=by
 have hno:∀ c∈((K.u.tcells v).drop off).take n,c.t.flat=true∧c.t.isOwn=false:=fun c hc=>by
  refine ⟨K.u.tcells_flat v c (List.mem_of_mem_drop (List.mem_of_mem_take hc)),?_⟩;have hm:c.t∈((K.u.ctysOf v.t).drop off).take n:=by
   rw[← zaq7,← List.map_drop,← List.map_take];exact List.mem_map_of_mem hc
  exact hf _ hm
 obtain ⟨_,F2,_,_,h2,_⟩:=hx.cells.take off;obtain ⟨F3,_,_,h3,_,_⟩:=h2.take n;refine ⟨(h3.toTs hno).2,?_⟩;rw[zaq6,← List.map_drop,← List.map_take];conv=>rhs; rw[← List.map_id (((K.u.tcells v).drop off).take n)]
 exact List.map_congr_left (fun c hc=>zamw (hno c hc).1 (hno c hc).2)
theorem TRel.plainTy {u:Uni} {c:TV u.U} {v:Value} (h:TRel u G c v):u.plainTy c.t=true:=by
 obtain ⟨t,x⟩:=c;cases t
 case st n=>
  obtain ⟨vs,rfl,h2⟩:=h.st_inv;simp only[Uni.plainTy,List.all_eq_true,Bool.not_eq_true'];intro t ht;rw[← u.tys_ok n x] at ht;obtain ⟨d,hd,rfl⟩:=List.mem_map.1 ht;obtain ⟨i,hi⟩:=List.getElem?_of_mem hd;obtain ⟨y,_,hy⟩:=h2.get i hi;exact hy.notOwn
 case own T e=>cases h
 all_goals rfl
theorem zasd {T:TypeId} {v:TV K.u.U} {off:Nat} {p:PV K.u.U} (h:K.loadR T (v.plain K.u.pd) off=some p) (hf:K.flatSeg T v.t off=true) {b o:Nat} {x:Value} {hh:Nat→Option Obj} {F:List Nat} (hx:HRel K.u G hh F v x)
  (hcell:∀ j u,x.cells[j]? = some u→w.cell? ⟨b,o+j,none⟩=some u) :
  ∃ y,(loadVar T ⟨b,o+off,none⟩).run K.P w=.ok y w∧PRel K G (look st) β p y:=by
 unfold Kit.flatSeg at hf;unfold Kit.loadR at h;split at h
 ·rename_i n ha hs;rw[hs] at hf;have hf2:∀ t∈((K.u.ctysOf v.t).drop off).take n,t.isOwn=false:=fun t ht=>by
   have:=List.all_eq_true.1 hf t (List.take_subset_take_left _ (Nat.le_max_left n 1) ht);simpa using this
  clear hf;obtain ⟨s1,s2⟩:=zaou hx hf2;split at h
  ·rename_i hh2;obtain ⟨rfl,hty,hn,hfl⟩:=hh2;clear hty;simp at h;subst h;obtain ⟨t,z⟩:=v;cases t<;>simp[TV.plain,Ty.plain,Ty.flat] at hfl;rename_i m;have hpt:K.u.plainTy (.st m)=true:=by
    simp only[Uni.plainTy,List.all_eq_true,Bool.not_eq_true'];intro t ht;refine hf2 t ?_;rw[List.drop_zero,List.take_of_length_le]
    ·exact ht
    ·rw[hn];simp only[TV.plain,K.u.size_plain];exact Nat.le_refl _
   obtain ⟨rfl,hT⟩:=hx.toT hpt;obtain ⟨vs,rfl,h2⟩:=hT.st_inv;have hl:vs.length=n:=by
    have:=h2.length;have h3:=K.u.tcells_length ⟨.st m,z⟩;simp only[Uni.tcells] at h3;simp only[TV.plain,K.u.size_plain] at hn;exact this.symm.trans (h3.trans hn.symm)
   refine ⟨_,zabv ha (by rw[hl]; exact hs) (fun j u hj=>?_),?_⟩
   ·simpa [Nat.add_assoc] using hcell j u (by simpa [Value.cells] using hj)
   ·simp only[PRel];exact hx.settle (fun _ _ h=>h) (fun b hb=>by cases hb)
  ·simp only[Option.map_eq_some_iff] at h;obtain ⟨l,h1,rfl⟩:=h;obtain ⟨h2,rfl⟩:=zag1 h1;have e1:(((K.u.tcells (v.plain K.u.pd)).map PV.t).drop off).take n=(((K.u.tcells v).drop off).take n).map PV.t:=by rw[← List.map_drop,← List.map_take,s2]
   rw[e1];have hP2:PsRel K G (look st) β ((((K.u.tcells v).drop off).take n).map .t) ((x.cells.toList.drop off).take n):=PsRel.ofTs s1;have hl:=hP2.length;have hn:((x.cells.toList.drop off).take n).length=n:=by
    rw[← hl];have:=congrArg List.length e1;simp only[List.length_map,List.length_take,List.length_drop] at this h2 ⊢;omega
   refine ⟨_,zabv ha (by rw[hn]; exact hs) (fun j u hj=>?_),zad0 hP2 (fun u hu=>?_)⟩
   ·rw[List.getElem?_take] at hj;split at hj
    ·rw[List.getElem?_drop] at hj;rw[Nat.add_assoc];exact hcell (off+j) u (by simpa using hj)
    ·cases hj
   ·exact hx.cells_oneCell (List.mem_of_mem_drop (List.mem_of_mem_take hu))
 ·rename_i n ha hs;rw[hs] at hf;obtain ⟨s1,s2⟩:=zaou hx (n:=1) (off:=off) (fun t ht=>by
   have:=List.all_eq_true.1 hf t (List.take_subset_take_left _ (Nat.le_max_right n 1) ht);simpa using this)
  have hoff:off<(K.u.tcells (v.plain K.u.pd)).length:=by
   have:=(List.getElem?_eq_some_iff.1 h).1;simpa using this
  have e1:∀ (l:List (TV K.u.U)),((l.drop off).take 1)[0]? = l[off]? := fun l=>by
   rw[List.getElem?_take_of_lt (by omega),List.getElem?_drop,Nat.add_zero]
  have e2:((K.u.tcells v).map PV.t)[off]? = some p:=by
   rw[List.getElem?_map,← e1,← s2,e1,← List.getElem?_map];exact h
  simp only[List.getElem?_map,Option.map_eq_some_iff] at e2;obtain ⟨d,hd,rfl⟩:=e2;obtain ⟨y,h1,h2⟩:=s1.get 0 (c:=d) (by rw[e1]; exact hd);rw[List.getElem?_take_of_lt (by omega),List.getElem?_drop,Nat.add_zero] at h1;exact ⟨y,zacx ha (hcell off y (by simpa using h1)),by simp only[PRel]; exact h2⟩
 ·cases h
theorem zaow (hI : Inv K V B G (look st) β w) {id ver : Nat} {ob : Ob K.u.U} {x : (e : Ty) × List (e.den K.u.U)} (hS : look st id = some ob) (hn : ob.val ver = some x) : ∃ vals F, HsRel K.u G (fun k => w.heap[k]?) F (x.2.map (TV.mk x.1)) vals ∧ (∀ T, ob = .row T ver x.1 x.2 → F = (β id).F) ∧ (ob.isRow = false → F = []) ∧
  ((x.2=[]∧∃ p,(β id).v=.slice p 0 0)∨∃ b off cap,(β id).v=.slice (some ⟨b,off,none⟩) x.2.length cap∧x.2.length≤cap∧∃ cur T fz,w.heap[b]? = some (.cells cur T fz)∧Laid cur off (K.u.size x.1) vals):=by
 have ho:=hI.obs id _ hS;rcases zahf hn with ⟨T,rfl⟩|rfl
 ·obtain ⟨vals,hT,hown,_⟩:=ho;refine ⟨vals,_,hT,fun _ _=>rfl,fun h=>(by cases h),?_⟩;have hl:x.2.length=vals.length:=by simpa using hT.length
  rcases hown.2 with ⟨hv,hn⟩|⟨g,cap,cur,fz,hvv,_,hh,hcap,_,_,htake⟩
  ·exact .inl ⟨List.eq_nil_of_length_eq_zero hn,_,hv⟩
  ·exact .inr ⟨g,0,cap,hvv,hcap,cur,T,fz,hh,zahl hT.sizes htake⟩
 ·have ho:TRel K.u G ⟨.slc x.1,x.2⟩ (β id).v:=ho;rcases ho.slc_inv with ⟨h1,h2⟩|⟨b,off,cap,cur,T,fz,vals,h1,h2,h3,h4,h5⟩
  ·exact ⟨[],[],by rw[h1]; exact .nil,fun T h=>(by cases h),fun _=>rfl,.inl ⟨h1,h2⟩⟩
  ·exact ⟨vals,[],.ofTsL h4,fun T h=>(by cases h),fun _=>rfl,.inr ⟨b,off,cap,h1,h2,cur,T,fz,hI.gok _ _ h3,h5⟩⟩
theorem zalz (hI:Inv K V B G (look st) β w) {id ver:Nat} {ob:Ob K.u.U} {x:(e:Ty)×List (e.den K.u.U)} (hS:look st id=some ob) (hn:ob.now ver=some x) :
  (x.2=[]∧∃ p,(β id).v=.slice p 0 0)∨∃ b off cap,(β id).v=.slice (some ⟨b,off,none⟩) x.2.length cap∧x.2.length≤cap:=by
 have ho:=hI.obs id _ hS;rcases zajf hn with ⟨T,rfl⟩|rfl|⟨T,i,cs,rfl⟩
 ·obtain ⟨vals,hT,hown,_⟩:=ho;rcases hown.2 with ⟨hv,hn⟩|⟨g,cap,cur,fz,hvv,_,hh,hcap,_,_,htake⟩
  ·exact .inl ⟨List.eq_nil_of_length_eq_zero hn,_,hv⟩
  ·exact .inr ⟨g,0,cap,hvv,hcap⟩
 ·have ho:TRel K.u G ⟨.slc x.1,x.2⟩ (β id).v:=ho;rcases ho.slc_inv with ⟨h1,h2⟩|⟨b,off,cap,cur,T,fz,vals,h1,h2,h3,h4,h5⟩
  ·exact .inl ⟨h1,h2⟩
  ·exact .inr ⟨b,off,cap,h1,h2⟩
 ·obtain ⟨_,_,_,_,_,_,_,_,_,_,_,_,_,_,hown,_⟩:=ho;rcases hown.2 with ⟨hv,hn⟩|⟨g,cap,cur,fz,hvv,_,hh,hcap,_,_,htake⟩
  ·exact .inl ⟨List.eq_nil_of_length_eq_zero hn,_,hv⟩
  ·exact .inr ⟨g,0,cap,hvv,hcap⟩
theorem PsRel.splice {ps qs:List (PV K.u.U)} {vs us:List Value} {off:Nat} (h:PsRel K G (look st) β ps vs) (h':PsRel K G (look st) β qs us) :
  PsRel K G (look st) β (ps.take off++qs++ps.drop (off+qs.length)) (vs.take off++us++vs.drop (off+us.length)):=by
 rw[← h'.length];exact ((h.take off).append h').append (h.drop _)
theorem zavh (hN:Next K V B G st β c r N) (hI:Inv K V B G (look st) β w) {T bT:TypeId} {id off n:Nat} {u y:Value} {q:PV K.u.U} {cs ys cs':List (PV K.u.U)}
  (hS:look st id=some (.blk bT cs)) (hu:PRel K G (look st) β (.ptr id off) u) (hq:PRel K G (look st) β q y) (hys:q.cellsOf K.u=some ys) (hn:szT K.P T=some n) (hl:ys.length=n)
  (hsp:splice cs off ys=some cs') (h:c .junk [(id,.blk bT cs')]=some r):∃ w',(Instr.storeAt T u y).run K.P w=.ok () w'∧N undef w':=by
 simp only[PRel] at hu;obtain ⟨_,ob,h1,h2⟩:=hu;rw[hS] at h1;cases h1;have hu:=h2 rfl;obtain ⟨b,vs,hb,hh,hps,h1c⟩:=hI.obs id _ hS;simp[hb,zaa5] at hu;subst hu;obtain ⟨hyr,hy1⟩:=hq.cellsOf hys;obtain ⟨hsl,rfl⟩:=zafk hsp;have l1:=hps.length;have l2:=hyr.length;simp only[Array.length_toList] at l2;have hrun:=zae4 (P:=K.P) (T:=T) (o:=off) (v:=y) hh (zahp _) (by rw[hn,← hl,l2]) (by simp; omega) hy1;refine ⟨_,by simp only[Instr.storeAt,Instr.sureAddr,Sem.run_bind,Sem.run_pure,Result.andThen_ok]; exact hrun,?_⟩
 have hc:Comp K G G (look st) β (look ((id,.blk bT (cs.take off++ys++cs.drop (off+ys.length)))::st)) (upd β id (β id)):=
  Comp.cons (fun _ _ h=>h) (fun ob h0=>by rw[hS] at h0; cases h0; exact ⟨fun _=>⟨rfl,rfl⟩,fun _ _=>trivial,fun _ _ _ he=>by cases he⟩)
 refine hN .junk [(id, _)] undef _ G (upd β id (β id)) h (hI.one (row := some b) zadt (fun k hk => ⟨_, hS, rfl, .inl (by cases hk; simp [hb, blkOf])⟩)
  (fun _ b' hb'=>.inl ⟨_,hS,rfl,hb'⟩) hc (fun _ _=>⟨_,hS⟩) ?_) hc (by simp only[PRel])
 refine ⟨b,vs.take off++y.cells.toList++vs.drop (off+y.cells.size),by simp[upd,hb],?_,?_,?_⟩
 ·have:=setRow_heap w b vs.toArray (vs.take off++y.cells.toList++vs.drop (off+y.cells.size)).toArray bT (0,0) hh;simpa using this
 ·have:=(hps.splice (off:=off) hyr).over hc;simpa using this
 ·intro x hx;simp only[List.mem_append] at hx;rcases hx with (hx|hx)|hx
  ·exact h1c x (List.mem_of_mem_take hx)
  ·exact hy1 x hx
  ·exact h1c x (List.mem_of_mem_drop hx)
end
end Lift
namespace Lift
open Go Go.RowKit
section
variable {K:Kit} {V:Env} {B:Base} {R:Type}
variable {G:Nat→Option Obj} {st:List (Nat×Ob K.u.U)} {β:Nat→Gh} {w:World} {c:PV K.u.U→Ups K.u.U→Option R} {r:R} {N:Value→World→Prop}
theorem zamd {es:Nat}:∀ (vals:List Value) (i:Nat) (x y:Value),(∀ z∈vals,z.cells.size=es)→vals[i]? = some x→y.cells.size=es →
  ((vals.set i y).flatMap fun z=>z.cells.toList)=(vals.flatMap fun z=>z.cells.toList).take (i*es)++y.cells.toList++(vals.flatMap fun z=>z.cells.toList).drop (i*es+es)
 |[],i,x,y,_,hx,_=>by simp at hx
 |v::vals,0,x,y,h,hx,hy=>by
  have hv:=h v (by simp);simp only[List.set_cons_zero,List.flatMap_cons,Nat.zero_mul,List.take_zero,List.nil_append,Nat.zero_add];congr 1;rw[List.drop_append_of_le_length (by simp[hv]),List.drop_of_length_le (by simp[hv]),List.nil_append]
 |v::vals,i+1,x,y,h,hx,hy=>by
  have hv:=h v (by simp);have ih:=zamd vals i x y (fun z hz=>h z (by simp[hz])) (by simpa using hx) hy;simp only[List.set_cons_succ,List.flatMap_cons,ih];have e1:(i+1)*es=v.cells.toList.length+i*es:=by rw[Nat.add_mul]; simp[hv]; omega
  rw[e1,List.take_length_add_append,Nat.add_assoc v.cells.toList.length,List.drop_length_add_append];simp
theorem flat_get {es:Nat}:∀ (vals:List Value) (i:Nat) (x:Value),(∀ z∈vals,z.cells.size=es)→vals[i]? = some x →
  ((vals.flatMap fun z=>z.cells.toList).drop (i*es)).take es=x.cells.toList
 |[],i,x,_,hx=>by simp at hx
 |v::vals,0,x,h,hx=>by
  have hv:=h v (by simp);simp at hx;subst hx;simp only[List.flatMap_cons,Nat.zero_mul,List.drop_zero];rw[List.take_append_of_le_length (by simp[hv]),List.take_of_length_le (by simp[hv])]
 |v::vals,i+1,x,h,hx=>by
  have hv:=h v (by simp);have ih:=flat_get vals i x (fun z hz=>h z (by simp[hz])) (by simpa using hx);have e1:(i+1)*es=v.cells.toList.length+i*es:=by rw[Nat.add_mul]; simp[hv]; omega
  simp only[List.flatMap_cons];rw[e1,List.drop_length_add_append];exact ih
theorem zaxj:∀ (vals:List Value),(∀ z∈vals,∀ x∈z.cells.toList,x.oneCell'=true)→∀ x∈(vals.flatMap fun z=>z.cells.toList),x.oneCell'=true:=by
 intro vals h x hx;simp only[List.mem_flatMap] at hx;obtain ⟨z,hz,hx⟩:=hx;exact h z hz x hx
theorem zast {u:Uni} {G h:Nat→Option Obj} {e:Ty} {cs:List (TV u.U)} {vs:List Value} {x:e.den u.U} {F:List Nat} (h0:zaes u e cs=some x) (hr:HsRel u G h F cs vs) :
  ∃ y:Value,HRel u G h F ⟨e,x⟩ y∧y.cells.toList=vs:=by
 have ht:=zarg h0 (fun _=>trivial);cases e
 case st n=>
  simp only[Uni.tcells] at ht;refine ⟨.agg vs.toArray,.st n x vs F (by rw[ht]; exact hr),by simp[Value.cells]⟩
 all_goals
  simp only[Uni.tcells] at ht;subst ht;cases hr with
  |cons _ _ v vs F1 F2 h1 h2 h3=>
   cases h2;rw[List.append_nil];exact ⟨v,h1,by rw[h1.cells_flat rfl]⟩
theorem zabe:∀ {l:List Nat},zacb l=true→l.Nodup
 |[],_=>List.nodup_nil
 |x::l,h=>by
  simp only[zacb,Bool.and_eq_true,Bool.not_eq_true'] at h;refine List.nodup_cons.2 ⟨fun hm=>?_,zabe h.2⟩;have:l.elem x=true:=by simpa using hm
  rw[this] at h;cases h.1
def zabm (st:List (Nat×Ob K.u.U)) (β:Nat→Gh) (ids:List Nat) (b:Nat):Prop:=∃ j ob,j∈ids∧look st j=some ob∧ob.live=true∧ob.has (β j) b
theorem zabm.mono {ids ids':List Nat} {b:Nat} (h:zabm st β ids b) (hs:∀ j∈ids,j∈ids'):zabm st β ids' b:=by
 obtain ⟨j,ob,h1,h2⟩:=h;exact ⟨j,ob,hs j h1,h2⟩
theorem zabm.apart (hI:Inv K V B G (look st) β w) {ids ids':List Nat} (hd:∀ j∈ids,j∉ids') {b:Nat} (h:zabm st β ids b):¬ zabm st β ids' b:=by
 rintro ⟨j',ob',g1,g2,g3,g4⟩
 obtain ⟨j,ob,h1,h2,h3,h4⟩:=h;have:=hI.inj j j' ob ob' b h2 g2 h3 g3 h4 g4;subst this;exact hd j h1 g1
theorem zav1 (hI:Inv K V B G (look st) β w) {id T v:Nat} {e:Ty} {m:List (e.den K.u.U)} (hS:look st id=some (.row T v e m)) :
  ∃ F,HRel K.u G (fun k=>w.heap[k]?) F ⟨.own T e,m⟩ (β id).v∧∀ b∈F,zabm st β [id] b:=by
 obtain ⟨vals,q1,q2,q3⟩:=hI.obs id _ hS;rcases q2.2 with ⟨hv,hn⟩|⟨g,cap,cur,fz,hv,hz,hh,hc1,hc2,hc3,htake⟩
 ·have:m=[]:=List.eq_nil_of_length_eq_zero hn;subst this;rw[hv];exact ⟨[],.onil _ _,fun b hb=>by cases hb⟩
 ·rw[hv];refine ⟨g::(β id).F,.own _ _ _ g cap cur fz vals (β id).F hz hh hc1 hc2 hc3 htake q1 (fun hb=>q3 g hb (by simp[hv,blkOf])),fun b hb=>⟨id,_,by simp,hS,rfl,?_⟩⟩;cases hb with
  |head=>exact .inl (by simp[hv,blkOf])
  |tail _ hb=>exact .inr ⟨rfl,hb⟩
theorem zaki (hI:Inv K V B G (look st) β w) {t:Ty} {p:PV K.u.U} {c:TV K.u.U} {ids:List Nat} {v:Value} (h:zaf1 K.u (look st) t p=some (c,ids)) (hp:PRel K G (look st) β p v) :
  ∃ F,HRel K.u G (fun k=>w.heap[k]?) F c v∧c.t=t∧(∀ b∈F,zabm st β ids b)∧∀ j∈ids,∃ T v e m,look st j=some (.row T v e m):=by
 unfold zaf1 at h;split at h
 ·rename_i T e id ver;split at h
  ·rename_i T' v' e' m hS;split at h
   ·rename_i he;subst he;split at h
    ·rename_i hh;obtain ⟨rfl,rfl⟩:=hh;simp only[Option.some.injEq,Prod.mk.injEq] at h;obtain ⟨rfl,rfl⟩:=h;simp only[PRel] at hp;obtain ⟨_,ob,h1,_,h2⟩:=hp;rw[hS] at h1;cases h1;have hv:=h2 _ zab3;subst hv;obtain ⟨F,q1,q2⟩:=zav1 hI hS;exact ⟨F,q1,rfl,q2,fun j hj=>by simp only[List.mem_singleton] at hj; subst hj; exact ⟨_,_,_,_,hS⟩⟩
    ·cases h
   ·cases h
  ·cases h
 ·simp only[Option.some.injEq,Prod.mk.injEq] at h;obtain ⟨rfl,rfl⟩:=h;simp only[PRel] at hp;rw[hp.1];exact ⟨[],.onil _ _,rfl,fun b hb=>(by cases hb),fun j hj=>(by cases hj)⟩
 ·cases h
 ·simp only[Option.map_eq_some_iff,Prod.mk.injEq] at h;obtain ⟨d,h1,rfl,rfl⟩:=h;obtain ⟨i1,i2⟩:=zabw h1 hp;exact ⟨[],.ofT i1,i2,fun b hb=>(by cases hb),fun j hj=>(by cases hj)⟩
theorem zaef (hI:Inv K V B G (look st) β w):∀ {ts:List Ty} {ps:List (PV K.u.U)} {cs:List (TV K.u.U)} {ids:List Nat} {vs:List Value},zab4 K.u (look st) ts ps=some (cs,ids)→ids.Nodup→PsRel K G (look st) β ps vs →
  ∃ F,HsRel K.u G (fun k=>w.heap[k]?) F cs vs∧cs.map TV.t=ts∧(∀ b∈F,zabm st β ids b)∧∀ j∈ids,∃ T v e m,look st j=some (.row T v e m)
 |[],[],cs,ids,vs,h,hn,hp=>by
  simp only[zab4,Option.some.injEq,Prod.mk.injEq] at h;obtain ⟨rfl,rfl⟩:=h;simp only[PsRel] at hp;subst hp;exact ⟨[],.nil,rfl,fun b hb=>(by cases hb),fun j hj=>(by cases hj)⟩
 |t::ts,p::ps,cs,ids,vs,h,hn,hp=>by
  simp only[zab4,Option.bind_eq_some_iff,Option.some.injEq,Prod.mk.injEq] at h;obtain ⟨⟨c,i1⟩,h1,⟨ds,i2⟩,h2,rfl,rfl⟩:=h;simp only[PsRel] at hp;obtain ⟨u,r,rfl,h4,h5⟩:=hp;rw[List.nodup_append] at hn;obtain ⟨F1,a1,a2,a3,a4⟩:=zaki hI h1 h4;obtain ⟨F2,b1,b2,b3,b4⟩:=zaef hI h2 hn.2.1 h5;refine ⟨F1++F2,.cons _ _ _ _ _ _ a1 b1 (fun b hb hb'=>?_),by simp[a2,b2],fun b hb=>?_,fun j hj=>?_⟩
  ·exact zabm.apart hI (fun j hj hj'=>hn.2.2 j hj j hj' rfl) (a3 b hb) (b3 b hb')
  ·rcases List.mem_append.1 hb with hb|hb
   ·exact (a3 b hb).mono (fun j hj=>by simp[hj])
   ·exact (b3 b hb).mono (fun j hj=>by simp[hj])
  ·rcases List.mem_append.1 hj with hj|hj
   ·exact a4 j hj
   ·exact b4 j hj
 |[],_::_,cs,ids,vs,h,_,_=>by simp[zab4] at h
 |_::_,[],cs,ids,vs,h,_,_=>by simp[zab4] at h
theorem zapa (hI:Inv K V B G (look st) β w) {t:Ty} {p:PV K.u.U} {c:TV K.u.U} {ids:List Nat} {v:Value} (h:zagv K.u (look st) t p=some (c,ids)) (hn:ids.Nodup) (hp:PRel K G (look st) β p v) :
  ∃ F,HRel K.u G (fun k=>w.heap[k]?) F c v∧c.t=t∧(∀ b∈F,zabm st β ids b)∧∀ j∈ids,∃ T v e m,look st j=some (.row T v e m):=by
 unfold zagv at h;split at h
 ·rename_i n;split at h
  ·rename_i l;simp only[Option.bind_eq_some_iff,Option.some.injEq,Prod.mk.injEq] at h;obtain ⟨⟨cs,i1⟩,h1,x,h2,rfl,rfl⟩:=h;simp only[PRel] at hp;obtain ⟨vs,rfl,h5,_⟩:=hp;obtain ⟨F,a1,a2,a3,a4⟩:=zaef hI h1 hn h5;exact ⟨F,.st n x vs F (by rw[K.u.make_ok n cs x h2]; exact a1),rfl,a3,a4⟩
  ·cases h
 ·exact zaki hI h hp
theorem zaiy (hI:Inv K V B G (look st) β w) {t:Ty}:∀ {ps:List (PV K.u.U)} {cs:List (TV K.u.U)} {ids:List Nat} {vs:List Value},zady K.u (look st) t ps=some (cs,ids)→ids.Nodup→PsRel K G (look st) β ps vs →
  ∃ F,HsRel K.u G (fun k=>w.heap[k]?) F cs vs∧cs.map TV.t=List.replicate ps.length t∧(∀ b∈F,zabm st β ids b)∧∀ j∈ids,∃ T v e m,look st j=some (.row T v e m)
 |[],cs,ids,vs,h,hn,hp=>by
  simp only[zady,Option.some.injEq,Prod.mk.injEq] at h;obtain ⟨rfl,rfl⟩:=h;simp only[PsRel] at hp;subst hp;exact ⟨[],.nil,rfl,fun b hb=>(by cases hb),fun j hj=>(by cases hj)⟩
 |p::ps,cs,ids,vs,h,hn,hp=>by
  simp only[zady,Option.bind_eq_some_iff,Option.some.injEq,Prod.mk.injEq] at h;obtain ⟨⟨c,i1⟩,h1,⟨ds,i2⟩,h2,rfl,rfl⟩:=h;simp only[PsRel] at hp;obtain ⟨u,r,rfl,h4,h5⟩:=hp;rw[List.nodup_append] at hn;obtain ⟨F1,a1,a2,a3,a4⟩:=zapa hI h1 hn.1 h4;obtain ⟨F2,b1,b2,b3,b4⟩:=zaiy hI h2 hn.2.1 h5;refine ⟨F1++F2,.cons _ _ _ _ _ _ a1 b1 (fun b hb hb'=>?_),by simp[a2,b2,List.replicate_succ],fun b hb=>?_,fun j hj=>?_⟩
  ·exact zabm.apart hI (fun j hj hj'=>hn.2.2 j hj j hj' rfl) (a3 b hb) (b3 b hb')
  ·rcases List.mem_append.1 hb with hb|hb
   ·exact (a3 b hb).mono (fun j hj=>by simp[hj])
   ·exact (b3 b hb).mono (fun j hj=>by simp[hj])
  ·rcases List.mem_append.1 hj with hj|hj
   ·exact a4 j hj
   ·exact b4 j hj
theorem zanh (hN:Next K V B G st β c r N) (hI:Inv K V B G (look st) β w) {T E:TypeId} {id ver i off n:Nat} {e:Ty} {l:List (e.den K.u.U)} {u y:Value} {ids:List Nat} {Fn:List Nat} {ws cs:List (TV K.u.U)} {x x':e.den K.u.U}
    (hS:look st id=some (.row E ver e l)) (hu:PRel K G (look st) β (.eptr id ver i off) u) (hn:szT K.P T=some n) (hl:y.cells.size=n) (hy1:∀ x∈y.cells.toList,x.oneCell'=true)
    (hwT:HsRel K.u G (fun k=>w.heap[k]?) Fn ws y.cells.toList) (hFn:∀ b∈Fn,zabm st β ids b) (hids:id∉ids) (hx:l[i]? = some x) (hsp:splice (K.u.tcells ⟨e,x⟩) off ws=some cs) (hx':zaes K.u e cs=some x')
    (h:c .junk ((id,.row E ver e (l.set i x'))::deads K.u.U ids)=some r):∃ w',(Instr.storeAt T u y).run K.P w=.ok () w'∧N undef w':=by
  simp only[PRel] at hu;obtain ⟨_,ob,h1,_,h2⟩:=hu;rw[hS] at h1;cases h1;obtain ⟨hi,hu⟩:=h2 _ zab3;simp only at hi;obtain ⟨vals,hT,hown,hapart⟩:=hI.obs id _ hS;have hlen:l.length=vals.length:=by simpa using hT.length
  obtain ⟨hsl,rfl⟩:=zafk hsp;have lw:=hwT.length;simp only[Array.length_toList] at lw;rcases hown.2 with ⟨_,hn0⟩|⟨g,cap,cur,fz,hvv,hfz,hh,hncap,hcm,hcs,htake⟩
  · omega
  obtain ⟨y0,F1,F2,F3,hy0,hFF,hyT,hT1,hT3,hd1,hd2⟩:=hT.at (i:=i) (c:=⟨e,x⟩) (by simp[hx]);obtain ⟨Fa,Fbc,e1,ha,hbc,hab⟩:=hyT.cells.take off;obtain ⟨Fb,Fc,e2,hb,hcc,hbcd⟩:=hbc.take ws.length;rw[List.drop_drop,List.drop_drop] at hcc;have hnew:∀ b∈Fn,b∉(β id).F∧b≠g:=fun b hbn=>by
    obtain ⟨j,ob,j1,j2,j3,j4⟩:=hFn b hbn;refine ⟨fun hbF=>hids ?_,fun hbg=>hids ?_⟩
    · have:=hI.inj j id ob _ b j2 hS j3 rfl j4 (.inr ⟨rfl,hbF⟩)
      exact this▸j1
    · have := hI.inj j id ob _ b j2 hS j3 rfl j4 (.inl (by simp [hvv, blkOf, hbg]))
      exact this▸j1
  have memF:∀ b,b∈Fa∨b∈Fb∨b∈Fc→b∈F2:=fun b hb=>by
    rw[e1,e2];simp only[List.mem_append];exact hb
  have memF':∀ b,b∈F1∨b∈F2∨b∈F3→b∈(β id).F:=fun b hb=>by
    rw[hFF];simp only[List.mem_append];rcases hb with hb|hb|hb
    · exact .inl (.inl hb)
    · exact .inl (.inr hb)
    · exact .inr hb
  have hcells:HsRel K.u G (fun k=>w.heap[k]?) (Fa++Fn++Fc) ((K.u.tcells ⟨e,x⟩).take off++ws++(K.u.tcells ⟨e,x⟩).drop (off+ws.length)) (y0.cells.toList.take off++y.cells.toList++y0.cells.toList.drop (off+ws.length)):=by
    refine (ha.append hwT (fun b hb hbn=>(hnew b hbn).1 (memF' b (.inr (.inl (memF b (.inl hb))))))).append hcc (fun b hb hb'=>?_);rcases List.mem_append.1 hb with hb|hb
    · exact hab b hb (by rw[e2]; exact List.mem_append.2 (.inr hb'))
    · exact (hnew b hb).1 (memF' b (.inr (.inl (memF b (.inr (.inr hb'))))))
  obtain ⟨z,hz1,hz2⟩:=zast hx' hcells;simp[hvv,zaa5] at hu;subst hu;have hy0s:=hyT.size;simp only at hy0s;have htl:=K.u.tcells_length ⟨e,x⟩;have hzs:=hz1.size;simp only at htl hzs;have hoff:off+y.cells.size≤K.u.size e:=by omega
  have hcap:(i+1)*K.u.size e≤cur.size:=by
    exact Nat.le_trans (Nat.mul_le_mul_right _ (by omega)) hcs
  have hmul:(i+1)*K.u.size e=i*K.u.size e+K.u.size e:=by rw[Nat.add_mul]; omega
  have hrun:=zae4 (P:=K.P) (T:=T) (o:=i*K.u.size e+off) (v:=y) hh hfz (by rw[hn,← hl]) (by omega) hy1;refine ⟨_,by simp only[Instr.storeAt,Instr.sureAddr,Sem.run_bind,Sem.run_pure,Result.andThen_ok]; exact hrun,?_⟩
  have hc:Comp K G G (look st) β (look ((id,.row E ver e (l.set i x'))::(deads K.u.U ids++st))) (upd β id ⟨(β id).v,F1++(Fa++Fn++Fc)++F3⟩):=
    Comp.consD (fun _ _ h=>h) (fun ob h0=>by
      rw[hS] at h0; cases h0;exact ⟨fun hp=>by simp[Ob.isP] at hp,fun _ h=>h,fun ver' x' hm he=>by obtain ⟨rfl,rfl⟩:=zadp he; exact ⟨⟨e,l⟩,zab3,rfl,by simp,rfl⟩⟩)
  refine hN .junk ((id, _) :: deads K.u.U ids) undef _ G (upd β id ⟨(β id).v, F1 ++ (Fa ++ Fn ++ Fc) ++ F3⟩) h (hI.oneD (row := some g) zadt (fun k hk => ⟨id, _, .inl rfl, hS, rfl, .inl (by cases hk; simp [hvv, blkOf])⟩)
    (fun _ b' hb'=>.inl ?_) hc (fun hp=>by simp[Ob.isP] at hp) ?_) hc (by simp only[PRel])
  · rcases hb' with hb'|⟨_,hb'⟩
    · exact ⟨id,_,.inl rfl,hS,rfl,.inl hb'⟩
    · simp only[List.mem_append] at hb'
      rcases hb' with (hb'|(hb'|hb')|hb')|hb'
      · exact ⟨id,_,.inl rfl,hS,rfl,.inr ⟨rfl,memF' _ (.inl hb')⟩⟩
      · exact ⟨id,_,.inl rfl,hS,rfl,.inr ⟨rfl,memF' _ (.inr (.inl (memF _ (.inl hb'))))⟩⟩
      · obtain ⟨j,ob,j1,j2⟩:=hFn _ hb'
        exact ⟨j,ob,.inr j1,j2⟩
      · exact ⟨id,_,.inl rfl,hS,rfl,.inr ⟨rfl,memF' _ (.inr (.inl (memF _ (.inr (.inr hb')))))⟩⟩
      · exact ⟨id,_,.inl rfl,hS,rfl,.inr ⟨rfl,memF' _ (.inr (.inr hb'))⟩⟩
  have eu:upd β id ⟨(β id).v,F1++(Fa++Fn++Fc)++F3⟩ id=⟨(β id).v,F1++(Fa++Fn++Fc)++F3⟩:=by simp[upd]
  have hgF:∀ b∈F1++(Fa++Fn++Fc)++F3,b≠g:=fun b hb hbg=>by
    have hold:b∈(β id).F→False:=fun h=>hapart b h (by simp[hvv,blkOf,hbg])
    simp only[List.mem_append] at hb;rcases hb with (hb|(hb|hb)|hb)|hb
    · exact hold (memF' _ (.inl hb))
    · exact hold (memF' _ (.inr (.inl (memF _ (.inl hb)))))
    · exact (hnew b hb).2 hbg
    · exact hold (memF' _ (.inr (.inl (memF _ (.inr (.inr hb))))))
    · exact hold (memF' _ (.inr (.inr hb)))
  show ∃ vals,_;rw[eu];refine ⟨vals.set i z,?_,?_,fun b hb hbg=>hgF b hb (by simpa [hvv,blkOf] using hbg.symm)⟩
  · have hp := HsRel.put (c := ⟨e, x'⟩) (v := z) (i := i) (cs := l.map (TV.mk e)) (vs := vals) (by simpa using hi) (by omega) hT1 hz1 hT3 (fun b hb => ⟨fun hb' => ?_, (hd1 b hb).2⟩) (fun b hb => ?_)
    · rw[← List.map_set] at hp
      exact hp.over (fun _ _ h=>h) (fun b hb=>setRow_other w g b _ (hgF b hb))
    · simp only[List.mem_append] at hb'
      rcases hb' with (hb'|hb')|hb'
      · exact (hd1 b hb).1 (memF _ (.inl hb'))
      · exact (hnew b hb').1 (memF' _ (.inl hb))
      · exact (hd1 b hb).1 (memF _ (.inr (.inr hb')))
    · simp only[List.mem_append] at hb
      intro hb';rcases hb with (hb|hb)|hb
      · exact hd2 b (memF _ (.inl hb)) hb'
      · exact (hnew b hb).1 (memF' _ (.inr (.inr hb')))
      · exact hd2 b (memF _ (.inr (.inr hb))) hb'
  have hsz:=hT.sizes;have hset:=zamd vals i y0 z hsz hy0 hzs;have hfl:=flat_len vals hsz;have hown1:=hown.1
  refine ⟨by rw [hset]; simp only [List.length_append, List.length_take, List.length_drop, Array.length_toList, hown1, List.length_set, hzs, hlen];
             have:(i+1)*K.u.size e≤vals.length*K.u.size e:=Nat.mul_le_mul_right _ (by omega);omega,.inr ⟨g,cap,_,fz,by simp[hvv],?_,setRow_heap w g cur _ E fz hh,by simpa using hncap,hcm,?_,?_⟩⟩
  · have e:(cur.toList.take (i*K.u.size e+off)++y.cells.toList++cur.toList.drop (i*K.u.size e+off+y.cells.size)).toArray.size=cur.size:=by
      simp only[List.size_toArray,List.length_append,List.length_take,List.length_drop,Array.length_toList];omega
    rw[e]; exact hfz
  · simp only[List.size_toArray,List.length_append,List.length_take,List.length_drop,Array.length_toList]
    omega
  · simp only[List.length_set]
    rw[hset,← htake,hz2];have hget:=flat_get vals i y0 hsz hy0;rw[← htake] at hget;have hle:(i+1)*K.u.size e≤l.length*K.u.size e:=Nat.mul_le_mul_right _ (by omega);apply List.ext_getElem?;intro j;have hg2:∀ k,k<K.u.size e→cur.toList[i*K.u.size e+k]? = y0.cells.toList[k]? := fun k hk=>by
      rw[← hget,List.getElem?_take,if_pos hk,List.getElem?_drop,List.getElem?_take,if_pos (by omega)]
    have hcl:l.length*K.u.size e≤cur.toList.length:=by rw[Array.length_toList]; exact Nat.le_trans (Nat.mul_le_mul_right _ hncap) hcs
    simp only[List.getElem?_take,List.getElem?_append,List.length_append,List.length_take,List.length_drop,Array.length_toList,List.getElem?_drop];have ly:y0.cells.toList.length=K.u.size e:=by simp[hy0s]
    simp only[Array.length_toList] at hcl;by_cases c1:j<i*K.u.size e
    · simp (disch:=omega) only[if_pos]
    · by_cases c2 : j < i * K.u.size e + off
      · have := hg2 (j - i * K.u.size e) (by omega)
        rw[show i*K.u.size e+(j-i*K.u.size e)=j by omega] at this;simp (disch:=omega) only[if_pos,if_neg,this];congr 1;omega
      · by_cases c3 : j < i * K.u.size e + off + y.cells.size
        · simp (disch:=omega) only[if_pos,if_neg]
          congr 1;omega
        · by_cases c4 : j < i * K.u.size e + K.u.size e
          · have := hg2 (j - i * K.u.size e) (by omega)
            rw[show i*K.u.size e+(j-i*K.u.size e)=j by omega] at this;simp (disch:=omega) only[if_pos,if_neg];refine (congrArg (fun k=>cur.toList[k]?) (show _=j by omega)).trans (this.trans ?_);congr 1;omega
          · by_cases c5 : j < l.length * K.u.size e
            · simp (disch:=omega) only[if_pos,if_neg]
              congr 1;omega
            · simp (disch:=omega) only[if_neg]
theorem zaut (hN:Next K V B G st β c r N) (hI:Inv K V B G (look st) β w) {T E:TypeId} {id ver i off n:Nat} {e:Ty} {l:List (e.den K.u.U)} {u y:Value} {q:PV K.u.U} {ys:List (PV K.u.U)} {ws cs:List (TV K.u.U)} {x x':e.den K.u.U}
  (hS:look st id=some (.row E ver e l)) (hu:PRel K G (look st) β (.eptr id ver i off) u) (hq:PRel K G (look st) β q y) (hys:q.cellsOf K.u=some ys) (hn:szT K.P T=some n) (hl:ys.length=n)
  (hws:zaa7 PV.asFlat (((K.u.ctysOf e).drop off).take n) ys=some ws) (hx:l[i]? = some x) (hsp:splice (K.u.tcells ⟨e,x⟩) off ws=some cs) (hx':zaes K.u e cs=some x')
  (h:c .junk [(id,.row E ver e (l.set i x'))]=some r):∃ w',(Instr.storeAt T u y).run K.P w=.ok () w'∧N undef w':=by
 obtain ⟨hyr,hy1⟩:=hq.cellsOf hys;have l2:=hyr.length;simp only[Array.length_toList] at l2;obtain ⟨hwT,_⟩:=zadx (G':=G) (fun t p c v hc hp=>zabw hc hp) hws hyr;exact zanh (ids:=[]) hN hI hS hu hn (by omega) hy1 (.ofTsL hwT) (fun b hb=>by cases hb) (by simp) hx hsp hx' h
theorem zaug (hN:Next K V B G st β c r N) (hI:Inv K V B G (look st) β w) {T E:TypeId} {id ver i off n:Nat} {e:Ty} {l:List (e.den K.u.U)} {u y:Value} {q:PV K.u.U} {ys:List (PV K.u.U)} {ws:List (TV K.u.U)×List Nat} {cs:List (TV K.u.U)} {x x':e.den K.u.U}
  (hS:look st id=some (.row E ver e l)) (hu:PRel K G (look st) β (.eptr id ver i off) u) (hq:PRel K G (look st) β q y) (hys:q.cellsOf K.u=some ys) (hn:szT K.P T=some n) (hl:ys.length=n)
  (hws:zab4 K.u (look st) (((K.u.ctysOf e).drop off).take n) ys=some ws) (hd:zacb ws.2=true∧ws.2.elem id=false) (hx:l[i]? = some x) (hsp:splice (K.u.tcells ⟨e,x⟩) off ws.1=some cs) (hx':zaes K.u e cs=some x')
  (h:c .junk ((id,.row E ver e (l.set i x'))::deads K.u.U ws.2)=some r):∃ w',(Instr.storeAt T u y).run K.P w=.ok () w'∧N undef w':=by
 obtain ⟨hyr,hy1⟩:=hq.cellsOf hys;have l2:=hyr.length;simp only[Array.length_toList] at l2;obtain ⟨ws1,ids⟩:=ws;obtain ⟨Fn,a1,_,a3,_⟩:=zaef hI hws (zabe hd.1) hyr;exact zanh hN hI hS hu hn (by omega) hy1 a1 a3 (by simpa using hd.2) hx hsp hx' h
end
end Lift
namespace Lift
open Go Go.RowKit
section
variable {K:Kit} {V:Env} {B:Base} {R:Type}
variable {G:Nat→Option Obj} {st:List (Nat×Ob K.u.U)} {β:Nat→Gh} {w:World} {c:PV K.u.U→Ups K.u.U→Option R} {r:R} {N:Value→World→Prop}
theorem zalv {S:Nat→Option (Ob K.u.U)} {T:TypeId} {cs:List (PV K.u.U)} {cvs:List Value} {off:Nat} {p:PV K.u.U} (h:K.loadC T cs off=some p) {b o:Nat} (hps:PsRel K G S β cs cvs) (h1c:∀ x∈cvs,x.oneCell'=true)
  (hcell:∀ j v,cvs[j]? = some v→w.cell? ⟨b,o+j,none⟩=some v):∃ y,(loadVar T ⟨b,o+off,none⟩).run K.P w=.ok y w∧PRel K G S β p y:=by
 unfold Kit.loadC at h;split at h
 ·rename_i n ha hs;simp only[Option.map_eq_some_iff] at h;obtain ⟨l,h3,rfl⟩:=h;obtain ⟨h5,rfl⟩:=zag1 h3;have hP2:=(hps.drop off).take n;have hl:=hps.length;have hn:((cvs.drop off).take n).length=n:=by simp; omega
  refine ⟨_,?_,zad0 hP2 (fun x hx=>h1c x (List.mem_of_mem_drop (List.mem_of_mem_take hx)))⟩;refine zabv ha (by rw[hn]; exact hs) (fun j v hj=>?_);rw[List.getElem?_take] at hj;split at hj
  ·rw[List.getElem?_drop] at hj;rw[Nat.add_assoc];exact hcell _ v hj
  ·cases hj
 ·rename_i n ha hs;obtain ⟨y,h5,h6⟩:=hps.get off h;exact ⟨y,zacx ha (hcell _ y h5),h6⟩
 ·cases h
structure OpenedE (K:Kit) (G:Nat→Option Obj) (w:World) (d k:Nat) (F:List Nat) (cs:List (TV K.u.U)) (vs:List Value) (γ:Nat→Gh):Prop where
 ids:∀ x∈zaap d k cs,∃ m,k≤m∧m<k+(zaap d k cs).length∧x.1=zab2 d m
 nodup:((zaap d k cs).map (·.1)).Nodup
 rows:∀ x∈zaap d k cs,∃ T e l,x.2=.row T 0 e l∧ObRel K G (fun _=>none) γ w x.1 (.row T 0 e l)
 has:∀ x∈zaap d k cs,∀ b,x.2.has (γ x.1) b→b∈F
 inj:∀ x∈zaap d k cs,∀ y∈zaap d k cs,∀ b,x.2.has (γ x.1) b→y.2.has (γ y.1) b→x.1=y.1
 cells:∀ (S:Nat→Option (Ob K.u.U)) (β:Nat→Gh),(∀ x∈zaap d k cs,S x.1=some x.2∧β x.1=γ x.1)→PsRel K G S β (zaax d k cs) vs
 one:∀ v∈vs,v.oneCell'=true
theorem zan3 (d : Nat) : ∀ {cs : List (TV K.u.U)} {F : List Nat} {vs : List Value} (k : Nat), (∀ c ∈ cs, c.t.flat = true) → HsRel K.u G (fun k => w.heap[k]?) F cs vs → ∃ γ, OpenedE K G w d k F cs vs γ
 |[],F,vs,k,_,h=>by
  cases h;exact ⟨fun _=>Gh.of undef,⟨fun x hx=>(by cases hx),.nil,fun x hx=>(by cases hx),fun x hx=>(by cases hx),fun x hx=>(by cases hx),fun _ _ _=>by simp[zaax,PsRel],fun v hv=>(by cases hv)⟩⟩
 |c::cs,F,vs,k,hf,h=>by
  cases h with
  |cons _ _ v vs F1 F2 h1 h2 h3=>
  have hf1:=hf c (by simp);have hone:=h1.oneCell hf1;have hfs:∀ c∈cs,c.t.flat=true:=fun c hc=>hf c (by simp[hc])
  obtain ⟨t,x⟩:=c;have plain:t.isOwn=false→∃ γ,OpenedE K G w d k (F1++F2) (⟨t,x⟩::cs) (v::vs) γ:=fun ht=>by
   obtain ⟨γ,o1,o2,o3,o4,o5,o6,o7⟩:=zan3 d k hfs h2;have e1:zaap d k ((⟨t,x⟩:TV K.u.U)::cs)=zaap d k cs:=by cases t<;>first|rfl|(cases ht)
   have e2:zaax d k ((⟨t,x⟩:TV K.u.U)::cs)=.t ⟨t,x⟩::zaax d k cs:=by cases t<;>first|rfl|(cases ht)
   have hT:TRel K.u G ⟨t,x⟩ v:=by
    cases h1 with
    |base _ _ _ hb=>exact hb
    |onil=>cases ht
    |own=>cases ht
    |st=>cases hf1
   refine ⟨γ,⟨by rw[e1]; exact o1,by rw[e1]; exact o2,by rw[e1]; exact o3,by rw[e1]; exact fun x hx b hb=>List.mem_append.2 (.inr (o4 x hx b hb)),by rw[e1]; exact o5,fun S β hS=>?_,?_⟩⟩
   ·rw[e2];simp only[PsRel];exact ⟨v,vs,rfl,by simp only[PRel]; exact hT,o6 S β (by rw[← e1]; exact hS)⟩
   ·intro y hy;rcases List.mem_cons.1 hy with rfl|hy
    ·exact hone
    ·exact o7 y hy
  cases t with
  |own T e=>
   obtain ⟨γ,o1,o2,o3,o4,o5,o6,o7⟩:=zan3 d (k+1) hfs h2;have hne:∀ y∈zaap d (k+1) cs,y.1≠zab2 d k:=fun y hy he=>by
    obtain ⟨m,m1,_,m3⟩:=o1 y hy;rw[m3] at he;simp only[zab2] at he;omega
   -- the row itself
   have hrow:∃ g:Gh,g.v=v∧(∀ γ':Nat→Gh,γ' (zab2 d k)=g→ObRel K G (fun _=>none) γ' w (zab2 d k) (.row T 0 e x))∧∀ b,(Ob.row T 0 e x:Ob K.u.U).has g b→b∈F1:=by
    cases h1 with
    |base _ _ _ hb=>exact absurd hb.notOwn (by simp[Ty.isOwn])
    |onil=>
     refine ⟨⟨_,[]⟩,rfl,fun γ' hγ=>?_,fun b hb=>?_⟩
     ·show ∃ vals,_;rw[hγ];exact ⟨[],.nil,World.ownsZ_nil _ _ _ _,fun b hb=>(by cases hb)⟩
     ·rcases hb with hb|⟨_,hb⟩
      ·simp[blkOf] at hb
      ·cases hb
    |own _ _ _ b cap cur fz vals F' hz hh hc1 hc2 hc3 htake hTs hnb=>
     refine ⟨⟨_,F'⟩,rfl,fun γ' hγ=>?_,fun b' hb=>?_⟩
     ·show ∃ vals,_;rw[hγ];refine ⟨vals,hTs,⟨?_,.inr ⟨b,cap,cur,fz,rfl,hz,hh,hc1,hc2,hc3,htake⟩⟩,fun b' hb' he=>?_⟩
      ·rw[← htake];simp only[List.length_take,Array.length_toList];have:x.length*K.u.size e≤cap*K.u.size e:=Nat.mul_le_mul_right _ hc1;omega
      ·simp only[blkOf,Option.some.injEq] at he;subst he;exact hnb hb'
     ·rcases hb with hb|⟨_,hb⟩
      ·simp only[blkOf,Option.some.injEq] at hb;subst hb;simp
      ·exact List.mem_cons_of_mem _ hb
   obtain ⟨g,hgv,hgo,hgF⟩:=hrow;let γ':Nat→Gh:=fun i=>if i=zab2 d k then g else γ i
   have hγk:γ' (zab2 d k)=g:=by simp[γ']
   have hγo:∀ y∈zaap d (k+1) cs,γ' y.1=γ y.1:=fun y hy=>by simp[γ',hne y hy]
   have e1:zaap d k ((⟨.own T e,x⟩:TV K.u.U)::cs)=(zab2 d k,.row T 0 e x)::zaap d (k+1) cs:=rfl;have e2:zaax d k ((⟨.own T e,x⟩:TV K.u.U)::cs)=.oslc (zab2 d k) 0::zaax d (k+1) cs:=rfl;refine ⟨γ',⟨?_,?_,?_,?_,?_,fun S β hS=>?_,?_⟩⟩
   ·rw[e1];intro y hy;rcases List.mem_cons.1 hy with rfl|hy
    ·exact ⟨k,Nat.le_refl _,by simp,rfl⟩
    ·obtain ⟨m,m1,m2,m3⟩:=o1 y hy;exact ⟨m,by omega,by simp only[List.length_cons]; omega,m3⟩
   ·rw[e1,List.map_cons,List.nodup_cons];exact ⟨fun hm=>by obtain ⟨y,hy,he⟩:=List.mem_map.1 hm; exact hne y hy he,o2⟩
   ·rw[e1];intro y hy;rcases List.mem_cons.1 hy with rfl|hy
    ·exact ⟨T,e,x,rfl,hgo γ' hγk⟩
    ·obtain ⟨T',e',l',q1,q2⟩:=o3 y hy;refine ⟨T',e',l',q1,?_⟩;show ∃ vals,_;rw[hγo y hy];exact q2
   ·rw[e1];intro y hy b hb;rcases List.mem_cons.1 hy with rfl|hy
    ·rw[hγk] at hb;exact List.mem_append.2 (.inl (hgF b hb))
    ·rw[hγo y hy] at hb;exact List.mem_append.2 (.inr (o4 y hy b hb))
   ·rw[e1];intro y hy z hz b hb hb';rcases List.mem_cons.1 hy with rfl|hy<;>rcases List.mem_cons.1 hz with rfl|hz
    ·rfl
    ·rw[hγk] at hb; rw[hγo z hz] at hb';exact absurd (o4 z hz b hb') (h3 b (hgF b hb))
    ·rw[hγo y hy] at hb; rw[hγk] at hb';exact absurd (o4 y hy b hb) (h3 b (hgF b hb'))
    ·rw[hγo y hy] at hb; rw[hγo z hz] at hb';exact o5 y hy z hz b hb hb'
   ·rw[e2];rw[e1] at hS;obtain ⟨s1,s2⟩:=hS _ List.mem_cons_self;simp only[PsRel];refine ⟨v,vs,rfl,?_,o6 S β (fun y hy=>by obtain ⟨p1,p2⟩:=hS y (List.mem_cons_of_mem _ hy); exact ⟨p1,p2.trans (hγo y hy)⟩)⟩;simp only[PRel];exact ⟨hone,_,s1,Nat.le_refl _,fun _ _=>by rw[s2,hγk,hgv]⟩
   ·intro y hy;rcases List.mem_cons.1 hy with rfl|hy
    ·exact hone
    ·exact o7 y hy
  |st n=>cases hf1
  |_=>exact plain rfl
theorem zajt {l m:List (Nat×Ob K.u.U)} {i:Nat} (h:i∉l.map (·.1)):look (l++m) i=look m i:=by
 induction l with
 |nil=>rfl
 |cons x l ih=>
  obtain ⟨j,o⟩:=x;simp only[List.map_cons,List.mem_cons,not_or] at h;rw[List.cons_append,zaah,if_neg h.1];exact ih h.2
theorem zakd {l m:List (Nat×Ob K.u.U)} (hn:(l.map (·.1)).Nodup) {i:Nat} {o:Ob K.u.U} (h:(i,o)∈l):look (l++m) i=some o:=by
 induction l with
 |nil=>cases h
 |cons x l ih=>
  obtain ⟨j,o'⟩:=x;simp only[List.map_cons,List.nodup_cons] at hn;rw[List.cons_append,zaah];cases h with
  |head=>simp
  |tail _ h=>
   rw[if_neg (fun e=>hn.1 (by rw[← e]; exact List.mem_map_of_mem (f:=Prod.fst) h))];exact ih hn.2 h
theorem Inv.opens (hI:Inv K V B G (look st) β w) {id E ver i d:Nat} {e:Ty} {l:List (e.den K.u.U)} {x:e.den K.u.U} (hS:look st id=some (.row E ver e l)) (hx:l[i]? = some x)
  (hlen:(zaap d 0 (K.u.tcells ⟨e,x⟩)).length≤4) (hfr:((List.range 4).all fun k=>(look st (zab2 d k)).isNone)=true) :
  ∃ β' cvs,Inv K V B G (look ((id,.opn E ver e l i (zaax d 0 (K.u.tcells ⟨e,x⟩)))::(zaap d 0 (K.u.tcells ⟨e,x⟩)++st))) β' w ∧
   Comp K G G (look st) β (look ((id,.opn E ver e l i (zaax d 0 (K.u.tcells ⟨e,x⟩)))::(zaap d 0 (K.u.tcells ⟨e,x⟩)++st))) β' ∧
   PsRel K G (look ((id,.opn E ver e l i (zaax d 0 (K.u.tcells ⟨e,x⟩)))::(zaap d 0 (K.u.tcells ⟨e,x⟩)++st))) β' (zaax d 0 (K.u.tcells ⟨e,x⟩)) cvs∧(∀ x∈cvs,x.oneCell'=true) ∧
   ∃ g cap cur fz,(β id).v=.slice (some ⟨g,0,none⟩) l.length cap∧w.heap[g]? = some (.cells cur E fz)∧∀ j v,cvs[j]? = some v→w.cell? ⟨g,i*K.u.size e+j,none⟩=some v:=by
 obtain ⟨vals,hT,hown,hapart⟩:=hI.obs id _ hS;have hi:i<l.length:=(List.getElem?_eq_some_iff.1 hx).1;have hlv:l.length=vals.length:=by simpa using hT.length
 rcases hown.2 with ⟨_,hn0⟩|⟨g,cap,cur,fz,hvv,hfz,hh,hncap,hcm,hcs,htake⟩
 ·omega
 obtain ⟨y0,F1,F2,F3,hy0,hFF,hyT,hT1,hT3,hd1,hd2⟩:=hT.at (i:=i) (c:=⟨e,x⟩) (by simp[hx]);generalize hcells:K.u.tcells ⟨e,x⟩=cells at hlen ⊢;have hyc:=hyT.cells;rw[hcells] at hyc;obtain ⟨γ,o1,o2,o3,o4,o5,o6,o7⟩:=zan3 (K:=K) (G:=G) (w:=w) d 0 (fun c hc=>K.u.tcells_flat ⟨e,x⟩ c (by rw[hcells]; exact hc)) hyc;have fresh:∀ y∈zaap d 0 cells,look st y.1=none:=fun y hy=>by
  obtain ⟨m,_,m2,m3⟩:=o1 y hy;have:=List.all_eq_true.1 hfr m (List.mem_range.2 (by omega));rw[m3];simpa using this
 have hidne:∀ y∈zaap d 0 cells,y.1≠id:=fun y hy he=>by
  have:=fresh y hy;rw[he,hS] at this;cases this
 let β':Nat→Gh:=fun j=>if j=id then ⟨(β id).v,F1++F3⟩ else if j∈(zaap d 0 cells).map (·.1) then γ j else β j
 have bid:β' id=⟨(β id).v,F1++F3⟩:=by simp[β']
 have bop:∀ y∈zaap d 0 cells,β' y.1=γ y.1:=fun y hy=>by
  have hm:y.1∈(zaap d 0 cells).map (·.1):=List.mem_map_of_mem (f:=Prod.fst) hy;simp only[β',if_neg (hidne y hy),if_pos hm]
 have both:∀ j ob,look st j=some ob→j∉(zaap d 0 cells).map (·.1):=fun j ob hj hm=>by
  obtain ⟨y,hy,rfl⟩:=List.mem_map.1 hm;rw[fresh y hy] at hj;cases hj
 have bold:∀ j ob,look st j=some ob→j≠id→β' j=β j:=fun j ob hj hne=>by
  simp only[β',if_neg hne,if_neg (both j ob hj)]
 generalize hst':((id,.opn E ver e l i (zaax d 0 cells))::(zaap d 0 cells++st):List (Nat×Ob K.u.U))=st';have lid:look st' id=some (.opn E ver e l i (zaax d 0 cells)):=by rw[← hst',zaah]; simp
 have lop:∀ y∈zaap d 0 cells,look st' y.1=some y.2:=fun y hy=>by
  rw[← hst',zaah,if_neg (hidne y hy)];exact zakd o2 hy
 have lold:∀ j ob,look st j=some ob→j≠id→look st' j=some ob:=fun j ob hj hne=>by
  rw[← hst',zaah,if_neg hne,zajt (both j ob hj)];exact hj
 have back:∀ j ob,look st' j=some ob→(j=id∧ob=.opn E ver e l i (zaax d 0 cells))∨(j,ob)∈zaap d 0 cells∨(j≠id∧look st j=some ob):=fun j ob hj=>by
  rw[← hst',zaah] at hj;by_cases hji:j=id
  ·rw[if_pos hji] at hj; exact .inl ⟨hji,by simpa using hj.symm⟩
  ·rw[if_neg hji] at hj;by_cases hm:j∈(zaap d 0 cells).map (·.1)
   ·obtain ⟨y,hy,rfl⟩:=List.mem_map.1 hm;rw[zakd o2 (i:=y.1) (o:=y.2) hy] at hj;cases hj;exact .inr (.inl hy)
   ·rw[zajt hm] at hj;exact .inr (.inr ⟨hji,hj⟩)
 have hcomp:Comp K G G (look st) β (look st') β':=by
  refine ⟨fun _ _ h=>h,fun j ob hj=>?_⟩;by_cases hji:j=id
  ·subst hji;rw[hS] at hj;cases hj;refine ⟨_,lid,fun hp=>(by cases hp),fun _ h=>h,fun ver' x' _ he=>?_⟩;obtain ⟨rfl,rfl⟩:=zahd he;exact ⟨⟨e,l⟩,zab3,rfl,rfl,by rw[bid]⟩
  ·exact ⟨ob,lold j ob hj hji,fun hp=>⟨hp,by rw[bold j ob hj hji]⟩,fun _ h=>h,fun _ x' _ he=>⟨x',he,rfl,rfl,by rw[bold j ob hj hji]⟩⟩
 have hps:PsRel K G (look st') β' (zaax d 0 cells) y0.cells.toList:=o6 _ _ (fun y hy=>⟨lop y hy,bop y hy⟩);have hg:w.grownBy w none:=⟨rfl,rfl,rfl,Nat.le_refl _,fun _ _ _=>rfl⟩;have hsz:=hT.sizes;have hagg:(Value.agg y0.cells.toList.toArray).cells.toList=y0.cells.toList:=by simp[Value.cells]
 have hflat:((vals.set i (.agg y0.cells.toList.toArray)).flatMap fun z=>z.cells.toList)=vals.flatMap fun z=>z.cells.toList:=by
  have hi':i<vals.length:=by omega
  have e1:((vals.set i (.agg y0.cells.toList.toArray)).map fun z=>z.cells.toList)=vals.map fun z=>z.cells.toList:=by
   rw[List.map_set,hagg];have hv:vals[i]'hi'=y0:=by
    rw[List.getElem?_eq_getElem hi'] at hy0; simpa using hy0
   rw[← hv,← List.getElem_map (fun z:Value=>z.cells.toList) (h:=by simpa using hi')];exact List.set_getElem_self _
  rw[List.flatMap_def,List.flatMap_def,e1]
 have hF2F:∀ b∈F2,b∈(β id).F:=fun b hb=>by rw[hFF]; simp[hb]
 have hF13:∀ b∈F1++F3,b∈(β id).F:=fun b hb=>by
  rw[hFF];rcases List.mem_append.1 hb with hb|hb<;>simp[hb]
 have hidhas:∀ b,(Ob.opn E ver e l i (zaax d 0 cells):Ob K.u.U).has (β' id) b→(Ob.row E ver e l:Ob K.u.U).has (β id) b:=fun b hb=>by
  rw[bid] at hb;rcases hb with hb|⟨_,hb⟩
  ·exact .inl hb
  ·exact .inr ⟨rfl,hF13 b hb⟩
 have hophas:∀ y∈zaap d 0 cells,∀ b,y.2.has (β' y.1) b→b∈F2:=fun y hy b hb=>by
  rw[bop y hy] at hb;exact o4 y hy b hb
 have idop:∀ y∈zaap d 0 cells,∀ b,(Ob.opn E ver e l i (zaax d 0 cells):Ob K.u.U).has (β' id) b→y.2.has (β' y.1) b→False:=fun y hy b hb hb'=>by
  have h2:=hophas y hy b hb';rw[bid] at hb;rcases hb with hb|⟨_,hb⟩
  ·exact hapart b (hF2F b h2) hb
  ·rcases List.mem_append.1 hb with hb|hb
   ·exact (hd1 b hb).1 h2
   ·exact hd2 b h2 hb
 refine ⟨β',y0.cells.toList,⟨hI.gok,fun j ob hj=>?_,fun j ob b hj hl hb=>?_,fun j k ob ob2 b hj hk hl hl2 hb hb2=>?_,hI.os,hI.tape,hI.output,hI.size,hI.low,hI.gl,hI.env,hI.n0,hI.hh,fun j ob hp hj hP=>?_⟩,hcomp,hps,o7,g,cap,cur,fz,hvv,hh,fun j v hj=>?_⟩
 ·rcases back j ob hj with ⟨rfl,rfl⟩|hy|⟨hne,hj0⟩
  ·refine ⟨vals.set i (.agg y0.cells.toList.toArray),y0.cells.toList,F1,F3,by rw[bid],hi,by simp[hlv],fun z hz=>?_,?_,?_,?_,fun b hb=>(hd1 b hb).2,hps,o7,?_,?_⟩
   ·rcases List.mem_or_eq_of_mem_set hz with hz|rfl
    ·exact hsz z hz
    ·simp only[Value.cells,List.size_toArray,Array.length_toList];exact hyT.size
   ·rw[List.getElem?_set_self (by omega)]
   ·rw[List.take_set_of_le (Nat.le_refl _)]; exact hT1
   ·rw[List.drop_set_of_lt (by omega)]; exact hT3
   ·rw[hflat,bid]; exact hown
   ·rw[bid]; exact fun b hb=>hapart b (hF13 b hb)
  ·obtain ⟨T',e',l',q1,q2⟩:=o3 _ hy;simp only at q1 q2;subst q1;show ∃ vals,_;have:=bop _ hy;simp only at this;rw[this];exact q2
  ·exact (hI.obs j ob hj0).over hcomp (bold j ob hj0 hne) hg (fun _ _ _=>by simp)
 ·rcases back j ob hj with ⟨rfl,rfl⟩|hy|⟨hne,hj0⟩
  ·exact hI.own _ _ b hS rfl (hidhas b hb)
  ·exact hI.own id _ b hS rfl (.inr ⟨rfl,hF2F b (hophas _ hy b hb)⟩)
  ·rw[bold j ob hj0 hne] at hb;exact hI.own j ob b hj0 hl hb
 ·rcases back j ob hj with ⟨rfl,rfl⟩|hy|⟨hne,hj0⟩<;>rcases back k ob2 hk with ⟨rfl,rfl⟩|hy2|⟨hne2,hk0⟩
  ·rfl
  ·exact (idop _ hy2 b hb hb2).elim
  ·rw[bold k ob2 hk0 hne2] at hb2;exact hI.inj _ k _ ob2 b hS hk0 rfl hl2 (hidhas b hb) hb2
  ·exact (idop _ hy b hb2 hb).elim
  ·have h1:=bop _ hy;have h2:=bop _ hy2;simp only at h1 h2;rw[h1] at hb;rw[h2] at hb2;exact o5 _ hy _ hy2 b hb hb2
  ·rw[bold k ob2 hk0 hne2] at hb2;exact absurd (hI.inj id k _ ob2 b hS hk0 rfl hl2 (.inr ⟨rfl,hF2F b (hophas _ hy b hb)⟩) hb2) (Ne.symm hne2)
  ·rw[bold j ob hj0 hne] at hb;exact hI.inj j _ ob _ b hj0 hS hl rfl hb (hidhas b hb2)
  ·rw[bold j ob hj0 hne] at hb;exact absurd (hI.inj id j _ ob b hS hj0 rfl hl (.inr ⟨rfl,hF2F b (hophas _ hy2 b hb2)⟩) hb) (Ne.symm hne)
  ·rw[bold j ob hj0 hne] at hb;rw[bold k ob2 hk0 hne2] at hb2;exact hI.inj j k ob ob2 b hj0 hk0 hl hl2 hb hb2
 ·rcases back j ob hj with ⟨rfl,rfl⟩|hy|⟨hne,hj0⟩
  ·cases hP
  ·obtain ⟨T',e',l',q1,_⟩:=o3 _ hy;simp only at q1;subst q1;cases hP
  ·rw[bold j ob hj0 hne];exact hI.pin j ob hp hj0 hP
 ·rw[zado hh];have hfl:=flat_get vals i y0 hsz hy0;have hjl:j<K.u.size e:=by
   have:=(List.getElem?_eq_some_iff.1 hj).1;have h2:=hyT.size;simp only at h2;simp only[Array.length_toList] at this;omega
  rw[← hfl,← htake,List.getElem?_take_of_lt hjl,List.getElem?_drop] at hj;have hb:i*K.u.size e+j<l.length*K.u.size e:=by
   have:(i+1)*K.u.size e≤l.length*K.u.size e:=Nat.mul_le_mul_right _ hi;rw[Nat.add_mul] at this;omega
  rw[List.getElem?_take_of_lt hb] at hj;simpa using hj
theorem zask (hN:Next K V B G st β c r N) (hI:Inv K V B G (look st) β w) {T:TypeId} {d:Option Nat} {id ver i off:Nat} {u:Value} (hq:PRel K G (look st) β (.eptr id ver i off) u)
  (h:K.loadE (look st) d T id ver i off c=some r):∃ y,(Instr.loadAt T u).run K.P w=.ok y w∧N y w:=by
 unfold Kit.loadE at h;simp only[PRel] at hq;obtain ⟨_,ob,h3,_,h4⟩:=hq;split at h
 ·rename_i E v e l i' cs hS;rw[hS] at h3;cases h3;split at h
  ·rename_i hv;subst hv;cases hb:Nat.beq i i' with
   |false=>rw[hb] at h; cases h
   |true=>
    have hii:=Nat.eq_of_beq_eq_true hb;subst hii;rw[hb,cond_true] at h;simp only[Option.bind_eq_some_iff] at h;obtain ⟨p,h1,h2⟩:=h;obtain ⟨hi,hu⟩:=h4 _ zaih;obtain ⟨vals,cvs,F1,F3,a1,a2,a3,a4,a5,a6,a7,a8,a9,a10,hown,a12⟩:=hI.obs id _ hS;rcases hown.2 with ⟨_,hn0⟩|⟨g,cap,cur,fz,hvv,hfz,hh,hncap,hcm,hcs,htake⟩
    ·simp only at hi; omega
    simp[hvv,zaa5] at hu;subst hu;have hcell:∀ j v,cvs[j]? = some v→w.cell? ⟨g,i*K.u.size e+j,none⟩=some v:=fun j v hj=>by
     rw[zado hh];have hfl:=flat_get vals i _ a4 a5;have hsz:=a4 _ (List.mem_of_getElem? a5);simp only[Value.cells,List.size_toArray] at hsz;have hjl:j<K.u.size e:=by
      have:=(List.getElem?_eq_some_iff.1 hj).1;omega
     have hj':((Value.agg cvs.toArray).cells.toList)[j]? = some v:=by simpa [Value.cells] using hj
     rw[← hfl,← htake,List.getElem?_take_of_lt hjl,List.getElem?_drop] at hj';have hb:i*K.u.size e+j<l.length*K.u.size e:=by
      have:(i+1)*K.u.size e≤l.length*K.u.size e:=Nat.mul_le_mul_right _ a2;rw[Nat.add_mul] at this;omega
     rw[List.getElem?_take_of_lt hb] at hj';simpa using hj'
    obtain ⟨y,h5,h6⟩:=zalv (b:=g) (o:=i*K.u.size e) h1 a9 a10 hcell;refine ⟨y,?_,hN.plain hI h2 h6⟩;simp only[Instr.loadAt,Instr.sureAddr,Sem.run_bind,Sem.run_pure,Result.andThen_ok];exact h5
  ·cases h
 ·rename_i E v e l hS;rw[hS] at h3;cases h3;split at h
  ·rename_i hv;subst hv;simp only[Option.bind_eq_some_iff] at h;obtain ⟨x,hx,h⟩:=h;obtain ⟨hi,hu⟩:=h4 _ zab3;obtain ⟨vals,F,hT,hFF,_,hcells⟩:=zaow hI hS (ver:=v) (x:=⟨e,l⟩) (by simp[Ob.val]);rcases hcells with ⟨hn,_⟩|⟨g,off0,cap,hvv,_,cur,T0,fz,hh,hL⟩
   ·simp only at hn hi; rw[hn] at hi; simp at hi
   ·obtain ⟨y0,_,F2,_,hy0,_,hy1,_⟩:=hT.at (i:=i) (c:=⟨e,x⟩) (by simp[hx]);simp only[hvv,zaa5] at hu;have hcell:∀ j u,y0.cells[j]? = some u→w.cell? ⟨g,off0+i*K.u.size e+j,none⟩=some u:=fun j u hj=>by
     rw[zado hh];exact (hL i y0 hy0).2 j u hj
    cases hp:K.u.plainTy e with
    |true=>
     rw[hp,cond_true] at h;simp only[Option.bind_eq_some_iff] at h;obtain ⟨p,h1,h2⟩:=h;obtain ⟨y,h5,h6⟩:=zah2 (st:=st) (β:=β) (w:=w) h1 (b:=g) (o:=off0+i*K.u.size e) (hy1.toT hp).2 hcell;refine ⟨y,?_,hN.plain hI h2 h6⟩;rw[hu];simp only[Instr.loadAt,Instr.sureAddr,Sem.run_bind,Sem.run_pure,Result.andThen_ok];rw[← Nat.add_assoc];exact h5
    |false=>
     rw[hp,cond_false] at h;cases hf:K.flatSeg T e off with
     |true=>
      rw[hf,cond_true] at h;simp only[Option.bind_eq_some_iff] at h;obtain ⟨p,h1,h2⟩:=h;obtain ⟨y,h5,h6⟩:=zasd (st:=st) (β:=β) (w:=w) h1 hf (b:=g) (o:=off0+i*K.u.size e) hy1 hcell;refine ⟨y,?_,hN.plain hI h2 h6⟩;rw[hu];simp only[Instr.loadAt,Instr.sureAddr,Sem.run_bind,Sem.run_pure,Result.andThen_ok];rw[← Nat.add_assoc];exact h5
     |false=>
      rw[hf,cond_false] at h;split at h
      ·rename_i d;split at h
       ·rename_i hc;obtain ⟨c1,c2⟩:=hc;simp only[Option.bind_eq_some_iff] at h;obtain ⟨p,h1,h2⟩:=h;obtain ⟨β',cvs,hI',hc',hps,hone,g',cap',cur',fz',hv',hh',hcell'⟩:=hI.opens hS hx c1 c2;rw[hvv] at hv';simp only[Value.slice.injEq,Option.some.injEq,Addr.mk.injEq,and_true,true_and] at hv';obtain ⟨⟨rfl,rfl⟩,rfl⟩:=hv';obtain ⟨y,h5,h6⟩:=zalv (b:=g) (o:=i*K.u.size e) h1 hps hone hcell';refine ⟨y,?_,hN p _ y w G β' h2 hI' hc' h6⟩;rw[hu];simp only[Instr.loadAt,Instr.sureAddr,Sem.run_bind,Sem.run_pure,Result.andThen_ok,Nat.zero_add];exact h5
       ·cases h
      ·cases h
  ·cases h
 ·rename_i v e l hS;rw[hS] at h3;cases h3;split at h
  ·rename_i hv;subst hv;simp only[Option.bind_eq_some_iff] at h;obtain ⟨x,hx,p,h1,h2⟩:=h;obtain ⟨hi,hu⟩:=h4 _ zas0;have ho:TRel K.u G ⟨.slc e,l⟩ (β id).v:=hI.obs id _ hS;rcases ho.slc_inv with ⟨e1,_⟩|⟨g,off0,cap,cur,T0,fz,vals,hvv,q2,q3,q4,hL⟩
   ·rw[e1] at hx; simp at hx
   ·obtain ⟨y0,hy0,hy1⟩:=q4.get i (c:=⟨e,x⟩) (by simp[hx]);simp only[hvv,zaa5] at hu;have hh:=hI.gok _ _ q3;obtain ⟨y,h5,h6⟩:=zah2 (st:=st) (β:=β) (w:=w) h1 (b:=g) (o:=off0+i*K.u.size e) hy1 (fun j u hj=>by rw[zado hh]; exact (hL i y0 hy0).2 j u hj);refine ⟨y,?_,hN.plain hI h2 h6⟩;rw[hu];simp only[Instr.loadAt,Instr.sureAddr,Sem.run_bind,Sem.run_pure,Result.andThen_ok];rw[← Nat.add_assoc];exact h5
  ·cases h
 ·cases h
theorem zath (hN:Next K V B G st β c r N) (hI:Inv K V B G (look st) β w) {T:TypeId} {d:Option Nat} {q:PV K.u.U} {u:Value} (hq:PRel K G (look st) β q u)
  (h:(match (some q:Option (PV K.u.U)) with
  |some (.ptr id off)=>match look st id with
   |some (.blk _ cs)=>match zadd K.P T,szT K.P T with
    |some true,some n=>(seg cs off n).bind fun l=>c (K.pack T l) []
    |some false,some _=>(cs[off]?).bind fun p=>c p []
    |_,_=>none
   |_=>none
  |some (.rptr v off)=>(K.loadR T v off).bind fun p=>c p []
  |some (.eptr id ver i off)=>K.loadE (look st) d T id ver i off c
  |_=>none)=some r):∃ y,(Instr.loadAt T u).run K.P w=.ok y w∧N y w:=by
 split at h
 ·rename_i id off heq;cases heq;split at h
  ·rename_i cs hS;simp only[PRel] at hq;obtain ⟨_,ob,h1,h2⟩:=hq;rw[hS] at h1;cases h1;have hu:=h2 rfl;obtain ⟨b,vs,hb,hh,hps,h1c⟩:=hI.obs id _ hS;simp[hb,zaa5] at hu;subst hu;have hcell:∀ j v,vs[j]? = some v→w.cell? ⟨b,j,none⟩=some v:=fun j v hj=>by rw[zado hh]; simpa using hj
   split at h
   ·rename_i n ha hs;simp only[Option.bind_eq_some_iff] at h;obtain ⟨l,h3,h4⟩:=h;obtain ⟨h5,rfl⟩:=zag1 h3;have hP2:=(hps.drop off).take n;have hl:=hps.length;have hn:((vs.drop off).take n).length=n:=by simp; omega
    refine ⟨_,?_,hN.plain hI h4 (zad0 hP2 (fun x hx=>h1c x (List.mem_of_mem_drop (List.mem_of_mem_take hx))))⟩;simp only[Instr.loadAt,Instr.sureAddr,Sem.run_bind,Sem.run_pure,Result.andThen_ok];refine zabv ha (by rw[hn]; exact hs) (fun j v hj=>?_);rw[List.getElem?_take] at hj;split at hj
    ·rw[List.getElem?_drop] at hj;exact hcell _ v hj
    ·cases hj
   ·rename_i n ha hs;simp only[Option.bind_eq_some_iff] at h;obtain ⟨p,h3,h4⟩:=h;obtain ⟨y,h5,h6⟩:=hps.get off h3;refine ⟨y,?_,hN.plain hI h4 h6⟩;simp only[Instr.loadAt,Instr.sureAddr,Sem.run_bind,Sem.run_pure,Result.andThen_ok];exact zacx ha (hcell _ y h5)
   ·cases h
  ·cases h
 ·rename_i v off heq;cases heq;simp only[Option.bind_eq_some_iff] at h;obtain ⟨p,h1,h2⟩:=h;simp only[PRel] at hq;obtain ⟨b,o,cur,E,fz,x,rfl,hG,hx,hc⟩:=hq;have hh:=hI.gok b _ hG;obtain ⟨y,h3,h4⟩:=zah2 (st:=st) (β:=β) (w:=w) h1 (b:=b) (o:=o) hx (fun j u hj=>by rw[zado hh]; exact hc j u hj);refine ⟨y,?_,hN.plain hI h2 h4⟩;simp only[Instr.loadAt,Instr.sureAddr,Sem.run_bind,Sem.run_pure,Result.andThen_ok];exact h3
 ·rename_i id ver i off heq;cases heq;exact zask hN hI hq h
 ·cases h
theorem zan2 (hI:Inv K V B G (look st) β w) {id:Nat} {up:List (Nat×Ob K.u.U)} (h:zal0 K.u st id=some up) :
  ∃ β',Inv K V B G (look (up++st)) β' w∧Comp K G G (look st) β (look (up++st)) β':=by
 unfold zal0 at h;split at h
 ·rename_i T v e l i cs hS;simp only[Option.bind_eq_some_iff] at h;obtain ⟨⟨ws,ids⟩,h1,h2⟩:=h;split at h2
  ·rename_i hd;obtain ⟨hd1,hd2⟩:=hd;simp only[Option.map_eq_some_iff] at h2;obtain ⟨x',h3,rfl⟩:=h2;simp only at h1 h3 hd1 hd2;obtain ⟨vals,cvs,F1,F3,a1,a2,a3,a4,a5,a6,a7,a8,a9,a10,hown,a12⟩:=hI.obs id _ hS;obtain ⟨Fn,b1,b2,b3,b4⟩:=zaef hI h1 (zabe hd1) a9;obtain ⟨z,hz1,hz2⟩:=zast h3 b1;have hids:id∉ids:=by simpa using hd2
   have hnew:∀ b∈Fn,b∉(β id).F∧blkOf (β id).v≠some b:=fun b hbn=>by
    obtain ⟨j,ob,j1,j2,j3,j4⟩:=b3 b hbn;refine ⟨fun hbF=>hids ?_,fun hbg=>hids ?_⟩
    ·have:=hI.inj j id ob _ b j2 hS j3 rfl j4 (.inr ⟨rfl,hbF⟩);exact this▸j1
    ·have:=hI.inj j id ob _ b j2 hS j3 rfl j4 (.inl hbg);exact this▸j1
   have hF1:∀ b∈F1,b∈(β id).F:=fun b hb=>by rw[a1]; simp[hb]
   have hF3:∀ b∈F3,b∈(β id).F:=fun b hb=>by rw[a1]; simp[hb]
   have hg:w.grownBy w none:=⟨rfl,rfl,rfl,Nat.le_refl _,fun _ _ _=>rfl⟩
   have hc:Comp K G G (look st) β (look ((id,.row T v e (l.set i x'))::(deads K.u.U ids++st))) (upd β id ⟨(β id).v,F1++Fn++F3⟩):=
    Comp.consD (fun _ _ h=>h) (fun ob h0=>by
     rw[hS] at h0; cases h0;exact ⟨fun hp=>by simp[Ob.isP] at hp,fun _ h=>h,fun ver' x' hm he=>by obtain ⟨rfl,rfl⟩:=zadp he; exact ⟨⟨e,l⟩,zaih,rfl,by simp,rfl⟩⟩)
   refine ⟨upd β id ⟨(β id).v,F1++Fn++F3⟩,hI.oneD (row:=none) hg (fun k hk=>by cases hk) (fun _ b' hb'=>.inl ?_) hc (fun hp=>by simp[Ob.isP] at hp) ?_,hc⟩
   ·rcases hb' with hb'|⟨_,hb'⟩
    ·exact ⟨id,_,.inl rfl,hS,rfl,.inl hb'⟩
    ·simp only[List.mem_append] at hb';rcases hb' with (hb'|hb')|hb'
     ·exact ⟨id,_,.inl rfl,hS,rfl,.inr ⟨rfl,hF1 _ hb'⟩⟩
     ·obtain ⟨j,ob,j1,j2⟩:=b3 _ hb';exact ⟨j,ob,.inr j1,j2⟩
     ·exact ⟨id,_,.inl rfl,hS,rfl,.inr ⟨rfl,hF3 _ hb'⟩⟩
   have eu:upd β id ⟨(β id).v,F1++Fn++F3⟩ id=⟨(β id).v,F1++Fn++F3⟩:=by simp[upd]
   show ∃ vals,_;rw[eu];refine ⟨vals.set i z,?_,?_,fun b hb=>?_⟩
   ·have hp:=HsRel.put (c:=⟨e,x'⟩) (v:=z) (i:=i) (cs:=l.map (TV.mk e)) (vs:=vals) (by simpa using a2) (by omega) a6 hz1 a7 (fun b hb=>⟨fun hb'=>(hnew b hb').1 (hF1 b hb),a8 b hb⟩) (fun b hb hb'=>(hnew b hb).1 (hF3 b hb'));rw[← List.map_set] at hp;exact hp
   ·have hi':i<vals.length:=by omega
    have hflat:((vals.set i z).flatMap fun z=>z.cells.toList)=vals.flatMap fun z=>z.cells.toList:=by
     have e1:((vals.set i z).map fun z=>z.cells.toList)=vals.map fun z=>z.cells.toList:=by
      rw[List.map_set,hz2];have hv:(vals[i]'hi').cells.toList=cvs:=by
       rw[List.getElem?_eq_getElem hi'] at a5;simp only[Option.some.injEq] at a5;rw[a5];simp[Value.cells]
      rw[← hv,← List.getElem_map (fun z:Value=>z.cells.toList) (h:=by simpa using hi')];exact List.set_getElem_self _
     rw[List.flatMap_def,List.flatMap_def,e1]
    rw[hflat,List.length_set];exact hown
   ·simp only[List.mem_append] at hb;rcases hb with (hb|hb)|hb
    ·exact a12 b (hF1 b hb)
    ·exact (hnew b hb).2
    ·exact a12 b (hF3 b hb)
  ·cases h2
 ·cases h
theorem zae2:∀ {ids:List Nat} {st:List (Nat×Ob K.u.U)} {β:Nat→Gh},Inv K V B G (look st) β w→∃ β',Inv K V B G (look (closeL K.u ids st)) β' w∧Comp K G G (look st) β (look (closeL K.u ids st)) β'
 |[],st,β,hI=>⟨β,hI,Comp.refl⟩
 |id::r,st,β,hI=>by
  unfold closeL;split
  ·rename_i up h;obtain ⟨β1,h1,h2⟩:=zan2 hI h;obtain ⟨β2,h3,h4⟩:=zae2 (ids:=r) h1;exact ⟨β2,h3,h2.trans h4⟩
  ·exact zae2 hI
theorem zau6 (hN:Next K V B G st β c r N) (hI:Inv K V B G (look st) β w) {T E:TypeId} {id ver i off n:Nat} {e:Ty} {l:List (e.den K.u.U)} {u y:Value} {q:PV K.u.U} {cs ys cs':List (PV K.u.U)}
  (hS:look st id=some (.opn E ver e l i cs)) (hu:PRel K G (look st) β (.eptr id ver i off) u) (hq:PRel K G (look st) β q y) (hys:q.cellsOf K.u=some ys) (hn:szT K.P T=some n) (hl:ys.length=n)
  (hsp:splice cs off ys=some cs') (h:c .junk [(id,.opn E ver e l i cs')]=some r):∃ w',(Instr.storeAt T u y).run K.P w=.ok () w'∧N undef w':=by
 simp only[PRel] at hu;obtain ⟨_,ob,h1,_,h2⟩:=hu;rw[hS] at h1;cases h1;obtain ⟨hi,hu⟩:=h2 _ zaih;simp only at hi;obtain ⟨vals,cvs,F1,F3,a1,a2,a3,a4,a5,a6,a7,a8,a9,a10,hown,a12⟩:=hI.obs id _ hS;rcases hown.2 with ⟨_,hn0⟩|⟨g,cap,cur,fz,hvv,hfz,hh,hncap,hcm,hcs,htake⟩
 ·omega
 obtain ⟨hyr,hy1⟩:=hq.cellsOf hys;obtain ⟨hsl,rfl⟩:=zafk hsp;have l1:=a9.length;have l2:=hyr.length;simp only[Array.length_toList] at l2;have hcv:cvs.length=K.u.size e:=by
  have:=a4 _ (List.mem_of_getElem? a5);simpa [Value.cells] using this
 simp[hvv,zaa5] at hu;subst hu;have hoff:off+y.cells.size≤K.u.size e:=by omega
 have hcap:(i+1)*K.u.size e≤cur.size:=Nat.le_trans (Nat.mul_le_mul_right _ (by omega)) hcs;have hmul:(i+1)*K.u.size e=i*K.u.size e+K.u.size e:=by rw[Nat.add_mul]; omega
 have hrun:=zae4 (P:=K.P) (T:=T) (o:=i*K.u.size e+off) (v:=y) hh hfz (by rw[hn,← hl,l2]) (by omega) hy1;refine ⟨_,by simp only[Instr.storeAt,Instr.sureAddr,Sem.run_bind,Sem.run_pure,Result.andThen_ok]; exact hrun,?_⟩
 have hc:Comp K G G (look st) β (look ((id,.opn E ver e l i (cs.take off++ys++cs.drop (off+ys.length)))::st)) (upd β id (β id)):=
  Comp.cons (fun _ _ h=>h) (fun ob h0=>by rw[hS] at h0; cases h0; exact ⟨fun hp=>(by cases hp),fun _ h=>h,fun ver' x' _ he=>by obtain ⟨rfl,rfl⟩:=zahd he; exact ⟨⟨e,l⟩,zaih,rfl,rfl,rfl⟩⟩)
 have hgF:∀ b∈(β id).F,b≠g:=fun b hb hbg=>a12 b hb (by simp[hvv,blkOf,hbg])
 refine hN .junk [(id, _)] undef _ G (upd β id (β id)) h (hI.one (row := some g) zadt (fun k hk => ⟨_, hS, rfl, .inl (by cases hk; simp [hvv, blkOf])⟩)
  (fun _ b' hb'=>.inl ⟨_,hS,rfl,hb'⟩) hc (fun hp=>(by cases hp)) ?_) hc (by simp only[PRel])
 have eu:upd β id (β id) id=β id:=by simp[upd]
 have hlc:(cvs.take off++y.cells.toList++cvs.drop (off+y.cells.size)).length=K.u.size e:=by
  simp only[List.length_append,List.length_take,List.length_drop,Array.length_toList];omega
 have hset:=zamd vals i (.agg cvs.toArray) (.agg (cvs.take off++y.cells.toList++cvs.drop (off+y.cells.size)).toArray) a4 a5 (by simp only[Value.cells,List.size_toArray]; exact hlc);refine ⟨vals.set i (.agg (cvs.take off++y.cells.toList++cvs.drop (off+y.cells.size)).toArray),cvs.take off++y.cells.toList++cvs.drop (off+y.cells.size),F1,F3,by rw[eu]; exact a1,a2,by simp[a3],fun z hz=>?_,?_,?_,?_,a8,?_,?_,?_,by rw[eu]; exact a12⟩
 ·rcases List.mem_or_eq_of_mem_set hz with hz|rfl
  ·exact a4 z hz
  ·simp only[Value.cells,List.size_toArray]; exact hlc
 ·rw[List.getElem?_set_self (by omega)]
 ·rw[List.take_set_of_le (Nat.le_refl _)];exact a6.over (fun _ _ h=>h) (fun b hb=>setRow_other w g b _ (hgF b (by rw[a1]; simp[hb])))
 ·rw[List.drop_set_of_lt (by omega)];exact a7.over (fun _ _ h=>h) (fun b hb=>setRow_other w g b _ (hgF b (by rw[a1]; simp[hb])))
 ·have:=(a9.splice (off:=off) hyr).over hc;simpa using this
 ·intro x hx;simp only[List.mem_append] at hx;rcases hx with (hx|hx)|hx
  ·exact a10 x (List.mem_of_mem_take hx)
  ·exact hy1 x hx
  ·exact a10 x (List.mem_of_mem_drop hx)
 ·rw[eu];have hfl:=flat_len vals a4;have hown1:=hown.1;have hfg:=flat_get vals i _ a4 a5;have hle:(i+1)*K.u.size e≤l.length*K.u.size e:=Nat.mul_le_mul_right _ (by omega);have hcl:l.length*K.u.size e≤cur.toList.length:=by rw[Array.length_toList]; exact Nat.le_trans (Nat.mul_le_mul_right _ hncap) hcs
  have hlc':=hlc;simp only[List.length_append,List.length_take,List.length_drop,Array.length_toList] at hlc';refine ⟨(flat_len (es:=K.u.size e) _ (fun z hz=>by
   rcases List.mem_or_eq_of_mem_set hz with hz|rfl
   ·exact a4 z hz
   ·simp only[Value.cells,List.size_toArray]; exact hlc)).trans (by rw[List.length_set,a3]),.inr ⟨g,cap,_,fz,hvv,?_,setRow_heap w g cur _ E fz hh,hncap,hcm,?_,?_⟩⟩
  ·have e:(cur.toList.take (i*K.u.size e+off)++y.cells.toList++cur.toList.drop (i*K.u.size e+off+y.cells.size)).toArray.size=cur.size:=by
    simp only[List.size_toArray,List.length_append,List.length_take,List.length_drop,Array.length_toList];omega
   rw[e]; exact hfz
  ·simp only[List.size_toArray,List.length_append,List.length_take,List.length_drop,Array.length_toList];omega
  ·rw[hset,← htake];have hget:=hfg;rw[← htake] at hget;have hagg:∀ m:List Value,(Value.agg m.toArray).cells.toList=m:=fun m=>by simp[Value.cells]
   rw[hagg] at hget ⊢;apply List.ext_getElem?;intro j;have hg2:∀ k,k<K.u.size e→cur.toList[i*K.u.size e+k]? = cvs[k]? := fun k hk=>by
    rw[← hget,List.getElem?_take,if_pos hk,List.getElem?_drop,List.getElem?_take,if_pos (by omega)]
   simp only[List.getElem?_take,List.getElem?_append,List.length_append,List.length_take,List.length_drop,Array.length_toList,List.getElem?_drop];simp only[Array.length_toList] at hcl;by_cases c1:j<i*K.u.size e
   ·simp (disch:=omega) only[if_pos]
   ·by_cases c2:j<i*K.u.size e+off
    ·have:=hg2 (j-i*K.u.size e) (by omega);rw[show i*K.u.size e+(j-i*K.u.size e)=j by omega] at this;simp (disch:=omega) only[if_pos,if_neg,this];congr 1;omega
    ·by_cases c3:j<i*K.u.size e+off+y.cells.size
     ·simp (disch:=omega) only[if_pos,if_neg];congr 1;omega
     ·by_cases c4:j<i*K.u.size e+K.u.size e
      ·have:=hg2 (j-i*K.u.size e) (by omega);rw[show i*K.u.size e+(j-i*K.u.size e)=j by omega] at this;simp (disch:=omega) only[if_pos,if_neg];refine (congrArg (fun k=>cur.toList[k]?) (show _=j by omega)).trans (this.trans ?_);congr 1;omega
      ·by_cases c5:j<l.length*K.u.size e
       ·simp (disch:=omega) only[if_pos,if_neg];congr 1;omega
       ·simp (disch:=omega) only[if_neg]
end
end Lift
namespace Lift
open Go Go.RowKit
structure EqOk (K:Kit):Prop where
 eq:∀ T n f,K.eqOf T n=some f→∀ (G:Nat→Option Obj) (a b:K.u.U n) (va vb:List Value),TsRel K.u G (K.u.cells n a) va→TsRel K.u G (K.u.cells n b) vb→∀ (w:World) (x y:Operand),
  (do eqGuard .eql T x y (.agg va.toArray) (.agg vb.toArray); binOp .eql T (.agg va.toArray) (.agg vb.toArray)).run K.P w=.ok (.bool (f a b)) w ∧
  (do eqGuard .neq T x y (.agg va.toArray) (.agg vb.toArray); binOp .neq T (.agg va.toArray) (.agg vb.toArray)).run K.P w=.ok (.bool (!(f a b))) w
section
variable {K:Kit} {V:Env} {B:Base} {R:Type}
variable {G:Nat→Option Obj} {S:Nat→Option (Ob K.u.U)} {st:List (Nat×Ob K.u.U)} {β:Nat→Gh} {w:World} {r:R}
theorem zajn (s:List UInt8):(⟨s.toArray⟩:ByteArray).toList=s:=by
 rw[ByteArray.toList_eq]
theorem zabq (op:BinOp) (T:TypeId) (x y:Operand) (a b:Value) (ha:a.oneCell'=true) (hi:a≠.nilIface):(eqGuard op T x y a b).run K.P w=.ok () w:=by
 unfold eqGuard;cases op<;>simp<;>cases a<;>simp_all[Value.oneCell']<;>cases b<;>simp
theorem zawh (hE:EqOk K) {op:BinOp} {T:TypeId} {p q:PV K.u.U} {c:TV K.u.U→Option R} (h:K.bin op T p q c=some r) {x y:Value} (hx:PRel K G S β p x) (hy:PRel K G S β q y) (ox oy:Operand) :
  ∃ v z,c v=some r∧TRel K.u G v z∧(do eqGuard op T ox oy x y; binOp op T x y).run K.P w=.ok z w:=by
 unfold Kit.bin at h;split at h
 ·rename_i k a k' b;simp only[PRel] at hx hy;rw[hx.int_inv,hy.int_inv];have hg:=fun op=>zabq (K:=K) (w:=w) op T ox oy (.int k a) (.int k' b) rfl (by simp)
  split at h
  ·by_cases hb:b<0
   ·simp[hb] at h
   ·simp only[hb,decide_false,cond_false] at h;refine ⟨_,_,h,.int _ _,?_⟩;simp[hg,binOp,Op.shift,hb]
  ·by_cases hb:b<0
   ·simp[hb] at h
   ·simp only[hb,decide_false,cond_false] at h;refine ⟨_,_,h,.int _ _,?_⟩;simp[hg,binOp,Op.shift,hb]
  ·rename_i hns hns2;split at h
   ·rename_i hk;subst hk;unfold zap4 at h;cases op
    case shl=>exact absurd rfl hns
    case shr=>exact absurd rfl hns2
    case quo=>
     by_cases hb:b=0
     ·simp[hb] at h
     ·have hb':(b==0)=false:=by simp[hb]
      simp only[hb',cond_false] at h;exact ⟨_,_,h,.int _ _,by simp[hg,binOp,Op.intDiv,hb]⟩
    case rem=>
     by_cases hb:b=0
     ·simp[hb] at h
     ·have hb':(b==0)=false:=by simp[hb]
      simp only[hb',cond_false] at h;exact ⟨_,_,h,.int _ _,by simp[hg,binOp,Op.intDiv,hb]⟩
    all_goals first
     |(refine ⟨_,_,h,.int _ _,?_⟩; simp only[Sem.run_bind,hg,Result.andThen_ok,binOp,ne_eq,not_true_eq_false,if_false,Op.intArith]; rfl)
     |(refine ⟨_,_,h,.int _ _,?_⟩; simp only[Sem.run_bind,hg,Result.andThen_ok,binOp,ne_eq,not_true_eq_false,if_false,Op.intBits]; rfl)
     |(refine ⟨_,_,h,.bool _,?_⟩; simp only[Sem.run_bind,hg,Result.andThen_ok,binOp,ne_eq,not_true_eq_false,if_false,Op.intCmp]; rfl)
     |cases h
   ·cases h
 ·rename_i s t;simp only[PRel] at hx hy;rw[hx.str_inv,hy.str_inv];have hg:=fun op=>zabq (K:=K) (w:=w) op T ox oy (.string ⟨s.toArray⟩) (.string ⟨t.toArray⟩) rfl (by simp)
  have e1:=zajn s;have e2:=zajn t;unfold zaqr at h;cases op
  case add=>
   simp only at h;by_cases hb:s.length+t.length≤9223372036854775807
   ·simp only[hb,decide_true,cond_true] at h;refine ⟨_,_,h,.str _,?_⟩;have hm:¬ (((⟨s.toArray⟩:ByteArray).size+(⟨t.toArray⟩:ByteArray).size:Nat):Int)>IntKind.i64.max:=by
     have:IntKind.i64.max=9223372036854775807:=by decide
     rw[this];simp[ByteArray.size];omega
    have ha:(⟨s.toArray⟩:ByteArray)++⟨t.toArray⟩=⟨(s++t).toArray⟩:=by
     apply ByteArray.ext;simp
    simp only[Sem.run_bind,hg,Result.andThen_ok,binOp,Op.stringOp,if_neg hm,Sem.run_pure,ha]
   ·simp only[hb,decide_false,cond_false] at h; cases h
  all_goals first
   |(refine ⟨_,_,h,.bool _,?_⟩; simp only[Sem.run_bind,hg,Result.andThen_ok,binOp,Op.stringOp,e1,e2]; rfl)
   |cases h
 ·rename_i a b;simp only[PRel] at hx hy;rw[hx.bool_inv,hy.bool_inv];have hg:=fun op=>zabq (K:=K) (w:=w) op T ox oy (.bool a) (.bool b) rfl (by simp)
  split at h
  ·rename_i hu;split at h
   ·exact ⟨_,_,h,.bool _,by simp only[Sem.run_bind,hg,Result.andThen_ok]; exact run_eql_bool w T a b hu⟩
   ·exact ⟨_,_,h,.bool _,by simp only[Sem.run_bind,hg,Result.andThen_ok]; exact run_neq_bool w T a b hu⟩
   ·cases h
  ·cases h
 ·rename_i n a m b;simp only[PRel] at hx hy;split at h
  ·rename_i hmn;subst hmn;obtain ⟨va,rfl,ha⟩:=hx.st_inv;obtain ⟨vb,rfl,hb⟩:=hy.st_inv;split at h
   ·rename_i f hf;exact ⟨_,_,h,.bool _,(hE.eq T _ f hf G a b va vb ha hb w ox oy).1⟩
   ·rename_i f hf;exact ⟨_,_,h,.bool _,(hE.eq T _ f hf G a b va vb ha hb w ox oy).2⟩
   ·cases h
  ·cases h
 ·cases h
theorem zaww {op:UnOp} {p:PV K.u.U} {c:TV K.u.U→Option R} (h:K.un op p c=some r) {x:Value} (hx:PRel K G S β p x) :
  ∃ v z,c v=some r∧TRel K.u G v z∧(Op.unary op x).run K.P w=.ok z w:=by
 unfold Kit.un at h;split at h
 ·simp only[PRel] at hx;rw[hx.bool_inv];exact ⟨_,_,h,.bool _,by simp[Op.unary]⟩
 ·simp only[PRel] at hx;rw[hx.int_inv];exact ⟨_,_,h,.int _ _,by simp[Op.unary,Op.intArith]⟩
 ·cases h
theorem zat2 (hE:EqOk K) {l:Bool} {op:BinOp} {T:TypeId} {p q:PV K.u.U} {c:TV K.u.U→Option R} {ox oy:Operand} (hl:l=true→(isLit ox||isLit oy)=true) (h:K.bin2 l op T p q c=some r) {x y:Value} (hx:PRel K G S β p x) (hy:PRel K G S β q y) :
  ∃ v z,c v=some r∧TRel K.u G v z∧(do eqGuard op T ox oy x y; binOp op T x y).run K.P w=.ok z w:=by
 unfold Kit.bin2 at h;split at h
 ·rename_i b;obtain ⟨rfl,_⟩:y=.nilIface∧_:=hy;have hlit:∀ o:BinOp,(eqGuard o T ox oy .nilIface .nilIface).run K.P w=.ok () w∨(isLit ox||isLit oy)=false:=by
   intro o;by_cases hq:(isLit ox||isLit oy)=true
   ·left;unfold eqGuard;cases o<;>simp<;>cases ox<;>cases oy<;>simp_all[isLit]
   ·right; simpa using hq
  split at h
  ·rename_i ms hu;have hm:K.P.underlying T=some (.interface (K.P.methodsAt T)):=by simp[Program.methodsAt,hu]
   have hl':=hl rfl;cases hx with
   |noErr=>
    refine ⟨_,_,h,.bool _,?_⟩;rcases hlit .eql with hg|hg
    ·simp only[Sem.run_bind,hg,Result.andThen_ok]; exact run_eql_nil_nil w T hm
    ·rw[hg] at hl'; cases hl'
   |anErr t v=>
    refine ⟨_,_,h,.bool _,?_⟩;simp only[Sem.run_bind,zabq (K:=K) (w:=w) .eql T ox oy (.iface t v) .nilIface rfl (by simp),Result.andThen_ok]; exact run_eql_held_nil w T t v hm
  ·rename_i ms hu;have hm:K.P.underlying T=some (.interface (K.P.methodsAt T)):=by simp[Program.methodsAt,hu]
   have hl':=hl rfl;cases hx with
   |noErr=>
    refine ⟨_,_,h,.bool _,?_⟩;rcases hlit .neq with hg|hg
    ·simp only[Sem.run_bind,hg,Result.andThen_ok]; exact run_neq_nil_nil w T hm
    ·rw[hg] at hl'; cases hl'
   |anErr t v=>
    refine ⟨_,_,h,.bool _,?_⟩;simp only[Sem.run_bind,zabq (K:=K) (w:=w) .neq T ox oy (.iface t v) .nilIface rfl (by simp),Result.andThen_ok]; exact run_neq_held_nil w T t v hm
  ·cases h
 ·exact zawh hE h hx hy ox oy
theorem zaej (w:World) (t e:TypeId) (a:Option Addr) (n c n' c':Nat) (h:K.P.underlying t=some (.slice e)) :
  (binOp .eql t (.slice a n c) (.slice none n' c')).run K.P w=.ok (.bool a.isNone) w:=by
 simp only[binOp];simp[Op.equal,Op.maxDepth,Lib.run_equalIn_slice_nil w 9999 t e a n c n' c' h]
theorem zare {l:Bool} {op:BinOp} {T:TypeId} {p q:PV K.u.U} {c:PV K.u.U→Option R} {els:Option R} {ox oy:Operand} (hl:l=true→(isLit ox||isLit oy)=true) (h:K.cmpNil l op T p q c els=some r) {x y:Value} (hx:PRel K G S β p x) (hy:PRel K G S β q y) :
  (∃ v z,c v=some r∧PRel K G S β v z∧(do eqGuard op T ox oy x y; binOp op T x y).run K.P w=.ok z w)∨els=some r:=by
 unfold Kit.cmpNil at h;split at h
 ·rename_i e s;left;obtain ⟨rfl,_⟩:y=.slice none 0 0∧_:=hy;simp only[PRel] at hx;have hs:∃ a n m,x=.slice a n m∧(s≠[]→a.isSome=true):=by
   rcases hx.slc_inv with ⟨rfl,p,rfl⟩|⟨b,off,cap,cur,T',fz,vals,rfl,_⟩
   ·exact ⟨p,0,0,rfl,fun h=>absurd rfl h⟩
   ·exact ⟨_,_,_,rfl,fun _=>rfl⟩
  obtain ⟨a,n,m,rfl,ha⟩:=hs;have hg:=fun o=>zabq (K:=K) (w:=w) o T ox oy (.slice a n m) (.slice none 0 0) rfl (by simp)
  split at h
  ·rename_i E hu;have hrun:(do eqGuard .eql T ox oy (.slice a n m) (.slice none 0 0); binOp .eql T (.slice a n m) (.slice none 0 0)).run K.P w=.ok (.bool a.isNone) w:=by
    simp only[Sem.run_bind,hg,Result.andThen_ok]; exact zaej w T E a n m 0 0 hu
   cases hs:s.isEmpty with
   |true=>rw[hs,cond_true] at h; exact ⟨_,_,h,by simp only[PRel]; exact ⟨_,rfl⟩,hrun⟩
   |false=>
    rw[hs,cond_false] at h;have hne:s≠[]:=by intro e; subst e; cases hs
    have:=ha hne;have e:a.isNone=false:=by cases a<;>simp_all
    rw[e] at hrun;exact ⟨_,_,h,by simp only[PRel]; exact .bool _,hrun⟩
  ·rename_i E hu;have hrun:(do eqGuard .neq T ox oy (.slice a n m) (.slice none 0 0); binOp .neq T (.slice a n m) (.slice none 0 0)).run K.P w=.ok (.bool (!a.isNone)) w:=by
    simp only[Sem.run_bind,hg,Result.andThen_ok]; exact run_neq_slice_nil_any w T E a n m 0 0 hu
   cases hs:s.isEmpty with
   |true=>rw[hs,cond_true] at h; exact ⟨_,_,h,by simp only[PRel]; exact ⟨_,rfl⟩,hrun⟩
   |false=>
    rw[hs,cond_false] at h;have hne:s≠[]:=by intro e; subst e; cases hs
    have:=ha hne;have e:a.isNone=false:=by cases a<;>simp_all
    rw[e] at hrun;exact ⟨_,_,h,by simp only[PRel]; exact .bool _,hrun⟩
  ·cases h
 ·left;obtain ⟨rfl,_⟩:y=.slice none 0 0∧_:=hy;obtain ⟨rfl,_⟩:x=.slice none 0 0∧_:=hx;have hg:=fun o=>zabq (K:=K) (w:=w) o T ox oy (.slice none 0 0) (.slice none 0 0) rfl (by simp)
  split at h
  ·rename_i E hu;exact ⟨_,_,h,by simp only[PRel]; exact .bool _,by simp only[Sem.run_bind,hg,Result.andThen_ok]; exact zaej w T E none 0 0 0 0 hu⟩
  ·rename_i E hu;exact ⟨_,_,h,by simp only[PRel]; exact .bool _,by simp only[Sem.run_bind,hg,Result.andThen_ok]; exact run_neq_slice_nil_any w T E none 0 0 0 0 hu⟩
  ·cases h
 ·rename_i t p';left;obtain ⟨rfl,_⟩:y=.nilIface∧_:=hy;simp only[PRel] at hx;obtain ⟨v,rfl,_⟩:=hx;split at h
  ·rename_i ms hu;have hm:K.P.underlying T=some (.interface (K.P.methodsAt T)):=by simp[Program.methodsAt,hu]
   refine ⟨_,_,h,by simp only[PRel]; exact .bool _,?_⟩;simp only[Sem.run_bind,zabq (K:=K) (w:=w) .eql T ox oy (.iface t v) .nilIface rfl (by simp),Result.andThen_ok]; exact run_eql_held_nil w T t v hm
  ·rename_i ms hu;have hm:K.P.underlying T=some (.interface (K.P.methodsAt T)):=by simp[Program.methodsAt,hu]
   refine ⟨_,_,h,by simp only[PRel]; exact .bool _,?_⟩;simp only[Sem.run_bind,zabq (K:=K) (w:=w) .neq T ox oy (.iface t v) .nilIface rfl (by simp),Result.andThen_ok]; exact run_neq_held_nil w T t v hm
  ·cases h
 ·left;obtain ⟨rfl,_⟩:y=.nilIface∧_:=hy;obtain ⟨rfl,_⟩:x=.nilIface∧_:=hx;have hlit:∀ o:BinOp,(eqGuard o T ox oy .nilIface .nilIface).run K.P w=.ok () w∨(isLit ox||isLit oy)=false:=by
   intro o;by_cases hq:(isLit ox||isLit oy)=true
   ·left;unfold eqGuard;cases o<;>simp<;>cases ox<;>cases oy<;>simp_all[isLit]
   ·right; simpa using hq
  split at h
  ·rename_i ms hu;have hm:K.P.underlying T=some (.interface (K.P.methodsAt T)):=by simp[Program.methodsAt,hu]
   have hl':=hl rfl;refine ⟨_,_,h,by simp only[PRel]; exact .bool _,?_⟩;rcases hlit .eql with hg|hg
   ·simp only[Sem.run_bind,hg,Result.andThen_ok]; exact run_eql_nil_nil w T hm
   ·rw[hg] at hl'; cases hl'
  ·rename_i ms hu;have hm:K.P.underlying T=some (.interface (K.P.methodsAt T)):=by simp[Program.methodsAt,hu]
   have hl':=hl rfl;refine ⟨_,_,h,by simp only[PRel]; exact .bool _,?_⟩;rcases hlit .neq with hg|hg
   ·simp only[Sem.run_bind,hg,Result.andThen_ok]; exact run_neq_nil_nil w T hm
   ·rw[hg] at hl'; cases hl'
  ·cases h
 ·exact .inr h
end
end Lift
namespace Lift
open Go Go.RowKit
theorem zaix {P:Program} {w:World} (t ty e:TypeId) (i:TypeInfo) (z:Value) (size:Nat) (ht:P.underlying t=some (.slice e)) (hi:P.info? e=some i) (hz:i.zero=some z)
  (hsize:i.size=size) (hzs:z.cells.size=size)
  (v:Value) (n:Nat) (xs:List Value) (hown:w.ownsZ 0 e size v n xs)
  (a:Addr) (m c:Nat) (news:List Value) (hl:news.length=m*size) (hnews:∀ j u,news[j]? = some u→w.cell? (a.add j)=some u) (h1:∀ u∈news,u.oneCell'=true)
  (h63:n+m≤maxLen) (hbytes:(n+m)*i.bytes≤140737488355328) :
  ∃ v' w',(Builtin.append_ #[t,t] ty #[v,.slice (some a) m c]).run P w=.ok v' w'∧w'.ownsZ 0 e size v' (n+m) (xs++news)∧w.grownBy w' v.ownBlock ∧
   (∀ b,blkOf v'=some b→blkOf v=some b∨w.heap.size≤b):=by
 subst hsize;have hsmall:n+m≤9223372036854775807:=by simp only[maxLen] at h63; omega
 have hlen:(xs++news).length=(n+m)*i.size:=by rw[List.length_append,hown.1,hl,Nat.add_mul]
 have grown:∀ (old:Nat),old<n+m→∀ (row:Option Nat),
   (w.drew.alloc (.cells (xs.toArray++news.toArray++Builtin.zeroCells z.cells (grownCap w (n+m) old e-(n+m))) e)).ownsZ 0 e i.size
    (.slice (some ⟨w.heap.size,0,none⟩) (n+m) (grownCap w (n+m) old e)) (n+m) (xs++news) ∧
   w.grownBy (w.drew.alloc (.cells (xs.toArray++news.toArray++Builtin.zeroCells z.cells (grownCap w (n+m) old e-(n+m))) e)) row:=by
  intro old ho row;have hge:=grownCap_ge w (n+m) old e;have hcm:grownCap w (n+m) old e≤maxLen:=grownCap_le_maxLen w (n+m) old e h63;refine ⟨⟨hlen,.inr ⟨w.heap.size,_,_,_,rfl,zahp _,heap_alloc_new w.drew _,hge,hcm,?_,?_⟩⟩,⟨rfl,rfl,rfl,by simp,fun k hk _=>heap_alloc_old w.drew _ hk⟩⟩
  ·simp only[Array.size_append,List.size_toArray,size_zeroCells,hzs,hown.1,hl,← Nat.add_mul];exact Nat.mul_le_mul_right _ (by omega)
  ·simp only[Array.toList_append,List.append_assoc];rw[← List.append_assoc,← hlen];exact List.take_left
 rcases hown.2 with ⟨rfl,rfl⟩|⟨g,cap,cur,fz,rfl,hbg,hg,hnc,hcm,hcs,htake⟩
 ·have hx:xs=[]:=List.eq_nil_of_length_eq_zero (by simpa using hown.1);subst hx;by_cases hm:m=0
  ·subst hm;have hn:news=[]:=List.eq_nil_of_length_eq_zero (by simpa using hl);subst hn;refine ⟨.slice none 0 0,w,?_,World.ownsZ_nil w 0 e i.size,⟨rfl,rfl,rfl,Nat.le_refl _,fun _ _ _=>rfl⟩,fun b hb=>by simp[blkOf] at hb⟩;simp[Builtin.append_,run_underlying ht,Go.sizeOf,typeInfo,hi,Builtin.lenOf,Builtin.firstCells,loadCells,loadCellsFrom]
  ·have hr:=run_append_nil (P:=P) w t ty e i z ht hi hz a m c news hl hnews (by omega) (by omega) (by have hb:=hbytes; simp only[Nat.zero_add] at hb; omega);have hgr:=grown 0 (by omega) (Value.ownBlock (.slice none 0 0));simp only[Nat.zero_add,List.nil_append,Array.empty_append] at hgr ⊢;exact ⟨_,_,hr,hgr.1,hgr.2,fun b hb=>.inr (by simp[blkOf] at hb; omega)⟩
 ·by_cases hroom:n+m≤cap
  ·have hfit:n*i.size+news.length≤cur.size:=by rw[hl,← Nat.add_mul]; exact Nat.le_trans (Nat.mul_le_mul_right _ hroom) hcs
   have hr:=zame (P:=P) w t ty e i ht hi g n cap cur fz hg hbg a m c news hl hnews h1 hroom hfit;refine ⟨_,_,hr,⟨hlen,.inr ⟨g,cap,_,fz,rfl,?_,setRow_heap w g cur _ e _ hg,hroom,hcm,?_,?_⟩⟩,⟨rfl,rfl,rfl,by simp,fun k _ hk=>setRow_other w g k _ (fun e=>hk (by simp[Value.ownBlock,e]))⟩,fun b hb=>.inl hb⟩
   ·have ee:(cur.toList.take (n*i.size)++news++cur.toList.drop (n*i.size+news.length)).toArray.size=cur.size:=by
     simp only[List.size_toArray,List.length_append,List.length_take,List.length_drop,Array.length_toList];omega
    rw[ee]; exact hbg
   ·simp only[List.size_toArray,List.length_append,List.length_take,List.length_drop,Array.length_toList];omega
   ·rw[htake,← hlen];exact List.take_left
  ·have holds:∀ j u,xs[j]? = some u→w.cell? ((⟨g,0,none⟩:Addr).add j)=some u:=hown.cells (g:=g) rfl;have hr:=run_append_grow (P:=P) w t ty e i z ht hi hz ⟨g,0,none⟩ n cap xs hown.1 holds a m c news hl hnews (by omega) (by omega) (growslice_fits (by omega) hbytes);have hgr:=grown cap (by omega) (Value.ownBlock (.slice (some ⟨g,0,none⟩) n cap));exact ⟨_,_,hr,hgr.1,hgr.2,fun b hb=>.inr (by simp[blkOf] at hb; omega)⟩
section
variable {K:Kit} {V:Env} {B:Base} {R:Type}
variable {G:Nat→Option Obj} {S:Nat→Option (Ob K.u.U)} {st:List (Nat×Ob K.u.U)} {β:Nat→Gh} {w w':World} {c:PV K.u.U→Ups K.u.U→Option R} {r:R} {N:Value→World→Prop}
theorem Inv.block_lt (hI:Inv K V B G S β w) {i:Nat} {ob:Ob K.u.U} {b:Nat} (hi:S i=some ob) (hl:ob.live=true) (hb:ob.has (β i) b):b<w.heap.size:=
 (hI.obs i ob hi).lt hl hb
theorem zau2 {u:Uni} {G:Nat→Option Obj} {e:Ty} {l:List (e.den u.U)} {v:Value} (h:TRel u G ⟨.slc e,l⟩ v):TRel u G ⟨.slc (e.plain u.pn),zacw u e l⟩ v:=by
 rcases h.slc_inv with ⟨e0,p,rfl⟩|⟨b,off,cap,cur,T,fz,vals,rfl,hc,hG,hT,hL⟩
 ·subst e0;have:zacw u e []=[]:=List.eq_nil_of_length_eq_zero (by rw[zabc]; rfl);rw[this];exact .nil _ _
 ·rw[← zabc u e l];refine .slc _ _ b off cap cur T fz vals (by simpa using hc) hG ?_ (by rw[u.size_plain]; exact hL);have:=HsRel.settle (h:=fun _=>none) (fun _ _ h=>h) (HsRel.ofTsL hT) (fun b hb=>by cases hb);rw[zamc] at this;rw[zakm];exact this
theorem zamm {U:Nat→Type} {o:Ob U} {x:(k:Ty)×(e:Ty)×List (k.den U×e.den U)} (h:o.mapOf=some x):o=.mp x.1 x.2.1 x.2.2∨o=.fmp x.1 x.2.1 x.2.2:=by
 cases o with
 |mp k e l=>cases h; exact .inl rfl
 |fmp k e l=>cases h; exact .inr rfl
 |_=>cases h
theorem Inv.rowsSettled (hI:Inv K V B G S β w) (ids:List Nat):zarm K (Lift.settle K G S β w ids) S β (fun id=>id∈ids):=by
 have hG:∀ k o,G k=some o→Lift.settle K G S β w ids k=some o:=fun k o hk=>by
  rcases zafm (K:=K) (G:=G) (S:=S) (β:=β) (w:=w) (ids:=ids) (k:=k) with ⟨h,_⟩|h
  ·rw[h]; exact hI.gok k o hk
  ·rw[h]; exact hk
 refine ⟨fun id ob ver x hm hS hn=>?_,fun id ob x hm hS hn=>?_⟩
 ·rcases zahf hn with ⟨T,rfl⟩|rfl
  ·exact zak7 (hI.obs id _ hS) hG (fun b hb=>zaml hm hS hb)
  ·exact TRel.mono hG (zau2 (show TRel K.u G ⟨.slc x.1,x.2⟩ (β id).v from hI.obs id _ hS))
 ·rcases zamm hn with rfl|rfl
  ·obtain ⟨b,es,clock,g1,g2,g3,g4⟩:=hI.obs id _ hS;rw[g1];exact .map _ _ _ b es clock ((zai4 hm hS rfl (.inl (by simp[g1,blkOf]))).trans g2) (TsRel.mono hG g3) (TsRel.mono hG g4)
  ·exact TRel.mono hG (show TRel K.u G ⟨.map x.1 x.2.1,x.2.2⟩ (β id).v from hI.obs id _ hS)
theorem zak8 {G' h':Nat→Option Obj} {F:List Nat} {e:Ty} {l:List (e.den K.u.U)} {vals:List Value} {b off:Nat} {cur:Array Value} {T:TypeId} {fz:Nat×Nat} (hh:w.heap[b]? = some (.cells cur T fz)) (hT:HsRel K.u G' h' F (l.map (TV.mk e)) vals) (hL:Laid cur off (K.u.size e) vals) :
  (∀ j u, (vals.flatMap fun x => x.cells.toList)[j]? = some u → w.cell? ⟨b, off + j, none⟩ = some u) ∧ (vals.flatMap fun x => x.cells.toList).length = l.length * K.u.size e ∧
   (∀ u∈(vals.flatMap fun x=>x.cells.toList),u.oneCell'=true):=by
 ·refine ⟨fun j u hj=>?_,?_,zaxj _ (fun z hz x hx=>?_)⟩
  ·rw[zado hh];have hsz:=hT.sizes;by_cases h0:K.u.size e=0
   ·have:=flat_len vals hsz;rw[h0,Nat.mul_zero] at this;rw[List.eq_nil_of_length_eq_zero this] at hj;simp at hj
   ·rw[Go.Great.flat_get (Nat.pos_of_ne_zero h0) vals hsz] at hj;simp only[Option.bind_eq_some_iff] at hj;obtain ⟨x,hx1,hx2⟩:=hj;have:=(hL _ x hx1).2 _ u hx2;rw[Nat.add_assoc,Nat.mul_comm,Nat.div_add_mod] at this;exact this
  ·rw[flat_len vals hT.sizes];have:=hT.length;simp at this;rw[this]
  ·obtain ⟨d,_,F',hr⟩:=hT.mem hz;exact hr.cells_oneCell hx
theorem zamu {G':Nat→Option Obj} {e:Ty} {l:List (e.den K.u.U)} {vals:List Value} {b off:Nat} {cur:Array Value} {T:TypeId} {fz:Nat×Nat} (hh:w.heap[b]? = some (.cells cur T fz)) (hT:TsRel K.u G' (l.map (TV.mk e)) vals) (hL:Laid cur off (K.u.size e) vals) :
  (∀ j u, (vals.flatMap fun x => x.cells.toList)[j]? = some u → w.cell? ⟨b, off + j, none⟩ = some u) ∧ (vals.flatMap fun x => x.cells.toList).length = l.length * K.u.size e ∧
   (∀ u∈(vals.flatMap fun x=>x.cells.toList),u.oneCell'=true):=zak8 (h':=fun _=>none) hh (.ofTsL hT) hL
theorem zasl {G':Nat→Option Obj} {e:Ty} {l:List (e.den K.u.U)} {v:Value} (hok:∀ k o,G' k=some o→w.heap[k]? = some o) (h:TRel K.u G' ⟨.slc e,l⟩ v) :
  (l=[]∧∃ p,v=.slice p 0 0)∨∃ b off cap vals,v=.slice (some ⟨b,off,none⟩) l.length cap∧l.length≤cap∧TsRel K.u G' (l.map (TV.mk e)) vals ∧
   (∀ j u,(vals.flatMap fun x=>x.cells.toList)[j]? = some u→w.cell? ⟨b,off+j,none⟩=some u)∧(vals.flatMap fun x=>x.cells.toList).length=l.length*K.u.size e ∧
   (∀ u∈(vals.flatMap fun x=>x.cells.toList),u.oneCell'=true):=by
 rcases h.slc_inv with h|⟨b,off,cap,cur,T,fz,vals,hv,hc,hG,hT,hL⟩
 ·exact .inl h
 ·exact .inr ⟨b,off,cap,vals,hv,hc,hT,zamu (hok _ _ hG) hT hL⟩
theorem zahu (hI:Inv K V B G (look st) β w) {e e':Ty} {m:List (e'.den K.u.U)} {q:PV K.u.U} {y:Value} (hq:q.deepRow K.u (look st)=none) (h:q.asOwn K.u (look st) (.slc e)=some ⟨.slc e',m⟩) (hy:PRel K G (look st) β q y) :
  e'=e∧((m=[]∧∃ p,y=.slice p 0 0)∨∃ b off cap vals,y=.slice (some ⟨b,off,none⟩) m.length cap∧m.length≤cap∧TsRel K.u G (m.map (TV.mk e')) vals ∧
   (∀ j u,(vals.flatMap fun x=>x.cells.toList)[j]? = some u→w.cell? ⟨b,off+j,none⟩=some u)∧(vals.flatMap fun x=>x.cells.toList).length=m.length*K.u.size e' ∧
   (∀ u∈(vals.flatMap fun x=>x.cells.toList),u.oneCell'=true)):=by
 unfold PV.asOwn at h;split at h
 ·rename_i id ver;split at h
  ·rename_i e2 l hS;split at h
   ·rename_i he;simp only[Option.some.injEq,TV.mk.injEq,Ty.slc.injEq] at h;obtain ⟨rfl,hl⟩:=h;have hl:=eq_of_heq hl;subst hl;refine ⟨by simpa using he,?_⟩;simp only[PRel] at hy;obtain ⟨_,ob,h1,_,h2⟩:=hy;rw[h1,Option.bind_some] at hS;rw[h2 _ (zanz hS)];obtain ⟨vals,F,hT,hFF,hFz,hc⟩:=zaow hI h1 hS;have hT':TsRel K.u G ((zacw K.u e2 l).map (TV.mk (e2.plain K.u.pn))) vals:=by
     refine zajw hT (fun _ _ h=>h) (fun b hb=>?_);have hF:F=[]:=by
      rcases zahf hS with ⟨T,rfl⟩|rfl
      ·have hp:K.u.plainTy e2=true:=by
        cases hp:K.u.plainTy e2 with
        |true=>rfl
        |false=>simp[PV.deepRow,h1,hp] at hq
       exact (hT.toTsL hp).1
      ·exact hFz rfl
     rw[hF] at hb;cases hb
    rcases hc with ⟨hv,hn⟩|⟨g,off,cap,hv,hcap,cur,T0,fz,hh,hL⟩
    ·refine .inl ⟨?_,hn⟩;have hv:l=[]:=hv;subst hv;exact List.eq_nil_of_length_eq_zero (by rw[zabc]; rfl)
    ·refine .inr ⟨g,off,cap,vals,?_,?_,hT',?_⟩
     ·rw[zabc]; exact hv
     ·rw[zabc]; exact hcap
     ·exact zamu hh hT' (by rw[K.u.size_plain]; exact hL)
   ·cases h
  ·cases h
 ·split at h
  ·split at h
   ·rename_i hh; cases hh
   ·cases h
  ·cases h
 ·obtain ⟨i1,i2⟩:=zabw h hy;exact ⟨by simpa using i2,zasl hI.gok i1⟩
theorem zaee (hN:Next K V B G st β c r N) (hI:Inv K V B G (look st) β w) {id ver:Nat} {E:TypeId} {e:Ty} {l m:List (e.den K.u.U)} {v:Value} {ids F0:List Nat}
  {vals:List Value} (hT:HsRel K.u G (fun k=>w.heap[k]?) F0 (l.map (TV.mk e)) vals) (hown:w.ownsZ 0 E (K.u.size e) v l.length (vals.flatMap fun x=>x.cells.toList)) (hF0:∀ b∈F0,blkOf v≠some b)
  (hold:(look st id=none∧v=.slice none 0 0∧F0=[])∨∃ ver0 e0 l0,look st id=some (.row E ver0 e0 l0)∧ver0<ver∧(β id).v=v∧F0=(β id).F) (hids:id∉ids)
  (h : c (.oslc id ver) ((id, .row E ver e (l ++ m)) :: deads K.u.U ids) = some r) : ∀ v' w' valm Fm, HsRel K.u G (fun k => w.heap[k]?) Fm (m.map (TV.mk e)) valm → (∀ b ∈ Fm, zabm st β ids b) →
   w'.ownsZ 0 E (K.u.size e) v' (l.length+m.length) ((vals.flatMap fun x=>x.cells.toList)++(valm.flatMap fun x=>x.cells.toList)) →
   w.grownBy w' v.ownBlock→(∀ b,blkOf v'=some b→blkOf v=some b∨w.heap.size≤b)→N v' w':=by
 intro v' w' valm Fm hTm hFm ho hg hbk;have hc:Comp K G G (look st) β (look ((id,.row E ver e (l++m))::(deads K.u.U ids++st))) (upd β id ⟨v',F0++Fm⟩):=Comp.consD (fun _ _ h=>h) (fun ob0 h0=>by
  rcases hold with ⟨h1,_⟩|⟨ver0,e0,l0,h1,h2,h3⟩
  ·rw[h1] at h0; cases h0
  ·rw[h1] at h0;cases h0;refine ⟨(fun hp=>by cases hp),(fun u hu=>?_),(fun ver' x' hm he=>?_)⟩
   ·simp only[Ob.may] at hu ⊢; omega
   ·obtain ⟨rfl,rfl⟩:=zadp he; simp only[Ob.may] at hm; omega)
 have vb:blkOf v=v.ownBlock:=zaeq hown;have live:∀ k,v.ownBlock=some k→∃ ob,look st id=some ob∧ob.live=true∧ob.has (β id) k:=fun k hk=>by
  rcases hold with ⟨_,h2,_⟩|⟨ver0,e0,l0,h1,_,h3,_⟩
  ·rw[h2] at hk; cases hk
  ·exact ⟨_,h1,rfl,.inl (by rw[h3,vb]; exact hk)⟩
 have hFm2:∀ b∈Fm,b∉F0∧blkOf v≠some b:=fun b hb=>by
  obtain ⟨j,ob,j1,j2,j3,j4⟩:=hFm b hb;rcases hold with ⟨_,h2,h3⟩|⟨ver0,e0,l0,h1,_,h3,h4⟩
  ·rw[h3];exact ⟨fun hb=>(by cases hb),by rw[h2]; simp[blkOf]⟩
  ·refine ⟨fun hbF=>hids ?_,fun hbv=>hids ?_⟩
   ·have:=hI.inj j id ob _ b j2 h1 j3 rfl j4 (.inr ⟨rfl,h4▸hbF⟩);exact this▸j1
   ·have:=hI.inj j id ob _ b j2 h1 j3 rfl j4 (.inl (h3▸hbv));exact this▸j1
 have hlt:∀ b∈F0++Fm,b<w.heap.size∧some b≠v.ownBlock:=fun b hb=>by
  rcases List.mem_append.1 hb with hb|hb
  ·obtain ⟨o,ho⟩:=hT.lies b hb;have ho:w.heap[b]? = some o:=ho;exact ⟨(Array.getElem?_eq_some_iff.1 ho).1,fun h=>hF0 b hb (by rw[vb]; exact h.symm)⟩
  ·obtain ⟨o,ho⟩:=hTm.lies b hb;have ho:w.heap[b]? = some o:=ho;exact ⟨(Array.getElem?_eq_some_iff.1 ho).1,fun h=>(hFm2 b hb).2 (by rw[vb]; exact h.symm)⟩
 refine hN _ ((id,_)::deads K.u.U ids) v' w' G (upd β id ⟨v',F0++Fm⟩) h (hI.oneD hg (fun k hk=>?_) (fun _ b hb'=>?_) hc (fun hp=>by cases hp) ?_) hc ?_
 ·obtain ⟨ob,h1⟩:=live k hk;exact ⟨id,ob,.inl rfl,h1⟩
 ·rcases hb' with hb'|⟨_,hb'⟩
  ·rcases hbk b hb' with hv|hv
   ·obtain ⟨ob,h1⟩:=live b (by rw[← vb]; exact hv);exact .inl ⟨id,ob,.inl rfl,h1⟩
   ·exact .inr hv
  ·rcases List.mem_append.1 hb' with hb'|hb'
   ·rcases hold with ⟨_,_,h3⟩|⟨ver0,e0,l0,h1,_,h3,h4⟩
    ·rw[h3] at hb'; cases hb'
    ·exact .inl ⟨id,_,.inl rfl,h1,rfl,.inr ⟨rfl,h4▸hb'⟩⟩
   ·obtain ⟨j,ob,j1,j2⟩:=hFm b hb';exact .inl ⟨j,ob,.inr j1,j2⟩
 ·have eu:upd β id ⟨v',F0++Fm⟩ id=⟨v',F0++Fm⟩:=by simp[upd]
  show ∃ vals,_;rw[eu];refine ⟨vals++valm,?_,?_,fun b hb hbv=>?_⟩
  ·rw[List.map_append];exact (hT.append hTm (fun b hb hb'=>(hFm2 b hb').1 hb)).over (fun _ _ h=>h) (fun b hb=>hg.block b (hlt b hb).1 (hlt b hb).2)
  ·rw[List.flatMap_append,List.length_append];exact ho
  ·rcases hbk b hbv with hv|hv
   ·exact (hlt b hb).2 (by rw[← vb]; exact hv.symm)
   ·have:=(hlt b hb).1; omega
 ·simp only[PRel];refine ⟨?_,_,zabg,Nat.le_refl _,fun _ _=>by simp[upd]⟩;rcases ho.2 with ⟨hv,_⟩|⟨_,_,_,_,hv,_⟩<;>(rw[hv]; rfl)
theorem zafo (hN:Next K V B G st β c r N) (hI:Inv K V B G (look st) β w) {id ver:Nat} {T ty E:TypeId} {e:Ty} {l m:List (e.den K.u.U)} {i:TypeInfo} {v y:Value} {ids F0 Fm:List Nat}
  (hu:K.P.underlying T=some (.slice E)) (hi:K.P.info? E=some i) (hs1:i.size=K.u.size e) (hs3:(i.zero.map fun z=>z.cells.size)=some i.size)
  (hb:(l.length+m.length)*i.bytes≤zaa9) (hb2:l.length+m.length≤maxLen)
  {vals:List Value} (hT:HsRel K.u G (fun k=>w.heap[k]?) F0 (l.map (TV.mk e)) vals) (hown:w.ownsZ 0 E (K.u.size e) v l.length (vals.flatMap fun x=>x.cells.toList)) (hF0:∀ b∈F0,blkOf v≠some b)
  (hy : (m = [] ∧ ∃ p, y = .slice p 0 0) ∨ ∃ b off cap valm, y = .slice (some ⟨b, off, none⟩) m.length cap ∧ m.length ≤ cap ∧ HsRel K.u G (fun k => w.heap[k]?) Fm (m.map (TV.mk e)) valm ∧
   (∀ j u,(valm.flatMap fun x=>x.cells.toList)[j]? = some u→w.cell? ⟨b,off+j,none⟩=some u)∧(valm.flatMap fun x=>x.cells.toList).length=m.length*K.u.size e ∧
   (∀ u∈(valm.flatMap fun x=>x.cells.toList),u.oneCell'=true)) (hFm:∀ b∈Fm,zabm st β ids b)
  (hold:(look st id=none∧v=.slice none 0 0∧F0=[])∨∃ ver0 e0 l0,look st id=some (.row E ver0 e0 l0)∧ver0<ver∧(β id).v=v∧F0=(β id).F) (hids:id∉ids)
  (h:c (.oslc id ver) ((id,.row E ver e (l++m))::deads K.u.U ids)=some r):∃ v' w',(Builtin.append_ #[T,T] ty #[v,y]).run K.P w=.ok v' w'∧N v' w':=by
 simp only[Option.map_eq_some_iff] at hs3;obtain ⟨z,hz1,hz2⟩:=hs3;have main:=zaee (m:=m) hN hI hT hown hF0 hold hids h;rcases hy with ⟨rfl,p,rfl⟩|⟨b,off,cap,valm,rfl,hcap,hTm,hcell,hlen,hone⟩
 ·cases p with
  |none=>
   refine ⟨v,w,zah0 (P:=K.P) 0 T ty E i (K.u.size e) hu hi v l.length _ hown,?_⟩;exact main v w [] [] (by simpa using HsRel.nil) (fun b hb=>by cases hb) (by simpa using hown) ⟨rfl,rfl,rfl,Nat.le_refl _,fun _ _ _=>rfl⟩ (fun b hb=>.inl hb)
  |some a=>
   obtain ⟨v', w', h1, h2, h3, h4⟩ := zaix (P := K.P) (w := w) T ty E i z (K.u.size e) hu hi hz1 hs1 (hz2.trans hs1) v l.length _ hown a 0 0 [] (by simp)
    (fun j u hj=>by simp at hj) (by simp) hb2 (by simpa [zaa9] using hb)
   exact ⟨v',w',h1,main v' w' [] [] (by simpa using HsRel.nil) (fun b hb=>by cases hb) (by simpa using h2) h3 h4⟩
 ·obtain ⟨v', w', h1, h2, h3, h4⟩ := zaix (P := K.P) (w := w) T ty E i z (K.u.size e) hu hi hz1 hs1 (hz2.trans hs1) v l.length _ hown ⟨b, off, none⟩ m.length cap (valm.flatMap fun x => x.cells.toList) hlen
   (fun j u hj=>by rw[zaca]; exact hcell j u hj) hone hb2 (by simpa [zaa9] using hb)
  exact ⟨v',w',h1,main v' w' valm Fm hTm hFm h2 h3 h4⟩
theorem zahx {u:Uni} {G:Nat→Option Obj}:∀ s:List UInt8,TsRel u G ((ofStr s).map (TV.mk (.int .u8))) (Go.Lib.strCells ⟨s.toArray⟩)
 |[]=>.nil
 |b::s=>by
  have h:=zahx (u:=u) (G:=G) s;unfold Go.Lib.strCells ofStr at h ⊢;simp only[List.map_cons];exact .cons _ _ _ _ (.int _ _) h
theorem zal1 (s:ByteArray):((Go.Lib.strCells s).flatMap fun x=>x.cells.toList)=Go.Lib.strCells s:=by
 unfold Go.Lib.strCells;induction s.data.toList with
 |nil=>rfl
 |cons b l ih=>simp only[List.map_cons,List.flatMap_cons,ih]; rfl
theorem zaft {P:Program} {w:World} (t u ty e:TypeId) (i:TypeInfo) (z:Value) (ht:P.underlying t=some (.slice e)) (hu:P.underlying u=some .string) (hi:P.info? e=some i) (hz:i.zero=some z)
  (hsize:i.size=1) (hby:i.bytes=1) (hzs:z.cells.size=1)
  (v:Value) (n:Nat) (xs:List Value) (hown:w.ownsZ 0 e 1 v n xs) (s:ByteArray)
  (h63:n+s.size≤maxLen) (hbytes:n+s.size≤140737488355328) :
  ∃ v' w',(Builtin.append_ #[t,u] ty #[v,.string s]).run P w=.ok v' w'∧w'.ownsZ 0 e 1 v' (n+s.size) (xs++Go.Lib.strCells s)∧w.grownBy w' v.ownBlock ∧
   (∀ b,blkOf v'=some b→blkOf v=some b∨w.heap.size≤b):=by
 have hsmall:n+s.size≤9223372036854775807:=by simp only[maxLen] at h63; omega
 have hsl:=Go.Lib.strCells_length s;have hx1:xs.length=n:=by simpa using hown.1
 have hlen:(xs++Go.Lib.strCells s).length=(n+s.size)*1:=by rw[List.length_append,hx1,hsl,Nat.mul_one]
 have grown:∀ (old:Nat),old<n+s.size→∀ (row:Option Nat),
   (w.drew.alloc (.cells (xs.toArray++(Go.Lib.strCells s).toArray++Builtin.zeroCells z.cells (grownCap w (n+s.size) old e-(n+s.size))) e)).ownsZ 0 e 1
    (.slice (some ⟨w.heap.size,0,none⟩) (n+s.size) (grownCap w (n+s.size) old e)) (n+s.size) (xs++Go.Lib.strCells s) ∧
   w.grownBy (w.drew.alloc (.cells (xs.toArray++(Go.Lib.strCells s).toArray++Builtin.zeroCells z.cells (grownCap w (n+s.size) old e-(n+s.size))) e)) row:=by
  intro old ho row;have hge:=grownCap_ge w (n+s.size) old e;have hcm:grownCap w (n+s.size) old e≤maxLen:=grownCap_le_maxLen w (n+s.size) old e h63;refine ⟨⟨hlen,.inr ⟨w.heap.size,_,_,_,rfl,zahp _,heap_alloc_new w.drew _,hge,hcm,?_,?_⟩⟩,⟨rfl,rfl,rfl,by simp,fun k hk _=>heap_alloc_old w.drew _ hk⟩⟩
  ·simp only[Array.size_append,List.size_toArray,size_zeroCells,hzs,hx1,hsl,Nat.mul_one];omega
  ·simp only[Array.toList_append,List.append_assoc];rw[← List.append_assoc,← hlen];exact List.take_left
 rcases hown.2 with ⟨rfl,rfl⟩|⟨g,cap,cur,fz,rfl,hbg,hg,hnc,hcm,hcs,htake⟩
 ·have hx:xs=[]:=List.eq_nil_of_length_eq_zero (by simpa using hown.1);subst hx;by_cases hm:s.size=0
  ·have hn:Go.Lib.strCells s=[]:=List.eq_nil_of_length_eq_zero (by rw[hsl,hm]);refine ⟨.slice none 0 0,w,?_,by rw[hn,hm]; exact World.ownsZ_nil w 0 e 1,⟨rfl,rfl,rfl,Nat.le_refl _,fun _ _ _=>rfl⟩,fun b hb=>by simp[blkOf] at hb⟩;have hsd:s=⟨#[]⟩:=by
    cases s with
    |mk d=>
     congr 1;exact Array.eq_empty_of_size_eq_zero hm
   subst hsd;simp[Builtin.append_,run_underlying ht,run_underlying hu,Go.sizeOf,Go.typeInfo,hi,Builtin.lenOf,Builtin.firstCells,loadCells,loadCellsFrom];exact if_pos (c:=(⟨#[]⟩:ByteArray)=ByteArray.empty) rfl
  ·have hr:=run_append_nil_string (P:=P) w t u ty e i z ht hu hi hz s (by omega) (by omega) (by rw[hby]; omega);have hgr:=grown 0 (by omega) (Value.ownBlock (.slice none 0 0));have hcells:(s.data.map (fun b=>Value.int .u8 b.toNat))=(Go.Lib.strCells s).toArray:=by
    unfold Go.Lib.strCells;apply Array.ext';simp
   rw[hcells] at hr;simp only[Nat.zero_add,List.nil_append,Array.empty_append] at hgr ⊢;exact ⟨_,_,hr,hgr.1,hgr.2,fun b hb=>.inr (by simp[blkOf] at hb; omega)⟩
 ·by_cases hroom:n+s.size≤cap
  ·have hfit:n+s.size≤cur.size:=by omega
   have hr:=zahg (P:=P) w t u ty e i ht hu hi hsize g n cap cur fz hg hbg s hroom hfit;refine ⟨_,_,hr,⟨hlen,.inr ⟨g,cap,_,fz,rfl,?_,setRow_heap w g cur _ e _ hg,hroom,hcm,?_,?_⟩⟩,⟨rfl,rfl,rfl,by simp,fun k _ hk=>setRow_other w g k _ (fun e=>hk (by simp[Value.ownBlock,e]))⟩,fun b hb=>.inl hb⟩
   ·have ee:(cur.toList.take n++Go.Lib.strCells s++cur.toList.drop (n+s.size)).toArray.size=cur.size:=by
     simp only[List.size_toArray,List.length_append,List.length_take,List.length_drop,Array.length_toList,hsl];omega
    rw[ee]; exact hbg
   ·simp only[List.size_toArray,List.length_append,List.length_take,List.length_drop,Array.length_toList,hsl];omega
   ·rw[Nat.mul_one] at htake;rw[htake,← hlen];exact List.take_left
  ·have holds:∀ j u,xs[j]? = some u→w.cell? ((⟨g,0,none⟩:Addr).add j)=some u:=hown.cells (g:=g) rfl
   have hr:=Go.Lib.run_append_grow_string (P:=P) w t u ty e i z ht hu hi hz ⟨g,0,none⟩ n cap xs (by rw[hsize,Nat.mul_one]; exact hx1) holds s (by omega) (by omega) (by
    have:=growslice_fits (bytes:=1) (show cap<n+s.size by omega) (by omega);rw[hby]; exact this)
   have hgr:=grown cap (by omega) (Value.ownBlock (.slice (some ⟨g,0,none⟩) n cap));exact ⟨_,_,hr,hgr.1,hgr.2,fun b hb=>.inr (by simp[blkOf] at hb; omega)⟩
theorem zapq (hN:Next K V B G st β c r N) (hI:Inv K V B G (look st) β w) {d:Nat} {argT:Array TypeId} {ty:TypeId} {p:PV K.u.U} {s:List UInt8} (h:K.appendS d (look st) argT p s c=some r)
  {x:Value} (hx:PRel K G (look st) β p x):∃ v w',(Builtin.append_ argT ty #[x,.string ⟨s.toArray⟩]).run K.P w=.ok v w'∧N v w':=by
 have hsz:(⟨s.toArray⟩:ByteArray).size=s.length:=by simp[ByteArray.size]
 have hol:(ofStr s).length=s.length:=by simp[ofStr]
 unfold Kit.appendS at h;split at h
 ·rename_i T T' hargs;have harg:argT=#[T,T']:=by rw[← Array.toArray_toList (xs:=argT),hargs]
  subst harg;split at h
  ·rename_i E hu hu';split at h
   ·rename_i i _ hi;split at h
    ·split at h
     ·rename_i hd;split at h
      ·rename_i hs;obtain ⟨hs1,hs2,hs3⟩:=hs;simp only[Option.map_eq_some_iff] at hs3;obtain ⟨z,hz1,hz2⟩:=hs3;by_cases hb:s.length≤zaa9∧s.length≤maxLen
       ·simp only[hb,decide_true,cond_true,and_self] at h;simp only[PRel] at hx;obtain ⟨rfl,_⟩:=hx;obtain ⟨v',w',h1,h2,h3,h4⟩:=zaft (P:=K.P) (w:=w) T T' ty E i z hu hu' hi hz1 hs1 hs2 hz2 (.slice none 0 0) 0 [] (World.ownsZ_nil _ _ _ _) ⟨s.toArray⟩ (by rw[hsz]; omega) (by have h9:=hb.1; unfold zaa9 at h9; rw[hsz]; omega);refine ⟨v',w',h1,zaee (e:=.int .u8) (l:=[]) (m:=ofStr s) (vals:=[]) (ids:=[]) (F0:=[]) hN hI .nil (World.ownsZ_nil _ _ _ _) (fun b hb=>by cases hb) (.inl ⟨hd,rfl,rfl⟩) (by simp) (by simpa [deads] using h) v' w' _ [] (.ofTsL (zahx s)) (fun b hb=>by cases hb) ?_ h3 h4⟩;rw[zal1];simpa [hol,hsz,Uni.size] using h2
       ·simp only[hb,decide_false,cond_false] at h; cases h
      ·cases h
     ·cases h
    ·rename_i id ver;split at h
     ·rename_i E' v l hS;split at h
      ·rename_i hs;obtain ⟨rfl,rfl,hs1,hs2,hs3⟩:=hs;simp only[Option.map_eq_some_iff] at hs3;obtain ⟨z,hz1,hz2⟩:=hs3;by_cases hb:l.length+s.length≤zaa9∧l.length+s.length≤maxLen
       ·simp only[hb,decide_true,cond_true,and_self] at h;simp only[PRel] at hx;obtain ⟨_,ob,h1,_,h2⟩:=hx;rw[hS] at h1;cases h1;have hxv:=h2 _ zab3;obtain ⟨vals,hT,hown,hap⟩:=hI.obs id _ hS;rw[hxv];obtain ⟨v',w',h1,h2,h3,h4⟩:=zaft (P:=K.P) (w:=w) T T' ty E' i z hu hu' hi hz1 hs1 hs2 hz2 (β id).v l.length _ hown ⟨s.toArray⟩ (by rw[hsz]; exact hb.2) (by have h9:=hb.1; unfold zaa9 at h9; rw[hsz]; omega);refine ⟨v',w',h1,zaee (e:=.int .u8) (l:=l) (m:=ofStr s) (ids:=[]) hN hI hT hown hap (.inr ⟨_,_,_,hS,Nat.lt_succ_self _,rfl,rfl⟩) (by simp) h v' w' _ [] (.ofTsL (zahx s)) (fun b hb=>by cases hb) ?_ h3 h4⟩;rw[zal1,hol];rw[hsz] at h2;exact h2
       ·simp only[hb,decide_false,cond_false] at h; cases h
      ·cases h
     ·cases h
    ·cases h
   ·cases h
  ·cases h
 ·cases h
theorem zapk (hN:Next K V B G st β c r N) (hI:Inv K V B G (look st) β w) {d:Nat} {argT:Array TypeId} {ty:TypeId} {p q:PV K.u.U} (hq:q.deepRow K.u (look st)=none) (h:K.appendP d (look st) argT p q c=some r)
  {x y:Value} (hx:PRel K G (look st) β p x) (hy:PRel K G (look st) β q y):∃ v w',(Builtin.append_ argT ty #[x,y]).run K.P w=.ok v w'∧N v w':=by
 unfold Kit.appendP at h;split at h
 ·rename_i T T' hargs;have harg:argT=#[T,T']:=by rw[← Array.toArray_toList (xs:=argT),hargs]
  split at h
  ·rename_i E hT hu;have hT:T'=T:=by simpa using hT
   subst hT;subst harg;split at h
   ·rename_i e i _ hi;split at h
    ·rename_i e' m hm;split at h
     ·rename_i he;subst he;simp only at h;obtain ⟨_,hyS⟩:=zahu hI hq hm hy
      have hyS : (m = [] ∧ ∃ p, y = .slice p 0 0) ∨ ∃ b off cap valm, y = .slice (some ⟨b, off, none⟩) m.length cap ∧ m.length ≤ cap ∧ HsRel K.u G (fun k => w.heap[k]?) [] (m.map (TV.mk e')) valm ∧
        (∀ j u,(valm.flatMap fun x=>x.cells.toList)[j]? = some u→w.cell? ⟨b,off+j,none⟩=some u)∧(valm.flatMap fun x=>x.cells.toList).length=m.length*K.u.size e'∧(∀ u∈(valm.flatMap fun x=>x.cells.toList),u.oneCell'=true):=by
       rcases hyS with h|⟨b,off,cap,valm,a1,a2,a3,a4⟩
       ·exact .inl h
       ·exact .inr ⟨b,off,cap,valm,a1,a2,.ofTsL a3,a4⟩
      split at h
      ·
       split at h
       ·rename_i hd;split at h
        ·rename_i hs;obtain ⟨_,hs1,hs2,hs3⟩:=hs;by_cases hb:m.length*i.bytes≤zaa9∧m.length≤maxLen
         ·simp only[hb,decide_true,cond_true,and_self] at h;simp only[PRel] at hx;obtain ⟨rfl,_⟩:=hx;exact zafo hN hI (l:=[]) (vals:=[]) (ids:=[]) (F0:=[]) hu hi hs1 hs3 (by simpa using hb.1) (by simpa using hb.2) .nil (World.ownsZ_nil _ _ _ _) (fun b hb=>by cases hb) hyS (fun b hb=>by cases hb) (.inl ⟨hd,rfl,rfl⟩) (by simp) (by simpa [deads] using h)
         ·simp only[hb,decide_false,cond_false] at h; cases h
        ·cases h
       ·cases h
      ·rename_i id ver;split at h
       ·rename_i E' v e'' l hS;split at h
        ·rename_i he;subst he;split at h
         ·rename_i hs;obtain ⟨_,rfl,rfl,hs1,hs2,hs3⟩:=hs;by_cases hb:(l.length+m.length)*i.bytes≤zaa9∧l.length+m.length≤maxLen
          ·simp only[hb,decide_true,cond_true,and_self] at h;simp only[PRel] at hx;obtain ⟨_,ob,h1,_,h2⟩:=hx;rw[hS] at h1;cases h1;have hxv:=h2 _ zab3;obtain ⟨vals,hT,hown,hap⟩:=hI.obs id _ hS;rw[hxv];exact zafo (ids:=[]) hN hI hu hi hs1 hs3 hb.1 hb.2 hT hown hap hyS (fun b hb=>by cases hb) (.inr ⟨_,_,_,hS,Nat.lt_succ_self _,rfl,rfl⟩) (by simp) h
          ·simp only[hb,decide_false,cond_false] at h; cases h
         ·cases h
        ·cases h
       ·cases h
      ·cases h
     ·cases h
    ·cases h
   ·cases h
  ·cases h
 ·cases h
theorem zapr (hN:Next K V B G st β c r N) (hI:Inv K V B G (look st) β w) {d:Nat} {argT:Array TypeId} {ty:TypeId} {p:PV K.u.U} {qid:Nat} (h:K.appendD d (look st) argT p qid c=some r)
  {x y:Value} (hx:PRel K G (look st) β p x) (hy:y=(β qid).v):∃ v w',(Builtin.append_ argT ty #[x,y]).run K.P w=.ok v w'∧N v w':=by
 subst hy;unfold Kit.appendD at h;split at h
 ·rename_i T T' hargs;have harg:argT=#[T,T']:=by rw[← Array.toArray_toList (xs:=argT),hargs]
  split at h
  ·rename_i E hT hu;have hT:T'=T:=by simpa using hT
   subst hT;subst harg;split at h
   ·rename_i i E'' qv e m hi hqS;obtain ⟨qvals,q1,q2,q3⟩:=hI.obs qid _ hqS
    have hyS : (m = [] ∧ ∃ p, (β qid).v = .slice p 0 0) ∨ ∃ b off cap valm, (β qid).v = .slice (some ⟨b, off, none⟩) m.length cap ∧ m.length ≤ cap ∧ HsRel K.u G (fun k => w.heap[k]?) (β qid).F (m.map (TV.mk e)) valm ∧
      (∀ j u,(valm.flatMap fun x=>x.cells.toList)[j]? = some u→w.cell? ⟨b,off+j,none⟩=some u)∧(valm.flatMap fun x=>x.cells.toList).length=m.length*K.u.size e∧(∀ u∈(valm.flatMap fun x=>x.cells.toList),u.oneCell'=true):=by
     rcases q2.2 with ⟨hv,hn⟩|⟨g,cap,cur,fz,hv,hz,hh,hc1,hc2,hc3,htake⟩
     ·exact .inl ⟨List.eq_nil_of_length_eq_zero hn,none,hv⟩
     ·exact .inr ⟨g,0,cap,qvals,hv,hc1,q1,zak8 hh q1 (zahl q1.sizes htake)⟩
    have hFm:∀ b∈(β qid).F,zabm st β [qid] b:=fun b hb=>⟨qid,_,by simp,hqS,rfl,.inr ⟨rfl,hb⟩⟩
    split at h
    ·split at h
     ·rename_i hd;split at h
      ·rename_i hs;obtain ⟨rfl,hs1,hs2,hs3⟩:=hs;by_cases hb:m.length*i.bytes≤zaa9∧m.length≤maxLen
       ·simp only[hb,decide_true,cond_true,and_self] at h;simp only[PRel] at hx;obtain ⟨rfl,_⟩:=hx;have hne:d≠qid:=fun h=>by subst h; rw[hqS] at hd; cases hd
        exact zafo hN hI (l:=[]) (vals:=[]) (ids:=[qid]) (F0:=[]) hu hi hs1 hs3 (by simpa using hb.1) (by simpa using hb.2) .nil (World.ownsZ_nil _ _ _ _) (fun b hb=>by cases hb) hyS hFm (.inl ⟨hd,rfl,rfl⟩) (by simpa using hne) (by simpa [deads] using h)
       ·simp only[hb,decide_false,cond_false] at h; cases h
      ·cases h
     ·cases h
    ·rename_i id ver;split at h
     ·rename_i E' v e'' l hS;split at h
      ·rename_i he;subst he;split at h
       ·rename_i hs;obtain ⟨rfl,hne,rfl,rfl,hs1,hs2,hs3⟩:=hs;by_cases hb:(l.length+m.length)*i.bytes≤zaa9∧l.length+m.length≤maxLen
        ·simp only[hb,decide_true,cond_true,and_self] at h;simp only[PRel] at hx;obtain ⟨_,ob,h1,_,h2⟩:=hx;rw[hS] at h1;cases h1;have hxv:=h2 _ zab3;obtain ⟨vals,hT,hown,hap⟩:=hI.obs id _ hS;rw[hxv];exact zafo (ids:=[qid]) hN hI hu hi hs1 hs3 hb.1 hb.2 hT hown hap hyS hFm (.inr ⟨_,_,_,hS,Nat.lt_succ_self _,rfl,rfl⟩) (by simpa using hne) (by simpa [deads] using h)
        ·simp only[hb,decide_false,cond_false] at h; cases h
       ·cases h
      ·cases h
     ·cases h
    ·cases h
   ·cases h
  ·cases h
 ·cases h
theorem zap0 (hN:Next K V B G st β c r N) (hI:Inv K V B G (look st) β w) {d:Nat} {argT:Array TypeId} {ty:TypeId} {p q:PV K.u.U} (h:K.append d (look st) argT p q c=some r)
  {x y:Value} (hx:PRel K G (look st) β p x) (hy:PRel K G (look st) β q y):∃ v w',(Builtin.append_ argT ty #[x,y]).run K.P w=.ok v w'∧N v w':=by
 unfold Kit.append at h;split at h
 ·rename_i qid hq;refine zapr hN hI h hx ?_;unfold PV.deepRow at hq;split at hq
  ·rename_i id ver;split at hq
   ·rename_i hS;split at hq
    ·rename_i hh;cases hq;simp only[PRel] at hy;obtain ⟨_,ob,h1,_,h2⟩:=hy;rw[hS] at h1;cases h1;exact h2 _ (by rw[hh.1]; exact zab3)
    ·cases hq
   ·cases hq
  ·cases hq
 ·rename_i hq;exact zapk hN hI hq h hx hy
end
end Lift
