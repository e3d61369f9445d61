/-
  DERIVED. A function's code, evaluated: the values, what they are in memory, the operations' laws. Conditions: none.
-/
import Derived.Test.YthbhphfmnlchoaaGreatDoorLiftAA
set_option linter.unusedVariables false
set_option linter.unusedSimpArgs false
set_option linter.unusedSectionVars false
namespace Lift
open Go Go.RowKit
section
variable {K:Kit} {V:Env} {B:Base} {R:Type}
variable {G:Nat→Option Obj} {S:Nat→Option (Ob K.u.U)} {st:List (Nat×Ob K.u.U)} {β:Nat→Gh} {w w':World} {c:PV K.u.U→Ups K.u.U→Option R} {r:R} {N:Value→World→Prop}
theorem zaip {k : IntKind} {G' : Nat → Option Obj} : ∀ {l : List Int} {vals : List Value}, TsRel K.u G' (l.map (TV.mk (.int k))) vals → (vals.flatMap fun x => x.cells.toList) = l.map (Value.int k)
 |[],vals,h=>by cases h; rfl
 |n::l,vals,h=>by
  simp only[List.map_cons] at h;cases h with
  |cons _ _ v vs h1 h2=>
   rw[h1.int_inv];simp only[List.flatMap_cons,List.map_cons,zaip h2];rfl
theorem zagk (ns:List Int):runesBytes ns=⟨(zafy ns).toArray⟩:=by
 have h:∀ (ns:List Int) (s:ByteArray),ns.foldl (fun r n=>r++Utf8.encode n) s=⟨(s.data.toList++zafy ns).toArray⟩:=by
  intro ns;induction ns with
  |nil=>intro s; simp[zafy]
  |cons n ns ih=>
   intro s;simp only[List.foldl_cons,ih,zafy,List.flatMap_cons];simp
 have:=h ns ByteArray.empty;simpa [runesBytes] using this
theorem zake (ns:List Int):ns.foldl (fun r n=>r.push (UInt8.ofNat n.toNat)) ByteArray.empty=⟨(bytesOf ns).toArray⟩:=by
 have h:∀ (ns:List Int) (s:ByteArray),ns.foldl (fun r n=>r.push (UInt8.ofNat n.toNat)) s=⟨(s.data.toList++bytesOf ns).toArray⟩:=by
  intro ns;induction ns with
  |nil=>intro s; simp[bytesOf]
  |cons n ns ih=>
   intro s;simp only[List.foldl_cons,ih,bytesOf,List.map_cons];simp[ByteArray.push]
 have:=h ns ByteArray.empty;simpa using this
theorem zaho {k:IntKind} {p:PV K.u.U} {x:TV K.u.U} {S:Nat→Option (Ob K.u.U)} (h:p.asOwn K.u S (.slc (.int k))=some x):p.deepRow K.u S=none:=by
 unfold PV.asOwn at h;split at h
 ·rename_i id ver;split at h
  ·rename_i e2 l hS;split at h
   ·rename_i he;simp only[Ty.slc.injEq] at he;have hp:K.u.plainTy e2=true:=by cases e2<;>first|rfl|(cases he)
    simp only[Option.bind_eq_some_iff] at hS;obtain ⟨ob,h1,h2⟩:=hS;unfold PV.deepRow;simp only[h1];rcases zaf1 h2 with ⟨T,rfl⟩|rfl
    ·simp[hp]
    ·rfl
   ·cases h
  ·cases h
 ·split at h
  ·split at h
   ·rename_i hh; cases hh
   ·cases h
  ·cases h
 ·unfold PV.deepRow;split
  ·simp[PV.asFlat] at h
  ·rfl
theorem zapt (hI:Inv K V B G (look st) β w) {src dst:TypeId} {p:PV K.u.U} {c:TV K.u.U→Option R} (h:K.conv (look st) src dst p c=some r) {x:Value} (hx:PRel K G (look st) β p x) :
  ∃ v z,c v=some r∧TRel K.u G v z∧(convert src dst x).run K.P w=.ok z w:=by
 unfold Kit.conv at h;split at h
 ·rename_i k hd;split at h
  ·rename_i k0 n;simp only[PRel] at hx;rw[hx.int_inv];split at h
   ·rename_i ds hs;refine ⟨_,_,h,.int _ _,?_⟩;unfold convert;simp only[Sem.run_bind,run_underlying hs,run_underlying hd,Result.andThen_ok];cases ds<;>rfl
   ·cases h
  ·cases h
 ·rename_i hd;split at h
  ·rename_i hs;split at h
   ·rename_i s;simp only[PRel] at hx;rw[hx.str_inv];exact ⟨_,_,h,.str _,by unfold convert; simp[run_underlying hs,run_underlying hd]⟩
   ·cases h
  ·rename_i E hs;split at h
   ·rename_i he;split at h
    ·rename_i l hl;obtain ⟨_,hS⟩:=zagr hI (zaho hl) hl hx;refine ⟨_,_,h,.str _,?_⟩;rcases hS with ⟨rfl,p,rfl⟩|⟨b,off,cap,vals,rfl,hcap,hT,hcell,hlen,_⟩
     ·cases p with
      |none=>unfold convert; simp[run_underlying hs,run_underlying hd,run_underlying he,Conv.bytesToString,bytesOf]; rfl
      |some a=>
       have hL:=run_loadCells_list (P:=K.P) w a (([]:List Int).map (Value.int .u8)) (fun j v hv=>by simp at hv);have:=run_bytesToString (P:=K.P) w a 0 0 [] (by simpa using hL);rw[zake] at this;unfold convert;simp[run_underlying hs,run_underlying hd,run_underlying he,this];try rfl
     ·have hf:=zaip hT;have hL:=run_loadCells_list (P:=K.P) w ⟨b,off,none⟩ (l.map (Value.int .u8)) (fun j v hv=>by rw[zab5]; exact hcell j v (by rw[hf]; exact hv));have:=run_bytesToString (P:=K.P) w ⟨b,off,none⟩ l.length cap l (by simpa using hL);rw[zake] at this;unfold convert;simp[run_underlying hs,run_underlying hd,run_underlying he,this]
    ·cases h
   ·rename_i he;split at h
    ·rename_i l hl;obtain ⟨_,hS⟩:=zagr hI (zaho hl) hl hx;refine ⟨_,_,h,.str _,?_⟩;rcases hS with ⟨rfl,p,rfl⟩|⟨b,off,cap,vals,rfl,hcap,hT,hcell,hlen,_⟩
     ·cases p with
      |none=>unfold convert; simp[run_underlying hs,run_underlying hd,run_underlying he,Conv.runesToString,zafy]; rfl
      |some a=>
       have hL:=run_loadCells_list (P:=K.P) w a (([]:List Int).map (Value.int .i32)) (fun j v hv=>by simp at hv);have:=run_runesToString (P:=K.P) w a 0 0 [] (by simpa using hL);rw[zagk] at this;unfold convert;simp[run_underlying hs,run_underlying hd,run_underlying he,this];try rfl
     ·have hf:=zaip hT;have hL:=run_loadCells_list (P:=K.P) w ⟨b,off,none⟩ (l.map (Value.int .i32)) (fun j v hv=>by rw[zab5]; exact hcell j v (by rw[hf]; exact hv));have:=run_runesToString (P:=K.P) w ⟨b,off,none⟩ l.length cap l (by simpa using hL);rw[zagk] at this;unfold convert;simp[run_underlying hs,run_underlying hd,run_underlying he,this]
    ·cases h
   ·cases h
  ·cases h
 ·cases h
theorem zaeb {P:Program} {isSlice:Bool} {len cap:Nat} {lov hiv:Option Value} {l h:Int}
  (hl:(lov=none∧l=0)∨∃ k,lov=some (.int k l)) (hh:(hiv=none∧h=len)∨∃ k,hiv=some (.int k h)) (h0:0≤l) (h1:l≤h) (h2:h≤len) (hc:len≤cap) :
  (Instr.sliceBounds isSlice len cap lov hiv none).run P w=.ok (l.toNat,h.toNat,cap) w:=by
 have e1:0≤h:=by omega
 have e2:h≤(cap:Int):=by omega
 have e3:(h.toNat:Int)=h:=by omega
 rcases hl with ⟨rfl,rfl⟩|⟨k,rfl⟩<;>rcases hh with ⟨rfl,rfl⟩|⟨k',rfl⟩ <;>
  simp[Instr.sliceBounds,Instr.sliceBound,asIntOf,e1,e2,e3,h0,h1]<;>omega
theorem zaja {G':Nat→Option Obj} (_hok:∀ k o,G' k=some o→w.heap[k]? = some o) {E:TypeId} {e:Ty} {s:List (e.den K.u.U)} {x:Value} (hx:TRel K.u G' ⟨.slc e,s⟩ x)
  {T:TypeId} (hu:K.P.underlying T=some (.slice E)) (hsz:szT K.P E=some (K.u.size e)) {lov hiv:Option Value} {l h:Int}
  (hl:(lov=none∧l=0)∨∃ k,lov=some (.int k l)) (hh:(hiv=none∧h=s.length)∨∃ k,hiv=some (.int k h)) (h0:0≤l) (h1:l≤h) (h2:h≤s.length) :
  ∃ z,(Instr.sliceAt T x lov hiv none).run K.P w=.ok z w∧TRel K.u G' ⟨.slc e,(s.take h.toNat).drop l.toNat⟩ z:=by
 rcases hx.slc_inv with ⟨rfl,p,rfl⟩|⟨b,off,cap,cur,TT,fz,vals,rfl,hc,hG,hT,hL⟩
 ·have hb:=zaeb (P:=K.P) (w:=w) (isSlice:=true) (len:=0) (cap:=0) hl (by simpa using hh) h0 h1 (by simpa using h2) (Nat.le_refl _);simp at h2;have el:l=0:=by omega
  have eh:h=0:=by omega
  subst el eh;cases p with
  |none=>exact ⟨.slice none 0 0,by simp[Instr.sliceAt,Instr.slice,run_underlying hu,hb,zabl hsz],by simpa using TRel.nil e none⟩
  |some a=>exact ⟨.slice (some a) 0 0,by simp[Instr.sliceAt,Instr.slice,run_underlying hu,hb,zabl hsz],by simpa using TRel.nil e (some a)⟩
 ·have hb:=zaeb (P:=K.P) (w:=w) (isSlice:=true) (len:=s.length) (cap:=cap) hl hh h0 h1 h2 hc;have hlen:=hT.length;simp at hlen;have hdt:TsRel K.u G' (((s.take h.toNat).drop l.toNat).map (TV.mk e)) ((vals.take h.toNat).drop l.toNat):=by
   rw[List.map_drop,List.map_take];exact (hT.take _).drop _
  have hnl:((s.take h.toNat).drop l.toNat).length=h.toNat-l.toNat:=by simp; omega
  by_cases hm:cap=l.toNat
  ·have e0:h.toNat-l.toNat=0:=by omega
   refine ⟨.slice (some ⟨b,off,none⟩) (h.toNat-l.toNat) (cap-l.toNat),by simp only[Instr.sliceAt,Instr.slice,Sem.run_bind,run_underlying hu,Result.andThen_ok,hb,zabl hsz,if_pos hm,Sem.run_pure],?_⟩;rw[← hnl];refine .slc e _ b off _ cur TT fz _ (by omega) hG hdt (fun i x hx=>?_);have:((vals.take h.toNat).drop l.toNat).length=0:=by simp; omega
   rw[List.eq_nil_of_length_eq_zero this] at hx;simp at hx
  ·refine ⟨.slice (some ⟨b,off+l.toNat*K.u.size e,none⟩) (h.toNat-l.toNat) (cap-l.toNat),by simp[Instr.sliceAt,Instr.slice,run_underlying hu,hb,zabl hsz,hm,zab5],?_⟩;rw[← hnl];refine .slc e _ b _ _ cur TT fz _ (by omega) hG hdt (fun i x hx=>?_);rw[List.getElem?_drop,List.getElem?_take] at hx;split at hx
   ·obtain ⟨a1,a2⟩:=hL _ x hx;refine ⟨a1,fun j c hc=>?_⟩;have:=a2 j c hc;rw[Nat.add_mul] at this;rw[show off+l.toNat*K.u.size e+i*K.u.size e+j=off+(l.toNat*K.u.size e+i*K.u.size e)+j by omega];exact this
   ·cases hx
theorem zars (hN:Next K V B G st β c r N) (hI:Inv K V B G (look st) β w) {T:TypeId} {p:PV K.u.U} {lo hi:Option (PV K.u.U)} (h:K.slc (look st) T p lo hi c=some r)
  {x:Value} (hx:PRel K G (look st) β p x) {lov hiv:Option Value} (hlo:(lo=none∧lov=none)∨∃ q v,lo=some q∧lov=some v∧PRel K G (look st) β q v)
  (hhi:(hi=none∧hiv=none)∨∃ q v,hi=some q∧hiv=some v∧PRel K G (look st) β q v) :
  ∃ z,(Instr.sliceAt T x lov hiv none).run K.P w=.ok z w∧N z w:=by
 have bd:∀ {d:Nat} {o:Option (PV K.u.U)} {ov:Option Value} {n:Int},bound d o=some n→((o=none∧ov=none)∨∃ q v,o=some q∧ov=some v∧PRel K G (look st) β q v)→(ov=none∧n=d)∨∃ k,ov=some (.int k n):=by
  intro d o ov n hb ho;rcases ho with ⟨rfl,rfl⟩|⟨q,v,rfl,rfl,hq⟩
  ·simp[bound] at hb;exact .inl ⟨rfl,hb.symm⟩
  ·unfold bound at hb;split at hb
   ·rename_i he; cases he
   ·rename_i k m he;cases he;simp only[PRel] at hq;simp at hb;subst hb;exact .inr ⟨k,by rw[hq.int_inv]⟩
   ·cases hb
 unfold Kit.slc at h;split at h
 ·rename_i hu;split at h
  ·rename_i s;simp only[Option.bind_eq_some_iff] at h;obtain ⟨l,hl,hh,hhb,h⟩:=h;by_cases hc:0≤l∧l≤hh∧hh≤(s.length:Int)
   ·obtain ⟨c1,c2,c3⟩:=hc;simp only[c1,c2,c3,decide_true,Bool.and_self,cond_true] at h;simp only[PRel] at hx;rw[hx.str_inv];have hb:=zaeb (P:=K.P) (w:=w) (isSlice:=false) (len:=(⟨s.toArray⟩:ByteArray).size) (cap:=(⟨s.toArray⟩:ByteArray).size) (bd hl hlo) (by simpa [ByteArray.size] using bd hhb hhi) c1 c2 (by simpa [ByteArray.size] using c3) (Nat.le_refl _);have he:(⟨s.toArray⟩:ByteArray).extract l.toNat hh.toNat=⟨((s.take hh.toNat).drop l.toNat).toArray⟩:=by
     apply ByteArray.ext;apply Array.ext';rw[ByteArray.data_extract];simp[List.drop_take]
    refine ⟨_,by simp only[Instr.sliceAt,Instr.slice,Sem.run_bind,run_underlying hu,Result.andThen_ok,hb,Option.isSome_none,Bool.false_eq_true,if_false,Sem.run_pure,he]; rfl,hN.plain hI h (by simp only[PRel]; exact .str _)⟩
   ·have:(decide (0≤l)&&(decide (l≤hh)&&decide (hh≤(s.length:Int))))=false:=by simp; omega
    rw[this] at h; cases h
  ·cases h
 ·rename_i E hu;split at h
  ·rename_i e s;simp only[Option.bind_eq_some_iff] at h;obtain ⟨l,hl,hh,hhb,n,hn,h⟩:=h;split at h
   ·rename_i hne;subst hne;by_cases hc:0≤l∧l≤hh∧hh≤(s.length:Int)
    ·obtain ⟨c1,c2,c3⟩:=hc;simp only[c1,c2,c3,decide_true,Bool.and_self,cond_true] at h;simp only[PRel] at hx;obtain ⟨z,h1,h2⟩:=zaja hI.gok hx hu hn (bd hl hlo) (bd hhb hhi) c1 c2 c3;exact ⟨z,h1,hN.plain hI h (by simp only[PRel]; exact h2)⟩
    ·have:(decide (0≤l)&&(decide (l≤hh)&&decide (hh≤(s.length:Int))))=false:=by simp; omega
     rw[this] at h; cases h
   ·cases h
  ·rename_i id ver;split at h
   ·rename_i e s hS;simp only[Option.bind_eq_some_iff] at h;obtain ⟨l,hl,hh,hhb,n,hn,h⟩:=h;split at h
    ·rename_i hne;subst hne;by_cases hc:0≤l∧l≤hh∧hh≤(s.length:Int)
     ·obtain ⟨c1,c2,c3⟩:=hc;simp only[c1,c2,c3,decide_true,Bool.and_self,cond_true] at h;simp only[PRel] at hx;obtain ⟨_,ob,h1,_,h2⟩:=hx;rw[h1,Option.bind_some] at hS;have hxv:=h2 _ (zale hS);obtain ⟨hI',hc'⟩:=hI.settle [id];have hr:=(hI.rowsSettled [id]).1 id _ _ _ (by simp) h1 hS;rw[hxv];obtain ⟨z,h3,h4⟩:=zaja hI'.gok hr hu (by rw[K.u.size_plain]; exact hn) (bd hl hlo) (bd (by rw[zaba]; exact hhb) hhi) c1 c2 (by rw[zaba]; exact c3);exact ⟨z,h3,hN _ _ z w _ β h hI' hc' (by simp only[PRel]; exact h4)⟩
     ·have:(decide (0≤l)&&(decide (l≤hh)&&decide (hh≤(s.length:Int))))=false:=by simp; omega
      rw[this] at h; cases h
    ·cases h
   ·cases h
  ·cases h
 ·cases h
end
end Lift
namespace Lift
open Go Go.RowKit
section
variable {K:Kit} {V:Env} {B:Base} {R:Type}
variable {G G':Nat→Option Obj} {S:Nat→Option (Ob K.u.U)} {st:List (Nat×Ob K.u.U)} {β:Nat→Gh} {w w':World} {c:PV K.u.U→Ups K.u.U→Option R} {r:R} {N:Value→World→Prop}
theorem zag3 {P:Program} {T:TypeId} {fs:Array Field} {f n:Nat} {fd:Field} {b o:Nat} (hu:P.underlying T=some (.struct fs)) (hf:fs[f]? = some fd) (hs:szT P fd.type=some (n+1)) :
  (Instr.fieldAt T (.pointer (some ⟨b,o,none⟩)) f).run P w=.ok (.pointer (some ⟨b,o+fd.offset,none⟩)) w:=by
 simp[Instr.fieldAt,run_underlying hu,hf,Instr.sureAddr,fieldPlace,zabl hs,zab5]
theorem zaox (hN:Next K V B G st β c r N) (hI:Inv K V B G (look st) β w) {T:TypeId} {q:PV K.u.U} {f n:Nat} {u:Value} {fs:Array Field} {fd:Field} (hq:PRel K G (look st) β q u)
  (hu:K.P.underlying T=some (.struct fs)) (hf:fs[f]? = some fd) (hs:szT K.P fd.type=some (n+1))
  (h:(match (some q:Option (PV K.u.U)) with
     |some (.ptr id off)=>match look st id with
      |some (.blk _ _)=>c (.ptr id (off+fd.offset)) []
      |_=>none
     |some (.rptr v off)=>c (.rptr v (off+fd.offset)) []
     |some (.eptr id ver i off)=>c (.eptr id ver i (off+fd.offset)) []
     |_=>none)=some r):∃ y,(Instr.fieldAt T u f).run K.P w=.ok y w∧N y w:=by
 split at h
 ·rename_i id off heq;cases heq;split at h
  ·rename_i cs hS;simp only[PRel] at hq;obtain ⟨_,ob,h1,h2⟩:=hq;rw[hS] at h1;cases h1;have hv:=h2 rfl;obtain ⟨b,vs,hb,hh,hps,h1c⟩:=hI.obs id _ hS;simp[hb,zaa7] at hv;subst hv;refine ⟨_,zag3 hu hf hs,hN.plain hI h ?_⟩;simp only[PRel];exact ⟨rfl,_,hS,fun _=>by simp[hb,zaa7]⟩
  ·cases h
 ·rename_i v off heq;cases heq;simp only[PRel] at hq;obtain ⟨b,o,cur,E,fz,x,rfl,hG,hx,hc⟩:=hq;refine ⟨_,zag3 hu hf hs,hN.plain hI h ?_⟩;simp only[PRel];exact ⟨b,o,cur,E,fz,x,by rw[Nat.add_assoc],hG,hx,hc⟩
 ·rename_i id ver i off heq;cases heq;simp only[PRel] at hq;obtain ⟨⟨b,o,rfl⟩,ob,h3,hm,h4⟩:=hq;refine ⟨_,zag3 hu hf hs,hN.plain hI h ?_⟩;simp only[PRel];refine ⟨⟨_,_,rfl⟩,_,h3,hm,fun x' he=>?_⟩;obtain ⟨hi,hu'⟩:=h4 _ he;refine ⟨hi,?_⟩;rcases zajv hI h3 he with ⟨hn,_⟩|⟨g,off0,cap,hvv,_⟩
  ·rw[hn] at hi; simp at hi
  ·simp only[hvv,zaa7,Value.pointer.injEq,Option.some.injEq,Addr.mk.injEq,and_true] at hu' ⊢;exact ⟨hu'.1,by omega⟩
 ·cases h
theorem zaeu {P:Program} {T E:TypeId} {n len cap b o:Nat} {k:IntKind} {i:Int} (hu:P.underlying T=some (.slice E)) (hs:szT P E=some n) (h0:0≤i) (h1:i<len) :
  (Instr.indexAt T (.slice (some ⟨b,o,none⟩) len cap) (.int k i)).run P w=.ok (.pointer (some ⟨b,o+i.toNat*n,none⟩)) w:=by
 simp[Instr.indexAt,asIntOf,run_underlying hu,h0,h1,zabl hs,zab5]
theorem zaoc (hN:Next K V B G st β c r N) (hI:Inv K V B G (look st) β w) {T E:TypeId} {e:Ty} {l:List (e.den K.u.U)} {x:Value} {k:IntKind} {i:Int} (hx:TRel K.u G ⟨.slc e,l⟩ x)
  (hu:K.P.underlying T=some (.slice E)) (hs:szT K.P E=some (K.u.size e)) (h:(bif decide (0≤i) then (l[i.toNat]?).bind fun y=>c (.rptr ⟨e,y⟩ 0) [] else none)=some r) :
  ∃ y,(Instr.indexAt T x (.int k i)).run K.P w=.ok y w∧N y w:=by
 by_cases h0:0≤i
 ·simp only[h0,decide_true,cond_true,Option.bind_eq_some_iff] at h;obtain ⟨y,hy,h⟩:=h;have hlt:i.toNat<l.length:=(List.getElem?_eq_some_iff.1 hy).1;rcases hx.slc_inv with ⟨rfl,_,_⟩|⟨b,off,cap,cur,TT,fz,vals,rfl,hc,hG,hT,hL⟩
  ·simp at hlt
  ·obtain ⟨v,hv1,hv2⟩:=hT.get i.toNat (c:=⟨e,y⟩) (by simp[hy]);refine ⟨_,zaeu hu hs h0 (by omega),hN.plain hI h ?_⟩;simp only[PRel];exact ⟨b,off+i.toNat*K.u.size e,cur,TT,fz,v,by simp,hG,hv2,fun j u hj=>(hL _ v hv1).2 j u hj⟩
 ·simp only[h0,decide_false,cond_false] at h; cases h
theorem zarh (hN:Next K V B G st β c r N) (hI:Inv K V B G (look st) β w) {T E:TypeId} {id ver:Nat} {x0:(e:Ty)×List (e.den K.u.U)} {x:Value} {k:IntKind} {i:Int} (hx:PRel K G (look st) β (.oslc id ver) x)
  (hS:(look st id).bind (·.now ver)=some x0) (hu:K.P.underlying T=some (.slice E)) (hs:szT K.P E=some (K.u.size x0.1)) (h:(bif decide (0≤i)&&decide (i<x0.2.length) then c (.eptr id ver i.toNat 0) [] else none)=some r) :
  ∃ y,(Instr.indexAt T x (.int k i)).run K.P w=.ok y w∧N y w:=by
 by_cases h0:0≤i∧i<(x0.2.length:Int)
 ·obtain ⟨h0,h1⟩:=h0;simp only[h0,h1,decide_true,Bool.and_self,cond_true] at h;simp only[PRel] at hx;obtain ⟨_,ob,h3,hm,h4⟩:=hx;rw[h3,Option.bind_some] at hS;have hv:=h4 _ hS;have hc:=zajv hI h3 hS;rcases hc with ⟨hn,_⟩|⟨g,off0,cap,hvv,_⟩
  ·rw[hn] at h1; simp at h1; omega
  ·rw[hv,hvv];refine ⟨_,zaeu hu hs h0 h1,hN.plain hI h ?_⟩;simp only[PRel];exact ⟨⟨_,_,rfl⟩,_,h3,hm,fun x' he=>by rw[hS] at he; cases he; exact ⟨by omega,by simp[hvv,zaa7]⟩⟩
 ·have:(decide (0≤i)&&decide (i<(x0.2.length:Int)))=false:=by simp; omega
  rw[this] at h; cases h
theorem zapp (hN:Next K V B G st β c r N) (hI:Inv K V B G (look st) β w) {T E bT:TypeId} {id m:Nat} {cs:List (PV K.u.U)} {x:Value} {k:IntKind} {i:Int} (hx:PRel K G (look st) β (.bslc id m) x)
  (hS:look st id=some (.blk bT cs)) (hu:K.P.underlying T=some (.slice E)) (hs:szT K.P E=some 1) (h:(bif decide (0≤i)&&decide (i<(m:Int)) then c (.ptr id i.toNat) [] else none)=some r) :
  ∃ y,(Instr.indexAt T x (.int k i)).run K.P w=.ok y w∧N y w:=by
 by_cases h0:0≤i∧i<(m:Int)
 ·obtain ⟨h0,h1⟩:=h0;simp only[h0,h1,decide_true,Bool.and_self,cond_true] at h;simp only[PRel] at hx;obtain ⟨_,ob,h3,h4⟩:=hx;rw[hS] at h3;cases h3;obtain ⟨b,hb,hv⟩:=h4 rfl;rw[hv];refine ⟨_,zaeu hu hs h0 h1,hN.plain hI h ?_⟩;simp only[PRel];exact ⟨rfl,_,hS,fun _=>by simp[hb,zaa7]⟩
 ·have:(decide (0≤i)&&decide (i<(m:Int)))=false:=by simp; omega
  rw[this] at h; cases h
theorem zami {P:Program} {T:TypeId} {s:List UInt8} {k:IntKind} {i:Int} {b:UInt8} (hu:P.underlying T=some .string) (h0:0≤i) (hb:s[i.toNat]? = some b) :
  (Instr.index T (.string ⟨s.toArray⟩) (.int k i)).run P w=.ok (.int .u8 (b.toNat:Int)) w:=by
 have hlt:i.toNat<s.length:=(List.getElem?_eq_some_iff.1 hb).1;have hg:(⟨s.toArray⟩:ByteArray)[i.toNat]? = some b:=by
  have h1:i.toNat<(⟨s.toArray⟩:ByteArray).size:=by simpa [ByteArray.size] using hlt
  rw[getElem?_pos (⟨s.toArray⟩:ByteArray) i.toNat h1];have e:(⟨s.toArray⟩:ByteArray)[i.toNat]=s[i.toNat]:=rfl;rw[e];rw[List.getElem?_eq_getElem hlt] at hb;exact hb
 simp[Instr.index,asIntOf,run_underlying hu,h0,hg]
theorem zasm (hN:Next K V B G st β c r N) (hI:Inv K V B G (look st) β w) {d:Nat} {s:List UInt8} (hd:look st d=none) (hdp:Nat.blt d zabg=true) (h:c (.ptr d 0) [(d,.sit s 0)]=some r) :
  N (.pointer (some ⟨w.heap.size,0,none⟩)) (w.alloc (.stringIter ⟨s.toArray⟩ 0)):=by
 refine hN.made hI (x:=.pointer (some ⟨w.heap.size,0,none⟩)) hd h (fun b hb=>by simpa [blkOf] using hb.symm) (fun _=>by simpa using hdp) (fun hc=>?_) ?_
 ·exact ⟨w.heap.size,by simp[upd],heap_alloc_new _ _⟩
 ·simp only[PRel];exact ⟨rfl,_,zad6,fun _=>by simp[upd,zaa7]⟩
theorem zaqj (hN:Next K V B G st β c r N) (hI:Inv K V B G (look st) β w) {id:Nat} {s:List UInt8} {pos:Nat} {u:Value} {ty:TypeId} (hu:PRel K G (look st) β (.ptr id 0) u) (hS:look st id=some (.sit s pos))
  (h:(bif decide (pos<s.length)
     then c (.tup [.t ⟨.bool,true⟩,.t ⟨.int .i64,(pos:Int)⟩,.t ⟨.int .i32,((Utf8.decode ⟨s.toArray⟩ pos).1:Int)⟩]) [(id,.sit s (pos+(Utf8.decode ⟨s.toArray⟩ pos).2))]
     else c (.tup [.t ⟨.bool,false⟩]) [])=some r):∃ y w',(Instr.next u true ty).run K.P w=.ok y w'∧N y w':=by
 simp only[PRel] at hu;obtain ⟨_,ob,h1,h2⟩:=hu;rw[hS] at h1;cases h1;have hv:=h2 rfl;obtain ⟨b,hb,hh⟩:=hI.obs id _ hS;simp[hb,zaa7] at hv;subst hv;have hget:(getObj b).run K.P w=.ok (.stringIter ⟨s.toArray⟩ pos) w:=by simp[getObj,Sem.run,hh]
 by_cases hp:pos<s.length
 ·simp only[hp,decide_true,cond_true] at h;have hset:(setObj b (.stringIter ⟨s.toArray⟩ (pos+(Utf8.decode ⟨s.toArray⟩ pos).2))).run K.P w=.ok () { w with heap:=w.heap.setIfInBounds b (.stringIter ⟨s.toArray⟩ (pos+(Utf8.decode ⟨s.toArray⟩ pos).2)) }:=by
   simp[setObj,Sem.run,hh]
  have hblt:=(Array.getElem?_eq_some_iff.1 hh).1;refine ⟨_,_,by simp only[Instr.next,Sem.run_bind,hget,Result.andThen_ok,show pos<(⟨s.toArray⟩:ByteArray).size by simpa [ByteArray.size] using hp,if_true,hset,Sem.run_pure]; rfl,?_⟩
  have hc:Comp K G G (look st) β (look ((id,.sit s (pos+(Utf8.decode ⟨s.toArray⟩ pos).2))::st)) (upd β id (β id)):=
   Comp.cons (fun _ _ h=>h) (fun ob h0=>by rw[hS] at h0; cases h0; exact ⟨fun _=>⟨rfl,rfl⟩,fun _ _=>trivial,fun _ _ _ he=>by cases he⟩)
  refine hN _ _ _ _ G (upd β id (β id)) h (hI.one (row:=some b) ⟨rfl,rfl,rfl,by simp,fun k _ hk=>by
    rw[Array.getElem?_setIfInBounds_ne (fun e=>hk (by simp[e]))]⟩ (fun k hk=>⟨_,hS,rfl,.inl (by cases hk; simp[hb,blkOf])⟩)
   (fun _ b' hb'=>.inl ⟨_,hS,rfl,hb'⟩) hc (fun _ _=>⟨_,hS⟩) ?_) hc ?_
  ·refine ⟨b,by simp[upd,hb],?_⟩;simp[hblt]
  ·simp only[PRel,PsRel];exact ⟨_,rfl,_,_,rfl,.bool _,_,_,rfl,.int _ _,_,_,rfl,.int _ _,rfl⟩
 ·simp only[hp,decide_false,cond_false] at h;refine ⟨_,w,by simp only[Instr.next,Sem.run_bind,hget,Result.andThen_ok,show ¬ pos<(⟨s.toArray⟩:ByteArray).size by simpa [ByteArray.size] using hp,if_false,Sem.run_pure]; rfl,hN.plain hI h ?_⟩;simp only[PRel,PsRel];exact ⟨_,rfl,_,_,rfl,.bool _,rfl⟩
end
end Lift
namespace Lift
open Go Go.RowKit
theorem zan8 (off:Nat) (l:List Value) (cs:Array Value) (h:off+l.length≤cs.size) :
  ((l.zipIdx 0).foldl (fun cs (x:Value×Nat)=>cs.setIfInBounds (off+x.2) x.1) cs).toList=cs.toList.take off++l++cs.toList.drop (off+l.length):=by
 obtain ⟨g1,g2⟩:=Go.Great.foldl_set off l 0 cs;apply List.ext_getElem?;intro k;have:=g2 k;simp only[Nat.add_zero] at this;rw[Array.getElem?_toList,this];simp only[List.getElem?_append,List.getElem?_take,List.length_append,List.length_take,Array.length_toList,List.getElem?_drop,Array.getElem?_toList];by_cases c1:k<off
 ·simp (disch:=omega) only[if_pos,if_neg]
 ·by_cases c2:k<off+l.length
  ·simp (disch:=omega) only[if_pos,if_neg];congr 1;omega
  ·simp (disch:=omega) only[if_neg];congr 1;omega
theorem zakk {P : Program} : ∀ (fs : List Field), (fs.all fun f => (szT P f.type).isSome) = true → ∃ places, fs.mapM (fun f => (P.info? f.type).map fun i => (f.offset, i.size)) = some places ∧
  ∀ (i:Nat) (f:Field) (n:Nat),fs[i]? = some f→szT P f.type=some n→places[i]? = some (f.offset,n)
 |[],_=>⟨[],by simp,by simp⟩
 |f::fs,h=>by
  simp only[List.all_cons,Bool.and_eq_true] at h;obtain ⟨h1,h2⟩:=h;obtain ⟨pl,h3,h4⟩:=zakk fs h2;obtain ⟨n0,hn0⟩:=Option.isSome_iff_exists.1 h1;obtain ⟨ti,hi,hsz⟩:=zan7 hn0;refine ⟨(f.offset,ti.size)::pl,by simp[List.mapM_cons,hi,h3],fun i g n hg hn=>?_⟩;cases i with
  |zero=>simp at hg; subst hg; rw[hn0] at hn; cases hn; simp[hsz]
  |succ i=>simp at hg; simpa using h4 i g n hg hn
section
variable {K:Kit} {V:Env} {B:Base} {R:Type}
variable {G G':Nat→Option Obj} {S:Nat→Option (Ob K.u.U)} {st:List (Nat×Ob K.u.U)} {β:Nat→Gh} {w w':World} {c:PV K.u.U→Ups K.u.U→Option R} {r:R} {N:Value→World→Prop}
theorem zajd {tm:Nat→Option (PV K.u.U)} {a:Act} (ht:TmOk K G S β tm a):∀ {l:List (Nat×Operand)} {qs:List (Nat×PV K.u.U)},zipEv K tm l=some qs →
  qs.map (·.1)=l.map (·.1)∧PsRel K G S β (qs.map (·.2)) ((l.map fun x=>(x.1,a.eval x.2)).map (·.2))∧(l.map fun x=>(x.1,a.eval x.2)).map (·.1)=l.map (·.1)
 |[],qs,h=>by simp[zipEv] at h; subst h; simp[PsRel]
 |(i,x)::l,qs,h=>by
  simp only[zipEv,Option.bind_eq_some_iff] at h;obtain ⟨p,h1,ps,h2,h3⟩:=h;simp at h3;subst h3;obtain ⟨i1,i2,i3⟩:=zajd ht h2;refine ⟨by simp[i1],?_,by simp⟩;simp only[List.map_cons,PsRel];exact ⟨_,_,rfl,zaae ht h1,i2⟩
theorem zakt {fs:Array Field} {places:List (Nat×Nat)} (hpl:∀ (i:Nat) (f:Field) (n:Nat),fs[i]? = some f→szT K.P f.type=some n→places[i]? = some (f.offset,n)) :
  ∀ (qs : List (Nat × PV K.u.U)) (vs : List (Nat × Value)) (cells : List (PV K.u.U)) (cs : Array Value) {out : List (PV K.u.U)}, vs.map (·.1) = qs.map (·.1) → PsRel K G S β (qs.map (·.2)) (vs.map (·.2)) →
   PsRel K G S β cells cs.toList→(∀ x∈cs.toList,x.oneCell'=true)→K.parts fs cells qs=some out →
   ∃ r:Array Value,Instr.fill (places.toArray[·]?) cs vs=some r∧PsRel K G S β out r.toList∧∀ x∈r.toList,x.oneCell'=true
 |[],[],cells,cs,out,_,_,hc,h1,h=>by simp[Kit.parts] at h; subst h; exact ⟨cs,rfl,hc,h1⟩
 |[],_::_,_,_,_,hm,_,_,_,_=>by simp at hm
 |_::_,[],_,_,_,hm,_,_,_,_=>by simp at hm
 |(i,p)::qs,(j,v)::vs,cells,cs,out,hm,hp,hc,h1,h=>by
  simp only[List.map_cons,List.cons.injEq] at hm;obtain ⟨rfl,hm⟩:=hm;simp only[List.map_cons,PsRel] at hp;obtain ⟨u,rr,hur,hpu,hpr⟩:=hp;simp only[List.cons.injEq] at hur;obtain ⟨rfl,rfl⟩:=hur;simp only[Kit.parts,Option.bind_eq_some_iff] at h;obtain ⟨f,hf,n,hn,ps,hps,h⟩:=h;split at h
  ·rename_i hl;simp only[Option.bind_eq_some_iff] at h;obtain ⟨cells',hsp,h⟩:=h;obtain ⟨hsl,rfl⟩:=zae1 hsp;obtain ⟨hpc,hp1⟩:=hpu.cellsOf hps;have l1:=hpc.length;have l2:=hc.length;simp only[Array.length_toList] at l1 l2;have hfold:=zan8 f.offset v.cells.toList cs (by simp; omega)
   obtain ⟨r, hr1, hr2, hr3⟩ := zakt hpl qs vs _ ((v.cells.toList.zipIdx 0).foldl (fun cs (x : Value × Nat) => cs.setIfInBounds (f.offset + x.2) x.1) cs) hm hpr
    (by rw[hfold,← hpc.length]; exact ((hc.take f.offset).append hpc).append (hc.drop _))
    (by
     rw[hfold];intro x hx;simp only[List.mem_append] at hx;rcases hx with (hx|hx)|hx
     ·exact h1 x (List.mem_of_mem_take hx)
     ·exact hp1 x hx
     ·exact h1 x (List.mem_of_mem_drop hx)) h
   refine ⟨r,?_,hr2,hr3⟩;unfold Instr.fill;have hpl':places.toArray[j]? = some (f.offset,n):=by simpa using hpl j f n hf hn
   simp only[hpl'];rw[if_neg (by simp; omega),← hr1];congr 1;rw[← Array.foldl_toList,Array.toList_zipIdx]
  ·cases h
theorem zaol (hN:Next K V B G st β c r N) (hI:Inv K V B G (look st) β w) {tm:Nat→Option (PV K.u.U)} {a:Act} (ht:TmOk K G (look st) β tm a) {T:TypeId} {ps:Array (Nat×Operand)} {fs:Array Field}
  (hu:K.P.underlying T=some (.struct fs)) (hall:(fs.toList.all fun f=>(szT K.P f.type).isSome)=true) {qs:List (Nat×PV K.u.U)} {vs:List Value} {zs cs:List (PV K.u.U)}
  (hq:zipEv K tm ps.toList=some qs) (hz:zeroT K.P T=some vs) (hzs:zafc vs=some zs) (hcs:K.parts fs zs qs=some cs) (h:c (K.packB T cs) []=some r) :
  ∃ y,(Instr.build T (ps.map fun (i,x)=>(i,a.eval x))).run K.P w=.ok y w∧N y w:=by
 obtain ⟨i1,i2,i3⟩:=zajd ht hq;obtain ⟨ti,z,hi,hz1,hz2⟩:=zakz hz;obtain ⟨hzr,hz1c⟩:=zagg (K:=K) (G:=G) (S:=look st) (β:=β) hzs;rw[← hz2] at hzr hz1c;obtain ⟨places,hp1,hp2⟩:=zakk (P:=K.P) fs.toList hall;obtain ⟨rr,hr1,hr2,hr3⟩:=zakt (K:=K) (G:=G) (S:=look st) (β:=β) (fs:=fs) (places:=places) (fun i f n hf hn=>hp2 i f n (by simpa using hf) hn) qs (ps.toList.map fun x=>(x.1,a.eval x.2)) zs z.cells (i3.trans i1.symm) i2 hzr hz1c hcs;have hb:K.P.built T (ps.map fun (i,x)=>(i,a.eval x)).toList=some rr:=by
  unfold Program.built;simp only[hi,hu,hz1,hp1];rw[Array.toList_map];exact hr1
 refine ⟨_,run_build w T _ rr hb,hN.plain hI h ?_⟩;have:=zaow (K:=K) (T:=T) hr2 hr3;simpa using this
theorem zaiw {U:Nat→Type} {e:Ty}:∀ {vs:List (TV U)} {l:List (e.den U)},unTV e vs=some l→vs=l.map (TV.mk e)
 |[],l,h=>by simp[unTV] at h; subst h; rfl
 |v::vs,l,h=>by
  simp only[unTV,Option.bind_eq_some_iff] at h;obtain ⟨x,h1,xs,h2,h3⟩:=h;simp at h3;subst h3;rw[zaf4 h1,zaiw h2];rfl
theorem zalx (hN:Next K V B G st β c r N) (hI:Inv K V B G (look st) β w) {d:Nat} {E:TypeId} {e:Ty} {l:List (e.den K.u.U)} {vals:List Value} {cs:Array Value} {ids F:List Nat} (hd:look st d=none)
  (h:c (.oslc d 0) ((d,.row E 0 e l)::deads K.u.U ids)=some r) (hT:HsRel K.u G (fun k=>w.heap[k]?) F (l.map (TV.mk e)) vals) (hF:∀ b∈F,zabf st β ids b) (hcs:cs.toList=vals.flatMap fun x=>x.cells.toList) (hm:l.length≤maxLen) :
  N (.slice (some ⟨w.heap.size,0,none⟩) l.length l.length) (w.alloc (.cells cs E)):=by
 have hl:l.length=vals.length:=by simpa using hT.length
 have hfl:=zadb vals hT.sizes;have hFl:∀ b∈F,b<w.heap.size:=fun b hb=>by
  obtain ⟨o,ho⟩:=hT.lies b hb;have ho:w.heap[b]? = some o:=ho;exact (Array.getElem?_eq_some_iff.1 ho).1
 have hc:Comp K G G (look st) β (look ((d,.row E 0 e l)::(deads K.u.U ids++st))) (upd β d ⟨.slice (some ⟨w.heap.size,0,none⟩) l.length l.length,F⟩):=Comp.consD (fun _ _ h=>h) (fun ob0 h0=>by rw[hd] at h0; cases h0);have eu:upd β d ⟨.slice (some ⟨w.heap.size,0,none⟩) l.length l.length,F⟩ d=⟨.slice (some ⟨w.heap.size,0,none⟩) l.length l.length,F⟩:=by simp[upd]
 refine hN _ ((d,_)::deads K.u.U ids) _ _ G _ h (hI.oneD (zajl (row:=none)) (fun k hk=>by cases hk) (fun _ b hb=>?_) hc (fun hp=>by cases hp) ?_) hc ?_
 ·rcases hb with hb|⟨_,hb⟩
  ·exact .inr (by simp[blkOf] at hb; omega)
  ·obtain ⟨j,ob,j1,j2⟩:=hF b hb;exact .inl ⟨j,ob,.inr j1,j2⟩
 ·show ∃ vals,_;rw[eu];refine ⟨vals,hT.over (fun _ _ h=>h) (fun b hb=>heap_alloc_old w _ (hFl b hb)),⟨by rw[hfl,hl],.inr ⟨w.heap.size,l.length,cs,_,rfl,zagp _,heap_alloc_new _ _,Nat.le_refl _,hm,?_,?_⟩⟩,fun b hb hbv=>?_⟩
  ·rw[← Array.length_toList,hcs,hfl,hl]; exact Nat.le_refl _
  ·rw[hcs,hl,← hfl,List.take_length]
  ·simp[blkOf] at hbv;have:=hFl b hb;omega
 ·simp only[PRel];exact ⟨rfl,_,zad6,Nat.le_refl _,fun _ _=>by simp[upd]⟩
theorem zan1 (hN:Next K V B G st β c r N) (hI:Inv K V B G (look st) β w) {d:Nat} {E:TypeId} {e:Ty} {l:List (e.den K.u.U)} {vals:List Value} {cs:Array Value} (hd:look st d=none)
  (h:c (.oslc d 0) [(d,.row E 0 e l)]=some r) (hT:TsRel K.u G (l.map (TV.mk e)) vals) (hcs:cs.toList=vals.flatMap fun x=>x.cells.toList) (hm:l.length≤maxLen) :
  N (.slice (some ⟨w.heap.size,0,none⟩) l.length l.length) (w.alloc (.cells cs E)):=
 zalx (ids:=[]) hN hI hd h (.ofTsL hT) (fun b hb=>by cases hb) hcs hm
theorem zal4 {α β : Type} : ∀ (l : List (Nat × α)) (f : α → β) (k : Nat), l.map (·.1) = List.range' k l.length → (l.map fun x => (x.1, f x.2)) = ((l.map fun x => f x.2).zipIdx k).map fun x => (x.2, x.1)
 |[],_,_,_=>rfl
 |(i,x)::l,f,k,h=>by
  simp only[List.map_cons,List.length_cons,List.range'_succ,List.cons.injEq] at h;obtain ⟨rfl,h⟩:=h;simp only[List.map_cons,List.zipIdx_cons];rw[zal4 l f (i+1) h]
theorem zaet {a:Act} {T E:TypeId} {i:TypeInfo} {n:Nat} {ps:Array (Nat×Operand)} (hu:K.P.underlying T=some (.slice E)) (hi:K.P.info? E=some i)
  (hs2:0<i.size) (hs3:i.zero.isSome=true) (hs4:n*i.size≤16777216) (hs5:ps.toList.map (·.1)=List.range n) (hsz:∀ v∈(ps.toList.map (·.2)).map a.eval,v.cells.size=i.size) :
  (Instr.buildSlice T n (ps.map fun (i,x)=>(i,a.eval x))).run K.P w=.ok (.slice (some ⟨w.heap.size,0,none⟩) n n) (w.alloc (.cells (((ps.toList.map (·.2)).map a.eval).flatMap fun v=>v.cells.toList).toArray E)):=by
 obtain ⟨z,hz⟩:=Option.isSome_iff_exists.1 hs3;have hvl:((ps.toList.map (·.2)).map a.eval).length=n:=by
  have h1:=congrArg List.length hs5;simp at h1 ⊢;exact h1
 have hfill : Instr.fill (fun j => some (j * i.size, i.size)) ((Array.range (n * i.size)).map (z.cells[· % z.cells.size]!)) (ps.map fun (i, x) => (i, a.eval x)).toList =
   some (((ps.toList.map (·.2)).map a.eval).flatMap fun v=>v.cells.toList).toArray:=by
  have e1:(ps.map fun (i,x)=>(i,a.eval x)).toList=(((ps.toList.map (·.2)).map a.eval).zipIdx 0).map fun x=>(x.2,x.1):=by
   rw[Array.toList_map];have:=zal4 ps.toList a.eval 0 (by rw[hs5,List.range_eq_range']; congr 1; have h1:=congrArg List.length hs5; simp at h1; simp[h1]);rw[List.map_map];exact this
  rw[e1];exact Go.Great.fill_whole hs2 _ _ hsz (by rw[hvl]; simp)
 by_cases hn:n=0
 ·subst hn;have hp1:ps=#[]:=by
   have h1:=congrArg List.length hs5;simpa using h1
  subst hp1;have e0:(Array.map (fun x=>(default:Value)) (Array.range 0))=#[]:=by simp
  simp[Instr.buildSlice,run_underlying hu,Go.sizeOf,typeInfo,hi,Instr.fill,newRow,e0]
 ·exact run_buildSlice w T E n _ _ i z hu hi hz (by omega) (by have:=Nat.mul_pos (Nat.pos_of_ne_zero hn) hs2; omega) hfill
theorem zahg : ∀ {vs : List Value}, (∀ v ∈ vs, v.oneCell' = true) → (vs.flatMap fun v => v.cells.toList) = vs
 |[],_=>rfl
 |v::vs,h=>by
  have e:v.cells.toList=[v]:=by have:=h v (by simp); cases v<;>simp_all[Value.cells,Value.oneCell']
  rw[List.flatMap_cons,e,zahg (fun x hx=>h x (by simp[hx]))];rfl
theorem zakg (hN:Next K V B G st β c r N) (hI:Inv K V B G (look st) β w) {tm:Nat→Option (PV K.u.U)} {a:Act} (ht:TmOk K G (look st) β tm a) {T E:TypeId} {i:TypeInfo} {n d:Nat} {ps:Array (Nat×Operand)}
  (hd:look st d=none) (hu:K.P.underlying T=some (.slice E)) (hi:K.P.info? E=some i) (hs:i.size=1∧i.zero.isSome=true∧n*i.size≤16777216∧ps.toList.map (·.1)=List.range n∧Nat.blt d zabg=true)
  {qs:List (PV K.u.U)} (hq:evs K tm (ps.toList.map (·.2))=some qs) (hp:qs.all PV.isPtr=true) (h:c (.bslc d n) [(d,.blk E qs)]=some r) :
  ∃ y w',(Instr.buildSlice T n (ps.map fun (i,x)=>(i,a.eval x))).run K.P w=.ok y w'∧N y w':=by
 obtain ⟨hs1,hs3,hs4,hs5,hs6⟩:=hs;have hqr:=zab7 ht hq;have hone:∀ v∈(ps.toList.map (·.2)).map a.eval,v.oneCell'=true:=by
  have key:∀ (l:List (PV K.u.U)) (vs:List Value),l.all PV.isPtr=true→PsRel K G (look st) β l vs→∀ v∈vs,v.oneCell'=true:=by
   intro l;induction l with
   |nil=>intro vs _ h v hv; simp only[PsRel] at h; subst h; cases hv
   |cons p l ih=>
    intro vs hl h v hv;simp only[List.all_cons,Bool.and_eq_true] at hl;simp only[PsRel] at h;obtain ⟨u,rr,rfl,q1,q2⟩:=h;rcases List.mem_cons.1 hv with rfl|hv
    ·cases p<;>first|(cases hl.1; done)|(simp only[PRel] at q1; exact q1.1)
    ·exact ih rr hl.2 q2 v hv
  exact key qs _ hp hqr
 have hrun:=zaet (K:=K) (w:=w) (a:=a) hu hi (by omega) hs3 hs4 hs5 (fun v hv=>by
  rw[hs1];have:=hone v hv;cases v<;>simp_all[Value.cells,Value.oneCell'])
 refine ⟨_,_,hrun,?_⟩;rw[zahg hone];refine hN.made hI (x:=.pointer (some ⟨w.heap.size,0,none⟩)) hd h (fun b hb=>by simpa [blkOf] using hb.symm) (fun _=>by simpa using hs6) (fun hc=>?_) ?_
 ·exact ⟨w.heap.size,_,by simp[upd],heap_alloc_new _ _,hqr.over hc,hone⟩
 ·simp only[PRel];exact ⟨rfl,_,zad6,fun _=>⟨w.heap.size,by simp[upd],rfl⟩⟩
theorem zajx (hN:Next K V B G st β c r N) (hI:Inv K V B G (look st) β w) {tm:Nat→Option (PV K.u.U)} {a:Act} (ht:TmOk K G (look st) β tm a) {T E:TypeId} {e:Ty} {i:TypeInfo} {n d:Nat} {ps:Array (Nat×Operand)}
  (hd:look st d=none) (hu:K.P.underlying T=some (.slice E)) (hi:K.P.info? E=some i) (hs:K.u.plainTy e=true∧i.size=K.u.size e∧0<i.size∧i.zero.isSome=true∧n*i.size≤16777216∧ps.toList.map (·.1)=List.range n)
  {qs:List (PV K.u.U)} (hq:evs K tm (ps.toList.map (·.2))=some qs)
  (h:(match K.deeps (look st) E i.size n qs with
   |some ⟨e',l,ids⟩=>c (.oslc d 0) ((d,.row E 0 e' l)::deads K.u.U ids)
   |none=>(zaa6 (PV.asVal K.u (look st)) (List.replicate n e) qs).bind fun vs=>(unTV e vs).bind fun l=>c (.oslc d 0) ((d,.row E 0 e l)::frzs K.u (look st) (owned qs)))=some r) :
  ∃ y w',(Instr.buildSlice T n (ps.map fun (i,x)=>(i,a.eval x))).run K.P w=.ok y w'∧N y w':=by
 obtain ⟨_,hs1,hs2,hs3,hs4,hs5⟩:=hs;have hqr:=zab7 ht hq;have hnm:n≤maxLen:=by simp[maxLen]; have:n≤n*i.size:=Nat.le_mul_of_pos_right n hs2; omega
 split at h
 ·rename_i e' l ids hdp;obtain ⟨e1,hdp⟩:=zaq5 (K:=K) hdp
  ·unfold Kit.deepsAt at hdp;split at hdp
   ·rename_i hh;obtain ⟨hse,hqn⟩:=hh;simp only[Option.bind_eq_some_iff] at hdp;obtain ⟨⟨vs,ids'⟩,h1,hdp⟩:=hdp;split at hdp
    ·rename_i hdist;simp only[Option.bind_eq_some_iff] at hdp;obtain ⟨l',h2,h3⟩:=hdp;simp only[Option.some.injEq,Sigma.mk.injEq] at h3;obtain ⟨rfl,h3⟩:=h3;have h3:=eq_of_heq h3;cases h3;obtain ⟨F,a1,a2,a3,a4⟩:=zahj hI h1 (zaa4 hdist) hqr;rw[zaiw h2] at a1;have hlen:l'.length=n:=by
      have h1:=a1.length;have h2:=hqr.length;simp at h1 h2;omega
     have hrun:=zaet (K:=K) (w:=w) (a:=a) hu hi hs2 hs3 hs4 hs5 (fun v hv=>by rw[hse]; exact a1.sizes v hv);refine ⟨_,_,hrun,?_⟩;have:=zalx hN hI (E:=E) hd h a1 a3 (cs:=(((ps.toList.map (·.2)).map a.eval).flatMap fun v=>v.cells.toList).toArray) (by simp) (by rw[hlen]; exact hnm);rw[hlen] at this;exact this
    ·cases hdp
   ·cases hdp
 simp only[Option.bind_eq_some_iff] at h;obtain ⟨vs,hvs,l,hl,h⟩:=h;obtain ⟨hI',hc'⟩:=hI.settle (owned qs)
 obtain ⟨hT, _⟩ := zah5 (K := K) (G := G) (G' := Lift.settle K G (look st) β w (owned qs)) (S := look st) (β := β) (I := fun q => ∀ id ∈ owned [q], id ∈ owned qs)
  (fun t p c v hi=>zagx hc'.g (hI.rowsSettled (owned qs)) hi) (fun q hq id hid=>zar2 hq hid) hvs hqr
 rw[zaiw hl] at hT;have hlen:l.length=n:=by
  have h1:=congrArg List.length hs5;have h2:=hT.length;simp at h1 h2;omega
 have hsz:=hT.sizes;have hdn:look (frzs K.u (look st) (owned qs)++st) d=none:=by
  rw[zafb rfl,hd];split<;>rfl
 have hrun:=zaet (K:=K) (w:=w) (a:=a) hu hi hs2 hs3 hs4 hs5 (fun v hv=>by rw[hs1]; exact hsz v hv);refine ⟨_,_,hrun,?_⟩;have hN':Next K V B (Lift.settle K G (look st) β w (owned qs)) (frzs K.u (look st) (owned qs)++st) β (fun p up=>c p (up++frzs K.u (look st) (owned qs))) r N:=by
  intro p up v w2 G2 β2 h1 h2 h3 h4;refine hN p _ v w2 G2 β2 h1 ?_ ?_ ?_
  ·simpa using h2
  ·have:=hc'.trans h3;simpa using this
  ·simpa using h4
 have:=zan1 hN' hI' (E:=E) hdn (by simpa using h) hT (cs:=(((ps.toList.map (·.2)).map a.eval).flatMap fun v=>v.cells.toList).toArray) (by simp) (by rw[hlen]; exact hnm);rw[hlen] at this;exact this
end
end Lift
