/-
  DERIVED. A function's code, evaluated: the values, what they are in memory, the operations' laws. Conditions: none.
-/
import Derived.Test.YtcmhkcpheehlhaaGreatDoorLiftAA
set_option linter.unusedVariables false
set_option linter.unusedSimpArgs false
set_option linter.unusedSectionVars false
namespace Lift
open Go Go.RowKit
theorem zaiw {P:Program} {w:World} (t ty e:TypeId) (i:TypeInfo) (z:Value) (size:Nat) (ht:P.underlying t=some (.slice e)) (hi:P.info? e=some i) (hz:i.zero=some z)
  (hsize:i.size=size) (hzs:z.cells.size=size)
  (v:Value) (n:Nat) (xs:List Value) (hown:w.ownsZ 0 e size v n xs)
  (a:Addr) (m c:Nat) (news:List Value) (hl:news.length=m*size) (hnews:∀ j u,news[j]? = some u→w.cell? (a.add j)=some u) (h1:∀ u∈news,u.oneCell'=true)
  (h63:n+m≤maxLen) (hbytes:(n+m)*i.bytes≤140737488355328) :
  ∃ v' w',(Builtin.append_ #[t,t] ty #[v,.slice (some a) m c]).run P w=.ok v' w'∧w'.ownsZ 0 e size v' (n+m) (xs++news)∧w.grownBy w' v.ownBlock ∧
   (∀ b,blkOf v'=some b→blkOf v=some b∨w.heap.size≤b):=by
 subst hsize;have hsmall:n+m≤9223372036854775807:=by simp only[maxLen] at h63; omega
 have hlen:(xs++news).length=(n+m)*i.size:=by rw[List.length_append,hown.1,hl,Nat.add_mul]
 have grown:∀ (old:Nat),old<n+m→∀ (row:Option Nat),
   (w.drew.alloc (.cells (xs.toArray++news.toArray++Builtin.zeroCells z.cells (grownCap w (n+m) old e-(n+m))) e)).ownsZ 0 e i.size
    (.slice (some ⟨w.heap.size,0,none⟩) (n+m) (grownCap w (n+m) old e)) (n+m) (xs++news) ∧
   w.grownBy (w.drew.alloc (.cells (xs.toArray++news.toArray++Builtin.zeroCells z.cells (grownCap w (n+m) old e-(n+m))) e)) row:=by
  intro old ho row;have hge:=grownCap_ge w (n+m) old e;have hcm:grownCap w (n+m) old e≤maxLen:=grownCap_le_maxLen w (n+m) old e h63;refine ⟨⟨hlen,.inr ⟨w.heap.size,_,_,_,rfl,zah2 _,heap_alloc_new w.drew _,hge,hcm,?_,?_⟩⟩,⟨rfl,rfl,rfl,by simp,fun k hk _=>heap_alloc_old w.drew _ hk⟩⟩
  ·simp only[Array.size_append,List.size_toArray,size_zeroCells,hzs,hown.1,hl,← Nat.add_mul];exact Nat.mul_le_mul_right _ (by omega)
  ·simp only[Array.toList_append,List.append_assoc];rw[← List.append_assoc,← hlen];exact List.take_left
 rcases hown.2 with ⟨rfl,rfl⟩|⟨g,cap,cur,fz,rfl,hbg,hg,hnc,hcm,hcs,htake⟩
 ·have hx:xs=[]:=List.eq_nil_of_length_eq_zero (by simpa using hown.1);subst hx;by_cases hm:m=0
  ·subst hm;have hn:news=[]:=List.eq_nil_of_length_eq_zero (by simpa using hl);subst hn;refine ⟨.slice none 0 0,w,?_,World.ownsZ_nil w 0 e i.size,⟨rfl,rfl,rfl,Nat.le_refl _,fun _ _ _=>rfl⟩,fun b hb=>by simp[blkOf] at hb⟩;simp[Builtin.append_,run_underlying ht,Go.sizeOf,typeInfo,hi,Builtin.lenOf,Builtin.firstCells,loadCells,loadCellsFrom]
  ·have hr:=run_append_nil (P:=P) w t ty e i z ht hi hz a m c news hl hnews (by omega) (by omega) (by have hb:=hbytes; simp only[Nat.zero_add] at hb; omega);have hgr:=grown 0 (by omega) (Value.ownBlock (.slice none 0 0));simp only[Nat.zero_add,List.nil_append,Array.empty_append] at hgr ⊢;exact ⟨_,_,hr,hgr.1,hgr.2,fun b hb=>.inr (by simp[blkOf] at hb; omega)⟩
 ·by_cases hroom:n+m≤cap
  ·have hfit:n*i.size+news.length≤cur.size:=by rw[hl,← Nat.add_mul]; exact Nat.le_trans (Nat.mul_le_mul_right _ hroom) hcs
   have hr:=zal0 (P:=P) w t ty e i ht hi g n cap cur fz hg hbg a m c news hl hnews h1 hroom hfit;refine ⟨_,_,hr,⟨hlen,.inr ⟨g,cap,_,fz,rfl,?_,setRow_heap w g cur _ e _ hg,hroom,hcm,?_,?_⟩⟩,⟨rfl,rfl,rfl,by simp,fun k _ hk=>setRow_other w g k _ (fun e=>hk (by simp[Value.ownBlock,e]))⟩,fun b hb=>.inl hb⟩
   ·have ee:(cur.toList.take (n*i.size)++news++cur.toList.drop (n*i.size+news.length)).toArray.size=cur.size:=by
     simp only[List.size_toArray,List.length_append,List.length_take,List.length_drop,Array.length_toList];omega
    rw[ee]; exact hbg
   ·simp only[List.size_toArray,List.length_append,List.length_take,List.length_drop,Array.length_toList];omega
   ·rw[htake,← hlen];exact List.take_left
  ·have holds:∀ j u,xs[j]? = some u→w.cell? ((⟨g,0,none⟩:Addr).add j)=some u:=hown.cells (g:=g) rfl;have hr:=run_append_grow (P:=P) w t ty e i z ht hi hz ⟨g,0,none⟩ n cap xs hown.1 holds a m c news hl hnews (by omega) (by omega) (growslice_fits (by omega) hbytes);have hgr:=grown cap (by omega) (Value.ownBlock (.slice (some ⟨g,0,none⟩) n cap));exact ⟨_,_,hr,hgr.1,hgr.2,fun b hb=>.inr (by simp[blkOf] at hb; omega)⟩
section
variable {K:Kit} {V:Env} {B:Base} {R:Type}
variable {G:Nat→Option Obj} {S:Nat→Option (Ob K.u.U)} {st:List (Nat×Ob K.u.U)} {β:Nat→Gh} {w w':World} {c:PV K.u.U→Ups K.u.U→Option R} {r:R} {N:Value→World→Prop}
theorem Inv.block_lt (hI:Inv K V B G S β w) {i:Nat} {ob:Ob K.u.U} {b:Nat} (hi:S i=some ob) (hl:ob.live=true) (hb:ob.has (β i) b):b<w.heap.size:=
 (hI.obs i ob hi).lt hl hb
theorem zaud {u:Uni} {G:Nat→Option Obj} {e:Ty} {l:List (e.den u.U)} {v:Value} (h:TRel u G ⟨.slc e,l⟩ v):TRel u G ⟨.slc (e.plain u.pn),zabp u e l⟩ v:=by
 rcases h.slc_inv with ⟨e0,p,rfl⟩|⟨b,off,cap,cur,T,fz,vals,rfl,hc,hG,hT,hL⟩
 ·subst e0;have:zabp u e []=[]:=List.eq_nil_of_length_eq_zero (by rw[zabc]; rfl);rw[this];exact .nil _ _
 ·rw[← zabc u e l];refine .slc _ _ b off cap cur T fz vals (by simpa using hc) hG ?_ (by rw[u.size_plain]; exact hL);have:=HsRel.settle (h:=fun _=>none) (fun _ _ h=>h) (HsRel.ofTsL hT) (fun b hb=>by cases hb);rw[zal1] at this;rw[zakj];exact this
theorem zam9 {U:Nat→Type} {o:Ob U} {x:(k:Ty)×(e:Ty)×List (k.den U×e.den U)} (h:o.mapOf=some x):o=.mp x.1 x.2.1 x.2.2∨o=.fmp x.1 x.2.1 x.2.2:=by
 cases o with
 |mp k e l=>cases h; exact .inl rfl
 |fmp k e l=>cases h; exact .inr rfl
 |_=>cases h
theorem Inv.rowsSettled (hI:Inv K V B G S β w) (ids:List Nat):zaqu K (Lift.settle K G S β w ids) S β (fun id=>id∈ids):=by
 have hG:∀ k o,G k=some o→Lift.settle K G S β w ids k=some o:=fun k o hk=>by
  rcases zaf1 (K:=K) (G:=G) (S:=S) (β:=β) (w:=w) (ids:=ids) (k:=k) with ⟨h,_⟩|h
  ·rw[h]; exact hI.gok k o hk
  ·rw[h]; exact hk
 refine ⟨fun id ob ver x hm hS hn=>?_,fun id ob x hm hS hn=>?_⟩
 ·rcases zag8 hn with ⟨T,rfl⟩|rfl
  ·exact zale (hI.obs id _ hS) hG (fun b hb=>zamx hm hS hb)
  ·exact TRel.mono hG (zaud (show TRel K.u G ⟨.slc x.1,x.2⟩ (β id).v from hI.obs id _ hS))
 ·rcases zam9 hn with rfl|rfl
  ·obtain ⟨b,es,clock,g1,g2,g3,g4⟩:=hI.obs id _ hS;rw[g1];exact .map _ _ _ b es clock ((zajb hm hS rfl (.inl (by simp[g1,blkOf]))).trans g2) (TsRel.mono hG g3) (TsRel.mono hG g4)
  ·exact TRel.mono hG (show TRel K.u G ⟨.map x.1 x.2.1,x.2.2⟩ (β id).v from hI.obs id _ hS)
theorem zalu {G' h':Nat→Option Obj} {F:List Nat} {e:Ty} {l:List (e.den K.u.U)} {vals:List Value} {b off:Nat} {cur:Array Value} {T:TypeId} {fz:Nat×Nat} (hh:w.heap[b]? = some (.cells cur T fz)) (hT:HsRel K.u G' h' F (l.map (TV.mk e)) vals) (hL:Laid cur off (K.u.size e) vals) :
  (∀ j u, (vals.flatMap fun x => x.cells.toList)[j]? = some u → w.cell? ⟨b, off + j, none⟩ = some u) ∧ (vals.flatMap fun x => x.cells.toList).length = l.length * K.u.size e ∧
   (∀ u∈(vals.flatMap fun x=>x.cells.toList),u.oneCell'=true):=by
 ·refine ⟨fun j u hj=>?_,?_,zawu _ (fun z hz x hx=>?_)⟩
  ·rw[zadm hh];have hsz:=hT.sizes;by_cases h0:K.u.size e=0
   ·have:=flat_len vals hsz;rw[h0,Nat.mul_zero] at this;rw[List.eq_nil_of_length_eq_zero this] at hj;simp at hj
   ·rw[Go.Great.flat_get (Nat.pos_of_ne_zero h0) vals hsz] at hj;simp only[Option.bind_eq_some_iff] at hj;obtain ⟨x,hx1,hx2⟩:=hj;have:=(hL _ x hx1).2 _ u hx2;rw[Nat.add_assoc,Nat.mul_comm,Nat.div_add_mod] at this;exact this
  ·rw[flat_len vals hT.sizes];have:=hT.length;simp at this;rw[this]
  ·obtain ⟨d,_,F',hr⟩:=hT.mem hz;exact hr.cells_oneCell hx
theorem zamv {G':Nat→Option Obj} {e:Ty} {l:List (e.den K.u.U)} {vals:List Value} {b off:Nat} {cur:Array Value} {T:TypeId} {fz:Nat×Nat} (hh:w.heap[b]? = some (.cells cur T fz)) (hT:TsRel K.u G' (l.map (TV.mk e)) vals) (hL:Laid cur off (K.u.size e) vals) :
  (∀ j u, (vals.flatMap fun x => x.cells.toList)[j]? = some u → w.cell? ⟨b, off + j, none⟩ = some u) ∧ (vals.flatMap fun x => x.cells.toList).length = l.length * K.u.size e ∧
   (∀ u∈(vals.flatMap fun x=>x.cells.toList),u.oneCell'=true):=zalu (h':=fun _=>none) hh (.ofTsL hT) hL
theorem zarn {G':Nat→Option Obj} {e:Ty} {l:List (e.den K.u.U)} {v:Value} (hok:∀ k o,G' k=some o→w.heap[k]? = some o) (h:TRel K.u G' ⟨.slc e,l⟩ v) :
  (l=[]∧∃ p,v=.slice p 0 0)∨∃ b off cap vals,v=.slice (some ⟨b,off,none⟩) l.length cap∧l.length≤cap∧TsRel K.u G' (l.map (TV.mk e)) vals ∧
   (∀ j u,(vals.flatMap fun x=>x.cells.toList)[j]? = some u→w.cell? ⟨b,off+j,none⟩=some u)∧(vals.flatMap fun x=>x.cells.toList).length=l.length*K.u.size e ∧
   (∀ u∈(vals.flatMap fun x=>x.cells.toList),u.oneCell'=true):=by
 rcases h.slc_inv with h|⟨b,off,cap,cur,T,fz,vals,hv,hc,hG,hT,hL⟩
 ·exact .inl h
 ·exact .inr ⟨b,off,cap,vals,hv,hc,hT,zamv (hok _ _ hG) hT hL⟩
theorem zahx (hI:Inv K V B G (look st) β w) {e e':Ty} {m:List (e'.den K.u.U)} {q:PV K.u.U} {y:Value} (hq:q.deepRow K.u (look st)=none) (h:q.asOwn K.u (look st) (.slc e)=some ⟨.slc e',m⟩) (hy:PRel K G (look st) β q y) :
  e'=e∧((m=[]∧∃ p,y=.slice p 0 0)∨∃ b off cap vals,y=.slice (some ⟨b,off,none⟩) m.length cap∧m.length≤cap∧TsRel K.u G (m.map (TV.mk e')) vals ∧
   (∀ j u,(vals.flatMap fun x=>x.cells.toList)[j]? = some u→w.cell? ⟨b,off+j,none⟩=some u)∧(vals.flatMap fun x=>x.cells.toList).length=m.length*K.u.size e' ∧
   (∀ u∈(vals.flatMap fun x=>x.cells.toList),u.oneCell'=true)):=by
 unfold PV.asOwn at h;split at h
 ·rename_i id ver;split at h
  ·rename_i e2 l hS;split at h
   ·rename_i he;simp only[Option.some.injEq,TV.mk.injEq,Ty.slc.injEq] at h;obtain ⟨rfl,hl⟩:=h;have hl:=eq_of_heq hl;subst hl;refine ⟨by simpa using he,?_⟩;simp only[PRel] at hy;obtain ⟨_,ob,h1,_,h2⟩:=hy;rw[h1,Option.bind_some] at hS;rw[h2 _ (zanr hS)];obtain ⟨vals,F,hT,hFF,hFz,hc⟩:=zaov hI h1 hS;have hT':TsRel K.u G ((zabp K.u e2 l).map (TV.mk (e2.plain K.u.pn))) vals:=by
     refine zaep hT (fun _ _ h=>h) (fun b hb=>?_);have hF:F=[]:=by
      rcases zag8 hS with ⟨T,rfl⟩|rfl
      ·have hp:K.u.plainTy e2=true:=by
        cases hp:K.u.plainTy e2 with
        |true=>rfl
        |false=>simp[PV.deepRow,h1,hp] at hq
       exact (hT.toTsL hp).1
      ·exact hFz rfl
     rw[hF] at hb;cases hb
    rcases hc with ⟨hv,hn⟩|⟨g,off,cap,hv,hcap,cur,T0,fz,hh,hL⟩
    ·refine .inl ⟨?_,hn⟩;have hv:l=[]:=hv;subst hv;exact List.eq_nil_of_length_eq_zero (by rw[zabc]; rfl)
    ·refine .inr ⟨g,off,cap,vals,?_,?_,hT',?_⟩
     ·rw[zabc]; exact hv
     ·rw[zabc]; exact hcap
     ·exact zamv hh hT' (by rw[K.u.size_plain]; exact hL)
   ·cases h
  ·cases h
 ·split at h
  ·split at h
   ·rename_i hh; cases hh
   ·cases h
  ·cases h
 ·obtain ⟨i1,i2⟩:=zab6 h hy;exact ⟨by simpa using i2,zarn hI.gok i1⟩
theorem zaek (hN:Next K V B G st β c r N) (hI:Inv K V B G (look st) β w) {id ver:Nat} {E:TypeId} {e:Ty} {l m:List (e.den K.u.U)} {v:Value} {ids F0:List Nat}
  {vals:List Value} (hT:HsRel K.u G (fun k=>w.heap[k]?) F0 (l.map (TV.mk e)) vals) (hown:w.ownsZ 0 E (K.u.size e) v l.length (vals.flatMap fun x=>x.cells.toList)) (hF0:∀ b∈F0,blkOf v≠some b)
  (hold:(look st id=none∧v=.slice none 0 0∧F0=[])∨∃ ver0 e0 l0,look st id=some (.row E ver0 e0 l0)∧ver0<ver∧(β id).v=v∧F0=(β id).F) (hids:id∉ids)
  (h : c (.oslc id ver) ((id, .row E ver e (l ++ m)) :: deads K.u.U ids) = some r) : ∀ v' w' valm Fm, HsRel K.u G (fun k => w.heap[k]?) Fm (m.map (TV.mk e)) valm → (∀ b ∈ Fm, zabv st β ids b) →
   w'.ownsZ 0 E (K.u.size e) v' (l.length+m.length) ((vals.flatMap fun x=>x.cells.toList)++(valm.flatMap fun x=>x.cells.toList)) →
   w.grownBy w' v.ownBlock→(∀ b,blkOf v'=some b→blkOf v=some b∨w.heap.size≤b)→N v' w':=by
 intro v' w' valm Fm hTm hFm ho hg hbk;have hc:Comp K G G (look st) β (look ((id,.row E ver e (l++m))::(deads K.u.U ids++st))) (upd β id ⟨v',F0++Fm⟩):=Comp.consD (fun _ _ h=>h) (fun ob0 h0=>by
  rcases hold with ⟨h1,_⟩|⟨ver0,e0,l0,h1,h2,h3⟩
  ·rw[h1] at h0; cases h0
  ·rw[h1] at h0;cases h0;refine ⟨(fun hp=>by cases hp),(fun u hu=>?_),(fun ver' x' hm he=>?_)⟩
   ·simp only[Ob.may] at hu ⊢; omega
   ·obtain ⟨rfl,rfl⟩:=zadb he; simp only[Ob.may] at hm; omega)
 have vb:blkOf v=v.ownBlock:=zae5 hown;have live:∀ k,v.ownBlock=some k→∃ ob,look st id=some ob∧ob.live=true∧ob.has (β id) k:=fun k hk=>by
  rcases hold with ⟨_,h2,_⟩|⟨ver0,e0,l0,h1,_,h3,_⟩
  ·rw[h2] at hk; cases hk
  ·exact ⟨_,h1,rfl,.inl (by rw[h3,vb]; exact hk)⟩
 have hFm2:∀ b∈Fm,b∉F0∧blkOf v≠some b:=fun b hb=>by
  obtain ⟨j,ob,j1,j2,j3,j4⟩:=hFm b hb;rcases hold with ⟨_,h2,h3⟩|⟨ver0,e0,l0,h1,_,h3,h4⟩
  ·rw[h3];exact ⟨fun hb=>(by cases hb),by rw[h2]; simp[blkOf]⟩
  ·refine ⟨fun hbF=>hids ?_,fun hbv=>hids ?_⟩
   ·have:=hI.inj j id ob _ b j2 h1 j3 rfl j4 (.inr ⟨rfl,h4▸hbF⟩);exact this▸j1
   ·have:=hI.inj j id ob _ b j2 h1 j3 rfl j4 (.inl (h3▸hbv));exact this▸j1
 have hlt:∀ b∈F0++Fm,b<w.heap.size∧some b≠v.ownBlock:=fun b hb=>by
  rcases List.mem_append.1 hb with hb|hb
  ·obtain ⟨o,ho⟩:=hT.lies b hb;have ho:w.heap[b]? = some o:=ho;exact ⟨(Array.getElem?_eq_some_iff.1 ho).1,fun h=>hF0 b hb (by rw[vb]; exact h.symm)⟩
  ·obtain ⟨o,ho⟩:=hTm.lies b hb;have ho:w.heap[b]? = some o:=ho;exact ⟨(Array.getElem?_eq_some_iff.1 ho).1,fun h=>(hFm2 b hb).2 (by rw[vb]; exact h.symm)⟩
 refine hN _ ((id,_)::deads K.u.U ids) v' w' G (upd β id ⟨v',F0++Fm⟩) h (hI.oneD hg (fun k hk=>?_) (fun _ b hb'=>?_) hc (fun hp=>by cases hp) ?_) hc ?_
 ·obtain ⟨ob,h1⟩:=live k hk;exact ⟨id,ob,.inl rfl,h1⟩
 ·rcases hb' with hb'|⟨_,hb'⟩
  ·rcases hbk b hb' with hv|hv
   ·obtain ⟨ob,h1⟩:=live b (by rw[← vb]; exact hv);exact .inl ⟨id,ob,.inl rfl,h1⟩
   ·exact .inr hv
  ·rcases List.mem_append.1 hb' with hb'|hb'
   ·rcases hold with ⟨_,_,h3⟩|⟨ver0,e0,l0,h1,_,h3,h4⟩
    ·rw[h3] at hb'; cases hb'
    ·exact .inl ⟨id,_,.inl rfl,h1,rfl,.inr ⟨rfl,h4▸hb'⟩⟩
   ·obtain ⟨j,ob,j1,j2⟩:=hFm b hb';exact .inl ⟨j,ob,.inr j1,j2⟩
 ·have eu:upd β id ⟨v',F0++Fm⟩ id=⟨v',F0++Fm⟩:=by simp[upd]
  show ∃ vals,_;rw[eu];refine ⟨vals++valm,?_,?_,fun b hb hbv=>?_⟩
  ·rw[List.map_append];exact (hT.append hTm (fun b hb hb'=>(hFm2 b hb').1 hb)).over (fun _ _ h=>h) (fun b hb=>hg.block b (hlt b hb).1 (hlt b hb).2)
  ·rw[List.flatMap_append,List.length_append];exact ho
  ·rcases hbk b hbv with hv|hv
   ·exact (hlt b hb).2 (by rw[← vb]; exact hv.symm)
   ·have:=(hlt b hb).1; omega
 ·simp only[PRel];refine ⟨?_,_,zabt,Nat.le_refl _,fun _ _=>by simp[upd]⟩;rcases ho.2 with ⟨hv,_⟩|⟨_,_,_,_,hv,_⟩<;>(rw[hv]; rfl)
theorem zaf2 (hN:Next K V B G st β c r N) (hI:Inv K V B G (look st) β w) {id ver:Nat} {T ty E:TypeId} {e:Ty} {l m:List (e.den K.u.U)} {i:TypeInfo} {v y:Value} {ids F0 Fm:List Nat}
  (hu:K.P.underlying T=some (.slice E)) (hi:K.P.info? E=some i) (hs1:i.size=K.u.size e) (hs3:(i.zero.map fun z=>z.cells.size)=some i.size)
  (hb:(l.length+m.length)*i.bytes≤zabi) (hb2:l.length+m.length≤maxLen)
  {vals:List Value} (hT:HsRel K.u G (fun k=>w.heap[k]?) F0 (l.map (TV.mk e)) vals) (hown:w.ownsZ 0 E (K.u.size e) v l.length (vals.flatMap fun x=>x.cells.toList)) (hF0:∀ b∈F0,blkOf v≠some b)
  (hy : (m = [] ∧ ∃ p, y = .slice p 0 0) ∨ ∃ b off cap valm, y = .slice (some ⟨b, off, none⟩) m.length cap ∧ m.length ≤ cap ∧ HsRel K.u G (fun k => w.heap[k]?) Fm (m.map (TV.mk e)) valm ∧
   (∀ j u,(valm.flatMap fun x=>x.cells.toList)[j]? = some u→w.cell? ⟨b,off+j,none⟩=some u)∧(valm.flatMap fun x=>x.cells.toList).length=m.length*K.u.size e ∧
   (∀ u∈(valm.flatMap fun x=>x.cells.toList),u.oneCell'=true)) (hFm:∀ b∈Fm,zabv st β ids b)
  (hold:(look st id=none∧v=.slice none 0 0∧F0=[])∨∃ ver0 e0 l0,look st id=some (.row E ver0 e0 l0)∧ver0<ver∧(β id).v=v∧F0=(β id).F) (hids:id∉ids)
  (h:c (.oslc id ver) ((id,.row E ver e (l++m))::deads K.u.U ids)=some r):∃ v' w',(Builtin.append_ #[T,T] ty #[v,y]).run K.P w=.ok v' w'∧N v' w':=by
 simp only[Option.map_eq_some_iff] at hs3;obtain ⟨z,hz1,hz2⟩:=hs3;have main:=zaek (m:=m) hN hI hT hown hF0 hold hids h;rcases hy with ⟨rfl,p,rfl⟩|⟨b,off,cap,valm,rfl,hcap,hTm,hcell,hlen,hone⟩
 ·cases p with
  |none=>
   refine ⟨v,w,zah8 (P:=K.P) 0 T ty E i (K.u.size e) hu hi v l.length _ hown,?_⟩;exact main v w [] [] (by simpa using HsRel.nil) (fun b hb=>by cases hb) (by simpa using hown) ⟨rfl,rfl,rfl,Nat.le_refl _,fun _ _ _=>rfl⟩ (fun b hb=>.inl hb)
  |some a=>
   obtain ⟨v', w', h1, h2, h3, h4⟩ := zaiw (P := K.P) (w := w) T ty E i z (K.u.size e) hu hi hz1 hs1 (hz2.trans hs1) v l.length _ hown a 0 0 [] (by simp)
    (fun j u hj=>by simp at hj) (by simp) hb2 (by simpa [zabi] using hb)
   exact ⟨v',w',h1,main v' w' [] [] (by simpa using HsRel.nil) (fun b hb=>by cases hb) (by simpa using h2) h3 h4⟩
 ·obtain ⟨v', w', h1, h2, h3, h4⟩ := zaiw (P := K.P) (w := w) T ty E i z (K.u.size e) hu hi hz1 hs1 (hz2.trans hs1) v l.length _ hown ⟨b, off, none⟩ m.length cap (valm.flatMap fun x => x.cells.toList) hlen
   (fun j u hj=>by rw[zacl]; exact hcell j u hj) hone hb2 (by simpa [zabi] using hb)
  exact ⟨v',w',h1,main v' w' valm Fm hTm hFm h2 h3 h4⟩
theorem zahr {u:Uni} {G:Nat→Option Obj}:∀ s:List UInt8,TsRel u G ((ofStr s).map (TV.mk (.int .u8))) (Go.Lib.strCells ⟨s.toArray⟩)
 |[]=>.nil
 |b::s=>by
  have h:=zahr (u:=u) (G:=G) s;unfold Go.Lib.strCells ofStr at h ⊢;simp only[List.map_cons];exact .cons _ _ _ _ (.int _ _) h
theorem zalz (s:ByteArray):((Go.Lib.strCells s).flatMap fun x=>x.cells.toList)=Go.Lib.strCells s:=by
 unfold Go.Lib.strCells;induction s.data.toList with
 |nil=>rfl
 |cons b l ih=>simp only[List.map_cons,List.flatMap_cons,ih]; rfl
theorem zagd {P:Program} {w:World} (t u ty e:TypeId) (i:TypeInfo) (z:Value) (ht:P.underlying t=some (.slice e)) (hu:P.underlying u=some .string) (hi:P.info? e=some i) (hz:i.zero=some z)
  (hsize:i.size=1) (hby:i.bytes=1) (hzs:z.cells.size=1)
  (v:Value) (n:Nat) (xs:List Value) (hown:w.ownsZ 0 e 1 v n xs) (s:ByteArray)
  (h63:n+s.size≤maxLen) (hbytes:n+s.size≤140737488355328) :
  ∃ v' w',(Builtin.append_ #[t,u] ty #[v,.string s]).run P w=.ok v' w'∧w'.ownsZ 0 e 1 v' (n+s.size) (xs++Go.Lib.strCells s)∧w.grownBy w' v.ownBlock ∧
   (∀ b,blkOf v'=some b→blkOf v=some b∨w.heap.size≤b):=by
 have hsmall:n+s.size≤9223372036854775807:=by simp only[maxLen] at h63; omega
 have hsl:=Go.Lib.strCells_length s;have hx1:xs.length=n:=by simpa using hown.1
 have hlen:(xs++Go.Lib.strCells s).length=(n+s.size)*1:=by rw[List.length_append,hx1,hsl,Nat.mul_one]
 have grown:∀ (old:Nat),old<n+s.size→∀ (row:Option Nat),
   (w.drew.alloc (.cells (xs.toArray++(Go.Lib.strCells s).toArray++Builtin.zeroCells z.cells (grownCap w (n+s.size) old e-(n+s.size))) e)).ownsZ 0 e 1
    (.slice (some ⟨w.heap.size,0,none⟩) (n+s.size) (grownCap w (n+s.size) old e)) (n+s.size) (xs++Go.Lib.strCells s) ∧
   w.grownBy (w.drew.alloc (.cells (xs.toArray++(Go.Lib.strCells s).toArray++Builtin.zeroCells z.cells (grownCap w (n+s.size) old e-(n+s.size))) e)) row:=by
  intro old ho row;have hge:=grownCap_ge w (n+s.size) old e;have hcm:grownCap w (n+s.size) old e≤maxLen:=grownCap_le_maxLen w (n+s.size) old e h63;refine ⟨⟨hlen,.inr ⟨w.heap.size,_,_,_,rfl,zah2 _,heap_alloc_new w.drew _,hge,hcm,?_,?_⟩⟩,⟨rfl,rfl,rfl,by simp,fun k hk _=>heap_alloc_old w.drew _ hk⟩⟩
  ·simp only[Array.size_append,List.size_toArray,size_zeroCells,hzs,hx1,hsl,Nat.mul_one];omega
  ·simp only[Array.toList_append,List.append_assoc];rw[← List.append_assoc,← hlen];exact List.take_left
 rcases hown.2 with ⟨rfl,rfl⟩|⟨g,cap,cur,fz,rfl,hbg,hg,hnc,hcm,hcs,htake⟩
 ·have hx:xs=[]:=List.eq_nil_of_length_eq_zero (by simpa using hown.1);subst hx;by_cases hm:s.size=0
  ·have hn:Go.Lib.strCells s=[]:=List.eq_nil_of_length_eq_zero (by rw[hsl,hm]);refine ⟨.slice none 0 0,w,?_,by rw[hn,hm]; exact World.ownsZ_nil w 0 e 1,⟨rfl,rfl,rfl,Nat.le_refl _,fun _ _ _=>rfl⟩,fun b hb=>by simp[blkOf] at hb⟩;have hsd:s=⟨#[]⟩:=by
    cases s with
    |mk d=>
     congr 1;exact Array.eq_empty_of_size_eq_zero hm
   subst hsd;simp[Builtin.append_,run_underlying ht,run_underlying hu,Go.sizeOf,Go.typeInfo,hi,Builtin.lenOf,Builtin.firstCells,loadCells,loadCellsFrom];exact if_pos (c:=(⟨#[]⟩:ByteArray)=ByteArray.empty) rfl
  ·have hr:=run_append_nil_string (P:=P) w t u ty e i z ht hu hi hz s (by omega) (by omega) (by rw[hby]; omega);have hgr:=grown 0 (by omega) (Value.ownBlock (.slice none 0 0));have hcells:(s.data.map (fun b=>Value.int .u8 b.toNat))=(Go.Lib.strCells s).toArray:=by
    unfold Go.Lib.strCells;apply Array.ext';simp
   rw[hcells] at hr;simp only[Nat.zero_add,List.nil_append,Array.empty_append] at hgr ⊢;exact ⟨_,_,hr,hgr.1,hgr.2,fun b hb=>.inr (by simp[blkOf] at hb; omega)⟩
 ·by_cases hroom:n+s.size≤cap
  ·have hfit:n+s.size≤cur.size:=by omega
   have hr:=zaho (P:=P) w t u ty e i ht hu hi hsize g n cap cur fz hg hbg s hroom hfit;refine ⟨_,_,hr,⟨hlen,.inr ⟨g,cap,_,fz,rfl,?_,setRow_heap w g cur _ e _ hg,hroom,hcm,?_,?_⟩⟩,⟨rfl,rfl,rfl,by simp,fun k _ hk=>setRow_other w g k _ (fun e=>hk (by simp[Value.ownBlock,e]))⟩,fun b hb=>.inl hb⟩
   ·have ee:(cur.toList.take n++Go.Lib.strCells s++cur.toList.drop (n+s.size)).toArray.size=cur.size:=by
     simp only[List.size_toArray,List.length_append,List.length_take,List.length_drop,Array.length_toList,hsl];omega
    rw[ee]; exact hbg
   ·simp only[List.size_toArray,List.length_append,List.length_take,List.length_drop,Array.length_toList,hsl];omega
   ·rw[Nat.mul_one] at htake;rw[htake,← hlen];exact List.take_left
  ·have holds:∀ j u,xs[j]? = some u→w.cell? ((⟨g,0,none⟩:Addr).add j)=some u:=hown.cells (g:=g) rfl
   have hr:=Go.Lib.run_append_grow_string (P:=P) w t u ty e i z ht hu hi hz ⟨g,0,none⟩ n cap xs (by rw[hsize,Nat.mul_one]; exact hx1) holds s (by omega) (by omega) (by
    have:=growslice_fits (bytes:=1) (show cap<n+s.size by omega) (by omega);rw[hby]; exact this)
   have hgr:=grown cap (by omega) (Value.ownBlock (.slice (some ⟨g,0,none⟩) n cap));exact ⟨_,_,hr,hgr.1,hgr.2,fun b hb=>.inr (by simp[blkOf] at hb; omega)⟩
theorem zao1 (hN:Next K V B G st β c r N) (hI:Inv K V B G (look st) β w) {d:Nat} {argT:Array TypeId} {ty:TypeId} {p:PV K.u.U} {s:List UInt8} (h:K.appendS d (look st) argT p s c=some r)
  {x:Value} (hx:PRel K G (look st) β p x):∃ v w',(Builtin.append_ argT ty #[x,.string ⟨s.toArray⟩]).run K.P w=.ok v w'∧N v w':=by
 have hsz:(⟨s.toArray⟩:ByteArray).size=s.length:=by simp[ByteArray.size]
 have hol:(ofStr s).length=s.length:=by simp[ofStr]
 unfold Kit.appendS at h;split at h
 ·rename_i T T' hargs;have harg:argT=#[T,T']:=by rw[← Array.toArray_toList (xs:=argT),hargs]
  subst harg;split at h
  ·rename_i E hu hu';split at h
   ·rename_i i _ hi;split at h
    ·split at h
     ·rename_i hd;split at h
      ·rename_i hs;obtain ⟨hs1,hs2,hs3⟩:=hs;simp only[Option.map_eq_some_iff] at hs3;obtain ⟨z,hz1,hz2⟩:=hs3;by_cases hb:s.length≤zabi∧s.length≤maxLen
       ·simp only[hb,decide_true,cond_true,and_self] at h;simp only[PRel] at hx;obtain ⟨rfl,_⟩:=hx;obtain ⟨v',w',h1,h2,h3,h4⟩:=zagd (P:=K.P) (w:=w) T T' ty E i z hu hu' hi hz1 hs1 hs2 hz2 (.slice none 0 0) 0 [] (World.ownsZ_nil _ _ _ _) ⟨s.toArray⟩ (by rw[hsz]; omega) (by have h9:=hb.1; unfold zabi at h9; rw[hsz]; omega);refine ⟨v',w',h1,zaek (e:=.int .u8) (l:=[]) (m:=ofStr s) (vals:=[]) (ids:=[]) (F0:=[]) hN hI .nil (World.ownsZ_nil _ _ _ _) (fun b hb=>by cases hb) (.inl ⟨hd,rfl,rfl⟩) (by simp) (by simpa [deads] using h) v' w' _ [] (.ofTsL (zahr s)) (fun b hb=>by cases hb) ?_ h3 h4⟩;rw[zalz];simpa [hol,hsz,Uni.size] using h2
       ·simp only[hb,decide_false,cond_false] at h; cases h
      ·cases h
     ·cases h
    ·rename_i id ver;split at h
     ·rename_i E' v l hS;split at h
      ·rename_i hs;obtain ⟨rfl,rfl,hs1,hs2,hs3⟩:=hs;simp only[Option.map_eq_some_iff] at hs3;obtain ⟨z,hz1,hz2⟩:=hs3;by_cases hb:l.length+s.length≤zabi∧l.length+s.length≤maxLen
       ·simp only[hb,decide_true,cond_true,and_self] at h;simp only[PRel] at hx;obtain ⟨_,ob,h1,_,h2⟩:=hx;rw[hS] at h1;cases h1;have hxv:=h2 _ zab8;obtain ⟨vals,hT,hown,hap⟩:=hI.obs id _ hS;rw[hxv];obtain ⟨v',w',h1,h2,h3,h4⟩:=zagd (P:=K.P) (w:=w) T T' ty E' i z hu hu' hi hz1 hs1 hs2 hz2 (β id).v l.length _ hown ⟨s.toArray⟩ (by rw[hsz]; exact hb.2) (by have h9:=hb.1; unfold zabi at h9; rw[hsz]; omega);refine ⟨v',w',h1,zaek (e:=.int .u8) (l:=l) (m:=ofStr s) (ids:=[]) hN hI hT hown hap (.inr ⟨_,_,_,hS,Nat.lt_succ_self _,rfl,rfl⟩) (by simp) h v' w' _ [] (.ofTsL (zahr s)) (fun b hb=>by cases hb) ?_ h3 h4⟩;rw[zalz,hol];rw[hsz] at h2;exact h2
       ·simp only[hb,decide_false,cond_false] at h; cases h
      ·cases h
     ·cases h
    ·cases h
   ·cases h
  ·cases h
 ·cases h
theorem zao7 (hN:Next K V B G st β c r N) (hI:Inv K V B G (look st) β w) {d:Nat} {argT:Array TypeId} {ty:TypeId} {p q:PV K.u.U} (hq:q.deepRow K.u (look st)=none) (h:K.appendP d (look st) argT p q c=some r)
  {x y:Value} (hx:PRel K G (look st) β p x) (hy:PRel K G (look st) β q y):∃ v w',(Builtin.append_ argT ty #[x,y]).run K.P w=.ok v w'∧N v w':=by
 unfold Kit.appendP at h;split at h
 ·rename_i T T' hargs;have harg:argT=#[T,T']:=by rw[← Array.toArray_toList (xs:=argT),hargs]
  split at h
  ·rename_i E hT hu;have hT:T'=T:=by simpa using hT
   subst hT;subst harg;split at h
   ·rename_i e i _ hi;split at h
    ·rename_i e' m hm;split at h
     ·rename_i he;subst he;simp only at h;obtain ⟨_,hyS⟩:=zahx hI hq hm hy
      have hyS : (m = [] ∧ ∃ p, y = .slice p 0 0) ∨ ∃ b off cap valm, y = .slice (some ⟨b, off, none⟩) m.length cap ∧ m.length ≤ cap ∧ HsRel K.u G (fun k => w.heap[k]?) [] (m.map (TV.mk e')) valm ∧
        (∀ j u,(valm.flatMap fun x=>x.cells.toList)[j]? = some u→w.cell? ⟨b,off+j,none⟩=some u)∧(valm.flatMap fun x=>x.cells.toList).length=m.length*K.u.size e'∧(∀ u∈(valm.flatMap fun x=>x.cells.toList),u.oneCell'=true):=by
       rcases hyS with h|⟨b,off,cap,valm,a1,a2,a3,a4⟩
       ·exact .inl h
       ·exact .inr ⟨b,off,cap,valm,a1,a2,.ofTsL a3,a4⟩
      split at h
      ·
       split at h
       ·rename_i hd;split at h
        ·rename_i hs;obtain ⟨_,hs1,hs2,hs3⟩:=hs;by_cases hb:m.length*i.bytes≤zabi∧m.length≤maxLen
         ·simp only[hb,decide_true,cond_true,and_self] at h;simp only[PRel] at hx;obtain ⟨rfl,_⟩:=hx;exact zaf2 hN hI (l:=[]) (vals:=[]) (ids:=[]) (F0:=[]) hu hi hs1 hs3 (by simpa using hb.1) (by simpa using hb.2) .nil (World.ownsZ_nil _ _ _ _) (fun b hb=>by cases hb) hyS (fun b hb=>by cases hb) (.inl ⟨hd,rfl,rfl⟩) (by simp) (by simpa [deads] using h)
         ·simp only[hb,decide_false,cond_false] at h; cases h
        ·cases h
       ·cases h
      ·rename_i id ver;split at h
       ·rename_i E' v e'' l hS;split at h
        ·rename_i he;subst he;split at h
         ·rename_i hs;obtain ⟨_,rfl,rfl,hs1,hs2,hs3⟩:=hs;by_cases hb:(l.length+m.length)*i.bytes≤zabi∧l.length+m.length≤maxLen
          ·simp only[hb,decide_true,cond_true,and_self] at h;simp only[PRel] at hx;obtain ⟨_,ob,h1,_,h2⟩:=hx;rw[hS] at h1;cases h1;have hxv:=h2 _ zab8;obtain ⟨vals,hT,hown,hap⟩:=hI.obs id _ hS;rw[hxv];exact zaf2 (ids:=[]) hN hI hu hi hs1 hs3 hb.1 hb.2 hT hown hap hyS (fun b hb=>by cases hb) (.inr ⟨_,_,_,hS,Nat.lt_succ_self _,rfl,rfl⟩) (by simp) h
          ·simp only[hb,decide_false,cond_false] at h; cases h
         ·cases h
        ·cases h
       ·cases h
      ·cases h
     ·cases h
    ·cases h
   ·cases h
  ·cases h
 ·cases h
theorem zao0 (hN:Next K V B G st β c r N) (hI:Inv K V B G (look st) β w) {d:Nat} {argT:Array TypeId} {ty:TypeId} {p:PV K.u.U} {qid:Nat} (h:K.appendD d (look st) argT p qid c=some r)
  {x y:Value} (hx:PRel K G (look st) β p x) (hy:y=(β qid).v):∃ v w',(Builtin.append_ argT ty #[x,y]).run K.P w=.ok v w'∧N v w':=by
 subst hy;unfold Kit.appendD at h;split at h
 ·rename_i T T' hargs;have harg:argT=#[T,T']:=by rw[← Array.toArray_toList (xs:=argT),hargs]
  split at h
  ·rename_i E hT hu;have hT:T'=T:=by simpa using hT
   subst hT;subst harg;split at h
   ·rename_i i E'' qv e m hi hqS;obtain ⟨qvals,q1,q2,q3⟩:=hI.obs qid _ hqS
    have hyS : (m = [] ∧ ∃ p, (β qid).v = .slice p 0 0) ∨ ∃ b off cap valm, (β qid).v = .slice (some ⟨b, off, none⟩) m.length cap ∧ m.length ≤ cap ∧ HsRel K.u G (fun k => w.heap[k]?) (β qid).F (m.map (TV.mk e)) valm ∧
      (∀ j u,(valm.flatMap fun x=>x.cells.toList)[j]? = some u→w.cell? ⟨b,off+j,none⟩=some u)∧(valm.flatMap fun x=>x.cells.toList).length=m.length*K.u.size e∧(∀ u∈(valm.flatMap fun x=>x.cells.toList),u.oneCell'=true):=by
     rcases q2.2 with ⟨hv,hn⟩|⟨g,cap,cur,fz,hv,hz,hh,hc1,hc2,hc3,htake⟩
     ·exact .inl ⟨List.eq_nil_of_length_eq_zero hn,none,hv⟩
     ·exact .inr ⟨g,0,cap,qvals,hv,hc1,q1,zalu hh q1 (zah4 q1.sizes htake)⟩
    have hFm:∀ b∈(β qid).F,zabv st β [qid] b:=fun b hb=>⟨qid,_,by simp,hqS,rfl,.inr ⟨rfl,hb⟩⟩
    split at h
    ·split at h
     ·rename_i hd;split at h
      ·rename_i hs;obtain ⟨rfl,hs1,hs2,hs3⟩:=hs;by_cases hb:m.length*i.bytes≤zabi∧m.length≤maxLen
       ·simp only[hb,decide_true,cond_true,and_self] at h;simp only[PRel] at hx;obtain ⟨rfl,_⟩:=hx;have hne:d≠qid:=fun h=>by subst h; rw[hqS] at hd; cases hd
        exact zaf2 hN hI (l:=[]) (vals:=[]) (ids:=[qid]) (F0:=[]) hu hi hs1 hs3 (by simpa using hb.1) (by simpa using hb.2) .nil (World.ownsZ_nil _ _ _ _) (fun b hb=>by cases hb) hyS hFm (.inl ⟨hd,rfl,rfl⟩) (by simpa using hne) (by simpa [deads] using h)
       ·simp only[hb,decide_false,cond_false] at h; cases h
      ·cases h
     ·cases h
    ·rename_i id ver;split at h
     ·rename_i E' v e'' l hS;split at h
      ·rename_i he;subst he;split at h
       ·rename_i hs;obtain ⟨rfl,hne,rfl,rfl,hs1,hs2,hs3⟩:=hs;by_cases hb:(l.length+m.length)*i.bytes≤zabi∧l.length+m.length≤maxLen
        ·simp only[hb,decide_true,cond_true,and_self] at h;simp only[PRel] at hx;obtain ⟨_,ob,h1,_,h2⟩:=hx;rw[hS] at h1;cases h1;have hxv:=h2 _ zab8;obtain ⟨vals,hT,hown,hap⟩:=hI.obs id _ hS;rw[hxv];exact zaf2 (ids:=[qid]) hN hI hu hi hs1 hs3 hb.1 hb.2 hT hown hap hyS hFm (.inr ⟨_,_,_,hS,Nat.lt_succ_self _,rfl,rfl⟩) (by simpa using hne) (by simpa [deads] using h)
        ·simp only[hb,decide_false,cond_false] at h; cases h
       ·cases h
      ·cases h
     ·cases h
    ·cases h
   ·cases h
  ·cases h
 ·cases h
theorem zarf (hN:Next K V B G st β c r N) (hI:Inv K V B G (look st) β w) {d:Nat} {argT:Array TypeId} {ty:TypeId} {p q:PV K.u.U} (h:K.append d (look st) argT p q c=some r)
  {x y:Value} (hx:PRel K G (look st) β p x) (hy:PRel K G (look st) β q y):∃ v w',(Builtin.append_ argT ty #[x,y]).run K.P w=.ok v w'∧N v w':=by
 unfold Kit.append at h;split at h
 ·rename_i qid hq;refine zao0 hN hI h hx ?_;unfold PV.deepRow at hq;split at hq
  ·rename_i id ver;split at hq
   ·rename_i hS;split at hq
    ·rename_i hh;cases hq;simp only[PRel] at hy;obtain ⟨_,ob,h1,_,h2⟩:=hy;rw[hS] at h1;cases h1;exact h2 _ (by rw[hh.1]; exact zab8)
    ·cases hq
   ·cases hq
  ·cases hq
 ·rename_i hq;exact zao7 hN hI hq h hx hy
end
end Lift
namespace Lift
open Go Go.RowKit
section
variable {K:Kit} {V:Env} {B:Base} {R:Type}
variable {G:Nat→Option Obj} {S:Nat→Option (Ob K.u.U)} {st:List (Nat×Ob K.u.U)} {β:Nat→Gh} {w w':World} {c:PV K.u.U→Ups K.u.U→Option R} {r:R} {N:Value→World→Prop}
theorem zahy {k : IntKind} {G' : Nat → Option Obj} : ∀ {l : List Int} {vals : List Value}, TsRel K.u G' (l.map (TV.mk (.int k))) vals → (vals.flatMap fun x => x.cells.toList) = l.map (Value.int k)
 |[],vals,h=>by cases h; rfl
 |n::l,vals,h=>by
  simp only[List.map_cons] at h;cases h with
  |cons _ _ v vs h1 h2=>
   rw[h1.int_inv];simp only[List.flatMap_cons,List.map_cons,zahy h2];rfl
theorem zah3 (ns:List Int):runesBytes ns=⟨(zag4 ns).toArray⟩:=by
 have h:∀ (ns:List Int) (s:ByteArray),ns.foldl (fun r n=>r++Utf8.encode n) s=⟨(s.data.toList++zag4 ns).toArray⟩:=by
  intro ns;induction ns with
  |nil=>intro s; simp[zag4]
  |cons n ns ih=>
   intro s;simp only[List.foldl_cons,ih,zag4,List.flatMap_cons];simp
 have:=h ns ByteArray.empty;simpa [runesBytes] using this
theorem zaml (ns:List Int):ns.foldl (fun r n=>r.push (UInt8.ofNat n.toNat)) ByteArray.empty=⟨(bytesOf ns).toArray⟩:=by
 have h:∀ (ns:List Int) (s:ByteArray),ns.foldl (fun r n=>r.push (UInt8.ofNat n.toNat)) s=⟨(s.data.toList++bytesOf ns).toArray⟩:=by
  intro ns;induction ns with
  |nil=>intro s; simp[bytesOf]
  |cons n ns ih=>
   intro s;simp only[List.foldl_cons,ih,bytesOf,List.map_cons];simp[ByteArray.push]
 have:=h ns ByteArray.empty;simpa using this
theorem zai0 {k:IntKind} {p:PV K.u.U} {x:TV K.u.U} {S:Nat→Option (Ob K.u.U)} (h:p.asOwn K.u S (.slc (.int k))=some x):p.deepRow K.u S=none:=by
 unfold PV.asOwn at h;split at h
 ·rename_i id ver;split at h
  ·rename_i e2 l hS;split at h
   ·rename_i he;simp only[Ty.slc.injEq] at he;have hp:K.u.plainTy e2=true:=by cases e2<;>first|rfl|(cases he)
    simp only[Option.bind_eq_some_iff] at hS;obtain ⟨ob,h1,h2⟩:=hS;unfold PV.deepRow;simp only[h1];rcases zag8 h2 with ⟨T,rfl⟩|rfl
    ·simp[hp]
    ·rfl
   ·cases h
  ·cases h
 ·split at h
  ·split at h
   ·rename_i hh; cases hh
   ·cases h
  ·cases h
 ·unfold PV.deepRow;split
  ·simp[PV.asFlat] at h
  ·rfl
theorem zata (hI:Inv K V B G (look st) β w) {src dst:TypeId} {p:PV K.u.U} {c:TV K.u.U→Option R} (h:K.conv (look st) src dst p c=some r) {x:Value} (hx:PRel K G (look st) β p x) :
  ∃ v z,c v=some r∧TRel K.u G v z∧(convert src dst x).run K.P w=.ok z w:=by
 unfold Kit.conv at h;split at h
 ·rename_i k hd;split at h
  ·rename_i k0 n;simp only[PRel] at hx;rw[hx.int_inv];split at h
   ·rename_i ds hs;refine ⟨_,_,h,.int _ _,?_⟩;unfold convert;simp only[Sem.run_bind,run_underlying hs,run_underlying hd,Result.andThen_ok];cases ds<;>rfl
   ·cases h
  ·cases h
 ·rename_i hd;split at h
  ·rename_i hs;split at h
   ·rename_i s;simp only[PRel] at hx;rw[hx.str_inv];exact ⟨_,_,h,.str _,by unfold convert; simp[run_underlying hs,run_underlying hd]⟩
   ·cases h
  ·rename_i E hs;split at h
   ·rename_i he;split at h
    ·rename_i l hl;obtain ⟨_,hS⟩:=zahx hI (zai0 hl) hl hx;refine ⟨_,_,h,.str _,?_⟩;rcases hS with ⟨rfl,p,rfl⟩|⟨b,off,cap,vals,rfl,hcap,hT,hcell,hlen,_⟩
     ·cases p with
      |none=>unfold convert; simp[run_underlying hs,run_underlying hd,run_underlying he,Conv.bytesToString,bytesOf]; rfl
      |some a=>
       have hL:=run_loadCells_list (P:=K.P) w a (([]:List Int).map (Value.int .u8)) (fun j v hv=>by simp at hv);have:=run_bytesToString (P:=K.P) w a 0 0 [] (by simpa using hL);rw[zaml] at this;unfold convert;simp[run_underlying hs,run_underlying hd,run_underlying he,this];try rfl
     ·have hf:=zahy hT;have hL:=run_loadCells_list (P:=K.P) w ⟨b,off,none⟩ (l.map (Value.int .u8)) (fun j v hv=>by rw[zacl]; exact hcell j v (by rw[hf]; exact hv));have:=run_bytesToString (P:=K.P) w ⟨b,off,none⟩ l.length cap l (by simpa using hL);rw[zaml] at this;unfold convert;simp[run_underlying hs,run_underlying hd,run_underlying he,this]
    ·cases h
   ·rename_i he;split at h
    ·rename_i l hl;obtain ⟨_,hS⟩:=zahx hI (zai0 hl) hl hx;refine ⟨_,_,h,.str _,?_⟩;rcases hS with ⟨rfl,p,rfl⟩|⟨b,off,cap,vals,rfl,hcap,hT,hcell,hlen,_⟩
     ·cases p with
      |none=>unfold convert; simp[run_underlying hs,run_underlying hd,run_underlying he,Conv.runesToString,zag4]; rfl
      |some a=>
       have hL:=run_loadCells_list (P:=K.P) w a (([]:List Int).map (Value.int .i32)) (fun j v hv=>by simp at hv);have:=run_runesToString (P:=K.P) w a 0 0 [] (by simpa using hL);rw[zah3] at this;unfold convert;simp[run_underlying hs,run_underlying hd,run_underlying he,this];try rfl
     ·have hf:=zahy hT;have hL:=run_loadCells_list (P:=K.P) w ⟨b,off,none⟩ (l.map (Value.int .i32)) (fun j v hv=>by rw[zacl]; exact hcell j v (by rw[hf]; exact hv));have:=run_runesToString (P:=K.P) w ⟨b,off,none⟩ l.length cap l (by simpa using hL);rw[zah3] at this;unfold convert;simp[run_underlying hs,run_underlying hd,run_underlying he,this]
    ·cases h
   ·cases h
  ·cases h
 ·cases h
theorem zae9 {P:Program} {isSlice:Bool} {len cap:Nat} {lov hiv:Option Value} {l h:Int}
  (hl:(lov=none∧l=0)∨∃ k,lov=some (.int k l)) (hh:(hiv=none∧h=len)∨∃ k,hiv=some (.int k h)) (h0:0≤l) (h1:l≤h) (h2:h≤len) (hc:len≤cap) :
  (Instr.sliceBounds isSlice len cap lov hiv none).run P w=.ok (l.toNat,h.toNat,cap) w:=by
 have e1:0≤h:=by omega
 have e2:h≤(cap:Int):=by omega
 have e3:(h.toNat:Int)=h:=by omega
 rcases hl with ⟨rfl,rfl⟩|⟨k,rfl⟩<;>rcases hh with ⟨rfl,rfl⟩|⟨k',rfl⟩ <;>
  simp[Instr.sliceBounds,Instr.sliceBound,asIntOf,e1,e2,e3,h0,h1]<;>omega
theorem zak4 {G':Nat→Option Obj} (_hok:∀ k o,G' k=some o→w.heap[k]? = some o) {E:TypeId} {e:Ty} {s:List (e.den K.u.U)} {x:Value} (hx:TRel K.u G' ⟨.slc e,s⟩ x)
  {T:TypeId} (hu:K.P.underlying T=some (.slice E)) (hsz:szT K.P E=some (K.u.size e)) {lov hiv:Option Value} {l h:Int}
  (hl:(lov=none∧l=0)∨∃ k,lov=some (.int k l)) (hh:(hiv=none∧h=s.length)∨∃ k,hiv=some (.int k h)) (h0:0≤l) (h1:l≤h) (h2:h≤s.length) :
  ∃ z,(Instr.sliceAt T x lov hiv none).run K.P w=.ok z w∧TRel K.u G' ⟨.slc e,(s.take h.toNat).drop l.toNat⟩ z:=by
 rcases hx.slc_inv with ⟨rfl,p,rfl⟩|⟨b,off,cap,cur,TT,fz,vals,rfl,hc,hG,hT,hL⟩
 ·have hb:=zae9 (P:=K.P) (w:=w) (isSlice:=true) (len:=0) (cap:=0) hl (by simpa using hh) h0 h1 (by simpa using h2) (Nat.le_refl _);simp at h2;have el:l=0:=by omega
  have eh:h=0:=by omega
  subst el eh;cases p with
  |none=>exact ⟨.slice none 0 0,by simp[Instr.sliceAt,Instr.slice,run_underlying hu,hb,zab1 hsz],by simpa using TRel.nil e none⟩
  |some a=>exact ⟨.slice (some a) 0 0,by simp[Instr.sliceAt,Instr.slice,run_underlying hu,hb,zab1 hsz],by simpa using TRel.nil e (some a)⟩
 ·have hb:=zae9 (P:=K.P) (w:=w) (isSlice:=true) (len:=s.length) (cap:=cap) hl hh h0 h1 h2 hc;have hlen:=hT.length;simp at hlen;have hdt:TsRel K.u G' (((s.take h.toNat).drop l.toNat).map (TV.mk e)) ((vals.take h.toNat).drop l.toNat):=by
   rw[List.map_drop,List.map_take];exact (hT.take _).drop _
  have hnl:((s.take h.toNat).drop l.toNat).length=h.toNat-l.toNat:=by simp; omega
  by_cases hm:cap=l.toNat
  ·have e0:h.toNat-l.toNat=0:=by omega
   refine ⟨.slice (some ⟨b,off,none⟩) (h.toNat-l.toNat) (cap-l.toNat),by simp only[Instr.sliceAt,Instr.slice,Sem.run_bind,run_underlying hu,Result.andThen_ok,hb,zab1 hsz,if_pos hm,Sem.run_pure],?_⟩;rw[← hnl];refine .slc e _ b off _ cur TT fz _ (by omega) hG hdt (fun i x hx=>?_);have:((vals.take h.toNat).drop l.toNat).length=0:=by simp; omega
   rw[List.eq_nil_of_length_eq_zero this] at hx;simp at hx
  ·refine ⟨.slice (some ⟨b,off+l.toNat*K.u.size e,none⟩) (h.toNat-l.toNat) (cap-l.toNat),by simp[Instr.sliceAt,Instr.slice,run_underlying hu,hb,zab1 hsz,hm,zacl],?_⟩;rw[← hnl];refine .slc e _ b _ _ cur TT fz _ (by omega) hG hdt (fun i x hx=>?_);rw[List.getElem?_drop,List.getElem?_take] at hx;split at hx
   ·obtain ⟨a1,a2⟩:=hL _ x hx;refine ⟨a1,fun j c hc=>?_⟩;have:=a2 j c hc;rw[Nat.add_mul] at this;rw[show off+l.toNat*K.u.size e+i*K.u.size e+j=off+(l.toNat*K.u.size e+i*K.u.size e)+j by omega];exact this
   ·cases hx
theorem zau4 (hN:Next K V B G st β c r N) (hI:Inv K V B G (look st) β w) {T:TypeId} {p:PV K.u.U} {lo hi:Option (PV K.u.U)} (h:K.slc (look st) T p lo hi c=some r)
  {x:Value} (hx:PRel K G (look st) β p x) {lov hiv:Option Value} (hlo:(lo=none∧lov=none)∨∃ q v,lo=some q∧lov=some v∧PRel K G (look st) β q v)
  (hhi:(hi=none∧hiv=none)∨∃ q v,hi=some q∧hiv=some v∧PRel K G (look st) β q v) :
  ∃ z,(Instr.sliceAt T x lov hiv none).run K.P w=.ok z w∧N z w:=by
 have bd:∀ {d:Nat} {o:Option (PV K.u.U)} {ov:Option Value} {n:Int},bound d o=some n→((o=none∧ov=none)∨∃ q v,o=some q∧ov=some v∧PRel K G (look st) β q v)→(ov=none∧n=d)∨∃ k,ov=some (.int k n):=by
  intro d o ov n hb ho;rcases ho with ⟨rfl,rfl⟩|⟨q,v,rfl,rfl,hq⟩
  ·simp[bound] at hb;exact .inl ⟨rfl,hb.symm⟩
  ·unfold bound at hb;split at hb
   ·rename_i he; cases he
   ·rename_i k m he;cases he;simp only[PRel] at hq;simp at hb;subst hb;exact .inr ⟨k,by rw[hq.int_inv]⟩
   ·cases hb
 unfold Kit.slc at h;split at h
 ·rename_i hu;split at h
  ·rename_i s;simp only[Option.bind_eq_some_iff] at h;obtain ⟨l,hl,hh,hhb,h⟩:=h;by_cases hc:0≤l∧l≤hh∧hh≤(s.length:Int)
   ·obtain ⟨c1,c2,c3⟩:=hc;simp only[c1,c2,c3,decide_true,Bool.and_self,cond_true] at h;simp only[PRel] at hx;rw[hx.str_inv];have hb:=zae9 (P:=K.P) (w:=w) (isSlice:=false) (len:=(⟨s.toArray⟩:ByteArray).size) (cap:=(⟨s.toArray⟩:ByteArray).size) (bd hl hlo) (by simpa [ByteArray.size] using bd hhb hhi) c1 c2 (by simpa [ByteArray.size] using c3) (Nat.le_refl _);have he:(⟨s.toArray⟩:ByteArray).extract l.toNat hh.toNat=⟨((s.take hh.toNat).drop l.toNat).toArray⟩:=by
     apply ByteArray.ext;apply Array.ext';rw[ByteArray.data_extract];simp[List.drop_take]
    refine ⟨_,by simp only[Instr.sliceAt,Instr.slice,Sem.run_bind,run_underlying hu,Result.andThen_ok,hb,Option.isSome_none,Bool.false_eq_true,if_false,Sem.run_pure,he]; rfl,hN.plain hI h (by simp only[PRel]; exact .str _)⟩
   ·have:(decide (0≤l)&&(decide (l≤hh)&&decide (hh≤(s.length:Int))))=false:=by simp; omega
    rw[this] at h; cases h
  ·cases h
 ·rename_i E hu;split at h
  ·rename_i e s;simp only[Option.bind_eq_some_iff] at h;obtain ⟨l,hl,hh,hhb,n,hn,h⟩:=h;split at h
   ·rename_i hne;subst hne;by_cases hc:0≤l∧l≤hh∧hh≤(s.length:Int)
    ·obtain ⟨c1,c2,c3⟩:=hc;simp only[c1,c2,c3,decide_true,Bool.and_self,cond_true] at h;simp only[PRel] at hx;obtain ⟨z,h1,h2⟩:=zak4 hI.gok hx hu hn (bd hl hlo) (bd hhb hhi) c1 c2 c3;exact ⟨z,h1,hN.plain hI h (by simp only[PRel]; exact h2)⟩
    ·have:(decide (0≤l)&&(decide (l≤hh)&&decide (hh≤(s.length:Int))))=false:=by simp; omega
     rw[this] at h; cases h
   ·cases h
  ·rename_i id ver;split at h
   ·rename_i e s hS;simp only[Option.bind_eq_some_iff] at h;obtain ⟨l,hl,hh,hhb,n,hn,h⟩:=h;split at h
    ·rename_i hne;subst hne;by_cases hc:0≤l∧l≤hh∧hh≤(s.length:Int)
     ·obtain ⟨c1,c2,c3⟩:=hc;simp only[c1,c2,c3,decide_true,Bool.and_self,cond_true] at h;simp only[PRel] at hx;obtain ⟨_,ob,h1,_,h2⟩:=hx;rw[h1,Option.bind_some] at hS;have hxv:=h2 _ (zanr hS);obtain ⟨hI',hc'⟩:=hI.settle [id];have hr:=(hI.rowsSettled [id]).1 id _ _ _ (by simp) h1 hS;rw[hxv];obtain ⟨z,h3,h4⟩:=zak4 hI'.gok hr hu (by rw[K.u.size_plain]; exact hn) (bd hl hlo) (bd (by rw[zabc]; exact hhb) hhi) c1 c2 (by rw[zabc]; exact c3);exact ⟨z,h3,hN _ _ z w _ β h hI' hc' (by simp only[PRel]; exact h4)⟩
     ·have:(decide (0≤l)&&(decide (l≤hh)&&decide (hh≤(s.length:Int))))=false:=by simp; omega
      rw[this] at h; cases h
    ·cases h
   ·cases h
  ·cases h
 ·cases h
end
end Lift
namespace Lift
open Go Go.RowKit
section
variable {K:Kit} {V:Env} {B:Base} {R:Type}
variable {G G':Nat→Option Obj} {S:Nat→Option (Ob K.u.U)} {st:List (Nat×Ob K.u.U)} {β:Nat→Gh} {w w':World} {c:PV K.u.U→Ups K.u.U→Option R} {r:R} {N:Value→World→Prop}
theorem zaie {P:Program} {T:TypeId} {fs:Array Field} {f n:Nat} {fd:Field} {b o:Nat} (hu:P.underlying T=some (.struct fs)) (hf:fs[f]? = some fd) (hs:szT P fd.type=some (n+1)) :
  (Instr.fieldAt T (.pointer (some ⟨b,o,none⟩)) f).run P w=.ok (.pointer (some ⟨b,o+fd.offset,none⟩)) w:=by
 simp[Instr.fieldAt,run_underlying hu,hf,Instr.sureAddr,fieldPlace,zab1 hs,zacl]
theorem zarp (hN:Next K V B G st β c r N) (hI:Inv K V B G (look st) β w) {T:TypeId} {q:PV K.u.U} {f n:Nat} {u:Value} {fs:Array Field} {fd:Field} (hq:PRel K G (look st) β q u)
  (hu:K.P.underlying T=some (.struct fs)) (hf:fs[f]? = some fd) (hs:szT K.P fd.type=some (n+1))
  (h:(match (some q:Option (PV K.u.U)) with
     |some (.ptr id off)=>match look st id with
      |some (.blk _ _)=>c (.ptr id (off+fd.offset)) []
      |_=>none
     |some (.rptr v off)=>c (.rptr v (off+fd.offset)) []
     |some (.eptr id ver i off)=>c (.eptr id ver i (off+fd.offset)) []
     |_=>none)=some r):∃ y,(Instr.fieldAt T u f).run K.P w=.ok y w∧N y w:=by
 split at h
 ·rename_i id off heq;cases heq;split at h
  ·rename_i cs hS;simp only[PRel] at hq;obtain ⟨_,ob,h1,h2⟩:=hq;rw[hS] at h1;cases h1;have hv:=h2 rfl;obtain ⟨b,vs,hb,hh,hps,h1c⟩:=hI.obs id _ hS;simp[hb,zabd] at hv;subst hv;refine ⟨_,zaie hu hf hs,hN.plain hI h ?_⟩;simp only[PRel];exact ⟨rfl,_,hS,fun _=>by simp[hb,zabd]⟩
  ·cases h
 ·rename_i v off heq;cases heq;simp only[PRel] at hq;obtain ⟨b,o,cur,E,fz,x,rfl,hG,hx,hc⟩:=hq;refine ⟨_,zaie hu hf hs,hN.plain hI h ?_⟩;simp only[PRel];exact ⟨b,o,cur,E,fz,x,by rw[Nat.add_assoc],hG,hx,hc⟩
 ·rename_i id ver i off heq;cases heq;simp only[PRel] at hq;obtain ⟨⟨b,o,rfl⟩,ob,h3,hm,h4⟩:=hq;refine ⟨_,zaie hu hf hs,hN.plain hI h ?_⟩;simp only[PRel];refine ⟨⟨_,_,rfl⟩,_,h3,hm,fun x' he=>?_⟩;obtain ⟨hi,hu'⟩:=h4 _ he;refine ⟨hi,?_⟩;rcases zal2 hI h3 he with ⟨hn,_⟩|⟨g,off0,cap,hvv,_⟩
  ·rw[hn] at hi; simp at hi
  ·simp only[hvv,zabd,Value.pointer.injEq,Option.some.injEq,Addr.mk.injEq,and_true] at hu' ⊢;exact ⟨hu'.1,by omega⟩
 ·cases h
theorem zafy {P:Program} {T E:TypeId} {n len cap b o:Nat} {k:IntKind} {i:Int} (hu:P.underlying T=some (.slice E)) (hs:szT P E=some n) (h0:0≤i) (h1:i<len) :
  (Instr.indexAt T (.slice (some ⟨b,o,none⟩) len cap) (.int k i)).run P w=.ok (.pointer (some ⟨b,o+i.toNat*n,none⟩)) w:=by
 simp[Instr.indexAt,asIntOf,run_underlying hu,h0,h1,zab1 hs,zacl]
theorem zark (hN:Next K V B G st β c r N) (hI:Inv K V B G (look st) β w) {T E:TypeId} {e:Ty} {l:List (e.den K.u.U)} {x:Value} {k:IntKind} {i:Int} (hx:TRel K.u G ⟨.slc e,l⟩ x)
  (hu:K.P.underlying T=some (.slice E)) (hs:szT K.P E=some (K.u.size e)) (h:(bif decide (0≤i) then (l[i.toNat]?).bind fun y=>c (.rptr ⟨e,y⟩ 0) [] else none)=some r) :
  ∃ y,(Instr.indexAt T x (.int k i)).run K.P w=.ok y w∧N y w:=by
 by_cases h0:0≤i
 ·simp only[h0,decide_true,cond_true,Option.bind_eq_some_iff] at h;obtain ⟨y,hy,h⟩:=h;have hlt:i.toNat<l.length:=(List.getElem?_eq_some_iff.1 hy).1;rcases hx.slc_inv with ⟨rfl,_,_⟩|⟨b,off,cap,cur,TT,fz,vals,rfl,hc,hG,hT,hL⟩
  ·simp at hlt
  ·obtain ⟨v,hv1,hv2⟩:=hT.get i.toNat (c:=⟨e,y⟩) (by simp[hy]);refine ⟨_,zafy hu hs h0 (by omega),hN.plain hI h ?_⟩;simp only[PRel];exact ⟨b,off+i.toNat*K.u.size e,cur,TT,fz,v,by simp,hG,hv2,fun j u hj=>(hL _ v hv1).2 j u hj⟩
 ·simp only[h0,decide_false,cond_false] at h; cases h
theorem zavh (hN:Next K V B G st β c r N) (hI:Inv K V B G (look st) β w) {T E:TypeId} {id ver:Nat} {x0:(e:Ty)×List (e.den K.u.U)} {x:Value} {k:IntKind} {i:Int} (hx:PRel K G (look st) β (.oslc id ver) x)
  (hS:(look st id).bind (·.now ver)=some x0) (hu:K.P.underlying T=some (.slice E)) (hs:szT K.P E=some (K.u.size x0.1)) (h:(bif decide (0≤i)&&decide (i<x0.2.length) then c (.eptr id ver i.toNat 0) [] else none)=some r) :
  ∃ y,(Instr.indexAt T x (.int k i)).run K.P w=.ok y w∧N y w:=by
 by_cases h0:0≤i∧i<(x0.2.length:Int)
 ·obtain ⟨h0,h1⟩:=h0;simp only[h0,h1,decide_true,Bool.and_self,cond_true] at h;simp only[PRel] at hx;obtain ⟨_,ob,h3,hm,h4⟩:=hx;rw[h3,Option.bind_some] at hS;have hv:=h4 _ hS;have hc:=zal2 hI h3 hS;rcases hc with ⟨hn,_⟩|⟨g,off0,cap,hvv,_⟩
  ·rw[hn] at h1; simp at h1; omega
  ·rw[hv,hvv];refine ⟨_,zafy hu hs h0 h1,hN.plain hI h ?_⟩;simp only[PRel];exact ⟨⟨_,_,rfl⟩,_,h3,hm,fun x' he=>by rw[hS] at he; cases he; exact ⟨by omega,by simp[hvv,zabd]⟩⟩
 ·have:(decide (0≤i)&&decide (i<(x0.2.length:Int)))=false:=by simp; omega
  rw[this] at h; cases h
theorem zat0 (hN:Next K V B G st β c r N) (hI:Inv K V B G (look st) β w) {T E bT:TypeId} {id m:Nat} {cs:List (PV K.u.U)} {x:Value} {k:IntKind} {i:Int} (hx:PRel K G (look st) β (.bslc id m) x)
  (hS:look st id=some (.blk bT cs)) (hu:K.P.underlying T=some (.slice E)) (hs:szT K.P E=some 1) (h:(bif decide (0≤i)&&decide (i<(m:Int)) then c (.ptr id i.toNat) [] else none)=some r) :
  ∃ y,(Instr.indexAt T x (.int k i)).run K.P w=.ok y w∧N y w:=by
 by_cases h0:0≤i∧i<(m:Int)
 ·obtain ⟨h0,h1⟩:=h0;simp only[h0,h1,decide_true,Bool.and_self,cond_true] at h;simp only[PRel] at hx;obtain ⟨_,ob,h3,h4⟩:=hx;rw[hS] at h3;cases h3;obtain ⟨b,hb,hv⟩:=h4 rfl;rw[hv];refine ⟨_,zafy hu hs h0 h1,hN.plain hI h ?_⟩;simp only[PRel];exact ⟨rfl,_,hS,fun _=>by simp[hb,zabd]⟩
 ·have:(decide (0≤i)&&decide (i<(m:Int)))=false:=by simp; omega
  rw[this] at h; cases h
theorem zaoy {P:Program} {T:TypeId} {s:List UInt8} {k:IntKind} {i:Int} {b:UInt8} (hu:P.underlying T=some .string) (h0:0≤i) (hb:s[i.toNat]? = some b) :
  (Instr.index T (.string ⟨s.toArray⟩) (.int k i)).run P w=.ok (.int .u8 (b.toNat:Int)) w:=by
 have hlt:i.toNat<s.length:=(List.getElem?_eq_some_iff.1 hb).1;have hg:(⟨s.toArray⟩:ByteArray)[i.toNat]? = some b:=by
  have h1:i.toNat<(⟨s.toArray⟩:ByteArray).size:=by simpa [ByteArray.size] using hlt
  rw[getElem?_pos (⟨s.toArray⟩:ByteArray) i.toNat h1];have e:(⟨s.toArray⟩:ByteArray)[i.toNat]=s[i.toNat]:=rfl;rw[e];rw[List.getElem?_eq_getElem hlt] at hb;exact hb
 simp[Instr.index,asIntOf,run_underlying hu,h0,hg]
theorem zav5 (hN:Next K V B G st β c r N) (hI:Inv K V B G (look st) β w) {d:Nat} {s:List UInt8} (hd:look st d=none) (hdp:Nat.blt d zaa2=true) (h:c (.ptr d 0) [(d,.sit s 0)]=some r) :
  N (.pointer (some ⟨w.heap.size,0,none⟩)) (w.alloc (.stringIter ⟨s.toArray⟩ 0)):=by
 refine hN.made hI (x:=.pointer (some ⟨w.heap.size,0,none⟩)) hd h (fun b hb=>by simpa [blkOf] using hb.symm) (fun _=>by simpa using hdp) (fun hc=>?_) ?_
 ·exact ⟨w.heap.size,by simp[upd],heap_alloc_new _ _⟩
 ·simp only[PRel];exact ⟨rfl,_,zabt,fun _=>by simp[upd,zabd]⟩
theorem zatn (hN:Next K V B G st β c r N) (hI:Inv K V B G (look st) β w) {id:Nat} {s:List UInt8} {pos:Nat} {u:Value} {ty:TypeId} (hu:PRel K G (look st) β (.ptr id 0) u) (hS:look st id=some (.sit s pos))
  (h:(bif decide (pos<s.length)
     then c (.tup [.t ⟨.bool,true⟩,.t ⟨.int .i64,(pos:Int)⟩,.t ⟨.int .i32,((Utf8.decode ⟨s.toArray⟩ pos).1:Int)⟩]) [(id,.sit s (pos+(Utf8.decode ⟨s.toArray⟩ pos).2))]
     else c (.tup [.t ⟨.bool,false⟩]) [])=some r):∃ y w',(Instr.next u true ty).run K.P w=.ok y w'∧N y w':=by
 simp only[PRel] at hu;obtain ⟨_,ob,h1,h2⟩:=hu;rw[hS] at h1;cases h1;have hv:=h2 rfl;obtain ⟨b,hb,hh⟩:=hI.obs id _ hS;simp[hb,zabd] at hv;subst hv;have hget:(getObj b).run K.P w=.ok (.stringIter ⟨s.toArray⟩ pos) w:=by simp[getObj,Sem.run,hh]
 by_cases hp:pos<s.length
 ·simp only[hp,decide_true,cond_true] at h;have hset:(setObj b (.stringIter ⟨s.toArray⟩ (pos+(Utf8.decode ⟨s.toArray⟩ pos).2))).run K.P w=.ok () { w with heap:=w.heap.setIfInBounds b (.stringIter ⟨s.toArray⟩ (pos+(Utf8.decode ⟨s.toArray⟩ pos).2)) }:=by
   simp[setObj,Sem.run,hh]
  have hblt:=(Array.getElem?_eq_some_iff.1 hh).1;refine ⟨_,_,by simp only[Instr.next,Sem.run_bind,hget,Result.andThen_ok,show pos<(⟨s.toArray⟩:ByteArray).size by simpa [ByteArray.size] using hp,if_true,hset,Sem.run_pure]; rfl,?_⟩
  have hc:Comp K G G (look st) β (look ((id,.sit s (pos+(Utf8.decode ⟨s.toArray⟩ pos).2))::st)) (upd β id (β id)):=
   Comp.cons (fun _ _ h=>h) (fun ob h0=>by rw[hS] at h0; cases h0; exact ⟨fun _=>⟨rfl,rfl⟩,fun _ _=>trivial,fun _ _ _ he=>by cases he⟩)
  refine hN _ _ _ _ G (upd β id (β id)) h (hI.one (row:=some b) ⟨rfl,rfl,rfl,by simp,fun k _ hk=>by
    rw[Array.getElem?_setIfInBounds_ne (fun e=>hk (by simp[e]))]⟩ (fun k hk=>⟨_,hS,rfl,.inl (by cases hk; simp[hb,blkOf])⟩)
   (fun _ b' hb'=>.inl ⟨_,hS,rfl,hb'⟩) hc (fun _ _=>⟨_,hS⟩) ?_) hc ?_
  ·refine ⟨b,by simp[upd,hb],?_⟩;simp[hblt]
  ·simp only[PRel,PsRel];exact ⟨_,rfl,_,_,rfl,.bool _,_,_,rfl,.int _ _,_,_,rfl,.int _ _,rfl⟩
 ·simp only[hp,decide_false,cond_false] at h;refine ⟨_,w,by simp only[Instr.next,Sem.run_bind,hget,Result.andThen_ok,show ¬ pos<(⟨s.toArray⟩:ByteArray).size by simpa [ByteArray.size] using hp,if_false,Sem.run_pure]; rfl,hN.plain hI h ?_⟩;simp only[PRel,PsRel];exact ⟨_,rfl,_,_,rfl,.bool _,rfl⟩
end
end Lift
namespace Lift
open Go Go.RowKit
theorem zarx (off:Nat) (l:List Value) (cs:Array Value) (h:off+l.length≤cs.size) :
  ((l.zipIdx 0).foldl (fun cs (x:Value×Nat)=>cs.setIfInBounds (off+x.2) x.1) cs).toList=cs.toList.take off++l++cs.toList.drop (off+l.length):=by
 obtain ⟨g1,g2⟩:=Go.Great.foldl_set off l 0 cs;apply List.ext_getElem?;intro k;have:=g2 k;simp only[Nat.add_zero] at this;rw[Array.getElem?_toList,this];simp only[List.getElem?_append,List.getElem?_take,List.length_append,List.length_take,Array.length_toList,List.getElem?_drop,Array.getElem?_toList];by_cases c1:k<off
 ·simp (disch:=omega) only[if_pos,if_neg]
 ·by_cases c2:k<off+l.length
  ·simp (disch:=omega) only[if_pos,if_neg];congr 1;omega
  ·simp (disch:=omega) only[if_neg];congr 1;omega
theorem zanf {P : Program} : ∀ (fs : List Field), (fs.all fun f => (szT P f.type).isSome) = true → ∃ places, fs.mapM (fun f => (P.info? f.type).map fun i => (f.offset, i.size)) = some places ∧
  ∀ (i:Nat) (f:Field) (n:Nat),fs[i]? = some f→szT P f.type=some n→places[i]? = some (f.offset,n)
 |[],_=>⟨[],by simp,by simp⟩
 |f::fs,h=>by
  simp only[List.all_cons,Bool.and_eq_true] at h;obtain ⟨h1,h2⟩:=h;obtain ⟨pl,h3,h4⟩:=zanf fs h2;obtain ⟨n0,hn0⟩:=Option.isSome_iff_exists.1 h1;obtain ⟨ti,hi,hsz⟩:=zaqy hn0;refine ⟨(f.offset,ti.size)::pl,by simp[List.mapM_cons,hi,h3],fun i g n hg hn=>?_⟩;cases i with
  |zero=>simp at hg; subst hg; rw[hn0] at hn; cases hn; simp[hsz]
  |succ i=>simp at hg; simpa using h4 i g n hg hn
section
variable {K:Kit} {V:Env} {B:Base} {R:Type}
variable {G G':Nat→Option Obj} {S:Nat→Option (Ob K.u.U)} {st:List (Nat×Ob K.u.U)} {β:Nat→Gh} {w w':World} {c:PV K.u.U→Ups K.u.U→Option R} {r:R} {N:Value→World→Prop}
theorem zalb {tm:Nat→Option (PV K.u.U)} {a:Act} (ht:TmOk K G S β tm a):∀ {l:List (Nat×Operand)} {qs:List (Nat×PV K.u.U)},zipEv K tm l=some qs →
  qs.map (·.1)=l.map (·.1)∧PsRel K G S β (qs.map (·.2)) ((l.map fun x=>(x.1,a.eval x.2)).map (·.2))∧(l.map fun x=>(x.1,a.eval x.2)).map (·.1)=l.map (·.1)
 |[],qs,h=>by simp[zipEv] at h; subst h; simp[PsRel]
 |(i,x)::l,qs,h=>by
  simp only[zipEv,Option.bind_eq_some_iff] at h;obtain ⟨p,h1,ps,h2,h3⟩:=h;simp at h3;subst h3;obtain ⟨i1,i2,i3⟩:=zalb ht h2;refine ⟨by simp[i1],?_,by simp⟩;simp only[List.map_cons,PsRel];exact ⟨_,_,rfl,zaaf ht h1,i2⟩
theorem zana {fs:Array Field} {places:List (Nat×Nat)} (hpl:∀ (i:Nat) (f:Field) (n:Nat),fs[i]? = some f→szT K.P f.type=some n→places[i]? = some (f.offset,n)) :
  ∀ (qs : List (Nat × PV K.u.U)) (vs : List (Nat × Value)) (cells : List (PV K.u.U)) (cs : Array Value) {out : List (PV K.u.U)}, vs.map (·.1) = qs.map (·.1) → PsRel K G S β (qs.map (·.2)) (vs.map (·.2)) →
   PsRel K G S β cells cs.toList→(∀ x∈cs.toList,x.oneCell'=true)→K.parts fs cells qs=some out →
   ∃ r:Array Value,Instr.fill (places.toArray[·]?) cs vs=some r∧PsRel K G S β out r.toList∧∀ x∈r.toList,x.oneCell'=true
 |[],[],cells,cs,out,_,_,hc,h1,h=>by simp[Kit.parts] at h; subst h; exact ⟨cs,rfl,hc,h1⟩
 |[],_::_,_,_,_,hm,_,_,_,_=>by simp at hm
 |_::_,[],_,_,_,hm,_,_,_,_=>by simp at hm
 |(i,p)::qs,(j,v)::vs,cells,cs,out,hm,hp,hc,h1,h=>by
  simp only[List.map_cons,List.cons.injEq] at hm;obtain ⟨rfl,hm⟩:=hm;simp only[List.map_cons,PsRel] at hp;obtain ⟨u,rr,hur,hpu,hpr⟩:=hp;simp only[List.cons.injEq] at hur;obtain ⟨rfl,rfl⟩:=hur;simp only[Kit.parts,Option.bind_eq_some_iff] at h;obtain ⟨f,hf,n,hn,ps,hps,h⟩:=h;split at h
  ·rename_i hl;simp only[Option.bind_eq_some_iff] at h;obtain ⟨cells',hsp,h⟩:=h;obtain ⟨hsl,rfl⟩:=zaf4 hsp;obtain ⟨hpc,hp1⟩:=hpu.cellsOf hps;have l1:=hpc.length;have l2:=hc.length;simp only[Array.length_toList] at l1 l2;have hfold:=zarx f.offset v.cells.toList cs (by simp; omega)
   obtain ⟨r, hr1, hr2, hr3⟩ := zana hpl qs vs _ ((v.cells.toList.zipIdx 0).foldl (fun cs (x : Value × Nat) => cs.setIfInBounds (f.offset + x.2) x.1) cs) hm hpr
    (by rw[hfold,← hpc.length]; exact ((hc.take f.offset).append hpc).append (hc.drop _))
    (by
     rw[hfold];intro x hx;simp only[List.mem_append] at hx;rcases hx with (hx|hx)|hx
     ·exact h1 x (List.mem_of_mem_take hx)
     ·exact hp1 x hx
     ·exact h1 x (List.mem_of_mem_drop hx)) h
   refine ⟨r,?_,hr2,hr3⟩;unfold Instr.fill;have hpl':places.toArray[j]? = some (f.offset,n):=by simpa using hpl j f n hf hn
   simp only[hpl'];rw[if_neg (by simp; omega),← hr1];congr 1;rw[← Array.foldl_toList,Array.toList_zipIdx]
  ·cases h
theorem zar2 (hN:Next K V B G st β c r N) (hI:Inv K V B G (look st) β w) {tm:Nat→Option (PV K.u.U)} {a:Act} (ht:TmOk K G (look st) β tm a) {T:TypeId} {ps:Array (Nat×Operand)} {fs:Array Field}
  (hu:K.P.underlying T=some (.struct fs)) (hall:(fs.toList.all fun f=>(szT K.P f.type).isSome)=true) {qs:List (Nat×PV K.u.U)} {vs:List Value} {zs cs:List (PV K.u.U)}
  (hq:zipEv K tm ps.toList=some qs) (hz:zeroT K.P T=some vs) (hzs:zage vs=some zs) (hcs:K.parts fs zs qs=some cs) (h:c (K.packB T cs) []=some r) :
  ∃ y,(Instr.build T (ps.map fun (i,x)=>(i,a.eval x))).run K.P w=.ok y w∧N y w:=by
 obtain ⟨i1,i2,i3⟩:=zalb ht hq;obtain ⟨ti,z,hi,hz1,hz2⟩:=zank hz;obtain ⟨hzr,hz1c⟩:=zahd (K:=K) (G:=G) (S:=look st) (β:=β) hzs;rw[← hz2] at hzr hz1c;obtain ⟨places,hp1,hp2⟩:=zanf (P:=K.P) fs.toList hall;obtain ⟨rr,hr1,hr2,hr3⟩:=zana (K:=K) (G:=G) (S:=look st) (β:=β) (fs:=fs) (places:=places) (fun i f n hf hn=>hp2 i f n (by simpa using hf) hn) qs (ps.toList.map fun x=>(x.1,a.eval x.2)) zs z.cells (i3.trans i1.symm) i2 hzr hz1c hcs;have hb:K.P.built T (ps.map fun (i,x)=>(i,a.eval x)).toList=some rr:=by
  unfold Program.built;simp only[hi,hu,hz1,hp1];rw[Array.toList_map];exact hr1
 refine ⟨_,run_build w T _ rr hb,hN.plain hI h ?_⟩;have:=zarv (K:=K) (T:=T) hr2 hr3;simpa using this
theorem zakc {U:Nat→Type} {e:Ty}:∀ {vs:List (TV U)} {l:List (e.den U)},unTV e vs=some l→vs=l.map (TV.mk e)
 |[],l,h=>by simp[unTV] at h; subst h; rfl
 |v::vs,l,h=>by
  simp only[unTV,Option.bind_eq_some_iff] at h;obtain ⟨x,h1,xs,h2,h3⟩:=h;simp at h3;subst h3;rw[zag5 h1,zakc h2];rfl
theorem zaod (hN:Next K V B G st β c r N) (hI:Inv K V B G (look st) β w) {d:Nat} {E:TypeId} {e:Ty} {l:List (e.den K.u.U)} {vals:List Value} {cs:Array Value} {ids F:List Nat} (hd:look st d=none)
  (h:c (.oslc d 0) ((d,.row E 0 e l)::deads K.u.U ids)=some r) (hT:HsRel K.u G (fun k=>w.heap[k]?) F (l.map (TV.mk e)) vals) (hF:∀ b∈F,zabv st β ids b) (hcs:cs.toList=vals.flatMap fun x=>x.cells.toList) (hm:l.length≤maxLen) :
  N (.slice (some ⟨w.heap.size,0,none⟩) l.length l.length) (w.alloc (.cells cs E)):=by
 have hl:l.length=vals.length:=by simpa using hT.length
 have hfl:=flat_len vals hT.sizes;have hFl:∀ b∈F,b<w.heap.size:=fun b hb=>by
  obtain ⟨o,ho⟩:=hT.lies b hb;have ho:w.heap[b]? = some o:=ho;exact (Array.getElem?_eq_some_iff.1 ho).1
 have hc:Comp K G G (look st) β (look ((d,.row E 0 e l)::(deads K.u.U ids++st))) (upd β d ⟨.slice (some ⟨w.heap.size,0,none⟩) l.length l.length,F⟩):=Comp.consD (fun _ _ h=>h) (fun ob0 h0=>by rw[hd] at h0; cases h0);have eu:upd β d ⟨.slice (some ⟨w.heap.size,0,none⟩) l.length l.length,F⟩ d=⟨.slice (some ⟨w.heap.size,0,none⟩) l.length l.length,F⟩:=by simp[upd]
 refine hN _ ((d,_)::deads K.u.U ids) _ _ G _ h (hI.oneD (zalw (row:=none)) (fun k hk=>by cases hk) (fun _ b hb=>?_) hc (fun hp=>by cases hp) ?_) hc ?_
 ·rcases hb with hb|⟨_,hb⟩
  ·exact .inr (by simp[blkOf] at hb; omega)
  ·obtain ⟨j,ob,j1,j2⟩:=hF b hb;exact .inl ⟨j,ob,.inr j1,j2⟩
 ·show ∃ vals,_;rw[eu];refine ⟨vals,hT.over (fun _ _ h=>h) (fun b hb=>heap_alloc_old w _ (hFl b hb)),⟨by rw[hfl,hl],.inr ⟨w.heap.size,l.length,cs,_,rfl,zah2 _,heap_alloc_new _ _,Nat.le_refl _,hm,?_,?_⟩⟩,fun b hb hbv=>?_⟩
  ·rw[← Array.length_toList,hcs,hfl,hl]; exact Nat.le_refl _
  ·rw[hcs,hl,← hfl,List.take_length]
  ·simp[blkOf] at hbv;have:=hFl b hb;omega
 ·simp only[PRel];exact ⟨rfl,_,zabt,Nat.le_refl _,fun _ _=>by simp[upd]⟩
theorem zapy (hN:Next K V B G st β c r N) (hI:Inv K V B G (look st) β w) {d:Nat} {E:TypeId} {e:Ty} {l:List (e.den K.u.U)} {vals:List Value} {cs:Array Value} (hd:look st d=none)
  (h:c (.oslc d 0) [(d,.row E 0 e l)]=some r) (hT:TsRel K.u G (l.map (TV.mk e)) vals) (hcs:cs.toList=vals.flatMap fun x=>x.cells.toList) (hm:l.length≤maxLen) :
  N (.slice (some ⟨w.heap.size,0,none⟩) l.length l.length) (w.alloc (.cells cs E)):=
 zaod (ids:=[]) hN hI hd h (.ofTsL hT) (fun b hb=>by cases hb) hcs hm
theorem zaos {α β : Type} : ∀ (l : List (Nat × α)) (f : α → β) (k : Nat), l.map (·.1) = List.range' k l.length → (l.map fun x => (x.1, f x.2)) = ((l.map fun x => f x.2).zipIdx k).map fun x => (x.2, x.1)
 |[],_,_,_=>rfl
 |(i,x)::l,f,k,h=>by
  simp only[List.map_cons,List.length_cons,List.range'_succ,List.cons.injEq] at h;obtain ⟨rfl,h⟩:=h;simp only[List.map_cons,List.zipIdx_cons];rw[zaos l f (i+1) h]
theorem zafn {a:Act} {T E:TypeId} {i:TypeInfo} {n:Nat} {ps:Array (Nat×Operand)} (hu:K.P.underlying T=some (.slice E)) (hi:K.P.info? E=some i)
  (hs2:0<i.size) (hs3:i.zero.isSome=true) (hs4:n*i.size≤16777216) (hs5:ps.toList.map (·.1)=List.range n) (hsz:∀ v∈(ps.toList.map (·.2)).map a.eval,v.cells.size=i.size) :
  (Instr.buildSlice T n (ps.map fun (i,x)=>(i,a.eval x))).run K.P w=.ok (.slice (some ⟨w.heap.size,0,none⟩) n n) (w.alloc (.cells (((ps.toList.map (·.2)).map a.eval).flatMap fun v=>v.cells.toList).toArray E)):=by
 obtain ⟨z,hz⟩:=Option.isSome_iff_exists.1 hs3;have hvl:((ps.toList.map (·.2)).map a.eval).length=n:=by
  have h1:=congrArg List.length hs5;simp at h1 ⊢;exact h1
 have hfill : Instr.fill (fun j => some (j * i.size, i.size)) ((Array.range (n * i.size)).map (z.cells[· % z.cells.size]!)) (ps.map fun (i, x) => (i, a.eval x)).toList =
   some (((ps.toList.map (·.2)).map a.eval).flatMap fun v=>v.cells.toList).toArray:=by
  have e1:(ps.map fun (i,x)=>(i,a.eval x)).toList=(((ps.toList.map (·.2)).map a.eval).zipIdx 0).map fun x=>(x.2,x.1):=by
   rw[Array.toList_map];have:=zaos ps.toList a.eval 0 (by rw[hs5,List.range_eq_range']; congr 1; have h1:=congrArg List.length hs5; simp at h1; simp[h1]);rw[List.map_map];exact this
  rw[e1];exact Go.Great.fill_whole hs2 _ _ hsz (by rw[hvl]; simp)
 by_cases hn:n=0
 ·subst hn;have hp1:ps=#[]:=by
   have h1:=congrArg List.length hs5;simpa using h1
  subst hp1;have e0:(Array.map (fun x=>(default:Value)) (Array.range 0))=#[]:=by simp
  simp[Instr.buildSlice,run_underlying hu,Go.sizeOf,typeInfo,hi,Instr.fill,newRow,e0]
 ·exact run_buildSlice w T E n _ _ i z hu hi hz (by omega) (by have:=Nat.mul_pos (Nat.pos_of_ne_zero hn) hs2; omega) hfill
theorem zaim : ∀ {vs : List Value}, (∀ v ∈ vs, v.oneCell' = true) → (vs.flatMap fun v => v.cells.toList) = vs
 |[],_=>rfl
 |v::vs,h=>by
  have e:v.cells.toList=[v]:=by have:=h v (by simp); cases v<;>simp_all[Value.cells,Value.oneCell']
  rw[List.flatMap_cons,e,zaim (fun x hx=>h x (by simp[hx]))];rfl
theorem zani (hN:Next K V B G st β c r N) (hI:Inv K V B G (look st) β w) {tm:Nat→Option (PV K.u.U)} {a:Act} (ht:TmOk K G (look st) β tm a) {T E:TypeId} {i:TypeInfo} {n d:Nat} {ps:Array (Nat×Operand)}
  (hd:look st d=none) (hu:K.P.underlying T=some (.slice E)) (hi:K.P.info? E=some i) (hs:i.size=1∧i.zero.isSome=true∧n*i.size≤16777216∧ps.toList.map (·.1)=List.range n∧Nat.blt d zaa2=true)
  {qs:List (PV K.u.U)} (hq:evs K tm (ps.toList.map (·.2))=some qs) (hp:qs.all PV.isPtr=true) (h:c (.bslc d n) [(d,.blk E qs)]=some r) :
  ∃ y w',(Instr.buildSlice T n (ps.map fun (i,x)=>(i,a.eval x))).run K.P w=.ok y w'∧N y w':=by
 obtain ⟨hs1,hs3,hs4,hs5,hs6⟩:=hs;have hqr:=zace ht hq;have hone:∀ v∈(ps.toList.map (·.2)).map a.eval,v.oneCell'=true:=by
  have key:∀ (l:List (PV K.u.U)) (vs:List Value),l.all PV.isPtr=true→PsRel K G (look st) β l vs→∀ v∈vs,v.oneCell'=true:=by
   intro l;induction l with
   |nil=>intro vs _ h v hv; simp only[PsRel] at h; subst h; cases hv
   |cons p l ih=>
    intro vs hl h v hv;simp only[List.all_cons,Bool.and_eq_true] at hl;simp only[PsRel] at h;obtain ⟨u,rr,rfl,q1,q2⟩:=h;rcases List.mem_cons.1 hv with rfl|hv
    ·cases p<;>first|(cases hl.1; done)|(simp only[PRel] at q1; exact q1.1)
    ·exact ih rr hl.2 q2 v hv
  exact key qs _ hp hqr
 have hrun:=zafn (K:=K) (w:=w) (a:=a) hu hi (by omega) hs3 hs4 hs5 (fun v hv=>by
  rw[hs1];have:=hone v hv;cases v<;>simp_all[Value.cells,Value.oneCell'])
 refine ⟨_,_,hrun,?_⟩;rw[zaim hone];refine hN.made hI (x:=.pointer (some ⟨w.heap.size,0,none⟩)) hd h (fun b hb=>by simpa [blkOf] using hb.symm) (fun _=>by simpa using hs6) (fun hc=>?_) ?_
 ·exact ⟨w.heap.size,_,by simp[upd],heap_alloc_new _ _,hqr.over hc,hone⟩
 ·simp only[PRel];exact ⟨rfl,_,zabt,fun _=>⟨w.heap.size,by simp[upd],rfl⟩⟩
theorem zame (hN:Next K V B G st β c r N) (hI:Inv K V B G (look st) β w) {tm:Nat→Option (PV K.u.U)} {a:Act} (ht:TmOk K G (look st) β tm a) {T E:TypeId} {e:Ty} {i:TypeInfo} {n d:Nat} {ps:Array (Nat×Operand)}
  (hd:look st d=none) (hu:K.P.underlying T=some (.slice E)) (hi:K.P.info? E=some i) (hs:K.u.plainTy e=true∧i.size=K.u.size e∧0<i.size∧i.zero.isSome=true∧n*i.size≤16777216∧ps.toList.map (·.1)=List.range n)
  {qs:List (PV K.u.U)} (hq:evs K tm (ps.toList.map (·.2))=some qs)
  (h:(match K.deeps (look st) E i.size n qs with
   |some ⟨e',l,ids⟩=>c (.oslc d 0) ((d,.row E 0 e' l)::deads K.u.U ids)
   |none=>(zabj (PV.asVal K.u (look st)) (List.replicate n e) qs).bind fun vs=>(unTV e vs).bind fun l=>c (.oslc d 0) ((d,.row E 0 e l)::frzs K.u (look st) (owned qs)))=some r) :
  ∃ y w',(Instr.buildSlice T n (ps.map fun (i,x)=>(i,a.eval x))).run K.P w=.ok y w'∧N y w':=by
 obtain ⟨_,hs1,hs2,hs3,hs4,hs5⟩:=hs;have hqr:=zace ht hq;have hnm:n≤maxLen:=by simp[maxLen]; have:n≤n*i.size:=Nat.le_mul_of_pos_right n hs2; omega
 split at h
 ·rename_i e' l ids hdp;unfold Kit.deeps at hdp;split at hdp
  ·cases hdp
  ·rename_i e1 _;split at hdp
   ·rename_i hh;obtain ⟨hse,hqn⟩:=hh;simp only[Option.bind_eq_some_iff] at hdp;obtain ⟨⟨vs,ids'⟩,h1,hdp⟩:=hdp;split at hdp
    ·rename_i hdist;simp only[Option.bind_eq_some_iff] at hdp;obtain ⟨l',h2,h3⟩:=hdp;simp only[Option.some.injEq,Sigma.mk.injEq] at h3;obtain ⟨rfl,h3⟩:=h3;have h3:=eq_of_heq h3;cases h3;obtain ⟨F,a1,a2,a3,a4⟩:=zaii hI h1 (zaa7 hdist) hqr;rw[zakc h2] at a1;have hlen:l'.length=n:=by
      have h1:=a1.length;have h2:=hqr.length;simp at h1 h2;omega
     have hrun:=zafn (K:=K) (w:=w) (a:=a) hu hi hs2 hs3 hs4 hs5 (fun v hv=>by rw[hse]; exact a1.sizes v hv);refine ⟨_,_,hrun,?_⟩;have:=zaod hN hI (E:=E) hd h a1 a3 (cs:=(((ps.toList.map (·.2)).map a.eval).flatMap fun v=>v.cells.toList).toArray) (by simp) (by rw[hlen]; exact hnm);rw[hlen] at this;exact this
    ·cases hdp
   ·cases hdp
 simp only[Option.bind_eq_some_iff] at h;obtain ⟨vs,hvs,l,hl,h⟩:=h;obtain ⟨hI',hc'⟩:=hI.settle (owned qs)
 obtain ⟨hT, _⟩ := zajq (K := K) (G := G) (G' := Lift.settle K G (look st) β w (owned qs)) (S := look st) (β := β) (I := fun q => ∀ id ∈ owned [q], id ∈ owned qs)
  (fun t p c v hi=>zaid hc'.g (hI.rowsSettled (owned qs)) hi) (fun q hq id hid=>zau1 hq hid) hvs hqr
 rw[zakc hl] at hT;have hlen:l.length=n:=by
  have h1:=congrArg List.length hs5;have h2:=hT.length;simp at h1 h2;omega
 have hsz:=hT.sizes;have hdn:look (frzs K.u (look st) (owned qs)++st) d=none:=by
  rw[zaf7 rfl,hd];split<;>rfl
 have hrun:=zafn (K:=K) (w:=w) (a:=a) hu hi hs2 hs3 hs4 hs5 (fun v hv=>by rw[hs1]; exact hsz v hv);refine ⟨_,_,hrun,?_⟩;have hN':Next K V B (Lift.settle K G (look st) β w (owned qs)) (frzs K.u (look st) (owned qs)++st) β (fun p up=>c p (up++frzs K.u (look st) (owned qs))) r N:=by
  intro p up v w2 G2 β2 h1 h2 h3 h4;refine hN p _ v w2 G2 β2 h1 ?_ ?_ ?_
  ·simpa using h2
  ·have:=hc'.trans h3;simpa using this
  ·simpa using h4
 have:=zapy hN' hI' (E:=E) hdn (by simpa using h) hT (cs:=(((ps.toList.map (·.2)).map a.eval).flatMap fun v=>v.cells.toList).toArray) (by simp) (by rw[hlen]; exact hnm);rw[hlen] at this;exact this
end
end Lift
