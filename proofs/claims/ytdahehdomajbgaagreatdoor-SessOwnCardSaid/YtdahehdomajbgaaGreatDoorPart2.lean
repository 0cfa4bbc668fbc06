/- Part 2 of the proof: the evaluator, contracts of functions and their plain laws (joined by program). No condition. -/
import Derived.Test.YtdahehdomajbgaaGreatDoorPart1
import Derived.Lib.AppendZerosOnto
set_option linter.unusedVariables false
set_option linter.unusedSimpArgs false
set_option maxRecDepth 100000
namespace Go.Ev
open Go.RowKit
def Holds (w:World) (M:Nat->Prop) (b:Nat) (cs:List SV):Prop:=
 ∃ (us:Array Value) (ty:TypeId),w.heap[b]?=some (.cells us ty (0,0)) /\ ∀ (i:Nat) (s:SV),cs[i]?=some s->s.one=true /\ ∃v:Value,us[i]?=some v/\Rep w M v s
def upd (β:Nat->Nat->Nat) (d g b:Nat):Nat->Nat->Nat:=fun d' g'=>if d'=d/\g'=g then b else β d' g'
section
variable {P:Program} {w0 w:World} {F I:Nat->Prop} {Z:Zy} {N:Nat} {β:Nat->Nat->Nat} {st:St} {a:Act}
theorem lt_of_heap {w:World} {b:Nat} {o:Obj} (h:w.heap[b]?=some o):b<w.heap.size:=by
 rcases Nat.lt_or_ge b w.heap.size with hh|hh
 ·exact hh
 ·rw[Array.getElem?_eq_none hh]at h;cases h
theorem Rel.lt (h:Rel w0 F I Z N β st a w) {d g:Nat} (ho:(st.obj d g).isSome=true):β d g<w.heap.size:=by
 obtain⟨cs,hcs⟩:=Option.isSome_iff_exists.1 ho
 obtain⟨us,ty,hb,_⟩:=h.objs d g cs hcs
 exact lt_of_heap hb
theorem Rel.mut_lt (h:Rel w0 F I Z N β st a w) {b:Nat} (hb:Mut F β st b):b<w.heap.size:=by
 rcases hb with hf|⟨d,g,ho,rfl⟩
 ·exact Nat.lt_of_lt_of_le (h.old b hf) h.ext.size
 ·exact h.lt ho
theorem Ext.alloc {I:Nat->Prop} (h:Ext I w0 w) (o:Obj):Ext I w0 (w.alloc o):=
 h.trans ⟨rfl,rfl,rfl,by simp,fun b hb _=>Below.heap_alloc w o b hb,fun b cs ty hb _ hc=>⟨cs,(Below.heap_alloc w o b hb).trans hc,rfl⟩⟩
theorem Rel.new (h:Rel w0 F I Z N β st a w) {d:Nat} (hd:d<N) {cs:List SV} {us:Array Value} {ty:TypeId} {t:TV} {v:Value}
  (hc : ∀ (i:Nat) (s:SV),cs[i]?=some s->s.one=true /\ ∃u:Value,us[i]?=some u/\Rep w (Mut F β st) u s)
  (ht:RepT (upd β d (st.gen d) w.heap.size) (w.alloc (.cells us ty)) (Mut F (upd β d (st.gen d) w.heap.size) (st.new d cs t)) v t) (hi : ∀d' g',t.id=some (d',g')->d'=d/\g'=st.gen d) :
  Rel w0 F I Z N (upd β d (st.gen d) w.heap.size) (st.new d cs t) (a.put (some d) v) (w.alloc (.cells us ty)):=by
 have hnone:st.obj d (st.gen d)=none:=by
  cases ho:st.obj d (st.gen d) with
  |none=>rfl
  |some x=>exact absurd (h.gens d (st.gen d) (by rw[ho];rfl)) (Nat.lt_irrefl _)
 have hobj : ∀d' g',((st.new d cs t).obj d' g').isSome=true->(d'=d/\g'=st.gen d)\/((st.obj d' g').isSome=true /\ ¬(d'=d/\g'=st.gen d)):=by
  intro d' g' ho
  by_cases he:d'=d/\g'=st.gen d
  ·exact .inl he
  ·simp only[St.new,if_neg he]at ho;exact .inr ⟨ho,he⟩
 have hupd : ∀d' g',¬(d'=d/\g'=st.gen d)->upd β d (st.gen d) w.heap.size d' g'=β d' g':=fun d' g' he=>if_neg he
 have hnew:upd β d (st.gen d) w.heap.size d (st.gen d)=w.heap.size:=if_pos ⟨rfl,rfl⟩
 have hM : ∀b,b<w.heap.size->Mut F (upd β d (st.gen d) w.heap.size) (st.new d cs t) b->Mut F β st b:=by
  rintro b hb (hf|⟨d',g',ho,e⟩)
  ·exact .inl hf
  ·rcases hobj d' g' ho with⟨rfl,rfl⟩|⟨ho',he⟩
   ·rw[hnew]at e;omega
   ·rw[hupd _ _ he]at e;exact .inr ⟨d',g',ho',e⟩
 have hcell : ∀p:Addr,p.block<w.heap.size -> ¬Mut F β st p.block->(w.alloc (.cells us ty)).cell? p=w.cell? p:=fun p hp _=>World.cell?_alloc_lt w _ p hp
 have hrep : ∀ {v:Value} {s:SV},Rep w (Mut F β st) v s->Rep (w.alloc (.cells us ty)) (Mut F (upd β d (st.gen d) w.heap.size) (st.new d cs t)) v s:=fun hr=>Rep.mono hcell hM hr
 have hT : ∀ {v:Value} {x:TV},RepT β w (Mut F β st) v x->(∀d' g',x.id=some (d',g')->g'<st.gen d')->RepT (upd β d (st.gen d) w.heap.size) (w.alloc (.cells us ty)) (Mut F (upd β d (st.gen d) w.heap.size) (st.new d cs t)) v x:=by
  intro v x hold hids
  cases x with
  |sv s=>exact hrep hold
  |nil=>exact hold
  |undef=>trivial
  |skip=>exact hold
  |emp=>exact hold
  |ptr d' g' off=>
   have hlt:=hids d' g' rfl
   show _=_
   rw[hupd d' g' (fun e=>by obtain⟨rfl,rfl⟩:=e;omega)]
   exact hold
  |pst d' g' =>
   have hlt:=hids d' g' rfl
   show _=_
   rw[hupd d' g' (fun e=>by obtain⟨rfl,rfl⟩:=e;omega)]
   exact hold
  |ref d' g' size off n=>
   have hlt:=hids d' g' rfl
   obtain⟨cap,cs',ty',h1,h2,h3,h4⟩:=hold
   refine⟨cap,cs',ty',?_,h2,?_,h4⟩
   ·rw[hupd d' g' (fun e=>by obtain⟨rfl,rfl⟩:=e;omega)];exact h1
   ·rw[hupd d' g' (fun e=>by obtain⟨rfl,rfl⟩:=e;omega),Below.heap_alloc _ _ _ (lt_of_heap h3)];exact h3
  |rfc d' g' size off n c=>
   have hlt:=hids d' g' rfl
   obtain⟨cs',ty',h1,h2,h3,h4⟩:=hold
   refine⟨cs',ty',?_,h2,?_,h4⟩
   ·rw[hupd d' g' (fun e=>by obtain⟨rfl,rfl⟩:=e;omega)];exact h1
   ·rw[hupd d' g' (fun e=>by obtain⟨rfl,rfl⟩:=e;omega),Below.heap_alloc _ _ _ (lt_of_heap h3)];exact h3
  |tp d' g' size off n r=>
   have hlt:=hids d' g' rfl
   obtain⟨cap,cs',ty',vs,h1,h2,h3,h4,h5,h6⟩:=hold
   have e:=hupd d' g' (fun e=>by obtain⟨rfl,rfl⟩:=e;omega)
   exact⟨cap,cs',ty',vs,by rw[e];exact h1,h2,by rw[e,Below.heap_alloc _ _ _ (lt_of_heap h3)];exact h3,h4,h5,fun i s hi=>hrep (h6 i s hi)⟩
 have hG : ∀d',st.gen d'<=(st.new d cs t).gen d':=by
  intro d'
  simp only[St.new]
  split
  ·rename_i e;subst e;omega
  ·exact Nat.le_refl _
 exact {
  defers:=h.defers
  size:=by simp[Act.put,h.size]
  tmps:=fun u=>by
   by_cases hu:u=d
   ·subst hu
    simp only[Act.put,Array.getD_eq_getD_getElem?]
    rw[Array.getElem?_setIfInBounds_self_of_lt (by rw[h.size];exact hd)]
    have:(st.new u cs t).tmp u=t:=if_pos rfl
    rw[this]
    exact ht
   ·have h1:(st.new d cs t).tmp u=st.tmp u:=if_neg hu
    rw[h1]
    simp only[Act.put,Array.getD_eq_getD_getElem?]
    rw[Array.getElem?_setIfInBounds_ne (fun e=>hu e.symm)]
    have hold:=h.tmps u
    rw[Array.getD_eq_getD_getElem?]at hold
    have hids:=h.ids u
    exact hT hold hids
  ids:=fun u d' g' hx=>by
   simp only[St.new]at hx ⊢
   split at hx
   ·obtain⟨rfl,rfl⟩:=hi d' g' hx
    rw[if_pos rfl]
    omega
   ·have:=h.ids u d' g' hx
    split
    ·rename_i e;subst e;omega
    ·exact this
  objs:=fun d' g' cells ho=>by
   by_cases he:d'=d/\g'=st.gen d
   ·obtain⟨rfl,rfl⟩:=he
    simp only[St.new,and_self,if_true,Option.some.injEq]at ho
    subst ho
    refine⟨us,ty,by rw[hnew];exact heap_alloc_new w _,fun i s hs => ?_⟩
    obtain⟨h1,u,hu,hr⟩:=hc i s hs
    exact⟨h1,u,hu,hrep hr⟩
   ·simp only[St.new,if_neg he]at ho
    obtain⟨us',ty',hb,hall⟩:=h.objs d' g' cells ho
    refine⟨us',ty',by rw[hupd _ _ he,Below.heap_alloc _ _ _ (lt_of_heap hb)];exact hb,fun i s hs => ?_⟩
    obtain⟨h1,u,hu,hr⟩:=hall i s hs
    exact⟨h1,u,hu,hrep hr⟩
  own:=fun d' g' ho=>by
   rcases hobj d' g' ho with⟨rfl,rfl⟩|⟨ho',he⟩
   ·rw[hnew]
    exact⟨fun _ => .inl h.ext.size,fun hn _=>absurd (Nat.lt_of_lt_of_le hd h.room) (by omega)⟩
   ·rw[hupd _ _ he];exact h.own d' g' ho'
  room:=h.room
  inj:=fun d1 g1 d2 g2 h1 h2 e=>by
   rcases hobj d1 g1 h1 with⟨rfl,rfl⟩|⟨h1',he1⟩<;>rcases hobj d2 g2 h2 with⟨rfl,rfl⟩|⟨h2',he2⟩
   ·exact⟨rfl,rfl⟩
   ·rw[hnew,hupd _ _ he2]at e
    have:=h.lt h2'
    omega
   ·rw[hnew,hupd _ _ he1]at e
    have:=h.lt h1'
    omega
   ·rw[hupd _ _ he1,hupd _ _ he2]at e
    exact h.inj d1 g1 d2 g2 h1' h2' e
  gens:=fun d' g' ho=>by
   simp only[St.new]
   rcases hobj d' g' ho with⟨rfl,rfl⟩|⟨ho',he⟩
   ·rw[if_pos rfl];omega
   ·have:=h.gens d' g' ho'
    split
    ·rename_i e;subst e;omega
    ·exact this
  ext:=h.ext.alloc _
  old:=h.old
  imps:=h.imps
  pin:=fun d' g' hd' hd''=>(hupd d' g' (fun e=>by have:=h.room;omega)).trans (h.pin d' g' hd' hd'')
  ups:=fun u=>hT (h.ups u) (h.uids u)
  uids:=fun u d' g' hx=>Nat.lt_of_lt_of_le (h.uids u d' g' hx) (hG d')
  glob:=fun g v hg=>hrep (h.glob g v hg)
  hobs:=fun d' g' ts hts=>by
   obtain⟨h1,h2,cs',ty',hb,hall⟩:=h.hobs d' g' ts hts
   have hne : ¬(d'=d/\g'=st.gen d):=fun e=>by have:=h.room;have:N0<H0:=(by decide);omega
   refine⟨h1,(if_neg hne).trans h2,cs',ty',by rw[hupd _ _ hne,Below.heap_alloc _ _ _ (lt_of_heap hb)];exact hb,fun i x hx => ?_⟩
   obtain⟨v,hv,ho,hr,hid⟩:=hall i x hx
   exact⟨v,hv,ho,hT hr hid,fun d1 g1 e=>Nat.lt_of_lt_of_le (hid d1 g1 e) (hG d1)⟩
  bms:=h.bms.to rfl rfl (fun d' g' ho=>(hobj d' g' ho).elim (fun e => .inr (.inl (by rw[e.1,e.2,hnew];exact Nat.le_refl _))) (fun e => .inl ⟨e.1,hupd _ _ e.2⟩)) (fun b hb _=>Below.heap_alloc _ _ _ hb) }
theorem Rel.set (h:Rel w0 F I Z N β st a w) {d g:Nat} {cs0 cs:List SV} (ho:st.obj d g=some cs0) {us us':Array Value} {ty:TypeId} {w':World}
  (hb:w.heap[β d g]?=some (.cells us ty (0,0))) (hb':w'.heap[β d g]?=some (.cells us' ty (0,0))) (hsz:us'.size=us.size) (hsame : ∀b,b≠β d g->w'.heap[b]?=w.heap[b]?)
  (hhs:w'.heap.size=w.heap.size) (hos:w'.os=w.os) (htape:w'.tape=w.tape) (hout:w'.output=w.output)
  (hc : ∀ (i:Nat) (s:SV),cs[i]?=some s->s.one=true /\ ∃u:Value,us'[i]?=some u/\Rep w (Mut F β st) u s) (hh:st.hob d g=none\/(cs=[]/\us'=us)):Rel w0 F I Z N β (st.set d g cs) a w':=by
 have hos':(st.obj d g).isSome=true:=by rw[ho];rfl
 have hobj : ∀d' g',((st.set d g cs).obj d' g').isSome=(st.obj d' g').isSome:=by
  intro d' g'
  simp only[St.set]
  split
  ·rename_i e;obtain⟨rfl,rfl⟩:=e;rw[ho];rfl
  ·rfl
 have hmut : ∀b,Mut F β (st.set d g cs) b↔Mut F β st b:=by
  intro b
  constructor
  ·rintro(hf|⟨d',g',h1,h2⟩)
   ·exact .inl hf
   ·exact .inr ⟨d',g',by rw[hobj]at h1;exact h1,h2⟩
  ·rintro(hf|⟨d',g',h1,h2⟩)
   ·exact .inl hf
   ·exact .inr ⟨d',g',by rw[hobj];exact h1,h2⟩
 have hmb:Mut F β st (β d g) := .inr ⟨d,g,hos',rfl⟩
 have hcell : ∀p:Addr,p.block<w.heap.size -> ¬Mut F β st p.block->w'.cell? p=w.cell? p:=by
  intro p _ hp
  exact World.cell?_of_block (w:=w) (w':=w') (hsame _ (fun e=>hp (by rw[e];exact hmb)))
 have hrep : ∀ {v:Value} {s:SV},Rep w (Mut F β st) v s->Rep w' (Mut F β (st.set d g cs)) v s:=fun hr=>Rep.mono hcell (fun b _ hm=>(hmut b).1 hm) hr
 have hlt:=h.lt hos'
 have hT : ∀ {v:Value} {x:TV},RepT β w (Mut F β st) v x->RepT β w' (Mut F β (st.set d g cs)) v x:=by
  intro v x hx
  refine RepT.mono (w:=w) hcell (fun b _ hm=>(hmut b).1 hm) (fun b cs1 ty1 _ hcs => ?_) (fun b hm _=>hsame b (fun e=>hm (by rw[e];exact hmb))) hx
  by_cases e:b=β d g
  ·subst e
   rw[hb]at hcs
   cases hcs
   exact⟨us',hb',hsz⟩
  ·exact⟨cs1,(hsame b e).trans hcs,rfl⟩
 exact {
  defers:=h.defers
  size:=h.size
  tmps:=fun u=>hT (h.tmps u)
  ids:=h.ids
  objs:=fun d' g' cells hcs=>by
   by_cases he:d'=d/\g'=g
   ·obtain⟨rfl,rfl⟩:=he
    simp only[St.set,and_self,if_true,Option.some.injEq]at hcs
    subst hcs
    refine⟨us',ty,hb',fun i s hs => ?_⟩
    obtain⟨h1,u,hu,hr⟩:=hc i s hs
    exact⟨h1,u,hu,hrep hr⟩
   ·simp only[St.set,if_neg he]at hcs
    obtain⟨us1,ty1,hb1,hall⟩:=h.objs d' g' cells hcs
    have hne:β d' g'≠β d g:=fun e=>he (h.inj d' g' d g (by rw[hcs];rfl) hos' e)
    refine⟨us1,ty1,(hsame _ hne).trans hb1,fun i s hs => ?_⟩
    obtain⟨h1,u,hu,hr⟩:=hall i s hs
    exact⟨h1,u,hu,hrep hr⟩
  own:=fun d' g' h1=>h.own d' g' (by rw[hobj]at h1;exact h1)
  room:=h.room
  inj:=fun d1 g1 d2 g2 h1 h2 e=>h.inj d1 g1 d2 g2 (by rw[hobj]at h1;exact h1) (by rw[hobj]at h2;exact h2) e
  gens:=fun d' g' h1=>h.gens d' g' (by rw[hobj]at h1;exact h1)
  ext:=by
   refine⟨hos.trans h.ext.os,htape.trans h.ext.tape,hout.trans h.ext.output,by rw[hhs];exact h.ext.size,fun b hb1 hI => ?_,fun b cs1 ty1 hb1 hI hcs => ?_⟩
   ·have hne:b≠β d g:=by
     rintro rfl
     rcases h.own_or hos' with h1|h1
     ·omega
     ·exact hI h1
    exact(hsame b hne).trans (h.ext.block b hb1 hI)
   ·obtain⟨cs2,h2,e2⟩:=h.ext.imp b cs1 ty1 hb1 hI hcs
    by_cases e:b=β d g
    ·subst e
     rw[hb]at h2
     cases h2
     exact⟨us',hb',hsz.trans e2⟩
    ·exact⟨cs2,(hsame b e).trans h2,e2⟩
  old:=h.old
  imps:=h.imps
  pin:=h.pin
  ups:=fun u=>hT (h.ups u)
  uids:=h.uids
  glob:=fun g v hg=>hrep (h.glob g v hg)
  hobs:=fun d' g' ts hts=>by
   obtain⟨h1,h2,cs1,ty1,hb1,hall⟩:=h.hobs d' g' ts hts
   by_cases he:d'=d/\g'=g
   ·obtain⟨rfl,rfl⟩:=he
    have hts':st.hob d' g'=some ts:=hts
    rcases hh with hh|⟨rfl,rfl⟩
    ·rw[hts']at hh;cases hh
    ·rw[hb]at hb1
     cases hb1
     refine⟨h1,by simp[St.set],_,_,hb',fun i x hx => ?_⟩
     obtain⟨v,hv,ho,hr,hid⟩:=hall i x hx
     exact⟨v,hv,ho,hT hr,hid⟩
   ·have hne:β d' g'≠β d g:=fun e=>he (h.inj d' g' d g (by rw[h2];rfl) hos' e)
    refine⟨h1,by simp only[St.set,if_neg he];exact h2,cs1,ty1,(hsame _ hne).trans hb1,fun i x hx => ?_⟩
    obtain⟨v,hv,ho,hr,hid⟩:=hall i x hx
    exact⟨v,hv,ho,hT hr,hid⟩
  bms:=h.bms.to rfl rfl (fun d' g' h1 => .inl ⟨by rw[hobj]at h1;exact h1,rfl⟩) (fun b _ hn=>hsame b (fun e=>hn d g hos' e.symm)) }
theorem Rel.frz (h:Rel w0 F I Z N β st a w) {d g:Nat} {st':St} (hf:st.frz d g=some st'):Rel w0 F I Z N β st' a w:=by
 unfold St.frz at hf
 split at hf
 ·cases hf
 ·rename_i hd
  split at hf
  ·rename_i cs ho
   cases hf
   have hos':(st.obj d g).isSome=true:=by rw[ho];rfl
   have hobj : ∀d' g',((if d'=d/\g'=g then none else st.obj d' g'):Option (List SV)).isSome=true->(st.obj d' g').isSome=true /\ ¬(d'=d/\g'=g):=by
    intro d' g' h1
    split at h1
    ·cases h1
    ·rename_i he;exact⟨h1,he⟩
   let s':St:=st.frzd d g cs
   have hmut : ∀b,Mut F β s' b->Mut F β st b:=by
    rintro b (hf|⟨d',g',h1,h2⟩)
    ·exact .inl hf
    ·exact .inr ⟨d',g',(hobj d' g' h1).1,h2⟩
   have hnot : ¬Mut F β s' (β d g):=by
    rintro(hf|⟨d',g',h1,h2⟩)
    ·have:=h.old _ hf
     rcases (h.own d g hos').1 (.inl (by omega)) with h1|⟨h1,h2⟩
     ·omega
     ·exact h.own_imp hos' h2 h1 hf
    ·obtain⟨h1,hne⟩:=hobj d' g' h1
     exact hne (h.inj d' g' d g h1 hos' h2)
   have hrep : ∀ {v:Value} {s:SV},Rep w (Mut F β st) v s->Rep w (Mut F β s') v s:=fun hr=>Rep.mono (fun _ _ _=>rfl) (fun b _ hm=>hmut b hm) hr
   obtain⟨us,ty,hb,hall⟩:=h.objs d g cs ho
   have hcellv : ∀ (off i:Nat) (s:SV),(cs.drop off)[i]?=some s->w.cell? ((⟨β d g,off,none⟩:Addr).add i)=some (us.getD (off+i) undef)/\Rep w (Mut F β s') (us.getD (off+i) undef) s:=by
    intro off i s hs
    rw[List.getElem?_drop]at hs
    obtain⟨_,v,hv,hr⟩:=hall _ s hs
    rw[add_mk,cell_of_row w _ _ us ty (0,0) hb,Array.getD_eq_getD_getElem?,hv]
    exact⟨rfl,hrep hr⟩
   have hT : ∀ {v:Value} {x:TV},RepT β w (Mut F β st) v x->RepT β w (Mut F β s') v (x.frz d g cs):=by
    intro v x hold
    cases x with
    |sv s=>exact hrep hold
    |nil=>exact hold
    |undef=>trivial
    |skip=>exact hold
    |emp=>exact hold
    |ptr d' g' off=>
     show RepT β w (Mut F β s') v (if d'=d/\g'=g then .sv (.mem (cs.drop off)) else .ptr d' g' off)
     by_cases e:d'=d/\g'=g
     ·rw[if_pos e]
      obtain⟨rfl,rfl⟩:=e
      rw[show v = .pointer (some ⟨β d' g',off,none⟩) from hold]
      exact Rep.mem _ _ (fun i=>us.getD (off+i) undef) hnot (fun i s hs=>(hcellv off i s hs).1) (fun i s hs=>(hcellv off i s hs).2)
     ·rw[if_neg e];exact hold
    |ref d' g' size off n=>
     show RepT β w (Mut F β s') v (if d'=d/\g'=g then .sv (.sl n ((cs.drop off).take (n*size))) else .ref d' g' size off n)
     by_cases e:d'=d/\g'=g
     ·rw[if_pos e]
      obtain⟨rfl,rfl⟩:=e
      obtain⟨cap,cs',ty',hv,hn,_⟩:=hold
      rw[hv]
      have hget : ∀ (i:Nat) (s:SV),((cs.drop off).take (n*size))[i]?=some s->(cs.drop off)[i]?=some s:=by
       intro i s hs
       rcases Nat.lt_or_ge i (n*size) with hi|hi
       ·rw[List.getElem?_take_of_lt hi]at hs;exact hs
       ·rw[List.getElem?_eq_none (by simp;omega)]at hs;cases hs
      exact Rep.sl _ _ _ hn _ (fun i=>us.getD (off+i) undef) hnot (fun i s hs=>(hcellv off i s (hget i s hs)).1) (fun i s hs=>(hcellv off i s (hget i s hs)).2)
     ·rw[if_neg e];exact hold
    |rfc d' g' size off n c=>
     show RepT β w (Mut F β s') v (if d'=d/\g'=g then .undef else .rfc d' g' size off n c)
     split
     ·trivial
     ·exact hold
    |pst d' g' =>
     show RepT β w (Mut F β s') v (if d'=d/\g'=g then .undef else .pst d' g')
     split
     ·trivial
     ·exact hold
    |tp d' g' size off n r=>
     show RepT β w (Mut F β s') v (if d'=d/\g'=g then .undef else .tp d' g' size off n r)
     split
     ·trivial
     ·obtain⟨cap,cs',ty',vs,h1,h2,h3,h4,h5,h6⟩:=hold
      exact⟨cap,cs',ty',vs,h1,h2,h3,h4,h5,fun i s hi=>hrep (h6 i s hi)⟩
   have hI : ∀ {x:TV} {d' g':Nat},(x.frz d g cs).id=some (d',g')->x.id=some (d',g'):=by
    intro x d' g' hx
    cases x<;>simp only[TV.frz]at hx<;>first|exact hx|(split at hx<;>first|exact hx|(simp[TV.id]at hx))
   exact {
    defers:=h.defers
    size:=h.size
    tmps:=fun t=>hT (h.tmps t)
    ids:=fun t d' g' hx=>h.ids t d' g' (hI hx)
    objs:=fun d' g' cells hcs=>by
     have h1:=hobj d' g' (by rw[show ((if d'=d/\g'=g then none else st.obj d' g'):Option (List SV))=some cells from hcs];rfl)
     have hcs':st.obj d' g'=some cells:=by
      have h2:((if d'=d/\g'=g then none else st.obj d' g'):Option (List SV))=some cells:=hcs
      rw[if_neg h1.2]at h2
      exact h2
     obtain⟨us1,ty1,hb1,hall1⟩:=h.objs d' g' cells hcs'
     refine⟨us1,ty1,hb1,fun i s hs => ?_⟩
     obtain⟨e1,u,hu,hr⟩:=hall1 i s hs
     exact⟨e1,u,hu,hrep hr⟩
    own:=fun d' g' h1=>h.own d' g' (hobj d' g' h1).1
    room:=h.room
    inj:=fun d1 g1 d2 g2 h1 h2 e=>h.inj d1 g1 d2 g2 (hobj d1 g1 h1).1 (hobj d2 g2 h2).1 e
    gens:=fun d' g' h1=>h.gens d' g' (hobj d' g' h1).1
    ext:=h.ext
    old:=h.old
    imps:=h.imps
    pin:=h.pin
    ups:=fun t=>hT (h.ups t)
    uids:=fun t d' g' hx=>h.uids t d' g' (hI hx)
    glob:=fun g v hg=>hrep (h.glob g v hg)
    hobs:=fun d' g' ts hts=>by
     have hts:(st.hob d' g').map (fun ts=>ts.map fun t=>t.frz d g cs)=some ts:=hts
     obtain⟨ts0,h0,rfl⟩:=map_some hts
     obtain⟨h1,h2,cs1,ty1,hb1,hall⟩:=h.hobs d' g' ts0 h0
     have hne : ¬(d'=d/\g'=g):=fun e=>by have:N0<H0:=(by decide);omega
     refine⟨h1,(if_neg hne).trans h2,cs1,ty1,hb1,fun i x hx => ?_⟩
     rw[List.getElem?_map]at hx
     obtain⟨x0,hx0,rfl⟩:=map_some hx
     obtain⟨v,hv,ho,hr,hid⟩:=hall i x0 hx0
     exact⟨v,hv,ho,hT hr,fun d1 g1 e=>hid d1 g1 (hI e)⟩
    bms:=h.bms.to rfl rfl (fun d' g' h1 => .inl ⟨(hobj d' g' h1).1,rfl⟩) (fun _ _ _=>rfl) }
  ·cases hf
theorem Ext.of_none {I:Nat->Prop} {w w':World} (he:Ext (fun _=>False) w w'):Ext I w w' :=
 ⟨he.os,he.tape,he.output,he.size,fun b hb _=>he.block b hb (fun x=>x),fun b cs _ hb _ hc=>⟨cs,(he.block b hb (fun x=>x)).trans hc,rfl⟩⟩
theorem Rel.adoptH (h:Rel w0 F I Z N β st a w) {w':World} (he:Ext (fun _=>False) w w') {d b:Nat} (hd:d<N) {ts:List TV} {us:Array Value} {ty:TypeId} (hb:w.heap.size<=b) (hheap:w'.heap[b]?=some (.cells us ty (0,0)))
  (hc : ∀ (i:Nat) (t:TV),ts[i]?=some t->(plnT t=true \/ ∃d' g' o,t = .ptr d' g' o/\g'<st.gen d') /\ ∃u:Value,us[i]?=some u/\u.oneCell'=true/\RepT β w' (fun x=>Mut F β st x\/x=b) u t) :
  Rel w0 F I Z N (upd β (H0+d) (st.gen (H0+d)) b) (st.newH d ts) (a.put (some d) (.pointer (some ⟨b,0,none⟩))) w':=by
 have hNH:N0<H0:=by decide
 obtain⟨D,hD⟩ : ∃D,D=H0+d:=⟨_,rfl⟩
 obtain⟨G,hG0⟩ : ∃G,G=st.gen D:=⟨_,rfl⟩
 have hDH:H0<=D:=by omega
 have hst:st.newH d ts={ st with
  tmp:=fun t=>if t=d then .ptr D G 0 else st.tmp t
  obj:=fun d' g'=>if d'=D/\g'=G then some [] else st.obj d' g'
  hob:=fun d' g'=>if d'=D/\g'=G then some ts else st.hob d' g'
  gen:=fun d'=>if d'=D then G+1 else st.gen d' }:=by subst hG0 hD;rfl
 rw[hst,<- hD,<- hG0]
 obtain⟨s',hs'⟩ : ∃s':St,s'={ st with
  tmp:=fun t=>if t=d then .ptr D G 0 else st.tmp t
  obj:=fun d' g'=>if d'=D/\g'=G then some [] else st.obj d' g'
  hob:=fun d' g'=>if d'=D/\g'=G then some ts else st.hob d' g'
  gen:=fun d'=>if d'=D then G+1 else st.gen d' }:=⟨_,rfl⟩
 rw[<- hs']
 have etmp : ∀t,s'.tmp t=if t=d then .ptr D G 0 else st.tmp t:=fun t=>by rw[hs']
 have eobj : ∀d' g',s'.obj d' g'=if d'=D/\g'=G then some [] else st.obj d' g':=fun d' g'=>by rw[hs']
 have ehob : ∀d' g',s'.hob d' g'=if d'=D/\g'=G then some ts else st.hob d' g':=fun d' g'=>by rw[hs']
 have egen : ∀d',s'.gen d'=if d'=D then G+1 else st.gen d':=fun d'=>by rw[hs']
 have eup:s'.up=st.up:=by rw[hs']
 have ebm:s'.bm=st.bm:=by rw[hs']
 have ebw:s'.bw=st.bw:=by rw[hs']
 clear hs' hst
 have hG : ∀d',st.gen d'<=s'.gen d':=by
  intro d'
  rw[egen]
  split
  ·rename_i e;subst e;omega
  ·exact Nat.le_refl _
 have hobj : ∀d' g',(s'.obj d' g').isSome=true->(d'=D/\g'=G)\/((st.obj d' g').isSome=true /\ ¬(d'=D/\g'=G)):=by
  intro d' g' ho
  by_cases hx:d'=D/\g'=G
  ·exact .inl hx
  ·rw[eobj,if_neg hx]at ho;exact .inr ⟨ho,hx⟩
 have hupd : ∀d' g',¬(d'=D/\g'=G)->upd β D G b d' g'=β d' g':=fun d' g' hx=>if_neg hx
 have hself:upd β D G b D G=b:=if_pos ⟨rfl,rfl⟩
 have hM : ∀x,Mut F (upd β D G b) s' x->Mut F β st x\/x=b:=by
  rintro x (hf|⟨d',g',ho,e⟩)
  ·exact .inl (.inl hf)
  ·rcases hobj d' g' ho with⟨rfl,rfl⟩|⟨ho',hx⟩
   ·rw[hself]at e;exact .inr e.symm
   ·rw[hupd _ _ hx]at e;exact .inl (.inr ⟨d',g',ho',e⟩)
 have hM' : ∀x,x<w.heap.size->Mut F (upd β D G b) s' x->Mut F β st x:=fun x hx hm=>(hM x hm).resolve_right (by omega)
 have hcell : ∀p:Addr,p.block<w.heap.size -> ¬Mut F β st p.block->w'.cell? p=w.cell? p:=fun p hp _=>World.cell?_of_block (w:=w) (w':=w') (he.block p.block hp (fun x=>x))
 have hrep : ∀ {v:Value} {s:SV},Rep w (Mut F β st) v s->Rep w' (Mut F (upd β D G b) s') v s:=fun hr=>Rep.mono hcell hM' hr
 have hT : ∀ {v:Value} {x:TV},RepT β w (Mut F β st) v x->(∀d' g',x.id=some (d',g')->g'<st.gen d')->RepT (upd β D G b) w' (Mut F (upd β D G b) s') v x:=by
  intro v x hold hids
  cases x with
  |sv s=>exact hrep hold
  |nil=>exact hold
  |undef=>trivial
  |skip=>exact hold
  |emp=>exact hold
  |ptr d' g' off=>
   have hl:=hids d' g' rfl
   show _=_
   rw[hupd d' g' (fun e=>by obtain⟨rfl,rfl⟩:=e;omega)]
   exact hold
  |pst d' g' =>
   have hl:=hids d' g' rfl
   show _=_
   rw[hupd d' g' (fun e=>by obtain⟨rfl,rfl⟩:=e;omega)]
   exact hold
  |ref d' g' size off n=>
   have hl:=hids d' g' rfl
   obtain⟨cap,cs',ty',h1,h2,h3,h4⟩:=hold
   refine⟨cap,cs',ty',?_,h2,?_,h4⟩
   ·rw[hupd d' g' (fun e=>by obtain⟨rfl,rfl⟩:=e;omega)];exact h1
   ·rw[hupd d' g' (fun e=>by obtain⟨rfl,rfl⟩:=e;omega),he.block _ (lt_of_heap h3) (fun x=>x)];exact h3
  |rfc d' g' size off n c=>
   have hl:=hids d' g' rfl
   obtain⟨cs',ty',h1,h2,h3,h4⟩:=hold
   refine⟨cs',ty',?_,h2,?_,h4⟩
   ·rw[hupd d' g' (fun e=>by obtain⟨rfl,rfl⟩:=e;omega)];exact h1
   ·rw[hupd d' g' (fun e=>by obtain⟨rfl,rfl⟩:=e;omega),he.block _ (lt_of_heap h3) (fun x=>x)];exact h3
  |tp d' g' size off n r=>
   have hlt:=hids d' g' rfl
   obtain⟨cap,cs',ty',vs,h1,h2,h3,h4,h5,h6⟩:=hold
   have e:=hupd d' g' (fun e=>by obtain⟨rfl,rfl⟩:=e;omega)
   exact⟨cap,cs',ty',vs,by rw[e];exact h1,h2,by rw[e,he.block _ (lt_of_heap h3) (fun x=>x)];exact h3,h4,h5,fun i s hi=>hrep (h6 i s hi)⟩
 have hroom:=h.room
 exact {
  defers:=h.defers
  size:=by simp[Act.put,h.size]
  tmps:=fun u=>by
   by_cases hu:u=d
   ·subst hu
    simp only[Act.put,Array.getD_eq_getD_getElem?]
    rw[Array.getElem?_setIfInBounds_self_of_lt (by rw[h.size];exact hd),etmp,if_pos rfl]
    show _=_
    rw[hself]
    rfl
   ·rw[etmp,if_neg hu]
    simp only[Act.put,Array.getD_eq_getD_getElem?]
    rw[Array.getElem?_setIfInBounds_ne (fun e=>hu e.symm)]
    have hold:=h.tmps u
    rw[Array.getD_eq_getD_getElem?]at hold
    exact hT hold (h.ids u)
  ids:=fun u d' g' hx=>by
   rw[etmp]at hx
   split at hx
   ·simp only[TV.id,Option.some.injEq,Prod.mk.injEq]at hx
    obtain⟨rfl,rfl⟩:=hx
    rw[egen,if_pos rfl]
    omega
   ·exact Nat.lt_of_lt_of_le (h.ids u d' g' hx) (hG d')
  objs:=fun d' g' cells ho=>by
   by_cases hx:d'=D/\g'=G
   ·obtain⟨rfl,rfl⟩:=hx
    rw[eobj,if_pos ⟨rfl,rfl⟩]at ho
    cases ho
    exact⟨us,ty,by rw[hself];exact hheap,fun i s hs=>by simp at hs⟩
   ·rw[eobj,if_neg hx]at ho
    obtain⟨us',ty',hb1,hall⟩:=h.objs d' g' cells ho
    refine⟨us',ty',by rw[hupd _ _ hx,he.block _ (lt_of_heap hb1) (fun x=>x)];exact hb1,fun i s hs => ?_⟩
    obtain⟨h1,u,hu,hr⟩:=hall i s hs
    exact⟨h1,u,hu,hrep hr⟩
  own:=fun d' g' ho=>by
   rcases hobj d' g' ho with⟨rfl,rfl⟩|⟨ho',hx⟩
   ·rw[hself]
    exact⟨fun _ => .inl (Nat.le_trans h.ext.size hb),fun _ hn=>absurd hn (by omega)⟩
   ·rw[hupd _ _ hx];exact h.own d' g' ho'
  room:=h.room
  inj:=fun d1 g1 d2 g2 h1 h2 e=>by
   rcases hobj d1 g1 h1 with⟨rfl,rfl⟩|⟨h1',he1⟩<;>rcases hobj d2 g2 h2 with⟨rfl,rfl⟩|⟨h2',he2⟩
   ·exact⟨rfl,rfl⟩
   ·rw[hself,hupd _ _ he2]at e
    have:=h.lt h2'
    omega
   ·rw[hself,hupd _ _ he1]at e
    have:=h.lt h1'
    omega
   ·rw[hupd _ _ he1,hupd _ _ he2]at e
    exact h.inj d1 g1 d2 g2 h1' h2' e
  gens:=fun d' g' ho=>by
   rcases hobj d' g' ho with⟨rfl,rfl⟩|⟨ho',_⟩
   ·rw[egen,if_pos rfl];omega
   ·exact Nat.lt_of_lt_of_le (h.gens d' g' ho') (hG d')
  ext:=h.ext.trans he.of_none
  old:=h.old
  imps:=fun b hb=>by rw[ebm];exact h.imps b hb
  pin:=fun d' g' hd' hd''=>(hupd d' g' (fun e=>by omega)).trans (h.pin d' g' hd' hd'')
  ups:=fun u=>by rw[eup];exact hT (h.ups u) (h.uids u)
  uids:=fun u d' g' hx=>by rw[eup]at hx;exact Nat.lt_of_lt_of_le (h.uids u d' g' hx) (hG d')
  glob:=fun g v hg=>hrep (h.glob g v hg)
  hobs:=fun d' g' ts' hts=>by
   by_cases hx:d'=D/\g'=G
   ·obtain⟨rfl,rfl⟩:=hx
    rw[ehob,if_pos ⟨rfl,rfl⟩]at hts
    cases hts
    refine⟨hDH,by rw[eobj,if_pos ⟨rfl,rfl⟩],us,ty,by rw[hself];exact hheap,fun i x hx => ?_⟩
    obtain⟨hp,u,hu,ho,hr⟩:=hc i x hx
    rcases hp with hp|⟨d2,g2,o2,rfl,hp⟩
    ·refine⟨u,hu,ho,?_,fun d1 g1 e => ?_⟩
     ·cases x with
      |sv s=>exact Rep.mono (w:=w') (fun _ _ _=>rfl) (fun x _ hm=>hM x hm) hr
      |nil=>exact hr
      |_=>cases hp
     ·cases x<;>simp[plnT,TV.id]at hp e
    ·refine⟨u,hu,ho,?_,fun d1 g1 e => ?_⟩
     ·show _=_
      rw[hupd d2 g2 (fun e=>by obtain⟨rfl,rfl⟩:=e;omega)]
      exact hr
     ·simp only[TV.id,Option.some.injEq,Prod.mk.injEq]at e
      obtain⟨rfl,rfl⟩:=e
      exact Nat.lt_of_lt_of_le hp (hG _)
   ·rw[ehob,if_neg hx]at hts
    obtain⟨h1,h2,cs1,ty1,hb1,hall⟩:=h.hobs d' g' ts' hts
    refine⟨h1,by rw[eobj,if_neg hx];exact h2,cs1,ty1,by rw[hupd _ _ hx,he.block _ (lt_of_heap hb1) (fun x=>x)];exact hb1,fun i x hx => ?_⟩
    obtain⟨v,hv,ho,hr,hid⟩:=hall i x hx
    exact⟨v,hv,ho,hT hr hid,fun d1 g1 e=>Nat.lt_of_lt_of_le (hid d1 g1 e) (hG d1)⟩
  bms:=h.bms.to ebm ebw (fun d' g' ho=>(hobj d' g' ho).elim (fun e => .inr (.inl (by rw[e.1,e.2,hself];exact hb))) (fun e => .inl ⟨e.1,hupd _ _ e.2⟩)) (fun x hx _=>he.block x hx (fun x=>x)) }
theorem Rel.setH (h:Rel w0 F I Z N β st a w) {d g off:Nat} {ts:List TV} (ho:st.hob d g=some ts) (hoff:off<ts.length) {us:Array Value} {ty:TypeId} {w':World} {x:TV} {u:Value}
  (hb:w.heap[β d g]?=some (.cells us ty (0,0))) (hb':w'.heap[β d g]?=some (.cells (us.setIfInBounds off u) ty (0,0))) (hsame : ∀b,b≠β d g->w'.heap[b]?=w.heap[b]?)
  (hhs:w'.heap.size=w.heap.size) (hos:w'.os=w.os) (htape:w'.tape=w.tape) (hout:w'.output=w.output)
  (h1u:u.oneCell'=true) (hx:RepT β w (Mut F β st) u x) (hid : ∀d' g',x.id=some (d',g')->g'<st.gen d'):Rel w0 F I Z N β (st.setH d g (ts.set off x)) a w':=by
 obtain⟨hH,hnil,us0,ty0,hb0,hall0⟩:=h.hobs d g ts ho
 rw[hb]at hb0
 cases hb0
 have h1:Rel w0 F I Z N β { st with hob:=fun d' g'=>if d'=d/\g'=g then none else st.hob d' g' } a w:={
  defers:=h.defers
  size:=h.size
  tmps:=h.tmps
  ids:=h.ids
  objs:=h.objs
  own:=h.own
  room:=h.room
  inj:=h.inj
  gens:=h.gens
  ext:=h.ext
  old:=h.old
  imps:=h.imps
  pin:=h.pin
  ups:=h.ups
  uids:=h.uids
  glob:=h.glob
  hobs:=fun d' g' ts' hts=>by
   have hts:(if d'=d/\g'=g then none else st.hob d' g')=some ts':=hts
   split at hts
   ·cases hts
   ·exact h.hobs d' g' ts' hts
  bms:=h.bms }
 have h2:=h1.set (d:=d) (g:=g) (cs0:=[]) (cs:=[]) hnil hb hb' (by simp) hsame hhs hos htape hout (fun i s hs=>by simp at hs) (.inl (if_pos ⟨rfl,rfl⟩))
 have hcell : ∀p:Addr,p.block<w.heap.size -> ¬Mut F β st p.block->w'.cell? p=w.cell? p:=fun p _ hp=>World.cell?_of_block (w:=w) (w':=w') (hsame _ (fun e=>hp (.inr ⟨d,g,by rw[hnil];rfl,e.symm⟩)))
 have hT : ∀ {v:Value} {y:TV},RepT β w (Mut F β st) v y->RepT β w' (Mut F β (st.setH d g (ts.set off x))) v y:=by
  intro v y hy
  refine RepT.mono (w:=w) hcell (fun b _ hm=>hm) (fun b cs1 ty1 _ hcs => ?_) (fun b hm _=>hsame b (fun e=>hm (.inr ⟨d,g,by rw[hnil];rfl,e.symm⟩))) hy
  by_cases e:b=β d g
  ·subst e
   rw[hb]at hcs
   cases hcs
   exact⟨_,hb',by simp⟩
  ·exact⟨cs1,(hsame b e).trans hcs,rfl⟩
 have hrep : ∀ {v:Value} {s:SV},Rep w (Mut F β st) v s->Rep w' (Mut F β (st.setH d g (ts.set off x))) v s:=fun hr=>Rep.mono hcell (fun b _ hm=>hm) hr
 exact {
  defers:=h.defers
  size:=h.size
  tmps:=fun u=>hT (h.tmps u)
  ids:=h.ids
  objs:=fun d' g' cells hcs0=>by
   have hcs:st.obj d' g'=some cells:=hcs0
   clear hcs0
   by_cases he:d'=d/\g'=g
   ·obtain⟨rfl,rfl⟩:=he
    rw[hnil]at hcs
    cases hcs
    exact⟨_,_,hb',fun i s hs=>by simp at hs⟩
   ·have hne:β d' g'≠β d g:=fun e=>he (h.inj d' g' d g (by rw[hcs];rfl) (by rw[hnil];rfl) e)
    obtain⟨us1,ty1,hb1,hall⟩:=h.objs d' g' cells hcs
    refine⟨us1,ty1,(hsame _ hne).trans hb1,fun i s hs => ?_⟩
    obtain⟨h1,v,hv,hr⟩:=hall i s hs
    exact⟨h1,v,hv,hrep hr⟩
  own:=h.own
  room:=h.room
  inj:=h.inj
  gens:=h.gens
  ext:=h2.ext
  old:=h.old
  imps:=h.imps
  pin:=h.pin
  ups:=fun u=>hT (h.ups u)
  uids:=h.uids
  glob:=fun g v hg=>hrep (h.glob g v hg)
  hobs:=fun d' g' ts' hts0=>by
   have hts:(if d'=d/\g'=g then some (ts.set off x) else st.hob d' g')=some ts':=hts0
   clear hts0
   by_cases he:d'=d/\g'=g
   ·obtain⟨rfl,rfl⟩:=he
    rw[if_pos ⟨rfl,rfl⟩]at hts
    cases hts
    refine⟨hH,hnil,_,_,hb',fun i y hy => ?_⟩
    rw[List.getElem?_set]at hy
    split at hy
    ·rename_i e
     subst e
     cases hy
     obtain⟨v0,hv0,_⟩:=hall0 off ts[off] (List.getElem?_eq_getElem hoff)
     have hlt:off<us.size:=by
      rcases Nat.lt_or_ge off us.size with hh|hh
      ·exact hh
      ·rw[Array.getElem?_eq_none hh]at hv0;cases hv0
     exact⟨u,by rw[Array.getElem?_setIfInBounds_self_of_lt hlt],h1u,hT hx,hid⟩
    ·rename_i e
     obtain⟨v,hv,ho',hr,hid'⟩:=hall0 i y hy
     exact⟨v,by rw[Array.getElem?_setIfInBounds_ne e];exact hv,ho',hT hr,hid'⟩
   ·rw[if_neg he]at hts
    obtain⟨e1,e2,cs1,ty1,hb1,hall⟩:=h.hobs d' g' ts' hts
    have hne:β d' g'≠β d g:=fun e=>he (h.inj d' g' d g (by rw[e2];rfl) (by rw[hnil];rfl) e)
    refine⟨e1,e2,cs1,ty1,(hsame _ hne).trans hb1,fun i y hy => ?_⟩
    obtain⟨v,hv,ho',hr,hid'⟩:=hall i y hy
    exact⟨v,hv,ho',hT hr,hid'⟩
  bms:=h.bms.to rfl rfl (fun _ _ h1 => .inl ⟨h1,rfl⟩) (fun b _ hn=>hsame b (fun e=>hn d g (by rw[hnil];rfl) e.symm)) }
theorem Rel.setB (h:Rel w0 F I Z N β st a w) {b:Nat} {cs cs':List SV} (hc:st.bm b=some cs) (hbw:st.bw=true) {w':World} {us us':Array Value} {ty:TypeId}
  (hb:w.heap[b]?=some (.cells us ty (0,0))) (hb':w'.heap[b]?=some (.cells us' ty (0,0))) (hsz:us'.size=us.size) (hsame : ∀x,x≠b->w'.heap[x]?=w.heap[x]?)
  (hhs:w'.heap.size=w.heap.size) (hos:w'.os=w.os) (htape:w'.tape=w.tape) (hout:w'.output=w.output)
  (hall : ∀ (i:Nat) (s:SV),cs'[i]?=some s -> ∃v:Value,us'[i]?=some v/\(s.one=true->Exact v s)):Rel w0 F I Z N β (st.setB b cs') a w':=by
 obtain⟨hno,us0,ty0,fz,hb0,hw,_⟩:=h.bms b cs hc
 obtain⟨rfl,hF,hI⟩:=hw hbw
 rw[hb]at hb0
 cases hb0
 have hmb:Mut F β st b := .inl hF
 have hcell : ∀p:Addr,p.block<w.heap.size -> ¬Mut F β st p.block->w'.cell? p=w.cell? p:=fun p _ hp=>World.cell?_of_block (w:=w) (w':=w') (hsame _ (fun e=>hp (by rw[e];exact hmb)))
 have hrep : ∀ {v:Value} {s:SV},Rep w (Mut F β st) v s->Rep w' (Mut F β (st.setB b cs')) v s:=fun hr=>Rep.mono hcell (fun _ _ hm=>hm) hr
 have hT : ∀ {v:Value} {x:TV},RepT β w (Mut F β st) v x->RepT β w' (Mut F β (st.setB b cs')) v x:=by
  intro v x hx
  refine RepT.mono (w:=w) hcell (fun _ _ hm=>hm) (fun x cs1 ty1 _ hcs => ?_) (fun x hm _=>hsame x (fun e=>hm (by rw[e];exact hmb))) hx
  by_cases e:x=b
  ·subst e
   rw[hb]at hcs
   cases hcs
   exact⟨us',hb',hsz⟩
  ·exact⟨cs1,(hsame x e).trans hcs,rfl⟩
 exact {
  defers:=h.defers
  size:=h.size
  tmps:=fun u=>hT (h.tmps u)
  ids:=h.ids
  objs:=fun d g cells hcs=>by
   obtain⟨us1,ty1,hb1,hall1⟩:=h.objs d g cells hcs
   have hso:(st.obj d g).isSome=true:=by rw[show st.obj d g=some cells from hcs];rfl
   refine⟨us1,ty1,(hsame _ (hno d g hso)).trans hb1,fun i s hs => ?_⟩
   obtain⟨e1,u,hu,hr⟩:=hall1 i s hs
   exact⟨e1,u,hu,hrep hr⟩
  own:=h.own
  room:=h.room
  inj:=h.inj
  gens:=h.gens
  ext:=by
   refine⟨hos.trans h.ext.os,htape.trans h.ext.tape,hout.trans h.ext.output,by rw[hhs];exact h.ext.size,fun x hx1 hnI => ?_,fun x cs1 ty1 hx1 hxI hcs => ?_⟩
   ·exact(hsame x (fun e=>hnI (e▸hI))).trans (h.ext.block x hx1 hnI)
   ·obtain⟨cs2,h2,e2⟩:=h.ext.imp x cs1 ty1 hx1 hxI hcs
    by_cases e:x=b
    ·subst e
     rw[hb]at h2
     cases h2
     exact⟨us',hb',hsz.trans e2⟩
    ·exact⟨cs2,(hsame x e).trans h2,e2⟩
  old:=h.old
  imps:=fun x hx=>⟨(h.imps x hx).1,fun hz=>((h.imps x hx).2 hz).imp_right fun hs=>by
   show (if x=b then some cs' else st.bm x).isSome=true
   split
   ·rfl
   ·exact hs⟩
  pin:=h.pin
  ups:=fun u=>hT (h.ups u)
  uids:=h.uids
  glob:=fun g v hg=>hrep (h.glob g v hg)
  hobs:=fun d g ts hts=>by
   obtain⟨h1,h2,cs1,ty1,hb1,hall1⟩:=h.hobs d g ts hts
   refine⟨h1,h2,cs1,ty1,(hsame _ (hno d g (by rw[h2];rfl))).trans hb1,fun i x hx => ?_⟩
   obtain⟨v,hv,ho,hr,hid⟩:=hall1 i x hx
   exact⟨v,hv,ho,hT hr,hid⟩
  bms:=fun x cx hx0=>by
   have hx:(if x=b then some cs' else st.bm x)=some cx:=hx0
   clear hx0
   clear hcell hrep hT
   by_cases e:x=b
   ·rw[if_pos e]at hx
    subst e
    cases hx
    exact⟨hno,us',ty,(0,0),hb',fun _=>⟨rfl,hF,hI⟩,hall⟩
   ·rw[if_neg e]at hx
    obtain⟨h1,us1,ty1,fz1,hb1,hw1,hall1⟩:=h.bms x cx hx
    exact⟨h1,us1,ty1,fz1,(hsame x e).trans hb1,hw1,hall1⟩ }
theorem Rel.frzAll (h:Rel w0 F I Z N β st a w) : ∀ {vs:List TV} {st':St},frzAll st vs=some st'->Rel w0 F I Z N β st' a w:=by
 intro vs
 induction vs generalizing st with
 |nil=>intro st' hf;cases hf;exact h
 |cons v r ih=>
  intro st' hf
  unfold Ev.frzAll at hf
  split at hf
  ·split at hf
   ·split at hf
    ·rename_i s hs
     exact ih (h.frz hs) hf
    ·cases hf
   ·exact ih h hf
  ·split at hf
   ·split at hf
    ·rename_i s hs
     exact ih (h.frz hs) hf
    ·cases hf
   ·exact ih h hf
  ·exact ih h hf
end
end Go.Ev
namespace Go.Ev
open Go.RowKit
section
variable {P:Program} {w0 w:World} {F I:Nat->Prop} {Z:Zy} {N:Nat} {β:Nat->Nat->Nat} {st:St} {a:Act}
def Runs (P:Program) (a:Act) (o:Oper) (w:World) (K:Act->World->Prop):Prop:=
 ∃w',(∃v,(execOp a.eval o).run P w = .ok (.value v) w'/\K (a.put o.dst v) w')\/((execOp a.eval o).run P w = .ok .skip w'/\K (a.put o.dst undef) w')
theorem Runs.wp {o:Oper} {K:Act->World->Prop} {Q:Exit->Act->World->Prop} (h:Runs P a o w K):o.wp P a w K Q:=by
 obtain⟨w',⟨v,hr,hk⟩|⟨hr,hk⟩⟩:=h
 ·unfold Oper.wp;rw[hr];exact hk
 ·unfold Oper.wp;rw[hr];exact hk
def To (w0:World) (F I:Nat->Prop) (Z:Zy) (N:Nat) (st':St) (a':Act) (w':World):Prop := ∃β',Rel w0 F I Z N β' st' a' w'
theorem val_runs (h:Rel w0 F I Z N β st a w) {o:Oper} {t:TV} (hd : ∀d,o.dst=some d->d<N) (hv:val P st o.op=some t):Runs P a o w (To w0 F I Z N (st.putO o.dst t)):=by
 obtain⟨v,hr,hrep,hi⟩:=val_sound h hv o.dst o.type o.pos o.after o.guard
 exact⟨w,.inl ⟨v,hr,β,h.putO hd hrep hi⟩⟩
theorem oneAll_get {cs:List SV} (h:oneAll cs=true) {i:Nat} {s:SV} (hs:cs[i]?=some s):s.one=true:=
 List.all_eq_true.1 h s (List.mem_of_getElem? hs)
theorem upd_self (β:Nat->Nat->Nat) (d g b:Nat):upd β d g b d g=b:=if_pos ⟨rfl,rfl⟩
theorem alloc_runs (h:Rel w0 F I Z N β st a w) {d:Nat} {t:TypeId} {cs:List SV} (hd:d<N) (hz:zer P t=some cs) (ty:TypeId) (pos:String) (af:Array Edge) (gd:Option (Nat×Bool)) :
  Runs P a ⟨some d,.alloc t,ty,pos,af,gd⟩ w (To w0 F I Z N (st.new d cs (.ptr d (st.gen d) 0))):=by
 obtain⟨i,z,hi,hzz,hsz,hcell⟩:=zer_parts hz
 refine⟨w.alloc (.cells z.cells t),.inl ⟨.pointer (some ⟨w.heap.size,0,none⟩),?_,_,h.new hd (us:=z.cells) (ty:=t) (fun j s hs => ?_) ?_ ?_⟩⟩
 ·simp[execOp,Instr.alloc,run_zero hi hzz,newVar,newRow]
 ·obtain⟨v,hv,ho⟩:=hcell j s hs
  exact⟨ofCell_one ho,v,hv,ofCell_rep ho⟩
 ·show _=_
  rw[upd_self]
 ·intro d' g' e
  simp only[TV.id,Option.some.injEq,Prod.mk.injEq]at e
  exact⟨e.1.symm,e.2.symm⟩
theorem box_runs (h:Rel w0 F I Z N β st a w) {d:Nat} {t:TypeId} {x:Operand} {s:SV} (hd:d<N) (hs:(st.eval x).toSV=some s) (h1:oneAll s.cells=true) (ty:TypeId) (pos:String) (af:Array Edge) (gd:Option (Nat×Bool)) :
  Runs P a ⟨some d,.box t x,ty,pos,af,gd⟩ w (To w0 F I Z N (st.new d s.cells (.ptr d (st.gen d) 0))):=by
 have hr:=toSV_rep (h.eval x) hs
 refine⟨w.alloc (.cells (a.eval x).cells t),.inl ⟨.pointer (some ⟨w.heap.size,0,none⟩),?_,_,h.new hd (us:=(a.eval x).cells) (ty:=t) (fun j y hy => ?_) ?_ ?_⟩⟩
 ·simp[execOp,Instr.box,newVar,newRow]
 ·refine⟨oneAll_get h1 hy,?_⟩
  have hlt:j<(a.eval x).cells.size:=by
   rw[hr.cells_size]
   rcases Nat.lt_or_ge j s.cells.length with h|h
   ·exact h
   ·rw[List.getElem?_eq_none h]at hy;cases hy
  have:=hr.cells j y hy
  rw[Array.getD_eq_getD_getElem?,Array.getElem?_eq_getElem hlt]at this
  exact⟨_,Array.getElem?_eq_getElem hlt,this⟩
 ·show _=_
  rw[upd_self]
 ·intro d' g' e
  simp only[TV.id,Option.some.injEq,Prod.mk.injEq]at e
  exact⟨e.1.symm,e.2.symm⟩
theorem slotsC_get : ∀ {cs:List SV} {ts:List TV},slotsC cs=some ts -> ∀ (i:Nat) (t:TV),ts[i]?=some t -> ∃c,cs[i]?=some c/\slotC c=some t
 | [],ts,h,i,t,ht=>by cases h;simp at ht
 |c::r,ts,h,i,t,ht=>by
  unfold slotsC at h
  split at h
  ·rename_i x l hx hl
   cases h
   cases i with
   |zero=>simp only[List.getElem?_cons_zero,Option.some.injEq]at ht;subst ht;exact⟨c,rfl,hx⟩
   |succ i=>simp only[List.getElem?_cons_succ]at ht ⊢;exact slotsC_get hl i t ht
  ·cases h
theorem slotC_rep {M:Nat->Prop} {c:SV} {t:TV} {u:Value} (h:slotC c=some t) (hr:Rep w M u c):plnT t=true/\u.oneCell'=true /\ ∀β,RepT β w M u t:=by
 unfold slotC at h
 split at h
 ·cases h
  cases hr
  exact⟨rfl,rfl,fun _=>rfl⟩
 ·split at h
  ·rename_i h1
   cases h
   exact⟨h1,hr.one h1,fun _=>hr⟩
  ·cases h
theorem boxH_runs (h:Rel w0 F I Z N β st a w) {d:Nat} {t:TypeId} {x:Operand} {s:SV} {ts:List TV} (hd:d<N) (hs:(st.eval x).toSV=some s) (hts:slotsC s.cells=some ts) (ty:TypeId) (pos:String) (af:Array Edge) (gd:Option (Nat×Bool)) :
  Runs P a ⟨some d,.box t x,ty,pos,af,gd⟩ w (To w0 F I Z N (st.newH d ts)):=by
 have hr:=toSV_rep (h.eval x) hs
 have he:Ext (fun _=>False) w (w.alloc (.cells (a.eval x).cells t)):=(Ext.refl _ w).alloc _
 refine⟨w.alloc (.cells (a.eval x).cells t),.inl ⟨.pointer (some ⟨w.heap.size,0,none⟩),?_,_,h.adoptH he hd (Nat.le_refl _) (heap_alloc_new w _) (fun j y hy => ?_)⟩⟩
 ·simp[execOp,Instr.box,newVar,newRow]
 ·obtain⟨c,hc,hsl⟩:=slotsC_get hts j y hy
  have hlt:j<(a.eval x).cells.size:=by
   rw[hr.cells_size]
   rcases Nat.lt_or_ge j s.cells.length with h|h
   ·exact h
   ·rw[List.getElem?_eq_none h]at hc;cases hc
  have hrep:=hr.cells j c hc
  rw[Array.getD_eq_getD_getElem?,Array.getElem?_eq_getElem hlt]at hrep
  obtain⟨h1,h2,h3⟩:=slotC_rep hsl hrep
  refine⟨.inl h1,_,Array.getElem?_eq_getElem hlt,h2,?_⟩
  have h3:=h3 β
  cases y with
  |sv s=>exact Rep.mono (w:=w) (fun p hp _=>World.cell?_alloc_lt w _ p hp) (fun b hb hm=>hm.resolve_right (by omega)) h3
  |nil=>exact h3
  |_=>cases h1
theorem boxP_runs (h:Rel w0 F I Z N β st a w) {d:Nat} {t:TypeId} {x:Operand} {d' g':Nat} (hd:d<N) (hs:st.eval x = .pst d' g') (ty:TypeId) (pos:String) (af:Array Edge) (gd:Option (Nat×Bool)) :
  Runs P a ⟨some d,.box t x,ty,pos,af,gd⟩ w (To w0 F I Z N (st.newH d [.ptr d' g' 0])):=by
 have hr:a.eval x = .agg #[.pointer (some ⟨β d' g',0,none⟩)]:=by have:=h.eval x;rw[hs]at this;exact this
 have hid:g'<st.gen d':=h.evalId (x:=x) (by rw[hs];rfl)
 have he:Ext (fun _=>False) w (w.alloc (.cells (a.eval x).cells t)):=(Ext.refl _ w).alloc _
 refine⟨w.alloc (.cells (a.eval x).cells t),.inl ⟨.pointer (some ⟨w.heap.size,0,none⟩),?_,_,h.adoptH he hd (Nat.le_refl _) (heap_alloc_new w _) (fun j y hy => ?_)⟩⟩
 ·simp[execOp,Instr.box,newVar,newRow]
 ·cases j with
  |zero=>
   cases hy
   exact⟨.inr ⟨d',g',0,rfl,hid⟩,.pointer (some ⟨β d' g',0,none⟩),by rw[hr];rfl,rfl,rfl⟩
  |succ j=>cases hy
theorem zok_parts {t:TypeId} (h:zok P t=true) : ∃i z,P.info? t=some i/\i.zero=some z/\z.cells.size=i.size:=by
 unfold zok at h
 split at h
 ·rename_i i hi
  split at h
  ·rename_i z hz
   exact⟨i,z,hi,hz,by simpa using h⟩
  ·cases h
 ·cases h
theorem fill_elems {M:Nat->Prop} {size:Nat} : ∀ {parts:List (Nat×Value)} {qs:List (Nat×SV)} {i:Nat} {vs:Array Value} {cs:List SV},parts.length=qs.length ->
  (∀ (j:Nat) (x:Nat×SV),qs[j]?=some x -> ∃v:Value,parts[j]?=some (x.1,v)/\Rep w M v x.2)->elemsC size i qs=some cs->i*size+cs.length<=vs.size ->
  ∃vs',Instr.fill (fun i=>some (i*size,size)) vs parts=some vs'/\vs'.size=vs.size/\(∀k,k<i*size->vs'[k]?=vs[k]?) /\ ∀ (k:Nat) (s:SV),cs[k]?=some s -> ∃v:Value,vs'[i*size+k]?=some v/\Rep w M v s
 | [],[],i,vs,cs,_,_,h,_=>by cases h;exact⟨vs,rfl,rfl,fun _ _=>rfl,fun k s hs=>by simp at hs⟩
 |(j,v)::r,(j',s)::q,i,vs,cs,hl,hr,h,hle=>by
  obtain⟨v',hv',hrep⟩:=hr 0 (j',s) rfl
  simp only[List.getElem?_cons_zero,Option.some.injEq,Prod.mk.injEq]at hv'
  obtain⟨rfl,rfl⟩:=hv'
  unfold elemsC at h
  split at h
  ·rename_i hc
   obtain⟨rfl,hs1⟩:=hc
   split at h
   ·rename_i l hl'
    cases h
    have hsz:v.cells.size=size:=hrep.cells_size.trans hs1
    rw[List.length_append,hs1]at hle
    obtain⟨hf1,hf2⟩:=fold_set (i*size) v.cells.toList 0 vs
    have hfold:v.cells.zipIdx.foldl (fun cs (x:Value×Nat)=>match x with|(c,j)=>cs.setIfInBounds (i*size+j) c) vs =
      (v.cells.toList.zipIdx 0).foldl (fun cs (p:Value×Nat)=>cs.setIfInBounds (i*size+p.2) p.1) vs:=by
     rw[<- Array.foldl_toList]
     simp[Array.toList_zipIdx]
    have hsucc:(i+1)*size=i*size+size:=Nat.succ_mul i size
    obtain⟨vs',e1,e2,e3,e4⟩:=fill_elems (i:=i+1) (vs:=(v.cells.toList.zipIdx 0).foldl (fun cs (p:Value×Nat)=>cs.setIfInBounds (i*size+p.2) p.1) vs) (by simpa using hl)
     (fun k x hx=>by simpa using hr (k+1) x (by simpa using hx)) hl' (by rw[hf1,hsucc];omega)
    refine⟨vs',?_,e2.trans hf1,fun k hk => ?_,fun k x hx => ?_⟩
    ·unfold Instr.fill
     simp only
     rw[if_neg (by simp[hsz];omega),hfold]
     exact e1
    ·rw[e3 k (by omega),hf2,if_neg (by omega)]
    ·by_cases hk:k<size
     ·rw[List.getElem?_append_left (by omega)]at hx
      rw[e3 _ (by omega),hf2,if_pos (by simp[hsz];omega)]
      have:=hrep.cells k x hx
      rw[Array.getD_eq_getD_getElem?]at this
      have hlt:k<v.cells.size:=by omega
      rw[Array.getElem?_eq_getElem hlt]at this
      refine⟨v.cells[k],?_,this⟩
      simp[hlt]
     ·rw[List.getElem?_append_right (by omega),hs1]at hx
      obtain⟨u,hu,hru⟩:=e4 (k-size) x hx
      exact⟨u,by rw[<- hu];congr 1;omega,hru⟩
   ·cases h
  ·cases h
 | [],_::_,_,_,_,hl,_,_,_=>by simp at hl
 |_::_,[],_,_,_,hl,_,_,_=>by simp at hl
theorem elemsC_len {size:Nat} : ∀ {qs:List (Nat×SV)} {i:Nat} {cs:List SV},elemsC size i qs=some cs->cs.length=qs.length*size
 | [],_,_,h=>by cases h;simp
 |(j,s)::q,i,cs,h=>by
  unfold elemsC at h
  split at h
  ·rename_i hc
   split at h
   ·rename_i l hl
    cases h
    rw[List.length_append,hc.2,elemsC_len hl,List.length_cons,Nat.succ_mul]
    omega
   ·cases h
  ·cases h
theorem lit_run (h:Rel w0 F I Z N β st a w) {t:TypeId} {n size:Nat} {parts:Array (Nat×Operand)} {cs:List SV} (hl:litC P st t n parts=some (size,cs)) (dst:Option Nat) (ty:TypeId) (pos:String) (af:Array Edge) (gd:Option (Nat×Bool)) :
  ∃ (us:Array Value) (e:TypeId),(execOp a.eval ⟨dst,.buildSlice t n parts,ty,pos,af,gd⟩).run P w = .ok (.value (.slice (some ⟨w.heap.size,0,none⟩) n n)) (w.alloc (.cells us e))/\us.size=n*size /\
   cs.length=n*size /\ ∀ (i:Nat) (s:SV),cs[i]?=some s->s.one=true /\ ∃v:Value,us[i]?=some v/\Rep w (Mut F β st) v s:=by
 unfold litC at hl
 split at hl
 ·rename_i e sz bytes ps he hps
  split at hl
  ·rename_i hc
   obtain⟨hn,hsmall,hzk⟩:=hc
   split at hl
   ·rename_i cs' hcs
    split at hl
    ·rename_i h1
     cases hl
     obtain⟨hu,i,hi,hsz,_⟩:=elm_parts he
     obtain⟨i',z,hi',hzz,hzs⟩:=zok_parts hzk
     rw[hi]at hi'
     cases hi'
     subst hsz
     have hlen:=elemsC_len hcs
     rw[hn]at hlen
     obtain⟨hl1,hpr⟩:=parts_rep h hps
     have hparts:(parts.map fun (x:Nat×Operand)=>match x with|(i,x)=>(i,a.eval x)).toList=parts.toList.map fun p=>(p.1,a.eval p.2):=by simp
     have go : ∀zc:Array Value,∃us:Array Value,Instr.fill (fun j=>some (j*i.size,i.size)) ((Array.range (n*i.size)).map (zc[· % zc.size]!)) (parts.toList.map fun p=>(p.1,a.eval p.2))=some us/\us.size=n*i.size /\
       ∀ (k:Nat) (s:SV),cs[k]?=some s->s.one=true /\ ∃v:Value,us[k]?=some v/\Rep w (Mut F β st) v s:=by
      intro zc
      obtain⟨us,e1,e2,_,e4⟩:=fill_elems (w:=w) (M:=Mut F β st) (i:=0) (vs:=(Array.range (n*i.size)).map (zc[· % zc.size]!)) (by simp[hl1]) hpr hcs (by simp;omega)
      exact⟨us,e1,by simpa using e2,fun k s hs=>⟨oneAll_get h1 hs,by simpa using e4 k s hs⟩⟩
     have hnot : ¬(n*i.size>2^24):=by omega
     by_cases hz0:n*i.size=0
     ·obtain⟨us,e1,e2,e3⟩:=go #[]
      refine⟨us,e,?_,e2,hlen,e3⟩
      simp only[execOp,Instr.buildSlice,Sem.run_bind,run_underlying hu,Result.andThen_ok,run_size hi,Sem.run_ite,if_neg hnot,if_pos hz0,Sem.run_pure,hparts,e1,newRow,run_newObj,World.alloc_eq]
     ·obtain⟨us,e1,e2,e3⟩:=go z.cells
      refine⟨us,e,?_,e2,hlen,e3⟩
      simp only[execOp,Instr.buildSlice,Sem.run_bind,run_underlying hu,Result.andThen_ok,run_size hi,Sem.run_ite,if_neg hnot,if_neg hz0,Sem.run_pure,run_zero hi hzz,hparts,e1,newRow,run_newObj,World.alloc_eq]
    ·cases hl
   ·cases hl
  ·cases hl
 ·cases hl
end
end Go.Ev
namespace Go.Ev
open Go.RowKit
theorem over_get {α:Type} {cs new:List α} {off:Nat} (h:off+new.length<=cs.length) (k:Nat) :
  (cs.take off++new++cs.drop (off+new.length))[k]?=if off<=k/\k<off+new.length then new[k-off]? else cs[k]?:=by
 by_cases h1:k<off
 ·rw[if_neg (by omega),List.append_assoc,List.getElem?_append_left (by simp;omega),List.getElem?_take_of_lt h1]
 ·by_cases h2:k<off+new.length
  ·rw[if_pos ⟨by omega,h2⟩,List.append_assoc,List.getElem?_append_right (by simp;omega)]
   simp only[List.length_take]
   rw[List.getElem?_append_left (by omega)]
   congr 1
   omega
  ·rw[if_neg (by omega),List.getElem?_append_right (by simp;omega)]
   simp only[List.length_append,List.length_take,List.getElem?_drop]
   congr 1
   omega
theorem over_len {α:Type} {cs new:List α} {off:Nat} (h:off+new.length<=cs.length):(cs.take off++new++cs.drop (off+new.length)).length=cs.length:=by
 simp only[List.length_append,List.length_take,List.length_drop]
 omega
theorem rep_get {α:Type} (z:List α) : ∀ (n k:Nat) (s:α),((List.replicate n z).flatten)[k]?=some s->k<n*z.length/\z[k%z.length]?=some s
 |0,k,s,h=>by simp at h
 |n+1,k,s,h=>by
  rw[List.replicate_succ,List.flatten_cons]at h
  rw[Nat.succ_mul]
  rcases Nat.lt_or_ge k z.length with hk|hk
  ·rw[List.getElem?_append_left hk]at h
   rw[Nat.mod_eq_of_lt hk]
   exact⟨by omega,h⟩
  ·rw[List.getElem?_append_right hk]at h
   obtain⟨h1,h2⟩:=rep_get z n (k-z.length) s h
   refine⟨by omega,?_⟩
   rw[Nat.mod_eq_sub_mod hk]
   exact h2
section
variable {P:Program} {w0 w:World} {F I:Nat->Prop} {Z:Zy} {N:Nat} {β:Nat->Nat->Nat} {st:St} {a:Act}
theorem make_runs (h:Rel w0 F I Z N β st a w) {d:Nat} {t e size bytes n:Nat} {l c:Operand} {z:List SV} (hd:d<N) (he:elm P t=some (e,size,bytes)) (hl:natTV (st.eval l)=some n) (hc:natTV (st.eval c)=some n)
  (hz:zer P e=some z) (hn:n<=1099511627776) (hb:bytes<=128) (hzl:z.length=size) (ty:TypeId) (pos:String) (af:Array Edge) (gd:Option (Nat×Bool)) :
  Runs P a ⟨some d,.makeSlice t l c,ty,pos,af,gd⟩ w (To w0 F I Z N (st.new d ((List.replicate n z).flatten) (.ref d (st.gen d) size 0 n))):=by
 obtain⟨hu,i,hi,his,hib⟩:=elm_parts he
 obtain⟨i',zv,hi',hzz,hzs,hzc⟩:=zer_parts hz
 rw[hi]at hi'
 cases hi'
 obtain⟨kl,hkl⟩:=natO_rep h hl
 obtain⟨kc,hkc⟩:=natO_rep h hc
 have hbb:(i.bytes:Int)*(n:Int)<=281474976710656:=by
  have h1:i.bytes*n<=128*1099511627776:=Nat.mul_le_mul (by omega) hn
  have h2:((i.bytes*n:Nat):Int)<=281474976710656:=by omega
  rwa [Int.natCast_mul]at h2
 have hrun:=run_make (P:=P) w t e i zv hu hi hzz kl kc n n (by omega) (Int.le_refl _) hbb (by omega)
 simp only[Int.toNat_natCast]at hrun
 refine⟨_,.inl ⟨.slice (some ⟨w.heap.size,0,none⟩) n n,?_,_,h.new hd (us:=madeCells zv.cells (n*i.size)) (ty:=e) (fun k s hs => ?_) ?_ ?_⟩⟩
 ·simp only[execOp,hkl,hkc,Sem.run_bind,hrun,Result.andThen_ok,Sem.run_pure]
 ·obtain⟨h1,h2⟩:=rep_get z n k s hs
  obtain⟨v,hv,ho⟩:=hzc _ s h2
  refine⟨ofCell_one ho,v,?_,ofCell_rep ho⟩
  rw[hzl,<- his]at h1
  simp only[madeCells,Array.getElem?_map]
  rw[Array.getElem?_eq_getElem (by simpa using h1)]
  simp only[Array.getElem_range,Option.map_some]
  rw[hzs]
  congr 1
  rw[getElem!_def,hv]
 ·refine⟨n,_,e,by rw[upd_self],Nat.le_refl _,by rw[upd_self];exact heap_alloc_new w _,?_⟩
  rw[size_madeCells,his]
  omega
 ·intro d' g' e'
  simp only[TV.id,Option.some.injEq,Prod.mk.injEq]at e'
  exact⟨e'.1.symm,e'.2.symm⟩
theorem Rel.splice (h:Rel w0 F I Z N β st a w) {d g off:Nat} {cs new:List SV} (ho:st.obj d g=some cs) {vs:List Value} (hlen:vs.length=new.length) (hoff:off+new.length<=cs.length)
  (hn : ∀ (i:Nat) (s:SV),new[i]?=some s->s.one=true /\ ∃v:Value,vs[i]?=some v/\Rep w (Mut F β st) v s) :
  ∃ (us:Array Value) (ty:TypeId),w.heap[β d g]?=some (.cells us ty (0,0))/\off+vs.length<=us.size /\
   Rel w0 F I Z N β (st.set d g (Ev.splice cs off new)) a (w.setRow (β d g) (us.toList.take off++vs++us.toList.drop (off+vs.length)).toArray):=by
 obtain⟨us,ty,hb,hall⟩:=h.objs d g cs ho
 have husz:cs.length<=us.size:=by
  rcases Nat.lt_or_ge us.size cs.length with hh|hh
  ·obtain⟨_,v,hv,_⟩:=hall us.size cs[us.size] (List.getElem?_eq_getElem hh)
   rw[Array.getElem?_eq_none (Nat.le_refl _)]at hv
   cases hv
  ·exact hh
 have hul:us.toList.length=us.size:=Array.length_toList
 have hfit:off+vs.length<=us.toList.length:=by omega
 refine⟨us,ty,hb,by simpa using hfit,?_⟩
 refine h.set (us:=us) (us':=(us.toList.take off++vs++us.toList.drop (off+vs.length)).toArray) (ty:=ty) ho hb (setRow_heap w _ us _ ty (0,0) hb) ?_ (fun b hne=>setRow_other w _ b _ hne) (by simp) rfl rfl rfl (fun k s hs => ?_) ?_
 ·rw[List.size_toArray,over_len hfit,hul]
 ·rw[splice_get hoff]at hs
  rw[List.getElem?_toArray,over_get hfit,hlen]
  split at hs
  ·rename_i hk
   rw[if_pos hk]
   exact hn _ s hs
  ·rename_i hk
   rw[if_neg hk]
   obtain⟨h1,v,hv,hr⟩:=hall k s hs
   exact⟨h1,v,by simpa using hv,hr⟩
 ·cases e:st.hob d g with
  |none=>exact .inl rfl
  |some ts=>
   right
   have hnil:=(h.hobs d g ts e).2.1
   rw[ho]at hnil
   cases hnil
   have hn0:new=[]:=List.eq_nil_of_length_eq_zero (by rw[List.length_nil]at hoff;omega)
   subst hn0
   have hv0:vs=[]:=List.eq_nil_of_length_eq_zero hlen
   subst hv0
   refine⟨by simp[Ev.splice],?_⟩
   simp
theorem Rel.spliceW (h:Rel w0 F I Z N β st a w) {d g off:Nat} {cs new:List SV} (ho:st.obj d g=some cs) (hdN:d<N0) {us:Array Value} {ty:TypeId} (hb:w.heap[β d g]?=some (.cells us ty (0,0))) {vs:List Value} (hlen:vs.length=new.length) (hoff:off<=cs.length) (hfit:off+vs.length<=us.size)
  (hn : ∀ (i:Nat) (s:SV),new[i]?=some s->s.one=true /\ ∃v:Value,vs[i]?=some v/\Rep w (Mut F β st) v s) :
  Rel w0 F I Z N β (st.set d g (Ev.splice cs off new)) a (w.setRow (β d g) (us.toList.take off++vs++us.toList.drop (off+vs.length)).toArray):=by
 obtain⟨us1,ty1,hb1,hall⟩:=h.objs d g cs ho
 rw[hb]at hb1
 cases hb1
 have hul:us.toList.length=us.size:=Array.length_toList
 have hfit:off+vs.length<=us.toList.length:=by omega
 refine h.set (us:=us) (us':=(us.toList.take off++vs++us.toList.drop (off+vs.length)).toArray) (ty:=ty) ho hb (setRow_heap w _ us _ ty (0,0) hb) ?_ (fun b hne=>setRow_other w _ b _ hne) (by simp) rfl rfl rfl (fun k s hs => ?_) (.inl (h.no_hob (Nat.lt_trans hdN (by decide))))
 ·rw[List.size_toArray,over_len hfit,hul]
 ·rw[splice_getW hoff]at hs
  rw[List.getElem?_toArray,over_get hfit,hlen]
  split at hs
  ·rename_i hk
   rw[if_pos hk]
   exact hn _ s hs
  ·rename_i hk
   rw[if_neg hk]
   obtain⟨h1,v,hv,hr⟩:=hall k s hs
   exact⟨h1,v,by simpa using hv,hr⟩
theorem storeVar_run {t:TypeId} {i:TypeInfo} (hi:P.info? t=some i) {v:Value} (hsz:v.cells.size=i.size) (h1 : ∀u∈v.cells.toList,u.oneCell'=true) {g off:Nat} {us:Array Value} {ty:TypeId}
  (hb:w.heap[g]?=some (.cells us ty (0,0))) (hfit:off+v.cells.toList.length<=us.size) :
  (storeVar t ⟨g,off,none⟩ v).run P w = .ok () (w.setRow g (us.toList.take off++v.cells.toList++us.toList.drop (off+v.cells.toList.length)).toArray):=by
 have hst:=run_storeCells_at P g off ty v.cells.toList 0 us w hb (by simpa using hfit) h1
 simp only[Nat.add_zero]at hst
 simp only[storeVar,Sem.run_bind,run_size hi,Result.andThen_ok,Sem.run_ite]
 rw[if_neg (by simp[hsz])]
 exact hst
theorem cells_one {M:Nat->Prop} {v:Value} {s:SV} (hr:Rep w M v s) (h1:oneAll s.cells=true):(∀u∈v.cells.toList,u.oneCell'=true) /\
  ∀ (i:Nat) (x:SV),s.cells[i]?=some x->x.one=true /\ ∃u:Value,v.cells.toList[i]?=some u/\Rep w M u x:=by
 have key : ∀ (i:Nat) (x:SV),s.cells[i]?=some x->x.one=true /\ ∃u:Value,v.cells.toList[i]?=some u/\Rep w M u x:=by
  intro i x hx
  have hlt:i<v.cells.size:=by
   rw[hr.cells_size]
   rcases Nat.lt_or_ge i s.cells.length with h|h
   ·exact h
   ·rw[List.getElem?_eq_none h]at hx;cases hx
  have:=hr.cells i x hx
  rw[Array.getD_eq_getD_getElem?,Array.getElem?_eq_getElem hlt]at this
  exact⟨oneAll_get h1 hx,v.cells[i],by simp[hlt],this⟩
 refine⟨fun u hu => ?_,key⟩
 obtain⟨i,hi⟩:=List.getElem?_of_mem hu
 have hlt:i<s.cells.length:=by
  rw[<- hr.cells_size]
  rcases Nat.lt_or_ge i v.cells.size with h|h
  ·exact h
  ·rw[List.getElem?_eq_none (by simpa using h)]at hi;cases hi
 obtain⟨ho,u',hu',hru⟩:=key i s.cells[i] (List.getElem?_eq_getElem hlt)
 rw[hi]at hu'
 cases hu'
 exact hru.one ho
theorem storeAt_runs (h:Rel w0 F I Z N β st a w) {t:TypeId} {x y:Operand} {b:Bool} {size d g off:Nat} {s:SV} {cs:List SV} (hsh:shp P t=some (b,size)) (hx:st.eval x = .ptr d g off)
  (hy:(st.eval y).toSV=some s) (ho:st.obj d g=some cs) (hlen:s.cells.length=size) (h1:oneAll s.cells=true) (hoff:off+size<=cs.length) (ty:TypeId) (pos:String) (af:Array Edge) (gd:Option (Nat×Bool)) :
  Runs P a ⟨none,.store t x y,ty,pos,af,gd⟩ w (To w0 F I Z N (st.set d g (splice cs off s.cells))):=by
 obtain⟨i,hi,his,_⟩:=shp_parts hsh
 have hp:a.eval x = .pointer (some ⟨β d g,off,none⟩):=by have:=h.eval x;rw[hx]at this;exact this
 have hr:=toSV_rep (h.eval y) hy
 obtain⟨hone,hcells⟩:=cells_one hr h1
 obtain⟨us,cty,hb,hfit,hrel⟩:=h.splice ho (vs:=(a.eval y).cells.toList) (new:=s.cells) (off:=off) (by rw[Array.length_toList,hr.cells_size]) (by omega) hcells
 refine⟨_,.inr ⟨?_,β,hrel⟩⟩
 simp only[execOp,hp,Instr.storeAt,Instr.sureAddr,Sem.run_bind,Sem.run_pure,Result.andThen_ok,
  storeVar_run hi (hr.cells_size.trans (hlen.trans his.symm)) hone hb hfit]
theorem over_one {us:Array Value} {off:Nat} (h:off<us.size) (u:Value):(us.toList.take off++[u]++us.toList.drop (off+[u].length)).toArray=us.setIfInBounds off u:=by
 have hl:off+[u].length<=us.toList.length:=by simp;omega
 refine Array.ext_getElem? fun k => ?_
 rw[List.getElem?_toArray,over_get hl,Array.getElem?_setIfInBounds]
 by_cases e:off=k
 ·subst e
  rw[if_pos (by simp),if_pos rfl,if_pos h]
  simp
 ·rw[if_neg (by simp;omega),if_neg e]
  simp
theorem hstore_runs (h:Rel w0 F I Z N β st a w) {t:TypeId} {x y:Operand} {b:Bool} {d g off:Nat} {ts:List TV} (hsh:shp P t=some (b,1)) (hx:st.eval x = .ptr d g off)
  (ho:st.hob d g=some ts) (hoff:off<ts.length) (hy:slotT (st.eval y)=true) (ty:TypeId) (pos:String) (af:Array Edge) (gd:Option (Nat×Bool)) :
  Runs P a ⟨none,.store t x y,ty,pos,af,gd⟩ w (To w0 F I Z N (st.setH d g (ts.set off (st.eval y)))):=by
 obtain⟨i,hi,his,_⟩:=shp_parts hsh
 have hp:a.eval x = .pointer (some ⟨β d g,off,none⟩):=by have:=h.eval x;rw[hx]at this;exact this
 have hr:=h.eval y
 have h1:(a.eval y).oneCell'=true/\(a.eval y).cells = #[a.eval y]:=by
  have k1:(a.eval y).oneCell'=true:=by
   revert hr hy
   generalize st.eval y=z
   intro hy hr
   cases z with
   |sv s=>exact Rep.one hr hy
   |nil=>rw[show a.eval y = .slice none 0 0 from hr];rfl
   |ref d' g' size o n=>obtain⟨cap,cs,cty,hv,_⟩:=hr;rw[hv];rfl
   |_=>cases hy
  refine⟨k1,?_⟩
  revert k1
  generalize a.eval y=v
  intro k1
  cases v<;>first|rfl|cases k1
 obtain⟨hH,hnil,us,cty,hb,hall⟩:=h.hobs d g ts ho
 have hlt:off<us.size:=by
  obtain⟨v,hv,_⟩:=hall off ts[off] (List.getElem?_eq_getElem hoff)
  rcases Nat.lt_or_ge off us.size with hh|hh
  ·exact hh
  ·rw[Array.getElem?_eq_none hh]at hv;cases hv
 have hrel:=h.setH (w':=w.setRow (β d g) (us.setIfInBounds off (a.eval y))) (x:=st.eval y) (u:=a.eval y) ho hoff hb (setRow_heap w _ us _ cty (0,0) hb) (fun b hne=>setRow_other w _ b _ hne) (by simp) rfl rfl rfl h1.1 hr (fun d' g' e=>h.evalId e)
 refine⟨_,.inr ⟨?_,β,hrel⟩⟩
 have hrun:=storeVar_run (P:=P) hi (v:=a.eval y) (off:=off) (by rw[h1.2];exact his.symm) (fun u hu=>by rw[h1.2]at hu;simp at hu;rw[hu];exact h1.1) hb (by rw[h1.2];simp;omega)
 rw[h1.2,over_one hlt]at hrun
 simp only[execOp,hp,Instr.storeAt,Instr.sureAddr,Sem.run_bind,Sem.run_pure,Result.andThen_ok,hrun]
theorem exact_of {M:Nat->Prop} {v:Value} {s:SV} (h:Rep w M v s) (he:exactB s=true):Exact v s:=by
 intro w' M'
 cases h with
 |bool b=>exact .bool b
 |int k n=>exact .int k n
 |str s=>exact .str s
 |sl0 A n cap h=>exact .sl0 A n cap h
 |sl a n cap hn cells c hb hc hr=>
  cases cells with
  |nil=>exact .sl0 _ _ _ hn
  |cons x l=>cases he
 |con v h=>exact .con v h
 |_=>cases he
theorem exact_one {s:SV} (he:exactB s=true):s.one=true:=by
 cases s<;>first|rfl|cases he|exact he
theorem storeB_runs (h:Rel w0 F I Z N β st a w) {t:TypeId} {x y:Operand} {tb:Bool} {size b off:Nat} {s:SV} {cs:List SV} (hsh:shp P t=some (tb,size)) (hx:st.eval x = .sv (.con (.pointer (some ⟨b,off,none⟩))))
  (hy:(st.eval y).toSV=some s) (hc:st.bm b=some cs) (hbw:st.bw=true) (hlen:s.cells.length=size) (h1:s.cells.all exactB=true) (hoff:off+size<=cs.length) (ty:TypeId) (pos:String) (af:Array Edge) (gd:Option (Nat×Bool)) :
  Runs P a ⟨none,.store t x y,ty,pos,af,gd⟩ w (To w0 F I Z N (st.setB b (splice cs off s.cells))):=by
 obtain⟨i,hi,his,_⟩:=shp_parts hsh
 have hp:a.eval x = .pointer (some ⟨b,off,none⟩):=rep_con (by have:=h.eval x;rw[hx]at this;exact this)
 have hr:=toSV_rep (h.eval y) hy
 have hone1:oneAll s.cells=true:=by
  unfold oneAll
  rw[List.all_eq_true]at h1 ⊢
  exact fun z hz=>exact_one (h1 z hz)
 obtain⟨hone,hcells⟩:=cells_one hr hone1
 obtain⟨_,us,cty,fz,hb,hw,hall⟩:=h.bms b cs hc
 obtain⟨rfl,_,_⟩:=hw hbw
 have hle:cs.length<=us.size:=by
  rcases Nat.eq_zero_or_pos cs.length with h0|h0
  ·omega
  ·obtain⟨v,hv,_⟩:=hall (cs.length-1) cs[cs.length-1] (List.getElem?_eq_getElem (by omega))
   rcases Nat.lt_or_ge (cs.length-1) us.size with hh|hh
   ·omega
   ·rw[Array.getElem?_eq_none hh]at hv;cases hv
 have hvl:(a.eval y).cells.toList.length=size:=by rw[Array.length_toList,hr.cells_size,hlen]
 have hul:us.toList.length=us.size:=Array.length_toList
 have hfit:off+(a.eval y).cells.toList.length<=us.toList.length:=by omega
 have hrel:=h.setB (w':=w.setRow b (us.toList.take off++(a.eval y).cells.toList++us.toList.drop (off+(a.eval y).cells.toList.length)).toArray) (us':=(us.toList.take off++(a.eval y).cells.toList++us.toList.drop (off+(a.eval y).cells.toList.length)).toArray)
  (cs':=splice cs off s.cells) hc hbw hb (setRow_heap w _ us _ cty (0,0) hb) (by rw[List.size_toArray,over_len hfit,hul]) (fun x hne=>setRow_other w _ x _ hne) (by simp) rfl rfl rfl (fun k x hk=>by
   rw[splice_getW (by omega)]at hk
   rw[List.getElem?_toArray,over_get hfit,hvl]
   rw[hlen]at hk
   split at hk
   ·rename_i hk1
    rw[if_pos hk1]
    obtain⟨_,u,hu,hru⟩:=hcells _ x hk
    exact⟨u,hu,fun _=>exact_of hru (List.all_eq_true.1 h1 x (List.mem_of_getElem? hk))⟩
   ·rename_i hk1
    rw[if_neg hk1]
    obtain⟨v,hv,he⟩:=hall k x hk
    exact⟨v,by simpa using hv,he⟩)
 refine⟨_,.inr ⟨?_,β,hrel⟩⟩
 simp only[execOp,hp,Instr.storeAt,Instr.sureAddr,Sem.run_bind,Sem.run_pure,Result.andThen_ok,
  storeVar_run hi (hr.cells_size.trans (hlen.trans his.symm)) hone hb (by omega)]
theorem store_runs (h:Rel w0 F I Z N β st a w) {t:TypeId} {x y:Operand} {soft:Bool} {st':St} (hs:store P soft st t x y=some st') (ty:TypeId) (pos:String) (af:Array Edge) (gd:Option (Nat×Bool)) :
  Runs P a ⟨none,.store t x y,ty,pos,af,gd⟩ w (To w0 F I Z N st'):=by
 unfold store at hs
 split at hs
 ·rename_i b size d g off hsh hx
  split at hs
  ·split at hs
   ·rename_i ts ho
    split at hs
    ·rename_i hc
     cases hs
     obtain⟨rfl,h2,h3,_⟩:=hc
     exact hstore_runs h hsh hx ho h2 h3 ty pos af gd
    ·cases hs
   ·cases hs
  ·split at hs
   ·rename_i s hy
    split at hs
    ·rename_i cs ho
     split at hs
     ·rename_i hc
      cases hs
      exact storeAt_runs h hsh hx hy ho hc.1 hc.2.1 hc.2.2 ty pos af gd
     ·cases hs
    ·cases hs
   ·split at hs
    ·cases hs
    ·split at hs
     ·rename_i d' g' sz' off' n' hy
      split at hs
      ·cases hs
      ·rename_i hne
       split at hs
       ·rename_i s1 hf
        split at hs
        ·rename_i s cs hy' ho
         split at hs
         ·rename_i hc
          cases hs
          have h':=h.frz hf
          have hx':s1.eval x = .ptr d g off:=by
           unfold St.frz at hf
           split at hf
           ·cases hf
           ·split at hf
            ·rename_i cs' hcs'
             cases hf
             revert hx
             cases x with
             |tmp u=>
              intro hx
              simp only[St.eval,St.frzd]at hx ⊢
              rw[hx]
              show (if d=d'/\g=g' then _ else _)=_
              rw[if_neg (fun e=>hne ⟨e.1.symm,e.2.symm⟩)]
             |_=>intro hx;exact hx
            ·cases hf
          exact storeAt_runs h' hsh hx' hy' ho hc.1 hc.2.1 hc.2.2 ty pos af gd
         ·cases hs
        ·cases hs
       ·cases hs
     ·cases hs
 ·rename_i tb size b off hsh hx
  split at hs
  ·rename_i cs s hc hy
   split at hs
   ·rename_i hk
    cases hs
    exact storeB_runs h hsh hx hy hc hk.1 hk.2.2.1 hk.2.2.2.1 hk.2.2.2.2 ty pos af gd
   ·cases hs
  ·cases hs
 ·cases hs
end
end Go.Ev
namespace Go.Ev
open Go.RowKit
section
variable {P:Program} {w0 w:World} {F I:Nat->Prop} {Z:Zy} {N:Nat} {β:Nat->Nat->Nat} {st:St} {a:Act}
theorem Rel.world (h:Rel w0 F I Z N β st a w) {w':World} (hh:w'.heap=w.heap) (ho:w'.os=w.os) (ht:w'.tape=w.tape) (hp:w'.output=w.output):Rel w0 F I Z N β st a w':=by
 have hcell : ∀p:Addr,w'.cell? p=w.cell? p:=fun p=>by unfold World.cell?;rw[hh]
 have hrep : ∀ {v:Value} {s:SV},Rep w (Mut F β st) v s->Rep w' (Mut F β st) v s:=fun hr=>Rep.mono (fun p _ _=>hcell p) (fun _ _ hm=>hm) hr
 have hT : ∀ {v:Value} {x:TV},RepT β w (Mut F β st) v x->RepT β w' (Mut F β st) v x:=fun hx=>
  RepT.mono (w:=w) (fun p _ _=>hcell p) (fun _ _ hm=>hm) (fun b cs ty _ hc=>⟨cs,by rw[hh];exact hc,rfl⟩) (fun b _ _=>by rw[hh]) hx
 exact {
  defers:=h.defers
  size:=h.size
  tmps:=fun u=>hT (h.tmps u)
  ids:=h.ids
  objs:=fun d g cells hc=>by
   obtain⟨us,ty,hb,hall⟩:=h.objs d g cells hc
   refine⟨us,ty,by rw[hh];exact hb,fun i s hs => ?_⟩
   obtain⟨h1,v,hv,hr⟩:=hall i s hs
   exact⟨h1,v,hv,hrep hr⟩
  own:=h.own
  room:=h.room
  inj:=h.inj
  gens:=h.gens
  ext:=h.ext.trans ⟨ho,ht,hp,by rw[hh];exact Nat.le_refl _,fun b _ _=>by rw[hh],fun b cs ty _ _ hc=>⟨cs,by rw[hh];exact hc,rfl⟩⟩
  old:=h.old
  imps:=h.imps
  pin:=h.pin
  ups:=fun u=>hT (h.ups u)
  uids:=h.uids
  glob:=fun g v hg=>hrep (h.glob g v hg)
  hobs:=fun d' g' ts hts=>by
   obtain⟨h1,h2,cs1,ty1,hb1,hall⟩:=h.hobs d' g' ts hts
   refine⟨h1,h2,cs1,ty1,by rw[hh];exact hb1,fun i x hx => ?_⟩
   obtain⟨v,hv,ho,hr,hid⟩:=hall i x hx
   exact⟨v,hv,ho,hT hr,hid⟩
  bms:=h.bms.to rfl rfl (fun _ _ h1 => .inl ⟨h1,rfl⟩) (fun _ _ _=>by rw[hh]) }
def St.kill (st:St) (d g:Nat):St:={ st with
 tmp:=fun t=>(st.tmp t).kill d g
 hob:=fun d1 g1=>(st.hob d1 g1).map fun ts=>ts.map fun t=>t.kill d g
 up:=fun t=>(st.up t).kill d g }
theorem kill_rep {M:Nat->Prop} {v:Value} {t:TV} (d g:Nat) (h:RepT β w M v t):RepT β w M v (t.kill d g):=by
 cases t with
 |ptr d' g' off=>
  show RepT β w M v (if d'=d/\g'=g then .undef else .ptr d' g' off)
  split
  ·trivial
  ·exact h
 |ref d' g' size off n=>
  show RepT β w M v (if d'=d/\g'=g then .undef else .ref d' g' size off n)
  split
  ·trivial
  ·exact h
 |rfc d' g' size off n c=>
  show RepT β w M v (if d'=d/\g'=g then .undef else .rfc d' g' size off n c)
  split
  ·trivial
  ·exact h
 |pst d' g' =>
  show RepT β w M v (if d'=d/\g'=g then .undef else .pst d' g')
  split
  ·trivial
  ·exact h
 |tp d' g' size off n r=>
  show RepT β w M v (if d'=d/\g'=g then .undef else .tp d' g' size off n r)
  split
  ·trivial
  ·exact h
 |_=>exact h
theorem kill_id {t:TV} {d g d' g':Nat} (h:(t.kill d g).id=some (d',g')):t.id=some (d',g') /\ ¬(d'=d/\g'=g):=by
 cases t with
 |ptr d1 g1 off=>
  have h':(if d1=d/\g1=g then TV.undef else TV.ptr d1 g1 off).id=some (d',g'):=h
  split at h'
  ·simp[TV.id]at h'
  ·rename_i hn
   simp only[TV.id,Option.some.injEq,Prod.mk.injEq]at h'
   obtain⟨rfl,rfl⟩:=h'
   exact⟨rfl,hn⟩
 |ref d1 g1 size off n=>
  have h':(if d1=d/\g1=g then TV.undef else TV.ref d1 g1 size off n).id=some (d',g'):=h
  split at h'
  ·simp[TV.id]at h'
  ·rename_i hn
   simp only[TV.id,Option.some.injEq,Prod.mk.injEq]at h'
   obtain⟨rfl,rfl⟩:=h'
   exact⟨rfl,hn⟩
 |rfc d1 g1 size off n c=>
  have h':(if d1=d/\g1=g then TV.undef else TV.rfc d1 g1 size off n c).id=some (d',g'):=h
  split at h'
  ·simp[TV.id]at h'
  ·rename_i hn
   simp only[TV.id,Option.some.injEq,Prod.mk.injEq]at h'
   obtain⟨rfl,rfl⟩:=h'
   exact⟨rfl,hn⟩
 |pst d1 g1=>
  have h':(if d1=d/\g1=g then TV.undef else TV.pst d1 g1).id=some (d',g'):=h
  split at h'
  ·simp[TV.id]at h'
  ·rename_i hn
   simp only[TV.id,Option.some.injEq,Prod.mk.injEq]at h'
   obtain⟨rfl,rfl⟩:=h'
   exact⟨rfl,hn⟩
 |tp d1 g1 size off n r=>
  have h':(if d1=d/\g1=g then TV.undef else TV.tp d1 g1 size off n r).id=some (d',g'):=h
  split at h'
  ·simp[TV.id]at h'
  ·rename_i hn
   simp only[TV.id,Option.some.injEq,Prod.mk.injEq]at h'
   obtain⟨rfl,rfl⟩:=h'
   exact⟨rfl,hn⟩
 |_=>simp[TV.kill,TV.id]at h
theorem Rel.kill (h:Rel w0 F I Z N β st a w) (d g:Nat):Rel w0 F I Z N β (st.kill d g) a w where
 defers:=h.defers
 size:=h.size
 tmps:=fun t=>kill_rep d g (h.tmps t)
 ids:=fun t d' g' hx=>h.ids t d' g' (kill_id hx).1
 objs:=h.objs
 own:=h.own
 room:=h.room
 inj:=h.inj
 gens:=h.gens
 ext:=h.ext
 old:=h.old
 imps:=h.imps
 pin:=h.pin
 ups:=fun t=>kill_rep d g (h.ups t)
 uids:=fun t d' g' hx=>h.uids t d' g' (kill_id hx).1
 glob:=h.glob
 hobs:=fun d' g' ts hts=>by
  have hts:(st.hob d' g').map (fun ts=>ts.map fun t=>t.kill d g)=some ts:=hts
  obtain⟨ts0,h0,rfl⟩:=map_some hts
  obtain⟨h1,h2,cs1,ty1,hb1,hall⟩:=h.hobs d' g' ts0 h0
  refine⟨h1,h2,cs1,ty1,hb1,fun i x hx => ?_⟩
  rw[List.getElem?_map]at hx
  obtain⟨x0,hx0,rfl⟩:=map_some hx
  obtain⟨v,hv,ho,hr,hid⟩:=hall i x0 hx0
  exact⟨v,hv,ho,kill_rep d g hr,fun d1 g1 e=>hid d1 g1 (kill_id e).1⟩
 bms:=h.bms.to rfl rfl (fun _ _ h1 => .inl ⟨h1,rfl⟩) (fun _ _ _=>rfl)
theorem Rel.move (h:Rel w0 F I Z N β st a w) {d g:Nat} {cs0 cs:List SV} (ho:st.obj d g=some cs0) (hd:d<N0) (hno : ∀t d' g',(st.tmp t).id=some (d',g') -> ¬(d'=d/\g'=g)) (hnu : ∀t d' g',(st.up t).id=some (d',g') -> ¬(d'=d/\g'=g))
  (hnh : ∀ (d1 g1:Nat) (ts:List TV) (i:Nat) (x:TV) (d' g':Nat),st.hob d1 g1=some ts->ts[i]?=some x->x.id=some (d',g') -> ¬(d'=d/\g'=g)) {us:Array Value} {ty:TypeId}
  (hc : ∀ (i:Nat) (s:SV),cs[i]?=some s->s.one=true /\ ∃u:Value,us[i]?=some u/\Rep w (Mut F β st) u s) :
  Rel w0 F I Z N (upd β d g w.heap.size) (st.set d g cs) a (w.alloc (.cells us ty)):=by
 have hos':(st.obj d g).isSome=true:=by rw[ho];rfl
 have hobj : ∀d' g',((st.set d g cs).obj d' g').isSome=true->(d'=d/\g'=g)\/((st.obj d' g').isSome=true /\ ¬(d'=d/\g'=g)):=by
  intro d' g' h1
  by_cases he:d'=d/\g'=g
  ·exact .inl he
  ·simp only[St.set,if_neg he]at h1;exact .inr ⟨h1,he⟩
 have hupd : ∀d' g',¬(d'=d/\g'=g)->upd β d g w.heap.size d' g'=β d' g':=fun d' g' he=>if_neg he
 have hM : ∀b,b<w.heap.size->Mut F (upd β d g w.heap.size) (st.set d g cs) b->Mut F β st b:=by
  rintro b hb (hf|⟨d',g',h1,e⟩)
  ·exact .inl hf
  ·rcases hobj d' g' h1 with⟨rfl,rfl⟩|⟨h1',he⟩
   ·rw[upd_self]at e;omega
   ·rw[hupd _ _ he]at e;exact .inr ⟨d',g',h1',e⟩
 have hcell : ∀p:Addr,p.block<w.heap.size -> ¬Mut F β st p.block->(w.alloc (.cells us ty)).cell? p=w.cell? p:=fun p hp _=>World.cell?_alloc_lt w _ p hp
 have hrep : ∀ {v:Value} {s:SV},Rep w (Mut F β st) v s->Rep (w.alloc (.cells us ty)) (Mut F (upd β d g w.heap.size) (st.set d g cs)) v s:=fun hr=>Rep.mono hcell hM hr
 have hT : ∀ {v:Value} {x:TV},RepT β w (Mut F β st) v x->(∀d' g',x.id=some (d',g') -> ¬(d'=d/\g'=g))->RepT (upd β d g w.heap.size) (w.alloc (.cells us ty)) (Mut F (upd β d g w.heap.size) (st.set d g cs)) v x:=by
  intro v x hold hids
  cases x with
  |sv s=>exact hrep hold
  |nil=>exact hold
  |undef=>trivial
  |skip=>exact hold
  |emp=>exact hold
  |ptr d' g' off=>show _=_;rw[hupd d' g' (hids d' g' rfl)];exact hold
  |pst d' g'=>show _=_;rw[hupd d' g' (hids d' g' rfl)];exact hold
  |ref d' g' size off n=>
   obtain⟨cap,cs',ty',h1,h2,h3,h4⟩:=hold
   refine⟨cap,cs',ty',by rw[hupd d' g' (hids d' g' rfl)];exact h1,h2,?_,h4⟩
   rw[hupd d' g' (hids d' g' rfl),Below.heap_alloc _ _ _ (lt_of_heap h3)]
   exact h3
  |rfc d' g' size off n c=>
   obtain⟨cs',ty',h1,h2,h3,h4⟩:=hold
   refine⟨cs',ty',by rw[hupd d' g' (hids d' g' rfl)];exact h1,h2,?_,h4⟩
   rw[hupd d' g' (hids d' g' rfl),Below.heap_alloc _ _ _ (lt_of_heap h3)]
   exact h3
  |tp d' g' size off n r=>
   obtain⟨cap,cs',ty',vs,h1,h2,h3,h4,h5,h6⟩:=hold
   have e:=hupd d' g' (hids d' g' rfl)
   exact⟨cap,cs',ty',vs,by rw[e];exact h1,h2,by rw[e,Below.heap_alloc _ _ _ (lt_of_heap h3)];exact h3,h4,h5,fun i s hi=>hrep (h6 i s hi)⟩
 exact {
  defers:=h.defers
  size:=h.size
  tmps:=fun u=>hT (h.tmps u) (hno u)
  ids:=h.ids
  objs:=fun d' g' cells hcs=>by
   by_cases he:d'=d/\g'=g
   ·obtain⟨rfl,rfl⟩:=he
    simp only[St.set,and_self,if_true,Option.some.injEq]at hcs
    subst hcs
    refine⟨us,ty,by rw[upd_self];exact heap_alloc_new w _,fun i s hs => ?_⟩
    obtain⟨h1,u,hu,hr⟩:=hc i s hs
    exact⟨h1,u,hu,hrep hr⟩
   ·simp only[St.set,if_neg he]at hcs
    obtain⟨us',ty',hb,hall⟩:=h.objs d' g' cells hcs
    refine⟨us',ty',by rw[hupd _ _ he,Below.heap_alloc _ _ _ (lt_of_heap hb)];exact hb,fun i s hs => ?_⟩
    obtain⟨h1,u,hu,hr⟩:=hall i s hs
    exact⟨h1,u,hu,hrep hr⟩
  own:=fun d' g' h1=>by
   rcases hobj d' g' h1 with⟨rfl,rfl⟩|⟨h1',he⟩
   ·rw[upd_self]
    exact⟨fun _ => .inl h.ext.size,fun hn _=>absurd hd (by omega)⟩
   ·rw[hupd _ _ he];exact h.own d' g' h1'
  room:=h.room
  inj:=fun d1 g1 d2 g2 h1 h2 e=>by
   rcases hobj d1 g1 h1 with⟨rfl,rfl⟩|⟨h1',he1⟩<;>rcases hobj d2 g2 h2 with⟨rfl,rfl⟩|⟨h2',he2⟩
   ·exact⟨rfl,rfl⟩
   ·rw[upd_self,hupd _ _ he2]at e
    have:=h.lt h2'
    omega
   ·rw[upd_self,hupd _ _ he1]at e
    have:=h.lt h1'
    omega
   ·rw[hupd _ _ he1,hupd _ _ he2]at e
    exact h.inj d1 g1 d2 g2 h1' h2' e
  gens:=fun d' g' h1=>by
   rcases hobj d' g' h1 with⟨rfl,rfl⟩|⟨h1',_⟩
   ·exact h.gens d' g' hos'
   ·exact h.gens d' g' h1'
  ext:=h.ext.alloc _
  old:=h.old
  imps:=h.imps
  pin:=fun d' g' hd' hd''=>(hupd d' g' (fun e=>by omega)).trans (h.pin d' g' hd' hd'')
  ups:=fun u=>hT (h.ups u) (hnu u)
  uids:=h.uids
  glob:=fun g v hg=>hrep (h.glob g v hg)
  hobs:=fun d' g' ts hts=>by
   obtain⟨h1,h2,cs1,ty1,hb1,hall⟩:=h.hobs d' g' ts hts
   have hne : ¬(d'=d/\g'=g):=fun e=>by have:N0<H0:=(by decide);omega
   refine⟨h1,by simp only[St.set,if_neg hne];exact h2,cs1,ty1,by rw[hupd _ _ hne,Below.heap_alloc _ _ _ (lt_of_heap hb1)];exact hb1,fun i x hx => ?_⟩
   obtain⟨v,hv,ho,hr,hid⟩:=hall i x hx
   exact⟨v,hv,ho,hT hr (fun a1 a2 e=>hnh d' g' ts i x a1 a2 hts hx e),hid⟩
  bms:=h.bms.to rfl rfl (fun d' g' h1=>(hobj d' g' h1).elim (fun e => .inr (.inl (by rw[e.1,e.2,upd_self];exact Nat.le_refl _))) (fun e => .inl ⟨e.1,hupd _ _ e.2⟩)) (fun b hb _=>Below.heap_alloc _ _ _ hb) }
theorem more_soundK (h:Rel w0 F I Z N β st a w) {x:Operand} {size m k:Nat} {new:List SV} (hm:moreOf st size (st.eval x)=some (m,new)) (hk:k<=m) (hlen:k*size<=new.length) (h1:oneAll (new.take (k*size))=true) :
  ∃ (A:Option Addr) (cap:Nat) (vals:List Value),a.eval x = .slice A m cap/\vals.length=k*size/\(0<k*size -> ∃p,A=some p /\ ∀ (j:Nat) (u:Value),vals[j]?=some u->w.cell? (p.add j)=some u) /\
   (∀u∈vals,u.oneCell'=true) /\ ∀ (j:Nat) (s:SV),(new.take (k*size))[j]?=some s -> ∃u:Value,vals[j]?=some u/\Rep w (Mut F β st) u s:=by
 have hnl:(new.take (k*size)).length=k*size:=by rw[List.length_take];omega
 have hlt : ∀ {j:Nat} {s:SV},(new.take (k*size))[j]?=some s->j<k*size/\new[j]?=some s:=by
  intro j s hs
  have hj:j<k*size:=by
   rcases Nat.lt_or_ge j (k*size) with h|h
   ·exact h
   ·rw[List.getElem?_eq_none (by omega)]at hs;cases hs
  exact⟨hj,by rw[List.getElem?_take_of_lt hj]at hs;exact hs⟩
 have fin : ∀ (vals:List Value),vals.length=k*size->(∀ (j:Nat) (s:SV),(new.take (k*size))[j]?=some s -> ∃u:Value,vals[j]?=some u/\Rep w (Mut F β st) u s) -> ∀u∈vals,u.oneCell'=true:=by
  intro vals hl hr u hu
  obtain⟨i,hi⟩:=List.getElem?_of_mem hu
  have hlt:i<(new.take (k*size)).length:=by
   rcases Nat.lt_or_ge i vals.length with h|h
   ·omega
   ·rw[List.getElem?_eq_none h]at hi;cases hi
  obtain⟨u',hu',hru⟩:=hr i _ (List.getElem?_eq_getElem hlt)
  rw[hi]at hu'
  cases hu'
  exact hru.one (oneAll_get h1 (List.getElem?_eq_getElem hlt))
 have own : ∀ {d g off cap:Nat} {cs:List SV} {us:Array Value} {ty:TypeId},a.eval x = .slice (some ⟨β d g,off,none⟩) m cap->m<=cap->w.heap[β d g]?=some (.cells us ty (0,0))->off+cap*size<=us.size->st.obj d g=some cs->new=(cs.drop off).take (m*size) ->
   ∃ (A:Option Addr) (cap:Nat) (vals:List Value),a.eval x = .slice A m cap/\vals.length=k*size/\(0<k*size -> ∃p,A=some p /\ ∀ (j:Nat) (u:Value),vals[j]?=some u->w.cell? (p.add j)=some u) /\
   (∀u∈vals,u.oneCell'=true) /\ ∀ (j:Nat) (s:SV),(new.take (k*size))[j]?=some s -> ∃u:Value,vals[j]?=some u/\Rep w (Mut F β st) u s:=by
  intro d g off cap cs us ty hv hn hb hroom ho hnew
  obtain⟨us',ty',hb',hall⟩:=h.objs d g cs ho
  rw[hb]at hb'
  cases hb'
  have hus:off+k*size<=us.size:=by
   have:k*size<=cap*size:=Nat.mul_le_mul_right _ (Nat.le_trans hk hn)
   omega
  have hvl:((us.toList.drop off).take (k*size)).length=k*size:=by
   rw[List.length_take,List.length_drop,Array.length_toList]
   omega
  have hg : ∀ (j:Nat) (s:SV),(new.take (k*size))[j]?=some s -> ∃u:Value,((us.toList.drop off).take (k*size))[j]?=some u/\Rep w (Mut F β st) u s:=by
   intro j s hs
   obtain⟨hj,hs⟩:=hlt hs
   have hjm:j<m*size:=Nat.lt_of_lt_of_le hj (Nat.mul_le_mul_right _ hk)
   rw[hnew,List.getElem?_take_of_lt hjm,List.getElem?_drop]at hs
   obtain⟨_,v,hv,hr⟩:=hall _ s hs
   exact⟨v,by rw[List.getElem?_take_of_lt hj,List.getElem?_drop,Array.getElem?_toList];exact hv,hr⟩
  refine⟨_,cap,(us.toList.drop off).take (k*size),hv,hvl,fun _=>⟨_,rfl,fun j u hu => ?_⟩,fin _ hvl hg,hg⟩
  have hj:j<k*size:=by
   rcases Nat.lt_or_ge j (k*size) with h|h
   ·exact h
   ·rw[List.getElem?_eq_none (by omega)]at hu;cases hu
  rw[List.getElem?_take_of_lt hj,List.getElem?_drop,Array.getElem?_toList]at hu
  rw[add_mk,cell_of_row w _ _ us ty (0,0) hb]
  exact hu
 have he:=h.eval x
 unfold moreOf at hm
 split at hm
 ·rename_i m' cs hx
  cases hm
  rw[hx]at he
  generalize hv:a.eval x=v at he
  cases he with
  |sl0 A _ cap hn=>
   have h0:k*size=0:=by simpa using hlen
   exact⟨A,cap,[],rfl,by simp[h0],fun hp=>absurd hp (by omega),fun u hu=>by simp at hu,fun j s hs=>by simp at hs⟩
  |sl p _ cap hn _ c hb hc hr=>
   have hg : ∀ (j:Nat) (s:SV),(new.take (k*size))[j]?=some s -> ∃u:Value,((List.range (k*size)).map c)[j]?=some u/\Rep w (Mut F β st) u s:=by
    intro j s hs
    obtain⟨hj,hs⟩:=hlt hs
    exact⟨c j,by rw[List.getElem?_map,List.getElem?_range hj];rfl,hr j s hs⟩
   refine⟨some p,cap,(List.range (k*size)).map c,rfl,by simp,fun _=>⟨p,rfl,fun j u hu => ?_⟩,fin _ (by simp) hg,hg⟩
   have hj:j<k*size:=by
    rcases Nat.lt_or_ge j (k*size) with h|h
    ·exact h
    ·rw[List.getElem?_eq_none (by simpa using h)]at hu;cases hu
   rw[List.getElem?_map,List.getElem?_range hj,Option.map_some,Option.some.injEq]at hu
   subst hu
   exact hc j new[j] (List.getElem?_eq_getElem (by omega))
 ·rename_i hx
  cases hm
  rw[hx]at he
  have h0:k*size=0:=by simpa using hlen
  exact⟨none,0,[],he,by simp[h0],fun hp=>absurd hp (by omega),fun u hu=>by simp at hu,fun j s hs=>by simp at hs⟩
 ·rename_i d g sz off m' hx
  split at hm
  ·rename_i hsz
   split at hm
   ·rename_i cs ho
    cases hm
    rw[hx]at he
    obtain⟨cap,cs',ty',hv,hn,hb,hroom⟩:=he
    rw[hsz]at hroom
    exact own hv hn hb hroom ho rfl
   ·cases hm
  ·cases hm
 ·rename_i d g sz off m' c hx
  split at hm
  ·rename_i hsz
   split at hm
   ·rename_i cs ho
    cases hm
    rw[hx]at he
    obtain⟨cs',ty',hv,hn,hb,hroom⟩:=he
    rw[hsz]at hroom
    exact own hv hn hb hroom ho rfl
   ·cases hm
  ·cases hm
 ·rename_i b off m' c hx
  split at hm
  ·rename_i cs hc
   cases hm
   rw[hx]at he
   obtain⟨_,us,cty,fz,hb,_,hall⟩:=h.bms b cs hc
   have hcl : ∀ (j:Nat) (s:SV),(((cs.drop off).take (m*size)).take (k*size))[j]?=some s -> ∃u:Value,w.cell? ((⟨b,off,none⟩:Addr).add j)=some u/\Rep w (Mut F β st) u s:=by
    intro j s hs
    have hj:=(hlt hs).1
    have hs2:=(hlt hs).2
    have hjm:j<m*size:=Nat.lt_of_lt_of_le hj (Nat.mul_le_mul_right _ hk)
    have ho:=oneAll_get h1 hs
    rw[List.getElem?_take_of_lt hjm,List.getElem?_drop]at hs2
    obtain⟨v,hv,he⟩:=hall _ s hs2
    exact⟨v,by rw[add_mk,cell_of_row w _ _ us cty fz hb];exact hv,he ho w _⟩
   have hg : ∀ (j:Nat) (s:SV),(((cs.drop off).take (m*size)).take (k*size))[j]?=some s -> ∃u:Value,((List.range (k*size)).map fun j=>((w.cell? ((⟨b,off,none⟩:Addr).add j)).getD undef))[j]?=some u/\Rep w (Mut F β st) u s:=by
    intro j s hs
    obtain⟨u,hu,hr⟩:=hcl j s hs
    exact⟨u,by rw[List.getElem?_map,List.getElem?_range (hlt hs).1,Option.map_some,hu];rfl,hr⟩
   refine⟨some ⟨b,off,none⟩,c,_,rep_con he,by simp,fun _=>⟨_,rfl,fun j u hu => ?_⟩,fin _ (by simp) hg,hg⟩
   have hj:j<k*size:=by
    rcases Nat.lt_or_ge j (k*size) with h|h
    ·exact h
    ·rw[List.getElem?_eq_none (by simpa using h)]at hu;cases hu
   rw[List.getElem?_map,List.getElem?_range hj,Option.map_some,Option.some.injEq]at hu
   obtain⟨u',hu',_⟩:=hcl j _ (List.getElem?_eq_getElem (by omega))
   rw[hu']at hu
   cases hu
   exact hu'
  ·cases hm
 ·cases hm
theorem more_sound (h:Rel w0 F I Z N β st a w) {x:Operand} {size m:Nat} {new:List SV} (hm:moreOf st size (st.eval x)=some (m,new)) (hlen:new.length=m*size) (h1:oneAll new=true) :
  ∃ (A:Option Addr) (cap:Nat) (vals:List Value),a.eval x = .slice A m cap/\vals.length=m*size/\(0<m*size -> ∃p,A=some p /\ ∀ (j:Nat) (u:Value),vals[j]?=some u->w.cell? (p.add j)=some u) /\
   (∀u∈vals,u.oneCell'=true) /\ ∀ (j:Nat) (s:SV),new[j]?=some s -> ∃u:Value,vals[j]?=some u/\Rep w (Mut F β st) u s:=by
 have ht:new.take (m*size)=new:=List.take_of_length_le (by omega)
 have:=more_soundK h hm (Nat.le_refl m) (by omega) (by rw[ht];exact h1)
 rw[ht]at this
 exact this
theorem append_roomO {t ty e cty:TypeId} {i:TypeInfo} (ht:P.underlying t=some (.slice e)) (hi:P.info? e=some i)
  {g off sLen sCap:Nat} {cur:Array Value} (hg:w.heap[g]?=some (.cells cur cty (0,0)))
  {p:Addr} {m c:Nat} {news:List Value} (hl:news.length=m*i.size) (hnews : ∀j u,news[j]?=some u->w.cell? (p.add j)=some u) (h1 : ∀u∈news,u.oneCell'=true)
  (hroom:sLen+m<=sCap) (hfit:off+sLen*i.size+news.length<=cur.size) :
  (Builtin.append_ #[t,t] ty #[.slice (some ⟨g,off,none⟩) sLen sCap,.slice (some p) m c]).run P w =
   .ok (.slice (some ⟨g,off,none⟩) (sLen+m) sCap) (w.setRow g (cur.toList.take (off+sLen*i.size)++news++cur.toList.drop (off+sLen*i.size+news.length)).toArray):=by
 have hf:=run_firstCells_some (P:=P) w i.size m p m c news hl hnews
 have hst:=run_storeCells_at P g (off+sLen*i.size) cty news 0 cur w hg (by simpa using hfit) h1
 simp only[Nat.add_zero]at hst
 simp[Builtin.append_,run_underlying ht,sizeOf,typeInfo,hi,Builtin.lenOf,hroom,hf,add_mk,hst]
theorem append_room {t ty e cty:TypeId} {i:TypeInfo} (ht:P.underlying t=some (.slice e)) (hi:P.info? e=some i)
  {g sLen sCap:Nat} {cur:Array Value} (hg:w.heap[g]?=some (.cells cur cty (0,0)))
  {p:Addr} {m c:Nat} {news:List Value} (hl:news.length=m*i.size) (hnews : ∀j u,news[j]?=some u->w.cell? (p.add j)=some u) (h1 : ∀u∈news,u.oneCell'=true)
  (hroom:sLen+m<=sCap) (hfit:sLen*i.size+news.length<=cur.size) :
  (Builtin.append_ #[t,t] ty #[.slice (some ⟨g,0,none⟩) sLen sCap,.slice (some p) m c]).run P w =
   .ok (.slice (some ⟨g,0,none⟩) (sLen+m) sCap) (w.setRow g (cur.toList.take (sLen*i.size)++news++cur.toList.drop (sLen*i.size+news.length)).toArray):=by
 have:=append_roomO (P:=P) (w:=w) (ty:=ty) (off:=0) (c:=c) ht hi hg hl hnews h1 hroom (by rw[Nat.zero_add];exact hfit)
 rw[Nat.zero_add]at this
 exact this
theorem append_none {t ty e:TypeId} {i:TypeInfo} (ht:P.underlying t=some (.slice e)) (hi:P.info? e=some i) {A B:Option Addr} {n cap c:Nat} (hn:n<=cap) :
  (Builtin.append_ #[t,t] ty #[.slice A n cap,.slice B 0 c]).run P w = .ok (.slice A n cap) w:=by
 cases A<;>cases B<;>simp[Builtin.append_,run_underlying ht,sizeOf,typeInfo,hi,Builtin.lenOf,hn,Builtin.firstCells,loadCells,loadCellsFrom,storeCells]
end
end Go.Ev
namespace Go.Ev
open Go.RowKit
section
variable {P:Program} {w0 w:World} {F I:Nat->Prop} {Z:Zy} {N:Nat} {β:Nat->Nat->Nat} {st:St} {a:Act}
theorem Rep.drew {M:Nat->Prop} {v:Value} {s:SV} (h:Rep w M v s):Rep w.drew M v s:=Rep.mono (w:=w) (w':=w.drew) (fun _ _ _=>rfl) (fun _ _ hm=>hm) h
theorem run_append_op {s x:Operand} {t t':TypeId} {dst:Option Nat} {ty:TypeId} {pos:String} {af:Array Edge} {gd:Option (Nat×Bool)} {v:Value} {w':World}
  (h:(Builtin.append_ #[t,t'] ty #[a.eval s,a.eval x]).run P w = .ok v w') :
  (execOp a.eval ⟨dst,.call { callee := .builtin .append,args := #[s,x],argTypes := #[t,t'] },ty,pos,af,gd⟩).run P w = .ok (.value v) w':=by
 rw[call_builtin]
 have:(#[s,x].map a.eval) = #[a.eval s,a.eval x]:=by simp
 simp only[builtin,this,Sem.run_bind,h,Result.andThen_ok,Sem.run_pure]
theorem append_runs (h:Rel w0 F I Z N β st a w) {d:Nat} {t:TypeId} {s x:Operand} {st':St} (hd:d<N) (hs:append P (some d) st t s x=some st') (ty:TypeId) (pos:String) (af:Array Edge) (gd:Option (Nat×Bool)) :
  Runs P a ⟨some d,.call { callee := .builtin .append,args := #[s,x],argTypes := #[t,t] },ty,pos,af,gd⟩ w (To w0 F I Z N st'):=by
 unfold append at hs
 split at hs
 ·rename_i e size bytes d0 he hdd
  cases hdd
  obtain⟨hu,i,hi,his,hib⟩:=elm_parts he
  subst his
  split at hs
  ·rename_i m new hm
   split at hs
   ·rename_i hc
    obtain⟨hlen,hby,hsz,hzk,h1⟩:=hc
    obtain⟨i',z,hi',hzz,hzs⟩:=zok_parts hzk
    rw[hi]at hi'
    cases hi'
    obtain⟨A,cap,vals,hx,hvl,hA,hone,hrep⟩:=more_sound h hm hlen h1
    have hsv:=h.eval s
    unfold appendTo at hs
    split at hs
    ·rename_i hes
     rw[hes]at hsv
     have hsv:a.eval s = .slice none 0 0:=hsv
     split at hs
     ·rename_i hm0
      subst hm0
      cases hs
      refine⟨w,.inl ⟨.slice none 0 0,run_append_op ?_,β,h.put hd rfl (fun d g e=>by simp[TV.id]at e)⟩⟩
      rw[hsv,hx]
      exact append_none hu hi (Nat.le_refl 0)
     ·rename_i hm0
      split at hs
      ·rename_i hmb
       cases hs
       have hpos:0<m*i.size:=Nat.mul_pos (by omega) hsz
       obtain⟨p,rfl,hcell⟩:=hA hpos
       have hbb:m*i.bytes<=281474976710656:=by
        have:m*i.bytes<=274877906944*128:=Nat.mul_le_mul hmb (by omega)
        omega
       have hr:=run_append_nil (P:=P) w t ty e i z hu hi hzz p m cap vals hvl hcell (by omega) (by omega) hbb
       have hdr:=h.world (w':=w.drew) rfl rfl rfl rfl
       refine⟨_,.inl ⟨_,run_append_op (by rw[hsv,hx];exact hr),_,hdr.new hd (us:=vals.toArray++Builtin.zeroCells z.cells (grownCap w m 0 e-m)) (ty:=e) (fun j s hj => ?_) ?_ ?_⟩⟩
       ·obtain⟨u,hu',hru⟩:=hrep j s hj
        refine⟨oneAll_get h1 hj,u,?_,Rep.drew hru⟩
        have hjl:j<vals.length:=by
         rcases Nat.lt_or_ge j vals.length with h|h
         ·exact h
         ·rw[List.getElem?_eq_none h]at hu';cases hu'
        rw[Array.getElem?_append_left (by simpa using hjl)]
        simpa using hu'
       ·have hge:=grownCap_ge w m 0 e
        refine⟨grownCap w m 0 e,_,e,by rw[upd_self];rfl,hge,by rw[upd_self];exact heap_alloc_new w.drew _,?_⟩
        rw[Array.size_append,size_zeroCells,hzs,List.size_toArray,hvl,Nat.zero_add,<- Nat.add_mul]
        refine Nat.mul_le_mul_right _ ?_
        omega
       ·intro d' g' e'
        simp only[TV.id,Option.some.injEq,Prod.mk.injEq]at e'
        exact⟨e'.1.symm,e'.2.symm⟩
      ·cases hs
    ·rename_i d' g' sz off n hes
     rw[hes]at hsv
     have hid:g'<st.gen d':=h.evalId (by rw[hes];rfl)
     split at hs
     ·rename_i hm0
      subst hm0
      cases hs
      refine⟨w,.inl ⟨a.eval s,run_append_op ?_,β,h.put hd hsv (fun d1 g1 e1 => ?_)⟩⟩
      ·obtain⟨scap,cs',ty',hv,hn,_⟩:=hsv
       rw[hv,hx]
       exact append_none hu hi hn
      ·simp only[TV.id,Option.some.injEq,Prod.mk.injEq]at e1
       obtain⟨rfl,rfl⟩:=e1
       exact hid
     ·rename_i hm0
      split at hs
      ·rename_i hc
       obtain⟨rfl,rfl,hdN,hnm⟩:=hc
       split at hs
       ·rename_i cs ho
        split at hs
        ·rename_i hcl
         cases hs
         obtain⟨scap,us,cty,hv,hn,hb,hroom⟩:=hsv
         rw[Nat.zero_add]at hroom
         obtain⟨us1,ty1,hb1,hall⟩:=h.objs d' g' cs ho
         rw[hb]at hb1
         cases hb1
         have hpos:0<m*i.size:=Nat.mul_pos (by omega) hsz
         obtain⟨p,rfl,hcell⟩:=hA hpos
         have hadd:(n+m)*i.size=n*i.size+m*i.size:=Nat.add_mul n m i.size
         have hval : ∀ (j:Nat) (s:SV),(cs++new)[j]?=some s->s.one=true/\((j<n*i.size /\ ∃u:Value,us[j]?=some u/\Rep w (Mut F β st) u s)\/(n*i.size<=j/\j<n*i.size+m*i.size /\ ∃u:Value,vals[j-n*i.size]?=some u/\Rep w (Mut F β st) u s)):=by
          intro j s hj
          rcases Nat.lt_or_ge j cs.length with hlt|hge
          ·rw[List.getElem?_append_left hlt]at hj
           obtain⟨o,u,hu',hr⟩:=hall j s hj
           exact⟨o,.inl ⟨by omega,u,hu',hr⟩⟩
          ·rw[List.getElem?_append_right hge,hcl]at hj
           obtain⟨u,hu',hr⟩:=hrep _ s hj
           refine⟨oneAll_get h1 hj,.inr ⟨by omega,?_,u,hu',hr⟩⟩
           rcases Nat.lt_or_ge (j-n*i.size) new.length with h|h
           ·omega
           ·rw[List.getElem?_eq_none h]at hj;cases hj
         by_cases hfit:n+m<=scap
         ·-- in place
          have hle:n*i.size+vals.length<=us.size:=by
           rw[hvl,<- hadd]
           exact Nat.le_trans (Nat.mul_le_mul_right _ hfit) hroom
          have hr:=append_room (P:=P) (ty:=ty) (c:=cap) hu hi hb hvl hcell hone hfit hle
          have hul:us.toList.length=us.size:=Array.length_toList
          have hle':n*i.size+vals.length<=us.toList.length:=by omega
          have hk:=(h.set (cs:=cs++new) (us':=(us.toList.take (n*i.size)++vals++us.toList.drop (n*i.size+vals.length)).toArray) ho hb (setRow_heap w _ us _ cty (0,0) hb)
           (by rw[List.size_toArray,over_len hle',hul]) (fun b hne=>setRow_other w _ b _ hne) (by simp) rfl rfl rfl (fun j s hj=>by
            obtain⟨o,hcase⟩:=hval j s hj
            refine⟨o,?_⟩
            rw[List.getElem?_toArray,over_get hle']
            rcases hcase with⟨hlt,u,hu',hr'⟩|⟨hge,hlt,u,hu',hr'⟩
            ·rw[if_neg (by omega)]
             exact⟨u,by simpa using hu',hr'⟩
            ·rw[if_pos (by omega)]
             exact⟨u,hu',hr'⟩) (.inl (h.no_hob (Nat.lt_trans hdN (by decide))))).kill d' g'
          rw[<- hv,<- hx]at hr
          refine⟨_,.inl ⟨_,run_append_op hr,β,?_⟩⟩
          refine hk.put (t := .ref d' g' i.size 0 (n+m)) hd ⟨scap,_,cty,rfl,hfit,setRow_heap w _ us _ cty (0,0) hb,?_⟩ (fun d1 g1 e1 => ?_)
          ·rw[List.size_toArray,over_len hle',hul]
           omega
          ·simp only[TV.id,Option.some.injEq,Prod.mk.injEq]at e1
           obtain⟨rfl,rfl⟩:=e1
           exact hid
         ·-- a new block
          have holds : ∀ (j:Nat) (u:Value),(us.toList.take (n*i.size))[j]?=some u->w.cell? ((⟨β d' g',0,none⟩:Addr).add j)=some u:=by
           intro j u hj
           have hjl:j<n*i.size:=by
            rcases Nat.lt_or_ge j (n*i.size) with h|h
            ·exact h
            ·rw[List.getElem?_eq_none (by simp;omega)]at hj;cases hj
           rw[List.getElem?_take_of_lt hjl,Array.getElem?_toList]at hj
           rw[add_mk,Nat.zero_add,cell_of_row w _ _ us cty (0,0) hb]
           exact hj
          have hul:us.toList.length=us.size:=Array.length_toList
          have hn':n*i.size<=us.size:=Nat.le_trans (Nat.mul_le_mul_right _ hn) hroom
          have hol:(us.toList.take (n*i.size)).length=n*i.size:=by rw[List.length_take];omega
          have hbb:(n+m)*i.bytes<=140737488355328:=by
           have:(n+m)*i.bytes<=274877906944*128:=Nat.mul_le_mul hnm (by omega)
           omega
          have hr:=run_append_grow (P:=P) w t ty e i z hu hi hzz ⟨β d' g',0,none⟩ n scap _ hol holds p m cap vals hvl hcell (by omega) (by omega) (growslice_fits (by omega) hbb)
          have hk:=(h.kill d' g').world (w':=w.drew) rfl rfl rfl rfl
          have hmv:=hk.move (cs:=cs++new) (us:=(us.toList.take (n*i.size)).toArray++vals.toArray++Builtin.zeroCells z.cells (grownCap w (n+m) scap e-(n+m))) (ty:=e) ho hdN
           (fun t d1 g1 e1=>(kill_id e1).2) (fun t d1 g1 e1=>(kill_id e1).2) (fun d1 g1 ts i x d2 g2 e1 e2 e3=>by
            obtain⟨ts0,_,rfl⟩:=map_some (show (st.hob d1 g1).map (fun ts=>ts.map fun t=>t.kill d' g')=some ts from e1)
            rw[List.getElem?_map]at e2
            obtain⟨x0,_,rfl⟩:=map_some e2
            exact(kill_id e3).2) (fun j s hj=>by
            obtain⟨o,hcase⟩:=hval j s hj
            refine⟨o,?_⟩
            rcases hcase with⟨hlt,u,hu',hr'⟩|⟨hge,hlt,u,hu',hr'⟩
            ·refine⟨u,?_,Rep.drew (M:=Mut F β st) hr'⟩
             rw[Array.getElem?_append_left (by simp;omega),Array.getElem?_append_left (by simp;omega),List.getElem?_toArray,List.getElem?_take_of_lt hlt]
             simpa using hu'
            ·refine⟨u,?_,Rep.drew (M:=Mut F β st) hr'⟩
             rw[Array.getElem?_append_left (by simp;omega),Array.getElem?_append_right (by simp;omega)]
             rw[List.size_toArray,hol,List.getElem?_toArray]
             exact hu')
          rw[<- hv,<- hx]at hr
          refine⟨_,.inl ⟨_,run_append_op hr,upd β d' g' w.drew.heap.size,?_⟩⟩
          refine hmv.put (t := .ref d' g' i.size 0 (n+m)) hd ⟨grownCap w (n+m) scap e,(us.toList.take (n*i.size)).toArray++vals.toArray++Builtin.zeroCells z.cells (grownCap w (n+m) scap e-(n+m)),e,by rw[upd_self];rfl,grownCap_ge w (n+m) scap e,by rw[upd_self];exact heap_alloc_new w.drew _,?_⟩ (fun d1 g1 e1 => ?_)
          ·have hge:=grownCap_ge w (n+m) scap e
           rw[Array.size_append,Array.size_append,size_zeroCells,hzs,List.size_toArray,List.size_toArray,hol,hvl,Nat.zero_add,<- hadd,<- Nat.add_mul]
           refine Nat.mul_le_mul_right _ ?_
           omega
          ·simp only[TV.id,Option.some.injEq,Prod.mk.injEq]at e1
           obtain⟨rfl,rfl⟩:=e1
           exact hid
        ·cases hs
       ·cases hs
      ·cases hs
    ·rename_i d' g' sz off n c hes
     rw[hes]at hsv
     have hid:g'<st.gen d':=h.evalId (by rw[hes];rfl)
     split at hs
     ·rename_i hm0
      subst hm0
      cases hs
      refine⟨w,.inl ⟨a.eval s,run_append_op ?_,β,h.put hd hsv (fun d1 g1 e1 => ?_)⟩⟩
      ·obtain⟨cs',ty',hv,hn,_⟩:=hsv
       rw[hv,hx]
       exact append_none hu hi hn
      ·simp only[TV.id,Option.some.injEq,Prod.mk.injEq]at e1
       obtain⟨rfl,rfl⟩:=e1
       exact hid
     ·rename_i hm0
      split at hs
      ·rename_i hc
       obtain⟨rfl,hdN,hnm⟩:=hc
       split at hs
       ·rename_i cs ho
        split at hs
        ·rename_i hcl
         obtain⟨us,cty,hv,hn,hb,hroom⟩:=hsv
         obtain⟨us1,ty1,hb1,hall⟩:=h.objs d' g' cs ho
         rw[hb]at hb1
         cases hb1
         have hpos:0<m*i.size:=Nat.mul_pos (by omega) hsz
         obtain⟨p,rfl,hcell⟩:=hA hpos
         have hadd:(n+m)*i.size=n*i.size+m*i.size:=Nat.add_mul n m i.size
         split at hs
         ·rename_i hfit
          cases hs
          have hle:off+n*i.size+vals.length<=us.size:=by
           have:=Nat.mul_le_mul_right i.size hfit
           omega
          have hr:=append_roomO (P:=P) (ty:=ty) (c:=cap) hu hi hb hvl hcell hone hfit hle
          have hk:=h.spliceW ho hdN hb (vs:=vals) (new:=new) (off:=off+n*i.size) (by omega) hcl hle (fun j s hj=>⟨oneAll_get h1 hj,hrep j s hj⟩)
          rw[<- hv,<- hx]at hr
          refine⟨_,.inl ⟨_,run_append_op hr,β,?_⟩⟩
          refine hk.put (t := .rfc d' g' i.size off (n+m) c) hd ⟨_,cty,rfl,hfit,setRow_heap w _ us _ cty (0,0) hb,?_⟩ (fun d1 g1 e1 => ?_)
          ·have hul:us.toList.length=us.size:=Array.length_toList
           rw[List.size_toArray,over_len (by omega),hul]
           exact hroom
          ·simp only[TV.id,Option.some.injEq,Prod.mk.injEq]at e1
           obtain⟨rfl,rfl⟩:=e1
           exact hid
         ·rename_i hfit
          cases hs
          have holds : ∀ (j:Nat) (u:Value),((us.toList.drop off).take (n*i.size))[j]?=some u->w.cell? ((⟨β d' g',off,none⟩:Addr).add j)=some u:=by
           intro j u hj
           have hjl:j<n*i.size:=by
            rcases Nat.lt_or_ge j (n*i.size) with h|h
            ·exact h
            ·rw[List.getElem?_eq_none (by simp;omega)]at hj;cases hj
           rw[List.getElem?_take_of_lt hjl,List.getElem?_drop,Array.getElem?_toList]at hj
           rw[add_mk,cell_of_row w _ _ us cty (0,0) hb]
           exact hj
          have hul:us.toList.length=us.size:=Array.length_toList
          have hn':off+n*i.size<=us.size:=by
           have:=Nat.mul_le_mul_right i.size hn
           omega
          have hol:((us.toList.drop off).take (n*i.size)).length=n*i.size:=by rw[List.length_take,List.length_drop];omega
          have hbb:(n+m)*i.bytes<=140737488355328:=by
           have:(n+m)*i.bytes<=274877906944*128:=Nat.mul_le_mul hnm (by omega)
           omega
          have hr:=run_append_grow (P:=P) w t ty e i z hu hi hzz ⟨β d' g',off,none⟩ n c _ hol holds p m cap vals hvl hcell (by omega) (by omega) (growslice_fits (by omega) hbb)
          have hdr:=h.world (w':=w.drew) rfl rfl rfl rfl
          rw[<- hv,<- hx]at hr
          refine⟨_,.inl ⟨_,run_append_op hr,_,hdr.new hd (us:=((us.toList.drop off).take (n*i.size)).toArray++vals.toArray++Builtin.zeroCells z.cells (grownCap w (n+m) c e-(n+m))) (ty:=e) (fun j s hj => ?_) ?_ ?_⟩⟩
          ·have hcl2:((cs.drop off).take (n*i.size)).length=n*i.size:=by rw[List.length_take,List.length_drop];omega
           rcases Nat.lt_or_ge j (n*i.size) with hlt|hge
           ·rw[List.getElem?_append_left (by omega),List.getElem?_take_of_lt hlt,List.getElem?_drop]at hj
            obtain⟨o,u,hu',hr'⟩:=hall _ s hj
            refine⟨o,u,?_,Rep.drew hr'⟩
            rw[Array.getElem?_append_left (by simp;omega),Array.getElem?_append_left (by simp;omega),List.getElem?_toArray,List.getElem?_take_of_lt hlt,List.getElem?_drop]
            simpa using hu'
           ·rw[List.getElem?_append_right (by omega),hcl2]at hj
            obtain⟨u,hu',hr'⟩:=hrep _ s hj
            have hjl:j-n*i.size<vals.length:=by
             rcases Nat.lt_or_ge (j-n*i.size) vals.length with h|h
             ·exact h
             ·rw[List.getElem?_eq_none h]at hu';cases hu'
            refine⟨oneAll_get h1 hj,u,?_,Rep.drew hr'⟩
            rw[Array.getElem?_append_left (by simp;omega),Array.getElem?_append_right (by simp;omega)]
            rw[List.size_toArray,hol,List.getElem?_toArray]
            exact hu'
          ·have hge:=grownCap_ge w (n+m) c e
           refine⟨grownCap w (n+m) c e,_,e,by rw[upd_self];rfl,hge,by rw[upd_self];exact heap_alloc_new w.drew _,?_⟩
           rw[Array.size_append,Array.size_append,size_zeroCells,hzs,List.size_toArray,List.size_toArray,hol,hvl,Nat.zero_add,<- hadd,<- Nat.add_mul]
           refine Nat.mul_le_mul_right _ ?_
           omega
          ·intro d1 g1 e1
           simp only[TV.id,Option.some.injEq,Prod.mk.injEq]at e1
           exact⟨e1.1.symm,e1.2.symm⟩
        ·cases hs
       ·cases hs
      ·cases hs
    ·cases hs
   ·cases hs
  ·cases hs
 ·cases hs
theorem zeros_rep {z:List SV} {zv:Value} (hzs:zv.cells.size=z.length) (hzc : ∀ (j:Nat) (x:SV),z[j]?=some x -> ∃v:Value,zv.cells[j]?=some v/\ofCell v=some x) {M:Nat->Prop} {w:World} (n:Nat) :
  ∀ (k:Nat) (s:SV),((List.replicate n z).flatten)[k]?=some s->s.one=true /\ ∃v:Value,(Builtin.zeroCells zv.cells n)[k]?=some v/\Rep w M v s:=by
 intro k s hs
 obtain⟨h1,h2⟩:=rep_get z n k s hs
 obtain⟨v,hv,ho⟩:=hzc _ s h2
 refine⟨ofCell_one ho,v,?_,ofCell_rep ho⟩
 rw[<- hzs]at h1
 simp only[Builtin.zeroCells,Array.getElem?_map]
 rw[Array.getElem?_eq_getElem (by simpa using h1)]
 simp only[Array.getElem_range,Option.map_some]
 rw[hzs]
 congr 1
 rw[getElem!_def,hv]
theorem appendZ_runs (h:Rel w0 F I Z N β st a w) {dst:Option Nat} {t t':TypeId} {s x:Operand} {st':St} (hd : ∀d,dst=some d->d<N) (hs:appendZ P dst st t t' s x=some st') (ty:TypeId) (pos:String) (af:Array Edge) (gd:Option (Nat×Bool)) :
  Runs P a ⟨dst,.call { callee := .builtin .append,args := #[s,x],argTypes := #[t,t'] },ty,pos,af,gd⟩ w (To w0 F I Z N st'):=by
 unfold appendZ at hs
 split at hs
 ·rename_i e size bytes d kn m d' g' sz off n c he hin hm hes
  obtain⟨hu,i,hi,his,hib⟩:=elm_parts he
  subst his
  have hd:=hd d rfl
  split at hs
  ·rename_i cs z ho hz
   split at hs
   ·rename_i hc
    obtain⟨rfl,hgr,hm0,hnm,hcl,hby,hsz,hzl,h1⟩:=hc
    cases hs
    obtain⟨i',zv,hi',hzz,hzs,hzc⟩:=zer_parts hz
    rw[hi]at hi'
    cases hi'
    have hsv:=h.eval s
    rw[hes]at hsv
    obtain⟨us,cty,hv,hn,hb,hroom⟩:=hsv
    obtain⟨us1,ty1,hb1,hall⟩:=h.objs d' g' cs ho
    rw[hb]at hb1
    cases hb1
    obtain⟨kq,hkq⟩:=natO_rep h hm
    have hadd:(n+m)*i.size=n*i.size+m*i.size:=Nat.add_mul n m i.size
    have holds : ∀ (j:Nat) (u:Value),((us.toList.drop off).take (n*i.size))[j]?=some u->w.cell? ((⟨β d' g',off,none⟩:Addr).add j)=some u:=by
     intro j u hj
     have hjl:j<n*i.size:=by
      rcases Nat.lt_or_ge j (n*i.size) with h|h
      ·exact h
      ·rw[List.getElem?_eq_none (by simp;omega)]at hj;cases hj
     rw[List.getElem?_take_of_lt hjl,List.getElem?_drop,Array.getElem?_toList]at hj
     rw[add_mk,cell_of_row w _ _ us cty (0,0) hb]
     exact hj
    have hul:us.toList.length=us.size:=Array.length_toList
    have hn':off+n*i.size<=us.size:=by
     have:=Nat.mul_le_mul_right i.size hn
     omega
    have hol:((us.toList.drop off).take (n*i.size)).length=n*i.size:=by rw[List.length_take,List.length_drop];omega
    have hbb:(n+m)*i.bytes<=140737488355328:=by
     have:(n+m)*i.bytes<=274877906944*128:=Nat.mul_le_mul hnm (by omega)
     omega
    have hmb:m*i.bytes<=281474976710656:=by
     have:m*i.bytes<=(n+m)*i.bytes:=Nat.mul_le_mul_right _ (by omega)
     omega
    have hr:=Lib.run_append_grow_zeros (P:=P) w t t' ty e i zv kq kn hu (isInt_under hin) hi hzz (some ⟨β d' g',off,none⟩) n c _
     (run_firstCells_some w.drew i.size n ⟨β d' g',off,none⟩ n c _ hol holds) m hm0 hsz (by omega) (by omega) hmb (growslice_fits (by omega) hbb)
    have hdr:=h.world (w':=w.drew) rfl rfl rfl rfl
    rw[<- hv,<- hkq]at hr
    refine⟨_,.inl ⟨_,run_append_op hr,_,hdr.new hd (us:=((us.toList.drop off).take (n*i.size)).toArray++Builtin.zeroCells zv.cells m++Builtin.zeroCells zv.cells (grownCap w (n+m) c e-(n+m))) (ty:=e) (fun j s hj => ?_) ?_ ?_⟩⟩
    ·have hcl2:((cs.drop off).take (n*i.size)).length=n*i.size:=by rw[List.length_take,List.length_drop];omega
     rcases Nat.lt_or_ge j (n*i.size) with hlt|hge
     ·rw[List.getElem?_append_left (by omega),List.getElem?_take_of_lt hlt,List.getElem?_drop]at hj
      obtain⟨o,u,hu',hr'⟩:=hall _ s hj
      refine⟨o,u,?_,Rep.drew hr'⟩
      rw[Array.getElem?_append_left (by simp;omega),Array.getElem?_append_left (by simp;omega),List.getElem?_toArray,List.getElem?_take_of_lt hlt,List.getElem?_drop]
      simpa using hu'
     ·rw[List.getElem?_append_right (by omega),hcl2]at hj
      obtain⟨o,u,hu',hr'⟩:=zeros_rep hzs hzc (M:=Mut F β st) (w:=w) m _ s hj
      have hjl:j-n*i.size<(Builtin.zeroCells zv.cells m).size:=by
       rcases Nat.lt_or_ge (j-n*i.size) (Builtin.zeroCells zv.cells m).size with h|h
       ·exact h
       ·rw[Array.getElem?_eq_none h]at hu';cases hu'
      refine⟨o,u,?_,Rep.drew hr'⟩
      rw[Array.getElem?_append_left (by rw[Array.size_append,List.size_toArray,hol];omega),Array.getElem?_append_right (by rw[List.size_toArray,hol];omega)]
      rw[List.size_toArray,hol]
      exact hu'
    ·have hge:=grownCap_ge w (n+m) c e
     refine⟨grownCap w (n+m) c e,_,e,by rw[upd_self];rfl,hge,by rw[upd_self];exact heap_alloc_new w.drew _,?_⟩
     rw[Array.size_append,Array.size_append,size_zeroCells,size_zeroCells,hzs,List.size_toArray,hol,hzl,Nat.zero_add,<- hadd,<- Nat.add_mul]
     refine Nat.mul_le_mul_right _ ?_
     omega
    ·intro d1 g1 e1
     simp only[TV.id,Option.some.injEq,Prod.mk.injEq]at e1
     exact⟨e1.1.symm,e1.2.symm⟩
   ·cases hs
  ·cases hs
 ·cases hs
theorem clear_runs (h:Rel w0 F I Z N β st a w) {t:TypeId} {x:Operand} {st':St} (hs:clearS P st t x=some st') (ty:TypeId) (pos:String) (af:Array Edge) (gd:Option (Nat×Bool)) :
  Runs P a ⟨none,.call { callee := .builtin .clear,args := #[x],argTypes := #[t] },ty,pos,af,gd⟩ w (To w0 F I Z N st'):=by
 unfold clearS at hs
 split at hs
 ·rename_i e size bytes d g sz off n c he hx
  obtain⟨hu,i,hi,his,hib⟩:=elm_parts he
  subst his
  split at hs
  ·rename_i cs z ho hz
   split at hs
   ·rename_i hc
    obtain⟨rfl,hdN,hoff,hzl,h1,hn0⟩:=hc
    cases hs
    obtain⟨i',zv,hi',hzz,hzs,hzc⟩:=zer_parts hz
    rw[hi]at hi'
    cases hi'
    have hsv:=h.eval x
    rw[hx]at hsv
    obtain⟨us,cty,hv,hn,hb,hroom⟩:=hsv
    have hlen:(Builtin.zeroCells zv.cells n).toList.length=n*i.size:=by rw[Array.length_toList,size_zeroCells,hzs,hzl]
    have hlen2:((List.replicate n z).flatten).length=n*i.size:=by simp[hzl]
    have hfit:off+(Builtin.zeroCells zv.cells n).toList.length<=us.size:=by
     have:=Nat.mul_le_mul_right i.size hn
     omega
    have hrep : ∀ (k:Nat) (s:SV),((List.replicate n z).flatten)[k]?=some s->s.one=true /\ ∃v:Value,(Builtin.zeroCells zv.cells n).toList[k]?=some v/\Rep w (Mut F β st) v s:=fun k s hk=>by
     obtain⟨o,u,hu',hr'⟩:=zeros_rep hzs hzc (M:=Mut F β st) (w:=w) n k s hk
     exact⟨o,u,by rw[Array.getElem?_toList];exact hu',hr'⟩
    have hone : ∀u∈(Builtin.zeroCells zv.cells n).toList,u.oneCell'=true:=by
     intro u hu
     obtain⟨j,hj⟩:=List.getElem?_of_mem hu
     have hlt:j<((List.replicate n z).flatten).length:=by
      rcases Nat.lt_or_ge j (Builtin.zeroCells zv.cells n).toList.length with h|h
      ·omega
      ·rw[List.getElem?_eq_none h]at hj;cases hj
     obtain⟨o,u',hu',hr'⟩:=hrep j _ (List.getElem?_eq_getElem hlt)
     rw[hj]at hu'
     cases hu'
     exact hr'.one o
    have hst:=run_storeCells_at P (β d g) off cty (Builtin.zeroCells zv.cells n).toList 0 us w hb (by simpa using hfit) hone
    simp only[Nat.add_zero]at hst
    refine⟨_,.inl ⟨.tuple #[],?_,β,h.spliceW ho hdN hb (vs:=(Builtin.zeroCells zv.cells n).toList) (by omega) hoff hfit hrep⟩⟩
    rw[call_builtin]
    have hargs:(#[x].map a.eval) = #[a.eval x]:=by simp
    obtain⟨n',rfl⟩ : ∃n',n=n'+1:=⟨n-1,by omega⟩
    simp only[builtin,hargs,Builtin.clear_,hv,Sem.run_bind]
    simp[run_underlying hu,run_zero hi hzz,hst]
   ·cases hs
  ·cases hs
 ·cases hs
theorem copy_runs (h:Rel w0 F I Z N β st a w) {dst:Option Nat} {t:TypeId} {s x:Operand} {st':St} (hd : ∀d,dst=some d->d<N) (hs:copy P dst st t s x=some st') (tys:List TypeId) (ty:TypeId) (pos:String) (af:Array Edge) (gd:Option (Nat×Bool)) :
  Runs P a ⟨dst,.call { callee := .builtin .copy,args := #[s,x],argTypes:=(t::tys).toArray },ty,pos,af,gd⟩ w (To w0 F I Z N st'):=by
 unfold copy at hs
 split at hs
 ·rename_i e size bytes d g sz off n cc he hes
  obtain⟨hu,i,hi,his,hib⟩:=elm_parts he
  subst his
  split at hs
  ·rename_i m new cs hm ho
   split at hs
   ·rename_i hc
    obtain⟨rfl,hlen,hoff,hdN,h1⟩:=hc
    cases hs
    obtain⟨A,cap,vals,hx,hvl,hA,hone,hrep⟩:=more_soundK h hm (Nat.min_le_right n m) hlen h1
    have hsv:=h.eval s
    rw[hes]at hsv
    obtain⟨us,cty,hv,hn,hb,hroom⟩:=hsv
    have hfit:off+vals.length<=us.size:=by
     have:=Nat.mul_le_mul_right i.size (Nat.le_trans (Nat.min_le_left n m) hn)
     omega
    have hrel:=h.spliceW ho hdN hb (vs:=vals) (new:=new.take (min n m*i.size)) (off:=off) (by rw[List.length_take];omega) hoff hfit (fun j y hy=>⟨oneAll_get h1 hy,hrep j y hy⟩)
    refine⟨_,.inl ⟨.int .i64 (min n m:Nat),?_,β,hrel.putO (t := .sv (.int .i64 (min n m:Nat))) hd (Rep.int _ _) (fun d g e=>by simp[TV.id]at e)⟩⟩
    rw[call_builtin]
    have hargs:(#[s,x].map a.eval) = #[a.eval s,a.eval x]:=by simp
    have hfirst:(Builtin.firstCells i.size (min n m) (.slice A m cap)).run P w = .ok vals.toArray w:=by
     rcases Nat.eq_zero_or_pos (min n m*i.size) with h0|h0
     ·have:vals=[]:=List.eq_nil_of_length_eq_zero (by rw[hvl,h0])
      subst this
      cases A with
      |none=>rfl
      |some p=>simp[Builtin.firstCells,h0,loadCells,loadCellsFrom]
     ·obtain⟨p,rfl,hcell⟩:=hA h0
      exact run_firstCells_some w i.size (min n m) p m cap vals hvl hcell
    have hst:=run_storeCells_at P (β d g) off cty vals 0 us w hb (by simpa using hfit) hone
    simp only[Nat.add_zero]at hst
    have hmin:Nat.min m n=min n m:=Nat.min_comm m n
    simp only[builtin,hargs,Builtin.copy_,hv,hx,Sem.run_bind]
    simp[run_underlying hu,run_size hi,Builtin.lenOf,hmin,hfirst,hst,goInt]
   ·cases hs
  ·cases hs
 ·rename_i e size bytes d g sz off n he hes
  obtain⟨hu,i,hi,his,hib⟩:=elm_parts he
  subst his
  split at hs
  ·rename_i m new cs hm ho
   split at hs
   ·rename_i hc
    obtain⟨rfl,hlen,hmn,hoff,h1⟩:=hc
    cases hs
    obtain⟨A,cap,vals,hx,hvl,hA,hone,hrep⟩:=more_sound h hm hlen h1
    have hsv:=h.eval s
    rw[hes]at hsv
    obtain⟨scap,us0,cty0,hv,_⟩:=hsv
    obtain⟨us,cty,hb,hfit,hrel⟩:=h.splice (vs:=vals) (new:=new) (off:=off) ho (hvl.trans hlen.symm) (by omega) (fun j y hy=>⟨oneAll_get h1 hy,hrep j y hy⟩)
    refine⟨_,.inl ⟨.int .i64 m,?_,β,hrel.putO (t := .sv (.int .i64 m)) hd (Rep.int _ _) (fun d g e=>by simp[TV.id]at e)⟩⟩
    rw[call_builtin]
    have hargs:(#[s,x].map a.eval) = #[a.eval s,a.eval x]:=by simp
    have hfirst:(Builtin.firstCells i.size m (.slice A m cap)).run P w = .ok vals.toArray w:=by
     rcases Nat.eq_zero_or_pos (m*i.size) with h0|h0
     ·have:vals=[]:=List.eq_nil_of_length_eq_zero (by rw[hvl,h0])
      subst this
      cases A with
      |none=>rfl
      |some p=>simp[Builtin.firstCells,h0,loadCells,loadCellsFrom]
     ·obtain⟨p,rfl,hcell⟩:=hA h0
      exact run_firstCells_some w i.size m p m cap vals hvl hcell
    have hst:=run_storeCells_at P (β d g) off cty vals 0 us w hb (by simpa using hfit) hone
    simp only[Nat.add_zero]at hst
    have hmin:Nat.min m n=m:=Nat.min_eq_left hmn
    simp only[builtin,hargs,Builtin.copy_,hv,hx,Sem.run_bind]
    simp[run_underlying hu,run_size hi,Builtin.lenOf,hmin,hfirst,hst,goInt]
   ·cases hs
  ·cases hs
 ·cases hs
end
end Go.Ev
namespace Go.Ev
open Go.RowKit
def isImp:Arg->Bool
 | .imp _=>true
 | .impref _ _ _ _=>true
 |_=>false
def ArgRep (w:World) (F:Nat->Prop) (v:Value) (b:Nat):Arg->Prop
 | .sv s=>Rep w F v s
 | .imp cs=>v = .pointer (some ⟨b,0,none⟩)/\F b/\Holds w F b cs
 | .impref cs size off n=>(∃cap us ty,v = .slice (some ⟨b,off,none⟩) n cap/\n<=cap/\w.heap[b]?=some (.cells us ty (0,0))/\off+cap*size<=us.size)/\F b/\Holds w F b cs
 | .st _ _ _=>False
def RetRep (w w':World) (F:Nat->Prop) (v:Value):Ret->Prop
 | .sv s=>Rep w' F v s
 | .obj cs => ∃b,v = .pointer (some ⟨b,0,none⟩)/\w.heap.size<=b/\Holds w' (fun x=>F x\/x=b) b cs
 | .row cs size off n => ∃b cap us ty,v = .slice (some ⟨b,off,none⟩) n cap/\n<=cap/\w'.heap[b]?=some (.cells us ty (0,0))/\off+cap*size<=us.size/\w.heap.size<=b/\Holds w' (fun x=>F x\/x=b) b cs
 | .heap ts => ∃ (b:Nat) (us:Array Value) (ty:TypeId),v = .pointer (some ⟨b,0,none⟩)/\w.heap.size<=b/\w'.heap[b]?=some (.cells us ty (0,0)) /\
  ∀ (i:Nat) (t:TV),ts[i]?=some t->plnT t=true /\ ∃u:Value,us[i]?=some u/\u.oneCell'=true /\ ∀β,RepT β w' (fun x=>F x\/x=b) u t
 | .st _ _=>False
def impB (args:List Arg) (B:Nat->Nat) (b:Nat):Prop := ∃i x,args[i]?=some x/\isImp x=true/\B i=b
def Enters (P:Program) (g:FuncId):Prop := ∀ (args:Array Value) (w:World),(callFunc g args).run P w = .ok (.enter g args) w
def Invk (P:Program) (g:FuncId) (vs:Array Value) (w:World) (K:Ending->World->Prop):Prop:=
 (Enters P g/\Calls P g vs w K) \/ ∃v,(callFunc g vs).run P w = .ok (.value v) w/\K (.returned v) w
theorem Invk.mono {P:Program} {g:FuncId} {vs:Array Value} {w:World} {K K':Ending->World->Prop} (h:Invk P g vs w K) (k : ∀e w',K e w'->K' e w'):Invk P g vs w K':=by
 rcases h with⟨h1,h2⟩|⟨v,h1,h2⟩
 ·exact .inl ⟨h1,h2.mono k⟩
 ·exact .inr ⟨v,h1,k _ _ h2⟩
def CallOk (P:Program) (G:List (Nat×Value)) (call:Callf):Prop := ∀g args r exps,call g args=some (r,exps) ->
 ∀ (w:World) (F:Nat->Prop) (B:Nat->Nat) (vals:Array Value),GlOk G w F->(∀b,F b->b<w.heap.size)->vals.size=args.length ->
  (∀ (i:Nat) (x:Arg),args[i]?=some x->ArgRep w F (vals.getD i undef) (B i) x) ->
  (∀ (i j:Nat) (x y:Arg),args[i]?=some x->args[j]?=some y->isImp x=true->isImp y=true->B i=B j->i=j) ->
  Invk P g vals w fun e w' => ∃v,e = .returned v/\RetRep w w' F v r/\Ext (impB args B) w w' /\ ∀ (i:Nat) (cs:List SV),exps[i]?=some (some cs)->Holds w' F (B i) cs
def InRet (w0:World) (F I:Nat->Prop) (Z:Zy) (N:Nat) (st:St) (a:Act) (w':World) (k:Bool) (v:Value):Ret->Prop
 | .st st' t=>k=false /\ ∃β,Rel w0 F I Z N β st' a w'/\RepT β w' (Mut F β st') v t /\ ∀d g,t.id=some (d,g)->g<st'.gen d
 | .sv s=>k=true /\ ∃β,Rel w0 F I Z N β st a w'/\Rep w' (Mut F β st) v s
 |_=>False
def InOk (P:Program) (G:List (Nat×Value)) (call:Callf):Prop := ∀g k st vs r exps,call g [.st k st vs]=some (r,exps) ->
 ∀ (w0:World) (F I:Nat->Prop) (Z:Zy) (N:Nat) (β:Nat->Nat->Nat) (a:Act) (w:World) (vals:Array Value),Z.gl=G->Rel w0 F I Z N β st a w->vals.size=vs.length ->
  (∀ (i:Nat) (v:TV),vs[i]?=some v->RepT β w (Mut F β st) (vals.getD i undef) v /\ ∀d g,v.id=some (d,g)->g<st.gen d) ->
  Invk P g vals w fun e w' => ∃v,e = .returned v/\InRet w0 F I Z N st a w' k v r
def Hb (s st:St):Prop:=s.hob=st.hob/\s.bm=st.bm/\s.bw=st.bw
def LookOk (call:Callf):Prop := ∀g st st2 vs r e,call g [.st true st vs]=some (.sv r,e)->st2.obj=st.obj->st2.gen=st.gen->Hb st2 st -> ∃e',call g [.st true st2 vs]=some (.sv r,e')
inductive Loc where
 |tmp (t:Nat)
 |up (i:Nat)
def St.upd (s:St) (l:Loc) (v:TV):St:=match l with
 | .tmp t=>s.put t v
 | .up i=>{ s with up:=fun x=>if x=i then v else s.up x }
def Ret.upd (r:Ret) (l:Loc) (v:TV):Ret:=match r with
 | .st s t => .st (s.upd l v) t
 |r=>r
def EqCall (call:Callf):Prop := ∀g b s vs r e,call g [.st b s vs]=some (r,e) -> ∀l:Loc,∃m:TV->TV,∀v,call g [.st b (s.upd l v) vs]=some (r.upd l (m v),e)
def CallAll (P:Program) (G:List (Nat×Value)) (call:Callf):Prop:=CallOk P G call/\InOk P G call/\LookOk call/\EqCall call
theorem call_none {P:Program} {G:List (Nat×Value)}:CallAll P G (fun _ _=>none):=⟨fun _ _ _ _ h=>(by cases h),fun _ _ _ _ _ _ h=>(by cases h),fun _ _ _ _ _ _ h=>(by cases h),fun _ _ _ _ _ _ h=>(by cases h)⟩
section
variable {P:Program} {w0 w:World} {F I:Nat->Prop} {Z:Zy} {N:Nat} {β:Nat->Nat->Nat} {st:St} {a:Act}
def Goes (P:Program) (a:Act) (o:Oper) (w:World) (K:Act->World->Prop):Prop := ∀Q:Exit->Act->World->Prop,o.wp P a w K Q
theorem Runs.goes {o:Oper} {K:Act->World->Prop} (h:Runs P a o w K):Goes P a o w K:=fun _=>h.wp
theorem Ext.mono {I J:Nat->Prop} {w w':World} (h:Ext I w w') (hIJ : ∀b,I b->J b) (hJ : ∀b,J b->I b \/ ∀cs ty,w.heap[b]?=some (.cells cs ty (0,0))->w'.heap[b]?=w.heap[b]?):Ext J w w' :=
 ⟨h.os,h.tape,h.output,h.size,fun b hb hn=>h.block b hb (fun hi=>hn (hIJ b hi)),fun b cs ty hb hj hc=>by
  rcases hJ b hj with hi|hi
  ·exact h.imp b cs ty hb hi hc
  ·exact⟨cs,(hi cs ty hc).trans hc,rfl⟩⟩
theorem Rel.after (h:Rel w0 F I Z N β st a w) {J:Nat->Prop} {w':World} {st':St} (he:Ext J w w') (hJ : ∀b,J b -> ∃d g,(st.obj d g).isSome=true/\β d g=b/\d<H0) (ht:st'.tmp=st.tmp) (hg:st'.gen=st.gen) (hhob:st'.hob=st.hob) (hup:st'.up=st.up) (hbm:st'.bm=st.bm) (hbw:st'.bw=st.bw)
  (hs : ∀d g,(st'.obj d g).isSome=(st.obj d g).isSome) (ho : ∀d g cs,st'.obj d g=some cs->(J (β d g)/\Holds w' (Mut F β st) (β d g) cs)\/(¬J (β d g)/\st.obj d g=some cs)):Rel w0 F I Z N β st' a w':=by
 have hmut : ∀b,Mut F β st' b↔Mut F β st b:=by
  intro b
  constructor
  ·rintro(hf|⟨d,g,h1,h2⟩)
   ·exact .inl hf
   ·exact .inr ⟨d,g,by rw[hs]at h1;exact h1,h2⟩
  ·rintro(hf|⟨d,g,h1,h2⟩)
   ·exact .inl hf
   ·exact .inr ⟨d,g,by rw[hs];exact h1,h2⟩
 have hJm : ∀b,J b->Mut F β st b:=fun b hb=>by obtain⟨d,g,h1,h2,_⟩:=hJ b hb;exact .inr ⟨d,g,h1,h2⟩
 have hcell : ∀p:Addr,p.block<w.heap.size -> ¬Mut F β st p.block->w'.cell? p=w.cell? p:=fun p hp hm=>World.cell?_of_block (w:=w) (w':=w') (he.block p.block hp (fun hj=>hm (hJm _ hj)))
 have hMM : ∀b,b<w.heap.size->Mut F β st' b->Mut F β st b:=fun b _ hm=>(hmut b).1 hm
 have hrep : ∀ {v:Value} {s:SV},Rep w (Mut F β st) v s->Rep w' (Mut F β st') v s:=fun hr=>Rep.mono hcell hMM hr
 have hT : ∀ {v:Value} {x:TV},RepT β w (Mut F β st) v x->RepT β w' (Mut F β st') v x:=by
  intro v x hx
  refine RepT.mono (w:=w) hcell hMM (fun b cs ty hm hc => ?_) (fun b hm hb=>he.block b hb (fun hj=>hm (hJm _ hj))) hx
  by_cases hj:J b
  ·exact he.imp b cs ty (lt_of_heap hc) hj hc
  ·exact⟨cs,(he.block b (lt_of_heap hc) hj).trans hc,rfl⟩
 exact {
  defers:=h.defers
  size:=h.size
  tmps:=fun u=>by rw[ht];exact hT (h.tmps u)
  ids:=fun t d g hx=>by rw[hg];rw[ht]at hx;exact h.ids t d g hx
  objs:=fun d g cells hc=>by
   rcases ho d g cells hc with⟨_,us,ty,hb,hall⟩|⟨hnj,hold⟩
   ·refine⟨us,ty,hb,fun i s hi => ?_⟩
    obtain⟨h1,v,hv,hr⟩:=hall i s hi
    exact⟨h1,v,hv,Rep.mono (w:=w') (fun _ _ _=>rfl) (fun b _ hm=>(hmut b).1 hm) hr⟩
   ·obtain⟨us,ty,hb,hall⟩:=h.objs d g cells hold
    refine⟨us,ty,(he.block _ (lt_of_heap hb) hnj).trans hb,fun i s hi => ?_⟩
    obtain⟨h1,v,hv,hr⟩:=hall i s hi
    exact⟨h1,v,hv,hrep hr⟩
  own:=fun d g h1=>h.own d g (by rw[hs]at h1;exact h1)
  room:=h.room
  inj:=fun d1 g1 d2 g2 h1 h2 e=>h.inj d1 g1 d2 g2 (by rw[hs]at h1;exact h1) (by rw[hs]at h2;exact h2) e
  gens:=fun d g h1=>by rw[hg];exact h.gens d g (by rw[hs]at h1;exact h1)
  ext:=by
   refine⟨he.os.trans h.ext.os,he.tape.trans h.ext.tape,he.output.trans h.ext.output,Nat.le_trans h.ext.size he.size,fun b hb hI => ?_,fun b cs ty hb hI hc => ?_⟩
   ·refine(he.block b (Nat.lt_of_lt_of_le hb h.ext.size) (fun hj => ?_)).trans (h.ext.block b hb hI)
    obtain⟨d,g,h1,rfl,_⟩:=hJ b hj
    rcases h.own_or h1 with h2|h2
    ·omega
    ·exact hI h2
   ·obtain⟨cs1,hc1,e1⟩:=h.ext.imp b cs ty hb hI hc
    by_cases hj:J b
    ·obtain⟨cs2,hc2,e2⟩:=he.imp b cs1 ty (Nat.lt_of_lt_of_le hb h.ext.size) hj hc1
     exact⟨cs2,hc2,e2.trans e1⟩
    ·exact⟨cs1,(he.block b (Nat.lt_of_lt_of_le hb h.ext.size) hj).trans hc1,e1⟩
  old:=h.old
  imps:=fun b hb=>by rw[hbm];exact h.imps b hb
  pin:=h.pin
  ups:=fun u=>by rw[hup];exact hT (h.ups u)
  uids:=fun t d g hx=>by rw[hg];rw[hup]at hx;exact h.uids t d g hx
  glob:=fun g v hg=>hrep (h.glob g v hg)
  hobs:=fun d' g' ts hts=>by
   rw[hhob]at hts
   obtain⟨h1,h2,cs1,ty1,hb1,hall⟩:=h.hobs d' g' ts hts
   have hnj : ¬J (β d' g'):=fun hj=>by
    obtain⟨d,g,e1,e2,e3⟩:=hJ _ hj
    obtain⟨rfl,rfl⟩:=h.inj d g d' g' e1 (by rw[h2];rfl) e2
    omega
   refine⟨h1,?_,cs1,ty1,(he.block _ (lt_of_heap hb1) hnj).trans hb1,fun i x hx => ?_⟩
   ·have hsome:(st'.obj d' g').isSome=true:=by rw[hs,h2];rfl
    obtain⟨c,hc⟩:=Option.isSome_iff_exists.1 hsome
    rcases ho d' g' c hc with⟨hj,_⟩|⟨_,e⟩
    ·exact(hnj hj).elim
    ·rw[hc,<- e,h2]
   ·obtain⟨v,hv,ho',hr,hid⟩:=hall i x hx
    exact⟨v,hv,ho',hT hr,fun d1 g1 e=>by rw[hg];exact hid d1 g1 e⟩
  bms:=h.bms.to hbm hbw (fun d g h1 => .inl ⟨by rw[hs]at h1;exact h1,rfl⟩) (fun b hb hn=>he.block b hb fun hj=>by
   obtain⟨d,g,h1,h2,_⟩:=hJ b hj
   exact hn d g h1 h2) }
theorem Rel.ext0 (h:Rel w0 F I Z N β st a w) {w':World} (he:Ext (fun _=>False) w w'):Rel w0 F I Z N β st a w' :=
 h.after he (fun _ hb=>hb.elim) rfl rfl rfl rfl rfl rfl (fun _ _=>rfl) (fun _ _ _ hc => .inr ⟨fun x=>x,hc⟩)
theorem Rel.adopt (h:Rel w0 F I Z N β st a w) {w':World} (he:Ext (fun _=>False) w w') {d b:Nat} (hd:d<N) {cs:List SV} (hb:w.heap.size<=b) (hc:Holds w' (fun x=>Mut F β st x\/x=b) b cs)
  {tv:TV} {v:Value} (hid:tv.id=some (d,st.gen d)) (htv : ∀M,RepT (upd β d (st.gen d) b) w' M v tv) :
  Rel w0 F I Z N (upd β d (st.gen d) b) (st.new d cs tv) (a.put (some d) v) w':=by
 have hobj : ∀d' g',((st.new d cs tv).obj d' g').isSome=true->(d'=d/\g'=st.gen d)\/((st.obj d' g').isSome=true /\ ¬(d'=d/\g'=st.gen d)):=by
  intro d' g' ho
  by_cases hx:d'=d/\g'=st.gen d
  ·exact .inl hx
  ·simp only[St.new,if_neg hx]at ho;exact .inr ⟨ho,hx⟩
 have hupd : ∀d' g',¬(d'=d/\g'=st.gen d)->upd β d (st.gen d) b d' g'=β d' g':=fun d' g' hx=>if_neg hx
 have hM : ∀x,Mut F (upd β d (st.gen d) b) (st.new d cs tv) x->Mut F β st x\/x=b:=by
  rintro x (hf|⟨d',g',ho,e⟩)
  ·exact .inl (.inl hf)
  ·rcases hobj d' g' ho with⟨rfl,rfl⟩|⟨ho',hx⟩
   ·rw[upd_self]at e;exact .inr e.symm
   ·rw[hupd _ _ hx]at e;exact .inl (.inr ⟨d',g',ho',e⟩)
 have hM' : ∀x,x<w.heap.size->Mut F (upd β d (st.gen d) b) (st.new d cs tv) x->Mut F β st x:=fun x hx hm=>(hM x hm).resolve_right (by omega)
 have hcell : ∀p:Addr,p.block<w.heap.size -> ¬Mut F β st p.block->w'.cell? p=w.cell? p:=fun p hp _=>World.cell?_of_block (w:=w) (w':=w') (he.block p.block hp (fun x=>x))
 have hrep : ∀ {v:Value} {s:SV},Rep w (Mut F β st) v s->Rep w' (Mut F (upd β d (st.gen d) b) (st.new d cs tv)) v s:=fun hr=>Rep.mono hcell hM' hr
 have hT : ∀ {v:Value} {x:TV},RepT β w (Mut F β st) v x->(∀d' g',x.id=some (d',g')->g'<st.gen d')->RepT (upd β d (st.gen d) b) w' (Mut F (upd β d (st.gen d) b) (st.new d cs tv)) v x:=by
  intro v x hold hids
  cases x with
  |sv s=>exact hrep hold
  |nil=>exact hold
  |undef=>trivial
  |skip=>exact hold
  |emp=>exact hold
  |ptr d' g' off=>
   have hl:=hids d' g' rfl
   show _=_
   rw[hupd d' g' (fun e=>by obtain⟨rfl,rfl⟩:=e;omega)]
   exact hold
  |pst d' g' =>
   have hl:=hids d' g' rfl
   show _=_
   rw[hupd d' g' (fun e=>by obtain⟨rfl,rfl⟩:=e;omega)]
   exact hold
  |ref d' g' size off n=>
   have hl:=hids d' g' rfl
   obtain⟨cap,cs',ty',h1,h2,h3,h4⟩:=hold
   refine⟨cap,cs',ty',?_,h2,?_,h4⟩
   ·rw[hupd d' g' (fun e=>by obtain⟨rfl,rfl⟩:=e;omega)];exact h1
   ·rw[hupd d' g' (fun e=>by obtain⟨rfl,rfl⟩:=e;omega),he.block _ (lt_of_heap h3) (fun x=>x)];exact h3
  |rfc d' g' size off n c=>
   have hl:=hids d' g' rfl
   obtain⟨cs',ty',h1,h2,h3,h4⟩:=hold
   refine⟨cs',ty',?_,h2,?_,h4⟩
   ·rw[hupd d' g' (fun e=>by obtain⟨rfl,rfl⟩:=e;omega)];exact h1
   ·rw[hupd d' g' (fun e=>by obtain⟨rfl,rfl⟩:=e;omega),he.block _ (lt_of_heap h3) (fun x=>x)];exact h3
  |tp d' g' size off n r=>
   have hlt:=hids d' g' rfl
   obtain⟨cap,cs',ty',vs,h1,h2,h3,h4,h5,h6⟩:=hold
   have e:=hupd d' g' (fun e=>by obtain⟨rfl,rfl⟩:=e;omega)
   exact⟨cap,cs',ty',vs,by rw[e];exact h1,h2,by rw[e,he.block _ (lt_of_heap h3) (fun x=>x)];exact h3,h4,h5,fun i s hi=>hrep (h6 i s hi)⟩
 have hG : ∀d',st.gen d'<=(st.new d cs tv).gen d':=by
  intro d'
  simp only[St.new]
  split
  ·rename_i e;subst e;omega
  ·exact Nat.le_refl _
 exact {
  defers:=h.defers
  size:=by simp[Act.put,h.size]
  tmps:=fun u=>by
   by_cases hu:u=d
   ·subst hu
    simp only[Act.put,Array.getD_eq_getD_getElem?]
    rw[Array.getElem?_setIfInBounds_self_of_lt (by rw[h.size];exact hd)]
    have:(st.new u cs tv).tmp u=tv:=if_pos rfl
    rw[this]
    exact htv _
   ·have h1:(st.new d cs tv).tmp u=st.tmp u:=if_neg hu
    rw[h1]
    simp only[Act.put,Array.getD_eq_getD_getElem?]
    rw[Array.getElem?_setIfInBounds_ne (fun e=>hu e.symm)]
    have hold:=h.tmps u
    rw[Array.getD_eq_getD_getElem?]at hold
    have hids:=h.ids u
    exact hT hold hids
  ids:=fun u d' g' hx=>by
   simp only[St.new]at hx ⊢
   split at hx
   ·rw[hid]at hx
    simp only[Option.some.injEq,Prod.mk.injEq]at hx
    obtain⟨rfl,rfl⟩:=hx
    rw[if_pos rfl]
    omega
   ·have:=h.ids u d' g' hx
    split
    ·rename_i e;subst e;omega
    ·exact this
  objs:=fun d' g' cells ho=>by
   by_cases hx:d'=d/\g'=st.gen d
   ·obtain⟨rfl,rfl⟩:=hx
    simp only[St.new,and_self,if_true,Option.some.injEq]at ho
    subst ho
    obtain⟨us,ty,hb1,hall⟩:=hc
    refine⟨us,ty,by rw[upd_self];exact hb1,fun i s hs => ?_⟩
    obtain⟨h1,u,hu,hr⟩:=hall i s hs
    exact⟨h1,u,hu,Rep.mono (w:=w') (fun _ _ _=>rfl) (fun x _ hm=>hM x hm) hr⟩
   ·simp only[St.new,if_neg hx]at ho
    obtain⟨us',ty',hb1,hall⟩:=h.objs d' g' cells ho
    refine⟨us',ty',by rw[hupd _ _ hx,he.block _ (lt_of_heap hb1) (fun x=>x)];exact hb1,fun i s hs => ?_⟩
    obtain⟨h1,u,hu,hr⟩:=hall i s hs
    exact⟨h1,u,hu,hrep hr⟩
  own:=fun d' g' ho=>by
   rcases hobj d' g' ho with⟨rfl,rfl⟩|⟨ho',hx⟩
   ·rw[upd_self]
    exact⟨fun _ => .inl (Nat.le_trans h.ext.size hb),fun hn _=>absurd (Nat.lt_of_lt_of_le hd h.room) (by omega)⟩
   ·rw[hupd _ _ hx];exact h.own d' g' ho'
  room:=h.room
  inj:=fun d1 g1 d2 g2 h1 h2 e=>by
   rcases hobj d1 g1 h1 with⟨rfl,rfl⟩|⟨h1',he1⟩<;>rcases hobj d2 g2 h2 with⟨rfl,rfl⟩|⟨h2',he2⟩
   ·exact⟨rfl,rfl⟩
   ·rw[upd_self,hupd _ _ he2]at e
    have:=h.lt h2'
    omega
   ·rw[upd_self,hupd _ _ he1]at e
    have:=h.lt h1'
    omega
   ·rw[hupd _ _ he1,hupd _ _ he2]at e
    exact h.inj d1 g1 d2 g2 h1' h2' e
  gens:=fun d' g' ho=>by
   simp only[St.new]
   rcases hobj d' g' ho with⟨rfl,rfl⟩|⟨ho',hx⟩
   ·rw[if_pos rfl];omega
   ·have:=h.gens d' g' ho'
    split
    ·rename_i e;subst e;omega
    ·exact this
  ext:=h.ext.trans (he.mono (fun _ hx=>hx.elim) (fun x _ => .inr fun cs ty hcx=>he.block x (lt_of_heap hcx) (fun y=>y)))
  old:=h.old
  imps:=h.imps
  pin:=fun d' g' hd' hd''=>(hupd d' g' (fun e=>by have:=h.room;omega)).trans (h.pin d' g' hd' hd'')
  ups:=fun u=>hT (h.ups u) (h.uids u)
  uids:=fun u d' g' hx=>Nat.lt_of_lt_of_le (h.uids u d' g' hx) (hG d')
  glob:=fun g v hg=>hrep (h.glob g v hg)
  hobs:=fun d' g' ts hts=>by
   obtain⟨h1,h2,cs',ty',hb',hall⟩:=h.hobs d' g' ts hts
   have hne : ¬(d'=d/\g'=st.gen d):=fun e=>by have:=h.room;have:N0<H0:=(by decide);omega
   refine⟨h1,(if_neg hne).trans h2,cs',ty',by rw[hupd _ _ hne,he.block _ (lt_of_heap hb') (fun x=>x)];exact hb',fun i x hx => ?_⟩
   obtain⟨v,hv,ho,hr,hid'⟩:=hall i x hx
   exact⟨v,hv,ho,hT hr hid',fun d1 g1 e=>Nat.lt_of_lt_of_le (hid' d1 g1 e) (hG d1)⟩
  bms:=h.bms.to rfl rfl (fun d' g' ho=>(hobj d' g' ho).elim (fun e => .inr (.inl (by rw[e.1,e.2,upd_self];exact hb))) (fun e => .inl ⟨e.1,hupd _ _ e.2⟩)) (fun x hx _=>he.block x hx (fun x=>x)) }
end
end Go.Ev
