/- The contracts and facts that the laws of this seat need, in one text (AbC, Ab27, Ab28, Ab30, Ab31, K12b, K12c, K13, K13b, K13c, K13d, K13e, KM4, K14, K14b, K15, K15b, K16, K17, KM5). -/
import Derived.Test.YtcalbhjelehlgaaGreatS7
import Derived.TacticsIn
import Derived.RangeFuncRecord
import Derived.RangeFuncLeaves
import Derived.RangeFuncCalls
import Derived.RangeFuncSeq
import Derived.RecoverIn
set_option linter.all false
namespace Go.Ab
def noDefer (ops : Array Oper) : Bool:=ops.toList.all fun o=>match o.op with|.defer _=>false|_=>true
theorem noDefer_of {ops : Array Oper} (h : noDefer ops=true) {o : Oper} (ho : o ∈ ops.toList) : ∀ c,o.op≠.defer c:=by
 intro c hc
 have:=List.all_eq_true.1 h o ho
 rw [hc] at this;cases this
structure Wide (F : Fence) : Prop where
 fn : ∀ f,F.fn f
 depth : F.depth=none
 calls : ∀ {n : Nat} {P : Program} {f : FuncId} {args : Array Value} {w : World} {R : Ending→World→Prop},Calls P f args w R→CallsIn F n P f args w R
 rows : ∀ {n : Nat} {P : Program} {row : String} {args : Array Value} {w : World} {R : Value→World→Prop},Rows P row args w R→RowsIn F n P row args w R
theorem wide_wide : Wide Fence.wide:=⟨fun _=>trivial,rfl,fun h=>callsIn_wide.2 h,fun h c cs _=>let ⟨v,w',r,s⟩:=h c cs;⟨v,w',r,stepsIn_wide.2 s⟩⟩
theorem wide_round (l : Nat) : Wide (Fence.wide.inRound l):=⟨fun _=>trivial,rfl,fun h=>(callsIn_wide.2 h).inRound l,fun h=>wide_wide.rows h⟩
theorem opIn_of {F : Fence} (hF : Wide F) {n : Nat} {P : Program} {o : Oper} (hd : ∀ c,o.op≠.defer c) {a : Act} {w : World} {next : Act→World→Prop} {Q : Exit→Act→World→Prop}
 (h : o.wp P a w next Q) : o.wpIn F n P a w next Q:=by
 refine ⟨fun f _=>hF.fn f,?_⟩
 rw [Oper.semAt_eq _ _ _ hd]
 unfold Oper.wp at h
 cases hx : (execOp a.eval o).run P w with
 |ok nx w'=>
  rw [hx] at h
  cases nx with
  |value v=>exact h
  |skip=>exact h
  |defer d=>exact h
  |enter f args=>exact ⟨fun hs=>(by rw [hF.depth] at hs;cases hs),hF.calls h⟩
  |row r args=>exact ⟨fun hs=>(by rw [hF.depth] at hs;cases hs),hF.rows h⟩
  |_=>exact h.elim
 |halt k w'=>
  rw [hx] at h
  cases k with
  |panic v=>exact h
  |_=>exact h.elim
def SimL (C : Cx) (L : Nat→Loc) (st : St) (a : Act) (w : World) : Prop:=
 MemL C L st.h w∧a.tmps.size=C.N∧∀ n,RepA w (Mst C L st.h) L st.h (st.t n) (a.tmps.getD n undef)
theorem SimL.put {C : Cx} {L : Nat→Loc} {st : St} {a : Act} {w : World} (hs : SimL C L st a w) {d : Option Nat} (hd : dstOk C.N d=true) {v : AV} {W : List (Nat × Blk)} {u : Value} {w' : World} {L' : Nat→Loc}
 (hA : After C L st.h w L' (writes st.h W) w') (hv : RepA w' (Mst C L' (writes st.h W)) L' (writes st.h W) v u) : SimL C L' (st.put d v W) (a.put d u) w':=by
 obtain ⟨hm,hN,ht⟩:=hs
 refine ⟨hA.1,?_,fun n=>?_⟩
 ·cases d<;>simp [Act.put,hN]
 ·have hold:=(ht n).mono hA.2.1 hA.2.2
  cases d with
  |none=>exact hold
  |some d=>
   have hd' : d < a.tmps.size:=by rw [hN];simp only [dstOk,Bool.and_eq_true,decide_eq_true_eq] at hd;exact hd.1
   rw [getD_put hd']
   simp only [St.put,upd]
   split
   ·exact hv
   ·exact hold
theorem put_h (st : St) (d : Option Nat) (v : AV) (W : List (Nat × Blk)) : (st.put d v W).h=writes st.h W:=by cases d<;>rfl
theorem put_defers (a : Act) (d : Option Nat) (u : Value) : (a.put d u).defers=a.defers:=by cases d<;>rfl
theorem evOD_wpT {C : Cx} {L : Nat→Loc} {st : St} {a : Act} {w : World} (hs : SimL C L st a w) {o : Oper} (hnd : ∀ c,o.op≠.defer c) (hd : dstOk C.N o.dst=true) {hn : List Nat} {K : Eff→Prop} (e : evOD C.P hn o st.ev st.h K) {next : Act→World→Prop} {Q : Exit→Act→World→Prop}
 (hnext : ∀ eff a' w' L',K eff→SimL C L' (st.put o.dst eff.1 eff.2) a' w'→After C L st.h w L' (st.put o.dst eff.1 eff.2).h w'→a'.defers=a.defers→next a' w') : o.wp C.P a w next Q:=by
 have hs':=hs
 obtain ⟨hm,hN,ht⟩:=hs'
 have hplain : evO C.P hn o st.ev st.h K→o.wp C.P a w next Q:=fun e=>
  evO_wp hm (fun _ _ h=>h) (fun d hdd=>⟨rfl,by rw [hdd] at hd;simp only [dstOk,Bool.and_eq_true,decide_eq_true_eq] at hd;exact hd.2⟩) (fun x _=>eval_rep ht x) e (fun eff u w' L' hk hA hv=>hnext eff _ _ L' hk (hs.put hd hA hv) (by rw [put_h];exact hA) (put_defers _ _ _))
 unfold evOD at e
 split at e
 ·rename_i c hop
  exact absurd hop (hnd c)
 ·rename_i op t x y t' hop
  split at e
  ·rename_i hc
   simp only [Bool.and_eq_true,Bool.or_eq_true,beq_iff_eq] at hc
   obtain ⟨⟨⟨c1,c2⟩,c3⟩,c4⟩:=hc
   have hy:=nilA_val c1 (eval_rep ht y)
   obtain ⟨ad,n,c,hx⟩:=nilOpen_sound hm (eval_rep ht x) c3
   obtain ⟨b,hb⟩ : ∃ b : Bool,(op=.eql∧b=ad.isNone)∨(op=.neq∧b=!ad.isNone):=by
    rcases c4 with c4|c4
    ·exact ⟨_,.inl ⟨c4,rfl⟩⟩
    ·exact ⟨_,.inr ⟨c4,rfl⟩⟩
   have hrun : (execOp a.eval o).run C.P w=.ok (.value (.bool b)) w:=by
    obtain ⟨dst,op',ty,pos,aft,g⟩:=o
    simp only at hop
    subst hop
    exact runPure_run (nil_run (sliceT_under c2) hx hy hb) w
   have hK : K (.pv (.val (.bool b)),[]):=by cases b with
    |true=>exact e.1
    |false=>exact e.2
   unfold Oper.wp
   rw [hrun]
   exact hnext _ _ _ L hK (hs.put hd (W:=[]) (After.refl hm) (.pv (.val _))) (by rw [put_h];exact After.refl hm) (put_defers _ _ _)
  ·exact hplain e
 ·exact hplain e
theorem evR_soundT {F : Fence} (hF : Wide F) {n : Nat} {C : Cx} {hn : List Nat} {ops : Array Oper} {Q : St→Prop} {Q' : Exit→Act→World→Prop} {L0 : Nat→Loc} {h0 : Hp} {w0 : World} {ds : List Deferred}
 (hQ : ∀ st L a w,SimL C L st a w→After C L0 h0 w0 L st.h w→a.defers=ds→Q st→Q' .normal a w) :
 ∀ {l : List Oper} {st : St} {L : Nat→Loc} {a : Act} {w : World},(∀ o ∈ l,∀ c,o.op≠.defer c)→SimL C L st a w→After C L0 h0 w0 L st.h w→a.defers=ds→evR C.P hn C.N ops Q l st→wpListIn F n C.P ops Q' l a w
 |[],st,L,a,w,_,hs,hA,hdd,e=>hQ st L a w hs hA hdd e
 |o :: l,st,L,a,w,hnd,hs,hA,hdd,e=>by
  have hs':=hs
  obtain ⟨hm,hN,ht⟩:=hs'
  simp only [evR] at e
  obtain ⟨hd,e⟩:=e
  have hnd' : ∀ o' ∈ l,∀ c,o'.op≠.defer c:=fun o' ho'=>hnd o' (List.mem_cons_of_mem _ ho')
  have ho:=hnd o List.mem_cons_self
  unfold wpListIn
  split at e
  ·rename_i hg
   rw [guard_wanted ht (guardV_none hg),if_pos rfl]
   exact opIn_of hF ho (evOD_wpT hs ho hd e (fun eff a' w' L' hk hsim hA' hd'=>evR_soundT hF hQ hnd' hsim (hA.trans hA') (hd'.trans hdd) hk))
  ·rename_i d b want hg
   rw [guard_wanted ht (guardV_some hg)]
   unfold evB at e
   simp only at e
   split at e
   ·rename_i hgt
    subst hgt
    rw [if_pos (by simp)]
    exact opIn_of hF ho (evOD_wpT hs ho hd e (fun eff a' w' L' hk hsim hA' hd'=>evR_soundT hF hQ hnd' hsim (hA.trans hA') (hd'.trans hdd) hk))
   ·rename_i hgt
    rw [if_neg (by simpa using hgt)]
    exact ⟨fun f _=>hF.fn f,evR_soundT hF hQ hnd' (hs.put hd (W:=[]) (After.refl hm) (.pv (.val _))) (by rw [put_h];exact hA) ((put_defers _ _ _).trans hdd) e⟩
  ·exact e.elim
def WPT (F : Fence) (C : Cx) (c : Code) (Q : Exit→St→Prop) (st : St) : Prop:=
 ∀ n L a w,SimL C L st a w→c.wpIn F n C.P (fun e a' w'=>∃ st' L',SimL C L' st' a' w'∧After C L st.h w L' st'.h w'∧a'.defers=a.defers∧Q e st') a w
section
variable {F : Fence} {C : Cx} {Q : Exit→St→Prop} {st : St}
theorem WPT.region (hF : Wide F) {hn : List Nat} {id : Nat} {ops : Array Oper} (hnd : noDefer ops=true) (h : evR C.P hn C.N ops (Q .normal) ops.toList st) : WPT F C (.region id ops false) Q st:=
 fun _ _ _ _ hs=>wpIn_region_list (evR_soundT hF (fun st' L' _ _ hs' hA hd hq=>⟨st',L',hs',hA,hd,hq⟩) (fun _ ho=>noDefer_of hnd ho) hs (After.refl hs.1) rfl h)
def ThenT (F : Fence) (C : Cx) (y : Code) (Q : Exit→St→Prop) : Exit→St→Prop
 |.normal,st=>WPT F C y Q st
 |e,st=>Q e st
theorem WPT.seq {x y : Code} (h : WPT F C x (ThenT F C y Q) st) : WPT F C (.seq x y) Q st:=by
 intro n L a w hs
 refine wpIn_seq (wpIn_mono (h n L a w hs) ?_)
 rintro e a' w' ⟨st',L',hs',hA,hd,hq⟩
 cases e with
 |normal=>exact wpIn_mono (hq n L' a' w' hs') (fun e a2 w2 ⟨st2,L2,hs2,hA2,hd2,hq2⟩=>⟨st2,L2,hs2,hA.trans hA2,hd2.trans hd,hq2⟩)
 |_=>exact ⟨st',L',hs',hA,hd,hq⟩
theorem WPT.skip (h : Q .normal st) : WPT F C .skip Q st:=fun _ L _ _ hs=>wpIn_skip ⟨st,L,hs,After.refl hs.1,rfl,h⟩
theorem WPT.ret (h : Q .ret st) : WPT F C .ret Q st:=fun _ L _ _ hs=>wpIn_ret ⟨st,L,hs,After.refl hs.1,rfl,h⟩
theorem WPT.exit {id : Nat} (h : Q (.exit id) st) : WPT F C (.exit id) Q st:=fun _ L _ _ hs=>wpIn_exit ⟨st,L,hs,After.refl hs.1,rfl,h⟩
theorem WPT.cond {c : Operand} {x y : Code} {b : Bool} (hc : st.ev c=.pv (.val (.bool b))) (ht : b=true→WPT F C x Q st) (hf : b=false→WPT F C y Q st) : WPT F C (.cond c x y) Q st:=by
 intro n L a w hs
 have hc' : a.eval c=.bool b:=by
  have:=eval_rep hs.2.2 c
  rw [hc] at this
  cases this with
  |pv hr=>exact rep_val_inv hr
 exact wpIn_cond_split hc' (fun e=>ht e n L a w hs) (fun e=>hf e n L a w hs)
theorem WPT.block {id : Nat} {c : Code} (h : WPT F C c (InBlk id Q) st) : WPT F C (.block id c) Q st:=by
 intro n L a w hs
 refine wpIn_block (wpIn_mono (h n L a w hs) ?_)
 rintro e a' w' ⟨st',L',hs',hA,hd,hq⟩
 cases e with
 |exit i=>
  simp only [InBlk,Exit.inBlock] at hq ⊢
  split
  ·rename_i e;rw [if_pos e] at hq;exact ⟨st',L',hs',hA,hd,hq⟩
  ·rename_i e;rw [if_neg e] at hq;exact ⟨st',L',hs',hA,hd,hq⟩
 |_=>exact ⟨st',L',hs',hA,hd,hq⟩
theorem WPT.mono {c : Code} {Q' : Exit→St→Prop} (h : WPT F C c Q st) (hq : ∀ e st,Q e st→Q' e st) : WPT F C c Q' st:=
 fun n L a w hs=>wpIn_mono (h n L a w hs) (fun e _ _ ⟨st',L',hs',hA,hd,hq'⟩=>⟨st',L',hs',hA,hd,hq e st' hq'⟩)
end
end Go.Ab
namespace Go.Ab
theorem cell_ne {w : World} {l b o : Nat} {ob : Obj} {v : Value} (hl : w.heap[l]?=some ob) (hc : ob.isCells=false) (h : w.cell? ⟨b,o,none⟩=some v) : b≠l:=by
 intro e
 subst e
 obtain ⟨o',h1,h2⟩:=cells_of_cell h
 simp only at h1
 rw [hl] at h1;injection h1 with h1;subst h1
 rw [hc] at h2;cases h2
theorem blk_ne {w : World} {M : Nat→Nat→Prop} {L : Nat→Loc} {h : Hp} {loc : Loc} {blk : Blk} (hb : BlkRel w M L h loc blk) (hl : blk.live loc) {l : Nat} {ob : Obj} (hw : w.heap[l]?=some ob) (hc : ob.isCells=false) : loc.b≠l:=by
 intro e
 subst e
 cases blk with
 |box cs own fz=>obtain ⟨arr,ty,e,_⟩:=hb;rw [hw] at e;injection e with e;subst e;cases hc
 |row e sz xs fz=>obtain ⟨_,_,_,_,h5⟩:=hb;obtain ⟨_,_,arr,e,_⟩:=h5 hl;rw [hw] at e;injection e with e;subst e;cases hc
theorem MemL.turn {C : Cx} {L : Nat→Loc} {h : Hp} {w : World} (hm : MemL C L h w) {l : Nat} {ob : Obj} (hl : C.w0.heap[l]?=some ob) (hS : ¬ C.S l) (hc : ob.isCells=false) (ob' : Obj) :
 MemL { C with w0:=C.w0.putObj l ob' } L h (w.putObj l ob')∧Pres w (Mst C L h) (w.putObj l ob') (Mst C L h):=by
 have hlt : l < C.w0.heap.size:=(Array.getElem?_eq_some_iff.1 hl).1
 have hw : w.heap[l]?=some ob:=(hm.ext.block l hlt hS).trans hl
 have hlt' : l < w.heap.size:=(Array.getElem?_eq_some_iff.1 hw).1
 have hpres : Pres w (Mst C L h) (w.putObj l ob') (Mst C L h):=fun b o v hv hn=>⟨(World.cell?_of_block (World.putObj_heap_other (cell_ne hw hc hv))).trans hv,hn⟩
 refine ⟨⟨⟨hm.ext.os,hm.ext.tape,hm.ext.output,by simpa using hm.ext.size,fun b hb hs=>?_⟩,fun b o hb=>by simpa using hm.m0 b o hb,fun k blk hk=>(hm.bl k blk hk).mono hpres (KC.refl _ _) (fun hlv=>World.putObj_heap_other (blk_ne (hm.bl k blk hk) hlv hw hc)),hm.sep,fun k blk hk=>?_⟩,hpres⟩
 ·by_cases e : b=l
  ·subst e
   rw [World.putObj_heap_same hlt',World.putObj_heap_same hlt]
  ·rw [World.putObj_heap_other e,World.putObj_heap_other e]
   exact hm.ext.block b (by simpa using hb) hs
 ·have:=hm.own k blk hk
  cases blk with
  |box cs own fz=>cases own with
   |true=>simpa [OwnOk] using this
   |false=>simpa [OwnOk] using this
  |row e sz xs fz=>simpa [OwnOk] using this
theorem putObj_self {w : World} {l : Nat} {o : Obj} (h : w.heap[l]?=some o) : w.putObj l o=w:=by
 have : w.heap.setIfInBounds l o=w.heap:=by
  apply Array.ext_getElem?
  intro i
  rw [Array.getElem?_setIfInBounds]
  by_cases e : l=i
  ·subst e
   rw [if_pos rfl,if_pos (Array.getElem?_eq_some_iff.1 h).1,h]
  ·rw [if_neg e]
 show { w with heap:=w.heap.setIfInBounds l o }=w
 rw [this]
theorem putObj_putObj (w : World) (l : Nat) (o o' : Obj) : (w.putObj l o).putObj l o'=w.putObj l o':=by
 show { w with heap:=(w.heap.setIfInBounds l o).setIfInBounds l o' }={ w with heap:=w.heap.setIfInBounds l o' }
 congr 1
 apply Array.ext_getElem?
 intro i
 simp only [Array.getElem?_setIfInBounds,Array.size_setIfInBounds]
 by_cases e : l=i
 ·subst e;simp
 ·simp [e]
theorem getD_set {tm : Array Value} {d : Nat} {u : Value} (hd : d < tm.size) (n : Nat) : (tm.setIfInBounds d u).getD n undef=if n=d then u else tm.getD n undef:=by
 simp only [Array.getD_eq_getD_getElem?]
 by_cases e : n=d
 ·subst e;simp [hd]
 ·rw [if_neg e,Array.getElem?_setIfInBounds_ne (by omega)]
theorem boxRel_lt {w : World} {M : Nat→Nat→Prop} {b : Nat} {ps : List PV} (h : BoxRel w M b ps) : b < w.heap.size:=by
 obtain ⟨arr,ty,e,_⟩:=h
 exact (Array.getElem?_eq_some_iff.1 e).1
def IterC (P : Program) (gf : FuncId) (caps : List PV) (xs : List (PV × PV)) : Prop:=
 callable P gf=true∧∀ (n l : Nat) (lb : List Value) (W : World) (M : Nat→Nat→Prop) (J : Nat→(Nat→Nat→Prop)→World→Prop),
  (∀ i M W,J i M W→∀ b o,M b o→b < W.heap.size)→(∀ i M W W',J i M W→Ext (fun _=>False) W W'→J i M W')→
  (∀ m i x M W v1 v2,xs[i]?=some x→J i M W→Rep W M x.1 v1→Rep W M x.2 v2→YieldAt Fence.wide m P l #[v1,v2] W fun e W'=>e=.returned (.bool true)∧∃ M',J (i+1) M' W'∧Pres W M W' M')→
  J 0 M W→RepL W M caps lb→CallsIn Fence.wide n P gf (#[.func (.yield l) #[] #[]]++lb.toArray) W fun e W'=>(∃ v,e=.returned v)∧∃ M',J xs.length M' W'
def handH (ks : List Nat) (hin : Nat→List PV) : Hp:=fun k=>if ks.contains k=true then some (.box ((hin k).map .pv) false false) else none
def setP (t : Nat→AV) (p q : Nat) (x : PV × PV) : Nat→AV:=upd (upd t p (.pv x.1)) q (.pv x.2)
theorem range_wp {P : Program} {N : Nat} {gop : Operand} {p q : Nat} {assign body : Code} {a : Act} {w : World} {n : Nat} {gf : FuncId} {lb : List Value} (hg : a.eval gop=.func (.func gf) #[] lb.toArray)
 {caps : List PV} {xs : List (PV × PV)} (hit : IterC P gf caps xs) {M : Nat→Nat→Prop} (hM : ∀ b o,M b o→b < w.heap.size) (hcap : RepL w M caps lb)
 {ks : List Nat} {bs : Nat→Nat} {hin : Nat→List PV} (hbs : ∀ k ∈ ks,(∀ o,M (bs k) o)∧BoxRel w M (bs k) (hin k)) (hinj : ∀ k ∈ ks,∀ k' ∈ ks,k≠k'→bs k≠bs k')
 (hN : a.tmps.size=N) (hp : p < N) (hq : q < N) {t : Nat→AV} (ht : ∀ m,(∃ k ∈ ks,t m=.ptr k 0∧a.tmps.getD m undef=.pointer (some ⟨bs k,0,none⟩))∨t m=.undef)
 (I : Nat→Hp→Prop) (h0 : I 0 (handH ks hin)) (hI : ∀ i h k,k ∈ ks→I i h→∃ cs,h k=some (.box cs false false))
 (hround : ∀ (C C' : Cx) (l i : Nat) (x : PV × PV) (h : Hp),C.P=P→C.N=N→C'.P=P→C'.N=N→xs[i]?=some x→I i h→
   WPT (Fence.wide.inRound l) C assign (fun e st'=>e=.normal∧WPT (Fence.wide.inRound l) C' body (fun e' st''=>e'=.normal∧I (i+1) st''.h) st') ⟨setP t p q x,h⟩) :
 (Code.rangeFunc gop #[p,q] assign body).wpIn Fence.wide n P (fun e a' w'=>e=.normal∧∃ (C : Cx) (L : Nat→Loc) (h : Hp) (D : Nat),C.P=P∧C.N=N∧C.M0=M∧(∀ b,C.S b→∃ k ∈ ks,b=bs k)∧
   MemL C L h w'∧I xs.length h∧(∀ k ∈ ks,(L k).b=bs k)∧Ext (fun _=>False) w C.w0∧C.w0.heap[D]?=some (.deferred (some []))∧¬ C.S D∧w.heap.size≤D∧a'={ a with defers:={ target:=.collected D,args:=#[] } :: a.defers }) a w:=by
 refine wpIn_rangeFunc ?_
 intro fn _
 obtain ⟨rec,hrec⟩ : ∃ rec : LoopState→Option Code→Loop,rec=fun st pe=>{ state:=st,pending:=pe,fn,tmps:=a.tmps,params:=#[p,q],assign,body,defers:=w.heap.size }:=⟨_,rfl⟩
 obtain ⟨W1,hW1⟩ : ∃ W1,(w.alloc (.deferred (some []))).alloc (.loop (rec .ready none))=W1:=⟨_,rfl⟩
 have hx1 : Ext (fun _=>False) w W1:=by rw [← hW1];exact (Ext.alloc _ _ _).trans (Ext.alloc _ _ _) (fun _ _ h=>h)
 have hs1 : W1.heap.size=w.heap.size+2:=by rw [← hW1];simp
 have hL1 : W1.heap[w.heap.size+1]?=some (.loop (rec .ready none)):=by
  rw [← hW1];have:=World.alloc_heap_new (w.alloc (.deferred (some []))) (.loop (rec .ready none));rwa [World.size_alloc] at this
 have hD1 : W1.heap[w.heap.size]?=some (.deferred (some [])):=by
  rw [← hW1];exact (RowKit.Below.heap_alloc _ _ _ (by simp)).trans (World.alloc_heap_new w _)
 obtain ⟨l,hl⟩ : ∃ l,l=w.heap.size+1:=⟨_,rfl⟩
 rw [← hl] at hL1
 obtain ⟨cx,hcx⟩ : ∃ cx : Obj→Cx,cx=fun o=>{ P:=P,N:=N,M0:=M,S:=fun b=>∃ k ∈ ks,b=bs k,pb:=fun k=>if ks.contains k=true then some (bs k) else none,w0:=W1.putObj l o }:=⟨_,rfl⟩
 have hS : ∀ o b,(cx o).S b→b < w.heap.size:=by
  intro o b hb
  rw [hcx] at hb
  obtain ⟨k,hk,rfl⟩:=hb
  exact boxRel_lt (hbs k hk).2
 have hw0 : ∀ o,(cx o).w0=W1.putObj l o:=fun o=>by rw [hcx]
 have hMst : ∀ o o' L h,Mst (cx o) L h=Mst (cx o') L h:=fun o o' L h=>by rw [hcx];rfl
 have hat : ∀ (o : Obj),(cx o).w0.heap[l]?=some o:=fun o=>by rw [hw0];exact World.putObj_heap_same (Array.getElem?_eq_some_iff.1 hL1).1
 have hnS : ∀ o,¬ (cx o).S l:=fun o h=>by have:=hS o l h;omega
 have hturn : ∀ {o o' : Obj} {L : Nat→Loc} {h : Hp} {W : World},o.isCells=false→MemL (cx o) L h W→W.heap[l]?=some o∧MemL (cx o') L h (W.putObj l o')∧Pres W (Mst (cx o) L h) (W.putObj l o') (Mst (cx o') L h):=by
  intro o o' L h W ho hm
  have hlt : l < (cx o).w0.heap.size:=(Array.getElem?_eq_some_iff.1 (hat o)).1
  obtain ⟨h1,h2⟩:=hm.turn (hat o) (hnS o) ho o'
  refine ⟨(hm.ext.block l hlt (hnS o)).trans (hat o),?_,?_⟩
  ·have e : ({ cx o with w0:=(cx o).w0.putObj l o' } : Cx)=cx o':=by rw [hcx];simp only [putObj_putObj]
   rw [e] at h1;exact h1
  ·rw [hMst o' o];exact h2
 have hready : W1.putObj l (.loop (rec .ready none))=W1:=putObj_self hL1
 have hown : ∀ {o : Obj} {L : Nat→Loc} {h : Hp} {W : World} {i k : Nat},k ∈ ks→I i h→MemL (cx o) L h W→(L k).b=bs k:=by
  intro o L h W i k hk hi hm
  obtain ⟨cs,hc⟩:=hI i h k hk hi
  have:=(hm.own k _ hc).2.1
  rw [hcx] at this
  have hc' : ks.contains k=true:=by simpa using hk
  simp only [hc',if_true,Option.some.injEq] at this
  exact this.symm
 let L0 : Nat→Loc:=fun k=>⟨bs k,0,false⟩
 have hkey : ∀ k blk,handH ks hin k=some blk→k ∈ ks∧blk=.box ((hin k).map .pv) false false:=by
  intro k blk hk
  unfold handH at hk
  split at hk
  ·rename_i hc;injection hk with hk;exact ⟨by simpa using hc,hk.symm⟩
  ·cases hk
 have hM1 : ∀ o b o',Mst (cx o) L0 (handH ks hin) b o'→M b o':=by
  rintro o b o' (hb|⟨k,blk,hk,_,hb,_⟩)
  ·rw [hcx] at hb;exact hb
  ·obtain ⟨hks,_⟩:=hkey k blk hk
   rw [← hb];exact (hbs k hks).1 o'
 have hpres1 : Pres w M W1 (Mst (cx (.loop (rec .ready none))) L0 (handH ks hin)):=fun b o v hv hn=>⟨(hx1.cell (cell_lt hv) (fun h=>h)).trans hv,fun h=>hn (hM1 _ b o h)⟩
 have hm0 : MemL (cx (.loop (rec .ready none))) L0 (handH ks hin) W1:=by
  refine ⟨by rw [hw0,hready];exact Ext.refl _ _,?_,?_,?_,?_⟩
  ·intro b o hb
   rw [hw0,hready]
   rw [hcx] at hb
   have:=hM b o hb
   omega
  ·intro k blk hk
   obtain ⟨hks,rfl⟩:=hkey k blk hk
   obtain ⟨arr,ty,e1,e2⟩:=(hbs k hks).2
   exact ⟨arr,ty,(hx1.block _ (boxRel_lt (hbs k hks).2) (fun h=>h)).trans e1,RepAL.map_pv (e2.mono hpres1)⟩
  ·intro k k' b1 b2 hne hk hk' _ _
   exact hinj k (hkey k b1 hk).1 k' (hkey k' b2 hk').1 hne
  ·intro k blk hk
   obtain ⟨hks,rfl⟩:=hkey k blk hk
   have hc' : ks.contains k=true:=by simpa using hks
   refine ⟨rfl,?_,?_,?_,?_⟩
   ·rw [hcx];simp only [hc',if_true];rfl
   ·rw [hcx];exact ⟨k,hks,rfl⟩
   ·rw [hw0,hready];have:=boxRel_lt (hbs k hks).2;show bs k < _;omega
   ·intro o;rw [hcx];exact (hbs k hks).1 o
 refine ⟨l,[{ target:=.collected w.heap.size,args:=#[] }],W1,{ target:=.fn (.func gf) lb.toArray,args:=#[.func (.yield l) #[] #[]] },W1,gf,#[.func (.yield l) #[] #[]]++lb.toArray,W1,?_,?_,fun _ _=>trivial,invoke_fn hit.1 _ _ _,fun h=>(by cases h),?_⟩
 ·rw [← hW1,hrec,hl];exact run_enterLoop_outer _ _ _ _ _
 ·simp only [resolve,hg]
  simp [go_sem]
 ·refine (hit.2 (n - 1) l lb W1 _ (fun i M' W=>∃ L h,I i h∧MemL (cx (.loop (rec .ready none))) L h W∧M'=Mst (cx (.loop (rec .ready none))) L h) ?_ ?_ ?_ ⟨L0,_,h0,hm0,rfl⟩ (hcap.mono hpres1)).mono ?_
  ·rintro i M' W ⟨L,h,_,hm,rfl⟩ b o hb
   exact hm.mlt hb
  ·rintro i M' W W' ⟨L,h,hi,hm,rfl⟩ hx
   exact ⟨L,h,hi,(hm.grow hx).1,rfl⟩
  ·
   rintro m i x M' W v1 v2 hxi ⟨L,h,hi,hm,rfl⟩ hr1 hr2
   obtain ⟨hlW,_,_⟩:=hturn (o':=.loop (rec .ready none)) rfl hm
   have hy:=run_yield (P:=P) (args:=#[v1,v2]) hlW (by rw [hrec];rfl)
   rw [hrec] at hy
   refine ⟨fn,(a.tmps.setIfInBounds p v1).setIfInBounds q v2,assign,body,by simpa using hy,roundIn_of_wpIn trivial ?_⟩
   have hsim : SimL (cx (.loop (rec .ready none))) L ⟨setP t p q x,h⟩ { tmps:=(a.tmps.setIfInBounds p v1).setIfInBounds q v2,defers:=[] } W:=by
    refine ⟨hm,by rw [hcx];simpa using hN,fun k=>?_⟩
    have hq' : q < (a.tmps.setIfInBounds p v1).size:=by rw [Array.size_setIfInBounds,hN];exact hq
    have hp' : p < a.tmps.size:=by rw [hN];exact hp
    simp only [getD_set hq',getD_set hp',setP,upd]
    split
    ·exact .pv hr2
    ·split
     ·exact .pv hr1
     ·rcases ht k with ⟨k',hk',e1,e2⟩|e1
      ·obtain ⟨cs,hc⟩:=hI i h k' hk' hi
       rw [e1,e2,← hown hk' hi hm]
       exact .ptr hc
      ·rw [e1];exact .undef _
   have hP1 : (cx (.loop (rec .ready none))).P=P:=by rw [hcx]
   have hP2 : (cx (.loop (rec .busy none))).P=P:=by rw [hcx]
   have hR:=hround (cx (.loop (rec .ready none))) (cx (.loop (rec .busy none))) l i x h hP1 (by rw [hcx]) hP2 (by rw [hcx]) hxi hi m L _ W hsim
   rw [hP1] at hR
   refine wpIn_mono hR ?_
   rintro e a1 w1 ⟨st1,L1,hs1',hA1,_,rfl,hbody⟩
   obtain ⟨hl1,hmb,hpb⟩:=hturn (o':=.loop (rec .busy none)) rfl hs1'.1
   refine ⟨w1.putObj l (.loop (rec .busy none)),?_,?_⟩
   ·have:=run_beginRound (P:=P) hl1 (by rw [hrec])
    rw [hrec] at this ⊢;exact this
   have hsb : SimL (cx (.loop (rec .busy none))) L1 st1 a1 (w1.putObj l (.loop (rec .busy none))):=⟨hmb,by have:=hs1'.2.1;rw [hcx] at this ⊢;exact this,fun k=>(hs1'.2.2 k).mono hpb (KC.refl _ _)⟩
   have hB:=hbody m L1 a1 _ hsb
   rw [hP2] at hB
   refine wpIn_mono hB ?_
   rintro e2 a2 w2 ⟨st2,L2,hs2,hA2,_,rfl,hi2⟩
   obtain ⟨hl2,hmr,hpr⟩:=hturn (o':=.loop (rec .ready none)) rfl hs2.1
   refine ⟨_,_,run_endRound none hl2,rfl,_,⟨L2,st2.h,hi2,?_,rfl⟩,?_⟩
   ·have e : (Obj.loop { rec .busy none with state:=if (none : Option Code).isNone=true then .ready else .done,pending:=none })=.loop (rec .ready none):=by rw [hrec];rfl
    rw [e];exact hmr
   ·have e : (Obj.loop { rec .busy none with state:=if (none : Option Code).isNone=true then .ready else .done,pending:=none })=.loop (rec .ready none):=by rw [hrec];rfl
    rw [e]
    exact ((hA1.2.1.trans hpb).trans hA2.2.1).trans hpr
  ·
   rintro e W2 ⟨⟨v,rfl⟩,M',L,h,hi,hm,_⟩
   obtain ⟨hl2,hme,_⟩:=hturn (o':=.loop (rec .exhausted none)) rfl hm
   refine ⟨none,W2.putObj l (.loop (rec .exhausted none)),?_,rfl,cx (.loop (rec .exhausted none)),L,h,w.heap.size,by rw [hcx],by rw [hcx],by rw [hcx],?_,hme,hi,fun k hk=>hown hk hi hm,?_,?_,?_,Nat.le_refl _,rfl⟩
   ·have:=run_endLoop (P:=P) hl2 (by rw [hrec];simp)
    rw [hrec] at this ⊢;exact this
   ·intro b hb
    rw [hcx] at hb;exact hb
   ·rw [hw0]
    refine ⟨hx1.os,hx1.tape,hx1.output,by simp;omega,fun b hb _=>?_⟩
    rw [World.putObj_heap_other (by omega)]
    exact hx1.block b hb (fun h=>h)
   ·rw [hw0,World.putObj_heap_other (by omega)];exact hD1
   ·intro hb
    have:=hS _ _ hb
    omega
end Go.Ab
namespace Go.Ab
def QuietIn (P : Program) (g : FuncId) : Prop:=callable P g=true∧∀ (n : Nat) (args : Array Value) (w : World),CallsDIn Fence.wide n P g args .returning w fun e u' w'=>u'=.returning∧(∃ v,e=.returned v)∧w'=w
def QuietA (P : Program) (ds : List Deferred) : Prop:=∀ d ∈ ds,∃ g cap,d.target=.fn (.func g) cap∧QuietIn P g
theorem leaves_in {n : Nat} {P : Program} {fn : Func} {tmps : Array Value} {R : Ending→World→Prop} {w : World} {v : Value} : ∀ {ds : List Deferred},QuietA P ds→(results fn tmps).run P w=.ok v w→R (.returned v) w→LeavesInM Fence.wide n P fn tmps R ds .returning w
 |[],_,hr,hR=>⟨v,hr,hR⟩
 |d :: ds,hq,hr,hR=>by
  obtain ⟨g,cap,ht,hg⟩:=hq d (by simp)
  refine ⟨by simp,.inr ⟨fun h=>(by cases h),.func g,cap,g,d.args++cap,ht,by rw [ht];exact invoke_fn hg.1 _ _ _,fun _ _=>trivial,(hg.2 _ _ w).mono ?_⟩⟩
  rintro e u' w' ⟨rfl,⟨v',rfl⟩,rfl⟩
  exact leaves_in (fun d hd=>hq d (by simp [hd])) hr hR
def Rres (C : Cx) (res : PV) : Ending→World→Prop:=fun e w'=>∃ v,e=.returned v∧Ext (fun _=>False) C.w0 w'∧Rep w' C.M0 res v
theorem ret_run {C : Cx} {L : Nat→Loc} {st : St} {a : Act} {w : World} (hs : SimL C L st a w) {fn : Func} {res : PV} (hr : RetOk C.P fn.results.toList [] (.pv res) st) : ∃ u,(results fn a.tmps).run C.P w=.ok u w∧Rep w C.M0 res u:=by
 obtain ⟨r,h1,_,W,hW⟩:=hr
 obtain ⟨u,hu1,hu2⟩:=resVal_run (C:=C) hs.1 hs.2.2 h1
 obtain ⟨b1,b2,_⟩:=frz_sound hs.1 (Froz.refl _) hu2 hW
 exact ⟨u,hu1,b2.mono (Pres.sub (fun b o h=>.inl h))⟩
theorem wpListIn_append {F : Fence} {n : Nat} {P : Program} {ops : Array Oper} {Q : Exit→Act→World→Prop} (l2 : List Oper) : ∀ {l1 : List Oper} {a : Act} {w : World},
 wpListIn F n P ops (Exit.then (wpListIn F n P ops Q l2) Q) l1 a w→wpListIn F n P ops Q (l1++l2) a w
 |[],a,w,h=>h
 |o :: l1,a,w,h=>by
  rw [List.cons_append]
  unfold wpListIn at h ⊢
  split
  ·rename_i hw
   rw [if_pos hw] at h
   refine ⟨h.1,?_⟩
   have h2:=h.2
   generalize (o.semAt F.round a.eval).run P w=r at h2 ⊢
   unfold Oper.uponIn at h2 ⊢
   split<;>simp only at h2 ⊢
   ·exact wpListIn_append l2 h2
   ·exact wpListIn_append l2 h2
   ·exact wpListIn_append l2 h2
   ·refine ⟨h2.1,h2.2.mono ?_⟩
    intro e w' he
    cases e with
    |returned v=>exact wpListIn_append l2 he
    |panicked ch=>exact he
    |outgrown=>exact he
   ·exact ⟨h2.1,h2.2.mono fun v w' he=>wpListIn_append l2 he⟩
   ·refine ⟨h2.1,h2.2.mono ?_⟩
    intro e w' he
    cases e with
    |returned v=>exact wpListIn_append l2 he
    |panicked ch=>exact he
    |outgrown=>exact he
   ·exact h2
  ·rename_i hw
   rw [if_neg hw] at h
   exact ⟨h.1,wpListIn_append l2 h.2⟩
def WPF (C : Cx) (fn : Func) (res : PV) (c : Code) (st : St) : Prop:=
 ∀ n L a w,SimL C L st a w→QuietA C.P a.defers→c.wpIn Fence.wide n C.P (bodyPostM Fence.wide n C.P fn (Rres C res)) a w
section
variable {C : Cx} {fn : Func} {res : PV} {st : St}
theorem ext_none {S : Nat→Prop} (hS : ∀ b,¬ S b) {w w' : World} (h : Ext S w w') : Ext (fun _=>False) w w':=⟨h.os,h.tape,h.output,h.size,fun b hb _=>h.block b hb (hS b)⟩
def SeqF (C : Cx) (fn : Func) (res : PV) (y : Code) : Exit→St→Prop
 |.normal,st=>WPF C fn res y st
 |.ret,st=>RetOk C.P fn.results.toList [] (.pv res) st
 |_,_=>False
theorem WPF.seq (hCS : ∀ b,¬ C.S b) {x y : Code} (h : WPT Fence.wide C x (SeqF C fn res y) st) : WPF C fn res (.seq x y) st:=by
 intro n L a w hs hq
 refine wpIn_seq (wpIn_mono (h n L a w hs) ?_)
 rintro e a' w' ⟨st',L',hs',hA,hd,hq'⟩
 cases e with
 |normal=>exact hq' n L' a' w' hs' (by rw [hd];exact hq)
 |ret=>
  obtain ⟨u,h1,h2⟩:=ret_run hs' hq'
  exact leaves_in (by rw [hd];exact hq) h1 ⟨u,rfl,ext_none hCS hs'.1.ext,h2⟩
 |exit=>exact hq'.elim
 |goto=>exact hq'.elim
 |panic=>exact hq'.elim
 |outgrown=>exact hq'.elim
theorem opIn_wide {n : Nat} {P : Program} {o : Oper} {a : Act} {w : World} {next : Act→World→Prop} {Q : Exit→Act→World→Prop} (h : o.wp P a w next Q) : o.wpIn Fence.wide n P a w next Q:=by
 refine ⟨fun f _=>trivial,?_⟩
 show o.uponIn Fence.wide n P a next Q ((o.semAt none a.eval).run P w)
 rw [Oper.semAt_none]
 unfold Oper.wp at h
 cases hx : (execOp a.eval o).run P w with
 |ok nx w'=>
  rw [hx] at h
  cases nx with
  |value v=>exact h
  |skip=>exact h
  |defer d=>exact h
  |enter f args=>exact ⟨fun hs=>(by cases hs),wide_wide.calls h⟩
  |row r args=>exact ⟨fun hs=>(by cases hs),wide_wide.rows h⟩
  |_=>exact h.elim
 |halt k w'=>
  rw [hx] at h
  cases k with
  |panic v=>exact h
  |_=>exact h.elim
theorem WPF.defer {id : Nat} {ops : Array Oper} {pre : List Oper} {o : Oper} {c : Call} {y : Code} {f : Operand} {g : FuncId} {hn : List Nat} (hops : ops.toList=pre++[o]) (hnd : ∀ o ∈ pre,∀ c,o.op≠.defer c) (ho : o.op=.defer c) (hg0 : o.guard=none) (hd : o.dst=none) (hf : c.callee=.value f) (h0 : c.args.size=0) (hq : QuietIn C.P g)
 (h : evR C.P hn C.N ops (fun st'=>(∃ first caps,st'.ev f=.fn (.func g) first caps)∧WPF C fn res y st') pre st) : WPF C fn res (.seq (.region id ops false) y) st:=by
 intro n L a w hs hqa
 refine wpIn_seq (wpIn_region_list ?_)
 rw [hops]
 refine wpListIn_append _ (evR_soundT wide_wide (ds:=a.defers) ?_ hnd hs (After.refl hs.1) rfl h)
 intro st1 L1 a1 w1 hs1 _ hd1 hq1
 obtain ⟨⟨first,caps,hv⟩,hy⟩:=hq1
 obtain ⟨vs,cs,hval⟩:=fn_inv (by have:=eval_rep hs1.2.2 f;rw [hv] at this;exact this)
 show wpListIn Fence.wide n C.P ops _ [o] a1 w1
 unfold wpListIn
 have hw : Region.wanted o (yielded ops a1.tmps)=true:=by unfold Region.wanted;rw [hg0]
 rw [if_pos hw]
 refine opIn_wide (Oper.wp_defer ho hf h0 hval ?_)
 rw [hd]
 refine hy n L1 _ w1 ⟨hs1.1,hs1.2.1,hs1.2.2⟩ ?_
 intro d hd'
 rcases List.mem_cons.1 hd' with rfl|hd'
 ·exact ⟨g,cs,rfl,hq⟩
 ·rw [hd1] at hd';exact hqa d hd'
theorem WPF.range (hCS : ∀ b,¬ C.S b) {x assign body : Code} {gop : Operand} {p q b0 id : Nat} {ops : Array Oper} {gf : FuncId} {caps : List PV} {xs : List (PV × PV)} (hit : IterC C.P gf caps xs) (hp : p < C.N) (hq : q < C.N)
 {ks : List Nat} {hin : Nat→List PV} {t : Nat→AV}
 (hx : WPT Fence.wide C x (fun e st'=>e=.normal∧st'.ev gop=.pv (.fn (.func gf) [] caps)∧(∀ k ∈ ks,st'.h k=some (.box ((hin k).map .pv) true false))∧∀ m,(∃ k ∈ ks,t m=.ptr k 0∧st'.t m=.ptr k 0)∨t m=.undef) st)
 (I : Nat→Hp→Prop) (h0 : I 0 (handH ks hin)) (hI : ∀ i h k,k ∈ ks→I i h→∃ cs,h k=some (.box cs false false))
 (hround : ∀ (C1 C2 : Cx) (l i : Nat) (x : PV × PV) (h : Hp),C1.P=C.P→C1.N=C.N→C2.P=C.P→C2.N=C.N→xs[i]?=some x→I i h→
   WPT (Fence.wide.inRound l) C1 assign (fun e st'=>e=.normal∧WPT (Fence.wide.inRound l) C2 body (fun e' st''=>e'=.normal∧I (i+1) st''.h) st') ⟨setP t p q x,h⟩)
 (hnd : noDefer ops=true) {hn : List Nat} (htail : ∀ h,I xs.length h→evR C.P hn C.N ops (fun st'=>RetOk C.P fn.results.toList [] (.pv res) st') ops.toList ⟨t,h⟩) :
 WPF C fn res (.seq (.seq x (.block b0 (.rangeFunc gop #[p,q] assign body))) (.seq (.region id ops false) .ret)) st:=by
 intro n L a w hs hqa
 refine wpIn_seq (wpIn_seq (wpIn_mono (hx n L a w hs) ?_))
 rintro e a1 w1 ⟨st1,L1,hs1,hA1,hd1,rfl,hg,hks,htt⟩
 have hgr:=eval_rep hs1.2.2 gop
 rw [hg] at hgr
 obtain ⟨us,hus,hcap⟩ : ∃ us : List Value,a1.eval gop=.func (.func gf) #[] us.toArray∧RepL w1 (Mst C L1 st1.h) caps us:=by
  generalize a1.eval gop=u at hgr
  cases hgr with
  |pv hr=>
   cases hr with
   |fn _ _ _ vs us hl hk h1 h2=>
    have : vs=[]:=List.eq_nil_of_length_eq_zero hl.symm
    subst this
    exact ⟨us,rfl,hk,h2⟩
 have hbx : ∀ k ∈ ks,(∀ o,Mst C L1 st1.h (L1 k).b o)∧BoxRel w1 (Mst C L1 st1.h) (L1 k).b (hin k):=by
  intro k hk
  obtain ⟨arr,ty,e1,e2⟩:=hs1.1.bl k _ (hks k hk)
  exact ⟨fun o=>.inr ⟨k,_,hks k hk,trivial,rfl,by simp [Blk.frz]⟩,arr,ty,e1,e2.map_pv_inv⟩
 refine wpIn_block (wpIn_mono (range_wp (N:=C.N) hus hit (fun b o h=>hs1.1.mlt h) hcap hbx (fun k hk k' hk' hne=>hs1.1.sep k k' _ _ hne (hks k hk) (hks k' hk') trivial trivial) hs1.2.1 hp hq (t:=t) ?_ I h0 hI hround) ?_)
 ·intro m
  rcases htt m with ⟨k,hk,e1,e2⟩|e
  ·have hr:=hs1.2.2 m
   rw [e2] at hr
   generalize hv : a1.tmps.getD m undef=v at hr
   cases hr with
   |ptr _=>exact .inl ⟨k,hk,e1,rfl⟩
  ·exact .inr e
 rintro e a2 w2 ⟨rfl,C2,L2,h2,D,hP2,hN2,hM2,hS2,hm2,hi2,hb2,hx2,hD2,hnS2,hDge,rfl⟩
 show Code.wpIn Fence.wide n C.P _ _ _ w2
 have hs2 : SimL C2 L2 ⟨t,h2⟩ { a1 with defers:={ target:=.collected D,args:=#[] } :: a1.defers } w2:=by
  refine ⟨hm2,by rw [hN2];exact hs1.2.1,fun m=>?_⟩
  show RepA w2 (Mst C2 L2 h2) L2 h2 (t m) (a1.tmps.getD m undef)
  rcases htt m with ⟨k,hk,e1,e2⟩|e
  ·have hr:=hs1.2.2 m
   rw [e2] at hr
   obtain ⟨cs,hc⟩:=hI _ h2 k hk hi2
   have hv : a1.tmps.getD m undef=.pointer (some ⟨(L1 k).b,0,none⟩):=by
    generalize a1.tmps.getD m undef=v at hr
    cases hr with
    |ptr _=>rfl
   rw [e1,hv,← hb2 k hk]
   exact .ptr hc
  ·rw [e];exact .undef _
 refine wpIn_seq (wpIn_region_list ?_)
 have htl:=htail h2 hi2
 rw [← hP2,← hN2] at htl
 rw [hP2] at htl
 have hgo:=fun Q' hQ'=>evR_soundT (C:=C2) (Q:=fun st'=>RetOk C.P fn.results.toList [] (.pv res) st') (Q':=Q') (hn:=hn) (ops:=ops) wide_wide (n:=n) hQ' (fun _ ho=>noDefer_of hnd ho) hs2 (After.refl hs2.1) rfl (by rw [hP2];exact htl)
 rw [hP2] at hgo
 refine hgo _ ?_
 intro st3 L3 a3 w3 hs3 _ hd3 hr3
 refine wpIn_ret ?_
 show LeavesInM Fence.wide n C.P fn a3.tmps (Rres C res) a3.defers .returning w3
 rw [hd3]
 have hDlt : D < C2.w0.heap.size:=(Array.getElem?_eq_some_iff.1 hD2).1
 have hD3 : w3.heap[D]?=some (.deferred (some [])):=(hs3.1.ext.block D hDlt hnS2).trans hD2
 obtain ⟨hm4,hp4⟩:=hs3.1.turn hD2 hnS2 rfl (.deferred none)
 have hs4 : SimL { C2 with w0:=C2.w0.putObj D (.deferred none) } L3 st3 a3 (w3.putObj D (.deferred none)):=⟨hm4,hs3.2.1,fun m=>(hs3.2.2 m).mono hp4 (KC.refl _ _)⟩
 obtain ⟨u,hu1,hu2⟩:=ret_run hs4 (fn:=fn) (res:=res) (by show RetOk C2.P _ _ _ _;rw [hP2];exact hr3)
 have hu1' : (results fn a3.tmps).run C.P (w3.putObj D (.deferred none))=.ok u (w3.putObj D (.deferred none)):=by rw [← hP2];exact hu1
 refine ⟨by simp,.inl ⟨D,_,rfl,run_takeDeferred hD3,leaves_in (by rw [hd1];exact hqa) hu1' ⟨u,rfl,?_,?_⟩⟩⟩
 ·
  have e1 : Ext (fun _=>False) C.w0 w1:=ext_none hCS hs1.1.ext
  have e2 : Ext (fun _=>False) C.w0 C2.w0:=e1.trans hx2 (fun _ _ h=>h)
  have hle:=e1.size
  refine ⟨?_,?_,?_,?_,?_⟩
  ·show w3.os=_;rw [hs3.1.ext.os];exact e2.os
  ·show w3.tape=_;rw [hs3.1.ext.tape];exact e2.tape
  ·show w3.output=_;rw [hs3.1.ext.output];exact e2.output
  ·simp only [World.putObj_size];exact Nat.le_trans e2.size hs3.1.ext.size
  ·intro b hb _
   rw [World.putObj_heap_other (by omega)]
   rw [hs3.1.ext.block b (Nat.lt_of_lt_of_le hb e2.size) ?_]
   ·exact e2.block b hb (fun h=>h)
   ·intro hSb
    obtain ⟨k,hk,rfl⟩:=hS2 b hSb
    have:=hs1.1.own k _ (hks k hk)
    simp only [OwnOk] at this
    omega
 ·refine hu2.mono (Pres.sub ?_)
  intro b o h
  show C2.M0 b o
  rw [hM2];exact .inl h
end
theorem detF_of {P : Program} {f : FuncId} {fn : Func} {c : Code} (hf : P.funcs[f]?=some fn) (hb : fn.body=some c) (hcall : callable P f=true) {args : List PV} {res : PV} (hlen : args.length≤fn.ntmps)
 (h : ∀ C : Cx,C.P=P→C.N=fn.ntmps→(∀ b,¬ C.S b)→WPF C fn res c (st0 (args.map .pv) [])) : DetH P f (args.map .pv) [] [] (.pv res):=by
 refine ⟨hcall,rfl,fun w M bs vs hM hbl hnd hbox hal harg=>?_⟩
 have hbs : bs=[]:=List.eq_nil_of_length_eq_zero hbl
 subst hbs
 let C : Cx:={ P:=P,N:=fn.ntmps,M0:=M,S:=fun _=>False,pb:=fun _=>none,w0:=w }
 have hnone : ∀ k,(st0 (args.map .pv) []).h k=none:=by
  intro k
  simp only [st0,argH]
  split
  ·rfl
  ·simp
 have hal' : args.length=vs.length:=by simpa using hal
 have hs : SimL C (fun _=>default) (st0 (args.map .pv) []) { tmps:=vs.toArray++Array.replicate (fn.ntmps - vs.toArray.size) undef,defers:=[] } w:=by
  refine ⟨⟨Ext.refl _ _,hM,fun k blk hk=>(by rw [hnone] at hk;cases hk),fun k k' b1 b2 _ hk=>(by rw [hnone] at hk;cases hk),fun k blk hk=>(by rw [hnone] at hk;cases hk)⟩,?_,fun n=>?_⟩
  ·show (vs.toArray++Array.replicate (fn.ntmps - vs.toArray.size) undef).size=fn.ntmps
   simp;omega
  ·have hMst : ∀ b o,Mst C (fun _=>default) (st0 (args.map .pv) []).h b o→M b o:=by
    rintro b o (h|⟨k,blk,hk,_⟩)
    ·exact h
    ·rw [hnone] at hk;cases hk
   show RepA w _ _ _ (argT (args.map .pv) n) _
   simp only [argT]
   split
   ·rename_i p hp
    have hlt : n < vs.length:=by rw [← hal];exact (List.getElem?_eq_some_iff.1 hp).1
    have hv:=harg n (.pv p) vs[n] hp (List.getElem?_eq_getElem hlt)
    have hget : (vs.toArray++Array.replicate (fn.ntmps - vs.toArray.size) undef).getD n undef=vs[n]:=by
     rw [Array.getD_eq_getD_getElem?,Array.getElem?_append_left (by simpa using hlt)];simp [hlt]
    simp only [hget]
    have hv' : Rep w M p vs[n]:=hv
    exact .pv (hv'.mono (Pres.sub hMst))
   ·rename_i j hp
    rw [List.getElem?_map] at hp
    cases hq : args[n]? with
    |none=>rw [hq] at hp;cases hp
    |some x=>rw [hq] at hp;cases hp
   ·exact .undef _
 refine (callsIn_wide (n:=0)).1 ((callsIn_of_wp_marks hf hb trivial (h C rfl rfl (fun _ h=>h) 0 _ _ w hs (fun d hd=>(by simp at hd))) rfl).mono ?_)
 rintro e w' ⟨v,rfl,hx,hr⟩
 exact ⟨v,rfl,⟨hx.os,hx.tape,hx.output,hx.size,fun b hb _=>hx.block b hb (fun h=>h)⟩,fun i b ps hb=>(by simp at hb),hr⟩
end Go.Ab
namespace Go.Ab
@[simp] theorem thenT_normal {F : Fence} {C : Cx} {y : Code} {Q : Exit→St→Prop} {st : St} : ThenT F C y Q .normal st=WPT F C y Q st:=rfl
@[simp] theorem thenT_ret {F : Fence} {C : Cx} {y : Code} {Q : Exit→St→Prop} {st : St} : ThenT F C y Q .ret st=Q .ret st:=rfl
@[simp] theorem thenT_exit {F : Fence} {C : Cx} {y : Code} {Q : Exit→St→Prop} {st : St} {i : Nat} : ThenT F C y Q (.exit i) st=Q (.exit i) st:=rfl
@[simp] theorem seqF_normal {C : Cx} {fn : Func} {res : PV} {y : Code} {st : St} : SeqF C fn res y .normal st=WPF C fn res y st:=rfl
@[simp] theorem seqF_ret {C : Cx} {fn : Func} {res : PV} {y : Code} {st : St} : SeqF C fn res y .ret st=RetOk C.P fn.results.toList [] (.pv res) st:=rfl
section
variable {F : Fence} {C : Cx} {x y : Code} {Q : Exit→St→Prop} {st : St} {c : Operand}
def xCondT (F : Fence) (C : Cx) (x y : Code) (Q : Exit→St→Prop) (st : St) : AV→Prop
 |.pv (.val (.bool b))=>(b=true→WPT F C x Q st)∧(b=false→WPT F C y Q st)
 |_=>False
@[simp] theorem xCondT_true : xCondT F C x y Q st (.pv (.val (.bool true)))=WPT F C x Q st:=by simp [xCondT]
@[simp] theorem xCondT_false : xCondT F C x y Q st (.pv (.val (.bool false)))=WPT F C y Q st:=by simp [xCondT]
theorem xCondT_split {b : Bool} (h1 : b=true→WPT F C x Q st) (h2 : b=false→WPT F C y Q st) : xCondT F C x y Q st (.pv (.val (.bool b))):=⟨h1,h2⟩
theorem WPT.cond' (h : xCondT F C x y Q st (st.ev c)) : WPT F C (.cond c x y) Q st:=by
 cases hv : st.ev c with
 |pv p=>cases p with
  |val v=>cases v with
   |bool b=>rw [hv] at h;exact WPT.cond hv h.1 h.2
   |_=>rw [hv] at h;exact h.elim
  |_=>rw [hv] at h;exact h.elim
 |_=>rw [hv] at h;exact h.elim
end
def Hold (N : Nat) (M : Nat→Nat→Prop) (t : Nat→AV) (a : Act) (w : World) : Prop:=a.tmps.size=N∧∀ m,t m=.undef∨∃ p,t m=.pv p∧Rep w M p (a.tmps.getD m undef)
theorem Hold.sim {P : Program} {N : Nat} {M : Nat→Nat→Prop} {t : Nat→AV} {a : Act} {w : World} (h : Hold N M t a w) (hM : ∀ b o,M b o→b < w.heap.size) : SimL { P:=P,N:=N,M0:=M,S:=fun _=>False,pb:=fun _=>none,w0:=w } (fun _=>default) ⟨t,fun _=>none⟩ a w:=by
 refine ⟨⟨Ext.refl _ _,hM,fun k blk hk=>(by cases hk),fun k k' b1 b2 _ hk=>(by cases hk),fun k blk hk=>(by cases hk)⟩,h.1,fun m=>?_⟩
 rcases h.2 m with e|⟨p,e,hr⟩
 ·show RepA w _ _ _ (t m) _
  rw [e];exact .undef _
 ·show RepA w _ _ _ (t m) _
  rw [e]
  refine .pv (hr.mono (Pres.sub ?_))
  rintro b o (h|⟨k,blk,hk,_⟩)
  ·exact h
  ·cases hk
def pvO (t : Nat→AV) : Nat→AV:=fun m=>match t m with
 |.pv p=>.pv p
 |_=>.undef
theorem hold_of {C : Cx} {L : Nat→Loc} {st : St} {a : Act} {w : World} (hs : SimL C L st a w) : Hold C.N C.M0 (pvO st.t) a w:=by
 refine ⟨hs.2.1,fun m=>?_⟩
 have:=hs.2.2 m
 unfold pvO
 generalize st.t m=v at this
 cases v with
 |pv p=>
  cases this with
  |pv hr=>exact .inr ⟨p,rfl,hr.mono (Pres.sub fun b o h=>.inl h)⟩
 |_=>exact .inl rfl
theorem Hold.sub {N : Nat} {M : Nat→Nat→Prop} {t t' : Nat→AV} {a : Act} {w : World} (h : Hold N M t a w) (ht : ∀ m,t' m=.undef∨t' m=t m) : Hold N M t' a w:=by
 refine ⟨h.1,fun m=>?_⟩
 rcases ht m with e|e
 ·exact .inl e
 ·rw [e];exact h.2 m
theorem Hold.mono {N : Nat} {M M' : Nat→Nat→Prop} {t : Nat→AV} {a : Act} {w w' : World} (h : Hold N M t a w) (hp : Pres w M w' M') : Hold N M' t a w':=
 ⟨h.1,fun m=>(h.2 m).imp id fun ⟨p,e,hr⟩=>⟨p,e,hr.mono hp⟩⟩
theorem Hold.step {P : Program} {N n : Nat} {M : Nat→Nat→Prop} {t : Nat→AV} {a : Act} {w : World} {c : Code} {Q : Exit→St→Prop} (h : Hold N M t a w) (hM : ∀ b o,M b o→b < w.heap.size)
 (hc : ∀ C : Cx,C.P=P→C.N=N→WPT Fence.wide C c Q ⟨t,fun _=>none⟩) : c.wpIn Fence.wide n P (fun e a' w'=>∃ st',Q e st'∧Hold N M (pvO st'.t) a' w'∧Ext (fun _=>False) w w'∧a'.defers=a.defers) a w:=
 wpIn_mono (hc { P:=P,N:=N,M0:=M,S:=fun _=>False,pb:=fun _=>none,w0:=w } rfl rfl n _ a w (h.sim hM)) fun _ _ _ ⟨st',_,hs',_,hd,hq⟩=>⟨st',hq,hold_of hs',hs'.1.ext,hd⟩
theorem Hold.list {P : Program} {N n : Nat} {M : Nat→Nat→Prop} {t : Nat→AV} {a : Act} {w : World} {hn : List Nat} {ops : Array Oper} {l : List Oper} {Q : St→Prop} {Q' : Exit→Act→World→Prop} (h : Hold N M t a w) (hM : ∀ b o,M b o→b < w.heap.size) (hnd : ∀ o ∈ l,∀ c,o.op≠.defer c)
 (hc : evR P hn N ops Q l ⟨t,fun _=>none⟩) (hQ : ∀ st' a' w',Q st'→Hold N M (pvO st'.t) a' w'→Ext (fun _=>False) w w'→a'.defers=a.defers→Q' .normal a' w') : wpListIn Fence.wide n P ops Q' l a w:=
 evR_soundT (C:={ P:=P,N:=N,M0:=M,S:=fun _=>False,pb:=fun _=>none,w0:=w }) wide_wide (fun st' L' a' w' hs' _ hd hq=>hQ st' a' w' hq (hold_of hs') hs'.1.ext hd) hnd (h.sim hM) (After.refl (h.sim (P:=P) hM).1) rfl hc
end Go.Ab
namespace Go.Ab
def IterS (P : Program) (gf : FuncId) (caps : List PV) (xs : List PV) : Prop:=
 callable P gf=true∧∀ (n l : Nat) (lb : List Value) (W : World) (M : Nat→Nat→Prop) (J Jx : Nat→(Nat→Nat→Prop)→World→Prop),
  (∀ i M W,J i M W→∀ b o,M b o→b < W.heap.size)→(∀ i M W W',J i M W→Ext (fun _=>False) W W'→J i M W')→
  (∀ i M W,Jx i M W→∀ b o,M b o→b < W.heap.size)→(∀ i M W W',Jx i M W→Ext (fun _=>False) W W'→Jx i M W')→
  (∀ m i x M W v1,xs[i]?=some x→J i M W→Rep W M x v1→YieldAt Fence.wide m P l #[v1] W fun e W'=>∃ (b : Bool) (M' : Nat→Nat→Prop),e=.returned (.bool b)∧(if b=true then J (i+1) M' W' else Jx i M' W')∧Pres W M W' M')→
  J 0 M W→RepL W M caps lb→CallsIn Fence.wide n P gf (#[.func (.yield l) #[] #[]]++lb.toArray) W fun e W'=>(∃ v,e=.returned v)∧((∃ M',J xs.length M' W')∨∃ i M',i < xs.length∧Jx i M' W')
def setP1 (t : Nat→AV) (p : Nat) (x : PV) : Nat→AV:=upd t p (.pv x)
theorem MemL.kill {C : Cx} {L : Nat→Loc} {st : St} {w : World} (ks : List Nat) (hm : MemL C L st.h w) : MemL C L (st.kill ks).h w∧∀ b o,Mst C L (st.kill ks).h b o→Mst C L st.h b o:=by
 have hkey : ∀ k blk',(st.kill ks).h k=some blk'→∃ blk,st.h k=some blk∧killB ks blk=blk'∧blk'.live (L k)=blk.live (L k)∧∀ o,blk'.frz o=blk.frz o:=by
  intro k blk' hk
  simp only [St.kill] at hk
  split at hk
  ·cases hk
  ·simp only [Option.map_eq_some_iff] at hk
   obtain ⟨blk,h1,rfl⟩:=hk
   exact ⟨blk,h1,rfl,by cases blk<;>rfl,fun o=>by cases blk<;>rfl⟩
 have hM : ∀ b o,Mst C L (st.kill ks).h b o→Mst C L st.h b o:=by
  rintro b o (h0|⟨k,blk',hk,hl,hb,hf⟩)
  ·exact .inl h0
  ·obtain ⟨blk,h1,_,h2,h3⟩:=hkey k blk' hk
   exact .inr ⟨k,blk,h1,h2 ▸ hl,hb,h3 o ▸ hf⟩
 have hp : Pres w (Mst C L st.h) w (Mst C L (st.kill ks).h):=Pres.sub hM
 refine ⟨⟨hm.ext,hm.m0,?_,?_,?_⟩,hM⟩
 ·intro k blk' hk
  obtain ⟨blk,h1,rfl,_,_⟩:=hkey k blk' hk
  have:=hm.bl k blk h1
  cases blk with
  |box cs own fz=>
   obtain ⟨arr,ty,e1,e2⟩:=this
   refine ⟨arr,ty,e1,by simpa using e2.1,fun i p u hp' hu=>?_⟩
   simp only [List.getElem?_map,Option.map_eq_some_iff] at hp'
   obtain ⟨q,hq,rfl⟩:=hp'
   exact killA_rep hp (e2.2 i q u hq hu)
  |row e sz xs fz=>
   obtain ⟨a1,a2,a3,a4,a5⟩:=this
   refine ⟨a1,a2,a3,a4,fun hn=>?_⟩
   obtain ⟨b1,b2,arr,b3,b4,b5⟩:=a5 hn
   exact ⟨b1,b2,arr,b3,b4,fun i x j p hx hj=>by obtain ⟨u,hu,hr⟩:=b5 i x j p hx hj;exact ⟨u,hu,hr.mono hp⟩⟩
 ·intro k k' b1 b2 hne hk hk' hl hl'
  obtain ⟨c1,d1,_,e1,_⟩:=hkey k b1 hk
  obtain ⟨c2,d2,_,e2,_⟩:=hkey k' b2 hk'
  exact hm.sep k k' c1 c2 hne d1 d2 (e1 ▸ hl) (e2 ▸ hl')
 ·intro k blk' hk
  obtain ⟨blk,h1,rfl,_,_⟩:=hkey k blk' hk
  have:=hm.own k blk h1
  cases blk with
  |box cs own fz=>cases own<;>exact this
  |row=>exact this
def RoundQ (kd : List Nat) (I : Nat→Hp→Prop) (Ix : Nat→Hp→Prop) (i : Nat) : Exit→St→Prop
 |.normal,st=>I (i+1) (st.kill kd).h
 |.ret,st=>Ix i st.h
 |_,_=>False
theorem rangeS_wp {kd : List Nat} {P : Program} {N : Nat} {gop : Operand} {p : Nat} {assign body : Code} {a : Act} {w : World} {n : Nat} {gf : FuncId} {lb : List Value} (hg : a.eval gop=.func (.func gf) #[] lb.toArray)
 {caps : List PV} {xs : List PV} (hit : IterS P gf caps xs) {M : Nat→Nat→Prop} (hM : ∀ b o,M b o→b < w.heap.size) (hcap : RepL w M caps lb)
 {ks : List Nat} {bs : Nat→Nat} {hin : Nat→List PV} (hbs : ∀ k ∈ ks,(∀ o,M (bs k) o)∧BoxRel w M (bs k) (hin k)) (hinj : ∀ k ∈ ks,∀ k' ∈ ks,k≠k'→bs k≠bs k')
 (hN : a.tmps.size=N) (hp : p < N) {t : Nat→AV} (ht : ∀ m,(∃ k ∈ ks,t m=.ptr k 0∧a.tmps.getD m undef=.pointer (some ⟨bs k,0,none⟩))∨(∃ q,t m=.pv q∧Rep w M q (a.tmps.getD m undef))∨t m=.undef)
 (I Ix : Nat→Hp→Prop) (h0 : I 0 (handH ks hin)) (hI : ∀ i h k,k ∈ ks→I i h→∃ cs,h k=some (.box cs false false)) (hIx : ∀ i h k,k ∈ ks→Ix i h→∃ cs,h k=some (.box cs false false))
 (hround : ∀ (C C' : Cx) (l i : Nat) (x : PV) (h : Hp),C.P=P→C.N=N→C'.P=P→C'.N=N→xs[i]?=some x→I i h→
   WPT (Fence.wide.inRound l) C assign (fun e st'=>e=.normal∧WPT (Fence.wide.inRound l) C' body (RoundQ kd I Ix i) st') ⟨setP1 t p x,h⟩) :
 (Code.rangeFunc gop #[p] assign body).wpIn Fence.wide n P (fun e a' w'=>∃ (C : Cx) (L : Nat→Loc) (h : Hp) (D : Nat),((e=.normal∧I xs.length h)∨(e=.ret∧∃ i,i < xs.length∧Ix i h))∧C.P=P∧C.N=N∧C.M0=M∧(∀ b,C.S b→∃ k ∈ ks,b=bs k)∧
   MemL C L h w'∧(∀ k ∈ ks,(L k).b=bs k)∧(∀ q v,Rep w M q v→Rep w' (Mst C L h) q v)∧Ext (fun _=>False) w C.w0∧C.w0.heap[D]?=some (.deferred (some []))∧¬ C.S D∧w.heap.size≤D∧a'={ a with defers:={ target:=.collected D,args:=#[] } :: a.defers }) a w:=by
 refine wpIn_rangeFunc ?_
 intro fn _
 obtain ⟨rec,hrec⟩ : ∃ rec : LoopState→Option Code→Loop,rec=fun st pe=>{ state:=st,pending:=pe,fn,tmps:=a.tmps,params:=#[p],assign,body,defers:=w.heap.size }:=⟨_,rfl⟩
 obtain ⟨W1,hW1⟩ : ∃ W1,(w.alloc (.deferred (some []))).alloc (.loop (rec .ready none))=W1:=⟨_,rfl⟩
 have hx1 : Ext (fun _=>False) w W1:=by rw [← hW1];exact (Ext.alloc _ _ _).trans (Ext.alloc _ _ _) (fun _ _ h=>h)
 have hs1 : W1.heap.size=w.heap.size+2:=by rw [← hW1];simp
 have hL1 : W1.heap[w.heap.size+1]?=some (.loop (rec .ready none)):=by
  rw [← hW1];have:=World.alloc_heap_new (w.alloc (.deferred (some []))) (.loop (rec .ready none));rwa [World.size_alloc] at this
 have hD1 : W1.heap[w.heap.size]?=some (.deferred (some [])):=by
  rw [← hW1];exact (RowKit.Below.heap_alloc _ _ _ (by simp)).trans (World.alloc_heap_new w _)
 obtain ⟨l,hl⟩ : ∃ l,l=w.heap.size+1:=⟨_,rfl⟩
 rw [← hl] at hL1
 obtain ⟨cx,hcx⟩ : ∃ cx : Obj→Cx,cx=fun o=>{ P:=P,N:=N,M0:=M,S:=fun b=>∃ k ∈ ks,b=bs k,pb:=fun k=>if ks.contains k=true then some (bs k) else none,w0:=W1.putObj l o }:=⟨_,rfl⟩
 have hS : ∀ o b,(cx o).S b→b < w.heap.size:=by
  intro o b hb
  rw [hcx] at hb
  obtain ⟨k,hk,rfl⟩:=hb
  exact boxRel_lt (hbs k hk).2
 have hw0 : ∀ o,(cx o).w0=W1.putObj l o:=fun o=>by rw [hcx]
 have hMst : ∀ o o' L h,Mst (cx o) L h=Mst (cx o') L h:=fun o o' L h=>by rw [hcx];rfl
 have hat : ∀ (o : Obj),(cx o).w0.heap[l]?=some o:=fun o=>by rw [hw0];exact World.putObj_heap_same (Array.getElem?_eq_some_iff.1 hL1).1
 have hnS : ∀ o,¬ (cx o).S l:=fun o h=>by have:=hS o l h;omega
 have hturn : ∀ {o o' : Obj} {L : Nat→Loc} {h : Hp} {W : World},o.isCells=false→MemL (cx o) L h W→W.heap[l]?=some o∧MemL (cx o') L h (W.putObj l o')∧Pres W (Mst (cx o) L h) (W.putObj l o') (Mst (cx o') L h):=by
  intro o o' L h W ho hm
  have hlt : l < (cx o).w0.heap.size:=(Array.getElem?_eq_some_iff.1 (hat o)).1
  obtain ⟨h1,h2⟩:=hm.turn (hat o) (hnS o) ho o'
  refine ⟨(hm.ext.block l hlt (hnS o)).trans (hat o),?_,?_⟩
  ·have e : ({ cx o with w0:=(cx o).w0.putObj l o' } : Cx)=cx o':=by rw [hcx];simp only [putObj_putObj]
   rw [e] at h1;exact h1
  ·rw [hMst o' o];exact h2
 have hready : W1.putObj l (.loop (rec .ready none))=W1:=putObj_self hL1
 have hown : ∀ {K : Nat→Hp→Prop} {o : Obj} {L : Nat→Loc} {h : Hp} {W : World} {i k : Nat},(∀ i h k,k ∈ ks→K i h→∃ cs,h k=some (.box cs false false))→k ∈ ks→K i h→MemL (cx o) L h W→(L k).b=bs k:=by
  intro K o L h W i k hK hk hi hm
  obtain ⟨cs,hc⟩:=hK i h k hk hi
  have:=(hm.own k _ hc).2.1
  rw [hcx] at this
  have hc' : ks.contains k=true:=by simpa using hk
  simp only [hc',if_true,Option.some.injEq] at this
  exact this.symm
 let L0 : Nat→Loc:=fun k=>⟨bs k,0,false⟩
 have hkey : ∀ k blk,handH ks hin k=some blk→k ∈ ks∧blk=.box ((hin k).map .pv) false false:=by
  intro k blk hk
  unfold handH at hk
  split at hk
  ·rename_i hc;injection hk with hk;exact ⟨by simpa using hc,hk.symm⟩
  ·cases hk
 have hM1 : ∀ o b o',Mst (cx o) L0 (handH ks hin) b o'→M b o':=by
  rintro o b o' (hb|⟨k,blk,hk,_,hb,_⟩)
  ·rw [hcx] at hb;exact hb
  ·obtain ⟨hks,_⟩:=hkey k blk hk
   rw [← hb];exact (hbs k hks).1 o'
 have hpres1 : Pres w M W1 (Mst (cx (.loop (rec .ready none))) L0 (handH ks hin)):=fun b o v hv hn=>⟨(hx1.cell (cell_lt hv) (fun h=>h)).trans hv,fun h=>hn (hM1 _ b o h)⟩
 have hm0 : MemL (cx (.loop (rec .ready none))) L0 (handH ks hin) W1:=by
  refine ⟨by rw [hw0,hready];exact Ext.refl _ _,?_,?_,?_,?_⟩
  ·intro b o hb
   rw [hw0,hready]
   rw [hcx] at hb
   have:=hM b o hb
   omega
  ·intro k blk hk
   obtain ⟨hks,rfl⟩:=hkey k blk hk
   obtain ⟨arr,ty,e1,e2⟩:=(hbs k hks).2
   exact ⟨arr,ty,(hx1.block _ (boxRel_lt (hbs k hks).2) (fun h=>h)).trans e1,RepAL.map_pv (e2.mono hpres1)⟩
  ·intro k k' b1 b2 hne hk hk' _ _
   exact hinj k (hkey k b1 hk).1 k' (hkey k' b2 hk').1 hne
  ·intro k blk hk
   obtain ⟨hks,rfl⟩:=hkey k blk hk
   have hc' : ks.contains k=true:=by simpa using hks
   refine ⟨rfl,?_,?_,?_,?_⟩
   ·rw [hcx];simp only [hc',if_true];rfl
   ·rw [hcx];exact ⟨k,hks,rfl⟩
   ·rw [hw0,hready];have:=boxRel_lt (hbs k hks).2;show bs k < _;omega
   ·intro o;rw [hcx];exact (hbs k hks).1 o
 let Jt : (Nat→Hp→Prop)→Obj→Nat→(Nat→Nat→Prop)→World→Prop:=fun K o i M' W=>∃ L h,K i h∧MemL (cx o) L h W∧M'=Mst (cx o) L h∧(∀ q v,Rep w M q v→Rep W M' q v)
 refine ⟨l,[{ target:=.collected w.heap.size,args:=#[] }],W1,{ target:=.fn (.func gf) lb.toArray,args:=#[.func (.yield l) #[] #[]] },W1,gf,#[.func (.yield l) #[] #[]]++lb.toArray,W1,?_,?_,fun _ _=>trivial,invoke_fn hit.1 _ _ _,fun h=>(by cases h),?_⟩
 ·rw [← hW1,hrec,hl];exact run_enterLoop_outer _ _ _ _ _
 ·simp only [resolve,hg]
  simp [go_sem]
 ·have hbd : ∀ K o i M' W,Jt K o i M' W→∀ b o',M' b o'→b < W.heap.size:=by
   rintro K o i M' W ⟨L,h,_,hm,rfl,_⟩ b o' hb
   exact hm.mlt hb
  have hgr : ∀ K o i M' W W',Jt K o i M' W→Ext (fun _=>False) W W'→Jt K o i M' W':=by
   rintro K o i M' W W' ⟨L,h,hi,hm,rfl,hq⟩ hx
   exact ⟨L,h,hi,(hm.grow hx).1,rfl,fun q v hr=>(hq q v hr).mono (hm.grow hx).2⟩
  refine (hit.2 (n - 1) l lb W1 _ (Jt I (.loop (rec .ready none))) (Jt Ix (.loop (rec .done (some .ret)))) (hbd _ _) (hgr _ _) (hbd _ _) (hgr _ _) ?_ ⟨L0,_,h0,hm0,rfl,fun q v hr=>hr.mono hpres1⟩ (hcap.mono hpres1)).mono ?_
  ·
   rintro m i x M' W v1 hxi ⟨L,h,hi,hm,rfl,hq⟩ hr1
   obtain ⟨hlW,_,_⟩:=hturn (o':=.loop (rec .ready none)) rfl hm
   have hy:=run_yield (P:=P) (args:=#[v1]) hlW (by rw [hrec];rfl)
   rw [hrec] at hy
   refine ⟨fn,a.tmps.setIfInBounds p v1,assign,body,by simpa using hy,roundIn_of_wpIn trivial ?_⟩
   have hsim : SimL (cx (.loop (rec .ready none))) L ⟨setP1 t p x,h⟩ { tmps:=a.tmps.setIfInBounds p v1,defers:=[] } W:=by
    refine ⟨hm,by rw [hcx];simpa using hN,fun k=>?_⟩
    have hp' : p < a.tmps.size:=by rw [hN];exact hp
    simp only [getD_set hp',setP1,upd]
    split
    ·exact .pv hr1
    ·rcases ht k with ⟨k',hk',e1,e2⟩|⟨q,e1,e2⟩|e1
     ·obtain ⟨cs,hc⟩:=hI i h k' hk' hi
      rw [e1,e2,← hown hI hk' hi hm]
      exact .ptr hc
     ·rw [e1];exact .pv (hq q _ e2)
     ·rw [e1];exact .undef _
   have hP1 : (cx (.loop (rec .ready none))).P=P:=by rw [hcx]
   have hP2 : (cx (.loop (rec .busy none))).P=P:=by rw [hcx]
   have hR:=hround (cx (.loop (rec .ready none))) (cx (.loop (rec .busy none))) l i x h hP1 (by rw [hcx]) hP2 (by rw [hcx]) hxi hi m L _ W hsim
   rw [hP1] at hR
   refine wpIn_mono hR ?_
   rintro e a1 w1 ⟨st1,L1,hs1',hA1,_,rfl,hbody⟩
   obtain ⟨hl1,hmb,hpb⟩:=hturn (o':=.loop (rec .busy none)) rfl hs1'.1
   refine ⟨w1.putObj l (.loop (rec .busy none)),?_,?_⟩
   ·have:=run_beginRound (P:=P) hl1 (by rw [hrec])
    rw [hrec] at this ⊢;exact this
   have hsb : SimL (cx (.loop (rec .busy none))) L1 st1 a1 (w1.putObj l (.loop (rec .busy none))):=⟨hmb,by have:=hs1'.2.1;rw [hcx] at this ⊢;exact this,fun k=>(hs1'.2.2 k).mono hpb (KC.refl _ _)⟩
   have hB:=hbody m L1 a1 _ hsb
   rw [hP2] at hB
   refine wpIn_mono hB ?_
   rintro e2 a2 w2 ⟨st2,L2,hs2,hA2,_,hq2⟩
   cases e2 with
   |normal=>
    obtain ⟨hl2,hmr,hpr⟩:=hturn (o':=.loop (rec .ready none)) rfl hs2.1
    have e : (Obj.loop { rec .busy none with state:=if (none : Option Code).isNone=true then .ready else .done,pending:=none })=.loop (rec .ready none):=by rw [hrec];rfl
    have hpres : Pres W (Mst (cx (.loop (rec .ready none))) L h) (w2.putObj l (.loop (rec .ready none))) (Mst (cx (.loop (rec .ready none))) L2 st2.h):=((hA1.2.1.trans hpb).trans hA2.2.1).trans hpr
    obtain ⟨hmk,hMk⟩:=hmr.kill kd
    have hpres:=hpres.trans (Pres.sub hMk)
    refine ⟨_,_,run_endRound none hl2,true,Mst (cx (.loop (rec .ready none))) L2 (st2.kill kd).h,rfl,?_,?_⟩
    ·rw [if_pos rfl,e]
     exact ⟨L2,(st2.kill kd).h,hq2,hmk,rfl,fun q v hr=>(hq q v hr).mono hpres⟩
    ·rw [e];exact hpres
   |ret=>
    obtain ⟨hl2,hmr,hpr⟩:=hturn (o':=.loop (rec .done (some .ret))) rfl hs2.1
    have e : (Obj.loop { rec .busy none with state:=if (some Code.ret).isNone=true then .ready else .done,pending:=some .ret })=.loop (rec .done (some .ret)):=by rw [hrec];rfl
    have hpres : Pres W (Mst (cx (.loop (rec .ready none))) L h) (w2.putObj l (.loop (rec .done (some .ret)))) (Mst (cx (.loop (rec .done (some .ret)))) L2 st2.h):=((hA1.2.1.trans hpb).trans hA2.2.1).trans hpr
    refine ⟨_,_,run_endRound (some .ret) hl2,false,Mst (cx (.loop (rec .done (some .ret)))) L2 st2.h,rfl,?_,?_⟩
    ·rw [if_neg (by simp),e]
     exact ⟨L2,st2.h,hq2,hmr,rfl,fun q v hr=>(hq q v hr).mono hpres⟩
    ·rw [e];exact hpres
   |exit=>exact hq2.elim
   |goto=>exact hq2.elim
   |panic=>exact hq2.elim
   |outgrown=>exact hq2.elim
  ·
   have hend : ∀ (K : Nat→Hp→Prop) (o : Obj) (st : LoopState) (pe : Option Code) (i : Nat) (M' : Nat→Nat→Prop) (W2 : World),o=.loop (rec st pe)→(∀ i h k,k ∈ ks→K i h→∃ cs,h k=some (.box cs false false))→Jt K o i M' W2→
    W2.heap[l]?=some o∧∃ (C : Cx) (L : Nat→Loc) (h : Hp) (D : Nat),K i h∧C.P=P∧C.N=N∧C.M0=M∧(∀ b,C.S b→∃ k ∈ ks,b=bs k)∧
     MemL C L h (W2.putObj l (.loop (rec .exhausted pe)))∧(∀ k ∈ ks,(L k).b=bs k)∧(∀ q v,Rep w M q v→Rep (W2.putObj l (.loop (rec .exhausted pe))) (Mst C L h) q v)∧Ext (fun _=>False) w C.w0∧C.w0.heap[D]?=some (.deferred (some []))∧¬ C.S D∧w.heap.size≤D∧D=w.heap.size:=by
    rintro K o st pe i M' W2 rfl hK ⟨L,h,hi,hm,rfl,hq⟩
    obtain ⟨hl2,hme,hpe⟩:=hturn (o':=.loop (rec .exhausted pe)) rfl hm
    refine ⟨hl2,cx (.loop (rec .exhausted pe)),L,h,w.heap.size,hi,by rw [hcx],by rw [hcx],by rw [hcx],?_,hme,fun k hk=>hown hK hk hi hm,fun q v hr=>(hq q v hr).mono hpe,?_,?_,?_,Nat.le_refl _,rfl⟩
    ·intro b hb
     rw [hcx] at hb;exact hb
    ·rw [hw0]
     refine ⟨hx1.os,hx1.tape,hx1.output,by simp;omega,fun b hb _=>?_⟩
     rw [World.putObj_heap_other (by omega)]
     exact hx1.block b hb (fun h=>h)
    ·rw [hw0,World.putObj_heap_other (by omega)];exact hD1
    ·intro hb
     have:=hS _ _ hb
     omega
   rintro e W2 ⟨⟨v,rfl⟩,⟨M',hj⟩|⟨i,M',hi,hj⟩⟩
   ·obtain ⟨hl2,C,L,h,D,a1,a2,a3,a4,a5,a6,a7,a7',a8,a9,a10,a11,rfl⟩:=hend I _ _ _ _ _ _ rfl hI hj
    refine ⟨none,W2.putObj l (.loop (rec .exhausted none)),?_,C,L,h,_,.inl ⟨rfl,a1⟩,a2,a3,a4,a5,a6,a7,a7',a8,a9,a10,a11,rfl⟩
    have:=run_endLoop (P:=P) hl2 (by rw [hrec];simp)
    rw [hrec] at this ⊢;exact this
   ·obtain ⟨hl2,C,L,h,D,a1,a2,a3,a4,a5,a6,a7,a7',a8,a9,a10,a11,rfl⟩:=hend Ix _ _ _ _ _ _ rfl hIx hj
    refine ⟨some .ret,W2.putObj l (.loop (rec .exhausted (some .ret))),?_,wpIn_ret ⟨C,L,h,_,.inr ⟨rfl,i,hi,a1⟩,a2,a3,a4,a5,a6,a7,a7',a8,a9,a10,a11,rfl⟩⟩
    have:=run_endLoop (P:=P) hl2 (by rw [hrec];simp)
    rw [hrec] at this ⊢;exact this
theorem leave_range {C C2 : Cx} {fn : Func} {res : PV} {st1 st3 : St} {a1 a3 : Act} {w1 w3 : World} {L1 L3 : Nat→Loc} {n D : Nat} {ks : List Nat} {bs : Nat→Nat} {hin : Nat→List PV} (hCS : ∀ b,¬ C.S b) (hs1 : SimL C L1 st1 a1 w1) (hks : ∀ k ∈ ks,st1.h k=some (.box ((hin k).map .pv) true false)) (hbs : ∀ k ∈ ks,bs k=(L1 k).b)
 (hqa : QuietA C.P a1.defers) (hP2 : C2.P=C.P) (hM2 : C2.M0=Mst C L1 st1.h) (hS2 : ∀ b,C2.S b→∃ k ∈ ks,b=bs k) (hx2 : Ext (fun _=>False) w1 C2.w0) (hD2 : C2.w0.heap[D]?=some (.deferred (some []))) (hnS2 : ¬ C2.S D) (hDge : w1.heap.size≤D)
 (hs3 : SimL C2 L3 st3 a3 w3) (hd3 : a3.defers={ target:=.collected D,args:=#[] } :: a1.defers) (hr3 : RetOk C.P fn.results.toList [] (.pv res) st3) : LeavesInM Fence.wide n C.P fn a3.tmps (Rres C res) a3.defers .returning w3:=by
 rw [hd3]
 have hDlt : D < C2.w0.heap.size:=(Array.getElem?_eq_some_iff.1 hD2).1
 have hD3 : w3.heap[D]?=some (.deferred (some [])):=(hs3.1.ext.block D hDlt hnS2).trans hD2
 obtain ⟨hm4,hp4⟩:=hs3.1.turn hD2 hnS2 rfl (.deferred none)
 have hs4 : SimL { C2 with w0:=C2.w0.putObj D (.deferred none) } L3 st3 a3 (w3.putObj D (.deferred none)):=⟨hm4,hs3.2.1,fun m=>(hs3.2.2 m).mono hp4 (KC.refl _ _)⟩
 obtain ⟨u,hu1,hu2⟩:=ret_run hs4 (fn:=fn) (res:=res) (by show RetOk C2.P _ _ _ _;rw [hP2];exact hr3)
 have hu1' : (results fn a3.tmps).run C.P (w3.putObj D (.deferred none))=.ok u (w3.putObj D (.deferred none)):=by rw [← hP2];exact hu1
 refine ⟨by simp,.inl ⟨D,_,rfl,run_takeDeferred hD3,leaves_in hqa hu1' ⟨u,rfl,?_,?_⟩⟩⟩
 ·have e1 : Ext (fun _=>False) C.w0 w1:=ext_none hCS hs1.1.ext
  have e2 : Ext (fun _=>False) C.w0 C2.w0:=e1.trans hx2 (fun _ _ h=>h)
  have hle:=e1.size
  refine ⟨?_,?_,?_,?_,?_⟩
  ·show w3.os=_;rw [hs3.1.ext.os];exact e2.os
  ·show w3.tape=_;rw [hs3.1.ext.tape];exact e2.tape
  ·show w3.output=_;rw [hs3.1.ext.output];exact e2.output
  ·simp only [World.putObj_size];exact Nat.le_trans e2.size hs3.1.ext.size
  ·intro b hb _
   rw [World.putObj_heap_other (by omega)]
   rw [hs3.1.ext.block b (Nat.lt_of_lt_of_le hb e2.size) ?_]
   ·exact e2.block b hb (fun h=>h)
   ·intro hSb
    obtain ⟨k,hk,rfl⟩:=hS2 b hSb
    rw [hbs k hk] at hb
    have:=hs1.1.own k _ (hks k hk)
    simp only [OwnOk] at this
    omega
 ·refine hu2.mono (Pres.sub ?_)
  intro b o h
  show C2.M0 b o
  rw [hM2];exact .inl h
theorem WPF.rangeS {kd : List Nat} {C : Cx} {fn : Func} {res : PV} {st : St} (hCS : ∀ b,¬ C.S b) {x assign body : Code} {gop : Operand} {p b0 id : Nat} {ops : Array Oper} {gf : FuncId} {caps : List PV} {xs : List PV} (hit : IterS C.P gf caps xs) (hp : p < C.N)
 {ks : List Nat} {hin : Nat→List PV} {t : Nat→AV}
 (hx : WPT Fence.wide C x (fun e st'=>e=.normal∧st'.ev gop=.pv (.fn (.func gf) [] caps)∧(∀ k ∈ ks,st'.h k=some (.box ((hin k).map .pv) true false))∧∀ m,(∃ k ∈ ks,t m=.ptr k 0∧st'.t m=.ptr k 0)∨(∃ q,t m=.pv q∧st'.t m=.pv q)∨t m=.undef) st)
 (I Ix : Nat→Hp→Prop) (h0 : I 0 (handH ks hin)) (hI : ∀ i h k,k ∈ ks→I i h→∃ cs,h k=some (.box cs false false)) (hIx : ∀ i h k,k ∈ ks→Ix i h→∃ cs,h k=some (.box cs false false))
 (hround : ∀ (C1 C2 : Cx) (l i : Nat) (x : PV) (h : Hp),C1.P=C.P→C1.N=C.N→C2.P=C.P→C2.N=C.N→xs[i]?=some x→I i h→
   WPT (Fence.wide.inRound l) C1 assign (fun e st'=>e=.normal∧WPT (Fence.wide.inRound l) C2 body (RoundQ kd I Ix i) st') ⟨setP1 t p x,h⟩)
 (hnd : noDefer ops=true) {hn : List Nat} (htail : ∀ h,I xs.length h→evR C.P hn C.N ops (fun st'=>RetOk C.P fn.results.toList [] (.pv res) st') ops.toList ⟨t,h⟩)
 (hstop : ∀ i h,i < xs.length→Ix i h→RetOk C.P fn.results.toList [] (.pv res) ⟨t,h⟩) :
 WPF C fn res (.seq (.seq x (.block b0 (.rangeFunc gop #[p] assign body))) (.seq (.region id ops false) .ret)) st:=by
 intro n L a w hs hqa
 refine wpIn_seq (wpIn_seq (wpIn_mono (hx n L a w hs) ?_))
 rintro e a1 w1 ⟨st1,L1,hs1,hA1,hd1,rfl,hg,hks,htt⟩
 have hgr:=eval_rep hs1.2.2 gop
 rw [hg] at hgr
 obtain ⟨us,hus,hcap⟩ : ∃ us : List Value,a1.eval gop=.func (.func gf) #[] us.toArray∧RepL w1 (Mst C L1 st1.h) caps us:=by
  generalize a1.eval gop=u at hgr
  cases hgr with
  |pv hr=>
   cases hr with
   |fn _ _ _ vs us hl hk h1 h2=>
    have : vs=[]:=List.eq_nil_of_length_eq_zero hl.symm
    subst this
    exact ⟨us,rfl,hk,h2⟩
 have hbx : ∀ k ∈ ks,(∀ o,Mst C L1 st1.h (L1 k).b o)∧BoxRel w1 (Mst C L1 st1.h) (L1 k).b (hin k):=by
  intro k hk
  obtain ⟨arr,ty,e1,e2⟩:=hs1.1.bl k _ (hks k hk)
  exact ⟨fun o=>.inr ⟨k,_,hks k hk,trivial,rfl,by simp [Blk.frz]⟩,arr,ty,e1,e2.map_pv_inv⟩
 have hqa1 : QuietA C.P a1.defers:=by rw [hd1];exact hqa
 refine wpIn_block (wpIn_mono (rangeS_wp (N:=C.N) hus hit (fun b o h=>hs1.1.mlt h) hcap hbx (fun k hk k' hk' hne=>hs1.1.sep k k' _ _ hne (hks k hk) (hks k' hk') trivial trivial) hs1.2.1 hp (t:=t) ?_ I Ix h0 hI hIx hround) ?_)
 ·intro m
  rcases htt m with ⟨k,hk,e1,e2⟩|⟨q,e1,e2⟩|e
  ·have hr:=hs1.2.2 m
   rw [e2] at hr
   generalize hv : a1.tmps.getD m undef=v at hr
   cases hr with
   |ptr _=>exact .inl ⟨k,hk,e1,rfl⟩
  ·have hr:=hs1.2.2 m
   rw [e2] at hr
   cases hr with
   |pv hr=>exact .inr (.inl ⟨q,e1,hr⟩)
  ·exact .inr (.inr e)
 rintro e a2 w2 ⟨C2,L2,h2,D,hend,hP2,hN2,hM2,hS2,hm2,hb2,hq2,hx2,hD2,hnS2,hDge,rfl⟩
 have hbox : ∀ k ∈ ks,∃ cs,h2 k=some (.box cs false false):=by
  intro k hk
  rcases hend with ⟨_,hi⟩|⟨_,i,_,hi⟩
  ·exact hI _ h2 k hk hi
  ·exact hIx _ h2 k hk hi
 have hs2 : SimL C2 L2 ⟨t,h2⟩ { a1 with defers:={ target:=.collected D,args:=#[] } :: a1.defers } w2:=by
  refine ⟨hm2,by rw [hN2];exact hs1.2.1,fun m=>?_⟩
  show RepA w2 (Mst C2 L2 h2) L2 h2 (t m) (a1.tmps.getD m undef)
  rcases htt m with ⟨k,hk,e1,e2⟩|⟨q,e1,e2⟩|e
  ·have hr:=hs1.2.2 m
   rw [e2] at hr
   obtain ⟨cs,hc⟩:=hbox k hk
   have hv : a1.tmps.getD m undef=.pointer (some ⟨(L1 k).b,0,none⟩):=by
    generalize a1.tmps.getD m undef=v at hr
    cases hr with
    |ptr _=>rfl
   rw [e1,hv,← hb2 k hk]
   exact .ptr hc
  ·have hr:=hs1.2.2 m
   rw [e2] at hr
   rw [e1]
   cases hr with
   |pv hr=>exact .pv (hq2 q _ hr)
  ·rw [e];exact .undef _
 rcases hend with ⟨rfl,hi2⟩|⟨rfl,i,hilt,hi2⟩
 ·show Code.wpIn Fence.wide n C.P _ _ _ w2
  refine wpIn_seq (wpIn_region_list ?_)
  have htl:=htail h2 hi2
  rw [← hP2,← hN2] at htl
  rw [hP2] at htl
  have hgo:=fun Q' hQ'=>evR_soundT (C:=C2) (Q:=fun st'=>RetOk C.P fn.results.toList [] (.pv res) st') (Q':=Q') (hn:=hn) (ops:=ops) wide_wide (n:=n) hQ' (fun _ ho=>noDefer_of hnd ho) hs2 (After.refl hs2.1) rfl (by rw [hP2];exact htl)
  rw [hP2] at hgo
  refine hgo _ ?_
  intro st3 L3 a3 w3 hs3 _ hd3 hr3
  refine wpIn_ret ?_
  exact leave_range hCS hs1 hks (fun _ _=>rfl) hqa1 hP2 hM2 hS2 hx2 hD2 hnS2 hDge hs3 hd3 hr3
 ·show LeavesInM Fence.wide n C.P fn a1.tmps (Rres C res) ({ target:=.collected D,args:=#[] } :: a1.defers) .returning w2
  exact leave_range (a3:={ a1 with defers:={ target:=.collected D,args:=#[] } :: a1.defers }) hCS hs1 hks (fun _ _=>rfl) hqa1 hP2 hM2 hS2 hx2 hD2 hnS2 hDge hs2 rfl (hstop i h2 hilt hi2)
end Go.Ab
namespace Go.Ab
structure YEnv (P : Program) where
 N : Nat
 l : Nat
 xs : List PV
 J : Bool→Nat→(Nat→Nat→Prop)→World→Prop
 bd : ∀ s i M W,J s i M W→∀ b o,M b o→b < W.heap.size
 gr : ∀ s i M W W',J s i M W→Ext (fun _=>False) W W'→J s i M W'
 yl : ∀ m i x M W v1,xs[i]?=some x→J false i M W→Rep W M x v1→YieldAt Fence.wide m P l #[v1] W fun e W'=>∃ (b : Bool) (M' : Nat→Nat→Prop),e=.returned (.bool b)∧J (!b) (if b=true then i+1 else i) M' W'∧Pres W M W' M'
abbrev QY:=Exit→(Nat→AV)→Nat→Bool→Prop
def PostY {P : Program} (E : YEnv P) (Q : QY) : Exit→Act→World→Prop:=fun e a' w'=>∃ t' i' s' M',E.J s' i' M' w'∧Hold E.N M' t' a' w'∧a'.defers=[]∧Q e t' i' s'
def WPY {P : Program} (E : YEnv P) (c : Code) (Q : QY) (t : Nat→AV) (i : Nat) (s : Bool) : Prop:=
 ∀ n a w M,E.J s i M w→Hold E.N M t a w→a.defers=[]→c.wpIn Fence.wide n P (PostY E Q) a w
section
variable {P : Program} {E : YEnv P} {Q : QY} {t : Nat→AV} {i : Nat} {s : Bool}
theorem WPY.walk {c : Code} (h : ∀ C : Cx,C.P=P→C.N=E.N→WPT Fence.wide C c (fun e st'=>Q e (pvO st'.t) i s) ⟨t,fun _=>none⟩) : WPY E c Q t i s:=by
 intro n a w M hJ hH hd
 refine wpIn_mono (hH.step (E.bd _ _ _ _ hJ) h) ?_
 rintro e a' w' ⟨st',hq,hH',hx,hd'⟩
 exact ⟨_,i,s,M,E.gr _ _ _ _ _ hJ hx,hH',by rw [hd'];exact hd,hq⟩
theorem WPY.mono {c : Code} {Q' : QY} (h : WPY E c Q t i s) (hq : ∀ e t i s,Q e t i s→Q' e t i s) : WPY E c Q' t i s:=
 fun n a w M hJ hH hd=>wpIn_mono (h n a w M hJ hH hd) fun _ _ _ ⟨t',i',s',M',h1,h2,h3,h4⟩=>⟨t',i',s',M',h1,h2,h3,hq _ _ _ _ h4⟩
theorem WPY.sub {c : Code} {t' : Nat→AV} (h : WPY E c Q t' i s) (ht : ∀ m,t' m=.undef∨t' m=t m) : WPY E c Q t i s:=
 fun n a w M hJ hH hd=>h n a w M hJ (hH.sub ht) hd
def ThenY {P : Program} (E : YEnv P) (y : Code) (Q : QY) : QY
 |.normal,t,i,s=>WPY E y Q t i s
 |e,t,i,s=>Q e t i s
theorem WPY.seq {x y : Code} (h : WPY E x (ThenY E y Q) t i s) : WPY E (.seq x y) Q t i s:=by
 intro n a w M hJ hH hd
 refine wpIn_seq (wpIn_mono (h n a w M hJ hH hd) ?_)
 rintro e a' w' ⟨t',i',s',M',h1,h2,h3,h4⟩
 cases e with
 |normal=>exact h4 n a' w' M' h1 h2 h3
 |_=>exact ⟨t',i',s',M',h1,h2,h3,h4⟩
theorem WPY.skip (h : Q .normal t i s) : WPY E .skip Q t i s:=fun _ _ _ M hJ hH hd=>wpIn_skip ⟨t,i,s,M,hJ,hH,hd,h⟩
theorem WPY.ret (h : Q .ret t i s) : WPY E .ret Q t i s:=fun _ _ _ M hJ hH hd=>wpIn_ret ⟨t,i,s,M,hJ,hH,hd,h⟩
theorem WPY.exit {id : Nat} (h : Q (.exit id) t i s) : WPY E (.exit id) Q t i s:=fun _ _ _ M hJ hH hd=>wpIn_exit ⟨t,i,s,M,hJ,hH,hd,h⟩
theorem WPY.cond {m : Nat} {x y : Code} {b : Bool} (hc : t m=.pv (.val (.bool b))) (ht : b=true→WPY E x Q t i s) (hf : b=false→WPY E y Q t i s) : WPY E (.cond (.tmp m) x y) Q t i s:=by
 intro n a w M hJ hH hd
 have hc' : a.eval (.tmp m)=.bool b:=by
  rcases hH.2 m with e|⟨p,e,hr⟩
  ·rw [hc] at e;cases e
  ·rw [hc] at e;injection e with e;subst e;exact rep_val_inv hr
 exact wpIn_cond_split hc' (fun e=>ht e n a w M hJ hH hd) (fun e=>hf e n a w M hJ hH hd)
def InBlkY (id : Nat) (Q : QY) : QY
 |.exit j,t,i,s=>if j=id then Q .normal t i s else Q (.exit j) t i s
 |e,t,i,s=>Q e t i s
theorem WPY.block {id : Nat} {c : Code} (h : WPY E c (InBlkY id Q) t i s) : WPY E (.block id c) Q t i s:=by
 intro n a w M hJ hH hd
 refine wpIn_block (wpIn_mono (h n a w M hJ hH hd) ?_)
 rintro e a' w' ⟨t',i',s',M',h1,h2,h3,h4⟩
 cases e with
 |exit j=>
  simp only [InBlkY,Exit.inBlock] at h4 ⊢
  split
  ·rename_i e;rw [if_pos e] at h4;exact ⟨t',i',s',M',h1,h2,h3,h4⟩
  ·rename_i e;rw [if_neg e] at h4;exact ⟨t',i',s',M',h1,h2,h3,h4⟩
 |_=>exact ⟨t',i',s',M',h1,h2,h3,h4⟩
theorem WPY.loopN {c : Code} (K : Nat) (I : Nat→(Nat→AV)→Nat→Bool→Prop) (h₀ : I 0 t i s)
 (round : ∀ k t i s,k≤K→I k t i s→WPY E c (fun e t i s=>match e with|.normal=>k < K∧I (k+1) t i s|e=>Q e t i s) t i s) : WPY E (.loop c) Q t i s:=by
 classical
 intro n a w M hJ hH hd
 let In : Nat→Act→World→Prop:=fun k a w=>∃ t i s M,I k t i s∧E.J s i M w∧Hold E.N M t a w∧a.defers=[]
 have hmax : ∀ a w,(∃ k,k≤K∧In k a w)→∃ k,k≤K∧In k a w∧∀ j,j≤K→In j a w→j≤k:=by
  intro a w ⟨k0,h1,h2⟩
  have : ∀ d k,K - k≤d→k≤K→In k a w→∃ k,k≤K∧In k a w∧∀ j,j≤K→In j a w→j≤k:=by
   intro d
   induction d with
   |zero=>intro k hd hk hI;exact ⟨k,hk,hI,fun j hj _=>by omega⟩
   |succ d ih=>
    intro k hd hk hI
    by_cases h : ∃ j,j≤K∧In j a w∧k < j
    ·obtain ⟨j,hj,hIj,hij⟩:=h;exact ih j (by omega) hj hIj
    ·exact ⟨k,hk,hI,fun j hj hIj=>Nat.le_of_not_lt (fun hlt=>h ⟨j,hj,hIj,hlt⟩)⟩
  exact this K k0 (by omega) h1 h2
 refine wpIn_loop (fun a w=>∃ k,k≤K∧In k a w) (fun a w=>K - (if h : ∃ k,k≤K∧In k a w∧∀ j,j≤K→In j a w→j≤k then h.choose else 0)) ⟨0,Nat.zero_le _,t,i,s,M,h₀,hJ,hH,hd⟩ ?_
 intro a1 w1 hex
 have hm:=hmax a1 w1 hex
 have hs:=hm.choose_spec
 obtain ⟨t1,i1,s1,M1,g1,g2,g3,g4⟩:=hs.2.1
 refine wpIn_mono (round _ t1 i1 s1 hs.1 g1 n a1 w1 M1 g2 g3 g4) ?_
 rintro e a2 w2 ⟨t2,i2,s2,M2,q1,q2,q3,q4⟩
 cases e with
 |normal=>
  obtain ⟨hlt,hI⟩:=q4
  have hin : In (hm.choose+1) a2 w2:=⟨t2,i2,s2,M2,hI,q1,q2,q3⟩
  refine ⟨⟨_,hlt,hin⟩,?_⟩
  have hm2:=hmax a2 w2 ⟨_,hlt,hin⟩
  have h1:=hm2.choose_spec.2.2 _ hlt hin
  show K - (if h : ∃ k,k≤K∧In k a2 w2∧∀ j,j≤K→In j a2 w2→j≤k then h.choose else 0) < K - (if h : ∃ k,k≤K∧In k a1 w1∧∀ j,j≤K→In j a1 w1→j≤k then h.choose else 0)
  rw [dif_pos hm2,dif_pos hm]
  omega
 |_=>exact ⟨t2,i2,s2,M2,q1,q2,q3,q4⟩
end
theorem yield_step1 {n l : Nat} {P : Program} {ops : Array Oper} {o : Oper} {rest : List Oper} {c : Call} {f x : Operand} {Q : Exit→Act→World→Prop} {a : Act} {w : World} {R : Ending→World→Prop} (hw : Region.wanted o (yielded ops a.tmps)=true) (ho : o.op=.call c) (hc : c.callee=.value f) (hargs : c.args=#[x])
 (hf : a.eval f=.func (.yield l) #[] #[]) (hy : YieldAt Fence.wide (n - 1) P l #[a.eval x] w R)
 (hnext : ∀ e w',R e w'→∃ v,e=.returned v∧wpListIn Fence.wide n P ops Q rest (a.put o.dst v) w') : wpListIn Fence.wide n P ops Q (o :: rest) a w:=by
 obtain ⟨fn,tmps,assign,body,hr,hround⟩:=hy
 unfold wpListIn
 rw [if_pos hw]
 refine ⟨fun _ _=>trivial,?_⟩
 show o.uponIn Fence.wide n P a _ Q ((o.semAt none a.eval).run P w)
 rw [Oper.semAt_none]
 have hrun : (execOp a.eval o).run P w=.ok (.round l fn tmps assign body) w:=by
  generalize a.eval=ρ at hf hr
  unfold execOp
  rw [ho]
  obtain ⟨cal,ar,at_⟩:=c
  simp only at hc hargs
  subst hc;subst hargs
  simp [resolve,hf,invoke,go_sem,hr]
 rw [hrun]
 refine ⟨fun h=>(by cases h),hround.mono ?_⟩
 intro e w' he
 obtain ⟨v,rfl,h⟩:=hnext e w' he
 exact h
section
variable {P : Program} {E : YEnv P} {Q : QY} {t : Nat→AV} {i : Nat}
theorem WPY.yield {id d f x : Nat} {ops : Array Oper} {pre post : List Oper} {o : Oper} {c : Call} {hn : List Nat} (hops : ops.toList=pre++o :: post) (hnd : noDefer ops=true) (ho : o.op=.call c) (hc : c.callee=.value (.tmp f)) (hargs : c.args=#[.tmp x]) (hd : o.dst=some d) (hdN : d < E.N)
 (hpre : evR P hn E.N ops (fun st'=>st'.t f=.pv (.val (.func (.yield E.l) #[] #[]))∧guardB ops (pvO st'.t) o.guard=some true∧∃ q,st'.t x=.pv q∧E.xs[i]?=some q∧
   ∀ b,evR P hn E.N ops (fun st''=>Q .normal (pvO st''.t) (if b=true then i+1 else i) (!b)) post ⟨upd (pvO st'.t) d (.pv (.val (.bool b))),fun _=>none⟩) pre ⟨t,fun _=>none⟩) : WPY E (.region id ops false) Q t i false:=by
 intro n a w M hJ hH hdd
 refine wpIn_region_list ?_
 rw [hops]
 refine wpListIn_append _ ?_
 have hmem : ∀ o' ∈ pre++o :: post,∀ c,o'.op≠.defer c:=fun o' ho'=>noDefer_of hnd (by rw [hops];exact ho')
 refine hH.list (E.bd _ _ _ _ hJ) (fun o' ho'=>hmem o' (List.mem_append_left _ ho')) hpre ?_
 rintro st' a' w' ⟨h1,h2,q,h3,h4,h5⟩ hH' hx hd'
 have hJ':=E.gr _ _ _ _ _ hJ hx
 have hM':=E.bd _ _ _ _ hJ'
 have ef : a'.eval (.tmp f)=.func (.yield E.l) #[] #[]:=by
  rcases hH'.2 f with e|⟨p,e,hr⟩
  ·simp only [pvO,h1] at e;cases e
  ·simp only [pvO,h1] at e;injection e with e;subst e;exact rep_val_inv hr
 have ex : Rep w' M q (a'.eval (.tmp x)):=by
  rcases hH'.2 x with e|⟨p,e,hr⟩
  ·simp only [pvO,h3] at e;cases e
  ·simp only [pvO,h3] at e;injection e with e;subst e;exact hr
 refine yield_step1 ?_ ho hc hargs ef (E.yl (n - 1) i q M w' _ h4 hJ' ex) ?_
 ·exact guard_wanted (hH'.sim (P:=P) hM').2.2 h2
 rintro e w2 ⟨b,M2,rfl,hJ2,hp2⟩
 refine ⟨_,rfl,?_⟩
 have hH2 : Hold E.N M2 (upd (pvO st'.t) d (.pv (.val (.bool b)))) (a'.put o.dst (.bool b)) w2:=by
  have hb:=hH'.mono hp2
  rw [hd]
  have hd' : d < a'.tmps.size:=by rw [hb.1];exact hdN
  refine ⟨by simpa [Act.put] using hb.1,fun m=>?_⟩
  rw [getD_put hd']
  simp only [upd]
  split
  ·exact .inr ⟨_,rfl,.val _⟩
  ·exact hb.2 m
 refine hH2.list (E.bd _ _ _ _ hJ2) (fun o' ho'=>hmem o' (List.mem_append_right _ (List.mem_cons_of_mem _ ho'))) (h5 b) ?_
 intro st3 a3 w3 hq3 hH3 hx3 hd3
 exact ⟨_,_,_,M2,E.gr _ _ _ _ _ hJ2 hx3,hH3,by rw [hd3,put_defers,hd'];exact hdd,hq3⟩
end
def tI (l : Nat) (caps : List PV) : Nat→AV
 |0=>.pv (.val (.func (.yield l) #[] #[]))
 |k+1=>match caps[k]? with
  |some p=>.pv p
  |none=>.undef
theorem iterS_of {P : Program} {gf : FuncId} {fn : Func} {c : Code} {caps xs : List PV} (hf : P.funcs[gf]?=some fn) (hb : fn.body=some c) (hcall : callable P gf=true) (hres : fn.results=#[]) (hlen : caps.length+1≤fn.ntmps)
 (h : ∀ E : YEnv P,E.N=fn.ntmps→E.xs=xs→WPY E c (fun e _ i s=>(e=.normal∨e=.ret)∧(if s=true then i < xs.length else i=xs.length)) (tI E.l caps) 0 false) : IterS P gf caps xs:=by
 refine ⟨hcall,fun n l lb W M J Jx hJb hJg hXb hXg hY h0 hcap=>?_⟩
 have e1 : ∀ (s : Bool) i M W,(if s=true then Jx i M W else J i M W)→∀ b o,M b o→b < W.heap.size:=by
  intro s i M W hj
  cases s with
  |true=>exact hXb i M W hj
  |false=>exact hJb i M W hj
 have e2 : ∀ (s : Bool) i M W W',(if s=true then Jx i M W else J i M W)→Ext (fun _=>False) W W'→(if s=true then Jx i M W' else J i M W'):=by
  intro s i M W W' hj hx
  cases s with
  |true=>exact hXg i M W W' hj hx
  |false=>exact hJg i M W W' hj hx
 have e3 : ∀ m i x M W v1,xs[i]?=some x→(if false=true then Jx i M W else J i M W)→Rep W M x v1→YieldAt Fence.wide m P l #[v1] W fun e W'=>∃ (b : Bool) (M' : Nat→Nat→Prop),e=.returned (.bool b)∧(if (!b)=true then Jx (if b=true then i+1 else i) M' W' else J (if b=true then i+1 else i) M' W')∧Pres W M W' M':=by
  intro m i x M W v1 hx hj hr
  obtain ⟨fn',tmps,assign,body,h1,h2⟩:=hY m i x M W v1 hx hj hr
  refine ⟨fn',tmps,assign,body,h1,h2.mono ?_⟩
  rintro e W' ⟨b,M',rfl,h3,h4⟩
  refine ⟨b,M',rfl,?_,h4⟩
  cases b with
  |true=>exact h3
  |false=>exact h3
 let E : YEnv P:={ N:=fn.ntmps,l:=l,xs:=xs,J:=fun s i M W=>if s=true then Jx i M W else J i M W,bd:=e1,gr:=e2,yl:=e3 }
 have hl:=hcap.1
 refine (callsIn_of_wp_marks hf hb trivial ?_ rfl)
 have hH : Hold fn.ntmps M (tI l caps) { tmps:=((#[Value.func (.yield l) #[] #[]] : Array Value)++lb.toArray)++Array.replicate (fn.ntmps - ((#[Value.func (.yield l) #[] #[]] : Array Value)++lb.toArray).size) undef,defers:=[] } W:=by
  refine ⟨by simp;omega,fun m=>?_⟩
  cases m with
  |zero=>
   have hg : (((#[Value.func (.yield l) #[] #[]] : Array Value)++lb.toArray)++Array.replicate (fn.ntmps - ((#[Value.func (.yield l) #[] #[]] : Array Value)++lb.toArray).size) undef).getD 0 undef=.func (.yield l) #[] #[]:=by
    rw [Array.getD_eq_getD_getElem?,Array.getElem?_append_left (by simp),Array.getElem?_append_left (by simp)];rfl
   refine .inr ⟨_,rfl,?_⟩
   simp only [hg];exact .val _
  |succ k=>
   simp only [tI]
   cases hk : caps[k]? with
   |none=>exact .inl rfl
   |some p=>
    have hlt : k < lb.length:=by rw [← hl];exact (List.getElem?_eq_some_iff.1 hk).1
    have hr:=hcap.2 k p lb[k] hk (List.getElem?_eq_getElem hlt)
    refine .inr ⟨p,rfl,?_⟩
    have hg : (((#[Value.func (.yield l) #[] #[]] : Array Value)++lb.toArray)++Array.replicate (fn.ntmps - ((#[Value.func (.yield l) #[] #[]] : Array Value)++lb.toArray).size) undef).getD (k+1) undef=lb[k]:=by
     rw [Array.getD_eq_getD_getElem?,Array.getElem?_append_left (by simp;omega),Array.getElem?_append_right (by simp)]
     simp [hlt]
    simp only [hg];exact hr
 refine wpIn_mono (h E rfl rfl n _ W M h0 hH rfl) ?_
 rintro e a' w' ⟨t',i',s',M',h1,h2,h3,h4,h5⟩
 have hfin : ((∃ M',J xs.length M' w')∨∃ i M',i < xs.length∧Jx i M' w'):=by
  cases s' with
  |true=>exact .inr ⟨i',M',h5,h1⟩
  |false=>
   simp only [Bool.false_eq_true,if_false] at h5
   subst h5;exact .inl ⟨M',h1⟩
 have hrn : (results fn a'.tmps).run P w'=.ok (.tuple #[]) w':=by
  unfold results
  rw [hres]
  simp [go_sem]
 rcases h4 with rfl|rfl
 ·show LeavesInM Fence.wide n P fn a'.tmps _ a'.defers .returning w'
  rw [h3];exact ⟨_,hrn,⟨_,rfl⟩,hfin⟩
 ·show LeavesInM Fence.wide n P fn a'.tmps _ a'.defers .returning w'
  rw [h3];exact ⟨_,hrn,⟨_,rfl⟩,hfin⟩
end Go.Ab
namespace Go.Ab
section
variable {P : Program} {E : YEnv P} {Q : QY} {C : Cx} {st : St} {i : Nat} {s : Bool}
def WPYH {P : Program} (E : YEnv P) (C : Cx) (c : Code) (Q : QY) (st : St) (i : Nat) (s : Bool) : Prop:=
 C.P=P→C.N=E.N→(∀ b,¬ C.S b)→E.J s i C.M0 C.w0→∀ n L a w,SimL C L st a w→a.defers=[]→c.wpIn Fence.wide n P (PostY E Q) a w
theorem cxS {C : Cx} (h : ∀ b,¬ C.S b) {w w' : World} (hx : Ext C.S w w') : Ext (fun _=>False) w w':=by
 have e : C.S=fun _=>False:=funext fun b=>propext ⟨fun hb=>(h b hb).elim,False.elim⟩
 rw [e] at hx;exact hx
theorem WPY.blocks {c : Code} {t : Nat→AV} (h : ∀ C : Cx,C.P=P→C.N=E.N→WPYH E C c Q ⟨t,fun _=>none⟩ i s) : WPY E c Q t i s:=by
 intro n a w M hJ hH hd
 exact h { P:=P,N:=E.N,M0:=M,S:=fun _=>False,pb:=fun _=>none,w0:=w } rfl rfl rfl rfl (fun _ h=>h) hJ n _ a w (hH.sim (E.bd _ _ _ _ hJ)) hd
theorem WPYH.drop {c : Code} (h : WPY E c Q (pvO st.t) i s) : WPYH E C c Q st i s:=by
 intro hP hN hS hJ n L a w hs hd
 have hH:=hold_of hs
 rw [hN] at hH
 exact h n a w C.M0 (E.gr _ _ _ _ _ hJ (cxS hS hs.1.ext)) hH hd
def ThenH {P : Program} (E : YEnv P) (C : Cx) (y : Code) (Q : QY) (i : Nat) (s : Bool) : Exit→St→Prop
 |.normal,st=>WPYH E C y Q st i s
 |e,st=>Q e (pvO st.t) i s
theorem WPYH.seq {x y : Code} (h : WPT Fence.wide C x (ThenH E C y Q i s) st) : WPYH E C (.seq x y) Q st i s:=by
 intro hP hN hS hJ n L a w hs hd
 subst hP
 refine wpIn_seq (wpIn_mono (h n L a w hs) ?_)
 rintro e a' w' ⟨st',L',hs',_,hd',hq⟩
 have hdd : a'.defers=[]:=by rw [hd'];exact hd
 have hH:=hold_of hs'
 rw [hN] at hH
 cases e with
 |normal=>exact hq rfl hN hS hJ n L' a' w' hs' hdd
 |_=>exact ⟨_,i,s,C.M0,E.gr _ _ _ _ _ hJ (cxS hS hs'.1.ext),hH,hdd,hq⟩
theorem WPYH.walk {c : Code} (h : WPT Fence.wide C c (fun e st'=>Q e (pvO st'.t) i s) st) : WPYH E C c Q st i s:=by
 intro hP hN hS hJ n L a w hs hd
 subst hP
 refine wpIn_mono (h n L a w hs) ?_
 rintro e a' w' ⟨st',L',hs',_,hd',hq⟩
 have hH:=hold_of hs'
 rw [hN] at hH
 exact ⟨_,i,s,C.M0,E.gr _ _ _ _ _ hJ (cxS hS hs'.1.ext),hH,by rw [hd'];exact hd,hq⟩
theorem WPYH.cond {m : Nat} {x y : Code} {b : Bool} (hc : st.t m=.pv (.val (.bool b))) (ht : b=true→WPYH E C x Q st i s) (hf : b=false→WPYH E C y Q st i s) : WPYH E C (.cond (.tmp m) x y) Q st i s:=by
 intro hP hN hS hJ n L a w hs hd
 have hc' : a.eval (.tmp m)=.bool b:=by
  have h:=hs.2.2 m
  rw [hc] at h
  cases h with
  |pv hr=>exact rep_val_inv hr
 exact wpIn_cond_split hc' (fun e=>ht e hP hN hS hJ n L a w hs hd) (fun e=>hf e hP hN hS hJ n L a w hs hd)
theorem WPYH.seqY {x y : Code} (h : WPYH E C x (ThenY E y Q) st i s) : WPYH E C (.seq x y) Q st i s:=by
 intro hP hN hS hJ n L a w hs hd
 refine wpIn_seq (wpIn_mono (h hP hN hS hJ n L a w hs hd) ?_)
 rintro e a' w' ⟨t',i',s',M',h1,h2,h3,h4⟩
 cases e with
 |normal=>exact h4 n a' w' M' h1 h2 h3
 |_=>exact ⟨t',i',s',M',h1,h2,h3,h4⟩
theorem WPYH.block {id : Nat} {c : Code} (h : WPYH E C c (InBlkY id Q) st i s) : WPYH E C (.block id c) Q st i s:=by
 intro hP hN hS hJ n L a w hs hd
 refine wpIn_block (wpIn_mono (h hP hN hS hJ n L a w hs hd) ?_)
 rintro e a' w' ⟨t',i',s',M',h1,h2,h3,h4⟩
 cases e with
 |exit j=>
  simp only [InBlkY] at h4
  show (if j=id then _ else _)
  split
  ·rename_i e;rw [if_pos e] at h4;exact ⟨t',i',s',M',h1,h2,h3,h4⟩
  ·rename_i e;rw [if_neg e] at h4;exact ⟨t',i',s',M',h1,h2,h3,h4⟩
 |_=>exact ⟨t',i',s',M',h1,h2,h3,h4⟩
theorem WPYH.yield {id d f x : Nat} {ops : Array Oper} {pre post : List Oper} {o : Oper} {c : Call} {hn : List Nat} (hops : ops.toList=pre++o :: post) (hnd : noDefer ops=true) (ho : o.op=.call c) (hc : c.callee=.value (.tmp f)) (hargs : c.args=#[.tmp x]) (hd : o.dst=some d) (hdN : d < E.N)
 (hpre : evR P hn E.N ops (fun st'=>st'.t f=.pv (.val (.func (.yield E.l) #[] #[]))∧guardB ops (pvO st'.t) o.guard=some true∧∃ q,st'.t x=.pv q∧E.xs[i]?=some q∧
   ∀ b,evR P hn E.N ops (fun st''=>Q .normal (pvO st''.t) (if b=true then i+1 else i) (!b)) post ⟨upd (pvO st'.t) d (.pv (.val (.bool b))),fun _=>none⟩) pre st) : WPYH E C (.region id ops false) Q st i false:=by
 intro hP hN hS hJ n L a w hs hdd
 subst hP
 rw [← hN] at hpre
 refine wpIn_region_list ?_
 rw [hops]
 refine wpListIn_append _ ?_
 have hmem : ∀ o' ∈ pre++o :: post,∀ c,o'.op≠.defer c:=fun o' ho'=>noDefer_of hnd (by rw [hops];exact ho')
 refine evR_soundT wide_wide (fun st' L' a' w' hs' _ hd' hq=>?_) (fun o' ho'=>hmem o' (List.mem_append_left _ ho')) hs (After.refl hs.1) rfl hpre
 obtain ⟨h1,h2,q,h3,h4,h5⟩:=hq
 have hH':=hold_of hs'
 have hJ':=E.gr _ _ _ _ _ hJ (cxS hS hs'.1.ext)
 have hM':=E.bd _ _ _ _ hJ'
 have ef : a'.eval (.tmp f)=.func (.yield E.l) #[] #[]:=by
  rcases hH'.2 f with e|⟨p,e,hr⟩
  ·simp only [pvO,h1] at e;cases e
  ·simp only [pvO,h1] at e;injection e with e;subst e;exact rep_val_inv hr
 have ex : Rep w' C.M0 q (a'.eval (.tmp x)):=by
  rcases hH'.2 x with e|⟨p,e,hr⟩
  ·simp only [pvO,h3] at e;cases e
  ·simp only [pvO,h3] at e;injection e with e;subst e;exact hr
 refine yield_step1 ?_ ho hc hargs ef (E.yl (n - 1) i q C.M0 w' _ h4 hJ' ex) ?_
 ·exact guard_wanted (hH'.sim (P:=C.P) hM').2.2 h2
 rintro e w2 ⟨b,M2,rfl,hJ2,hp2⟩
 refine ⟨_,rfl,?_⟩
 have hH2 : Hold E.N M2 (upd (pvO st'.t) d (.pv (.val (.bool b)))) (a'.put o.dst (.bool b)) w2:=by
  have hb:=hH'.mono hp2
  rw [hd]
  have hd' : d < a'.tmps.size:=by rw [hb.1,hN];exact hdN
  refine ⟨by simpa [Act.put,hN] using hb.1,fun m=>?_⟩
  rw [getD_put hd']
  simp only [upd]
  split
  ·exact .inr ⟨_,rfl,.val _⟩
  ·exact hb.2 m
 refine hH2.list (E.bd _ _ _ _ hJ2) (fun o' ho'=>hmem o' (List.mem_append_right _ (List.mem_cons_of_mem _ ho'))) (by rw [hN] at h5;exact h5 b) ?_
 intro st3 a3 w3 hq3 hH3 hx3 hd3
 exact ⟨_,_,_,M2,E.gr _ _ _ _ _ hJ2 hx3,hH3,by rw [hd3,put_defers,hd'];exact hdd,hq3⟩
end
end Go.Ab
namespace Go.Ab
def SimD (C : Cx) (ds : List Deferred) (st : St) (a : Act) (w : World) : Prop:=∃ L,MemL C L st.h w∧a.tmps.size=C.N∧a.defers=ds∧∀ n,RepA w (Mst C L st.h) L st.h (st.t n) (a.tmps.getD n undef)
theorem SimD.put {C : Cx} {ds : List Deferred} {L : Nat→Loc} {st : St} {a : Act} {w : World} (hm : MemL C L st.h w) (hN : a.tmps.size=C.N) (hdf : a.defers=ds) (ht : ∀ n,RepA w (Mst C L st.h) L st.h (st.t n) (a.tmps.getD n undef))
 {d : Option Nat} (hd : dstOk C.N d=true) {v : AV} {W : List (Nat × Blk)} {u : Value} {w' : World} {L' : Nat→Loc} (hA : After C L st.h w L' (writes st.h W) w') (hv : RepA w' (Mst C L' (writes st.h W)) L' (writes st.h W) v u) :
 SimD C ds (st.put d v W) (a.put d u) w':=by
 obtain ⟨h1,h2,h3⟩:=SimL.put (a:=a) ⟨hm,hN,ht⟩ hd hA hv
 exact ⟨L',h1,h2,(put_defers _ _ _).trans hdf,h3⟩
section
variable {C : Cx} {hn : List Nat} {ops : Array Oper} {fs : List Ef} {st : St} {ds : List Deferred}
theorem draw_anyD (hslot : slotOk ops=true) (hlen : fs.length=ops.size) (hstep : ∀ (i : Nat) o f,ops[i]?=some o→fs[i]?=some f→StepOk C.P hn C.N ops o (run (fs.take i) st) f)
 (hkey : keyOk (preTab ops.toList []) (fs.map fun f=>(f.W.map (·.1),f.K))=true) {Q' : Exit→Act→World→Prop} (hQ : ∀ a w,SimD C ds (run fs st) a w→Q' .normal a w) :
 ∀ (fuel : Nat) (listed : Array Bool) (a : Act) (w : World),listed.size=ops.size→((List.range ops.size).filter fun j=>!lsOf listed j).length≤fuel→(∀ i j,direct ops i j→lsOf listed j=true→lsOf listed i=true)→
  SimD C ds (cst fs ops.size st (lsOf listed)) a w→wpAny C.P .any ops Q' fuel listed a w:=by
 have hall : ∀ listed : Array Bool,Region.ready .any ops listed=[]→listed.size=ops.size→∀ j,j < ops.size→lsOf listed j=true:=by
  intro listed hr hsz j
  induction j using Nat.strongRecOn with
  |_ j ih=>
   intro hj
   cases hl : lsOf listed j with
   |true=>rfl
   |false=>
    have : j ∈ Region.ready .any ops listed:=mem_ready'.2 ⟨hj,hl,fun q hq=>by
     have hqj:=edges_back hslot hq
     have:=ih q hqj (by omega)
     unfold lsOf at this
     rw [Array.getD_eq_getD_getElem?] at this ⊢
     rw [Array.getElem?_eq_getElem (by omega)] at this ⊢
     simpa using this⟩
    rw [hr] at this;cases this
 have hend : ∀ (listed : Array Bool) a w,Region.ready .any ops listed=[]→listed.size=ops.size→SimD C ds (cst fs ops.size st (lsOf listed)) a w→Q' .normal a w:=by
  intro listed a w hr hsz hsim
  apply hQ
  have hl:=hall listed hr hsz
  have : cst fs ops.size st (lsOf listed)=run fs st:=by
   have ht : run fs st=run (fs.take ops.size) st:=by rw [List.take_of_length_le (by omega)]
   rw [ht]
   have h1 : (cst fs ops.size st (lsOf listed)).t=(run (fs.take ops.size) st).t:=by
    funext r;rw [run_take_t fs st _ (by omega)];exact comb_congr (fun j hj _=>hl j hj)
   have h2 : (cst fs ops.size st (lsOf listed)).h=(run (fs.take ops.size) st).h:=by
    funext r;rw [run_take_h fs st _ (by omega)];exact comb_congr (fun j hj _=>hl j hj)
   cases hA : cst fs ops.size st (lsOf listed);cases hB : run (fs.take ops.size) st
   rw [hA,hB] at h1 h2
   simp at h1 h2
   rw [h1,h2]
  rw [← this];exact hsim
 intro fuel
 induction fuel with
 |zero=>
  intro listed a w hsz hcnt hcl hsim
  have hemp : Region.ready .any ops listed=[]:=by
   cases hr : Region.ready .any ops listed with
   |nil=>rfl
   |cons i r=>
    have hi : i ∈ Region.ready .any ops listed:=by rw [hr];simp
    obtain ⟨h1,h2,_⟩:=mem_ready'.1 hi
    have : i ∈ (List.range ops.size).filter fun j=>!lsOf listed j:=List.mem_filter.2 ⟨List.mem_range.2 h1,by simp [h2]⟩
    have hnil : ((List.range ops.size).filter fun j=>!lsOf listed j)=[]:=List.eq_nil_of_length_eq_zero (by omega)
    rw [hnil] at this;cases this
  exact ⟨hemp,hend listed a w hemp hsz hsim⟩
 |succ fuel ih=>
  intro listed a w hsz hcnt hcl hsim
  refine ⟨fun hr=>hend listed a w hr hsz hsim,fun i hi=>?_⟩
  obtain ⟨hin,hli,hdir⟩:=mem_ready'.1 hi
  have ho : ops[i]?=some ops[i]:=Array.getElem?_eq_getElem hin
  have hf : fs[i]?=some (fs[i]'(by omega)):=List.getElem?_eq_getElem _
  generalize ops[i]=o at ho
  generalize fs[i]'(by omega)=f at hf
  obtain ⟨hdst,hfd,hcase⟩:=hstep i o f ho hf
  have hbefore : ∀ q,Pre ops q i→lsOf listed q=true:=by
   intro q hq
   have hd : ∀ q,direct ops q i→lsOf listed q=true:=by
    intro q hq
    have hqi:=edges_back hslot hq
    have:=hdir q hq
    unfold lsOf
    rw [Array.getD_eq_getD_getElem?] at this ⊢
    rw [Array.getElem?_eq_getElem (by omega)] at this ⊢
    simpa using this
   cases hq with
   |one h=>exact hd q h
   |step h h'=>exact pre_closed hcl h (hd _ h')
  have hafter : ∀ q,Pre ops i q→lsOf listed q=false:=by
   intro q hq
   cases hlq : lsOf listed q with
   |false=>rfl
   |true=>rw [pre_closed hcl hq hlq] at hli;cases hli
  have hdj : ∀ j r,(wrT fs r j).isSome=true→∃ oj fj,ops[j]?=some oj∧fs[j]?=some fj∧oj.dst=some r:=by
   intro j r hj
   unfold wrT at hj
   split at hj
   ·rename_i fj hfj
    split at hj
    ·rename_i hd
     have hjn : j < ops.size:=by rw [← hlen];exact (List.getElem?_eq_some_iff.1 hfj).1
     have hoj : ops[j]?=some ops[j]:=Array.getElem?_eq_getElem hjn
     obtain ⟨_,h2,_⟩:=hstep j _ fj hoj hfj
     exact ⟨_,fj,hoj,hfj,by rw [← h2];exact hd⟩
    ·cases hj
   ·cases hj
  have hkj : ∀ j k,(wrH fs k j).isSome=true→∃ fj,fs[j]?=some fj∧k ∈ fj.W.map (·.1):=by
   intro j k hj
   unfold wrH at hj
   split at hj
   ·rename_i fj hfj;exact ⟨fj,hfj,lookW_mem hj⟩
   ·cases hj
  have haccat : ∀ (j : Nat) (fj : Ef),fs[j]?=some fj→(fs.map fun f=>(f.W.map (·.1),f.K))[j]?=some (fj.W.map (·.1),fj.K):=fun j fj h=>by simp [h]
  have hagT : ∀ r ∈ slotsR ops o,(cst fs ops.size st (lsOf listed)).t r=(run (fs.take i) st).t r:=by
   intro r hr
   rw [run_take_t fs st i (by omega),← comb_below (n:=ops.size) (by omega)]
   refine comb_congr (fun j hj hw=>?_)
   obtain ⟨oj,fj,hoj,hfj,hd⟩:=hdj j r hw
   rcases Nat.lt_trichotomy j i with hlt|rfl|hgt
   ·rw [hbefore j (slotOk_pre hslot hlt hoj ho (by simp [slotConf,hd,hr]))];simp [hlt]
   ·rw [hli];simp
   ·rw [hafter j (slotOk_pre hslot hgt ho hoj (by simp [slotConf,hd,hr]))]
    have : ¬ j < i:=by omega
    simp [this]
  have hagH : ∀ k ∈ f.K,(cst fs ops.size st (lsOf listed)).h k=(run (fs.take i) st).h k:=by
   intro k hk
   rw [run_take_h fs st i (by omega),← comb_below (n:=ops.size) (by omega)]
   refine comb_congr (fun j hj hw=>?_)
   obtain ⟨fj,hfj,hd⟩:=hkj j k hw
   rcases Nat.lt_trichotomy j i with hlt|rfl|hgt
   ·rw [hbefore j (keyOk_pre hkey hlt (haccat j fj hfj) (haccat i f hf) ⟨k,.inl ⟨hd,hk⟩⟩)];simp [hlt]
   ·rw [hli];simp
   ·rw [hafter j (keyOk_pre hkey hgt (haccat i f hf) (haccat j fj hfj) ⟨k,.inr ⟨hd,hk⟩⟩)]
    have : ¬ j < i:=by omega
    simp [this]
  have hWK : ∀ k,k ∈ f.W.map (·.1)→k ∈ f.K:=by
   intro k hk
   obtain ⟨kb,hkb,rfl⟩:=List.mem_map.1 hk
   rcases hcase with ⟨_,_,_,hall⟩|⟨_,_,hW,_⟩
   ·have:=List.all_eq_true.1 hall kb hkb;simpa using this
   ·rw [hW] at hkb;cases hkb
  have hins : cst fs ops.size st (lsOf (listed.setIfInBounds i true))=(cst fs ops.size st (lsOf listed)).put f.d f.v f.W:=by
   have hls : ∀ j,j < ops.size→lsOf (listed.setIfInBounds i true) j=(lsOf listed j || j==i):=by
    intro j hj
    unfold lsOf
    by_cases e : j=i
    ·subst e;simp [Array.getD_eq_getD_getElem?,hsz,hj]
    ·have h1 : (j==i)=false:=by simpa using e
     rw [h1,Bool.or_false,Array.getD_eq_getD_getElem?,Array.getD_eq_getD_getElem?,Array.getElem?_setIfInBounds_ne (by omega)]
   have h1 : (cst fs ops.size st (lsOf (listed.setIfInBounds i true))).t=((cst fs ops.size st (lsOf listed)).put f.d f.v f.W).t:=by
    funext r
    show comb ops.size (wrT fs r) (st.t r) (lsOf (listed.setIfInBounds i true))=_
    rw [comb_congr (fun j hj _=>hls j hj),comb_insert hin ?_]
    ·have hw : wrT fs r i=if f.d=some r then some f.v else none:=by simp [wrT,hf]
     rw [hw]
     cases hd : f.d with
     |none=>simp [St.put,cst]
     |some d=>
      simp only [St.put,upd,Option.some.injEq]
      by_cases e : d=r
      ·subst e;simp
      ·rw [if_neg e,if_neg (fun h=>e h.symm)];rfl
    ·intro hwi j hij hj hwj
     obtain ⟨oi,fi,hoi,hfi,hdi⟩:=hdj i r hwi
     obtain ⟨oj,fj,hoj,hfj,hd⟩:=hdj j r hwj
     rw [ho] at hoi;injection hoi with hoi;subst hoi
     exact hafter j (slotOk_pre hslot hij ho hoj (by simp [slotConf,hdi,hd]))
   have h2 : (cst fs ops.size st (lsOf (listed.setIfInBounds i true))).h=((cst fs ops.size st (lsOf listed)).put f.d f.v f.W).h:=by
    funext k
    show comb ops.size (wrH fs k) (st.h k) (lsOf (listed.setIfInBounds i true))=_
    rw [comb_congr (fun j hj _=>hls j hj),comb_insert hin ?_]
    ·have hw : wrH fs k i=lookW f.W k:=by simp [wrH,hf]
     rw [hw]
     simp only [St.put]
     exact (writes_look k f.W (cst fs ops.size st (lsOf listed)).h).symm
    ·intro hwi j hij hj hwj
     obtain ⟨fi,hfi,hdi⟩:=hkj i k hwi
     obtain ⟨fj,hfj,hd⟩:=hkj j k hwj
     rw [hf] at hfi;injection hfi with hfi;subst hfi
     exact hafter j (keyOk_pre hkey hij (haccat i f hf) (haccat j fj hfj) ⟨k,.inr ⟨hd,hWK k hdi⟩⟩)
   cases hA : cst fs ops.size st (lsOf (listed.setIfInBounds i true));cases hB : (cst fs ops.size st (lsOf listed)).put f.d f.v f.W
   rw [hA,hB] at h1 h2
   simp at h1 h2
   rw [h1,h2]
  have hnext : ∀ a' w',SimD C ds ((cst fs ops.size st (lsOf listed)).put f.d f.v f.W) a' w'→wpAny C.P .any ops Q' fuel (listed.setIfInBounds i true) a' w':=by
   intro a' w' hs'
   refine ih (listed.setIfInBounds i true) a' w' (by simp [hsz]) ?_ ?_ (by rw [hins];exact hs')
   ·have hle : ((List.range ops.size).filter fun j=>!lsOf (listed.setIfInBounds i true) j).length < ((List.range ops.size).filter fun j=>!lsOf listed j).length:=by
     have heq : ((List.range ops.size).filter fun j=>!lsOf (listed.setIfInBounds i true) j)=((List.range ops.size).filter fun j=>!lsOf listed j).filter fun j=>!(j==i):=by
      rw [List.filter_filter]
      refine List.filter_congr (fun j hj=>?_)
      have hj':=List.mem_range.1 hj
      unfold lsOf
      by_cases e : j=i
      ·subst e;simp [Array.getD_eq_getD_getElem?,hsz,hj']
      ·have h1 : (j==i)=false:=by simpa using e
       rw [h1,Array.getD_eq_getD_getElem?,Array.getD_eq_getD_getElem?,Array.getElem?_setIfInBounds_ne (by omega)];simp
     rw [heq]
     refine List.length_filter_lt_length_iff_exists.2 ⟨i,List.mem_filter.2 ⟨List.mem_range.2 hin,by simp [hli]⟩,by simp⟩
    omega
   ·intro q j hd hj
    have hset : ∀ m,lsOf (listed.setIfInBounds i true) m=true↔(lsOf listed m=true∨m=i):=by
     intro m
     unfold lsOf
     by_cases e : m=i
     ·subst e;simp [Array.getD_eq_getD_getElem?,hsz,hin]
     ·rw [Array.getD_eq_getD_getElem?,Array.getD_eq_getD_getElem?,Array.getElem?_setIfInBounds_ne (by omega)];simp [e]
    rw [hset] at hj ⊢
    rcases hj with hj|rfl
    ·exact .inl (hcl q j hd hj)
    ·exact .inl (hbefore q (.one hd))
  obtain ⟨L,hm,hN,hdf,ht⟩:=hsim
  have hgd : guardB ops (cst fs ops.size st (lsOf listed)).t o.guard=guardB ops (run (fs.take i) st).t o.guard:=by
   unfold guardB
   split
   ·rfl
   ·rename_i j want hg
    split
    ·rename_i d hd
     rw [hagT d (by simp [slotsR,hg,hd])]
    ·rfl
  unfold wpOp
  rw [ho]
  simp only
  rcases hcase with ⟨hg,hK,hev,hallk⟩|⟨hg,hv,hW,_⟩
  ·rw [guard_wanted ht (hgd.trans hg)]
   rw [if_pos rfl]
   refine .inl ?_
   have hops : ∀ x ∈ o.op.operands,(run (fs.take i) st).ev x=(cst fs ops.size st (lsOf listed)).ev x:=by
    intro x hx
    cases x with
    |tmp t=>
     refine (hagT t ?_).symm
     simp only [slotsR,tmpsOf,List.mem_append,List.mem_filterMap]
     exact .inl ⟨.tmp t,by simpa using hx,rfl⟩
    |_=>rfl
   have hres : restrict f.K (run (fs.take i) st).h=restrict f.K (cst fs ops.size st (lsOf listed)).h:=by
    funext k
    unfold restrict
    split
    ·rename_i hk;exact (hagH k (by simpa using hk)).symm
    ·rfl
   rw [evO_congr hops,hres] at hev
   refine evO_wp hm (h1:=restrict f.K (cst fs ops.size st (lsOf listed)).h) ?_ ?_ (fun x _=>eval_rep ht x) hev (fun eff u w' L' he hA hv=>?_)
   ·intro k b hk;unfold restrict at hk;split at hk
    ·exact hk
    ·cases hk
   ·intro d hd
    unfold restrict
    have : f.K.contains d=true:=by rw [hK];simp [kset,hd]
    rw [if_pos this]
    refine ⟨rfl,?_⟩
    have hd9:=hdst
    rw [hd] at hd9
    simp only [dstOk,Bool.and_eq_true,decide_eq_true_eq] at hd9
    exact hd9.2
   ·subst he
    refine hnext _ _ ?_
    rw [hfd]
    exact SimD.put hm hN hdf ht hdst hA hv
  ·rw [guard_wanted ht (hgd.trans hg)]
   simp only [Bool.false_eq_true,if_false]
   refine hnext _ _ ?_
   rw [hfd,hv,hW]
   exact SimD.put hm hN hdf ht hdst (W:=[]) (After.refl hm) (.pv (.val _))
variable {P : Program} {E : YEnv P} {Q : QY} {i : Nat} {s : Bool}
theorem WPYH.draw {id : Nat} {y : Code} (hmx : P.follows .mixedOrders=true) (hslot : slotOk ops=true)
 (h : evD P hn E.N ops (fun acc st=>keyOk (preTab ops.toList []) acc=true∧WPYH E C y Q st i s) ops.toList [] st) : WPYH E C (.seq (.region id ops true) y) Q st i s:=by
 intro hP hN hS hJ n L a w hs hd
 subst hP
 rw [← hN] at h
 obtain ⟨fs,h1,h2,h3,h4⟩:=evD_run h
 refine wpIn_seq (wpIn_wide.2 ?_)
 refine wp_region_any hmx (draw_anyD (ds:=[]) (fs:=fs) (st:=st) hslot (by rw [h1];simp) (fun i o f ho hf=>h2 i o f (by simpa using ho) hf) (by simpa using h3) (fun a w hs=>?_) _ _ _ _ (by simp) ?_ ?_ ?_)
 ·obtain ⟨L',hm',hN',hdd,ht'⟩:=hs
  exact h4 rfl hN hS hJ n L' a w ⟨hm',hN',ht'⟩ hdd
 ·refine Nat.le_trans (List.length_filter_le _ _) (by simp)
 ·intro i j hd hj
  have hjn : j < ops.size:=by obtain ⟨o,ho,_⟩:=hd;exact (Array.getElem?_eq_some_iff.1 ho).1
  unfold lsOf at hj
  rw [Array.getD_eq_getD_getElem?,Array.getElem?_replicate,if_pos hjn] at hj
  cases hj
 ·have : cst fs ops.size st (lsOf (Array.replicate ops.size false))=st:=by
   have hf : ∀ j,j < ops.size→lsOf (Array.replicate ops.size false) j=false:=by
    intro j hj;unfold lsOf;rw [Array.getD_eq_getD_getElem?,Array.getElem?_replicate,if_pos hj];rfl
   have hz : ∀ {V : Type} (wr : Nat→Option V) (x0 : V),comb ops.size wr x0 (lsOf (Array.replicate ops.size false))=x0:=by
    intro V wr x0
    rw [comb_congr (ls':=fun _=>false) (fun j hj _=>hf j hj)]
    have : ∀ n,comb n wr x0 (fun _=>false)=x0:=by
     intro n;induction n with
     |zero=>rfl
     |succ n ih=>rw [comb_succ];simp [ih]
    exact this _
   cases st
   unfold cst
   simp [hz]
  rw [this]
  have hg:=hs.1.grow (Ext.drew (fun _=>False) w)
  exact ⟨L,hg.1,hs.2.1,hd,fun n=>(hs.2.2 n).mono hg.2 (KC.refl _ _)⟩
end
end Go.Ab
namespace Go.Ab
open Go.Proofs
abbrev candCaps (a : List IVc) (ra : Int) (b : List IVc) (rb : Int) (hints : List Vc) : List PV:=[.rptr (ivcs a) 0,.rptr (ivcs b) 0,.rptr (Z ra) 0,.rptr (Z rb) 0,.rptr (vecs hints) 0]
theorem d73 (a : List IVc) (ra : Int) (b : List IVc) (rb : Int) (hints : List Vc) : DetH Tryz.prog 73 [.pv (ivcs a),.pv (Z ra),.pv (ivcs b),.pv (Z rb),.pv (vecs hints)] [] [] (.pv (.fn (.func 118) [] (candCaps a ra b rb hints))):=by
 refine detP_of Tryz.func73 rfl (by kernel_rfl) (by simp [Tryz.f73]) rfl ?_
 intro C hP hN
 simp only [Tryz.f73] at hN ⊢
 with_reducible repeat' (first|refine Sp.h ?_|((first|refine Ss.h ?_|(refine Sb.h ?_ ?_ ?_<;>(try intro hgd)<;>try exact Xy))<;>simp -implicitDefEqProofs (maxSteps:=2000000) [hP,hN])|refine X2 ?_ ?_|(refine Xd ?_ ?_<;>intro hcd<;>try exact Xx))
def candB (a : List IVc) (ra : Int) (b : List IVc) (rb : Int) : Bool:=placedB a && placedB b && fromB ra 0 1048576 && fromB rb 0 1048576
def nearN (a : List IVc) (ra : Int) (b : List IVc) (rb : Int) : Vc:=(nrRes (centers a) (centers b) (ra+rb) 64).2.n
def candL (a : List IVc) (ra : Int) (b : List IVc) (rb : Int) (hints : List Vc) : List Vc:=
 if candB a ra b rb then hints.filter usableV++((if meanB a b then [meanN a b] else [])++(axesL++(if usableV (nearN a ra b rb) then [nearN a ra b rb] else []))) else []
theorem filter_take {α : Type} {p : α→Bool} {l : List α} {k : Nat} {v : α} (hv : l[k]?=some v) : (l.filter p)=(l.take k).filter p++(if p v then [v] else [])++(l.drop (k+1)).filter p:=by
 obtain ⟨h,hv⟩:=List.getElem?_eq_some_iff.1 hv
 have e : l=l.take k++v :: l.drop (k+1):=by rw [← hv,List.getElem_cons_drop];exact (List.take_append_drop k l).symm
 conv=>lhs;rw [e]
 rw [List.filter_append,List.filter_cons]
 split<;>simp
structure CandT (l : Nat) (a : List IVc) (ra : Int) (b : List IVc) (rb : Int) (hints : List Vc) (t : Nat→AV) : Prop where
 g0 : t 0=.pv (.val (.func (.yield l) #[] #[]))
 g1 : t 1=.pv (.rptr (ivcs a) 0)
 g2 : t 2=.pv (.rptr (ivcs b) 0)
 g3 : t 3=.pv (.rptr (Z ra) 0)
 g4 : t 4=.pv (.rptr (Z rb) 0)
 g5 : t 5=.pv (.rptr (vecs hints) 0)
def PieceQ {P : Program} (E : YEnv P) (a : List IVc) (ra : Int) (b : List IVc) (rb : Int) (hints : List Vc) (n : Nat) : QY:=fun e t i s=>match e with
 |.normal=>s=false∧i=n∧CandT E.l a ra b rb hints t
 |.ret=>s=true∧i < E.xs.length
 |_=>False
set_option maxHeartbeats 8000000 in
theorem i118 (a : List IVc) (ra : Int) (b : List IVc) (rb : Int) (hints : List Vc) (ha : a.length≤9223372036854775807) (hb : b.length≤9223372036854775807) (hl : hints.length≤9223372036854775807) : IterS Tryz.prog 118 (candCaps a ra b rb hints) ((candL a ra b rb hints).map encVec):=by
 refine iterS_of (c:=(Tryz.f118.body).getD .skip) Tryz.func118 rfl (by kernel_rfl) rfl (by simp [Tryz.f118]) ?_
 intro E hEN hxs
 simp only [Tryz.f118,Option.getD_some] at hEN ⊢
 rw [← hxs]
 have hG : CandT E.l a ra b rb hints (tI E.l (candCaps a ra b rb hints)):=⟨rfl,rfl,rfl,rfl,rfl,rfl⟩
 generalize tI E.l (candCaps a ra b rb hints)=t at *
 obtain ⟨g0,g1,g2,g3,g4,g5⟩:=hG
 have hF:=wide_wide
 have ca:=d78 a ha
 have cb:=d78 b hb
 have cra:=d119 ra
 have crb:=d119 rb
 have hcl : candL a ra b rb hints=if candB a ra b rb then hints.filter usableV++((if meanB a b then [meanN a b] else [])++(axesL++(if usableV (nearN a ra b rb) then [nearN a ra b rb] else []))) else []:=rfl
 have hcb : candB a ra b rb=(placedB a && placedB b && fromB ra 0 1048576 && fromB rb 0 1048576):=rfl
 cases hok : candB a ra b rb with
 |false=>
  rw [hok] at hcl hcb
  simp only [Bool.false_eq_true,if_false] at hcl
  have hx0 : E.xs.length=0:=by rw [hxs,hcl];rfl
  refine WPY.seq ?_
  refine WPY.walk fun C hP hN=>?_
  rw [hEN] at hN
  cases hpa : placedB a
  ·rw [hpa] at ca
   repeat' (first
    |with_reducible refine WPT.seq ?_
    |(with_reducible ((first|refine WPT.region hF (hn:=[]) (by kernel_rfl) ?_|refine xC_intro (ca) ?_|refine xC_intro (cb) ?_|refine xC_intro (cra) ?_|refine xC_intro (crb) ?_|refine WPT.cond' ?_);simp -implicitDefEqProofs (maxSteps:=2000000) [hP,hN,g0,g1,g2,g3,g4,g5]))
    |(with_reducible refine xB_split (by simp [g0,g1,g2,g3,g4,g5]) (fun hgd=>?_) (fun hgd=>?_)<;>first|(exfalso;simp at hgd;done)|(exfalso;simp at hgd;omega)|simp -implicitDefEqProofs (maxSteps:=2000000) [hP,hN,g0,g1,g2,g3,g4,g5])
    |with_reducible refine xTwo_intro ?_ ?_
    |(with_reducible refine xCondT_split (fun hcd=>?_) (fun hcd=>?_)<;>(try (exfalso;clear hP hN;simp_all;done))<;>(try (exfalso;simp at *;omega)))
    |with_reducible refine WPT.block ?_
    |(with_reducible ((first|refine WPT.skip ?_|refine WPT.exit ?_|refine WPT.ret ?_);simp [g0,g1,g2,g3,g4,g5])))
   all_goals exact ⟨.inr rfl,by simp [hx0]⟩
  rw [hpa] at ca hcb
  cases hpb : placedB b
  ·rw [hpb] at cb
   repeat' (first
    |with_reducible refine WPT.seq ?_
    |(with_reducible ((first|refine WPT.region hF (hn:=[]) (by kernel_rfl) ?_|refine xC_intro (ca) ?_|refine xC_intro (cb) ?_|refine xC_intro (cra) ?_|refine xC_intro (crb) ?_|refine WPT.cond' ?_);simp -implicitDefEqProofs (maxSteps:=2000000) [hP,hN,g0,g1,g2,g3,g4,g5]))
    |(with_reducible refine xB_split (by simp [g0,g1,g2,g3,g4,g5]) (fun hgd=>?_) (fun hgd=>?_)<;>first|(exfalso;simp at hgd;done)|(exfalso;simp at hgd;omega)|simp -implicitDefEqProofs (maxSteps:=2000000) [hP,hN,g0,g1,g2,g3,g4,g5])
    |with_reducible refine xTwo_intro ?_ ?_
    |(with_reducible refine xCondT_split (fun hcd=>?_) (fun hcd=>?_)<;>(try (exfalso;clear hP hN;simp_all;done))<;>(try (exfalso;simp at *;omega)))
    |with_reducible refine WPT.block ?_
    |(with_reducible ((first|refine WPT.skip ?_|refine WPT.exit ?_|refine WPT.ret ?_);simp [g0,g1,g2,g3,g4,g5])))
   all_goals exact ⟨.inr rfl,by simp [hx0]⟩
  rw [hpb] at cb hcb
  cases hra : fromB ra 0 1048576
  ·rw [hra] at cra
   repeat' (first
    |with_reducible refine WPT.seq ?_
    |(with_reducible ((first|refine WPT.region hF (hn:=[]) (by kernel_rfl) ?_|refine xC_intro (ca) ?_|refine xC_intro (cb) ?_|refine xC_intro (cra) ?_|refine xC_intro (crb) ?_|refine WPT.cond' ?_);simp -implicitDefEqProofs (maxSteps:=2000000) [hP,hN,g0,g1,g2,g3,g4,g5]))
    |(with_reducible refine xB_split (by simp [g0,g1,g2,g3,g4,g5]) (fun hgd=>?_) (fun hgd=>?_)<;>first|(exfalso;simp at hgd;done)|(exfalso;simp at hgd;omega)|simp -implicitDefEqProofs (maxSteps:=2000000) [hP,hN,g0,g1,g2,g3,g4,g5])
    |with_reducible refine xTwo_intro ?_ ?_
    |(with_reducible refine xCondT_split (fun hcd=>?_) (fun hcd=>?_)<;>(try (exfalso;clear hP hN;simp_all;done))<;>(try (exfalso;simp at *;omega)))
    |with_reducible refine WPT.block ?_
    |(with_reducible ((first|refine WPT.skip ?_|refine WPT.exit ?_|refine WPT.ret ?_);simp [g0,g1,g2,g3,g4,g5])))
   all_goals exact ⟨.inr rfl,by simp [hx0]⟩
  rw [hra] at cra hcb
  have hrb : fromB rb 0 1048576=false:=by simpa using hcb.symm
  rw [hrb] at crb
  repeat' (first
   |with_reducible refine WPT.seq ?_
   |(with_reducible ((first|refine WPT.region hF (hn:=[]) (by kernel_rfl) ?_|refine xC_intro (ca) ?_|refine xC_intro (cb) ?_|refine xC_intro (cra) ?_|refine xC_intro (crb) ?_|refine WPT.cond' ?_);simp -implicitDefEqProofs (maxSteps:=2000000) [hP,hN,g0,g1,g2,g3,g4,g5]))
   |(with_reducible refine xB_split (by simp [g0,g1,g2,g3,g4,g5]) (fun hgd=>?_) (fun hgd=>?_)<;>first|(exfalso;simp at hgd;done)|(exfalso;simp at hgd;omega)|simp -implicitDefEqProofs (maxSteps:=2000000) [hP,hN,g0,g1,g2,g3,g4,g5])
   |with_reducible refine xTwo_intro ?_ ?_
   |(with_reducible refine xCondT_split (fun hcd=>?_) (fun hcd=>?_)<;>(try (exfalso;clear hP hN;simp_all;done))<;>(try (exfalso;simp at *;omega)))
   |with_reducible refine WPT.block ?_
   |(with_reducible ((first|refine WPT.skip ?_|refine WPT.exit ?_|refine WPT.ret ?_);simp [g0,g1,g2,g3,g4,g5])))
  all_goals exact ⟨.inr rfl,by simp [hx0]⟩
 |true=>
 have hk:=hok
 rw [hcb] at hk
 simp only [Bool.and_eq_true] at hk
 obtain ⟨⟨⟨hpa,hpb⟩,hra⟩,hrb⟩:=hk
 rw [hpa] at ca
 rw [hpb] at cb
 rw [hra] at cra
 rw [hrb] at crb
 rw [hok] at hcl
 simp only [if_true] at hcl
 rw [hcl] at hxs
 clear hcl hcb
 refine WPY.seq (WPY.mono (Q:=PieceQ E a ra b rb hints 0) ?_ ?_)
 ·refine WPY.walk fun C hP hN=>?_
  rw [hEN] at hN
  repeat' (first
   |with_reducible refine WPT.seq ?_
   |(with_reducible ((first|refine WPT.region hF (hn:=[]) (by kernel_rfl) ?_|refine xC_intro (ca) ?_|refine xC_intro (cb) ?_|refine xC_intro (cra) ?_|refine xC_intro (crb) ?_|refine WPT.cond' ?_);simp -implicitDefEqProofs (maxSteps:=2000000) [hP,hN,g0,g1,g2,g3,g4,g5]))
   |(with_reducible refine xB_split (by simp [g0,g1,g2,g3,g4,g5]) (fun hgd=>?_) (fun hgd=>?_)<;>first|(exfalso;simp at hgd;done)|(exfalso;simp at hgd;omega)|simp -implicitDefEqProofs (maxSteps:=2000000) [hP,hN,g0,g1,g2,g3,g4,g5])
   |with_reducible refine xTwo_intro ?_ ?_
   |(with_reducible refine xCondT_split (fun hcd=>?_) (fun hcd=>?_)<;>(try (exfalso;clear hP hN;simp_all;done))<;>(try (exfalso;simp at *;omega)))
   |with_reducible refine WPT.block ?_
   |(with_reducible ((first|refine WPT.skip ?_|refine WPT.exit ?_|refine WPT.ret ?_);simp [g0,g1,g2,g3,g4,g5])))
  all_goals exact ⟨rfl,rfl,by constructor<;>simp [pvO,upd,g0,g1,g2,g3,g4,g5]⟩
 clear g0 g1 g2 g3 g4 g5
 rintro e t i s h
 cases e with
 |ret=>exact ⟨.inr rfl,by obtain ⟨rfl,h⟩:=h;exact h⟩
 |normal=>
  obtain ⟨rfl,rfl,hG⟩:=h
  show WPY E _ _ _ _ _
  refine WPY.seq (WPY.mono (Q:=PieceQ E a ra b rb hints (hints.filter usableV).length) ?_ ?_)
  ·obtain ⟨g0,g1,g2,g3,g4,g5⟩:=hG
   refine WPY.seq ?_
   refine WPY.walk fun C hP hN=>?_
   rw [hEN] at hN
   repeat' (first
    |with_reducible refine WPT.seq ?_
    |(with_reducible ((first|refine WPT.region hF (hn:=[]) (by kernel_rfl) ?_|refine WPT.cond' ?_);simp -implicitDefEqProofs (maxSteps:=2000000) [hP,hN,g0,g1,g2,g3,g4,g5]))
    |(with_reducible refine xB_split (by simp [g0,g1,g2,g3,g4,g5]) (fun hgd=>?_) (fun hgd=>?_)<;>first|(exfalso;simp at hgd;done)|(exfalso;simp at hgd;omega)|simp -implicitDefEqProofs (maxSteps:=2000000) [hP,hN,g0,g1,g2,g3,g4,g5])
    |with_reducible refine xTwo_intro ?_ ?_
    |(with_reducible refine xCondT_split (fun hcd=>?_) (fun hcd=>?_)<;>(try (exfalso;clear hP hN;simp_all;done))<;>(try (exfalso;simp at *;omega)))
    |with_reducible refine WPT.block ?_
    |(with_reducible ((first|refine WPT.skip ?_|refine WPT.exit ?_|refine WPT.ret ?_);simp [g0,g1,g2,g3,g4,g5])))
   show WPY E _ _ _ _ _
   refine WPY.block ?_
   refine WPY.loopN hints.length (fun k t i s=>s=false∧i=((hints.take k).filter usableV).length∧CandT E.l a ra b rb hints t∧t 32=.pv (vecs hints)∧t 33=.pv (Z hints.length)∧t 34=.pv (Z k)) ?_ ?_
   ·refine ⟨rfl,rfl,?_,?_⟩
    ·constructor<;>simp [pvO,upd,g0,g1,g2,g3,g4,g5]
    ·simp [pvO,upd]
   clear g0 g1 g2 g3 g4 g5
   rintro k t i s hk ⟨rfl,rfl,⟨g0,g1,g2,g3,g4,g5⟩,g32,g33,g34⟩
   refine WPY.blocks fun C hP hN=>?_
   rw [hEN] at hN
   by_cases hlt : k < hints.length
   ·have hwr:=wr_succ hlt hl
    generalize hxe : hints[k]=v at *
    have hx : hints[k]?=some v:=by rw [List.getElem?_eq_getElem hlt,hxe]
    have cu:=d106 v
    have hft:=filter_take (p:=usableV) hx
    have htk : hints.take (k+1)=hints.take k++[v]:=by rw [List.take_add_one,hx];rfl
    refine WPYH.seq ?_
    repeat' (first
     |with_reducible refine WPT.seq ?_
     |(with_reducible ((first|refine WPT.region hF (hn:=[]) (by kernel_rfl) ?_|refine WPT.cond' ?_);simp -implicitDefEqProofs (maxSteps:=2000000) [hP,hN,g0,g1,g2,g3,g4,g5,g32,g33,g34,hlt]))
     |(with_reducible refine xB_split (by simp [g0,g1,g2,g3,g4,g5,g32,g33,g34,hlt]) (fun hgd=>?_) (fun hgd=>?_)<;>first|(exfalso;simp at hgd;done)|(exfalso;simp at hgd;omega)|simp -implicitDefEqProofs (maxSteps:=2000000) [hP,hN,g0,g1,g2,g3,g4,g5,g32,g33,g34,hlt])
     |with_reducible refine xTwo_intro ?_ ?_
     |(with_reducible refine xCondT_split (fun hcd=>?_) (fun hcd=>?_)<;>(try (exfalso;clear hP hN;simp_all;done))<;>(try (exfalso;simp at *;omega)))
     |with_reducible refine WPT.block ?_
     |(with_reducible ((first|refine WPT.skip ?_|refine WPT.exit ?_|refine WPT.ret ?_);simp [g0,g1,g2,g3,g4,g5,g32,g33,g34,hlt])))
    show WPYH E C _ _ _ _ _
    refine WPYH.seq ?_
    repeat' (first
     |with_reducible refine WPT.seq ?_
     |(with_reducible ((first|refine WPT.region hF (hn:=[]) (by kernel_rfl) ?_|refine WPT.cond' ?_);simp -implicitDefEqProofs (maxSteps:=2000000) [hP,hN,g0,g1,g2,g3,g4,g5,g32,g33,g34,hlt]))
     |(with_reducible refine xB_split (by simp [g0,g1,g2,g3,g4,g5,g32,g33,g34,hlt]) (fun hgd=>?_) (fun hgd=>?_)<;>first|(exfalso;simp at hgd;done)|(exfalso;simp at hgd;omega)|simp -implicitDefEqProofs (maxSteps:=2000000) [hP,hN,g0,g1,g2,g3,g4,g5,g32,g33,g34,hlt])
     |with_reducible refine xTwo_intro ?_ ?_
     |(with_reducible refine xCondT_split (fun hcd=>?_) (fun hcd=>?_)<;>(try (exfalso;clear hP hN;simp_all;done))<;>(try (exfalso;simp at *;omega)))
     |with_reducible refine WPT.block ?_
     |(with_reducible ((first|refine WPT.skip ?_|refine WPT.exit ?_|refine WPT.ret ?_);simp [g0,g1,g2,g3,g4,g5,g32,g33,g34,hlt])))
    refine WPT.skip ?_
    show WPYH E C _ _ _ _ _
    refine WPYH.seqY (WPYH.block ?_)
    refine WPYH.seq ?_
    repeat' (first
     |with_reducible refine WPT.seq ?_
     |(with_reducible ((first|refine WPT.region hF (hn:=[]) (by kernel_rfl) ?_|refine WPT.cond' ?_);simp -implicitDefEqProofs (maxSteps:=2000000) [hP,hN,g0,g1,g2,g3,g4,g5,g32,g33,g34,hlt,hx,hxe]))
     |(with_reducible refine xB_split (by simp [g0,g1,g2,g3,g4,g5,g32,g33,g34,hlt,hx,hxe]) (fun hgd=>?_) (fun hgd=>?_)<;>first|(exfalso;simp at hgd;done)|(exfalso;simp at hgd;omega)|simp -implicitDefEqProofs (maxSteps:=2000000) [hP,hN,g0,g1,g2,g3,g4,g5,g32,g33,g34,hlt,hx,hxe])
     |with_reducible refine xTwo_intro ?_ ?_
     |(with_reducible refine xCondT_split (fun hcd=>?_) (fun hcd=>?_)<;>(try (exfalso;clear hP hN;simp_all;done))<;>(try (exfalso;simp at *;omega)))
     |with_reducible refine WPT.block ?_
     |(with_reducible ((first|refine WPT.skip ?_|refine WPT.exit ?_|refine WPT.ret ?_);simp [g0,g1,g2,g3,g4,g5,g32,g33,g34,hlt,hx,hxe])))
    show WPYH E C _ _ _ _ _
    cases hu : usableV v with
    |true=>
     rw [hu] at cu
     have hi : E.xs[((hints.take k).filter usableV).length]?=some (encVec v):=by
      rw [hxs,hft,hu];simp
     refine WPYH.seqY (WPYH.yield (hn:=[]) (d:=43) (f:=41) (x:=42) (pre:=[_,_,_,_,_]) (post:=[_,_]) rfl (by kernel_rfl) rfl rfl rfl rfl (by rw [hEN];decide) ?_)
     rw [hEN]
     simp -implicitDefEqProofs (maxSteps:=2000000) [g0,g1,g2,g3,g4,g5,g32,g33,g34,hlt,hx,hxe]
     refine xC_intro cu ?_
     simp -implicitDefEqProofs (maxSteps:=2000000) [g0,g1,g2,g3,g4,g5,g32,g33,g34,hlt,hx,hxe,pvO]
     refine ⟨by simp [guardB,pvO,upd],hi,?_,?_⟩
     ·show WPY E _ _ _ _ _
      refine WPY.cond (b:=true) (by simp [pvO,upd]) (fun _=>WPY.ret ?_) (fun h=>by cases h)
      exact ⟨rfl,(List.getElem?_eq_some_iff.1 hi).1⟩
     ·show WPY E _ _ _ _ _
      refine WPY.cond (b:=false) (by simp [pvO,upd]) (fun h=>by cases h) (fun _=>WPY.skip ?_)
      show WPY E _ _ _ _ _
      clear hP hN
      refine WPY.walk fun C hP hN=>?_
      rw [hEN] at hN
      repeat' (first
       |with_reducible refine WPT.seq ?_
       |(with_reducible ((first|refine WPT.region hF (hn:=[]) (by kernel_rfl) ?_|refine WPT.cond' ?_);simp -implicitDefEqProofs (maxSteps:=2000000) [hP,hN,g0,g1,g2,g3,g4,g5,g32,g33,g34,hlt,hx,hxe,hwr,pvO]))
       |(with_reducible refine xB_split (by simp [g0,g1,g2,g3,g4,g5,g32,g33,g34,hlt,hx,hxe,hwr,pvO]) (fun hgd=>?_) (fun hgd=>?_)<;>first|(exfalso;simp at hgd;done)|(exfalso;simp at hgd;omega)|simp -implicitDefEqProofs (maxSteps:=2000000) [hP,hN,g0,g1,g2,g3,g4,g5,g32,g33,g34,hlt,hx,hxe,hwr,pvO])
       |with_reducible refine xTwo_intro ?_ ?_
       |(with_reducible refine xCondT_split (fun hcd=>?_) (fun hcd=>?_)<;>(try (exfalso;clear hP hN;simp_all;done))<;>(try (exfalso;simp at *;omega)))
       |with_reducible refine WPT.block ?_
       |(with_reducible ((first|refine WPT.skip ?_|refine WPT.exit ?_|refine WPT.ret ?_);simp [g0,g1,g2,g3,g4,g5,g32,g33,g34,hlt,hx,hxe,hwr,pvO])))
      repeat' (refine And.intro ?_ ?_)
      all_goals first|rfl|(rw [htk,List.filter_append];simp [hu];done)|(simp [hu,htk,pvO,upd,g32,g33,hwr];done)|(constructor<;>simp [pvO,upd,g0,g1,g2,g3,g4,g5])
    |false=>
     rw [hu] at cu
     refine WPYH.walk ?_
     repeat' (first
      |with_reducible refine WPT.seq ?_
      |(with_reducible ((first|refine WPT.region hF (hn:=[]) (by kernel_rfl) ?_|refine xC_intro (cu) ?_|refine WPT.cond' ?_);simp -implicitDefEqProofs (maxSteps:=2000000) [hP,hN,g0,g1,g2,g3,g4,g5,g32,g33,g34,hlt,hx,hxe]))
      |(with_reducible refine xB_split (by simp [g0,g1,g2,g3,g4,g5,g32,g33,g34,hlt,hx,hxe]) (fun hgd=>?_) (fun hgd=>?_)<;>first|(exfalso;simp at hgd;done)|(exfalso;simp at hgd;omega)|simp -implicitDefEqProofs (maxSteps:=2000000) [hP,hN,g0,g1,g2,g3,g4,g5,g32,g33,g34,hlt,hx,hxe])
      |with_reducible refine xTwo_intro ?_ ?_
      |(with_reducible refine xCondT_split (fun hcd=>?_) (fun hcd=>?_)<;>(try (exfalso;clear hP hN;simp_all;done))<;>(try (exfalso;simp at *;omega)))
      |with_reducible refine WPT.block ?_
      |(with_reducible ((first|refine WPT.skip ?_|refine WPT.exit ?_|refine WPT.ret ?_);simp [g0,g1,g2,g3,g4,g5,g32,g33,g34,hlt,hx,hxe])))
     show WPY E _ _ _ _ _
     clear hP hN
     refine WPY.walk fun C hP hN=>?_
     rw [hEN] at hN
     repeat' (first
      |with_reducible refine WPT.seq ?_
      |(with_reducible ((first|refine WPT.region hF (hn:=[]) (by kernel_rfl) ?_|refine WPT.cond' ?_);simp -implicitDefEqProofs (maxSteps:=2000000) [hP,hN,g0,g1,g2,g3,g4,g5,g32,g33,g34,hlt,hx,hxe,hwr,pvO]))
      |(with_reducible refine xB_split (by simp [g0,g1,g2,g3,g4,g5,g32,g33,g34,hlt,hx,hxe,hwr,pvO]) (fun hgd=>?_) (fun hgd=>?_)<;>first|(exfalso;simp at hgd;done)|(exfalso;simp at hgd;omega)|simp -implicitDefEqProofs (maxSteps:=2000000) [hP,hN,g0,g1,g2,g3,g4,g5,g32,g33,g34,hlt,hx,hxe,hwr,pvO])
      |with_reducible refine xTwo_intro ?_ ?_
      |(with_reducible refine xCondT_split (fun hcd=>?_) (fun hcd=>?_)<;>(try (exfalso;clear hP hN;simp_all;done))<;>(try (exfalso;simp at *;omega)))
      |with_reducible refine WPT.block ?_
      |(with_reducible ((first|refine WPT.skip ?_|refine WPT.exit ?_|refine WPT.ret ?_);simp [g0,g1,g2,g3,g4,g5,g32,g33,g34,hlt,hx,hxe,hwr,pvO])))
     repeat' (refine And.intro ?_ ?_)
     all_goals first|rfl|(rw [htk,List.filter_append];simp [hu];done)|(simp [hu,htk,pvO,upd,g32,g33,hwr];done)|(constructor<;>simp [pvO,upd,g0,g1,g2,g3,g4,g5])
   ·have hin : k=hints.length:=by omega
    subst hin
    refine WPYH.walk ?_
    repeat' (first
     |with_reducible refine WPT.seq ?_
     |(with_reducible ((first|refine WPT.region hF (hn:=[]) (by kernel_rfl) ?_|refine WPT.cond' ?_);simp -implicitDefEqProofs (maxSteps:=2000000) [hP,hN,g0,g1,g2,g3,g4,g5,g32,g33,g34]))
     |(with_reducible refine xB_split (by simp [g0,g1,g2,g3,g4,g5,g32,g33,g34]) (fun hgd=>?_) (fun hgd=>?_)<;>first|(exfalso;simp at hgd;done)|(exfalso;simp at hgd;omega)|simp -implicitDefEqProofs (maxSteps:=2000000) [hP,hN,g0,g1,g2,g3,g4,g5,g32,g33,g34])
     |with_reducible refine xTwo_intro ?_ ?_
     |(with_reducible refine xCondT_split (fun hcd=>?_) (fun hcd=>?_)<;>(try (exfalso;clear hP hN;simp_all;done))<;>(try (exfalso;simp at *;omega)))
     |with_reducible refine WPT.block ?_
     |(with_reducible ((first|refine WPT.skip ?_|refine WPT.exit ?_|refine WPT.ret ?_);simp [g0,g1,g2,g3,g4,g5,g32,g33,g34])))
    exact ⟨rfl,rfl,by constructor<;>simp [pvO,upd,g0,g1,g2,g3,g4,g5]⟩
  clear hG
  rintro e t i s h
  cases e with
  |ret=>exact ⟨.inr rfl,by obtain ⟨rfl,h⟩:=h;exact h⟩
  |normal=>
   obtain ⟨rfl,rfl,hG⟩:=h
   show WPY E _ _ _ _ _
   generalize hn1 : (hints.filter usableV).length=n1 at *
   refine WPY.seq (WPY.mono (Q:=PieceQ E a ra b rb hints (n1+(if meanB a b then [meanN a b] else []).length)) ?_ ?_)
   ·obtain ⟨g0,g1,g2,g3,g4,g5⟩:=hG
    refine WPY.blocks fun C hP hN=>?_
    rw [hEN] at hN
    have cm:=d120 a b ha hb
    refine WPYH.seq ?_
    cases hmb : meanB a b with
    |false=>
     rw [hmb] at cm
     repeat' (first
      |with_reducible refine WPT.seq ?_
      |(with_reducible ((first|refine WPT.region hF (hn:=[]) (by kernel_rfl) ?_|refine xC_intro (cm) ?_|refine WPT.cond' ?_);simp -implicitDefEqProofs (maxSteps:=2000000) [hP,hN,g0,g1,g2,g3,g4,g5]))
      |(with_reducible refine xB_split (by simp [g0,g1,g2,g3,g4,g5]) (fun hgd=>?_) (fun hgd=>?_)<;>first|(exfalso;simp at hgd;done)|(exfalso;simp at hgd;omega)|simp -implicitDefEqProofs (maxSteps:=2000000) [hP,hN,g0,g1,g2,g3,g4,g5])
      |with_reducible refine xTwo_intro ?_ ?_
      |(with_reducible refine xCondT_split (fun hcd=>?_) (fun hcd=>?_)<;>(try (exfalso;clear hP hN;simp_all;done))<;>(try (exfalso;simp at *;omega)))
      |with_reducible refine WPT.block ?_
      |(with_reducible ((first|refine WPT.skip ?_|refine WPT.exit ?_|refine WPT.ret ?_);simp [g0,g1,g2,g3,g4,g5])))
     show WPYH E C _ _ _ _ _
     refine WPYH.walk ?_
     repeat' (first
      |with_reducible refine WPT.seq ?_
      |(with_reducible ((first|refine WPT.region hF (hn:=[]) (by kernel_rfl) ?_|refine WPT.cond' ?_);simp -implicitDefEqProofs (maxSteps:=2000000) [hP,hN,g0,g1,g2,g3,g4,g5]))
      |(with_reducible refine xB_split (by simp [g0,g1,g2,g3,g4,g5]) (fun hgd=>?_) (fun hgd=>?_)<;>first|(exfalso;simp at hgd;done)|(exfalso;simp at hgd;omega)|simp -implicitDefEqProofs (maxSteps:=2000000) [hP,hN,g0,g1,g2,g3,g4,g5])
      |with_reducible refine xTwo_intro ?_ ?_
      |(with_reducible refine xCondT_split (fun hcd=>?_) (fun hcd=>?_)<;>(try (exfalso;clear hP hN;simp_all;done))<;>(try (exfalso;simp at *;omega)))
      |with_reducible refine WPT.block ?_
      |(with_reducible ((first|refine WPT.skip ?_|refine WPT.exit ?_|refine WPT.ret ?_);simp [g0,g1,g2,g3,g4,g5])))
     exact ⟨rfl,by simp,by constructor<;>simp [pvO,upd,g0,g1,g2,g3,g4,g5]⟩
    |true=>
     rw [hmb] at cm
     have hi : E.xs[n1]?=some (encVec (meanN a b)):=by rw [hxs,hmb,← hn1];simp
     generalize meanN a b=v at *
     repeat' (first
      |with_reducible refine WPT.seq ?_
      |(with_reducible ((first|refine WPT.region hF (hn:=[]) (by kernel_rfl) ?_|refine xC_intro (cm) ?_|refine WPT.cond' ?_);simp -implicitDefEqProofs (maxSteps:=2000000) [hP,hN,g0,g1,g2,g3,g4,g5]))
      |(with_reducible refine xB_split (by simp [g0,g1,g2,g3,g4,g5]) (fun hgd=>?_) (fun hgd=>?_)<;>first|(exfalso;simp at hgd;done)|(exfalso;simp at hgd;omega)|simp -implicitDefEqProofs (maxSteps:=2000000) [hP,hN,g0,g1,g2,g3,g4,g5])
      |with_reducible refine xTwo_intro ?_ ?_
      |(with_reducible refine xCondT_split (fun hcd=>?_) (fun hcd=>?_)<;>(try (exfalso;clear hP hN;simp_all;done))<;>(try (exfalso;simp at *;omega)))
      |with_reducible refine WPT.block ?_
      |(with_reducible ((first|refine WPT.skip ?_|refine WPT.exit ?_|refine WPT.ret ?_);simp [g0,g1,g2,g3,g4,g5])))
     show WPYH E C _ _ _ _ _
     refine WPYH.seqY (WPYH.yield (hn:=[]) (d:=57) (f:=55) (x:=56) (pre:=[_,_,_,_]) (post:=[_,_]) rfl (by kernel_rfl) rfl rfl rfl rfl (by rw [hEN];decide) ?_)
     rw [hEN]
     simp -implicitDefEqProofs (maxSteps:=2000000) [g0,g1,g2,g3,g4,g5,pvO]
     refine ⟨by simp [guardB,pvO,upd],hi,?_,?_⟩
     ·show WPY E _ _ _ _ _
      refine WPY.cond (b:=true) (by simp [pvO,upd]) (fun _=>WPY.ret ?_) (fun h=>by cases h)
      exact ⟨rfl,(List.getElem?_eq_some_iff.1 hi).1⟩
     ·show WPY E _ _ _ _ _
      refine WPY.cond (b:=false) (by simp [pvO,upd]) (fun h=>by cases h) (fun _=>WPY.skip ?_)
      exact ⟨rfl,rfl,by constructor<;>simp [pvO,upd,g0,g1,g2,g3,g4,g5]⟩
   clear hG
   rintro e t i s h
   cases e with
   |ret=>exact ⟨.inr rfl,by obtain ⟨rfl,h⟩:=h;exact h⟩
   |normal=>
    obtain ⟨rfl,rfl,hG⟩:=h
    show WPY E _ _ _ _ _
    generalize hml : (if meanB a b then [meanN a b] else [])=ml at *
    generalize hn2 : n1+ml.length=n2 at *
    refine WPY.seq (WPY.mono (Q:=PieceQ E a ra b rb hints (n2+6)) ?_ ?_)
    ·obtain ⟨g0,g1,g2,g3,g4,g5⟩:=hG
     have cax:=d121
     refine WPY.seq ?_
     refine WPY.walk fun C hP hN=>?_
     rw [hEN] at hN
     repeat' (first
      |with_reducible refine WPT.seq ?_
      |(with_reducible ((first|refine WPT.region hF (hn:=[]) (by kernel_rfl) ?_|refine xC_intro (cax) ?_|refine WPT.cond' ?_);simp -implicitDefEqProofs (maxSteps:=2000000) [hP,hN,g0,g1,g2,g3,g4,g5]))
      |(with_reducible refine xB_split (by simp [g0,g1,g2,g3,g4,g5]) (fun hgd=>?_) (fun hgd=>?_)<;>first|(exfalso;simp at hgd;done)|(exfalso;simp at hgd;omega)|simp -implicitDefEqProofs (maxSteps:=2000000) [hP,hN,g0,g1,g2,g3,g4,g5])
      |with_reducible refine xTwo_intro ?_ ?_
      |(with_reducible refine xCondT_split (fun hcd=>?_) (fun hcd=>?_)<;>(try (exfalso;clear hP hN;simp_all;done))<;>(try (exfalso;simp at *;omega)))
      |with_reducible refine WPT.block ?_
      |(with_reducible ((first|refine WPT.skip ?_|refine WPT.exit ?_|refine WPT.ret ?_);simp [g0,g1,g2,g3,g4,g5])))
     show WPY E _ _ _ _ _
     refine WPY.block ?_
     refine WPY.loopN 6 (fun k t i s=>s=false∧i=n2+k∧CandT E.l a ra b rb hints t∧t 60=.pv (vecs axesL)∧t 61=.pv (Z 6)∧t 62=.pv (Z k)) ?_ ?_
     ·refine ⟨rfl,rfl,?_,?_⟩
      ·constructor<;>simp [pvO,upd,g0,g1,g2,g3,g4,g5]
      ·simp [pvO,upd]
     clear g0 g1 g2 g3 g4 g5
     rintro k t i s hk ⟨rfl,rfl,⟨g0,g1,g2,g3,g4,g5⟩,g60,g61,g62⟩
     refine WPY.blocks fun C hP hN=>?_
     rw [hEN] at hN
     by_cases hlt : k < 6
     ·have hwr : IntKind.i64.wrap ((k : Int)+1)=(k : Int)+1:=wr_id (by omega) (by omega)
      have hltI : (k : Int) < 6:=by omega
      have hltL : k < axesL.length:=hlt
      generalize hxe : axesL[k]=v at *
      have hx : axesL[k]?=some v:=by rw [List.getElem?_eq_getElem hltL,hxe]
      have hi : E.xs[n2+k]?=some (encVec v):=by
       rw [hxs,← hn2,← hn1,List.getElem?_map,List.getElem?_append_right (by omega),List.getElem?_append_right (by omega),show (hints.filter usableV).length+ml.length+k - (hints.filter usableV).length - ml.length=k by omega,List.getElem?_append_left hltL,hx];rfl
      generalize axesL=AX at *
      refine WPYH.seq ?_
      repeat' (first
       |with_reducible refine WPT.seq ?_
       |(with_reducible ((first|refine WPT.region hF (hn:=[]) (by kernel_rfl) ?_|refine WPT.cond' ?_);simp -implicitDefEqProofs (maxSteps:=2000000) [hP,hN,g0,g1,g2,g3,g4,g5,g60,g61,g62,hlt,hltI]))
       |(with_reducible refine xB_split (by simp [g0,g1,g2,g3,g4,g5,g60,g61,g62,hlt,hltI]) (fun hgd=>?_) (fun hgd=>?_)<;>first|(exfalso;simp at hgd;done)|(exfalso;simp at hgd;omega)|simp -implicitDefEqProofs (maxSteps:=2000000) [hP,hN,g0,g1,g2,g3,g4,g5,g60,g61,g62,hlt,hltI])
       |with_reducible refine xTwo_intro ?_ ?_
       |(with_reducible refine xCondT_split (fun hcd=>?_) (fun hcd=>?_)<;>(try (exfalso;clear hP hN;simp_all;done))<;>(try (exfalso;simp at *;omega)))
       |with_reducible refine WPT.block ?_
       |(with_reducible ((first|refine WPT.skip ?_|refine WPT.exit ?_|refine WPT.ret ?_);simp [g0,g1,g2,g3,g4,g5,g60,g61,g62,hlt,hltI])))
      show WPYH E C _ _ _ _ _
      refine WPYH.seq ?_
      repeat' (first
       |with_reducible refine WPT.seq ?_
       |(with_reducible ((first|refine WPT.region hF (hn:=[]) (by kernel_rfl) ?_|refine WPT.cond' ?_);simp -implicitDefEqProofs (maxSteps:=2000000) [hP,hN,g0,g1,g2,g3,g4,g5,g60,g61,g62,hlt,hltI]))
       |(with_reducible refine xB_split (by simp [g0,g1,g2,g3,g4,g5,g60,g61,g62,hlt,hltI]) (fun hgd=>?_) (fun hgd=>?_)<;>first|(exfalso;simp at hgd;done)|(exfalso;simp at hgd;omega)|simp -implicitDefEqProofs (maxSteps:=2000000) [hP,hN,g0,g1,g2,g3,g4,g5,g60,g61,g62,hlt,hltI])
       |with_reducible refine xTwo_intro ?_ ?_
       |(with_reducible refine xCondT_split (fun hcd=>?_) (fun hcd=>?_)<;>(try (exfalso;clear hP hN;simp_all;done))<;>(try (exfalso;simp at *;omega)))
       |with_reducible refine WPT.block ?_
       |(with_reducible ((first|refine WPT.skip ?_|refine WPT.exit ?_|refine WPT.ret ?_);simp [g0,g1,g2,g3,g4,g5,g60,g61,g62,hlt,hltI])))
      refine WPT.skip ?_
      show WPYH E C _ _ _ _ _
      refine WPYH.seqY (WPYH.block ?_)
      refine WPYH.seq ?_
      repeat' (first
       |with_reducible refine WPT.seq ?_
       |(with_reducible ((first|refine WPT.region hF (hn:=[]) (by kernel_rfl) ?_|refine WPT.cond' ?_);simp -implicitDefEqProofs (maxSteps:=2000000) [hP,hN,g0,g1,g2,g3,g4,g5,g60,g61,g62,hlt,hltI,hltL,hx,hxe]))
       |(with_reducible refine xB_split (by simp [g0,g1,g2,g3,g4,g5,g60,g61,g62,hlt,hltI,hltL,hx,hxe]) (fun hgd=>?_) (fun hgd=>?_)<;>first|(exfalso;simp at hgd;done)|(exfalso;simp at hgd;omega)|simp -implicitDefEqProofs (maxSteps:=2000000) [hP,hN,g0,g1,g2,g3,g4,g5,g60,g61,g62,hlt,hltI,hltL,hx,hxe])
       |with_reducible refine xTwo_intro ?_ ?_
       |(with_reducible refine xCondT_split (fun hcd=>?_) (fun hcd=>?_)<;>(try (exfalso;clear hP hN;simp_all;done))<;>(try (exfalso;simp at *;omega)))
       |with_reducible refine WPT.block ?_
       |(with_reducible ((first|refine WPT.skip ?_|refine WPT.exit ?_|refine WPT.ret ?_);simp [g0,g1,g2,g3,g4,g5,g60,g61,g62,hlt,hltI,hltL,hx,hxe])))
      show WPYH E C _ _ _ _ _
      refine WPYH.seqY (WPYH.yield (hn:=[]) (d:=68) (f:=66) (x:=67) (pre:=[_,_]) (post:=[_]) rfl (by kernel_rfl) rfl rfl rfl rfl (by rw [hEN];decide) ?_)
      rw [hEN]
      simp -implicitDefEqProofs (maxSteps:=2000000) [g0,g1,g2,g3,g4,g5,g60,g61,g62,hltL,hx,hxe,pvO]
      refine ⟨by simp [guardB,pvO,upd],hi,?_,?_⟩
      ·show WPY E _ _ _ _ _
       refine WPY.cond (b:=true) (by simp [pvO,upd]) (fun _=>WPY.ret ?_) (fun h=>by cases h)
       exact ⟨rfl,(List.getElem?_eq_some_iff.1 hi).1⟩
      ·show WPY E _ _ _ _ _
       refine WPY.cond (b:=false) (by simp [pvO,upd]) (fun h=>by cases h) (fun _=>WPY.skip ?_)
       show WPY E _ _ _ _ _
       clear hP hN
       refine WPY.walk fun C hP hN=>?_
       rw [hEN] at hN
       repeat' (first
        |with_reducible refine WPT.seq ?_
        |(with_reducible ((first|refine WPT.region hF (hn:=[]) (by kernel_rfl) ?_|refine WPT.cond' ?_);simp -implicitDefEqProofs (maxSteps:=2000000) [hP,hN,g0,g1,g2,g3,g4,g5,g60,g61,g62,hwr,pvO]))
        |(with_reducible refine xB_split (by simp [g0,g1,g2,g3,g4,g5,g60,g61,g62,hwr,pvO]) (fun hgd=>?_) (fun hgd=>?_)<;>first|(exfalso;simp at hgd;done)|(exfalso;simp at hgd;omega)|simp -implicitDefEqProofs (maxSteps:=2000000) [hP,hN,g0,g1,g2,g3,g4,g5,g60,g61,g62,hwr,pvO])
        |with_reducible refine xTwo_intro ?_ ?_
        |(with_reducible refine xCondT_split (fun hcd=>?_) (fun hcd=>?_)<;>(try (exfalso;clear hP hN;simp_all;done))<;>(try (exfalso;simp at *;omega)))
        |with_reducible refine WPT.block ?_
        |(with_reducible ((first|refine WPT.skip ?_|refine WPT.exit ?_|refine WPT.ret ?_);simp [g0,g1,g2,g3,g4,g5,g60,g61,g62,hwr,pvO])))
       repeat' (refine And.intro ?_ ?_)
       all_goals first|rfl|(simp [pvO,upd,g60,g61,hwr];done)|(constructor<;>simp [pvO,upd,g0,g1,g2,g3,g4,g5])
     ·have hin : k=6:=by omega
      subst hin
      refine WPYH.walk ?_
      repeat' (first
       |with_reducible refine WPT.seq ?_
       |(with_reducible ((first|refine WPT.region hF (hn:=[]) (by kernel_rfl) ?_|refine WPT.cond' ?_);simp -implicitDefEqProofs (maxSteps:=2000000) [hP,hN,g0,g1,g2,g3,g4,g5,g60,g61,g62]))
       |(with_reducible refine xB_split (by simp [g0,g1,g2,g3,g4,g5,g60,g61,g62]) (fun hgd=>?_) (fun hgd=>?_)<;>first|(exfalso;simp at hgd;done)|(exfalso;simp at hgd;omega)|simp -implicitDefEqProofs (maxSteps:=2000000) [hP,hN,g0,g1,g2,g3,g4,g5,g60,g61,g62])
       |with_reducible refine xTwo_intro ?_ ?_
       |(with_reducible refine xCondT_split (fun hcd=>?_) (fun hcd=>?_)<;>(try (exfalso;clear hP hN;simp_all;done))<;>(try (exfalso;simp at *;omega)))
       |with_reducible refine WPT.block ?_
       |(with_reducible ((first|refine WPT.skip ?_|refine WPT.exit ?_|refine WPT.ret ?_);simp [g0,g1,g2,g3,g4,g5,g60,g61,g62])))
      exact ⟨rfl,rfl,by constructor<;>simp [pvO,upd,g0,g1,g2,g3,g4,g5]⟩
    clear hG
    rintro e t i s h
    cases e with
    |ret=>exact ⟨.inr rfl,by obtain ⟨rfl,h⟩:=h;exact h⟩
    |normal=>
     obtain ⟨rfl,rfl,⟨g0,g1,g2,g3,g4,g5⟩⟩:=h
     show WPY E _ _ _ _ _
     refine WPY.blocks fun C hP hN=>?_
     rw [hEN] at hN
     have c1:=d42 a ha
     have c2:=d42 b hb
     have hla:=(placedB_all hpa).2.1
     have hlb:=(placedB_all hpb).2.1
     have hca:=centers_len hpa
     have hcb:=centers_len hpb
     simp only [fromB,Bool.and_eq_true,decide_eq_true_eq] at hra hrb
     have hw : IntKind.i64.wrap (ra+rb)=ra+rb:=wr_id (by omega) (by omega)
     have c3:=d41 (centers a) (centers b) (ra+rb) 64 (by omega) (by omega)
     have hnn : (nrRes (centers a) (centers b) (ra+rb) 64).2.n=nearN a ra b rb:=rfl
     generalize nrRes (centers a) (centers b) (ra+rb) 64=R at *
     rw [← hnn] at hxs
     refine WPYH.draw (hn:=[]) (by kernel_rfl) (by kernel_rfl) ?_
     rw [hEN]
     simp -implicitDefEqProofs (maxSteps:=2000000) [g0,g1,g2,g3,g4,g5]
     refine yC_intro c1 ?_
     simp -implicitDefEqProofs (maxSteps:=2000000) [g0,g1,g2,g3,g4,g5]
     refine yC_intro c2 ?_
     simp -implicitDefEqProofs (maxSteps:=2000000) [g0,g1,g2,g3,g4,g5,hw]
     refine yC_intro c3 ?_
     simp -implicitDefEqProofs (maxSteps:=2000000) [g0,g1,g2,g3,g4,g5,hw]
     refine ⟨by kernel_rfl,?_⟩
     have cu:=d106 R.2.n
     refine WPYH.seq ?_
     cases hu : usableV R.2.n with
     |false=>
      rw [hu] at cu
      have hL : n2+6=E.xs.length:=by
       rw [hxs,hu,List.length_map,List.length_append,List.length_append,List.length_append,hn1]
       simp only [Bool.false_eq_true,if_false,List.length_cons,List.length_nil];omega
      repeat' (first
       |with_reducible refine WPT.seq ?_
       |(with_reducible ((first|refine WPT.region hF (hn:=[]) (by kernel_rfl) ?_|refine xC_intro (cu) ?_|refine WPT.cond' ?_);simp -implicitDefEqProofs (maxSteps:=2000000) [hP,hN,g0,g1,g2,g3,g4,g5]))
       |(with_reducible refine xB_split (by simp [g0,g1,g2,g3,g4,g5]) (fun hgd=>?_) (fun hgd=>?_)<;>first|(exfalso;simp at hgd;done)|(exfalso;simp at hgd;omega)|simp -implicitDefEqProofs (maxSteps:=2000000) [hP,hN,g0,g1,g2,g3,g4,g5])
       |with_reducible refine xTwo_intro ?_ ?_
       |(with_reducible refine xCondT_split (fun hcd=>?_) (fun hcd=>?_)<;>(try (exfalso;clear hP hN;simp_all;done))<;>(try (exfalso;simp at *;omega)))
       |with_reducible refine WPT.block ?_
       |(with_reducible ((first|refine WPT.skip ?_|refine WPT.exit ?_|refine WPT.ret ?_);simp [g0,g1,g2,g3,g4,g5])))
      show WPYH E C _ _ _ _ _
      refine WPYH.walk ?_
      repeat' (first
       |with_reducible refine WPT.seq ?_
       |(with_reducible ((first|refine WPT.region hF (hn:=[]) (by kernel_rfl) ?_|refine WPT.cond' ?_);simp -implicitDefEqProofs (maxSteps:=2000000) [hP,hN,g0,g1,g2,g3,g4,g5]))
       |(with_reducible refine xB_split (by simp [g0,g1,g2,g3,g4,g5]) (fun hgd=>?_) (fun hgd=>?_)<;>first|(exfalso;simp at hgd;done)|(exfalso;simp at hgd;omega)|simp -implicitDefEqProofs (maxSteps:=2000000) [hP,hN,g0,g1,g2,g3,g4,g5])
       |with_reducible refine xTwo_intro ?_ ?_
       |(with_reducible refine xCondT_split (fun hcd=>?_) (fun hcd=>?_)<;>(try (exfalso;clear hP hN;simp_all;done))<;>(try (exfalso;simp at *;omega)))
       |with_reducible refine WPT.block ?_
       |(with_reducible ((first|refine WPT.skip ?_|refine WPT.exit ?_|refine WPT.ret ?_);simp [g0,g1,g2,g3,g4,g5])))
      all_goals exact hL
     |true=>
      rw [hu] at cu
      have hL : n2+6+1=E.xs.length:=by
       rw [hxs,hu,List.length_map,List.length_append,List.length_append,List.length_append,hn1]
       simp only [if_true,List.length_cons,List.length_nil];omega
      have hi : E.xs[n2+6]?=some (encVec R.2.n):=by
       rw [hxs,hu,← hn2,← hn1,List.getElem?_map,List.getElem?_append_right (by omega),List.getElem?_append_right (by omega),show (hints.filter usableV).length+ml.length+6 - (hints.filter usableV).length - ml.length=6 by omega,List.getElem?_append_right (by decide)];rfl
      repeat' (first
       |with_reducible refine WPT.seq ?_
       |(with_reducible ((first|refine WPT.region hF (hn:=[]) (by kernel_rfl) ?_|refine xC_intro (cu) ?_|refine WPT.cond' ?_);simp -implicitDefEqProofs (maxSteps:=2000000) [hP,hN,g0,g1,g2,g3,g4,g5]))
       |(with_reducible refine xB_split (by simp [g0,g1,g2,g3,g4,g5]) (fun hgd=>?_) (fun hgd=>?_)<;>first|(exfalso;simp at hgd;done)|(exfalso;simp at hgd;omega)|simp -implicitDefEqProofs (maxSteps:=2000000) [hP,hN,g0,g1,g2,g3,g4,g5])
       |with_reducible refine xTwo_intro ?_ ?_
       |(with_reducible refine xCondT_split (fun hcd=>?_) (fun hcd=>?_)<;>(try (exfalso;clear hP hN;simp_all;done))<;>(try (exfalso;simp at *;omega)))
       |with_reducible refine WPT.block ?_
       |(with_reducible ((first|refine WPT.skip ?_|refine WPT.exit ?_|refine WPT.ret ?_);simp [g0,g1,g2,g3,g4,g5])))
      show WPYH E C _ _ _ _ _
      refine WPYH.cond (m:=81) (b:=true) (by simp) (fun _=>?_) (fun h=>by cases h)
      refine WPYH.yield (hn:=[]) (d:=85) (f:=82) (x:=84) (pre:=[_,_,_]) (post:=[]) rfl (by kernel_rfl) rfl rfl rfl rfl (by rw [hEN];decide) ?_
      rw [hEN]
      simp -implicitDefEqProofs (maxSteps:=2000000) [g0,g1,g2,g3,g4,g5,pvO]
      exact ⟨rfl,hi,by omega,hL⟩
    |_=>exact h.elim
   |_=>exact h.elim
  |_=>exact h.elim
 |_=>exact h.elim
end Go.Ab
namespace Go.Ab
open Go.Proofs
set_option maxRecDepth 100000 in
theorem quietIn72 : QuietIn Tryz.prog 72:=by
 refine ⟨by kernel_rfl,fun n args w=>?_⟩
 refine callsDIn_of_wpSIn Tryz.func72 rfl trivial fun c₀ cs hu=>?_
 apply wpSIn_seq
 apply wpSIn_region
 have hk : ∀ k,k < Tryz.f72.ntmps→k < args.size+(Tryz.f72.ntmps - args.size):=by intro k h;omega
 rw [Tryz.ntmps72] at hk
 have h0:=hk 0 (by decide)
 have h1:=hk 1 (by decide)
 have h2:=hk 2 (by decide)
 have h3:=hk 3 (by decide)
 simp [wpOpsSIn,go_sem,recoverD,hu,Tryz.ntmps72,Exit.thenS,h0,h1,h2,h3]
 refine wpSIn_cond (t:=false) (by simp [Act.eval,h0,h1,h2,h3]) ?_
 simp only [Bool.false_eq_true,if_false]
 refine wpSIn_of_wpIn rfl (wpIn_skip ?_)
 cases c₀
 simp_all [bodyPostS,results,Tryz.results72]
def findR (a : List IVc) (ra : Int) (b : List IVc) (rb : Int) (hints : List Vc) : Vc × Bool:=match (candL a ra b rb hints).find? (fun n=>sepB n a ra b rb) with
 |some n=>(n,true)
 |none=>((0,0,0),false)
theorem find_none {α : Type} {p : α→Bool} {l : List α} (h : ∀ j x,j < l.length→l[j]?=some x→p x=false) : l.find? p=none:=by
 rw [List.find?_eq_none]
 intro x hx
 obtain ⟨j,hj,rfl⟩:=List.mem_iff_getElem.1 hx
 rw [h j _ hj (List.getElem?_eq_getElem hj)];simp
theorem find_some {α : Type} {p : α→Bool} : ∀ {l : List α} {i : Nat} {v : α},l[i]?=some v→p v=true→(∀ j x,j < i→l[j]?=some x→p x=false)→l.find? p=some v
 |[],i,v,h,_,_=>by simp at h
 |y :: l,0,v,h,hp,_=>by simp at h;subst h;simp [hp]
 |y :: l,i+1,v,h,hp,hq=>by
  have h0:=hq 0 y (by omega) rfl
  rw [List.find?_cons,h0]
  exact find_some (by simpa using h) hp fun j x hj hx=>hq (j+1) x (by omega) (by simpa using hx)
abbrev findK : List Nat:=[5,6,7,8,10,11]
abbrev findH (a : List IVc) (ra : Int) (b : List IVc) (rb : Int) : Nat→List PV:=fun k=>if k=5 then [ivcs a] else if k=6 then [Z ra] else if k=7 then [ivcs b] else if k=8 then [Z rb] else if k=10 then [Z 0,Z 0,Z 0] else [B false]
structure FindI (a : List IVc) (ra : Int) (b : List IVc) (rb : Int) (n : Vc) (k : Bool) (h : Hp) : Prop where
 h5 : h 5=some (.box [.pv (ivcs a)] false false)
 h6 : h 6=some (.box [.pv (Z ra)] false false)
 h7 : h 7=some (.box [.pv (ivcs b)] false false)
 h8 : h 8=some (.box [.pv (Z rb)] false false)
 h10 : h 10=some (.box [.pv (Z n.1),.pv (Z n.2.1),.pv (Z n.2.2)] false false)
 h11 : h 11=some (.box [.pv (B k)] false false)
theorem FindI.all {a : List IVc} {ra : Int} {b : List IVc} {rb : Int} {n : Vc} {k : Bool} {h : Hp} (H : FindI a ra b rb n k h) {j : Nat} (hj : j ∈ findK) : ∃ cs,h j=some (.box cs false false):=by
 simp only [List.mem_cons,List.not_mem_nil,or_false] at hj
 rcases hj with rfl|rfl|rfl|rfl|rfl|rfl
 ·exact ⟨_,H.h5⟩
 ·exact ⟨_,H.h6⟩
 ·exact ⟨_,H.h7⟩
 ·exact ⟨_,H.h8⟩
 ·exact ⟨_,H.h10⟩
 ·exact ⟨_,H.h11⟩
def NoSep (a : List IVc) (ra : Int) (b : List IVc) (rb : Int) (CL : List Vc) (i : Nat) : Prop:=∀ j x,j < i→CL[j]?=some x→sepB x a ra b rb=false
def FindX (a : List IVc) (ra : Int) (b : List IVc) (rb : Int) (CL : List Vc) (i : Nat) (h : Hp) : Prop:=∃ n,CL[i]?=some n∧sepB n a ra b rb=true∧FindI a ra b rb n true h∧NoSep a ra b rb CL i
set_option maxRecDepth 100000 in
set_option maxHeartbeats 8000000 in
theorem d40 (a : List IVc) (ra : Int) (b : List IVc) (rb : Int) (hints : List Vc) (ha : a.length≤9223372036854775807) (hb : b.length≤9223372036854775807) (hl : hints.length≤9223372036854775807) : DetH Tryz.prog 40 [.pv (ivcs a),.pv (Z ra),.pv (ivcs b),.pv (Z rb),.pv (vecs hints)] [] [] (.pv (.tup [encVec (findR a ra b rb hints).1,B (findR a ra b rb hints).2])):=by
 have hfr : findR a ra b rb hints=match (candL a ra b rb hints).find? (fun n=>sepB n a ra b rb) with
  |some n=>(n,true)
  |none=>((0,0,0),false):=rfl
 have hit:=i118 a ra b rb hints ha hb hl
 generalize candL a ra b rb hints=CL at *
 refine detF_of (args:=[ivcs a,Z ra,ivcs b,Z rb,vecs hints]) Tryz.func40 rfl (by kernel_rfl) (by simp [Tryz.f40]) ?_
 intro C hP hN hCS
 simp only [Tryz.f40] at hN ⊢
 have hF:=wide_wide
 refine WPF.seq hCS ?_
 repeat' (first
  |with_reducible refine WPT.seq ?_
  |(with_reducible ((first|refine WPT.region hF (hn:=[]) (by kernel_rfl) ?_|refine WPT.cond' ?_);simp -implicitDefEqProofs (maxSteps:=2000000) [hP,hN]))
  |(with_reducible refine xB_split (by simp) (fun hgd=>?_) (fun hgd=>?_)<;>first|(exfalso;simp at hgd;done)|(exfalso;simp at hgd;omega)|simp -implicitDefEqProofs (maxSteps:=2000000) [hP,hN])
  |with_reducible refine xTwo_intro ?_ ?_
  |(with_reducible refine xCondT_split (fun hcd=>?_) (fun hcd=>?_)<;>(try (exfalso;clear hP hN;simp_all;done))<;>(try (exfalso;simp at *;omega)))
  |with_reducible refine WPT.block ?_
  |(with_reducible ((first|refine WPT.skip ?_|refine WPT.exit ?_|refine WPT.ret ?_);simp)))
 refine WPF.defer (pre:=[_]) (hn:=[]) (g:=72) rfl (fun o ho c' hc'=>by simp at ho;subst ho;cases hc') rfl rfl rfl rfl rfl (by rw [hP];exact quietIn72) ?_
 simp -implicitDefEqProofs [hP,hN]
 refine WPF.rangeS (kd:=[12]) hCS (gf:=118) (caps:=candCaps a ra b rb hints) (xs:=CL.map encVec) (by rw [hP];exact hit) (by rw [hN];decide) (ks:=findK) (hin:=findH a ra b rb) (t:=fun m=>if m ∈ findK then .ptr m 0 else .undef) ?_ (fun i h=>FindI a ra b rb (0,0,0) false h∧h 12=none∧NoSep a ra b rb CL i) (fun i h=>FindX a ra b rb CL i h) ?_ ?_ ?_ ?_ (by kernel_rfl) (hn:=[]) ?_ ?_
 ·skip
  repeat' (first
   |with_reducible refine WPT.seq ?_
   |(with_reducible ((first|refine WPT.region hF (hn:=[]) (by kernel_rfl) ?_|refine xC_intro (d73 a ra b rb hints) ?_|refine WPT.cond' ?_);simp -implicitDefEqProofs (maxSteps:=2000000) [hP,hN]))
   |(with_reducible refine xB_split (by simp) (fun hgd=>?_) (fun hgd=>?_)<;>first|(exfalso;simp at hgd;done)|(exfalso;simp at hgd;omega)|simp -implicitDefEqProofs (maxSteps:=2000000) [hP,hN])
   |with_reducible refine xTwo_intro ?_ ?_
   |(with_reducible refine xCondT_split (fun hcd=>?_) (fun hcd=>?_)<;>(try (exfalso;clear hP hN;simp_all;done))<;>(try (exfalso;simp at *;omega)))
   |with_reducible refine WPT.block ?_
   |(with_reducible ((first|refine WPT.skip ?_|refine WPT.exit ?_|refine WPT.ret ?_);simp)))
  refine ⟨⟨rfl,rfl,rfl,rfl,rfl,rfl⟩,fun m=>?_⟩
  by_cases hm : m=5∨m=6∨m=7∨m=8∨m=10∨m=11
  ·rcases hm with rfl|rfl|rfl|rfl|rfl|rfl<;>simp
  ·simp only [if_neg hm];simp
   omega
 ·refine ⟨by constructor<;>rfl,rfl,fun j x hj=>by omega⟩
 ·rintro i h k hk ⟨hi,_⟩
  exact hi.all hk
 ·rintro i h k hk ⟨n,_,_,hi,_⟩
  exact hi.all hk
 ·intro C1 C2 l i x h hP1 hN1 hP2 hN2 hx ⟨hI,q12,hq⟩
  rw [List.getElem?_map,Option.map_eq_some_iff] at hx
  obtain ⟨v,hx,rfl⟩:=hx
  have hF:=wide_round l
  have hP0:=hP
  have hN0:=hN
  clear hP hN
  have hP:=hP1.trans hP0
  have hN:=hN1.trans hN0
  have hPb:=hP2.trans hP0
  have hNb:=hN2.trans hN0
  obtain ⟨q5,q6,q7,q8,q10,q11⟩:=hI
  have cs:=d74 v a ra b rb ha hb
  cases hsp : sepB v a ra b rb with
  |true=>
   rw [hsp] at cs
   repeat' (first
    |with_reducible refine WPT.seq ?_
    |(with_reducible ((first|refine WPT.region hF (hn:=[]) (by kernel_rfl) ?_|refine xC_intro (cs) ?_|refine WPT.cond' ?_);simp -implicitDefEqProofs (maxSteps:=2000000) [hP,hN,hPb,hNb,setP1,q5,q6,q7,q8,q10,q11,q12]))
    |(with_reducible refine xB_split (by simp [hPb,hNb,setP1,q5,q6,q7,q8,q10,q11,q12]) (fun hgd=>?_) (fun hgd=>?_)<;>first|(exfalso;simp at hgd;done)|(exfalso;simp at hgd;omega)|simp -implicitDefEqProofs (maxSteps:=2000000) [hP,hN,hPb,hNb,setP1,q5,q6,q7,q8,q10,q11,q12])
    |with_reducible refine xTwo_intro ?_ ?_
    |(with_reducible refine xCondT_split (fun hcd=>?_) (fun hcd=>?_)<;>(try (exfalso;clear hP hN;simp_all;done))<;>(try (exfalso;simp at *;omega)))
    |with_reducible refine WPT.block ?_
    |(with_reducible ((first|refine WPT.skip ?_|refine WPT.exit ?_|refine WPT.ret ?_);simp [hPb,hNb,setP1,q5,q6,q7,q8,q10,q11,q12])))
   exact ⟨v,hx,hsp,by constructor<;>simp [q5,q6,q7,q8,q10,q11],hq⟩
  |false=>
   rw [hsp] at cs
   repeat' (first
    |with_reducible refine WPT.seq ?_
    |(with_reducible ((first|refine WPT.region hF (hn:=[]) (by kernel_rfl) ?_|refine xC_intro (cs) ?_|refine WPT.cond' ?_);simp -implicitDefEqProofs (maxSteps:=2000000) [hP,hN,hPb,hNb,setP1,q5,q6,q7,q8,q10,q11,q12]))
    |(with_reducible refine xB_split (by simp [hPb,hNb,setP1,q5,q6,q7,q8,q10,q11,q12]) (fun hgd=>?_) (fun hgd=>?_)<;>first|(exfalso;simp at hgd;done)|(exfalso;simp at hgd;omega)|simp -implicitDefEqProofs (maxSteps:=2000000) [hP,hN,hPb,hNb,setP1,q5,q6,q7,q8,q10,q11,q12])
    |with_reducible refine xTwo_intro ?_ ?_
    |(with_reducible refine xCondT_split (fun hcd=>?_) (fun hcd=>?_)<;>(try (exfalso;clear hP hN;simp_all;done))<;>(try (exfalso;simp at *;omega)))
    |with_reducible refine WPT.block ?_
    |(with_reducible ((first|refine WPT.skip ?_|refine WPT.exit ?_|refine WPT.ret ?_);simp [hPb,hNb,setP1,q5,q6,q7,q8,q10,q11,q12])))
   refine ⟨by constructor<;>simp [St.kill,killB,killA,q5,q6,q7,q8,q10,q11],by simp [St.kill],fun j x hj hx'=>?_⟩
   by_cases e : j=i
   ·subst e;rw [hx] at hx';injection hx' with hx';subst hx';exact hsp
   ·exact hq j x (by omega) hx'
 ·rintro h ⟨⟨q5,q6,q7,q8,q10,q11⟩,q12,hq⟩
  rw [List.length_map] at hq
  have hn : CL.find? (fun n=>sepB n a ra b rb)=none:=find_none hq
  rw [hn] at hfr
  rw [hfr]
  simp -implicitDefEqProofs [hP,hN,q5,q6,q7,q8,q10,q11]
 ·rintro i h hi ⟨n,hn1,hn2,⟨q5,q6,q7,q8,q10,q11⟩,hq⟩
  rw [find_some hn1 hn2 hq] at hfr
  rw [hfr]
  simp -implicitDefEqProofs [hP,hN,q5,q6,q7,q8,q10,q11]
end Go.Ab
namespace Go.Ab
open Go.Proofs
abbrev encBd (SH : List Sh) (PR : List (Nat × Nat)) (PT : List (List IVc)) : PV:=.agg [.sl (SH.map encSh),.sl (PR.map encPr),.sl (PT.map ivcs)]
abbrev encCp (a b : List IVc) (ra rb : Int) : PV:=.agg [ivcs a,ivcs b,Z ra,Z rb]
def ptO (PT : List (List IVc)) (i : Nat) : List IVc:=(PT[i]?).getD []
def rdO (SH : List Sh) (i : Nat) : Int:=((SH[i]?).map Sh.rad).getD 0
structure BdOk (SH : List Sh) (PR : List (Nat × Nat)) (PT : List (List IVc)) : Prop where
 len : PT.length=SH.length
 prs : ∀ p ∈ PR,p.1 < SH.length∧p.2 < SH.length
 small : SH.length≤24
 few : PR.length≤576
 pts : ∀ l ∈ PT,l.length≤8
set_option maxHeartbeats 4000000 in
theorem d39 (SH : List Sh) (PR : List (Nat × Nat)) (PT : List (List IVc)) (hb : BdOk SH PR PT) (k : Nat) (p : Nat × Nat) (hp : PR[k]?=some p) : DetH Tryz.prog 39 [.pv (encBd SH PR PT),.pv (Z k)] [] [] (.pv (encCp (ptO PT p.1) (ptO PT p.2) (rdO SH p.1) (rdO SH p.2))):=by
 obtain ⟨hlt,hpe⟩:=List.getElem?_eq_some_iff.1 hp
 obtain ⟨i,j⟩:=p
 have hpr:=hb.prs _ (List.mem_of_getElem? hp)
 simp only at hpr
 have hl:=hb.len
 have hxk : ∀ h,PR[k]'h=(i,j):=fun _=>hpe
 have i1 : i < PT.length:=by omega
 have j1 : j < PT.length:=by omega
 obtain ⟨a,ha⟩ : ∃ x,PT[i]?=some x:=⟨_,List.getElem?_eq_getElem i1⟩
 obtain ⟨b,hb'⟩ : ∃ x,PT[j]?=some x:=⟨_,List.getElem?_eq_getElem j1⟩
 obtain ⟨u,hu⟩ : ∃ x,SH[i]?=some x:=⟨_,List.getElem?_eq_getElem hpr.1⟩
 obtain ⟨v,hv⟩ : ∃ x,SH[j]?=some x:=⟨_,List.getElem?_eq_getElem hpr.2⟩
 have hxa : ∀ h,PT[i]'h=a:=fun h=>by rw [List.getElem?_eq_getElem h] at ha;exact Option.some.inj ha
 have hxb : ∀ h,PT[j]'h=b:=fun h=>by rw [List.getElem?_eq_getElem h] at hb';exact Option.some.inj hb'
 have hxu : ∀ h,SH[i]'h=u:=fun h=>by rw [List.getElem?_eq_getElem h] at hu;exact Option.some.inj hu
 have hxv : ∀ h,SH[j]'h=v:=fun h=>by rw [List.getElem?_eq_getElem h] at hv;exact Option.some.inj hv
 have e1 : ptO PT i=a:=by simp [ptO,ha]
 have e2 : ptO PT j=b:=by simp [ptO,hb']
 have e3 : rdO SH i=u.rad:=by simp [rdO,hu]
 have e4 : rdO SH j=v.rad:=by simp [rdO,hv]
 rw [e1,e2,e3,e4]
 obtain ⟨h1,h2⟩:=hpr
 refine detP_of Tryz.func39 rfl (by kernel_rfl) (by simp [Tryz.f39]) rfl ?_
 intro C hP hN
 simp only [Tryz.f39] at hN ⊢
 with_reducible repeat' (first|refine Sp.h ?_|((first|refine Wd ?_|refine Ss.h ?_|(refine Sb.h ?_ ?_ ?_<;>(try intro hgd)<;>try exact Xy))<;>simp -implicitDefEqProofs (maxSteps:=2000000) [hP,hN,hlt,hp,hxk,i1,j1,h1,h2,ha,hb',hu,hv,hxa,hxb,hxu,hxv]<;>try refine Ya ?_)|refine X2 ?_ ?_|(refine Xd ?_ ?_<;>intro hcd<;>try exact Xx))
def placeOk (s : Sce) (bx : List Iv) : Bool:=decide (checkS s=0) && isBoxB s.js bx
theorem pairsL_mem {s : Sce} {p : Nat × Nat} (h : p ∈ pairsL s) : p.1 < p.2∧p.2 < s.shs.length∧pairAt s p.1 p.2=true:=by
 have hI : ∀ i k,k≤s.shs.length→p ∈ prI s i k→p.1 < p.2∧p.2 < s.shs.length∧pairAt s p.1 p.2=true:=by
  intro i k
  induction k with
  |zero=>intro _ h;cases h
  |succ k ih=>
   intro hk h
   rw [prI,List.mem_append] at h
   rcases h with h|h
   ·exact ih (by omega) h
   ·split at h
    ·rename_i hc
     rw [List.mem_singleton] at h;subst h
     exact ⟨hc.1,by omega,hc.2⟩
    ·cases h
 have hN : ∀ i,p ∈ prN s i→p.1 < p.2∧p.2 < s.shs.length∧pairAt s p.1 p.2=true:=by
  intro i
  induction i with
  |zero=>intro h;cases h
  |succ i ih=>
   intro h
   rw [prN,List.mem_append] at h
   rcases h with h|h
   ·exact ih h
   ·exact hI i _ (Nat.le_refl _) h
 unfold pairsL at h
 split at h
 ·exact hN _ h
 ·cases h
theorem bdOk {s : Sce} {bx : List Iv} (h : placeOk s bx=true) : BdOk s.shs (pairsL s) (pointsL s bx):=by
 simp only [placeOk,Bool.and_eq_true,decide_eq_true_eq] at h
 obtain ⟨v1,v2,v3,v4,v5,v6,v7⟩:=checkS_ok h.1
 have hl:=prN_len s s.shs.length
 have hm : s.shs.length * s.shs.length≤24 * 24:=Nat.mul_le_mul v4 v4
 refine ⟨by simp [pointsL],fun p hp=>?_,v4,?_,fun l hl=>?_⟩
 ·have:=pairsL_mem hp;omega
 ·unfold pairsL;rw [if_pos h.1];omega
 ·obtain ⟨x,hx,rfl⟩:=List.mem_map.1 hl
  have:=(v6 x hx).2
  simp only [shapeB,Bool.and_eq_true,decide_eq_true_eq] at this
  simp only [placeL,List.length_map];omega
def VldTo (bx : List Iv) (i : Nat) : Prop:=∀ k x,k < i→bx[k]?=some x→vI x=true
set_option maxHeartbeats 4000000 in
theorem d38 (s : Sce) (bx : List Iv) (hs : ScL s) (hbl : bx.length≤9223372036854775807) : DetH Tryz.prog 38 [.pv (encSc s),.pv (iv bx)] [] [] (.pv (.tup (if placeOk s bx then [encBd s.shs (pairsL s) (pointsL s bx),B true] else [encBd [] [] [],B false]))):=by
 have hd : placeOk s bx=(decide (checkS s=0) && (decide (bx.length=s.js.length) && bx.all vI)):=rfl
 have cc:=d68 s hs
 have hjl:=hs.js
 by_cases h0 : checkS s=0
 case neg=>
  have h0' : (checkS s !=0)=true:=by simp [h0]
  rw [decide_eq_false h0,Bool.false_and] at hd
  rw [hd]
  refine detP_of Tryz.func38 rfl (by kernel_rfl) (by simp [Tryz.f38]) rfl ?_
  intro C hP hN
  simp only [Tryz.f38] at hN ⊢
  with_reducible repeat' (first|refine Sp.h ?_|((first|refine Wd ?_|refine Ss.h ?_|refine Sc.h (cc) ?_|(refine Sb.h ?_ ?_ ?_<;>(try intro hgd)<;>try exact Xy))<;>simp -implicitDefEqProofs (maxSteps:=2000000) [hP,hN,h0,h0']<;>try refine Ya ?_)|refine X2 ?_ ?_|(refine Xd ?_ ?_<;>intro hcd<;>try exact Xx))
 have h0' : (checkS s !=0)=false:=by simp [h0]
 by_cases h1 : bx.length=s.js.length
 case neg=>
  have h1' : ((bx.length : Int) !=(s.js.length : Int))=true:=by simp;omega
  have h1'' : ¬ (bx.length : Int)=(s.js.length : Int):=by omega
  rw [decide_eq_false h1,Bool.false_and,Bool.and_false] at hd
  rw [hd]
  refine detP_of Tryz.func38 rfl (by kernel_rfl) (by simp [Tryz.f38]) rfl ?_
  intro C hP hN
  simp only [Tryz.f38] at hN ⊢
  with_reducible repeat' (first|refine Sp.h ?_|((first|refine Wd ?_|refine Ss.h ?_|refine Sc.h (cc) ?_|(refine Sb.h ?_ ?_ ?_<;>(try intro hgd)<;>try exact Xy))<;>simp -implicitDefEqProofs (maxSteps:=2000000) [hP,hN,h0,h0',h1',h1'']<;>try refine Ya ?_)|refine X2 ?_ ?_|(refine Xd ?_ ?_<;>intro hcd<;>try exact Xx))
 have h1' : ((bx.length : Int) !=(s.js.length : Int))=false:=by simp [h1]
 have hI : isBoxB s.js bx=bx.all vI:=by
  show (decide (bx.length=s.js.length) && bx.all vI)=_
  rw [decide_eq_true h1,Bool.true_and]
 rw [decide_eq_true h0,decide_eq_true h1,Bool.true_and,Bool.true_and] at hd
 rw [hd]
 have cP:=d71 s bx hs h0
 rw [hI] at cP
 have cR:=d70 s hs
 generalize pointsL s bx=PT at *
 generalize pairsL s=PR at *
 refine detP_of Tryz.func38 rfl (by kernel_rfl) (by simp [Tryz.f38]) rfl ?_
 intro C hP hN
 simp only [Tryz.f38] at hN ⊢
 with_reducible repeat' (first|refine Sp.h ?_|((first|refine Wd ?_|refine Ss.h ?_|refine Sc.h (cc) ?_|(refine Sb.h ?_ ?_ ?_<;>(try intro hgd)<;>try exact Xy))<;>simp -implicitDefEqProofs (maxSteps:=2000000) [hP,hN,h0,h0',h1',h1]<;>try refine Ya ?_)|refine X2 ?_ ?_|(refine Xd ?_ ?_<;>intro hcd<;>try exact Xx))
 refine WP.loopN [7] bx.length (fun i st=>st.t 1=.pv (iv bx)∧st.t 2=.ptr 2 0∧st.h 2=some (.box [.pv (.sl (s.js.map encJ)),.pv (.sl (s.ms.map encM)),.pv (.sl (s.shs.map encSh)),.pv (.sl (s.sks.map encI))] true false)∧st.t 4=.ptr 4 0∧st.h 4=some (.box [.pv (.val (.slice none 0 0)),.pv (.val (.slice none 0 0)),.pv (.val (.slice none 0 0))] true false)∧st.t 21=.pv (iv bx)∧st.t 22=.pv (Z bx.length)∧st.t 23=.pv (Z i)∧st.h 7=none∧VldTo bx i) ?_ ?_
 ·simp [h1]
  exact fun k x hk=>by omega
 rintro i st hi ⟨g1,g2,hb2,g4,hb4,g21,g22,g23,hb7,hq⟩
 by_cases hlt : i < bx.length
 ·have hwr:=wr_succ hlt hbl
  generalize hxe : bx[i]=v at *
  have hx : bx[i]?=some v:=by rw [List.getElem?_eq_getElem hlt,hxe]
  have cv:=d69 v.1 v.2
  have hvI : vI v=validB v.1 v.2:=rfl
  have hst:=allS (p:=vI) hx hq
  cases hvb : validB v.1 v.2 with
  |true=>
   rw [hvb] at cv
   have hst' : VldTo bx (i+1):=hst hvb
   with_reducible repeat' (first|refine Sp.h ?_|((first|refine Wd ?_|refine Ss.h ?_|refine Sc.h (cv) ?_|(refine Sb.h ?_ ?_ ?_<;>(try intro hgd)<;>try exact Xy))<;>simp -implicitDefEqProofs (maxSteps:=2000000) [hP,hN,g1,g2,hb2,g4,hb4,g21,g22,g23,hb7,hlt,hx,hxe,hwr]<;>try refine Ya ?_)|refine X2 ?_ ?_|(refine Xd ?_ ?_<;>intro hcd<;>try exact Xx))
   all_goals exact hst'
  |false=>
   rw [hvb] at cv
   have hall : bx.all vI=false:=by
    cases h : bx.all vI with
    |false=>rfl
    |true=>rw [List.all_eq_true] at h;have:=h v (List.mem_of_getElem? hx);rw [hvI,hvb] at this;cases this
   rw [hall]
   with_reducible repeat' (first|refine Sp.h ?_|((first|refine Wd ?_|refine Ss.h ?_|refine Sc.h (cv) ?_|(refine Sb.h ?_ ?_ ?_<;>(try intro hgd)<;>try exact Xy))<;>simp -implicitDefEqProofs (maxSteps:=2000000) [hP,hN,g1,g2,hb2,g4,hb4,g21,g22,g23,hb7,hlt,hx,hxe,hwr]<;>try refine Ya ?_)|refine X2 ?_ ?_|(refine Xd ?_ ?_<;>intro hcd<;>try exact Xx))
 ·have hin : i=bx.length:=by omega
  subst hin
  have hall : bx.all vI=true:=allL hq hlt
  have cP:=cP hall
  rw [hall]
  with_reducible repeat' (first|refine Sp.h ?_|((first|refine Wd ?_|refine Ss.h ?_|refine Sc.h (cP) ?_|refine Sc.h (cR) ?_|(refine Sb.h ?_ ?_ ?_<;>(try intro hgd)<;>try exact Xy))<;>simp -implicitDefEqProofs (maxSteps:=2000000) [hP,hN,g1,g2,hb2,g4,hb4,g21,g22,g23,hb7]<;>try refine Ya ?_)|refine X2 ?_ ?_|(refine Xd ?_ ?_<;>intro hcd<;>try exact Xx))
end Go.Ab
namespace Go.Ab
open Go.Proofs
def sepK (SH : List Sh) (PT : List (List IVc)) (n : Vc) (p : Nat × Nat) : Bool:=sepB n (ptO PT p.1) (rdO SH p.1) (ptO PT p.2) (rdO SH p.2)
def sepTo (SH : List Sh) (PR : List (Nat × Nat)) (PT : List (List IVc)) (ns : List Vc) (i : Nat) : Prop:=∀ k n p,k < i→ns[k]?=some n→PR[k]?=some p→sepK SH PT n p=true
def sepAllB (SH : List Sh) (PR : List (Nat × Nat)) (PT : List (List IVc)) (ns : List Vc) : Bool:=decide (ns.length=PR.length) && (ns.zip PR).all fun x=>sepK SH PT x.1 x.2
theorem sepAllB_t {SH : List Sh} {PR : List (Nat × Nat)} {PT : List (List IVc)} {ns : List Vc} (hl : ns.length=PR.length) (h : sepTo SH PR PT ns ns.length) : sepAllB SH PR PT ns=true:=by
 simp only [sepAllB,Bool.and_eq_true,decide_eq_true_eq,List.all_eq_true]
 refine ⟨hl,fun x hx=>?_⟩
 obtain ⟨k,hk,rfl⟩:=List.mem_iff_getElem.1 hx
 rw [List.length_zip] at hk
 rw [List.getElem_zip]
 exact h k _ _ (by omega) (List.getElem?_eq_getElem (by omega)) (List.getElem?_eq_getElem (by omega))
theorem sepAllB_f {SH : List Sh} {PR : List (Nat × Nat)} {PT : List (List IVc)} {ns : List Vc} {k : Nat} {n : Vc} {p : Nat × Nat} (hn : ns[k]?=some n) (hp : PR[k]?=some p) (h : sepK SH PT n p=false) : sepAllB SH PR PT ns=false:=by
 cases ha : sepAllB SH PR PT ns with
 |false=>rfl
 |true=>
  simp only [sepAllB,Bool.and_eq_true,List.all_eq_true] at ha
  have : (n,p) ∈ ns.zip PR:=by
   refine List.mem_of_getElem? (i:=k) ?_
   rw [List.getElem?_zip_eq_some];exact ⟨hn,hp⟩
  have:=ha.2 _ this
  rw [h] at this;cases this
theorem ptO_len {SH : List Sh} {PR : List (Nat × Nat)} {PT : List (List IVc)} (hb : BdOk SH PR PT) (i : Nat) : (ptO PT i).length≤9223372036854775807:=by
 unfold ptO
 cases h : PT[i]? with
 |none=>simp
 |some l=>have:=hb.pts l (List.mem_of_getElem? h);simp;omega
set_option maxHeartbeats 4000000 in
theorem d63 (SH : List Sh) (PR : List (Nat × Nat)) (PT : List (List IVc)) (hb : BdOk SH PR PT) (ns : List Vc) (hl : ns.length≤9223372036854775807) : DetH Tryz.prog 63 [.pv (.agg [vecs ns]),.pv (encBd SH PR PT)] [] [] (.pv (B (sepAllB SH PR PT ns))):=by
 have hpl:=hb.few
 by_cases hle : ns.length=PR.length
 case neg=>
  have h1 : ((ns.length : Int) !=(PR.length : Int))=true:=by simp;omega
  have h2 : ¬ (ns.length : Int)=(PR.length : Int):=by omega
  have hf : sepAllB SH PR PT ns=false:=by simp [sepAllB,hle]
  rw [hf]
  refine detP_of Tryz.func63 rfl (by kernel_rfl) (by simp [Tryz.f63]) rfl ?_
  intro C hP hN
  simp only [Tryz.f63] at hN ⊢
  with_reducible repeat' (first|refine Sp.h ?_|((first|refine Ss.h ?_|(refine Sb.h ?_ ?_ ?_<;>(try intro hgd)<;>try exact Xy))<;>simp -implicitDefEqProofs (maxSteps:=2000000) [hP,hN,h1,h2])|refine X2 ?_ ?_|(refine Xd ?_ ?_<;>intro hcd<;>try exact Xx))
 have h1 : ((ns.length : Int) !=(PR.length : Int))=false:=by simp [hle]
 refine detP_of Tryz.func63 rfl (by kernel_rfl) (by simp [Tryz.f63]) rfl ?_
 intro C hP hN
 simp only [Tryz.f63] at hN ⊢
 with_reducible repeat' (first|refine Sp.h ?_|((first|refine Ss.h ?_|(refine Sb.h ?_ ?_ ?_<;>(try intro hgd)<;>try exact Xy))<;>simp -implicitDefEqProofs (maxSteps:=2000000) [hP,hN,h1,hle])|refine X2 ?_ ?_|(refine Xd ?_ ?_<;>intro hcd<;>try exact Xx))
 refine WP.loopN [6,7] ns.length (fun i st=>st.t 3=.ptr 3 0∧st.h 3=some (.box [.pv (.sl (SH.map encSh)),.pv (.sl (PR.map encPr)),.pv (.sl (PT.map ivcs))] true false)∧st.t 16=.pv (vecs ns)∧st.t 17=.pv (Z ns.length)∧st.t 18=.pv (Z i)∧st.h 6=none∧st.h 7=none∧sepTo SH PR PT ns i) ?_ ?_
 ·simp [hle]
  exact fun k n p hk=>by omega
 rintro i st hi ⟨g3,hb3,g16,g17,g18,hb6,hb7,hq⟩
 by_cases hlt : i < ns.length
 ·have hwr:=wr_succ hlt hl
  generalize hxe : ns[i]=v at *
  have hx : ns[i]?=some v:=by rw [List.getElem?_eq_getElem hlt,hxe]
  have hltp : i < PR.length:=by omega
  obtain ⟨p,hp⟩ : ∃ p,PR[i]?=some p:=⟨_,List.getElem?_eq_getElem hltp⟩
  have cc:=d39 SH PR PT hb i p hp
  have cs:=d74 v (ptO PT p.1) (rdO SH p.1) (ptO PT p.2) (rdO SH p.2) (ptO_len hb _) (ptO_len hb _)
  have hsk : sepK SH PT v p=sepB v (ptO PT p.1) (rdO SH p.1) (ptO PT p.2) (rdO SH p.2):=rfl
  rw [← hsk] at cs
  cases hsp : sepK SH PT v p with
  |true=>
   rw [hsp] at cs
   have hst : sepTo SH PR PT ns (i+1):=fun k n q hk hn hq'=>by
    by_cases e : k=i
    ·subst e;rw [hx] at hn;rw [hp] at hq';injection hn with hn;injection hq' with hq';subst hn;subst hq';exact hsp
    ·exact hq k n q (by omega) hn hq'
   with_reducible repeat' (first|refine Sp.h ?_|((first|refine Ss.h ?_|refine Sc.h (cc) ?_|refine Sc.h (cs) ?_|(refine Sb.h ?_ ?_ ?_<;>(try intro hgd)<;>try exact Xy))<;>simp -implicitDefEqProofs (maxSteps:=2000000) [hP,hN,g3,hb3,g16,g17,g18,hb6,hb7,hlt,hx,hxe,hwr])|refine X2 ?_ ?_|(refine Xd ?_ ?_<;>intro hcd<;>try exact Xx))
   all_goals exact hst
  |false=>
   rw [hsp] at cs
   rw [sepAllB_f hx hp hsp]
   with_reducible repeat' (first|refine Sp.h ?_|((first|refine Ss.h ?_|refine Sc.h (cc) ?_|refine Sc.h (cs) ?_|(refine Sb.h ?_ ?_ ?_<;>(try intro hgd)<;>try exact Xy))<;>simp -implicitDefEqProofs (maxSteps:=2000000) [hP,hN,g3,hb3,g16,g17,g18,hb6,hb7,hlt,hx,hxe,hwr])|refine X2 ?_ ?_|(refine Xd ?_ ?_<;>intro hcd<;>try exact Xx))
 ·have hin : i=ns.length:=by omega
  subst hin
  rw [sepAllB_t hle hq]
  with_reducible repeat' (first|refine Sp.h ?_|((first|refine Ss.h ?_|(refine Sb.h ?_ ?_ ?_<;>(try intro hgd)<;>try exact Xy))<;>simp -implicitDefEqProofs (maxSteps:=2000000) [hP,hN,g3,hb3,g16,g17,g18,hb6,hb7])|refine X2 ?_ ?_|(refine Xd ?_ ?_<;>intro hcd<;>try exact Xx))
def ovlK (SH : List Sh) (PT : List (List IVc)) (x y : List Int) (p : Nat × Nat) : Bool:=excB x y (ptO PT p.1) (rdO SH p.1) (ptO PT p.2) (rdO SH p.2) && decide (0≤excess x y (ptO PT p.1) (rdO SH p.1) (ptO PT p.2) (rdO SH p.2))
structure Wit where
 pair : Int
 a : List Int
 b : List Int
abbrev encWt (w : Wit) : PV:=.agg [Z w.pair,zs w.a,zs w.b]
def colB (SH : List Sh) (PR : List (Nat × Nat)) (PT : List (List IVc)) (w : Wit) : Bool:=decide (0≤w.pair) && match PR[w.pair.toNat]? with
 |some p=>ovlK SH PT w.a w.b p
 |none=>false
set_option maxHeartbeats 4000000 in
theorem d282 (SH : List Sh) (PR : List (Nat × Nat)) (PT : List (List IVc)) (hb : BdOk SH PR PT) (w : Wit) (ha : w.a.length≤9223372036854775807) (hbl : w.b.length≤9223372036854775807) : DetH Tryz.prog 282 [.pv (encWt w),.pv (encBd SH PR PT)] [] [] (.pv (B (colB SH PR PT w))):=by
 have hpl:=hb.few
 by_cases h0 : w.pair < 0
 ·have hf : colB SH PR PT w=false:=by unfold colB;rw [decide_eq_false (by omega)];rfl
  rw [hf]
  refine detP_of Tryz.func282 rfl (by kernel_rfl) (by simp [Tryz.f282]) rfl ?_
  intro C hP hN
  simp only [Tryz.f282] at hN ⊢
  with_reducible repeat' (first|refine Sp.h ?_|((first|refine Ss.h ?_|(refine Sb.h ?_ ?_ ?_<;>(try intro hgd)<;>try exact Xy))<;>simp -implicitDefEqProofs (maxSteps:=2000000) [hP,hN,h0])|refine X2 ?_ ?_|(refine Xd ?_ ?_<;>intro hcd<;>try exact Xx))
 obtain ⟨k,hk⟩ : ∃ k : Nat,w.pair=k:=⟨w.pair.toNat,by omega⟩
 have hcd : colB SH PR PT w=match PR[k]? with
  |some p=>ovlK SH PT w.a w.b p
  |none=>false:=by unfold colB;rw [hk,decide_eq_true (by omega)];simp
 by_cases h1 : k < PR.length
 ·obtain ⟨p,hp⟩ : ∃ p,PR[k]?=some p:=⟨_,List.getElem?_eq_getElem h1⟩
  rw [hp] at hcd
  simp only at hcd
  have h1' : ¬ (PR.length : Int)≤k:=by omega
  have h1'' : ¬ PR.length≤k:=by omega
  have cc:=d39 SH PR PT hb k p hp
  have co:=d43 w.a w.b (ptO PT p.1) (rdO SH p.1) (ptO PT p.2) (rdO SH p.2) ha hbl (ptO_len hb _) (ptO_len hb _)
  have hod : ovlK SH PT w.a w.b p=(excB w.a w.b (ptO PT p.1) (rdO SH p.1) (ptO PT p.2) (rdO SH p.2) && decide (0≤excess w.a w.b (ptO PT p.1) (rdO SH p.1) (ptO PT p.2) (rdO SH p.2))):=rfl
  rw [← hod] at co
  rw [hcd]
  generalize ovlK SH PT w.a w.b p=o at *
  refine detP_of Tryz.func282 rfl (by kernel_rfl) (by simp [Tryz.f282]) rfl ?_
  intro C hP hN
  simp only [Tryz.f282] at hN ⊢
  with_reducible repeat' (first|refine Sp.h ?_|((first|refine Ss.h ?_|refine Sc.h (cc) ?_|refine Sc.h (co) ?_|(refine Sb.h ?_ ?_ ?_<;>(try intro hgd)<;>try exact Xy))<;>simp -implicitDefEqProofs (maxSteps:=2000000) [hP,hN,hk,h1',h1''])|refine X2 ?_ ?_|(refine Xd ?_ ?_<;>intro hcd<;>try exact Xx))
 ·have hn : PR[k]?=none:=List.getElem?_eq_none (by omega)
  rw [hn] at hcd
  simp only at hcd
  rw [hcd]
  have h1' : (PR.length : Int)≤k:=by omega
  have h1'' : PR.length≤k:=by omega
  refine detP_of Tryz.func282 rfl (by kernel_rfl) (by simp [Tryz.f282]) rfl ?_
  intro C hP hN
  simp only [Tryz.f282] at hN ⊢
  with_reducible repeat' (first|refine Sp.h ?_|((first|refine Ss.h ?_|(refine Sb.h ?_ ?_ ?_<;>(try intro hgd)<;>try exact Xy))<;>simp -implicitDefEqProofs (maxSteps:=2000000) [hP,hN,hk,h1',h1''])|refine X2 ?_ ?_|(refine Xd ?_ ?_<;>intro hcd<;>try exact Xx))
end Go.Ab
namespace Go.Ab
open Go.Proofs
set_option maxRecDepth 100000 in
@[simp] theorem quiet37 : QuietFn Tryz.prog 37:=by
 refine ⟨by kernel_rfl,fun args w=>?_⟩
 refine callsD_of_wpS Tryz.func37 rfl fun c₀ cs hu=>?_
 apply wpS_seq
 apply wpS_region
 have hk : ∀ k,k < Tryz.f37.ntmps→k < args.size+(Tryz.f37.ntmps - args.size):=by intro k h;omega
 rw [Tryz.ntmps37] at hk
 have h0:=hk 0 (by decide)
 have h1:=hk 1 (by decide)
 have h2:=hk 2 (by decide)
 simp [wpOpsS,go_sem,recoverD,hu,Tryz.ntmps37,Exit.thenS,h0,h1,h2]
 refine wpS_cond (t:=false) (by simp [Act.eval,h0,h1,h2]) ?_
 simp only [Bool.false_eq_true,if_false]
 refine wpS_of_wp (wp_skip ?_)
 cases c₀
 simp_all [bodyPostS,results,Tryz.results37]
set_option maxRecDepth 100000 in
@[simp] theorem quiet50 : QuietFn Tryz.prog 50:=by
 refine ⟨by kernel_rfl,fun args w=>?_⟩
 refine callsD_of_wpS Tryz.func50 rfl fun c₀ cs hu=>?_
 apply wpS_seq
 apply wpS_region
 have hk : ∀ k,k < Tryz.f50.ntmps→k < args.size+(Tryz.f50.ntmps - args.size):=by intro k h;omega
 rw [Tryz.ntmps50] at hk
 have h0:=hk 0 (by decide)
 have h1:=hk 1 (by decide)
 have h2:=hk 2 (by decide)
 simp [wpOpsS,go_sem,recoverD,hu,Tryz.ntmps50,Exit.thenS,h0,h1,h2]
 refine wpS_cond (t:=false) (by simp [Act.eval,h0,h1,h2]) ?_
 simp only [Bool.false_eq_true,if_false]
 refine wpS_of_wp (wp_skip ?_)
 cases c₀
 simp_all [bodyPostS,results,Tryz.results50]
set_option maxRecDepth 100000 in
@[simp] theorem quiet59 : QuietFn Tryz.prog 59:=by
 refine ⟨by kernel_rfl,fun args w=>?_⟩
 refine callsD_of_wpS Tryz.func59 rfl fun c₀ cs hu=>?_
 apply wpS_seq
 apply wpS_region
 have hk : ∀ k,k < Tryz.f59.ntmps→k < args.size+(Tryz.f59.ntmps - args.size):=by intro k h;omega
 rw [Tryz.ntmps59] at hk
 have h0:=hk 0 (by decide)
 have h1:=hk 1 (by decide)
 have h2:=hk 2 (by decide)
 simp [wpOpsS,go_sem,recoverD,hu,Tryz.ntmps59,Exit.thenS,h0,h1,h2]
 refine wpS_cond (t:=false) (by simp [Act.eval,h0,h1,h2]) ?_
 simp only [Bool.false_eq_true,if_false]
 refine wpS_of_wp (wp_skip ?_)
 cases c₀
 simp_all [bodyPostS,results,Tryz.results59]
set_option maxRecDepth 100000 in
@[simp] theorem quiet61 : QuietFn Tryz.prog 61:=by
 refine ⟨by kernel_rfl,fun args w=>?_⟩
 refine callsD_of_wpS Tryz.func61 rfl fun c₀ cs hu=>?_
 apply wpS_seq
 apply wpS_region
 have hk : ∀ k,k < Tryz.f61.ntmps→k < args.size+(Tryz.f61.ntmps - args.size):=by intro k h;omega
 rw [Tryz.ntmps61] at hk
 have h0:=hk 0 (by decide)
 have h1:=hk 1 (by decide)
 have h2:=hk 2 (by decide)
 simp [wpOpsS,go_sem,recoverD,hu,Tryz.ntmps61,Exit.thenS,h0,h1,h2]
 refine wpS_cond (t:=false) (by simp [Act.eval,h0,h1,h2]) ?_
 simp only [Bool.false_eq_true,if_false]
 refine wpS_of_wp (wp_skip ?_)
 cases c₀
 simp_all [bodyPostS,results,Tryz.results61]
set_option maxRecDepth 100000 in
@[simp] theorem quiet62 : QuietFn Tryz.prog 62:=by
 refine ⟨by kernel_rfl,fun args w=>?_⟩
 refine callsD_of_wpS Tryz.func62 rfl fun c₀ cs hu=>?_
 apply wpS_seq
 apply wpS_region
 have hk : ∀ k,k < Tryz.f62.ntmps→k < args.size+(Tryz.f62.ntmps - args.size):=by intro k h;omega
 rw [Tryz.ntmps62] at hk
 have h0:=hk 0 (by decide)
 have h1:=hk 1 (by decide)
 have h2:=hk 2 (by decide)
 have h3:=hk 3 (by decide)
 simp [wpOpsS,go_sem,recoverD,hu,Tryz.ntmps62,Exit.thenS,h0,h1,h2,h3]
 refine wpS_cond (t:=false) (by simp [Act.eval,h0,h1,h2,h3]) ?_
 simp only [Bool.false_eq_true,if_false]
 refine wpS_of_wp (wp_skip ?_)
 cases c₀
 simp_all [bodyPostS,results,Tryz.results62]
@[simp] theorem plSep : plainT Tryz.prog 101=true:=by kernel_rfl
@[simp] theorem plCol : plainT Tryz.prog 99=true:=by kernel_rfl
@[simp] theorem meSep : methF Tryz.prog 101 "armplan/classify.holds"=some 63:=by kernel_rfl
@[simp] theorem meCol : methF Tryz.prog 99 "armplan/classify.holds"=some 282:=by kernel_rfl
structure Vd where
 kind : Int
 ns : List Vc
 w : Wit
abbrev encVt (v : Vd) : PV:=.agg [Z v.kind,vecs v.ns,Z v.w.pair,zs v.w.a,zs v.w.b]
abbrev ifSep (ns : List Vc) : PV:=.ifc 101 (.agg [vecs ns])
abbrev ifCol (w : Wit) : PV:=.ifc 99 (encWt w)
theorem vS (ns : List Vc) : DetH Tryz.prog 44 [.pv (ifSep ns)] [] [] (.pv (encVt ⟨1,ns,⟨0,[],[]⟩⟩)):=by
 refine detP_of Tryz.func44 rfl (by kernel_rfl) (by simp [Tryz.f44]) rfl ?_
 intro C hP hN
 simp only [Tryz.f44] at hN ⊢
 with_reducible repeat' (first|refine Sp.h ?_|((first|refine Ss.h ?_|(refine Sb.h ?_ ?_ ?_<;>(try intro hgd)<;>try exact Xy))<;>simp -implicitDefEqProofs (maxSteps:=2000000) [hP,hN])|refine X2 ?_ ?_|(refine Xd ?_ ?_<;>intro hcd<;>try exact Xx))
theorem vC (w : Wit) : DetH Tryz.prog 44 [.pv (ifCol w)] [] [] (.pv (encVt ⟨2,[],w⟩)):=by
 refine detP_of Tryz.func44 rfl (by kernel_rfl) (by simp [Tryz.f44]) rfl ?_
 intro C hP hN
 simp only [Tryz.f44] at hN ⊢
 with_reducible repeat' (first|refine Sp.h ?_|((first|refine Ss.h ?_|(refine Sb.h ?_ ?_ ?_<;>(try intro hgd)<;>try exact Xy))<;>simp -implicitDefEqProofs (maxSteps:=2000000) [hP,hN])|refine X2 ?_ ?_|(refine Xd ?_ ?_<;>intro hcd<;>try exact Xx))
def holdsSep (s : Sce) (bx : List Iv) (ns : List Vc) : Bool:=placeOk s bx && sepAllB s.shs (pairsL s) (pointsL s bx) ns
def holdsCol (s : Sce) (bx : List Iv) (w : Wit) : Bool:=placeOk s bx && colB s.shs (pairsL s) (pointsL s bx) w
theorem hS (s : Sce) (bx : List Iv) (ns : List Vc) (hs : ScL s) (hbl : bx.length≤9223372036854775807) (hn : ns.length≤9223372036854775807) : DetH Tryz.prog 51 [.pv (encSc s),.pv (iv bx),.pv (ifSep ns)] [] [] (.pv (B (holdsSep s bx ns))):=by
 have cp:=d38 s bx hs hbl
 have hd : holdsSep s bx ns=(placeOk s bx && sepAllB s.shs (pairsL s) (pointsL s bx) ns):=rfl
 rw [hd]
 cases hp : placeOk s bx with
 |false=>
  rw [hp] at cp
  refine detP_of Tryz.func51 rfl (by kernel_rfl) (by simp [Tryz.f51]) rfl ?_
  intro C hP hN
  simp only [Tryz.f51] at hN ⊢
  with_reducible repeat' (first|refine Sp.h ?_|((first|refine Ss.h ?_|refine Sc.h (cp) ?_|(refine Sb.h ?_ ?_ ?_<;>(try intro hgd)<;>try exact Xy))<;>simp -implicitDefEqProofs (maxSteps:=2000000) [hP,hN])|refine X2 ?_ ?_|(refine Xd ?_ ?_<;>intro hcd<;>try exact Xx))
 |true=>
  rw [hp] at cp
  have cs:=d63 s.shs (pairsL s) (pointsL s bx) (bdOk hp) ns hn
  generalize sepAllB s.shs (pairsL s) (pointsL s bx) ns=b at *
  refine detP_of Tryz.func51 rfl (by kernel_rfl) (by simp [Tryz.f51]) rfl ?_
  intro C hP hN
  simp only [Tryz.f51] at hN ⊢
  with_reducible repeat' (first|refine Sp.h ?_|((first|refine Ss.h ?_|refine Sc.h (cp) ?_|refine Sc.h (cs) ?_|(refine Sb.h ?_ ?_ ?_<;>(try intro hgd)<;>try exact Xy))<;>simp -implicitDefEqProofs (maxSteps:=2000000) [hP,hN])|refine X2 ?_ ?_|(refine Xd ?_ ?_<;>intro hcd<;>try exact Xx))
theorem hC (s : Sce) (bx : List Iv) (w : Wit) (hs : ScL s) (hbl : bx.length≤9223372036854775807) (ha : w.a.length≤9223372036854775807) (hb : w.b.length≤9223372036854775807) : DetH Tryz.prog 51 [.pv (encSc s),.pv (iv bx),.pv (ifCol w)] [] [] (.pv (B (holdsCol s bx w))):=by
 have cp:=d38 s bx hs hbl
 have hd : holdsCol s bx w=(placeOk s bx && colB s.shs (pairsL s) (pointsL s bx) w):=rfl
 rw [hd]
 cases hp : placeOk s bx with
 |false=>
  rw [hp] at cp
  refine detP_of Tryz.func51 rfl (by kernel_rfl) (by simp [Tryz.f51]) rfl ?_
  intro C hP hN
  simp only [Tryz.f51] at hN ⊢
  with_reducible repeat' (first|refine Sp.h ?_|((first|refine Ss.h ?_|refine Sc.h (cp) ?_|(refine Sb.h ?_ ?_ ?_<;>(try intro hgd)<;>try exact Xy))<;>simp -implicitDefEqProofs (maxSteps:=2000000) [hP,hN])|refine X2 ?_ ?_|(refine Xd ?_ ?_<;>intro hcd<;>try exact Xx))
 |true=>
  rw [hp] at cp
  have cs:=d282 s.shs (pairsL s) (pointsL s bx) (bdOk hp) w ha hb
  generalize colB s.shs (pairsL s) (pointsL s bx) w=b at *
  refine detP_of Tryz.func51 rfl (by kernel_rfl) (by simp [Tryz.f51]) rfl ?_
  intro C hP hN
  simp only [Tryz.f51] at hN ⊢
  with_reducible repeat' (first|refine Sp.h ?_|((first|refine Ss.h ?_|refine Sc.h (cp) ?_|refine Sc.h (cs) ?_|(refine Sb.h ?_ ?_ ?_<;>(try intro hgd)<;>try exact Xy))<;>simp -implicitDefEqProofs (maxSteps:=2000000) [hP,hN])|refine X2 ?_ ?_|(refine Xd ?_ ?_<;>intro hcd<;>try exact Xx))
theorem d26 (s : Sce) (bx : List Iv) (ns : List Vc) (hs : ScL s) (hbl : bx.length≤9223372036854775807) (hn : ns.length≤9223372036854775807) : DetH Tryz.prog 26 [.pv (encSc s),.pv (iv bx),.pv (vecs ns)] [] [] (.pv (B (holdsSep s bx ns))):=by
 have ch:=hS s bx ns hs hbl hn
 generalize holdsSep s bx ns=b at *
 refine detP_of Tryz.func26 rfl (by kernel_rfl) (by simp [Tryz.f26]) rfl ?_
 intro C hP hN
 simp only [Tryz.f26] at hN ⊢
 with_reducible repeat' (first|refine Sp.h ?_|((first|refine Ss.h ?_|refine Sc.h (ch) ?_|(refine Sb.h ?_ ?_ ?_<;>(try intro hgd)<;>try exact Xy))<;>simp -implicitDefEqProofs (maxSteps:=2000000) [hP,hN])|refine X2 ?_ ?_|(refine Xd ?_ ?_<;>intro hcd<;>try exact Xx))
theorem d24 (s : Sce) (bx : List Iv) (w : Wit) (hs : ScL s) (hbl : bx.length≤9223372036854775807) (ha : w.a.length≤9223372036854775807) (hb : w.b.length≤9223372036854775807) : DetH Tryz.prog 24 [.pv (encSc s),.pv (iv bx),.pv (encWt w)] [] [] (.pv (B (holdsCol s bx w))):=by
 have ch:=hC s bx w hs hbl ha hb
 generalize holdsCol s bx w=b at *
 refine detP_of Tryz.func24 rfl (by kernel_rfl) (by simp [Tryz.f24]) rfl ?_
 intro C hP hN
 simp only [Tryz.f24] at hN ⊢
 with_reducible repeat' (first|refine Sp.h ?_|((first|refine Ss.h ?_|refine Sc.h (ch) ?_|(refine Sb.h ?_ ?_ ?_<;>(try intro hgd)<;>try exact Xy))<;>simp -implicitDefEqProofs (maxSteps:=2000000) [hP,hN])|refine X2 ?_ ?_|(refine Xd ?_ ?_<;>intro hcd<;>try exact Xx))
def checkV (s : Sce) (bx : List Iv) (v : Vd) : Bool:=
 if v.kind=1∧v.w.pair=0∧v.w.a.length=0∧v.w.b.length=0 then holdsSep s bx v.ns
 else if v.kind=2∧v.ns.length=0 then holdsCol s bx v.w else false
set_option maxHeartbeats 4000000 in
theorem d18 (s : Sce) (bx : List Iv) (v : Vd) (hs : ScL s) (hbl : bx.length≤9223372036854775807) (hn : v.ns.length≤9223372036854775807) (ha : v.w.a.length≤9223372036854775807) (hb : v.w.b.length≤9223372036854775807) : DetH Tryz.prog 18 [.pv (encSc s),.pv (iv bx),.pv (encVt v)] [] [] (.pv (B (checkV s bx v))):=by
 have ch:=hS s bx v.ns hs hbl hn
 have cc:=hC s bx v.w hs hbl ha hb
 have hd : checkV s bx v=if v.kind=1∧v.w.pair=0∧v.w.a.length=0∧v.w.b.length=0 then holdsSep s bx v.ns else if v.kind=2∧v.ns.length=0 then holdsCol s bx v.w else false:=rfl
 rw [hd]
 generalize holdsSep s bx v.ns=b1 at *
 generalize holdsCol s bx v.w=b2 at *
 by_cases h1 : v.kind=1
 ·have h2 : ¬ v.kind=2:=by omega
  have e1 : (v.kind==1)=true:=by simp [h1]
  have e2 : (v.kind==2)=false:=by simp [h2]
  by_cases h3 : v.w.pair=0
  ·have e3 : (v.w.pair==0)=true:=by simp [h3]
   by_cases h4 : v.w.a.length=0
   ·have e4 : ((v.w.a.length : Int)==0)=true:=by simp [h4]
    by_cases h5 : v.w.b.length=0
    ·have e5 : ((v.w.b.length : Int)==0)=true:=by simp [h5]
     rw [if_pos ⟨h1,h3,h4,h5⟩]
     refine detP_of Tryz.func18 rfl (by kernel_rfl) (by simp [Tryz.f18]) rfl ?_
     intro C hP hN
     simp only [Tryz.f18] at hN ⊢
     with_reducible repeat' (first|refine Sp.h ?_|((first|refine Ss.h ?_|refine Sc.h (ch) ?_|(refine Sb.h ?_ ?_ ?_<;>(try intro hgd)<;>try exact Xy))<;>simp -implicitDefEqProofs (maxSteps:=2000000) [hP,hN,e1,e2,e3,e4,e5])|refine X2 ?_ ?_|(refine Xd ?_ ?_<;>intro hcd<;>try exact Xx))
    ·have e5 : ((v.w.b.length : Int)==0)=false:=beq_eq_false_iff_ne.2 (by omega)
     rw [if_neg (by simp [h5]),if_neg (by simp [h2])]
     refine detP_of Tryz.func18 rfl (by kernel_rfl) (by simp [Tryz.f18]) rfl ?_
     intro C hP hN
     simp only [Tryz.f18] at hN ⊢
     with_reducible repeat' (first|refine Sp.h ?_|((first|refine Ss.h ?_|(refine Sb.h ?_ ?_ ?_<;>(try intro hgd)<;>try exact Xy))<;>simp -implicitDefEqProofs (maxSteps:=2000000) [hP,hN,e1,e2,e3,e4,e5])|refine X2 ?_ ?_|(refine Xd ?_ ?_<;>intro hcd<;>try exact Xx))
   ·have e4 : ((v.w.a.length : Int)==0)=false:=beq_eq_false_iff_ne.2 (by omega)
    rw [if_neg (by simp [h4]),if_neg (by simp [h2])]
    refine detP_of Tryz.func18 rfl (by kernel_rfl) (by simp [Tryz.f18]) rfl ?_
    intro C hP hN
    simp only [Tryz.f18] at hN ⊢
    with_reducible repeat' (first|refine Sp.h ?_|((first|refine Ss.h ?_|(refine Sb.h ?_ ?_ ?_<;>(try intro hgd)<;>try exact Xy))<;>simp -implicitDefEqProofs (maxSteps:=2000000) [hP,hN,e1,e2,e3,e4])|refine X2 ?_ ?_|(refine Xd ?_ ?_<;>intro hcd<;>try exact Xx))
  ·have e3 : (v.w.pair==0)=false:=by simp [h3]
   rw [if_neg (by simp [h3]),if_neg (by simp [h2])]
   refine detP_of Tryz.func18 rfl (by kernel_rfl) (by simp [Tryz.f18]) rfl ?_
   intro C hP hN
   simp only [Tryz.f18] at hN ⊢
   with_reducible repeat' (first|refine Sp.h ?_|((first|refine Ss.h ?_|(refine Sb.h ?_ ?_ ?_<;>(try intro hgd)<;>try exact Xy))<;>simp -implicitDefEqProofs (maxSteps:=2000000) [hP,hN,e1,e2,e3])|refine X2 ?_ ?_|(refine Xd ?_ ?_<;>intro hcd<;>try exact Xx))
 ·have e1 : (v.kind==1)=false:=by simp [h1]
  rw [if_neg (by simp [h1])]
  by_cases h2 : v.kind=2
  ·have e2 : (v.kind==2)=true:=by simp [h2]
   by_cases h3 : v.ns.length=0
   ·have e3 : ((v.ns.length : Int)==0)=true:=by simp [h3]
    rw [if_pos ⟨h2,h3⟩]
    refine detP_of Tryz.func18 rfl (by kernel_rfl) (by simp [Tryz.f18]) rfl ?_
    intro C hP hN
    simp only [Tryz.f18] at hN ⊢
    with_reducible repeat' (first|refine Sp.h ?_|((first|refine Ss.h ?_|refine Sc.h (cc) ?_|(refine Sb.h ?_ ?_ ?_<;>(try intro hgd)<;>try exact Xy))<;>simp -implicitDefEqProofs (maxSteps:=2000000) [hP,hN,e1,e2,e3])|refine X2 ?_ ?_|(refine Xd ?_ ?_<;>intro hcd<;>try exact Xx))
   ·have e3 : ((v.ns.length : Int)==0)=false:=beq_eq_false_iff_ne.2 (by omega)
    rw [if_neg (by simp [h3])]
    refine detP_of Tryz.func18 rfl (by kernel_rfl) (by simp [Tryz.f18]) rfl ?_
    intro C hP hN
    simp only [Tryz.f18] at hN ⊢
    with_reducible repeat' (first|refine Sp.h ?_|((first|refine Ss.h ?_|(refine Sb.h ?_ ?_ ?_<;>(try intro hgd)<;>try exact Xy))<;>simp -implicitDefEqProofs (maxSteps:=2000000) [hP,hN,e1,e2,e3])|refine X2 ?_ ?_|(refine Xd ?_ ?_<;>intro hcd<;>try exact Xx))
  ·have e2 : (v.kind==2)=false:=by simp [h2]
   rw [if_neg (by simp [h2])]
   refine detP_of Tryz.func18 rfl (by kernel_rfl) (by simp [Tryz.f18]) rfl ?_
   intro C hP hN
   simp only [Tryz.f18] at hN ⊢
   with_reducible repeat' (first|refine Sp.h ?_|((first|refine Ss.h ?_|(refine Sb.h ?_ ?_ ?_<;>(try intro hgd)<;>try exact Xy))<;>simp -implicitDefEqProofs (maxSteps:=2000000) [hP,hN,e1,e2])|refine X2 ?_ ?_|(refine Xd ?_ ?_<;>intro hcd<;>try exact Xx))
end Go.Ab
namespace Go.Ab
open Go.Proofs
def hintAt (hints : List Vc) (k : Nat) : List Vc:=(hints.drop k).take 1
def bxF (SH : List Sh) (PT : List (List IVc)) (hints : List Vc) (k : Nat) (p : Nat × Nat) : Vc × Bool:=findR (ptO PT p.1) (rdO SH p.1) (ptO PT p.2) (rdO SH p.2) (hintAt hints k)
def bxN (SH : List Sh) (PT : List (List IVc)) (p : Nat × Nat) : Int × NSt:=nrRes (centers (ptO PT p.1)) (centers (ptO PT p.2)) (rdO SH p.1+rdO SH p.2) 64
def bxFound (SH : List Sh) (PR : List (Nat × Nat)) (PT : List (List IVc)) (hints : List Vc) : List Vc:=PR.mapIdx fun k p=>(bxF SH PT hints k p).1
def bxGo (SH : List Sh) (PR : List (Nat × Nat)) (PT : List (List IVc)) (hints : List Vc) : Nat→Nat→Bool→Vd
 |0,_,ap=>if ap then ⟨1,bxFound SH PR PT hints,⟨0,[],[]⟩⟩ else ⟨0,bxFound SH PR PT hints,⟨0,[],[]⟩⟩
 |f+1,k,ap=>match PR[k]? with
  |some p=>if (bxF SH PT hints k p).2=true then bxGo SH PR PT hints f (k+1) ap
   else if ovlK SH PT (bxN SH PT p).2.w (bxN SH PT p).2.v p=true then ⟨2,[],⟨k,(bxN SH PT p).2.w,(bxN SH PT p).2.v⟩⟩
   else bxGo SH PR PT hints f (k+1) false
  |none=>if ap then ⟨1,bxFound SH PR PT hints,⟨0,[],[]⟩⟩ else ⟨0,bxFound SH PR PT hints,⟨0,[],[]⟩⟩
def boxV (s : Sce) (bx : List Iv) (hints : List Vc) : Vd:=if placeOk s bx then bxGo s.shs (pairsL s) (pointsL s bx) hints (pairsL s).length 0 true else ⟨0,[],⟨0,[],[]⟩⟩
theorem rdO_rng {s : Sce} {bx : List Iv} (h : placeOk s bx=true) (i : Nat) : 0≤rdO s.shs i∧rdO s.shs i≤1048576:=by
 simp only [placeOk,Bool.and_eq_true,decide_eq_true_eq] at h
 obtain ⟨_,_,_,_,_,v6,_⟩:=checkS_ok h.1
 unfold rdO
 cases hx : s.shs[i]? with
 |none=>simp
 |some u=>
  have:=(v6 u (List.mem_of_getElem? hx)).2
  simp only [shapeB,Bool.and_eq_true,decide_eq_true_eq] at this
  simp only [Option.map_some,Option.getD_some];omega
theorem centers_len8 {l : List IVc} (h : l.length≤8) : (centers l).length≤8:=by unfold centers;split<;>simp<;>omega
theorem ptO_len8 {SH : List Sh} {PR : List (Nat × Nat)} {PT : List (List IVc)} (hb : BdOk SH PR PT) (i : Nat) : (ptO PT i).length≤8:=by
 unfold ptO
 cases h : PT[i]? with
 |none=>simp
 |some l=>exact hb.pts l (List.mem_of_getElem? h)
theorem findR_f {a : List IVc} {ra : Int} {b : List IVc} {rb : Int} {h : List Vc} (hf : (findR a ra b rb h).2=false) : (findR a ra b rb h).1=(0,0,0):=by
 unfold findR at hf ⊢
 split
 ·rename_i n e;rw [e] at hf;cases hf
 ·rfl
theorem nrRes_len (a b : List Vc) (rho st : Int) : (nrRes a b rho st).2.w.length≤8∧(nrRes a b rho st).2.v.length≤8:=by
 unfold nrRes
 split
 ·rename_i h
  simp only [nrOkB,Bool.and_eq_true] at h
  have ia:=nusB_iff.1 h.1.1.1
  have ib:=nusB_iff.1 h.1.1.2
  have:=nrRun_ok (rho:=rho) (steps:=st.toNat) h.1.1.1 h.1.1.2 (st.toNat+1) (ns0 a b) (ns0_ok ia.1 ib.1)
  rw [this.wl,this.vl];exact ⟨ia.2.1,ib.2.1⟩
 ·simp
theorem vec_okE (l : List Vc) : (l.map encVec).all (okE 3)=true:=by
 rw [List.all_eq_true]
 intro x hx
 obtain ⟨v,_,rfl⟩:=List.mem_map.1 hx
 rfl
theorem hintSl (hints : List Vc) (i : Nat) (z : Option Value) (e n : Nat) (y : Option Value) : evSlice { size:=n,zero:=z,kind:=TK.slice e 3 24 y } (.pv (vecs hints)) (some (.pv (.val (.int .i64 (if hints.length < i then (hints.length : Int) else (i : Int)))))) (some (.pv (.val (.int .i64 (min ((i : Int)+1) (hints.length : Int))))))=some (.pv (vecs (hintAt hints i))):=by
 have h1 : 0≤(if hints.length < i then (hints.length : Int) else (i : Int)):=by split<;>omega
 have h2 : 0≤min ((i : Int)+1) (hints.length : Int):=by omega
 have h3 : (if hints.length < i then (hints.length : Int) else (i : Int)).toNat=min i hints.length:=by split<;>omega
 have h4 : (min ((i : Int)+1) (hints.length : Int)).toNat=min (i+1) hints.length:=by omega
 simp only [evSlice,if_pos h1,if_pos h2,h3,h4,List.length_map]
 rw [if_pos ⟨by omega,by omega,by decide,vec_okE hints⟩]
 congr 3
 rw [← List.map_take,← List.map_drop]
 congr 1
 unfold hintAt
 by_cases h : i < hints.length
 ·rw [show min i hints.length=i by omega,show min (i+1) hints.length=i+1 by omega,List.drop_take,show i+1 - i=1 by omega]
 ·rw [show min i hints.length=hints.length by omega,show min (i+1) hints.length=hints.length by omega,List.take_length,List.drop_length,List.drop_eq_nil_of_le (by omega)];rfl
set_option maxHeartbeats 16000000 in
theorem d15 (s : Sce) (bx : List Iv) (hints : List Vc) (hs : ScL s) (hbl : bx.length≤9223372036854775807) (hh : hints.length≤9223372036854775807) : DetH Tryz.prog 15 [.pv (encSc s),.pv (iv bx),.pv (vecs hints)] [] [] (.pv (encVt (boxV s bx hints))):=by
 have cp:=d38 s bx hs hbl
 have hd : boxV s bx hints=if placeOk s bx then bxGo s.shs (pairsL s) (pointsL s bx) hints (pairsL s).length 0 true else ⟨0,[],⟨0,[],[]⟩⟩:=rfl
 cases hp : placeOk s bx with
 |false=>
  rw [hp] at cp hd
  simp only [Bool.false_eq_true,if_false] at hd
  rw [hd]
  refine detP_of Tryz.func15 rfl (by kernel_rfl) (by simp [Tryz.f15]) rfl ?_
  intro C hP hN
  simp only [Tryz.f15] at hN ⊢
  with_reducible repeat' (first|refine Sp.h ?_|((first|refine Wd ?_|refine Ss.h ?_|refine Sc.h (cp) ?_|(refine Sb.h ?_ ?_ ?_<;>(try intro hgd)<;>try exact Xy))<;>simp -implicitDefEqProofs (maxSteps:=2000000) [hP,hN]<;>try refine Ya ?_)|refine X2 ?_ ?_|(refine Xd ?_ ?_<;>intro hcd<;>try exact Xx))
 |true=>
 rw [hp] at cp hd
 simp only [if_true] at hd
 have hb:=bdOk hp
 have hrd:=rdO_rng hp
 rw [hd]
 generalize pairsL s=PR at *
 generalize pointsL s bx=PT at *
 generalize s.shs=SH at *
 have hfew:=hb.few
 generalize hgo : bxGo SH PR PT hints PR.length 0 true=RES at *
 generalize hLM : (bxFound SH PR PT hints).map encVec=LM
 have hML : LM.length=PR.length:=by rw [← hLM];simp [bxFound]
 have hMk : ∀ k p,PR[k]?=some p→LM[k]?=some (encVec (bxF SH PT hints k p).1):=fun k q hk=>by rw [← hLM,bxFound,List.getElem?_map,List.getElem?_mapIdx,hk];rfl
 refine detP_of Tryz.func15 rfl (by kernel_rfl) (by simp [Tryz.f15]) rfl ?_
 intro C hP hN
 simp only [Tryz.f15] at hN ⊢
 with_reducible repeat' (first|refine Sp.h ?_|((first|refine Wd ?_|refine Ss.h ?_|refine Sc.h (cp) ?_|(refine Sb.h ?_ ?_ ?_<;>(try intro hgd)<;>try exact Xy))<;>simp -implicitDefEqProofs (maxSteps:=2000000) [hP,hN,show (24 : Int) * (PR.length : Int)≤281474976710656 by omega,show (PR.length : Int)≤9223372036854775807 by omega]<;>try refine Ya ?_)|refine X2 ?_ ?_|(refine Xd ?_ ?_<;>intro hcd<;>try exact Xx))
 refine WP.loopN [12,14,16] PR.length (fun i st=>∃ R : List PV,∃ ap : Bool,bxGo SH PR PT hints (PR.length - i) i ap=RES∧st.t 2=.pv (vecs hints)∧st.t 6=.ptr 6 0∧st.h 6=some (.box [.pv (Z 0),.pv (.val (.slice none 0 0)),.pv (Z 0),.pv (.val (.slice none 0 0)),.pv (.val (.slice none 0 0))] true false)∧st.t 7=.ptr 7 0∧st.h 7=some (.box [.pv (.sl (SH.map encSh)),.pv (.sl (PR.map encPr)),.pv (.sl (PT.map ivcs))] true false)∧st.t 9=.arr 30 PR.length∧st.t 10=.pv (B ap)∧st.t 33=.pv (Z PR.length)∧st.t 34=.pv (Z i)∧st.h 12=none∧st.h 14=none∧st.h 16=none∧st.h 30=some (.row 55 3 R 0)∧R.length=PR.length∧(∀ k,i≤k→k < PR.length→R[k]?=some (encV 0 0 0))∧∀ k,k < i→R[k]?=LM[k]?) ?_ ?_
 ·refine ⟨List.replicate PR.length (encV 0 0 0),true,hgo,?_⟩
  simp
  try (intro k hk;first|exact hk|simp [List.getElem?_replicate,hk])
 rintro i st hi ⟨R,ap,hgo,g2,g6,hb6,g7,hb7,g9,g10,g33,g34,hb12,hb14,hb16,hb30,hRl,hRz,hR⟩
 by_cases hlt : i < PR.length
 ·have hwr:=wr_succ hlt (by omega)
  obtain ⟨p,hp⟩ : ∃ p,PR[i]?=some p:=⟨_,List.getElem?_eq_getElem hlt⟩
  have hRi:=hRz i (Nat.le_refl _) hlt
  have hgi:=rowGet hRi
  have hiR : i < R.length:=by omega
  have cc:=d39 SH PR PT hb i p hp
  have r1:=hrd p.1
  have r2:=hrd p.2
  have l1:=ptO_len8 hb p.1
  have l2:=ptO_len8 hb p.2
  have cf:=d40 (ptO PT p.1) (rdO SH p.1) (ptO PT p.2) (rdO SH p.2) (hintAt hints i) (by omega) (by omega) (by simp [hintAt];omega)
  have hfd : bxF SH PT hints i p=findR (ptO PT p.1) (rdO SH p.1) (ptO PT p.2) (rdO SH p.2) (hintAt hints i):=rfl
  rw [← hfd] at cf
  rw [show PR.length - i=(PR.length - i - 1)+1 by omega] at hgo
  simp only [bxGo,hp] at hgo
  have hMi:=hMk i p hp
  have k2 : ∀ k,k < i+1→(R.set i (encVec (bxF SH PT hints i p).1))[k]?=LM[k]?:=fun k h1=>by
   rw [List.getElem?_set]
   by_cases e : i=k
   ·subst e;rw [if_pos rfl,if_pos hiR,hMi]
   ·rw [if_neg e];exact hR k (by omega)
  have k1 : ∀ y k,i+1≤k→k < PR.length→(R.set i y)[k]?=some (encV 0 0 0):=fun y k h1 h2=>by
   rw [List.getElem?_set,if_neg (by omega)];exact hRz k (by omega) h2
  have k2' : (bxF SH PT hints i p).2=false→∀ k,k < i+1→R[k]?=LM[k]?:=fun hf k h1=>by
   by_cases e : k=i
   ·subst e;rw [hRi,hMi]
    have : (bxF SH PT hints k p).1=(0,0,0):=findR_f hf
    rw [this]
   ·exact hR k (by omega)
  have k1' : ∀ k,i+1≤k→k < PR.length→R[k]?=some (encV 0 0 0):=fun k h1 h2=>hRz k (by omega) h2
  generalize bxF SH PT hints i p=F at *
  clear hMk hLM hML
  cases hF2 : F.2 with
  |true=>
   rw [hF2] at cf hgo
   simp only [if_true] at hgo
   with_reducible repeat' (first|refine Sp.h ?_|((first|refine Wd ?_|refine Ss.h ?_|refine Sc.h (cc) ?_|refine Sc.h (cf) ?_|(refine Sb.h ?_ ?_ ?_<;>(try intro hgd)<;>try exact Xy))<;>simp -implicitDefEqProofs (maxSteps:=2000000) [hP,hN,g2,g6,hb6,g7,hb7,g9,g10,g33,g34,hb12,hb14,hb16,hb30,hRl,hlt,hwr,hRi,hgi,hintSl]<;>try refine Ya ?_)|refine X2 ?_ ?_|(refine Xd ?_ ?_<;>intro hcd<;>try exact Xx))
   rw [show PR.length - i - 1=PR.length - (i+1) by omega] at hgo
   refine ⟨R.set i (encVec F.1),?_⟩
   cases ap
   ·exact .inl ⟨hgo,rfl,rfl,by simp [hRl],k1 _,k2⟩
   ·exact .inr ⟨hgo,rfl,rfl,by simp [hRl],k1 _,k2⟩
  |false=>
   rw [hF2] at cf hgo
   simp only [Bool.false_eq_true,if_false] at hgo
   have k2':=k2' hF2
   have c1:=d42 (ptO PT p.1) (by omega)
   have c2:=d42 (ptO PT p.2) (by omega)
   have z1:=centers_len8 l1
   have z2:=centers_len8 l2
   have c3:=d41 (centers (ptO PT p.1)) (centers (ptO PT p.2)) (rdO SH p.1+rdO SH p.2) 64 (by omega) (by omega)
   have hNd : bxN SH PT p=nrRes (centers (ptO PT p.1)) (centers (ptO PT p.2)) (rdO SH p.1+rdO SH p.2) 64:=rfl
   have hln:=nrRes_len (centers (ptO PT p.1)) (centers (ptO PT p.2)) (rdO SH p.1+rdO SH p.2) 64
   rw [← hNd] at c3 hln
   have hw : IntKind.i64.wrap (rdO SH p.1+rdO SH p.2)=rdO SH p.1+rdO SH p.2:=wr_id (by omega) (by omega)
   generalize bxN SH PT p=NN at *
   have co:=d43 NN.2.w NN.2.v (ptO PT p.1) (rdO SH p.1) (ptO PT p.2) (rdO SH p.2) (by omega) (by omega) (by omega) (by omega)
   have hod : ovlK SH PT NN.2.w NN.2.v p=(excB NN.2.w NN.2.v (ptO PT p.1) (rdO SH p.1) (ptO PT p.2) (rdO SH p.2) && decide (0≤excess NN.2.w NN.2.v (ptO PT p.1) (rdO SH p.1) (ptO PT p.2) (rdO SH p.2))):=rfl
   rw [← hod] at co
   cases hov : ovlK SH PT NN.2.w NN.2.v p with
   |true=>
    rw [hov] at co hgo
    simp only [if_true] at hgo
    subst hgo
    have cv:=vC ⟨i,NN.2.w,NN.2.v⟩
    with_reducible repeat' (first|refine Sp.h ?_|((first|refine Wd ?_|refine Ss.h ?_|refine Sc.h (cc) ?_|refine Sc.h (cf) ?_|refine Sc.h (c1) ?_|refine Sc.h (c2) ?_|refine Sc.h (c3) ?_|refine Sc.h (co) ?_|refine Sc.h (cv) ?_|(refine Sb.h ?_ ?_ ?_<;>(try intro hgd)<;>try exact Xy))<;>simp -implicitDefEqProofs (maxSteps:=2000000) [hP,hN,g2,g6,hb6,g7,hb7,g9,g10,g33,g34,hb12,hb14,hb16,hb30,hRl,hlt,hwr,hRi,hgi,hintSl,hw]<;>try refine Ya ?_)|refine X2 ?_ ?_|(refine Xd ?_ ?_<;>intro hcd<;>try exact Xx))
   |false=>
    rw [hov] at co hgo
    simp only [Bool.false_eq_true,if_false] at hgo
    rw [show PR.length - i - 1=PR.length - (i+1) by omega] at hgo
    with_reducible repeat' (first|refine Sp.h ?_|((first|refine Wd ?_|refine Ss.h ?_|refine Sc.h (cc) ?_|refine Sc.h (cf) ?_|refine Sc.h (c1) ?_|refine Sc.h (c2) ?_|refine Sc.h (c3) ?_|refine Sc.h (co) ?_|(refine Sb.h ?_ ?_ ?_<;>(try intro hgd)<;>try exact Xy))<;>simp -implicitDefEqProofs (maxSteps:=2000000) [hP,hN,g2,g6,hb6,g7,hb7,g9,g10,g33,g34,hb12,hb14,hb16,hb30,hRl,hlt,hwr,hRi,hgi,hintSl,hw]<;>try refine Ya ?_)|refine X2 ?_ ?_|(refine Xd ?_ ?_<;>intro hcd<;>try exact Xx))
    exact ⟨hgo,k1',k2'⟩
 ·have hin : i=PR.length:=by omega
  subst hin
  have hRC : R=LM:=by
   apply List.ext_getElem?
   intro k
   by_cases hk : k < PR.length
   ·exact hR k hk
   ·rw [List.getElem?_eq_none (by omega),List.getElem?_eq_none (by omega)]
  subst hRC
  rw [Nat.sub_self] at hgo
  simp only [bxGo] at hgo
  have cv:=vS (bxFound SH PR PT hints)
  have hBL : (bxFound SH PR PT hints).length=PR.length:=by simp [bxFound]
  cases ap with
  |true=>
   simp only [if_true] at hgo
   subst hgo
   rw [← hLM] at hb30
   with_reducible repeat' (first|refine Sp.h ?_|((first|refine Wd ?_|refine Ss.h ?_|refine Sc.h (cv) ?_|(refine Sb.h ?_ ?_ ?_<;>(try intro hgd)<;>try exact Xy))<;>simp -implicitDefEqProofs (maxSteps:=2000000) [hP,hN,g2,g6,hb6,g7,hb7,g9,g10,g33,g34,hb12,hb14,hb16,hb30,hML,hBL]<;>try refine Ya ?_)|refine X2 ?_ ?_|(refine Xd ?_ ?_<;>intro hcd<;>try exact Xx))
  |false=>
   simp only [Bool.false_eq_true,if_false] at hgo
   subst hgo
   rw [← hLM] at hb30
   with_reducible repeat' (first|refine Sp.h ?_|((first|refine Wd ?_|refine Ss.h ?_|(refine Sb.h ?_ ?_ ?_<;>(try intro hgd)<;>try exact Xy))<;>simp -implicitDefEqProofs (maxSteps:=2000000) [hP,hN,g2,g6,hb6,g7,hb7,g9,g10,g33,g34,hb12,hb14,hb16,hb30,hML,hBL]<;>try refine Ya ?_)|refine X2 ?_ ?_|(refine Xd ?_ ?_<;>intro hcd<;>try exact Xx))
end Go.Ab
namespace Go.Ab
open Go.Proofs
def clrK (SH : List Sh) (PT : List (List IVc)) (n : Vc) (p : Nat × Nat) : Int:=marginI n (ptO PT p.1) (rdO SH p.1) (ptO PT p.2) (rdO SH p.2) / normI n
def clrN (SH : List Sh) (PR : List (Nat × Nat)) (PT : List (List IVc)) (ns : List Vc) : Nat→Int
 |0=>2147483648
 |i+1=>match ns[i]?,PR[i]? with
  |some n,some p=>min (clrN SH PR PT ns i) (clrK SH PT n p)
  |_,_=>clrN SH PR PT ns i
def clrV (s : Sce) (bx : List Iv) (ns : List Vc) : Int:=if holdsSep s bx ns then clrN s.shs (pairsL s) (pointsL s bx) ns ns.length else 0
theorem clr_succ {SH : List Sh} {PR : List (Nat × Nat)} {PT : List (List IVc)} {ns : List Vc} {i : Nat} {n : Vc} {p : Nat × Nat} (hn : ns[i]?=some n) (hp : PR[i]?=some p) : clrN SH PR PT ns (i+1)=min (clrN SH PR PT ns i) (clrK SH PT n p):=by simp only [clrN,hn,hp]
theorem margin_rng {n : Vc} {a b : List IVc} {ra rb : Int} (h : marginB n a ra b rb=true) : -100000000000000≤marginI n a ra b rb∧marginI n a ra b rb≤100000000000000:=by
 simp only [marginB,sideB,usableV,Bool.and_eq_true,decide_eq_true_eq] at h
 obtain ⟨⟨⟨⟨a1,a2⟩,a3⟩,⟨b1,b2⟩,b3⟩,hn,_⟩:=h
 have l1:=least_rng hn (placedB_all a1).1
 have g1:=great_rng hn (placedB_all b1).1
 have q1:=norm_rng n
 have m1:=mul_rng (a:=normI n) (b:=ra+rb) 32768 2097152 (by omega) (by omega) (by omega) (by omega)
 unfold marginI
 omega
theorem sq_nn (x : Int) : 0≤x * x:=by
 rcases Int.le_total 0 x with h|h
 ·exact Int.mul_nonneg h h
 ·have:=Int.mul_nonneg (show 0≤-x by omega) (show 0≤-x by omega)
  rw [Int.neg_mul_neg] at this;exact this
theorem sq_pos {x : Int} (h : x≠0) : 1≤x * x:=by
 have h1:=sq_nn x
 have h2 : x * x≠0:=fun e=>by rcases Int.mul_eq_zero.1 e with e|e<;>exact h e
 omega
theorem norm_pos {n : Vc} {a b : List IVc} {ra rb : Int} (h : marginB n a ra b rb=true) : 1≤normI n:=by
 simp only [marginB,Bool.and_eq_true] at h
 have hu:=h.2
 have hn : nz n=true:=by simp only [usableV,Bool.and_eq_true] at hu;exact hu.2
 have hs : 1≤sqN n:=by
  have a1:=sq_nn n.1
  have a2:=sq_nn n.2.1
  have a3:=sq_nn n.2.2
  have : 1≤n.1 * n.1+n.2.1 * n.2.1+n.2.2 * n.2.2:=by
   by_cases h1 : n.1=0
   ·by_cases h2 : n.2.1=0
    ·by_cases h3 : n.2.2=0
     ·simp [nz,h1,h2,h3] at hn
     ·have:=sq_pos h3;omega
    ·have:=sq_pos h2;omega
   ·have:=sq_pos h1;omega
  unfold sqN;omega
 have hns : normI n=(sqrtU (sqN n) : Int):=by simp [normI,hu]
 rw [hns]
 have : 1≤sqrtU (sqN n):=by
  unfold sqrtU
  split
  ·omega
  ·rename_i h0
   rcases Nat.eq_zero_or_pos (sqrtN (sqN n)) with e|e
   ·rw [e] at h0;omega
   ·omega
 omega
set_option maxHeartbeats 8000000 in
theorem d27 (s : Sce) (bx : List Iv) (ns : List Vc) (hs : ScL s) (hbl : bx.length≤9223372036854775807) (hnl : ns.length≤9223372036854775807) : DetH Tryz.prog 27 [.pv (encSc s),.pv (iv bx),.pv (vecs ns)] [] [] (.pv (.tup [Z (clrV s bx ns),B (holdsSep s bx ns)])):=by
 have cp:=d38 s bx hs hbl
 have hd : clrV s bx ns=if holdsSep s bx ns then clrN s.shs (pairsL s) (pointsL s bx) ns ns.length else 0:=rfl
 have hh : holdsSep s bx ns=(placeOk s bx && sepAllB s.shs (pairsL s) (pointsL s bx) ns):=rfl
 cases hp : placeOk s bx with
 |false=>
  rw [hp] at cp hh
  simp only [Bool.false_and] at hh
  rw [hh] at hd
  simp only [Bool.false_eq_true,if_false] at hd
  rw [hd,hh]
  refine detP_of Tryz.func27 rfl (by kernel_rfl) (by simp [Tryz.f27]) rfl ?_
  intro C hP hN
  simp only [Tryz.f27] at hN ⊢
  with_reducible repeat' (first|refine Sp.h ?_|((first|refine Wd ?_|refine Ss.h ?_|refine Sc.h (cp) ?_|(refine Sb.h ?_ ?_ ?_<;>(try intro hgd)<;>try exact Xy))<;>simp -implicitDefEqProofs (maxSteps:=2000000) [hP,hN]<;>try refine Ya ?_)|refine X2 ?_ ?_|(refine Xd ?_ ?_<;>intro hcd<;>try exact Xx))
 |true=>
 rw [hp] at cp hh
 have hb:=bdOk hp
 have hrd:=rdO_rng hp
 generalize pairsL s=PR at *
 generalize pointsL s bx=PT at *
 generalize s.shs=SH at *
 have cs:=d63 SH PR PT hb ns hnl
 cases hsa : sepAllB SH PR PT ns with
 |false=>
  rw [hsa] at cs hh
  simp only [Bool.and_false] at hh
  rw [hh] at hd
  simp only [Bool.false_eq_true,if_false] at hd
  rw [hd,hh]
  refine detP_of Tryz.func27 rfl (by kernel_rfl) (by simp [Tryz.f27]) rfl ?_
  intro C hP hN
  simp only [Tryz.f27] at hN ⊢
  with_reducible repeat' (first|refine Sp.h ?_|((first|refine Wd ?_|refine Ss.h ?_|refine Sc.h (cp) ?_|refine Sc.h (cs) ?_|(refine Sb.h ?_ ?_ ?_<;>(try intro hgd)<;>try exact Xy))<;>simp -implicitDefEqProofs (maxSteps:=2000000) [hP,hN]<;>try refine Ya ?_)|refine X2 ?_ ?_|(refine Xd ?_ ?_<;>intro hcd<;>try exact Xx))
 |true=>
 rw [hsa] at cs hh
 simp only [Bool.and_self] at hh
 rw [hh] at hd
 simp only [if_true] at hd
 rw [hd,hh]
 have hle : ns.length=PR.length:=by
  simp only [sepAllB,Bool.and_eq_true,decide_eq_true_eq] at hsa;exact hsa.1
 have hall : ∀ k n p,ns[k]?=some n→PR[k]?=some p→sepK SH PT n p=true:=fun k n p hn hp=>by
  cases h : sepK SH PT n p with
  |true=>rfl
  |false=>rw [sepAllB_f hn hp h] at hsa;cases hsa
 have hfew:=hb.few
 have hz : clrN SH PR PT ns 0=2147483648:=rfl
 refine detP_of Tryz.func27 rfl (by kernel_rfl) (by simp [Tryz.f27]) rfl ?_
 intro C hP hN
 simp only [Tryz.f27] at hN ⊢
 with_reducible repeat' (first|refine Sp.h ?_|((first|refine Wd ?_|refine Ss.h ?_|refine Sc.h (cp) ?_|refine Sc.h (cs) ?_|(refine Sb.h ?_ ?_ ?_<;>(try intro hgd)<;>try exact Xy))<;>simp -implicitDefEqProofs (maxSteps:=2000000) [hP,hN,hle]<;>try refine Ya ?_)|refine X2 ?_ ?_|(refine Xd ?_ ?_<;>intro hcd<;>try exact Xx))
 refine WP.loopN [10,11] ns.length (fun i st=>st.t 6=.ptr 6 0∧st.h 6=some (.box [.pv (Z (clrN SH PR PT ns i))] true false)∧st.t 7=.ptr 7 0∧st.h 7=some (.box [.pv (B true)] true false)∧st.t 8=.ptr 8 0∧st.h 8=some (.box [.pv (.sl (SH.map encSh)),.pv (.sl (PR.map encPr)),.pv (.sl (PT.map ivcs))] true false)∧st.t 30=.pv (vecs ns)∧st.t 31=.pv (Z ns.length)∧st.t 32=.pv (Z i)∧st.h 10=none∧st.h 11=none) (by simp [hle,hz]) ?_
 rintro i st hi ⟨g6,hb6,g7,hb7,g8,hb8,g30,g31,g32,hb10,hb11⟩
 by_cases hlt : i < ns.length
 ·have hwr:=wr_succ hlt hnl
  generalize hxe : ns[i]=v at *
  have hx : ns[i]?=some v:=by rw [List.getElem?_eq_getElem hlt,hxe]
  obtain ⟨p,hp'⟩ : ∃ p,PR[i]?=some p:=⟨_,List.getElem?_eq_getElem (by omega)⟩
  have cc:=d39 SH PR PT hb i p hp'
  have hsk:=hall i v p hx hp'
  have cm:=d64 v (ptO PT p.1) (rdO SH p.1) (ptO PT p.2) (rdO SH p.2) (ptO_len hb _) (ptO_len hb _)
  simp only [sepK,sepB,Bool.and_eq_true,decide_eq_true_eq] at hsk
  rw [hsk.1] at cm
  have cn:=d65 v
  have hck : clrK SH PT v p=marginI v (ptO PT p.1) (rdO SH p.1) (ptO PT p.2) (rdO SH p.2) / normI v:=rfl
  have hmr:=margin_rng hsk.1
  have hn1:=norm_pos hsk.1
  have hn2:=norm_rng v
  have hcs:=clr_succ (SH:=SH) (PT:=PT) hx hp'
  rw [hck] at hcs
  clear hck
  generalize marginI v (ptO PT p.1) (rdO SH p.1) (ptO PT p.2) (rdO SH p.2)=m at *
  generalize normI v=q at *
  generalize clrN SH PR PT ns i=e at *
  generalize clrN SH PR PT ns (i+1)=e' at *
  subst hcs
  have a3 : m.tdiv q=m / q:=Int.tdiv_eq_ediv_of_nonneg (by omega)
  have h4 : m / q≤m:=Int.ediv_le_self q (by omega)
  have h5 : 0≤m / q:=Int.ediv_nonneg (by omega) (by omega)
  have a4 : IntKind.i64.wrap (m / q)=m / q:=wr_id (by omega) (by omega)
  have a5 : ¬ q=0:=by omega
  have a6 : (q==0)=false:=by simp;omega
  with_reducible repeat' (first|refine Sp.h ?_|((first|refine Wd ?_|refine Ss.h ?_|refine Sc.h (cc) ?_|refine Sc.h (cm) ?_|refine Sc.h (cn) ?_|(refine Sb.h ?_ ?_ ?_<;>(try intro hgd)<;>try exact Xy))<;>simp -implicitDefEqProofs (maxSteps:=2000000) [hP,hN,g6,hb6,g7,hb7,g8,hb8,g30,g31,g32,hb10,hb11,hlt,hx,hxe,hwr,a3,a4,a5,a6]<;>try refine Ya ?_)|refine X2 ?_ ?_|(refine Xd ?_ ?_<;>intro hcd<;>try exact Xx))
 ·have hin : i=ns.length:=by omega
  subst hin
  with_reducible repeat' (first|refine Sp.h ?_|((first|refine Wd ?_|refine Ss.h ?_|(refine Sb.h ?_ ?_ ?_<;>(try intro hgd)<;>try exact Xy))<;>simp -implicitDefEqProofs (maxSteps:=2000000) [hP,hN,g6,hb6,g7,hb7,g8,hb8,g30,g31,g32,hb10,hb11]<;>try refine Ya ?_)|refine X2 ?_ ?_|(refine Xd ?_ ?_<;>intro hcd<;>try exact Xx))
  all_goals rw [hle]
end Go.Ab
namespace Go.Ab
open Go.Proofs
theorem placedI_sub {x y : Iv} (h : SubI x y) (hy : placedI y=true) : placedI x=true:=by
 rw [placedI_iff] at hy ⊢
 have:=h.all
 omega
theorem placedV_sub {x y : IVc} (h : SubV x y) (hy : placedV y=true) : placedV x=true:=by
 rw [placedV_iff] at hy ⊢
 exact ⟨placedI_sub h.a hy.1,placedI_sub h.b hy.2.1,placedI_sub h.c hy.2.2⟩
theorem SubVs.get {a b : List IVc} (h : SubVs a b) {k : Nat} {x : IVc} (hx : a[k]?=some x) : ∃ y,b[k]?=some y∧SubV x y:=by
 have hk : k < a.length:=(List.getElem?_eq_some_iff.1 hx).1
 have hb : b[k]?=some (b[k]'(by rw [← h.1];exact hk)):=List.getElem?_eq_getElem _
 exact ⟨_,hb,h.2 k _ _ hx hb⟩
theorem placedB_sub {a b : List IVc} (h : SubVs a b) (hb : placedB b=true) : placedB a=true:=by
 simp only [placedB,Bool.and_eq_true,decide_eq_true_eq,List.all_eq_true] at hb ⊢
 refine ⟨by rw [h.1];exact hb.1,fun x hx=>?_⟩
 obtain ⟨k,hk⟩:=List.getElem?_of_mem hx
 obtain ⟨y,hy,hs⟩:=h.get hk
 exact placedV_sub hs (hb.2 y (List.mem_of_getElem? hy))
theorem mnP_sub {n : Int} {x y : Iv} (h : SubI x y) : mnP n y≤mnP n x∧mxP n x≤mxP n y:=by
 have ha:=h.all
 have h1:=mul1 (c:=n) (a:=y.1) (b:=y.2) (x:=x.1) (by omega) (by omega)
 have h2:=mul1 (c:=n) (a:=y.1) (b:=y.2) (x:=x.2) (by omega) (by omega)
 simp only [mnP,mxP]
 rw [Int.mul_comm y.1 n,Int.mul_comm y.2 n,Int.mul_comm x.1 n] at h1
 rw [Int.mul_comm y.1 n,Int.mul_comm y.2 n,Int.mul_comm x.2 n] at h2
 omega
theorem dot_sub {n : Vc} {x y : IVc} (h : SubV x y) : dotLo n y≤dotLo n x∧dotHi n x≤dotHi n y:=by
 have h1:=mnP_sub (n:=n.1) h.a
 have h2:=mnP_sub (n:=n.2.1) h.b
 have h3:=mnP_sub (n:=n.2.2) h.c
 simp only [dotLo,dotHi]
 omega
theorem least_sub {n : Vc} {a b : List IVc} (h : SubVs a b) : ∀ i,i≤a.length→(optS (dotLo n) ltB b i).1≤(optS (dotLo n) ltB a i).1
 |0,_=>Int.le_refl _
 |i+1,hi=>by
  have ih:=least_sub (n:=n) h i (by omega)
  have hx : a[i]?=some a[i]:=List.getElem?_eq_getElem (by omega)
  obtain ⟨y,hy,hs⟩:=h.get hx
  have hd:=(dot_sub (n:=n) hs).1
  rw [optS_succ hx,optS_succ hy]
  simp only [ltB,decide_eq_true_eq]
  split<;>split<;>(try simp only [])<;>omega
theorem great_sub {n : Vc} {a b : List IVc} (h : SubVs a b) : ∀ i,i≤a.length→(optS (dotHi n) gtB a i).1≤(optS (dotHi n) gtB b i).1
 |0,_=>Int.le_refl _
 |i+1,hi=>by
  have ih:=great_sub (n:=n) h i (by omega)
  have hx : a[i]?=some a[i]:=List.getElem?_eq_getElem (by omega)
  obtain ⟨y,hy,hs⟩:=h.get hx
  have hd:=(dot_sub (n:=n) hs).2
  rw [optS_succ hx,optS_succ hy]
  simp only [gtB,decide_eq_true_eq]
  split<;>split<;>(try simp only [])<;>omega
theorem margin_sub {n : Vc} {a a' b b' : List IVc} {ra rb : Int} (ha : SubVs a a') (hb : SubVs b b') : marginI n a' ra b' rb≤marginI n a ra b rb:=by
 have h1:=least_sub (n:=n) ha a.length (Nat.le_refl _)
 have h2:=great_sub (n:=n) hb b.length (Nat.le_refl _)
 simp only [marginI,leastL,greatL,optL]
 rw [ha.1] at h1 ⊢
 rw [hb.1] at h2 ⊢
 omega
theorem marginB_sub {n : Vc} {a a' b b' : List IVc} {ra rb : Int} (ha : SubVs a a') (hb : SubVs b b') (h : marginB n a' ra b' rb=true) : marginB n a ra b rb=true:=by
 simp only [marginB,sideB,Bool.and_eq_true] at h ⊢
 exact ⟨⟨⟨⟨placedB_sub ha h.1.1.1.1,h.1.1.1.2⟩,h.1.1.2⟩,⟨placedB_sub hb h.1.2.1.1,h.1.2.1.2⟩,h.1.2.2⟩,h.2⟩
theorem sepB_sub {n : Vc} {a a' b b' : List IVc} {ra rb : Int} (ha : SubVs a a') (hb : SubVs b b') (h : sepB n a' ra b' rb=true) : sepB n a ra b rb=true:=by
 simp only [sepB,Bool.and_eq_true,decide_eq_true_eq] at h ⊢
 have:=margin_sub (n:=n) (ra:=ra) (rb:=rb) ha hb
 exact ⟨marginB_sub ha hb h.1,by omega⟩
structure SumI (x y : Iv) : Prop where
 lo : y.1≤x.1
 md : x.1≤x.2
 hi : x.2≤y.2
theorem addW_sub {w : Int} {s s' x x' : Iv} (hw : 0≤w) (hs : SumI s s') (hx : SubI x x') : SumI (addW w s x) (addW w s' x'):=by
 have h:=hx.all
 have h1:=Int.mul_le_mul_of_nonneg_left hx.lo hw
 have h2:=Int.mul_le_mul_of_nonneg_left hx.hi hw
 have h3:=Int.mul_le_mul_of_nonneg_left (show x.1≤x.2 by omega) hw
 have a:=hs.lo
 have b:=hs.md
 have c:=hs.hi
 constructor<;>simp only [addW]<;>omega
structure SumV (x y : IVc) : Prop where
 a : SumI x.1 y.1
 b : SumI x.2.1 y.2.1
 c : SumI x.2.2 y.2.2
theorem wsum_sub {a b : List IVc} {ws : List Int} (h : SubVs a b) (hw : ∀ w ∈ ws,wB w=true) : ∀ i,i≤a.length→SumV (wsum a ws i) (wsum b ws i)
 |0,_=>⟨⟨Int.le_refl _,Int.le_refl _,Int.le_refl _⟩,⟨Int.le_refl _,Int.le_refl _,Int.le_refl _⟩,⟨Int.le_refl _,Int.le_refl _,Int.le_refl _⟩⟩
 |i+1,hi=>by
  have ih:=wsum_sub h hw i (by omega)
  have hx : a[i]?=some a[i]:=List.getElem?_eq_getElem (by omega)
  obtain ⟨y,hy,hs⟩:=h.get hx
  simp only [wsum,hx,hy]
  cases hk : ws[i]? with
  |none=>exact ih
  |some w=>
   have hp : 0≤w:=by
    have:=hw w (List.mem_of_getElem? hk)
    simp only [wB,Bool.not_eq_true',Bool.or_eq_false_iff,decide_eq_false_iff_not] at this
    omega
   exact ⟨addW_sub hp ih.a hs.a,addW_sub hp ih.b hs.b,addW_sub hp ih.c hs.c⟩
theorem combB_sub {a b : List IVc} {ws : List Int} (h : SubVs a b) (hb : combB b ws=true) : combB a ws=true:=by
 simp only [combB,Bool.and_eq_true] at hb ⊢
 rw [h.1]
 exact ⟨⟨⟨placedB_sub h hb.1.1.1,hb.1.1.2⟩,hb.1.2⟩,hb.2⟩
theorem combB_ws {a : List IVc} {ws : List Int} (h : combB a ws=true) : (∀ w ∈ ws,wB w=true)∧ws.length=a.length∧placedB a=true:=by
 simp only [combB,Bool.and_eq_true,List.all_eq_true,decide_eq_true_eq] at h
 exact ⟨h.1.2,h.1.1.2,h.1.1.1⟩
theorem gapI_sub {u u' v v' : Iv} {t : Int} (hu : SumI u u') (hv : SumI v v') (ht : 0 < t) : 0≤gapI u v t∧gapI u v t≤gapI u' v' t:=by
 have a:=hu.lo
 have b:=hu.md
 have c:=hu.hi
 have a':=hv.lo
 have b':=hv.md
 have c':=hv.hi
 have h1 : far2 (u.1 - v.2) (u.2 - v.1)≤far2 (u'.1 - v'.2) (u'.2 - v'.1):=by unfold far2;omega
 have h2 : 0≤far2 (u.1 - v.2) (u.2 - v.1):=by unfold far2;omega
 exact ⟨Int.ediv_nonneg (by omega) (by omega),Int.ediv_le_ediv ht (by omega)⟩
theorem excL_eq (x y z r : Int) : excL [x,y,z] r=if x≤r∧y≤r∧z≤r then r * r - x * x - y * y - z * z else -1:=by
 unfold excL
 have : [x,y,z].all (fun x=>decide (x≤r))=decide (x≤r∧y≤r∧z≤r):=by simp [Bool.and_assoc]
 rw [this]
 simp [excE]
theorem sq_le {x y : Int} (h0 : 0≤x) (h : x≤y) : x * x≤y * y:=Int.mul_le_mul h h h0 (by omega)
theorem excess_sub {l r : List Int} {a a' b b' : List IVc} {ra rb : Int} (ha : SubVs a a') (hb : SubVs b b') (h : excB l r a' ra b' rb=true) (h0 : 0≤excess l r a' ra b' rb) : excB l r a ra b rb=true∧0≤excess l r a ra b rb:=by
 have hE : excB l r a ra b rb=true:=by
  simp only [excB,Bool.and_eq_true] at h ⊢
  exact ⟨⟨⟨⟨combB_sub ha h.1.1.1.1,combB_sub hb h.1.1.1.2⟩,h.1.1.2⟩,h.1.2⟩,h.2⟩
 refine ⟨hE,?_⟩
 have hc:=h
 simp only [excB,Bool.and_eq_true] at hc
 have wl:=combB_ws hc.1.1.1.1
 have wr':=combB_ws hc.1.1.1.2
 have ht:=comb_tot hc.1.1.1.1
 have s1:=wsum_sub ha wl.1 l.length (by rw [wl.2.1,ha.1];exact Nat.le_refl _)
 have s2:=wsum_sub hb wr'.1 r.length (by rw [wr'.2.1,hb.1];exact Nat.le_refl _)
 simp only [excess,h,hE,if_true,gaps,excL_eq] at h0 ⊢
 have g1:=gapI_sub s1.a s2.a (t:=wtot l l.length) (by omega)
 have g2:=gapI_sub s1.b s2.b (t:=wtot l l.length) (by omega)
 have g3:=gapI_sub s1.c s2.c (t:=wtot l l.length) (by omega)
 generalize gapI (wsum a l l.length).1 (wsum b r r.length).1 (wtot l l.length)=x at *
 generalize gapI (wsum a l l.length).2.1 (wsum b r r.length).2.1 (wtot l l.length)=y at *
 generalize gapI (wsum a l l.length).2.2 (wsum b r r.length).2.2 (wtot l l.length)=z at *
 generalize gapI (wsum a' l l.length).1 (wsum b' r r.length).1 (wtot l l.length)=x' at *
 generalize gapI (wsum a' l l.length).2.1 (wsum b' r r.length).2.1 (wtot l l.length)=y' at *
 generalize gapI (wsum a' l l.length).2.2 (wsum b' r r.length).2.2 (wtot l l.length)=z' at *
 have q1:=sq_le g1.1 g1.2
 have q2:=sq_le g2.1 g2.2
 have q3:=sq_le g3.1 g3.2
 split at h0
 ·rename_i hc
  rw [if_pos (by omega)]
  omega
 ·omega
theorem mn_addW {n w : Int} {s x : Iv} (hw : 0≤w) : mnP n s+w * mnP n x≤mnP n (addW w s x)∧mxP n (addW w s x)≤mxP n s+w * mxP n x:=by
 have e1 : n * (s.1+w * x.1)=n * s.1+w * (n * x.1):=by rw [Int.mul_add,← Int.mul_assoc,← Int.mul_assoc,Int.mul_comm n w]
 have e2 : n * (s.2+w * x.2)=n * s.2+w * (n * x.2):=by rw [Int.mul_add,← Int.mul_assoc,← Int.mul_assoc,Int.mul_comm n w]
 have a1:=Int.mul_le_mul_of_nonneg_left (show min (n * x.1) (n * x.2)≤n * x.1 by omega) hw
 have a2:=Int.mul_le_mul_of_nonneg_left (show min (n * x.1) (n * x.2)≤n * x.2 by omega) hw
 have a3:=Int.mul_le_mul_of_nonneg_left (show n * x.1≤max (n * x.1) (n * x.2) by omega) hw
 have a4:=Int.mul_le_mul_of_nonneg_left (show n * x.2≤max (n * x.1) (n * x.2) by omega) hw
 simp only [mnP,mxP,addW,e1,e2]
 omega
theorem dot_addW {n : Vc} {w : Int} {s x : IVc} (hw : 0≤w) : dotLo n s+w * dotLo n x≤dotLo n (addWV w s x)∧dotHi n (addWV w s x)≤dotHi n s+w * dotHi n x:=by
 have h1:=mn_addW (n:=n.1) (s:=s.1) (x:=x.1) hw
 have h2:=mn_addW (n:=n.2.1) (s:=s.2.1) (x:=x.2.1) hw
 have h3:=mn_addW (n:=n.2.2) (s:=s.2.2) (x:=x.2.2) hw
 simp only [dotLo,dotHi,addWV,Int.mul_add]
 omega
theorem least_le {n : Vc} {a : List IVc} : ∀ i,i≤a.length→∀ k x,k < i→a[k]?=some x→(optS (dotLo n) ltB a i).1≤dotLo n x
 |0,_,k,x,hk,_=>by omega
 |i+1,hi,k,x,hk,hx=>by
  have hy : a[i]?=some a[i]:=List.getElem?_eq_getElem (by omega)
  rw [optS_succ hy]
  simp only [ltB,decide_eq_true_eq]
  by_cases he : k=i
  ·subst he
   rw [hx] at hy
   cases hy
   split<;>(try simp only [])<;>omega
  ·have:=least_le (n:=n) i (by omega) k x (by omega) hx
   split<;>(try simp only [])<;>omega
theorem great_ge {n : Vc} {a : List IVc} : ∀ i,i≤a.length→∀ k x,k < i→a[k]?=some x→dotHi n x≤(optS (dotHi n) gtB a i).1
 |0,_,k,x,hk,_=>by omega
 |i+1,hi,k,x,hk,hx=>by
  have hy : a[i]?=some a[i]:=List.getElem?_eq_getElem (by omega)
  rw [optS_succ hy]
  simp only [gtB,decide_eq_true_eq]
  by_cases he : k=i
  ·subst he
   rw [hx] at hy
   cases hy
   split<;>(try simp only [])<;>omega
  ·have:=great_ge (n:=n) i (by omega) k x (by omega) hx
   split<;>(try simp only [])<;>omega
theorem wsum_dot {n : Vc} {a : List IVc} {ws : List Int} {L H : Int} (hL : ∀ (k : Nat) x,a[k]?=some x→L≤dotLo n x) (hH : ∀ (k : Nat) x,a[k]?=some x→dotHi n x≤H) (hw : ∀ w ∈ ws,wB w=true) (hl : ws.length=a.length) : ∀ i,i≤ws.length→wtot ws i * L≤dotLo n (wsum a ws i)∧dotHi n (wsum a ws i)≤wtot ws i * H
 |0,_=>by simp [wtot,wsum,dotLo,dotHi,mnP,mxP,stillV]
 |i+1,hi=>by
  have ih:=wsum_dot hL hH hw hl i (by omega)
  have hx : a[i]?=some (a[i]'(by omega)):=List.getElem?_eq_getElem _
  have hk : ws[i]?=some ws[i]:=List.getElem?_eq_getElem (by omega)
  have hp : 0≤ws[i]:=by
   have:=hw _ (List.getElem_mem (l:=ws) (n:=i) (by omega))
   simp only [wB,Bool.not_eq_true',Bool.or_eq_false_iff,decide_eq_false_iff_not] at this
   omega
  have hd:=dot_addW (n:=n) (s:=wsum a ws i) (x:=a[i]'(by omega)) hp
  have g1:=Int.mul_le_mul_of_nonneg_left (hL i _ hx) hp
  have g2:=Int.mul_le_mul_of_nonneg_left (hH i _ hx) hp
  simp only [wsum,wtot,hx,hk,Option.getD_some,Int.add_mul]
  omega
theorem gap_dot {n t : Int} {u v : Iv} (ht : 0 < t) : mnP n u - mxP n v≤t * (max n (-n) * gapI u v t):=by
 have h1 : far2 (u.1 - v.2) (u.2 - v.1)≤t * gapI u v t:=by
  have e:=Int.mul_ediv_add_emod (far2 (u.1 - v.2) (u.2 - v.1)+t - 1) t
  have e2:=Int.emod_lt_of_pos (far2 (u.1 - v.2) (u.2 - v.1)+t - 1) ht
  simp only [gapI]
  omega
 have h2 : mnP n u - mxP n v≤max n (-n) * far2 (u.1 - v.2) (u.2 - v.1):=by
  rcases Int.le_total 0 n with h|h
  ·have g:=Int.mul_le_mul_of_nonneg_left (show u.1 - v.2≤far2 (u.1 - v.2) (u.2 - v.1) by unfold far2;omega) h
   rw [Int.mul_sub] at g
   rw [show max n (-n)=n by omega]
   simp only [mnP,mxP]
   omega
  ·have g:=Int.mul_le_mul_of_nonneg_left (show -(u.2 - v.1)≤far2 (u.1 - v.2) (u.2 - v.1) by unfold far2;omega) (show 0≤-n by omega)
   rw [Int.neg_mul_neg,Int.mul_sub] at g
   rw [show max n (-n)=-n by omega]
   simp only [mnP,mxP]
   omega
 have h3:=Int.mul_le_mul_of_nonneg_left h1 (show 0≤max n (-n) by omega)
 rw [← Int.mul_assoc,Int.mul_comm (max n (-n)) t,Int.mul_assoc] at h3
 omega
theorem cauchy (p q r x y z : Int) : (p * x+q * y+r * z) * (p * x+q * y+r * z)≤(p * p+q * q+r * r) * (x * x+y * y+z * z):=by
 have h1:=sq_nn (p * y - q * x)
 have h2:=sq_nn (p * z - r * x)
 have h3:=sq_nn (q * z - r * y)
 have e : (p * p+q * q+r * r) * (x * x+y * y+z * z)=(p * x+q * y+r * z) * (p * x+q * y+r * z)+(p * y - q * x) * (p * y - q * x)+(p * z - r * x) * (p * z - r * x)+(q * z - r * y) * (q * z - r * y):=by grind
 omega
theorem abs_sq (n : Int) : max n (-n) * max n (-n)=n * n:=by
 rcases Int.le_total 0 n with h|h
 ·rw [show max n (-n)=n by omega]
 ·rw [show max n (-n)=-n by omega,Int.neg_mul_neg]
theorem norm_sq {n : Vc} (h : usableV n=true) : n.1 * n.1+n.2.1 * n.2.1+n.2.2 * n.2.2≤normI n * normI n:=by
 have hn : nearV 16384 n=true:=by simp only [usableV,Bool.and_eq_true] at h;exact h.1
 have hs:=sqN_le hn
 have hq:=sqrtN_sq (n:=sqN n) (by omega)
 have h0 : 0≤n.1 * n.1+n.2.1 * n.2.1+n.2.2 * n.2.2:=by
  have:=sq_nn n.1
  have:=sq_nn n.2.1
  have:=sq_nn n.2.2
  omega
 have e : n.1 * n.1+n.2.1 * n.2.1+n.2.2 * n.2.2=((sqN n : Nat) : Int):=by unfold sqN;omega
 have hu : sqN n≤sqrtU (sqN n) * sqrtU (sqN n):=by
  unfold sqrtU
  split
  ·omega
  ·omega
 rw [e]
 simp only [normI,h,if_true]
 have : ((sqN n : Nat) : Int)≤((sqrtU (sqN n) * sqrtU (sqN n) : Nat) : Int):=by omega
 rw [Int.natCast_mul] at this
 exact this
theorem root_lt {x y : Int} (hy : 0≤y) (h : x * x≤y * y) : x≤y:=by
 by_cases hc : x≤y
 ·exact hc
 ·have h1:=Int.mul_le_mul_of_nonneg_left (show y≤x by omega) hy
  have h2:=Int.mul_lt_mul_of_pos_right (show y < x by omega) (show 0 < x by omega)
  omega
theorem sep_ovl {n : Vc} {l r : List Int} {a b : List IVc} {ra rb : Int} (hs : sepB n a ra b rb=true) (h : excB l r a ra b rb=true) (h0 : 0≤excess l r a ra b rb) : False:=by
 have hc:=h
 simp only [excB,Bool.and_eq_true,decide_eq_true_eq] at hc
 have wl:=combB_ws hc.1.1.1.1
 have wr':=combB_ws hc.1.1.1.2
 have ht:=comb_tot hc.1.1.1.1
 have hT:=hc.1.1.2
 simp only [sepB,marginB,sideB,Bool.and_eq_true,decide_eq_true_eq] at hs
 obtain ⟨⟨⟨⟨⟨pa,ra0⟩,ra1⟩,⟨pb,rb0⟩,rb1⟩,hu⟩,hm⟩:=hs
 have dA:=(wsum_dot (n:=n) (a:=a) (L:=(leastL n a).1) (H:=16777216 * 16777216 * 16777216) (fun k x hx=>least_le a.length (Nat.le_refl _) k x (List.getElem?_eq_some_iff.1 hx).1 hx) (fun k x hx=>by
  have hn : nearV 16384 n=true:=by simp only [usableV,Bool.and_eq_true] at hu;exact hu.1
  have:=(dot_rng (n:=n) (v:=x) hn (by simp only [placedB,Bool.and_eq_true,List.all_eq_true] at pa;exact pa.2 x (List.mem_of_getElem? hx))).2
  omega) wl.1 wl.2.1 l.length (Nat.le_refl _)).1
 have dB:=(wsum_dot (n:=n) (a:=b) (L:=-(16777216 * 16777216 * 16777216)) (H:=(greatL n b).1) (fun k x hx=>by
  have hn : nearV 16384 n=true:=by simp only [usableV,Bool.and_eq_true] at hu;exact hu.1
  have:=(dot_rng (n:=n) (v:=x) hn (by simp only [placedB,Bool.and_eq_true,List.all_eq_true] at pb;exact pb.2 x (List.mem_of_getElem? hx))).1
  omega) (fun k x hx=>great_ge b.length (Nat.le_refl _) k x (List.getElem?_eq_some_iff.1 hx).1 hx) wr'.1 wr'.2.1 r.length (Nat.le_refl _)).2
 rw [← hT] at dB
 simp only [excess,h,if_true,gaps,excL_eq] at h0
 generalize wsum a l l.length=U at *
 generalize wsum b r r.length=V at *
 generalize wtot l l.length=T at *
 have g1:=gap_dot (n:=n.1) (u:=U.1) (v:=V.1) (t:=T) (by omega)
 have g2:=gap_dot (n:=n.2.1) (u:=U.2.1) (v:=V.2.1) (t:=T) (by omega)
 have g3:=gap_dot (n:=n.2.2) (u:=U.2.2) (v:=V.2.2) (t:=T) (by omega)
 have hcs:=cauchy (max n.1 (-n.1)) (max n.2.1 (-n.2.1)) (max n.2.2 (-n.2.2)) (gapI U.1 V.1 T) (gapI U.2.1 V.2.1 T) (gapI U.2.2 V.2.2 T)
 rw [abs_sq,abs_sq,abs_sq] at hcs
 have hns:=norm_sq hu
 have hnr:=norm_rng n
 simp only [marginI] at hm
 simp only [dotLo,dotHi] at dA dB
 generalize gapI U.1 V.1 T=x at *
 generalize gapI U.2.1 V.2.1 T=y at *
 generalize gapI U.2.2 V.2.2 T=z at *
 generalize max n.1 (-n.1)=p at *
 generalize max n.2.1 (-n.2.1)=q at *
 generalize max n.2.2 (-n.2.2)=w at *
 split at h0
 case isFalse=>omega
 have hsum : (p * x+q * y+w * z)≤normI n * (ra+rb):=by
  refine root_lt (Int.mul_nonneg hnr.1 (by omega)) ?_
  refine Int.le_trans hcs ?_
  have hxs : 0≤x * x+y * y+z * z:=by
   have:=sq_nn x
   have:=sq_nn y
   have:=sq_nn z
   omega
  have k1:=Int.mul_le_mul_of_nonneg_right hns hxs
  have k2:=Int.mul_le_mul_of_nonneg_left (show x * x+y * y+z * z≤(ra+rb) * (ra+rb) by omega) (sq_nn (normI n))
  have e : normI n * (ra+rb) * (normI n * (ra+rb))=normI n * normI n * ((ra+rb) * (ra+rb)):=by grind
  rw [e]
  exact Int.le_trans k1 k2
 have k3:=Int.mul_le_mul_of_nonneg_left hsum (show 0≤T by omega)
 have k4:=Int.mul_le_mul_of_nonneg_left (show normI n * (ra+rb)+1≤(leastL n a).1 - (greatL n b).1 by omega) (show 0≤T by omega)
 rw [Int.mul_add,Int.mul_add] at k3
 rw [Int.mul_add,Int.mul_sub] at k4
 omega
end Go.Ab
namespace Go.Ab
open Go.Proofs
def mpV (l : List Int) (m : Nat) (c : Vc) : Vc:=(wr (c.1+wr (wr (nx l m 7 - 3) * 32768)),wr (c.2.1+wr (wr (nx l (nn l m) 5 - 2) * 32768)),wr (c.2.2+wr (wr (nx l (nn l (nn l m)) 5 - 2) * 32768)))
def mpS (l : List Int) (m : Nat) : Nat→Nat
 |0=>m
 |i+1=>nn l (nn l (nn l (mpS l m i)))
theorem mpS_le (l : List Int) (m : Nat) : ∀ i,mpS l m i≤m+3 * i
 |0=>Nat.le_refl _
 |i+1=>by
  have h:=mpS_le l m i
  have l1:=nn_le l (mpS l m i)
  have l2:=nn_le l (nn l (mpS l m i))
  have l3:=nn_le l (nn l (nn l (mpS l m i)))
  simp only [mpS];omega
def mpF (l : List Int) (m : Nat) (c : Vc) (k : Nat) : List Vc:=c :: (List.range k).map fun i=>mpV l (mpS l m i) c
theorem mpF_succ (l : List Int) (m : Nat) (c : Vc) (k : Nat) : (mpF l m c (k+1)).map encVec=(mpF l m c k).map encVec++[encVec (mpV l (mpS l m k) c)]:=by simp [mpF,List.range_succ]
theorem mpF_len (l : List Int) (m : Nat) (c : Vc) (k : Nat) : (mpF l m c k).length=k+1:=by simp [mpF]
def mpK (l : List Int) (n : Nat) : Nat:=(nx l n 4).toNat
def mpL (l : List Int) (n : Nat) (c : Vc) : List Vc:=mpF l (nn l n) c (mpK l n)
def mpE (l : List Int) (n : Nat) : Nat:=mpS l (nn l n) (mpK l n)
set_option maxHeartbeats 4000000 in
theorem d32 (l : List Int) (n : Nat) (c : Vc) (hn : n < 100000) : DetH Tryz.prog 32 [.bx 0,.pv (encVec c)] [srcP l n] [srcP l (mpE l n)] (.pv (vecs (mpL l n c))):=by
 have hx:=nx_range l n (k:=4) (by decide) (by decide)
 have hk : nx l n 4=((mpK l n : Nat) : Int):=by unfold mpK;omega
 have hk3 : mpK l n < 4:=by unfold mpK;omega
 have hl1:=nn_le l n
 refine detH_of Tryz.func32 rfl (by kernel_rfl) (by simp [Tryz.f32]) rfl (by intro i j h;rcases i with _|_|_|i<;>simp_all) ?_
 intro C hP hN
 simp only [Tryz.f32] at hN ⊢
 with_reducible repeat' (first|refine Sp.h ?_|((first|refine Wh [8] ?_|refine Wi [8] ?_|refine Ss.h ?_|refine Sc.h (d31 l n 4 (by decide) (by omega)) ?_|(refine Sb.h ?_ ?_ ?_<;>(try intro hgd)<;>try exact Xy))<;>simp -implicitDefEqProofs (maxSteps:=2000000) [hP,hN,srcP,hk]<;>try refine Ya ?_)|refine X2 ?_ ?_|(refine Xd ?_ ?_<;>intro hcd<;>try exact Xx))
 refine WP.loopN [] (mpK l n) (fun i st=>st.t 0=.ptr (pk 0) 0∧st.t 3=.ptr 3 0∧st.h 3=some (.box [.pv (Z c.1),.pv (Z c.2.1),.pv (Z c.2.2)] true false)∧st.t 6=.pv (Z ((mpK l n : Int) - i))∧
  st.h (pk 0)=some (.box [.pv (zs l),.pv (Z (mpS l (nn l n) i))] false false)∧st.t 5=.arr 8 (i+1)∧st.h 8=some (.row 55 3 ((mpF l (nn l n) c i).map encVec) 0)) (by simp [mpS,mpF]) ?_
 rintro i st hi ⟨h0,h3,hb3,h6,hp,h5,hb8⟩
 have hz:=mpF_len l (nn l n) c i
 by_cases hlt : i < mpK l n
 ·have hw : IntKind.i64.wrap ((mpK l n : Int) - i - 1)=(mpK l n : Int) - ((i : Int)+1):=by rw [IntKind.wrap_i64];omega
  have hgt : (0 : Int) < (mpK l n : Int) - i:=by omega
  have hm2:=mpS_le l (nn l n) i
  have l1:=nn_le l (mpS l (nn l n) i)
  have l2:=nn_le l (nn l (mpS l (nn l n) i))
  have hJ:=mpF_succ l (nn l n) c i
  have hS : mpS l (nn l n) (i+1)=nn l (nn l (nn l (mpS l (nn l n) i))):=rfl
  with_reducible repeat' (first|refine Sp.h ?_|((first|refine Wd ?_|refine Ss.h ?_|refine Sc.h (d33 l _ _ (by decide) (by decide) (by omega)) ?_|(refine Sb.h ?_ ?_ ?_<;>(try intro hgd)<;>try exact Xy))<;>simp -implicitDefEqProofs (maxSteps:=2000000) [hP,hN,h0,h3,hb3,h5,h6,hp,hb8,hlt,hw,hgt,hS,hz,show (i+1+1) * 24≤140737488355328 by omega,show i≤9223372036854775805 by omega]<;>try refine Ya ?_)|refine X2 ?_ ?_|(refine Xd ?_ ?_<;>intro hcd<;>try exact Xx))
  all_goals simp [hJ,mpV]
 ·have hir : i=mpK l n:=by omega
  subst hir
  with_reducible repeat' (first|refine Sp.h ?_|((first|refine Wd ?_|refine Ss.h ?_|(refine Sb.h ?_ ?_ ?_<;>(try intro hgd)<;>try exact Xy))<;>simp -implicitDefEqProofs (maxSteps:=2000000) [hP,hN,h0,h3,hb3,h5,h6,hp,hb8,hz]<;>try refine Ya ?_)|refine X2 ?_ ?_|(refine Xd ?_ ?_<;>intro hcd<;>try exact Xx))
  all_goals simp [mpE,mpL]
end Go.Ab
namespace Go.Ab
open Go.Proofs
theorem mpE_le (l : List Int) (n : Nat) : mpE l n≤n+10:=by
 have h1:=nn_le l n
 have hx:=nx_range l n (k:=4) (by decide) (by decide)
 have hk3 : mpK l n < 4:=by unfold mpK;omega
 have h2:=mpS_le l (nn l n) (mpK l n)
 unfold mpE;omega
theorem rEnd_le (l : List Int) : rEnd l 0≤60:=by
 have h1:=nn_le l 0
 have hx:=nx_range l 0 (k:=3) (by decide) (by decide)
 have hrN : rN l 0≤3:=by unfold rN;omega
 have h2:=jSt_le l (nn l 0) (rN l 0)
 have h3:=nn_le l (rM l 0)
 have hx3:=nx_range l (rM l 0) (k:=3) (by decide) (by decide)
 have hrK : rK l 0 < 3:=by unfold rK;omega
 have h4:=mSt_le l (nn l (rM l 0)) (rK l 0)
 have h5 : rM l 0=jSt l (nn l 0) (rN l 0):=rfl
 unfold rEnd;omega
def shJ (l : List Int) (m : Nat) (i : Nat) : Sh:=⟨i,wr ((wr (wr (1+nx l m 3) * 65536)).tdiv 8),mpL l (nn l (nn l m)) (wr (nx l (nn l m) 4 * 32768),0,0)⟩
def scJ (l : List Int) (n : Nat) : Nat→List Sh × Nat
 |0=>([],n)
 |i+1=>if nx l (scJ l n i).2 5 < 4 then ((scJ l n i).1++[shJ l (nn l (scJ l n i).2) i],mpE l (nn l (nn l (nn l (scJ l n i).2)))) else ((scJ l n i).1,nn l (scJ l n i).2)
theorem scJ_le (l : List Int) (n : Nat) : ∀ i,(scJ l n i).2≤n+13 * i∧(scJ l n i).1.length≤i
 |0=>by simp [scJ]
 |i+1=>by
  have ih:=scJ_le l n i
  have a1:=nn_le l (scJ l n i).2
  have a2:=nn_le l (nn l (scJ l n i).2)
  have a3:=nn_le l (nn l (nn l (scJ l n i).2))
  have a4:=mpE_le l (nn l (nn l (nn l (scJ l n i).2)))
  simp only [scJ]
  split
  ·simp only [List.length_append,List.length_cons,List.length_nil];omega
  ·simp only;omega
def shO (l : List Int) (m : Nat) : Sh:=⟨-1,wr ((wr (wr (1+nx l (nn l (nn l (nn l m))) 4) * 65536)).tdiv 8),mpL l (nn l (nn l (nn l (nn l m)))) (wr (wr (nx l m 19 - 9) * 32768),wr (wr (nx l (nn l m) 19 - 9) * 32768),wr (wr (nx l (nn l (nn l m)) 5 - 2) * 32768))⟩
def scO (l : List Int) (xs : List Sh) (n : Nat) : Nat→List Sh × Nat
 |0=>(xs,n)
 |i+1=>((scO l xs n i).1++[shO l (scO l xs n i).2],mpE l (nn l (nn l (nn l (nn l (scO l xs n i).2)))))
theorem scO_le (l : List Int) (xs : List Sh) (n : Nat) : ∀ i,(scO l xs n i).2≤n+14 * i∧(scO l xs n i).1.length=xs.length+i
 |0=>by simp [scO]
 |i+1=>by
  have ih:=scO_le l xs n i
  have a1:=nn_le l (scO l xs n i).2
  have a2:=nn_le l (nn l (scO l xs n i).2)
  have a3:=nn_le l (nn l (nn l (scO l xs n i).2))
  have a4:=nn_le l (nn l (nn l (nn l (scO l xs n i).2)))
  have a5:=mpE_le l (nn l (nn l (nn l (nn l (scO l xs n i).2))))
  simp only [scO,List.length_append,List.length_cons,List.length_nil];omega
def scK (l : List Int) (n : Nat) : Nat:=(1+nx l n 3).toNat
def mA (l : List Int) : List Sh × Nat:=scJ l (rEnd l 0) (rN l 0)
def mB (l : List Int) : List Sh × Nat:=scO l (mA l).1 (nn l (mA l).2) (scK l (mA l).2)
def mkSc (l : List Int) : Sce:=⟨rJs l 0,rMs l 0,(mB l).1,if nx l (mB l).2 5=1 then [(-1,nx l (nn l (mB l).2) (rN l 0))] else []⟩
def ShI (l : List Int) (xs : List Sh) (h : Hp) : Prop:=∃ W : AV,h 4=some (.box [.pv (.sl ((rJs l 0).map encJ)),.pv (.sl ((rMs l 0).map encM)),W,nilV] true false)∧((xs=[]∧W=nilV∧h 71=none)∨(xs≠[]∧W=.arr 40 xs.length∧h 40=some (.row 68 3 (xs.map encSh) 0))∨(xs≠[]∧W=.arr 71 xs.length∧h 71=some (.row 68 3 (xs.map encSh) 0)))
set_option maxHeartbeats 16000000 in
theorem d11 (l : List Int) : DetH Tryz.prog 11 [.pv (zs l)] [] [] (.pv (encSc (mkSc l))):=by
 have hx:=nx_range l 0 (k:=3) (by decide) (by decide)
 have hrN : rN l 0≤3∧0 < rN l 0:=by unfold rN;omega
 have hzJ : (rJs l 0).length=rN l 0:=jsF_len l (nn l 0) (rN l 0)
 have hre:=rEnd_le l
 have cr:=d30 l 0 (by decide)
 generalize hn0 : rEnd l 0=n0 at *
 refine detP_of Tryz.func11 rfl (by kernel_rfl) (by simp [Tryz.f11]) rfl ?_
 intro C hP hN
 simp only [Tryz.f11] at hN ⊢
 with_reducible repeat' (first|refine Sp.h ?_|((first|refine Wd ?_|refine Ss.h ?_|refine Sc.h (d29 _) ?_|refine Sc.h (cr) ?_|(refine Sb.h ?_ ?_ ?_<;>(try intro hgd)<;>try exact Xy))<;>simp -implicitDefEqProofs (maxSteps:=2000000) [hP,hN,srcP]<;>try refine Ya ?_)|refine X2 ?_ ?_|(refine Xd ?_ ?_<;>intro hcd<;>try exact Xx))
 refine WP.loopN [] (rN l 0) (fun i st=>st.t 3=.ptr 9 0∧st.h 9=some (.box [.pv (zs l),.pv (Z (scJ l n0 i).2)] true false)∧st.t 2=.ptr 2 0∧st.h 2=some (.box [nilV,nilV,nilV,nilV] true false)∧st.t 4=.ptr 4 0∧st.t 5=.pv (Z i)∧st.h 71=none∧st.h 86=none∧st.h 7=none∧
  (((scJ l n0 i).1=[]∧st.h 4=some (.box [.pv (.sl ((rJs l 0).map encJ)),.pv (.sl ((rMs l 0).map encM)),nilV,nilV] true false)∧st.h 40=none)∨((scJ l n0 i).1≠[]∧st.h 4=some (.box [.pv (.sl ((rJs l 0).map encJ)),.pv (.sl ((rMs l 0).map encM)),.arr 40 (scJ l n0 i).1.length,nilV] true false)∧st.h 40=some (.row 68 3 ((scJ l n0 i).1.map encSh) 0)))) (by simp [scJ]) ?_
 rintro i st hi ⟨g3,hb9,g2,hb2,g4,g5,hb71,hb86,hb7,hor⟩
 have hle:=scJ_le l n0 i
 by_cases hlt : i < rN l 0
 ·have hwr:=wr_succ hlt (by omega)
  have hS : scJ l n0 (i+1)=if nx l (scJ l n0 i).2 5 < 4 then ((scJ l n0 i).1++[shJ l (nn l (scJ l n0 i).2) i],mpE l (nn l (nn l (nn l (scJ l n0 i).2)))) else ((scJ l n0 i).1,nn l (scJ l n0 i).2):=rfl
  generalize scJ l n0 (i+1)=S' at *
  generalize scJ l n0 i=S at *
  obtain ⟨xs,m⟩:=S
  simp only at hle hS hb9 hor
  have a1:=nn_le l m
  have a2:=nn_le l (nn l m)
  have a3:=nn_le l (nn l (nn l m))
  have cp:=d32 l (nn l (nn l (nn l m))) (wr (nx l (nn l (nn l m)) 4 * 32768),0,0) (by omega)
  by_cases h5 : nx l m 5 < 4
  ·rw [if_pos h5] at hS
   subst hS
   rcases hor with ⟨hxs,hb4,hb40⟩|⟨hxs,hb4,hb40⟩
   ·subst hxs
    with_reducible repeat' (first|refine Sp.h ?_|((first|refine Wd ?_|refine Ss.h ?_|refine Sc.h (d31 l _ 5 (by decide) (by omega)) ?_|refine Sc.h (d31 l _ 3 (by decide) (by omega)) ?_|refine Sc.h (d31 l _ 4 (by decide) (by omega)) ?_|refine Sc.h (cp) ?_|(refine Sb.h ?_ ?_ ?_<;>(try intro hgd)<;>try exact Xy))<;>simp -implicitDefEqProofs (maxSteps:=2000000) [hP,hN,g3,hb9,g2,hb2,g4,g5,hb71,hb86,hb7,hb4,hb40,hlt,hwr,hzJ,h5]<;>try refine Ya ?_)|refine X2 ?_ ?_|(refine Xd ?_ ?_<;>intro hcd<;>try exact Xx))
    all_goals exact ⟨rfl,rfl,rfl⟩
   ·skip
    with_reducible repeat' (first|refine Sp.h ?_|((first|refine Wd ?_|refine Ss.h ?_|refine Sc.h (d31 l _ 5 (by decide) (by omega)) ?_|refine Sc.h (d31 l _ 3 (by decide) (by omega)) ?_|refine Sc.h (d31 l _ 4 (by decide) (by omega)) ?_|refine Sc.h (cp) ?_|(refine Sb.h ?_ ?_ ?_<;>(try intro hgd)<;>try exact Xy))<;>simp -implicitDefEqProofs (maxSteps:=2000000) [hP,hN,g3,hb9,g2,hb2,g4,g5,hb71,hb86,hb7,hb4,hb40,hlt,hwr,hzJ,h5,show (xs.length+1) * 40≤140737488355328 by omega,show xs.length≤9223372036854775806 by omega]<;>try refine Ya ?_)|refine X2 ?_ ?_|(refine Xd ?_ ?_<;>intro hcd<;>try exact Xx))
    all_goals exact ⟨rfl,rfl,rfl⟩
  ·rw [if_neg h5] at hS
   subst hS
   rcases hor with ⟨hxs,hb4,hb40⟩|⟨hxs,hb4,hb40⟩
   ·skip
    with_reducible repeat' (first|refine Sp.h ?_|((first|refine Wd ?_|refine Ss.h ?_|refine Sc.h (d31 l _ 5 (by decide) (by omega)) ?_|(refine Sb.h ?_ ?_ ?_<;>(try intro hgd)<;>try exact Xy))<;>simp -implicitDefEqProofs (maxSteps:=2000000) [hP,hN,g3,hb9,g2,hb2,g4,g5,hb71,hb86,hb7,hb4,hb40,hlt,hwr,hzJ,h5]<;>try refine Ya ?_)|refine X2 ?_ ?_|(refine Xd ?_ ?_<;>intro hcd<;>try exact Xx))
    all_goals exact hxs
   ·skip
    with_reducible repeat' (first|refine Sp.h ?_|((first|refine Wd ?_|refine Ss.h ?_|refine Sc.h (d31 l _ 5 (by decide) (by omega)) ?_|(refine Sb.h ?_ ?_ ?_<;>(try intro hgd)<;>try exact Xy))<;>simp -implicitDefEqProofs (maxSteps:=2000000) [hP,hN,g3,hb9,g2,hb2,g4,g5,hb71,hb86,hb7,hb4,hb40,hlt,hwr,hzJ,h5]<;>try refine Ya ?_)|refine X2 ?_ ?_|(refine Xd ?_ ?_<;>intro hcd<;>try exact Xx))
    all_goals exact hxs
 ·have hir : i=rN l 0:=by omega
  subst hir
  have hmA : scJ l n0 (rN l 0)=mA l:=by unfold mA;rw [hn0]
  rw [hmA] at hle hb9 hor
  have hK : nx l (mA l).2 3 < 3∧0≤nx l (mA l).2 3:=⟨(nx_range l _ (by decide) (by decide)).2,(nx_range l _ (by decide) (by decide)).1⟩
  have hKe : IntKind.i64.wrap (1+nx l (mA l).2 3)=((scK l (mA l).2 : Nat) : Int):=by rw [IntKind.wrap_i64];unfold scK;omega
  have hK3 : scK l (mA l).2≤3∧1≤scK l (mA l).2:=by unfold scK;omega
  have hsk : mkSc l=⟨rJs l 0,rMs l 0,(mB l).1,if nx l (mB l).2 5=1 then [(-1,nx l (nn l (mB l).2) (rN l 0))] else []⟩:=rfl
  rw [hsk]
  have hmB : mB l=scO l (mA l).1 (nn l (mA l).2) (scK l (mA l).2):=rfl
  have hnA:=nn_le l (mA l).2
  rw [hmB]
  generalize mA l=A at *
  clear hmA hsk hmB
  generalize scK l A.2=K at *
  obtain ⟨W,hb4,hW⟩ : ∃ W : AV,st.h 4=some (.box [.pv (.sl ((rJs l 0).map encJ)),.pv (.sl ((rMs l 0).map encM)),W,nilV] true false)∧((A.1=[]∧W=nilV∧st.h 71=none)∨(A.1≠[]∧W=.arr 40 A.1.length∧st.h 40=some (.row 68 3 (A.1.map encSh) 0))∨(A.1≠[]∧W=.arr 71 A.1.length∧st.h 71=some (.row 68 3 (A.1.map encSh) 0))):=by
   rcases hor with ⟨a,b,c⟩|⟨a,b,c⟩
   ·exact ⟨_,b,.inl ⟨a,rfl,hb71⟩⟩
   ·exact ⟨_,b,.inr (.inl ⟨a,rfl,c⟩)⟩
  clear hor
  with_reducible repeat' (first|refine Sp.h ?_|((first|refine Wd ?_|refine Ss.h ?_|refine Sc.h (d31 l _ 3 (by decide) (by omega)) ?_|(refine Sb.h ?_ ?_ ?_<;>(try intro hgd)<;>try exact Xy))<;>simp -implicitDefEqProofs (maxSteps:=2000000) [hP,hN,g3,hb9,g2,hb2,g4,g5,hb4,hb86,hb7,hzJ,hKe]<;>try refine Ya ?_)|refine X2 ?_ ?_|(refine Xd ?_ ?_<;>intro hcd<;>try exact Xx))
  have hz0 : scO l A.1 (nn l A.2) 0=(A.1,nn l A.2):=rfl
  refine WP.loopN [7] K (fun i st=>st.t 3=.ptr 9 0∧st.h 9=some (.box [.pv (zs l),.pv (Z (scO l A.1 (nn l A.2) i).2)] true false)∧st.t 2=.ptr 2 0∧st.h 2=some (.box [nilV,nilV,nilV,nilV] true false)∧st.t 4=.ptr 4 0∧st.t 6=.pv (Z ((K : Int) - i))∧st.h 86=none∧st.h 7=none∧ShI l (scO l A.1 (nn l A.2) i).1 st.h) ?_ ?_
  ·refine ⟨by simp [g3],by simp [hz0],by simp [g2],by simp [hb2],by simp [g4],by simp,by simp [hb86],by simp [hb7],?_⟩
   rw [hz0]
   rcases hW with ⟨a,rfl,b⟩|⟨a,rfl,b⟩|⟨a,rfl,b⟩
   ·exact ⟨nilV,by simp [hb4],.inl ⟨a,rfl,by simp [b]⟩⟩
   ·exact ⟨.arr 40 A.1.length,by simp [hb4],.inr (.inl ⟨a,rfl,by simp [b]⟩)⟩
   ·exact ⟨.arr 71 A.1.length,by simp [hb4],.inr (.inr ⟨a,rfl,by simp [b]⟩)⟩
  clear g3 hb9 g2 hb2 g4 g5 hb86 hb7 hb4 hb71 hW
  rintro i st hi ⟨g3,hb9,g2,hb2,g4,g6,hb86,hb7,W,hb4,hW⟩
  have hleO:=scO_le l A.1 (nn l A.2) i
  by_cases hlt : i < K
  ·have hwr : IntKind.i64.wrap ((K : Int) - i - 1)=(K : Int) - ((i : Int)+1):=by rw [IntKind.wrap_i64];omega
   have hgt : (0 : Int) < (K : Int) - i:=by omega
   have hS : scO l A.1 (nn l A.2) (i+1)=((scO l A.1 (nn l A.2) i).1++[shO l (scO l A.1 (nn l A.2) i).2],mpE l (nn l (nn l (nn l (nn l (scO l A.1 (nn l A.2) i).2))))):=rfl
   generalize scO l A.1 (nn l A.2) (i+1)=S' at *
   generalize scO l A.1 (nn l A.2) i=S at *
   subst hS
   obtain ⟨xs,m⟩:=S
   simp only at hleO hb9 hW ⊢
   have a1:=nn_le l m
   have a2:=nn_le l (nn l m)
   have a3:=nn_le l (nn l (nn l m))
   have a4:=nn_le l (nn l (nn l (nn l m)))
   have cp:=d32 l (nn l (nn l (nn l (nn l m)))) (wr (wr (nx l m 19 - 9) * 32768),wr (wr (nx l (nn l m) 19 - 9) * 32768),wr (wr (nx l (nn l (nn l m)) 5 - 2) * 32768)) (by omega)
   rcases hW with ⟨hxs,hW,hb71⟩|⟨hxs,hW,hb40⟩|⟨hxs,hW,hb71⟩
   ·subst hW;subst hxs
    with_reducible repeat' (first|refine Sp.h ?_|((first|refine Wd ?_|refine Ss.h ?_|refine Sc.h (d33 l _ 9 (by decide) (by decide) (by omega)) ?_|refine Sc.h (d33 l _ 2 (by decide) (by decide) (by omega)) ?_|refine Sc.h (d31 l _ 4 (by decide) (by omega)) ?_|refine Sc.h (cp) ?_|(refine Sb.h ?_ ?_ ?_<;>(try intro hgd)<;>try exact Xy))<;>simp -implicitDefEqProofs (maxSteps:=2000000) [hP,hN,g3,hb9,g2,hb2,g4,g6,hb86,hb7,hb4,hb71,hwr,hgt]<;>try refine Ya ?_)|refine X2 ?_ ?_|(refine Xd ?_ ?_<;>intro hcd<;>try exact Xx))
    refine ⟨hlt,.arr 71 [shO l m].length,by simp [St.kill,killB,killA],.inr (.inr ⟨by simp,rfl,?_⟩)⟩
    simp [St.kill,killB,killA]
    all_goals exact ⟨rfl,rfl,rfl⟩
   ·subst hW
    with_reducible repeat' (first|refine Sp.h ?_|((first|refine Wd ?_|refine Ss.h ?_|refine Sc.h (d33 l _ 9 (by decide) (by decide) (by omega)) ?_|refine Sc.h (d33 l _ 2 (by decide) (by decide) (by omega)) ?_|refine Sc.h (d31 l _ 4 (by decide) (by omega)) ?_|refine Sc.h (cp) ?_|(refine Sb.h ?_ ?_ ?_<;>(try intro hgd)<;>try exact Xy))<;>simp -implicitDefEqProofs (maxSteps:=2000000) [hP,hN,g3,hb9,g2,hb2,g4,g6,hb86,hb7,hb4,hb40,hwr,hgt,show (xs.length+1) * 40≤140737488355328 by omega,show xs.length≤9223372036854775806 by omega]<;>try refine Ya ?_)|refine X2 ?_ ?_|(refine Xd ?_ ?_<;>intro hcd<;>try exact Xx))
    refine ⟨hlt,.arr 40 (xs++[shO l m]).length,by simp [St.kill,killB,killA],.inr (.inl ⟨by simp,rfl,?_⟩)⟩
    simp [St.kill,killB,killA]
    all_goals exact ⟨rfl,rfl,rfl⟩
   ·subst hW
    with_reducible repeat' (first|refine Sp.h ?_|((first|refine Wd ?_|refine Ss.h ?_|refine Sc.h (d33 l _ 9 (by decide) (by decide) (by omega)) ?_|refine Sc.h (d33 l _ 2 (by decide) (by decide) (by omega)) ?_|refine Sc.h (d31 l _ 4 (by decide) (by omega)) ?_|refine Sc.h (cp) ?_|(refine Sb.h ?_ ?_ ?_<;>(try intro hgd)<;>try exact Xy))<;>simp -implicitDefEqProofs (maxSteps:=2000000) [hP,hN,g3,hb9,g2,hb2,g4,g6,hb86,hb7,hb4,hb71,hwr,hgt,show (xs.length+1) * 40≤140737488355328 by omega,show xs.length≤9223372036854775806 by omega]<;>try refine Ya ?_)|refine X2 ?_ ?_|(refine Xd ?_ ?_<;>intro hcd<;>try exact Xx))
    refine ⟨hlt,.arr 71 (xs++[shO l m]).length,by simp [St.kill,killB,killA],.inr (.inr ⟨by simp,rfl,?_⟩)⟩
    simp [St.kill,killB,killA]
    all_goals exact ⟨rfl,rfl,rfl⟩
  ·have hir : i=K:=by omega
   subst hir
   generalize scO l A.1 (nn l A.2) i=S at *
   obtain ⟨xs,m⟩:=S
   simp only at hleO hb9 hW ⊢
   have a1:=nn_le l m
   have hne : ((rN l 0 : Nat) : Int)≠0:=by omega
   have hxs : xs≠[]:=by
    rintro rfl
    have:=hleO.2
    simp at this;omega
   by_cases h5 : nx l m 5=1
   ·have h5' : (nx l m 5==1)=true:=by simp [h5]
    rw [if_pos h5]
    rcases hW with ⟨hx,hW,hb71⟩|⟨_,hW,hb40⟩|⟨_,hW,hb71⟩
    ·exact absurd hx hxs
    ·subst hW
     with_reducible repeat' (first|refine Sp.h ?_|((first|refine Wd ?_|refine Ss.h ?_|refine Sc.h (d31 l _ 5 (by decide) (by omega)) ?_|refine Sc.h (d31 l _ _ hne (by omega)) ?_|(refine Sb.h ?_ ?_ ?_<;>(try intro hgd)<;>try exact Xy))<;>simp -implicitDefEqProofs (maxSteps:=2000000) [hP,hN,g3,hb9,g2,hb2,g4,g6,hb86,hb7,hb4,hb40,h5,h5',hzJ]<;>try refine Ya ?_)|refine X2 ?_ ?_|(refine Xd ?_ ?_<;>intro hcd<;>try exact Xx))
    ·subst hW
     with_reducible repeat' (first|refine Sp.h ?_|((first|refine Wd ?_|refine Ss.h ?_|refine Sc.h (d31 l _ 5 (by decide) (by omega)) ?_|refine Sc.h (d31 l _ _ hne (by omega)) ?_|(refine Sb.h ?_ ?_ ?_<;>(try intro hgd)<;>try exact Xy))<;>simp -implicitDefEqProofs (maxSteps:=2000000) [hP,hN,g3,hb9,g2,hb2,g4,g6,hb86,hb7,hb4,hb71,h5,h5',hzJ]<;>try refine Ya ?_)|refine X2 ?_ ?_|(refine Xd ?_ ?_<;>intro hcd<;>try exact Xx))
   ·have h5' : (nx l m 5==1)=false:=by simp [h5]
    rw [if_neg h5]
    rcases hW with ⟨hx,hW,hb71⟩|⟨_,hW,hb40⟩|⟨_,hW,hb71⟩
    ·exact absurd hx hxs
    ·subst hW
     with_reducible repeat' (first|refine Sp.h ?_|((first|refine Wd ?_|refine Ss.h ?_|refine Sc.h (d31 l _ 5 (by decide) (by omega)) ?_|(refine Sb.h ?_ ?_ ?_<;>(try intro hgd)<;>try exact Xy))<;>simp -implicitDefEqProofs (maxSteps:=2000000) [hP,hN,g3,hb9,g2,hb2,g4,g6,hb86,hb7,hb4,hb40,h5,h5',hzJ]<;>try refine Ya ?_)|refine X2 ?_ ?_|(refine Xd ?_ ?_<;>intro hcd<;>try exact Xx))
    ·subst hW
     with_reducible repeat' (first|refine Sp.h ?_|((first|refine Wd ?_|refine Ss.h ?_|refine Sc.h (d31 l _ 5 (by decide) (by omega)) ?_|(refine Sb.h ?_ ?_ ?_<;>(try intro hgd)<;>try exact Xy))<;>simp -implicitDefEqProofs (maxSteps:=2000000) [hP,hN,g3,hb9,g2,hb2,g4,g6,hb86,hb7,hb4,hb71,h5,h5',hzJ]<;>try refine Ya ?_)|refine X2 ?_ ?_|(refine Xd ?_ ?_<;>intro hcd<;>try exact Xx))
end Go.Ab
namespace Go.Ab
open Go.Proofs
theorem sameVecs (xs : List Vc) (hl : xs.length≤9223372036854775807) : DetH Tryz.prog 35 [.pv (vecs xs),.pv (vecs xs)] [] [] (.pv (B true)):=by
 refine detP_of Tryz.func35 rfl (by kernel_rfl) (by simp [Tryz.f35]) rfl ?_
 intro C hP hN
 simp only [Tryz.f35] at hN ⊢
 with_reducible repeat' (first|refine Sp.h ?_|((first|refine Wd ?_|refine Ss.h ?_|(refine Sb.h ?_ ?_ ?_<;>(try intro hgd)<;>try exact Xy))<;>simp -implicitDefEqProofs (maxSteps:=2000000) [hP,hN]<;>try refine Ya ?_)|refine X2 ?_ ?_|(refine Xd ?_ ?_<;>intro hcd<;>try exact Xx))
 refine WP.loopN [] xs.length (fun i st=>st.t 0=.pv (vecs xs)∧st.t 1=.pv (vecs xs)∧st.t 5=.pv (Z i)) (by simp) ?_
 rintro i st hi ⟨h0,h1,h2⟩
 by_cases hlt : i < xs.length
 ·have hw:=wr_succ hlt hl
  generalize hxe : xs[i]=v at *
  have hx : xs[i]?=some v:=by rw [List.getElem?_eq_getElem hlt,hxe]
  with_reducible repeat' (first|refine Sp.h ?_|((first|refine Wd ?_|refine Ss.h ?_|(refine Sb.h ?_ ?_ ?_<;>(try intro hgd)<;>try exact Xy))<;>simp -implicitDefEqProofs (maxSteps:=2000000) [hP,hN,h0,h1,h2,hlt,hw,hx,hxe]<;>try refine Ya ?_)|refine X2 ?_ ?_|(refine Xd ?_ ?_<;>intro hcd<;>try exact Xx))
 ·skip
  with_reducible repeat' (first|refine Sp.h ?_|((first|refine Wd ?_|refine Ss.h ?_|(refine Sb.h ?_ ?_ ?_<;>(try intro hgd)<;>try exact Xy))<;>simp -implicitDefEqProofs (maxSteps:=2000000) [hP,hN,h0,h1,h2,hlt]<;>try refine Ya ?_)|refine X2 ?_ ?_|(refine Xd ?_ ?_<;>intro hcd<;>try exact Xx))
theorem sameX_self {α : Type} [DecidableEq α] (xs : List α) : sameX xs xs=true:=by
 unfold sameX
 rw [allZ_eq rfl];simp
theorem d36 (w : Wit) (ha : w.a.length≤9223372036854775807) (hb : w.b.length≤9223372036854775807) : DetH Tryz.prog 36 [.pv (encWt w),.pv (encWt w)] [] [] (.pv (B true)):=by
 have c1:=d67 w.a w.a ha ha
 have c2:=d67 w.b w.b hb hb
 rw [sameX_self] at c1 c2
 refine detP_of Tryz.func36 rfl (by kernel_rfl) (by simp [Tryz.f36]) rfl ?_
 intro C hP hN
 simp only [Tryz.f36] at hN ⊢
 with_reducible repeat' (first|refine Sp.h ?_|((first|refine Ss.h ?_|refine Sc.h (c1) ?_|refine Sc.h (c2) ?_|(refine Sb.h ?_ ?_ ?_<;>(try intro hgd)<;>try exact Xy))<;>simp -implicitDefEqProofs (maxSteps:=2000000) [hP,hN])|refine X2 ?_ ?_|(refine Xd ?_ ?_<;>intro hcd<;>try exact Xx))
theorem d14 (v : Vd) (hn : v.ns.length≤9223372036854775807) (ha : v.w.a.length≤9223372036854775807) (hb : v.w.b.length≤9223372036854775807) : DetH Tryz.prog 14 [.pv (encVt v),.pv (encVt v)] [] [] (.pv (B true)):=by
 have c1:=sameVecs v.ns hn
 have c2:=d36 v.w ha hb
 refine detP_of Tryz.func14 rfl (by kernel_rfl) (by simp [Tryz.f14]) rfl ?_
 intro C hP hN
 simp only [Tryz.f14] at hN ⊢
 with_reducible repeat' (first|refine Sp.h ?_|((first|refine Ss.h ?_|refine Sc.h (c1) ?_|refine Sc.h (c2) ?_|(refine Sb.h ?_ ?_ ?_<;>(try intro hgd)<;>try exact Xy))<;>simp -implicitDefEqProofs (maxSteps:=2000000) [hP,hN])|refine X2 ?_ ?_|(refine Xd ?_ ?_<;>intro hcd<;>try exact Xx))
def oneSc (d : Int) : Sce:=⟨[⟨⟨#[97]⟩,3,-1,0,0,0,0,16384,1,1,1,1⟩],[],[⟨0,9,[(1000,0,0)]⟩,⟨-1,9,[(d,0,0)]⟩],[]⟩
theorem d34 (d : Int) : DetH Tryz.prog 34 [.pv (Z d)] [] [] (.pv (encSc (oneSc d))):=by
 refine detP_of Tryz.func34 rfl (by kernel_rfl) (by simp [Tryz.f34]) rfl ?_
 intro C hP hN
 simp only [Tryz.f34] at hN ⊢
 with_reducible repeat' (first|refine Sp.h ?_|((first|refine Ss.h ?_|(refine Sb.h ?_ ?_ ?_<;>(try intro hgd)<;>try exact Xy))<;>simp -implicitDefEqProofs (maxSteps:=2000000) [hP,hN])|refine X2 ?_ ?_|(refine Xd ?_ ?_<;>intro hcd<;>try exact Xx))
 all_goals exact ⟨rfl,rfl,rfl,rfl⟩
set_option maxRecDepth 100000 in
theorem one_facts : ((boxV (oneSc 5000) [(0,100)] []).kind=1∧(boxV (oneSc 5000) [(0,100)] []).ns.length=1∧(boxV (oneSc 5000) [(0,100)] []).w.a.length=0∧(boxV (oneSc 5000) [(0,100)] []).w.b.length=0)∧(boxV (oneSc 1010) [(0,0)] []).kind=2∧checkV (oneSc 5000) [(0,100)] (boxV (oneSc 5000) [(0,100)] [])=true:=by decide +kernel
theorem oneL (d : Int) : ScL (oneSc d):=⟨by simp [oneSc],by simp [oneSc],by simp [oneSc],by simp [oneSc],by simp [oneSc]⟩
theorem d13 : DetH Tryz.prog 13 [] [] [] (.pv (B true)):=by
 obtain ⟨⟨f1,f2,f3,f4⟩,f5,f6⟩:=one_facts
 have c0:=d34 5000
 have c1:=d34 1010
 have c2:=d15 (oneSc 5000) [(0,100)] [] (oneL _) (by decide) (by decide)
 have c3:=d15 (oneSc 1010) [(0,0)] [] (oneL _) (by decide) (by decide)
 have c4:=d18 (oneSc 5000) [(0,100)] (boxV (oneSc 5000) [(0,100)] []) (oneL _) (by decide) (by omega) (by omega) (by omega)
 rw [f6] at c4
 simp only [iv,vecs,List.map_nil,List.map_cons] at c2 c3 c4
 generalize boxV (oneSc 5000) [(0,100)] []=v at *
 generalize boxV (oneSc 1010) [(0,0)] []=u at *
 generalize oneSc 5000=s1 at *
 generalize oneSc 1010=s2 at *
 obtain ⟨k,ns,w⟩:=v
 obtain ⟨k',ns',w'⟩:=u
 simp only at f1 f2 f5 c2 c3 c4
 subst f1;subst f5
 refine detP_of Tryz.func13 rfl (by kernel_rfl) (by simp [Tryz.f13]) rfl ?_
 intro C hP hN
 simp only [Tryz.f13] at hN ⊢
 with_reducible repeat' (first|refine Sp.h ?_|((first|refine Wd ?_|refine Ss.h ?_|refine Sc.h (c0) ?_|refine Sc.h (c1) ?_|refine Sc.h (c2) ?_|refine Sc.h (c3) ?_|refine Sc.h (c4) ?_|(refine Sb.h ?_ ?_ ?_<;>(try intro hgd)<;>try exact Xy))<;>simp -implicitDefEqProofs (maxSteps:=2000000) [hP,hN,f2]<;>try refine Ya ?_)|refine X2 ?_ ?_|(refine Xd ?_ ?_<;>intro hcd<;>try exact Xx))
end Go.Ab
namespace Go.Ab
open Go.Proofs
def rUs (v : Vc) : Bool:=!(v.1==0 && v.2.1==0 && v.2.2==0) && nearB v.1 v.2.1 v.2.2 16384
theorem d60 (v : Vc) : DetH Tryz.prog 60 [.pv (encVec v)] [] [] (.pv (B (rUs v))):=by
 have cn:=d100 v.1 v.2.1 v.2.2 16384 (by decide) (by decide)
 have hd : rUs v=(!(v.1==0 && v.2.1==0 && v.2.2==0) && nearB v.1 v.2.1 v.2.2 16384):=rfl
 rw [hd]
 generalize nearB v.1 v.2.1 v.2.2 16384=b at *
 refine detP_of Tryz.func60 rfl (by kernel_rfl) (by simp [Tryz.f60]) rfl ?_
 intro C hP hN
 simp only [Tryz.f60] at hN ⊢
 with_reducible repeat' (first|refine Sp.h ?_|((first|refine Ss.h ?_|refine Sc.h (cn) ?_|(refine Sb.h ?_ ?_ ?_<;>(try intro hgd)<;>try exact Xy))<;>simp -implicitDefEqProofs (maxSteps:=2000000) [hP,hN])|refine X2 ?_ ?_|(refine Xd ?_ ?_<;>intro hcd<;>try exact Xx))
 all_goals (try (cases b<;>simp_all))
def nmA (a b c : Int) : Vc:=(roundI a 41 - 20,roundI b 41 - 20,roundI c 41 - 20)
def nmB (a b c : Int) : Vc:=(roundI a 32769 - 16384,roundI b 32769 - 16384,roundI c 32769 - 16384)
def nmC (a b c : Int) : Vc:=if bitI .and .i64 a 8=8 then nmB a b c else nmA a b c
def nmV (a b c : Int) : Vc:=if rUs (nmC a b c) then nmC a b c else (1,0,0)
theorem round_rng (n : Int) {k : Int} (h0 : 0 < k) (hk : k < 4611686018427387904) : 0≤roundI n k∧roundI n k < k:=by
 have h1 : -k < n.tmod k:=by have:=Int.lt_tmod_of_pos n h0;omega
 have h2 : n.tmod k < k:=Int.tmod_lt_of_pos n h0
 unfold roundI
 split
 ·rw [wr_id (by omega) (by omega)];omega
 ·omega
set_option maxHeartbeats 4000000 in
theorem d25 (a b c : Int) : DetH Tryz.prog 25 [.pv (Z a),.pv (Z b),.pv (Z c)] [] [] (.pv (encVec (nmV a b c))):=by
 have a1:=round_rng a (k:=41) (by decide) (by decide)
 have b1:=round_rng b (k:=41) (by decide) (by decide)
 have c1:=round_rng c (k:=41) (by decide) (by decide)
 have a2:=round_rng a (k:=32769) (by decide) (by decide)
 have b2:=round_rng b (k:=32769) (by decide) (by decide)
 have c2:=round_rng c (k:=32769) (by decide) (by decide)
 by_cases h8 : bitI .and .i64 a 8=8
 ·have h8' : (bitI .and .i64 a 8==8)=true:=by simp [h8]
  have e1 : IntKind.i64.wrap (roundI a 32769 - 16384)=roundI a 32769 - 16384:=wr_id (by omega) (by omega)
  have e2 : IntKind.i64.wrap (roundI b 32769 - 16384)=roundI b 32769 - 16384:=wr_id (by omega) (by omega)
  have e3 : IntKind.i64.wrap (roundI c 32769 - 16384)=roundI c 32769 - 16384:=wr_id (by omega) (by omega)
  have cu:=d60 (roundI a 32769 - 16384,roundI b 32769 - 16384,roundI c 32769 - 16384)
  have hn : nmC a b c=(roundI a 32769 - 16384,roundI b 32769 - 16384,roundI c 32769 - 16384):=by simp [nmC,nmB,h8]
  have hv : nmV a b c=if rUs (nmC a b c) then nmC a b c else (1,0,0):=rfl
  rw [hn] at hv
  cases hu : rUs (roundI a 32769 - 16384,roundI b 32769 - 16384,roundI c 32769 - 16384) with
  |true=>
   rw [hu] at cu hv
   simp only [if_true] at hv
   rw [hv]
   refine detP_of Tryz.func25 rfl (by kernel_rfl) (by simp [Tryz.f25]) rfl ?_
   intro C hP hN
   simp only [Tryz.f25] at hN ⊢
   with_reducible repeat' (first|refine Sp.h ?_|((first|refine Ss.h ?_|refine Sc.h (d28 _ 41 (by decide)) ?_|refine Sc.h (d28 _ 32769 (by decide)) ?_|refine Sc.h (cu) ?_|(refine Sb.h ?_ ?_ ?_<;>(try intro hgd)<;>try exact Xy))<;>simp -implicitDefEqProofs (maxSteps:=2000000) [hP,hN,h8,h8',e1,e2,e3])|refine X2 ?_ ?_|(refine Xd ?_ ?_<;>intro hcd<;>try exact Xx))
  |false=>
   rw [hu] at cu hv
   simp only [Bool.false_eq_true,if_false] at hv
   rw [hv]
   refine detP_of Tryz.func25 rfl (by kernel_rfl) (by simp [Tryz.f25]) rfl ?_
   intro C hP hN
   simp only [Tryz.f25] at hN ⊢
   with_reducible repeat' (first|refine Sp.h ?_|((first|refine Ss.h ?_|refine Sc.h (d28 _ 41 (by decide)) ?_|refine Sc.h (d28 _ 32769 (by decide)) ?_|refine Sc.h (cu) ?_|(refine Sb.h ?_ ?_ ?_<;>(try intro hgd)<;>try exact Xy))<;>simp -implicitDefEqProofs (maxSteps:=2000000) [hP,hN,h8,h8',e1,e2,e3])|refine X2 ?_ ?_|(refine Xd ?_ ?_<;>intro hcd<;>try exact Xx))
 ·have h8' : (bitI .and .i64 a 8==8)=false:=by simp [h8]
  have e1 : IntKind.i64.wrap (roundI a 41 - 20)=roundI a 41 - 20:=wr_id (by omega) (by omega)
  have e2 : IntKind.i64.wrap (roundI b 41 - 20)=roundI b 41 - 20:=wr_id (by omega) (by omega)
  have e3 : IntKind.i64.wrap (roundI c 41 - 20)=roundI c 41 - 20:=wr_id (by omega) (by omega)
  have cu:=d60 (roundI a 41 - 20,roundI b 41 - 20,roundI c 41 - 20)
  have hn : nmC a b c=(roundI a 41 - 20,roundI b 41 - 20,roundI c 41 - 20):=by simp [nmC,nmA,h8]
  have hv : nmV a b c=if rUs (nmC a b c) then nmC a b c else (1,0,0):=rfl
  rw [hn] at hv
  cases hu : rUs (roundI a 41 - 20,roundI b 41 - 20,roundI c 41 - 20) with
  |true=>
   rw [hu] at cu hv
   simp only [if_true] at hv
   rw [hv]
   refine detP_of Tryz.func25 rfl (by kernel_rfl) (by simp [Tryz.f25]) rfl ?_
   intro C hP hN
   simp only [Tryz.f25] at hN ⊢
   with_reducible repeat' (first|refine Sp.h ?_|((first|refine Ss.h ?_|refine Sc.h (d28 _ 41 (by decide)) ?_|refine Sc.h (d28 _ 32769 (by decide)) ?_|refine Sc.h (cu) ?_|(refine Sb.h ?_ ?_ ?_<;>(try intro hgd)<;>try exact Xy))<;>simp -implicitDefEqProofs (maxSteps:=2000000) [hP,hN,h8,h8',e1,e2,e3])|refine X2 ?_ ?_|(refine Xd ?_ ?_<;>intro hcd<;>try exact Xx))
  |false=>
   rw [hu] at cu hv
   simp only [Bool.false_eq_true,if_false] at hv
   rw [hv]
   refine detP_of Tryz.func25 rfl (by kernel_rfl) (by simp [Tryz.f25]) rfl ?_
   intro C hP hN
   simp only [Tryz.f25] at hN ⊢
   with_reducible repeat' (first|refine Sp.h ?_|((first|refine Ss.h ?_|refine Sc.h (d28 _ 41 (by decide)) ?_|refine Sc.h (d28 _ 32769 (by decide)) ?_|refine Sc.h (cu) ?_|(refine Sb.h ?_ ?_ ?_<;>(try intro hgd)<;>try exact Xy))<;>simp -implicitDefEqProofs (maxSteps:=2000000) [hP,hN,h8,h8',e1,e2,e3])|refine X2 ?_ ?_|(refine Xd ?_ ?_<;>intro hcd<;>try exact Xx))
def hintF (l : List Int) (m : Nat) : Vc:=nmV (nx l m 1048576) (nx l (nn l m) 1048576) (nx l (nn l (nn l m)) 1048576)
def hintL (l : List Int) (n : Nat) (k : Nat) : List Vc:=(List.range k).map fun i=>hintF l (mpS l n i)
theorem hintL_succ (l : List Int) (n k : Nat) : (hintL l n (k+1)).map encVec=(hintL l n k).map encVec++[encVec (hintF l (mpS l n k))]:=by simp [hintL,List.range_succ]
theorem hintL_len (l : List Int) (n k : Nat) : (hintL l n k).length=k:=by simp [hintL]
def hintK (l : List Int) : Nat:=(nx l 0 6).toNat
def hintsL (l : List Int) : List Vc:=hintL l (nn l 0) (hintK l)
set_option maxHeartbeats 4000000 in
theorem d17 (l : List Int) : DetH Tryz.prog 17 [.pv (zs l)] [] [] (.pv (vecs (hintsL l))):=by
 have hx:=nx_range l 0 (k:=6) (by decide) (by decide)
 have hk : nx l 0 6=((hintK l : Nat) : Int):=by unfold hintK;omega
 have hk3 : hintK l < 6:=by unfold hintK;omega
 have hl1:=nn_le l 0
 refine detP_of Tryz.func17 rfl (by kernel_rfl) (by simp [Tryz.f17]) rfl ?_
 intro C hP hN
 simp only [Tryz.f17] at hN ⊢
 with_reducible repeat' (first|refine Sp.h ?_|((first|refine Ss.h ?_|refine Sc.h (d29 _) ?_|refine Sc.h (d31 l 0 6 (by decide) (by omega)) ?_|(refine Sb.h ?_ ?_ ?_<;>(try intro hgd)<;>try exact Xy))<;>simp -implicitDefEqProofs (maxSteps:=2000000) [hP,hN,srcP,hk])|refine X2 ?_ ?_|(refine Xd ?_ ?_<;>intro hcd<;>try exact Xx))
 refine WP.loopN [] (hintK l) (fun i st=>st.t 3=.ptr 7 0∧st.t 5=.pv (Z ((hintK l : Int) - i))∧
  st.h 7=some (.box [.pv (zs l),.pv (Z (mpS l (nn l 0) i))] true false)∧((i=0∧st.t 4=nilV∧st.h 23=none)∨(0 < i∧st.t 4=.arr 23 i∧st.h 23=some (.row 55 3 ((hintL l (nn l 0) i).map encVec) 0)))) (by simp [mpS]) ?_
 rintro i st hi ⟨h3,h5,hb7,hor⟩
 have hz:=hintL_len l (nn l 0) i
 by_cases hlt : i < hintK l
 ·have hw : IntKind.i64.wrap ((hintK l : Int) - i - 1)=(hintK l : Int) - ((i : Int)+1):=by rw [IntKind.wrap_i64];omega
  have hgt : (0 : Int) < (hintK l : Int) - i:=by omega
  have hm2:=mpS_le l (nn l 0) i
  have l1:=nn_le l (mpS l (nn l 0) i)
  have l2:=nn_le l (nn l (mpS l (nn l 0) i))
  have hJ:=hintL_succ l (nn l 0) i
  have hS : mpS l (nn l 0) (i+1)=nn l (nn l (nn l (mpS l (nn l 0) i))):=rfl
  rcases hor with ⟨hi0,h4,hb23⟩|⟨hi0,h4,hb23⟩
  ·subst hi0
   with_reducible repeat' (first|refine Sp.h ?_|((first|refine Ss.h ?_|refine Sc.h (d31 l _ 1048576 (by decide) (by omega)) ?_|refine Sc.h (d25 _ _ _) ?_|(refine Sb.h ?_ ?_ ?_<;>(try intro hgd)<;>try exact Xy))<;>simp -implicitDefEqProofs (maxSteps:=2000000) [hP,hN,h3,h4,h5,hb7,hb23,hlt,hw,hgt,hS])|refine X2 ?_ ?_|(refine Xd ?_ ?_<;>intro hcd<;>try exact Xx))
   all_goals (first|(exact ⟨by rw [IntKind.wrap_i64];omega,by simp [hintL,hintF,mpS]⟩)|(rw [IntKind.wrap_i64];omega)|(refine ⟨by rw [IntKind.wrap_i64];omega,?_⟩;simp [hintL,hintF,mpS]))
  ·skip
   with_reducible repeat' (first|refine Sp.h ?_|((first|refine Ss.h ?_|refine Sc.h (d31 l _ 1048576 (by decide) (by omega)) ?_|refine Sc.h (d25 _ _ _) ?_|(refine Sb.h ?_ ?_ ?_<;>(try intro hgd)<;>try exact Xy))<;>simp -implicitDefEqProofs (maxSteps:=2000000) [hP,hN,h3,h4,h5,hb7,hb23,hlt,hw,hgt,hS,hz,show (i+1) * 24≤140737488355328 by omega,show i≤9223372036854775806 by omega])|refine X2 ?_ ?_|(refine Xd ?_ ?_<;>intro hcd<;>try exact Xx))
   all_goals simp [hJ,hintF]
 ·have hir : i=hintK l:=by omega
  subst hir
  rcases hor with ⟨hi0,h4,hb23⟩|⟨hi0,h4,hb23⟩
  ·skip
   with_reducible repeat' (first|refine Sp.h ?_|((first|refine Ss.h ?_|(refine Sb.h ?_ ?_ ?_<;>(try intro hgd)<;>try exact Xy))<;>simp -implicitDefEqProofs (maxSteps:=2000000) [hP,hN,h3,h4,h5,hb7,hb23,hi0])|refine X2 ?_ ?_|(refine Xd ?_ ?_<;>intro hcd<;>try exact Xx))
   all_goals simp [hintsL,hi0,hintL]
  ·skip
   with_reducible repeat' (first|refine Sp.h ?_|((first|refine Ss.h ?_|(refine Sb.h ?_ ?_ ?_<;>(try intro hgd)<;>try exact Xy))<;>simp -implicitDefEqProofs (maxSteps:=2000000) [hP,hN,h3,h4,h5,hb7,hb23,hz])|refine X2 ?_ ?_|(refine Xd ?_ ?_<;>intro hcd<;>try exact Xx))
   all_goals simp [hintsL]
end Go.Ab
namespace Go.Ab
open Go.Proofs
theorem mpL_len (l : List Int) (n : Nat) (c : Vc) : (mpL l n c).length≤4:=by
 have hx:=nx_range l n (k:=4) (by decide) (by decide)
 have : mpK l n < 4:=by unfold mpK;omega
 unfold mpL;rw [mpF_len];omega
theorem scJ_pts (l : List Int) (n : Nat) : ∀ i,∀ h ∈ (scJ l n i).1,h.pts.length≤4
 |0,h,hm=>by cases hm
 |i+1,h,hm=>by
  simp only [scJ] at hm
  split at hm
  ·rcases List.mem_append.1 hm with hm|hm
   ·exact scJ_pts l n i h hm
   ·rw [List.mem_singleton] at hm;subst hm;exact mpL_len _ _ _
  ·exact scJ_pts l n i h hm
theorem scO_pts (l : List Int) (xs : List Sh) (n : Nat) (hx : ∀ h ∈ xs,h.pts.length≤4) : ∀ i,∀ h ∈ (scO l xs n i).1,h.pts.length≤4
 |0,h,hm=>hx h hm
 |i+1,h,hm=>by
  simp only [scO] at hm
  rcases List.mem_append.1 hm with hm|hm
  ·exact scO_pts l xs n hx i h hm
  ·rw [List.mem_singleton] at hm;subst hm;exact mpL_len _ _ _
theorem mkSc_L (l : List Int) : ScL (mkSc l):=by
 have h1:=rJs_len l 0
 have hx:=nx_range l (rM l 0) (k:=3) (by decide) (by decide)
 have h2 : (rMs l 0).length=rK l 0:=msF_len _ _ _ _
 have h3 : rK l 0 < 3:=by unfold rK;omega
 have hN:=nx_range l 0 (k:=3) (by decide) (by decide)
 have h4 : rN l 0≤3:=by unfold rN;omega
 have h5:=(scJ_le l (rEnd l 0) (rN l 0)).2
 have h6:=(scO_le l (mA l).1 (nn l (mA l).2) (scK l (mA l).2)).2
 have hx3:=nx_range l (mA l).2 (k:=3) (by decide) (by decide)
 have h7 : scK l (mA l).2≤3:=by unfold scK;omega
 have h8 : (mA l).1.length≤3:=by unfold mA;omega
 refine ⟨by show (rJs l 0).length≤_;omega,by show (rMs l 0).length≤_;omega,by show (mB l).1.length≤_;unfold mB;omega,?_,?_⟩
 ·show (if nx l (mB l).2 5=1 then [((-1 : Int),nx l (nn l (mB l).2) (rN l 0))] else []).length≤_
  split<;>simp
 ·intro h hm
  have : h.pts.length≤4:=scO_pts l _ _ (scJ_pts l _ _) _ h hm
  omega
theorem bxGo_len {SH : List Sh} {PR : List (Nat × Nat)} {PT : List (List IVc)} {hints : List Vc} (hf : PR.length≤576) : ∀ f k ap,(bxGo SH PR PT hints f k ap).ns.length≤576∧(bxGo SH PR PT hints f k ap).w.a.length≤8∧(bxGo SH PR PT hints f k ap).w.b.length≤8
 |0,k,ap=>by
  simp only [bxGo]
  split<;>simp [bxFound,hf]
 |f+1,k,ap=>by
  simp only [bxGo]
  split
  ·split
   ·exact bxGo_len hf f _ _
   ·split
    ·exact ⟨by simp,nrRes_len _ _ _ _⟩
    ·exact bxGo_len hf f _ _
  ·split<;>simp [bxFound,hf]
theorem boxV_len (s : Sce) (bx : List Iv) (hints : List Vc) : (boxV s bx hints).ns.length≤576∧(boxV s bx hints).w.a.length≤8∧(boxV s bx hints).w.b.length≤8:=by
 unfold boxV
 split
 ·rename_i h;exact bxGo_len (bdOk h).few _ _ _
 ·simp
theorem mkBox_len (l : List Int) (js : List J) : (mkBoxL l js).length=js.length:=by simp [mkBoxL]
set_option maxHeartbeats 4000000 in
theorem wHints (l m o : List Int) (hv : ∀ x ∈ mkBoxL m (rJs l 0),validB x.1 x.2=true) (hw : (mkWithinL (mkBoxL m (rJs l 0)) o).length≤1000) (h : (boxV (mkSc l) (mkBoxL m (rJs l 0)) []).kind=1→boxV (mkSc l) (mkBoxL m (rJs l 0)) (boxV (mkSc l) (mkBoxL m (rJs l 0)) []).ns=boxV (mkSc l) (mkBoxL m (rJs l 0)) []∧boxV (mkSc l) (mkWithinL (mkBoxL m (rJs l 0)) o) (boxV (mkSc l) (mkBoxL m (rJs l 0)) []).ns=boxV (mkSc l) (mkBoxL m (rJs l 0)) []) : DetH Tryz.prog 6 [.pv (zs l),.pv (zs m),.pv (zs o)] [] [] (.pv (B true)):=by
 have c0:=d13
 have c1:=d11 l
 have hL:=mkSc_L l
 have hj:=rJs_len l 0
 have c2:=d12 m (rJs l 0) (rMs l 0) (by omega) (rJs_ok l 0)
 have hjs : (mkSc l).js=rJs l 0:=rfl
 have hms : (mkSc l).ms=rMs l 0:=rfl
 have hbl:=mkBox_len m (rJs l 0)
 generalize mkBoxL m (rJs l 0)=b at *
 rw [← hjs,← hms] at c2
 have c3:=d15 (mkSc l) b [] hL (by omega) (by simp)
 have hvl:=boxV_len (mkSc l) b []
 have c4:=d22 b o (by omega) hv
 have c7:=d14 (boxV (mkSc l) b []) (by omega) (by omega) (by omega)
 have c5:=d15 (mkSc l) b (boxV (mkSc l) b []).ns hL (by omega) (by omega)
 have c6:=d15 (mkSc l) (mkWithinL b o) (boxV (mkSc l) b []).ns hL (by omega) (by omega)
 simp only [vecs,List.map_nil] at c3
 generalize mkWithinL b o=wi at *
 generalize mkSc l=s at *
 by_cases hk : (boxV s b []).kind=1
 ·rw [(h hk).1] at c5
  rw [(h hk).2] at c6
  clear h
  generalize boxV s b []=v at *
  obtain ⟨k,ns,w⟩:=v
  simp only at hk c3 c5 c6 c7
  subst hk
  refine detP_of Tryz.func6 rfl (by kernel_rfl) (by simp [Tryz.f6]) rfl ?_
  intro C hP hN
  simp only [Tryz.f6] at hN ⊢
  with_reducible repeat' (first|refine Sp.h ?_|((first|refine Wd ?_|refine Ss.h ?_|refine Sc.h (c0) ?_|refine Sc.h (c1) ?_|refine Sc.h (c2) ?_|refine Sc.h (c3) ?_|refine Sc.h (c4) ?_|refine Sc.h (c5) ?_|refine Sc.h (c6) ?_|refine Sc.h (c7) ?_|(refine Sb.h ?_ ?_ ?_<;>(try intro hgd)<;>try exact Xy))<;>simp -implicitDefEqProofs (maxSteps:=2000000) [hP,hN]<;>try refine Ya ?_)|refine X2 ?_ ?_|(refine Xd ?_ ?_<;>intro hcd<;>try exact Xx))
 ·clear h c5 c6
  generalize boxV s b []=v at *
  obtain ⟨k,ns,w⟩:=v
  simp only at hk c3 c7
  have hk' : (k==1)=false:=by simp [hk]
  have hk'' : (k !=1)=true:=by simp [hk]
  refine detP_of Tryz.func6 rfl (by kernel_rfl) (by simp [Tryz.f6]) rfl ?_
  intro C hP hN
  simp only [Tryz.f6] at hN ⊢
  with_reducible repeat' (first|refine Sp.h ?_|((first|refine Wd ?_|refine Ss.h ?_|refine Sc.h (c0) ?_|refine Sc.h (c1) ?_|refine Sc.h (c2) ?_|refine Sc.h (c3) ?_|refine Sc.h (c4) ?_|refine Sc.h (c7) ?_|(refine Sb.h ?_ ?_ ?_<;>(try intro hgd)<;>try exact Xy))<;>simp -implicitDefEqProofs (maxSteps:=2000000) [hP,hN,hk,hk',hk'']<;>try refine Ya ?_)|refine X2 ?_ ?_|(refine Xd ?_ ?_<;>intro hcd<;>try exact Xx))
end Go.Ab
namespace Go.Ab
open Go.Proofs
theorem findR_ok {a b : List IVc} {ra rb : Int} {h : List Vc} (hf : (findR a ra b rb h).2=true) : sepB (findR a ra b rb h).1 a ra b rb=true:=by
 unfold findR at hf ⊢
 split
 ·rename_i n e;have:=List.find?_some e;exact this
 ·rename_i e;rw [e] at hf;cases hf
theorem findR_hint {a b : List IVc} {ra rb : Int} {n : Vc} (h : sepB n a ra b rb=true) : findR a ra b rb [n]=(n,true):=by
 have h':=h
 simp only [sepB,marginB,sideB,Bool.and_eq_true,decide_eq_true_eq] at h'
 obtain ⟨⟨⟨⟨⟨a1,a2⟩,a3⟩,⟨b1,b2⟩,b3⟩,hu⟩,_⟩:=h'
 have hc : candB a ra b rb=true:=by simp only [candB,fromB,Bool.and_eq_true,decide_eq_true_eq];exact ⟨⟨⟨a1,b1⟩,a2,a3⟩,b2,b3⟩
 have hl : ∃ r,candL a ra b rb [n]=n :: r:=by
  unfold candL
  rw [if_pos hc]
  exact ⟨_,by rw [List.filter_cons,if_pos hu];rfl⟩
 obtain ⟨r,hr⟩:=hl
 unfold findR
 rw [hr,List.find?_cons,h]
end Go.Ab
namespace Go.Ab
open Go.Proofs
theorem subB_box {s : Sce} {a b : List Iv} (h : SubB a b) (hp : placeOk s b=true) : placeOk s a=true:=by
 simp only [placeOk,isBoxB,allB,Bool.and_eq_true,decide_eq_true_eq,List.all_eq_true] at hp ⊢
 refine ⟨hp.1,by rw [h.1];exact hp.2.1,fun x hx=>?_⟩
 obtain ⟨k,hk⟩:=List.getElem?_of_mem hx
 have hlt : k < a.length:=(List.getElem?_eq_some_iff.1 hk).1
 have hb : b[k]?=some (b[k]'(by rw [← h.1];exact hlt)):=List.getElem?_eq_getElem _
 exact (h.2 k _ _ hk hb).vx
theorem ptO_sub (s : Sce) {a b : List Iv} (h : SubB a b) (i : Nat) : SubVs (ptO (pointsL s a) i) (ptO (pointsL s b) i):=pointsL_sub s h i
theorem sepK_sub {s : Sce} {a b : List Iv} (h : SubB a b) {n : Vc} {p : Nat × Nat} (hs : sepK s.shs (pointsL s b) n p=true) : sepK s.shs (pointsL s a) n p=true:=sepB_sub (ptO_sub s h _) (ptO_sub s h _) hs
theorem ovlK_sub {s : Sce} {a b : List Iv} (h : SubB a b) {x y : List Int} {p : Nat × Nat} (hs : ovlK s.shs (pointsL s b) x y p=true) : ovlK s.shs (pointsL s a) x y p=true:=by
 simp only [ovlK,Bool.and_eq_true,decide_eq_true_eq] at hs ⊢
 exact excess_sub (ptO_sub s h _) (ptO_sub s h _) hs.1 hs.2
theorem sepK_ovlK {SH : List Sh} {PT : List (List IVc)} {n : Vc} {p : Nat × Nat} {x y : List Int} (h1 : sepK SH PT n p=true) (h2 : ovlK SH PT x y p=true) : False:=by
 simp only [ovlK,Bool.and_eq_true,decide_eq_true_eq] at h2
 exact sep_ovl h1 h2.1 h2.2
theorem sepAll_iff {SH : List Sh} {PR : List (Nat × Nat)} {PT : List (List IVc)} {ns : List Vc} : sepAllB SH PR PT ns=true↔ns.length=PR.length∧sepTo SH PR PT ns ns.length:=by
 constructor
 ·intro h
  have hl : ns.length=PR.length:=by simp only [sepAllB,Bool.and_eq_true,decide_eq_true_eq] at h;exact h.1
  refine ⟨hl,fun k n p hk hn hp=>?_⟩
  cases hs : sepK SH PT n p with
  |true=>rfl
  |false=>rw [sepAllB_f hn hp hs] at h;cases h
 ·exact fun h=>sepAllB_t h.1 h.2
theorem holdsSep_sub {s : Sce} {a b : List Iv} (h : SubB a b) {ns : List Vc} (hs : holdsSep s b ns=true) : holdsSep s a ns=true:=by
 simp only [holdsSep,Bool.and_eq_true] at hs ⊢
 refine ⟨subB_box h hs.1,?_⟩
 rw [sepAll_iff] at hs ⊢
 exact ⟨hs.2.1,fun k n p hk hn hp=>sepK_sub h (hs.2.2 k n p hk hn hp)⟩
theorem col_iff {SH : List Sh} {PR : List (Nat × Nat)} {PT : List (List IVc)} {w : Wit} : colB SH PR PT w=true↔∃ p,0≤w.pair∧PR[w.pair.toNat]?=some p∧ovlK SH PT w.a w.b p=true:=by
 unfold colB
 cases h : PR[w.pair.toNat]? with
 |none=>simp
 |some p=>simp
theorem holdsCol_sub {s : Sce} {a b : List Iv} (h : SubB a b) {w : Wit} (hs : holdsCol s b w=true) : holdsCol s a w=true:=by
 simp only [holdsCol,Bool.and_eq_true] at hs ⊢
 refine ⟨subB_box h hs.1,?_⟩
 rw [col_iff] at hs ⊢
 obtain ⟨_,p,h0,hp,ho⟩:=hs
 exact ⟨p,h0,hp,ovlK_sub h ho⟩
theorem sep_not_col {s : Sce} {b : List Iv} {ns : List Vc} {w : Wit} (h1 : holdsSep s b ns=true) : holdsCol s b w=false:=by
 cases h2 : holdsCol s b w with
 |false=>rfl
 |true=>
  exfalso
  simp only [holdsSep,holdsCol,Bool.and_eq_true,sepAll_iff,col_iff] at h1 h2
  obtain ⟨_,hl,hs⟩:=h1
  obtain ⟨_,p,h0,hp,ho⟩:=h2
  have hk : w.pair.toNat < ns.length:=by rw [hl];exact (List.getElem?_eq_some_iff.1 hp).1
  exact sepK_ovlK (hs _ _ p hk (List.getElem?_eq_getElem hk) hp) ho
theorem col_not_sep {s : Sce} {b : List Iv} {ns : List Vc} {w : Wit} (h1 : holdsCol s b w=true) : holdsSep s b ns=false:=by
 cases h2 : holdsSep s b ns with
 |false=>rfl
 |true=>rw [sep_not_col h2] at h1;cases h1
theorem clrN_sub {s : Sce} {a b : List Iv} (h : SubB a b) {ns : List Vc} (hs : holdsSep s b ns=true) : ∀ i,i≤ns.length→clrN s.shs (pairsL s) (pointsL s b) ns i≤clrN s.shs (pairsL s) (pointsL s a) ns i
 |0,_=>Int.le_refl _
 |i+1,hi=>by
  have ih:=clrN_sub h hs i (by omega)
  have hl : ns.length=(pairsL s).length:=by simp only [holdsSep,Bool.and_eq_true,sepAll_iff] at hs;exact hs.2.1
  have hn : ns[i]?=some (ns[i]'(by omega)):=List.getElem?_eq_getElem _
  have hp : (pairsL s)[i]?=some ((pairsL s)[i]'(by omega)):=List.getElem?_eq_getElem _
  rw [clr_succ hn hp,clr_succ hn hp]
  have hk : sepK s.shs (pointsL s b) (ns[i]'(by omega)) ((pairsL s)[i]'(by omega))=true:=by
   simp only [holdsSep,Bool.and_eq_true,sepAll_iff] at hs
   exact hs.2.2 i _ _ (by omega) hn hp
  simp only [sepK,sepB,Bool.and_eq_true] at hk
  have hnp:=norm_pos hk.1
  have hm:=margin_sub (n:=ns[i]'(by omega)) (ra:=rdO s.shs ((pairsL s)[i]'(by omega)).1) (rb:=rdO s.shs ((pairsL s)[i]'(by omega)).2) (ptO_sub s h ((pairsL s)[i]'(by omega)).1) (ptO_sub s h ((pairsL s)[i]'(by omega)).2)
  have:=Int.ediv_le_ediv (show 0 < normI (ns[i]'(by omega)) by omega) hm
  simp only [clrK]
  omega
theorem clrV_sub {s : Sce} {a b : List Iv} (h : SubB a b) {ns : List Vc} (hs : holdsSep s b ns=true) : clrV s b ns≤clrV s a ns:=by
 simp only [clrV,hs,holdsSep_sub h hs,if_true]
 exact clrN_sub h hs _ (Nat.le_refl _)
section
variable {SH : List Sh} {PR : List (Nat × Nat)} {PT : List (List IVc)} {hs : List Vc}
theorem bxGo_all : ∀ f k,k+f=PR.length→(∀ j p,k≤j→PR[j]?=some p→(bxF SH PT hs j p).2=true)→bxGo SH PR PT hs f k true=⟨1,bxFound SH PR PT hs,⟨0,[],[]⟩⟩
 |0,k,_,_=>rfl
 |f+1,k,hk,h=>by
  have hp : PR[k]?=some (PR[k]'(by omega)):=List.getElem?_eq_getElem _
  simp only [bxGo,hp,h k _ (Nat.le_refl _) hp,if_true]
  exact bxGo_all f (k+1) (by omega) fun j p hj hp=>h j p (by omega) hp
theorem bxGo_is : ∀ f k ap,k+f=PR.length→(∃ (j : Nat) (p : Nat × Nat),PR[j]?=some p∧bxGo SH PR PT hs f k ap=⟨2,[],⟨j,(bxN SH PT p).2.w,(bxN SH PT p).2.v⟩⟩∧ovlK SH PT (bxN SH PT p).2.w (bxN SH PT p).2.v p=true)∨(bxGo SH PR PT hs f k ap=⟨1,bxFound SH PR PT hs,⟨0,[],[]⟩⟩∧ap=true∧∀ j p,k≤j→PR[j]?=some p→(bxF SH PT hs j p).2=true)∨bxGo SH PR PT hs f k ap=⟨0,bxFound SH PR PT hs,⟨0,[],[]⟩⟩
 |0,k,ap,hk=>by
  right
  cases ap with
  |true=>
   left
   refine ⟨rfl,rfl,fun j p hj hp=>?_⟩
   have:=(List.getElem?_eq_some_iff.1 hp).1
   omega
  |false=>right;rfl
 |f+1,k,ap,hk=>by
  have hp : PR[k]?=some (PR[k]'(by omega)):=List.getElem?_eq_getElem _
  simp only [bxGo,hp]
  split
  ·rename_i hf
   rcases bxGo_is f (k+1) ap (by omega) with h|⟨h1,h2,h3⟩|h
   ·exact .inl h
   ·refine .inr (.inl ⟨h1,h2,fun j p hj hpj=>?_⟩)
    by_cases he : j=k
    ·subst he;rw [hp] at hpj;cases hpj;exact hf
    ·exact h3 j p (by omega) hpj
   ·exact .inr (.inr h)
  ·split
   ·rename_i ho
    exact .inl ⟨k,_,hp,rfl,ho⟩
   ·rcases bxGo_is f (k+1) false (by omega) with h|⟨h1,h2,h3⟩|h
    ·exact .inl h
    ·cases h2
    ·exact .inr (.inr h)
theorem bxFound_get {k : Nat} {p : Nat × Nat} (h : PR[k]?=some p) : (bxFound SH PR PT hs)[k]?=some (bxF SH PT hs k p).1:=by
 simp [bxFound,List.getElem?_mapIdx,h]
theorem bxFound_len : (bxFound SH PR PT hs).length=PR.length:=by simp [bxFound]
theorem bxF_sep {k : Nat} {p : Nat × Nat} (h : (bxF SH PT hs k p).2=true) : sepK SH PT (bxF SH PT hs k p).1 p=true:=findR_ok h
theorem found_sep (h : ∀ j p,PR[j]?=some p→(bxF SH PT hs j p).2=true) : sepAllB SH PR PT (bxFound SH PR PT hs)=true:=by
 refine sepAllB_t bxFound_len fun k n p hk hn hp=>?_
 rw [bxFound_get hp] at hn
 cases hn
 exact bxF_sep (h k p hp)
end
theorem boxV_is (s : Sce) (bx : List Iv) (hs : List Vc) : (∃ w,boxV s bx hs=⟨2,[],w⟩∧holdsCol s bx w=true)∨(∃ ns,boxV s bx hs=⟨1,ns,⟨0,[],[]⟩⟩∧holdsSep s bx ns=true)∨(∃ ns,boxV s bx hs=⟨0,ns,⟨0,[],[]⟩⟩∧(ns.length=(pairsL s).length∨placeOk s bx=false)):=by
 unfold boxV
 cases hp : placeOk s bx with
 |false=>exact .inr (.inr ⟨[],rfl,.inr rfl⟩)
 |true=>
  simp only [if_true]
  rcases bxGo_is (SH:=s.shs) (PR:=pairsL s) (PT:=pointsL s bx) (hs:=hs) (pairsL s).length 0 true (by omega) with ⟨j,p,h1,h2,h3⟩|⟨h1,_,h3⟩|h
  ·refine .inl ⟨_,h2,?_⟩
   simp only [holdsCol,hp,Bool.true_and,col_iff]
   exact ⟨p,by omega,by simpa using h1,h3⟩
  ·refine .inr (.inl ⟨_,h1,?_⟩)
   simp only [holdsSep,hp,Bool.true_and]
   exact found_sep fun j p hp=>h3 j p (by omega) hp
  ·exact .inr (.inr ⟨_,h,.inl bxFound_len⟩)
theorem boxV_free {s : Sce} {bx : List Iv} {hs : List Vc} (h : (boxV s bx hs).kind=1) : ∃ ns,boxV s bx hs=⟨1,ns,⟨0,[],[]⟩⟩∧holdsSep s bx ns=true:=by
 rcases boxV_is s bx hs with ⟨w,h1,_⟩|h1|⟨w,h1,_⟩
 ·rw [h1] at h;cases h
 ·exact h1
 ·rw [h1] at h;cases h
theorem boxV_hints {s : Sce} {bx : List Iv} {ns : List Vc} (h : holdsSep s bx ns=true) : boxV s bx ns=⟨1,ns,⟨0,[],[]⟩⟩:=by
 simp only [holdsSep,Bool.and_eq_true,sepAll_iff] at h
 obtain ⟨hp,hl,hk⟩:=h
 have hF : ∀ k p,(pairsL s)[k]?=some p→bxF s.shs (pointsL s bx) ns k p=(ns[k]?.getD (0,0,0),true):=by
  intro k p hpk
  have hlt : k < ns.length:=by rw [hl];exact (List.getElem?_eq_some_iff.1 hpk).1
  have hn : ns[k]?=some ns[k]:=List.getElem?_eq_getElem hlt
  have ha : hintAt ns k=[ns[k]]:=by
   unfold hintAt
   rw [List.drop_eq_getElem_cons hlt]
   rfl
  unfold bxF
  rw [ha,hn]
  exact findR_hint (hk k _ p hlt hn hpk)
 unfold boxV
 rw [if_pos hp,bxGo_all _ _ (by omega) fun j p _ hpj=>by rw [hF j p hpj]]
 congr 1
 apply List.ext_getElem?
 intro k
 by_cases hlt : k < (pairsL s).length
 ·have hpk : (pairsL s)[k]?=some (pairsL s)[k]:=List.getElem?_eq_getElem hlt
  rw [bxFound_get hpk,hF k _ hpk,List.getElem?_eq_getElem (by omega : k < ns.length)]
  rfl
 ·rw [List.getElem?_eq_none_iff.2 (by rw [bxFound_len];omega),List.getElem?_eq_none_iff.2 (by omega)]
theorem checkV_box (s : Sce) (bx : List Iv) (hs : List Vc) : checkV s bx (boxV s bx hs)=decide ((boxV s bx hs).kind=1∨(boxV s bx hs).kind=2):=by
 rcases boxV_is s bx hs with ⟨w,h1,h2⟩|⟨ns,h1,h2⟩|⟨ns,h1,h2⟩
 ·rw [h1];simp [checkV,h2]
 ·rw [h1];simp [checkV,h2]
 ·rw [h1];simp [checkV]
theorem within_sub {b : List Iv} (hv : ∀ x ∈ b,validB x.1 x.2=true) (o : List Int) : SubB (mkWithinL b o) b:=by
 refine ⟨by simp [mkWithinL],fun k x y hx hy=>?_⟩
 simp only [mkWithinL,List.getElem?_mapIdx,hy,Option.map_some,Option.some.injEq] at hx
 subst hx
 have h:=valid_iff.1 (hv y (List.mem_of_getElem? hy))
 have r1:=round_range (nx o (mwSt o k) 1073741824) (k:=y.2 - y.1+1) (by omega) (by omega)
 have r2:=round_range (nx o (nn o (mwSt o k)) 1073741824 / 2) (k:=y.2 - y.1+1) (by omega) (by omega)
 simp only [partI]
 split<;>apply subI_of<;>(try simp only [])<;>omega
theorem mkBox_valid {l : List Int} {js : List J} (hj : ∀ j ∈ js,jOk j) : ∀ x ∈ mkBoxL l js,validB x.1 x.2=true:=by
 intro x hx
 simp only [mkBoxL,List.mem_mapIdx] at hx
 obtain ⟨i,hi,rfl⟩:=hx
 have h:=hj js[i] (List.getElem_mem hi)
 unfold jOk at h
 have:=bVal_range (l:=l) (m:=bSt l i) h.1 h.2.1 h.2.2
 rw [valid_iff];omega
end Go.Ab
