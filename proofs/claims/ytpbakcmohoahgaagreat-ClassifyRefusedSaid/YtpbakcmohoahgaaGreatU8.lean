/- The contracts and facts that the laws of this seat need, in one text (AbC, Ab27, Ab28, Ab30, Ab31, K12b, K12c, K13, K13b, K13c, K13d, K13e, K14, K14b, K15, K15b, K16, KL6). -/
import Derived.Test.YtpbakcmohoahgaaGreatU7
import Derived.TacticsIn
import Derived.RangeFuncRecord
import Derived.RangeFuncLeaves
import Derived.RangeFuncCalls
import Derived.RangeFuncSeq
import Derived.RecoverIn
set_option linter.all false
set_option maxHeartbeats 16000000
namespace Go.Ab
def jo (ops : Array Oper) : Bool:=ops.toList.all fun o=>match o.op with|.defer _=>false|_=>true
theorem gH {ops : Array Oper} (h : jo ops=true) {o : Oper} (ho : o ∈ ops.toList) : ∀ c,o.op≠.defer c:=by
 intro c hc
 have:=List.all_eq_true.1 h o ho
 rw [hc] at this;cases this
structure Wide (F : Fence) : Prop where
 fn : ∀ f,F.fn f
 depth : F.depth=none
 calls : ∀ {n : Nat} {P : Program} {f : FuncId} {args : Array Value} {w : World} {R : Ending→World→Prop},Calls P f args w R→CallsIn F n P f args w R
 rows : ∀ {n : Nat} {P : Program} {row : String} {args : Array Value} {w : World} {R : Value→World→Prop},Rows P row args w R→RowsIn F n P row args w R
theorem dK : Wide Fence.wide:=⟨fun _=>trivial,rfl,fun h=>callsIn_wide.2 h,fun h c cs _=>let ⟨v,w',r,s⟩:=h c cs;⟨v,w',r,stepsIn_wide.2 s⟩⟩
theorem tt (l : Nat) : Wide (Fence.wide.inRound l):=⟨fun _=>trivial,rfl,fun h=>(callsIn_wide.2 h).inRound l,fun h=>dK.rows h⟩
theorem sJ {F : Fence} (hF : Wide F) {n : Nat} {P : Program} {o : Oper} (hd : ∀ c,o.op≠.defer c) {a : Act} {w : World} {next : Act→World→Prop} {Q : Exit→Act→World→Prop}
 (h : o.wp P a w next Q) : o.wpIn F n P a w next Q:=by
 refine ⟨fun f _=>hF.fn f,?_⟩
 rw [Oper.semAt_eq _ _ _ hd]
 unfold Oper.wp at h
 cases hx : (execOp a.eval o).run P w with
 |ok nx w'=>
  rw [hx] at h
  cases nx with
  |value v=>exact h
  |skip=>exact h
  |defer d=>exact h
  |enter f args=>exact ⟨fun hs=>(by rw [hF.depth] at hs;cases hs),hF.calls h⟩
  |row r args=>exact ⟨fun hs=>(by rw [hF.depth] at hs;cases hs),hF.rows h⟩
  |_=>exact h.elim
 |halt k w'=>
  rw [hx] at h
  cases k with
  |panic v=>exact h
  |_=>exact h.elim
def dp (C : Cx) (L : Nat→Loc) (st : St) (a : Act) (w : World) : Prop:=
 MemL C L st.h w∧a.tmps.size=C.N∧∀ n,RepA w (ah C L st.h) L st.h (st.t n) (a.tmps.getD n undef)
theorem dp.put {C : Cx} {L : Nat→Loc} {st : St} {a : Act} {w : World} (hs : dp C L st a w) {d : Option Nat} (hd : dW C.N d=true) {v : AV} {W : List (Nat × Blk)} {u : Value} {w' : World} {L' : Nat→Loc}
 (hA : ax C L st.h w L' (aj st.h W) w') (hv : RepA w' (ah C L' (aj st.h W)) L' (aj st.h W) v u) : dp C L' (st.put d v W) (a.put d u) w':=by
 obtain ⟨hm,hN,ht⟩:=hs
 refine ⟨hA.1,?_,fun n=>?_⟩
 ·cases d<;>simp [Act.put,hN]
 ·have hold:=(ht n).mono hA.2.1 hA.2.2
  cases d with
  |none=>exact hold
  |some d=>
   have hd' : d < a.tmps.size:=by rw [hN];simp only [dW,Bool.and_eq_true,decide_eq_true_eq] at hd;exact hd.1
   rw [lq hd']
   simp only [St.put,aq]
   split
   ·exact hv
   ·exact hold
theorem tu (st : St) (d : Option Nat) (v : AV) (W : List (Nat × Blk)) : (st.put d v W).h=aj st.h W:=by cases d<;>rfl
theorem fM (a : Act) (d : Option Nat) (u : Value) : (a.put d u).defers=a.defers:=by cases d<;>rfl
theorem rn {C : Cx} {L : Nat→Loc} {st : St} {a : Act} {w : World} (hs : dp C L st a w) {o : Oper} (hnd : ∀ c,o.op≠.defer c) (hd : dW C.N o.dst=true) {hn : List Nat} {K : bR→Prop} (e : me C.P hn o st.ev st.h K) {next : Act→World→Prop} {Q : Exit→Act→World→Prop}
 (hnext : ∀ eff a' w' L',K eff→dp C L' (st.put o.dst eff.1 eff.2) a' w'→ax C L st.h w L' (st.put o.dst eff.1 eff.2).h w'→a'.defers=a.defers→next a' w') : o.wp C.P a w next Q:=by
 have hs':=hs
 obtain ⟨hm,hN,ht⟩:=hs'
 have hplain : iY C.P hn o st.ev st.h K→o.wp C.P a w next Q:=fun e=>
  oN hm (fun _ _ h=>h) (fun d hdd=>⟨rfl,by rw [hdd] at hd;simp only [dW,Bool.and_eq_true,decide_eq_true_eq] at hd;exact hd.2⟩) (fun x _=>cy ht x) e (fun eff u w' L' hk hA hv=>hnext eff _ _ L' hk (hs.put hd hA hv) (by rw [tu];exact hA) (fM _ _ _))
 unfold me at e
 split at e
 ·rename_i c hop
  exact absurd hop (hnd c)
 ·rename_i op t x y t' hop
  split at e
  ·rename_i hc
   simp only [Bool.and_eq_true,Bool.or_eq_true,beq_iff_eq] at hc
   obtain ⟨⟨⟨c1,c2⟩,c3⟩,c4⟩:=hc
   have hy:=nS c1 (cy ht y)
   obtain ⟨ad,n,c,hx⟩:=lV hm (cy ht x) c3
   obtain ⟨b,hb⟩ : ∃ b : Bool,(op=.eql∧b=ad.isNone)∨(op=.neq∧b=!ad.isNone):=by
    rcases c4 with c4|c4
    ·exact ⟨_,.inl ⟨c4,rfl⟩⟩
    ·exact ⟨_,.inr ⟨c4,rfl⟩⟩
   have hrun : (execOp a.eval o).run C.P w=.ok (.value (.bool b)) w:=by
    obtain ⟨dst,op',ty,pos,aft,g⟩:=o
    simp only at hop
    subst hop
    exact f8 (pG (jz c2) hx hy hb) w
   have hK : K (.pv (.val (.bool b)),[]):=by cases b with
    |true=>exact e.1
    |false=>exact e.2
   unfold Oper.wp
   rw [hrun]
   exact hnext _ _ _ L hK (hs.put hd (W:=[]) (ax.refl hm) (.pv (.val _))) (by rw [tu];exact ax.refl hm) (fM _ _ _)
  ·exact hplain e
 ·exact hplain e
theorem dF {F : Fence} (hF : Wide F) {n : Nat} {C : Cx} {hn : List Nat} {ops : Array Oper} {Q : St→Prop} {Q' : Exit→Act→World→Prop} {L0 : Nat→Loc} {h0 : Hp} {w0 : World} {ds : List Deferred}
 (hQ : ∀ st L a w,dp C L st a w→ax C L0 h0 w0 L st.h w→a.defers=ds→Q st→Q' .normal a w) :
 ∀ {l : List Oper} {st : St} {L : Nat→Loc} {a : Act} {w : World},(∀ o ∈ l,∀ c,o.op≠.defer c)→dp C L st a w→ax C L0 h0 w0 L st.h w→a.defers=ds→cJ C.P hn C.N ops Q l st→wpListIn F n C.P ops Q' l a w
 |[],st,L,a,w,_,hs,hA,hdd,e=>hQ st L a w hs hA hdd e
 |o :: l,st,L,a,w,hnd,hs,hA,hdd,e=>by
  have hs':=hs
  obtain ⟨hm,hN,ht⟩:=hs'
  simp only [cJ] at e
  obtain ⟨hd,e⟩:=e
  have hnd' : ∀ o' ∈ l,∀ c,o'.op≠.defer c:=fun o' ho'=>hnd o' (List.mem_cons_of_mem _ ho')
  have ho:=hnd o List.mem_cons_self
  unfold wpListIn
  split at e
  ·rename_i hg
   rw [bK ht (iA hg),if_pos rfl]
   exact sJ hF ho (rn hs ho hd e (fun eff a' w' L' hk hsim hA' hd'=>dF hF hQ hnd' hsim (hA.trans hA') (hd'.trans hdd) hk))
  ·rename_i d b want hg
   rw [bK ht (fZ hg)]
   unfold nr at e
   simp only at e
   split at e
   ·rename_i hgt
    subst hgt
    rw [if_pos (by simp)]
    exact sJ hF ho (rn hs ho hd e (fun eff a' w' L' hk hsim hA' hd'=>dF hF hQ hnd' hsim (hA.trans hA') (hd'.trans hdd) hk))
   ·rename_i hgt
    rw [if_neg (by simpa using hgt)]
    exact ⟨fun f _=>hF.fn f,dF hF hQ hnd' (hs.put hd (W:=[]) (ax.refl hm) (.pv (.val _))) (by rw [tu];exact hA) ((fM _ _ _).trans hdd) e⟩
  ·exact e.elim
def af (F : Fence) (C : Cx) (c : Code) (Q : Exit→St→Prop) (st : St) : Prop:=
 ∀ n L a w,dp C L st a w→c.wpIn F n C.P (fun e a' w'=>∃ st' L',dp C L' st' a' w'∧ax C L st.h w L' st'.h w'∧a'.defers=a.defers∧Q e st') a w
section
variable {F : Fence} {C : Cx} {Q : Exit→St→Prop} {st : St}
theorem af.region (hF : Wide F) {hn : List Nat} {id : Nat} {ops : Array Oper} (hnd : jo ops=true) (h : cJ C.P hn C.N ops (Q .normal) ops.toList st) : af F C (.region id ops false) Q st:=
 fun _ _ _ _ hs=>wpIn_region_list (dF hF (fun st' L' _ _ hs' hA hd hq=>⟨st',L',hs',hA,hd,hq⟩) (fun _ ho=>gH hnd ho) hs (ax.refl hs.1) rfl h)
def qG (F : Fence) (C : Cx) (y : Code) (Q : Exit→St→Prop) : Exit→St→Prop
 |.normal,st=>af F C y Q st
 |e,st=>Q e st
theorem af.seq {x y : Code} (h : af F C x (qG F C y Q) st) : af F C (.seq x y) Q st:=by
 intro n L a w hs
 refine wpIn_seq (wpIn_mono (h n L a w hs) ?_)
 rintro e a' w' ⟨st',L',hs',hA,hd,hq⟩
 cases e with
 |normal=>exact wpIn_mono (hq n L' a' w' hs') (fun e a2 w2 ⟨st2,L2,hs2,hA2,hd2,hq2⟩=>⟨st2,L2,hs2,hA.trans hA2,hd2.trans hd,hq2⟩)
 |_=>exact ⟨st',L',hs',hA,hd,hq⟩
theorem af.skip (h : Q .normal st) : af F C .skip Q st:=fun _ L _ _ hs=>wpIn_skip ⟨st,L,hs,ax.refl hs.1,rfl,h⟩
theorem af.ret (h : Q .ret st) : af F C .ret Q st:=fun _ L _ _ hs=>wpIn_ret ⟨st,L,hs,ax.refl hs.1,rfl,h⟩
theorem af.exit {id : Nat} (h : Q (.exit id) st) : af F C (.exit id) Q st:=fun _ L _ _ hs=>wpIn_exit ⟨st,L,hs,ax.refl hs.1,rfl,h⟩
theorem af.cond {c : Operand} {x y : Code} {b : Bool} (hc : st.ev c=.pv (.val (.bool b))) (ht : b=true→af F C x Q st) (hf : b=false→af F C y Q st) : af F C (.cond c x y) Q st:=by
 intro n L a w hs
 have hc' : a.eval c=.bool b:=by
  have:=cy hs.2.2 c
  rw [hc] at this
  cases this with
  |pv hr=>exact aI hr
 exact wpIn_cond_split hc' (fun e=>ht e n L a w hs) (fun e=>hf e n L a w hs)
theorem af.block {id : Nat} {c : Code} (h : af F C c (j8 id Q) st) : af F C (.block id c) Q st:=by
 intro n L a w hs
 refine wpIn_block (wpIn_mono (h n L a w hs) ?_)
 rintro e a' w' ⟨st',L',hs',hA,hd,hq⟩
 cases e with
 |exit i=>
  simp only [j8,Exit.inBlock] at hq ⊢
  split
  ·rename_i e;rw [if_pos e] at hq;exact ⟨st',L',hs',hA,hd,hq⟩
  ·rename_i e;rw [if_neg e] at hq;exact ⟨st',L',hs',hA,hd,hq⟩
 |_=>exact ⟨st',L',hs',hA,hd,hq⟩
theorem af.mono {c : Code} {Q' : Exit→St→Prop} (h : af F C c Q st) (hq : ∀ e st,Q e st→Q' e st) : af F C c Q' st:=
 fun n L a w hs=>wpIn_mono (h n L a w hs) (fun e _ _ ⟨st',L',hs',hA,hd,hq'⟩=>⟨st',L',hs',hA,hd,hq e st' hq'⟩)
end
end Go.Ab
namespace Go.Ab
theorem xn {w : World} {l b o : Nat} {ob : Obj} {v : Value} (hl : w.heap[l]?=some ob) (hc : ob.isCells=false) (h : w.cell? ⟨b,o,none⟩=some v) : b≠l:=by
 intro e
 subst e
 obtain ⟨o',h1,h2⟩:=cells_of_cell h
 simp only at h1
 rw [hl] at h1;injection h1 with h1;subst h1
 rw [hc] at h2;cases h2
theorem yi {w : World} {M : Nat→Nat→Prop} {L : Nat→Loc} {h : Hp} {loc : Loc} {blk : Blk} (hb : cw w M L h loc blk) (hl : blk.live loc) {l : Nat} {ob : Obj} (hw : w.heap[l]?=some ob) (hc : ob.isCells=false) : loc.b≠l:=by
 intro e
 subst e
 cases blk with
 |box cs own fz=>obtain ⟨arr,ty,e,_⟩:=hb;rw [hw] at e;injection e with e;subst e;cases hc
 |row e sz xs fz=>obtain ⟨_,_,_,_,h5⟩:=hb;obtain ⟨_,_,arr,e,_⟩:=h5 hl;rw [hw] at e;injection e with e;subst e;cases hc
theorem MemL.turn {C : Cx} {L : Nat→Loc} {h : Hp} {w : World} (hm : MemL C L h w) {l : Nat} {ob : Obj} (hl : C.w0.heap[l]?=some ob) (hS : ¬ C.S l) (hc : ob.isCells=false) (ob' : Obj) :
 MemL { C with w0:=C.w0.putObj l ob' } L h (w.putObj l ob')∧aE w (ah C L h) (w.putObj l ob') (ah C L h):=by
 have hlt : l < C.w0.heap.size:=(Array.getElem?_eq_some_iff.1 hl).1
 have hw : w.heap[l]?=some ob:=(hm.ext.block l hlt hS).trans hl
 have hlt' : l < w.heap.size:=(Array.getElem?_eq_some_iff.1 hw).1
 have hpres : aE w (ah C L h) (w.putObj l ob') (ah C L h):=fun b o v hv hn=>⟨(World.cell?_of_block (World.putObj_heap_other (xn hw hc hv))).trans hv,hn⟩
 refine ⟨⟨⟨hm.ext.os,hm.ext.tape,hm.ext.output,by simpa using hm.ext.size,fun b hb hs=>?_⟩,fun b o hb=>by simpa using hm.m0 b o hb,fun k blk hk=>(hm.bl k blk hk).mono hpres (KC.refl _ _) (fun hlv=>World.putObj_heap_other (yi (hm.bl k blk hk) hlv hw hc)),hm.sep,fun k blk hk=>?_⟩,hpres⟩
 ·by_cases e : b=l
  ·subst e
   rw [World.putObj_heap_same hlt',World.putObj_heap_same hlt]
  ·rw [World.putObj_heap_other e,World.putObj_heap_other e]
   exact hm.ext.block b (by simpa using hb) hs
 ·have:=hm.own k blk hk
  cases blk with
  |box cs own fz=>cases own with
   |true=>simpa [cT] using this
   |false=>simpa [cT] using this
  |row e sz xs fz=>simpa [cT] using this
theorem nC {w : World} {l : Nat} {o : Obj} (h : w.heap[l]?=some o) : w.putObj l o=w:=by
 have : w.heap.setIfInBounds l o=w.heap:=by
  apply Array.ext_getElem?
  intro i
  rw [Array.getElem?_setIfInBounds]
  by_cases e : l=i
  ·subst e
   rw [if_pos rfl,if_pos (Array.getElem?_eq_some_iff.1 h).1,h]
  ·rw [if_neg e]
 show { w with heap:=w.heap.setIfInBounds l o }=w
 rw [this]
theorem lY (w : World) (l : Nat) (o o' : Obj) : (w.putObj l o).putObj l o'=w.putObj l o':=by
 show { w with heap:=(w.heap.setIfInBounds l o).setIfInBounds l o' }={ w with heap:=w.heap.setIfInBounds l o' }
 congr 1
 apply Array.ext_getElem?
 intro i
 simp only [Array.getElem?_setIfInBounds,Array.size_setIfInBounds]
 by_cases e : l=i
 ·subst e;simp
 ·simp [e]
theorem nV {tm : Array Value} {d : Nat} {u : Value} (hd : d < tm.size) (n : Nat) : (tm.setIfInBounds d u).getD n undef=if n=d then u else tm.getD n undef:=by
 simp only [Array.getD_eq_getD_getElem?]
 by_cases e : n=d
 ·subst e;simp [hd]
 ·rw [if_neg e,Array.getElem?_setIfInBounds_ne (by omega)]
theorem gy {w : World} {M : Nat→Nat→Prop} {b : Nat} {ps : List PV} (h : eN w M b ps) : b < w.heap.size:=by
 obtain ⟨arr,ty,e,_⟩:=h
 exact (Array.getElem?_eq_some_iff.1 e).1
def wN (P : Program) (gf : FuncId) (caps : List PV) (xs : List (PV × PV)) : Prop:=
 bP P gf=true∧∀ (n l : Nat) (lb : List Value) (W : World) (M : Nat→Nat→Prop) (J : Nat→(Nat→Nat→Prop)→World→Prop),
  (∀ i M W,J i M W→∀ b o,M b o→b < W.heap.size)→(∀ i M W W',J i M W→Ext (fun _=>False) W W'→J i M W')→
  (∀ m i x M W v1 v2,xs[i]?=some x→J i M W→Rep W M x.1 v1→Rep W M x.2 v2→YieldAt Fence.wide m P l #[v1,v2] W fun e W'=>e=.returned (.bool true)∧∃ M',J (i+1) M' W'∧aE W M W' M')→
  J 0 M W→aX W M caps lb→CallsIn Fence.wide n P gf (#[.func (.yield l) #[] #[]]++lb.toArray) W fun e W'=>(∃ v,e=.returned v)∧∃ M',J xs.length M' W'
def eY (ks : List Nat) (hin : Nat→List PV) : Hp:=fun k=>if ks.contains k=true then some (.box ((hin k).map .pv) false false) else none
def tv (t : Nat→AV) (p q : Nat) (x : PV × PV) : Nat→AV:=aq (aq t p (.pv x.1)) q (.pv x.2)
theorem vA {P : Program} {N : Nat} {gop : Operand} {p q : Nat} {assign body : Code} {a : Act} {w : World} {n : Nat} {gf : FuncId} {lb : List Value} (hg : a.eval gop=.func (.func gf) #[] lb.toArray)
 {caps : List PV} {xs : List (PV × PV)} (hit : wN P gf caps xs) {M : Nat→Nat→Prop} (hM : ∀ b o,M b o→b < w.heap.size) (hcap : aX w M caps lb)
 {ks : List Nat} {bs : Nat→Nat} {hin : Nat→List PV} (hbs : ∀ k ∈ ks,(∀ o,M (bs k) o)∧eN w M (bs k) (hin k)) (hinj : ∀ k ∈ ks,∀ k' ∈ ks,k≠k'→bs k≠bs k')
 (hN : a.tmps.size=N) (hp : p < N) (hq : q < N) {t : Nat→AV} (ht : ∀ m,(∃ k ∈ ks,t m=.ptr k 0∧a.tmps.getD m undef=.pointer (some ⟨bs k,0,none⟩))∨t m=.undef)
 (I : Nat→Hp→Prop) (h0 : I 0 (eY ks hin)) (hI : ∀ i h k,k ∈ ks→I i h→∃ cs,h k=some (.box cs false false))
 (hround : ∀ (C C' : Cx) (l i : Nat) (x : PV × PV) (h : Hp),C.P=P→C.N=N→C'.P=P→C'.N=N→xs[i]?=some x→I i h→
   af (Fence.wide.inRound l) C assign (fun e st'=>e=.normal∧af (Fence.wide.inRound l) C' body (fun e' st''=>e'=.normal∧I (i+1) st''.h) st') ⟨tv t p q x,h⟩) :
 (Code.rangeFunc gop #[p,q] assign body).wpIn Fence.wide n P (fun e a' w'=>e=.normal∧∃ (C : Cx) (L : Nat→Loc) (h : Hp) (D : Nat),C.P=P∧C.N=N∧C.M0=M∧(∀ b,C.S b→∃ k ∈ ks,b=bs k)∧
   MemL C L h w'∧I xs.length h∧(∀ k ∈ ks,(L k).b=bs k)∧Ext (fun _=>False) w C.w0∧C.w0.heap[D]?=some (.deferred (some []))∧¬ C.S D∧w.heap.size≤D∧a'={ a with defers:={ target:=.collected D,args:=#[] } :: a.defers }) a w:=by
 refine wpIn_rangeFunc ?_
 intro fn _
 obtain ⟨rec,hrec⟩ : ∃ rec : LoopState→Option Code→Loop,rec=fun st pe=>{ state:=st,pending:=pe,fn,tmps:=a.tmps,params:=#[p,q],assign,body,defers:=w.heap.size }:=⟨_,rfl⟩
 obtain ⟨W1,hW1⟩ : ∃ W1,(w.alloc (.deferred (some []))).alloc (.loop (rec .ready none))=W1:=⟨_,rfl⟩
 have hx1 : Ext (fun _=>False) w W1:=by rw [← hW1];exact (Ext.alloc _ _ _).trans (Ext.alloc _ _ _) (fun _ _ h=>h)
 have hs1 : W1.heap.size=w.heap.size+2:=by rw [← hW1];simp
 have hL1 : W1.heap[w.heap.size+1]?=some (.loop (rec .ready none)):=by
  rw [← hW1];have:=World.alloc_heap_new (w.alloc (.deferred (some []))) (.loop (rec .ready none));rwa [World.size_alloc] at this
 have hD1 : W1.heap[w.heap.size]?=some (.deferred (some [])):=by
  rw [← hW1];exact (RowKit.Below.heap_alloc _ _ _ (by simp)).trans (World.alloc_heap_new w _)
 obtain ⟨l,hl⟩ : ∃ l,l=w.heap.size+1:=⟨_,rfl⟩
 rw [← hl] at hL1
 obtain ⟨cx,hcx⟩ : ∃ cx : Obj→Cx,cx=fun o=>{ P:=P,N:=N,M0:=M,S:=fun b=>∃ k ∈ ks,b=bs k,pb:=fun k=>if ks.contains k=true then some (bs k) else none,w0:=W1.putObj l o }:=⟨_,rfl⟩
 have hS : ∀ o b,(cx o).S b→b < w.heap.size:=by
  intro o b hb
  rw [hcx] at hb
  obtain ⟨k,hk,rfl⟩:=hb
  exact gy (hbs k hk).2
 have hw0 : ∀ o,(cx o).w0=W1.putObj l o:=fun o=>by rw [hcx]
 have hMst : ∀ o o' L h,ah (cx o) L h=ah (cx o') L h:=fun o o' L h=>by rw [hcx];rfl
 have hat : ∀ (o : Obj),(cx o).w0.heap[l]?=some o:=fun o=>by rw [hw0];exact World.putObj_heap_same (Array.getElem?_eq_some_iff.1 hL1).1
 have hnS : ∀ o,¬ (cx o).S l:=fun o h=>by have:=hS o l h;omega
 have hturn : ∀ {o o' : Obj} {L : Nat→Loc} {h : Hp} {W : World},o.isCells=false→MemL (cx o) L h W→W.heap[l]?=some o∧MemL (cx o') L h (W.putObj l o')∧aE W (ah (cx o) L h) (W.putObj l o') (ah (cx o') L h):=by
  intro o o' L h W ho hm
  have hlt : l < (cx o).w0.heap.size:=(Array.getElem?_eq_some_iff.1 (hat o)).1
  obtain ⟨h1,h2⟩:=hm.turn (hat o) (hnS o) ho o'
  refine ⟨(hm.ext.block l hlt (hnS o)).trans (hat o),?_,?_⟩
  ·have e : ({ cx o with w0:=(cx o).w0.putObj l o' } : Cx)=cx o':=by rw [hcx];simp only [lY]
   rw [e] at h1;exact h1
  ·rw [hMst o' o];exact h2
 have hready : W1.putObj l (.loop (rec .ready none))=W1:=nC hL1
 have hown : ∀ {o : Obj} {L : Nat→Loc} {h : Hp} {W : World} {i k : Nat},k ∈ ks→I i h→MemL (cx o) L h W→(L k).b=bs k:=by
  intro o L h W i k hk hi hm
  obtain ⟨cs,hc⟩:=hI i h k hk hi
  have:=(hm.own k _ hc).2.1
  rw [hcx] at this
  have hc' : ks.contains k=true:=by simpa using hk
  simp only [hc',if_true,Option.some.injEq] at this
  exact this.symm
 let L0 : Nat→Loc:=fun k=>⟨bs k,0,false⟩
 have hkey : ∀ k blk,eY ks hin k=some blk→k ∈ ks∧blk=.box ((hin k).map .pv) false false:=by
  intro k blk hk
  unfold eY at hk
  split at hk
  ·rename_i hc;injection hk with hk;exact ⟨by simpa using hc,hk.symm⟩
  ·cases hk
 have hM1 : ∀ o b o',ah (cx o) L0 (eY ks hin) b o'→M b o':=by
  rintro o b o' (hb|⟨k,blk,hk,_,hb,_⟩)
  ·rw [hcx] at hb;exact hb
  ·obtain ⟨hks,_⟩:=hkey k blk hk
   rw [← hb];exact (hbs k hks).1 o'
 have hpres1 : aE w M W1 (ah (cx (.loop (rec .ready none))) L0 (eY ks hin)):=fun b o v hv hn=>⟨(hx1.cell (eQ hv) (fun h=>h)).trans hv,fun h=>hn (hM1 _ b o h)⟩
 have hm0 : MemL (cx (.loop (rec .ready none))) L0 (eY ks hin) W1:=by
  refine ⟨by rw [hw0,hready];exact Ext.refl _ _,?_,?_,?_,?_⟩
  ·intro b o hb
   rw [hw0,hready]
   rw [hcx] at hb
   have:=hM b o hb
   omega
  ·intro k blk hk
   obtain ⟨hks,rfl⟩:=hkey k blk hk
   obtain ⟨arr,ty,e1,e2⟩:=(hbs k hks).2
   exact ⟨arr,ty,(hx1.block _ (gy (hbs k hks).2) (fun h=>h)).trans e1,au.map_pv (e2.mono hpres1)⟩
  ·intro k k' b1 b2 hne hk hk' _ _
   exact hinj k (hkey k b1 hk).1 k' (hkey k' b2 hk').1 hne
  ·intro k blk hk
   obtain ⟨hks,rfl⟩:=hkey k blk hk
   have hc' : ks.contains k=true:=by simpa using hks
   refine ⟨rfl,?_,?_,?_,?_⟩
   ·rw [hcx];simp only [hc',if_true];rfl
   ·rw [hcx];exact ⟨k,hks,rfl⟩
   ·rw [hw0,hready];have:=gy (hbs k hks).2;show bs k < _;omega
   ·intro o;rw [hcx];exact (hbs k hks).1 o
 refine ⟨l,[{ target:=.collected w.heap.size,args:=#[] }],W1,{ target:=.fn (.func gf) lb.toArray,args:=#[.func (.yield l) #[] #[]] },W1,gf,#[.func (.yield l) #[] #[]]++lb.toArray,W1,?_,?_,fun _ _=>trivial,j9 hit.1 _ _ _,fun h=>(by cases h),?_⟩
 ·rw [← hW1,hrec,hl];exact run_enterLoop_outer _ _ _ _ _
 ·simp only [resolve,hg]
  simp [go_sem]
 ·refine (hit.2 (n - 1) l lb W1 _ (fun i M' W=>∃ L h,I i h∧MemL (cx (.loop (rec .ready none))) L h W∧M'=ah (cx (.loop (rec .ready none))) L h) ?_ ?_ ?_ ⟨L0,_,h0,hm0,rfl⟩ (hcap.mono hpres1)).mono ?_
  ·rintro i M' W ⟨L,h,_,hm,rfl⟩ b o hb
   exact hm.mlt hb
  ·rintro i M' W W' ⟨L,h,hi,hm,rfl⟩ hx
   exact ⟨L,h,hi,(hm.grow hx).1,rfl⟩
  ·
   rintro m i x M' W v1 v2 hxi ⟨L,h,hi,hm,rfl⟩ hr1 hr2
   obtain ⟨hlW,_,_⟩:=hturn (o':=.loop (rec .ready none)) rfl hm
   have hy:=run_yield (P:=P) (args:=#[v1,v2]) hlW (by rw [hrec];rfl)
   rw [hrec] at hy
   refine ⟨fn,(a.tmps.setIfInBounds p v1).setIfInBounds q v2,assign,body,by simpa using hy,roundIn_of_wpIn trivial ?_⟩
   have hsim : dp (cx (.loop (rec .ready none))) L ⟨tv t p q x,h⟩ { tmps:=(a.tmps.setIfInBounds p v1).setIfInBounds q v2,defers:=[] } W:=by
    refine ⟨hm,by rw [hcx];simpa using hN,fun k=>?_⟩
    have hq' : q < (a.tmps.setIfInBounds p v1).size:=by rw [Array.size_setIfInBounds,hN];exact hq
    have hp' : p < a.tmps.size:=by rw [hN];exact hp
    simp only [nV hq',nV hp',tv,aq]
    split
    ·exact .pv hr2
    ·split
     ·exact .pv hr1
     ·rcases ht k with ⟨k',hk',e1,e2⟩|e1
      ·obtain ⟨cs,hc⟩:=hI i h k' hk' hi
       rw [e1,e2,← hown hk' hi hm]
       exact .ptr hc
      ·rw [e1];exact .undef _
   have hP1 : (cx (.loop (rec .ready none))).P=P:=by rw [hcx]
   have hP2 : (cx (.loop (rec .busy none))).P=P:=by rw [hcx]
   have hR:=hround (cx (.loop (rec .ready none))) (cx (.loop (rec .busy none))) l i x h hP1 (by rw [hcx]) hP2 (by rw [hcx]) hxi hi m L _ W hsim
   rw [hP1] at hR
   refine wpIn_mono hR ?_
   rintro e a1 w1 ⟨st1,L1,hs1',hA1,_,rfl,hbody⟩
   obtain ⟨hl1,hmb,hpb⟩:=hturn (o':=.loop (rec .busy none)) rfl hs1'.1
   refine ⟨w1.putObj l (.loop (rec .busy none)),?_,?_⟩
   ·have:=run_beginRound (P:=P) hl1 (by rw [hrec])
    rw [hrec] at this ⊢;exact this
   have hsb : dp (cx (.loop (rec .busy none))) L1 st1 a1 (w1.putObj l (.loop (rec .busy none))):=⟨hmb,by have:=hs1'.2.1;rw [hcx] at this ⊢;exact this,fun k=>(hs1'.2.2 k).mono hpb (KC.refl _ _)⟩
   have hB:=hbody m L1 a1 _ hsb
   rw [hP2] at hB
   refine wpIn_mono hB ?_
   rintro e2 a2 w2 ⟨st2,L2,hs2,hA2,_,rfl,hi2⟩
   obtain ⟨hl2,hmr,hpr⟩:=hturn (o':=.loop (rec .ready none)) rfl hs2.1
   refine ⟨_,_,run_endRound none hl2,rfl,_,⟨L2,st2.h,hi2,?_,rfl⟩,?_⟩
   ·have e : (Obj.loop { rec .busy none with state:=if (none : Option Code).isNone=true then .ready else .done,pending:=none })=.loop (rec .ready none):=by rw [hrec];rfl
    rw [e];exact hmr
   ·have e : (Obj.loop { rec .busy none with state:=if (none : Option Code).isNone=true then .ready else .done,pending:=none })=.loop (rec .ready none):=by rw [hrec];rfl
    rw [e]
    exact ((hA1.2.1.trans hpb).trans hA2.2.1).trans hpr
  ·
   rintro e W2 ⟨⟨v,rfl⟩,M',L,h,hi,hm,_⟩
   obtain ⟨hl2,hme,_⟩:=hturn (o':=.loop (rec .exhausted none)) rfl hm
   refine ⟨none,W2.putObj l (.loop (rec .exhausted none)),?_,rfl,cx (.loop (rec .exhausted none)),L,h,w.heap.size,by rw [hcx],by rw [hcx],by rw [hcx],?_,hme,hi,fun k hk=>hown hk hi hm,?_,?_,?_,Nat.le_refl _,rfl⟩
   ·have:=run_endLoop (P:=P) hl2 (by rw [hrec];simp)
    rw [hrec] at this ⊢;exact this
   ·intro b hb
    rw [hcx] at hb;exact hb
   ·rw [hw0]
    refine ⟨hx1.os,hx1.tape,hx1.output,by simp;omega,fun b hb _=>?_⟩
    rw [World.putObj_heap_other (by omega)]
    exact hx1.block b hb (fun h=>h)
   ·rw [hw0,World.putObj_heap_other (by omega)];exact hD1
   ·intro hb
    have:=hS _ _ hb
    omega
end Go.Ab
namespace Go.Ab
def pJ (P : Program) (g : FuncId) : Prop:=bP P g=true∧∀ (n : Nat) (args : Array Value) (w : World),CallsDIn Fence.wide n P g args .returning w fun e u' w'=>u'=.returning∧(∃ v,e=.returned v)∧w'=w
def oS (P : Program) (ds : List Deferred) : Prop:=∀ d ∈ ds,∃ g cap,d.target=.fn (.func g) cap∧pJ P g
theorem ke {n : Nat} {P : Program} {fn : Func} {tmps : Array Value} {R : Ending→World→Prop} {w : World} {v : Value} : ∀ {ds : List Deferred},oS P ds→(results fn tmps).run P w=.ok v w→R (.returned v) w→LeavesInM Fence.wide n P fn tmps R ds .returning w
 |[],_,hr,hR=>⟨v,hr,hR⟩
 |d :: ds,hq,hr,hR=>by
  obtain ⟨g,cap,ht,hg⟩:=hq d (by simp)
  refine ⟨by simp,.inr ⟨fun h=>(by cases h),.func g,cap,g,d.args++cap,ht,by rw [ht];exact j9 hg.1 _ _ _,fun _ _=>trivial,(hg.2 _ _ w).mono ?_⟩⟩
  rintro e u' w' ⟨rfl,⟨v',rfl⟩,rfl⟩
  exact ke (fun d hd=>hq d (by simp [hd])) hr hR
def tw (C : Cx) (res : PV) : Ending→World→Prop:=fun e w'=>∃ v,e=.returned v∧Ext (fun _=>False) C.w0 w'∧Rep w' C.M0 res v
theorem pK {C : Cx} {L : Nat→Loc} {st : St} {a : Act} {w : World} (hs : dp C L st a w) {fn : Func} {res : PV} (hr : eh C.P fn.results.toList [] (.pv res) st) : ∃ u,(results fn a.tmps).run C.P w=.ok u w∧Rep w C.M0 res u:=by
 obtain ⟨r,h1,_,W,hW⟩:=hr
 obtain ⟨u,hu1,hu2⟩:=lr (C:=C) hs.1 hs.2.2 h1
 obtain ⟨b1,b2,_⟩:=gt hs.1 (bA.refl _) hu2 hW
 exact ⟨u,hu1,b2.mono (aE.sub (fun b o h=>.inl h))⟩
theorem bB {F : Fence} {n : Nat} {P : Program} {ops : Array Oper} {Q : Exit→Act→World→Prop} (l2 : List Oper) : ∀ {l1 : List Oper} {a : Act} {w : World},
 wpListIn F n P ops (Exit.then (wpListIn F n P ops Q l2) Q) l1 a w→wpListIn F n P ops Q (l1++l2) a w
 |[],a,w,h=>h
 |o :: l1,a,w,h=>by
  rw [List.cons_append]
  unfold wpListIn at h ⊢
  split
  ·rename_i hw
   rw [if_pos hw] at h
   refine ⟨h.1,?_⟩
   have h2:=h.2
   generalize (o.semAt F.round a.eval).run P w=r at h2 ⊢
   unfold Oper.uponIn at h2 ⊢
   split<;>simp only at h2 ⊢
   ·exact bB l2 h2
   ·exact bB l2 h2
   ·exact bB l2 h2
   ·refine ⟨h2.1,h2.2.mono ?_⟩
    intro e w' he
    cases e with
    |returned v=>exact bB l2 he
    |panicked ch=>exact he
    |outgrown=>exact he
   ·exact ⟨h2.1,h2.2.mono fun v w' he=>bB l2 he⟩
   ·refine ⟨h2.1,h2.2.mono ?_⟩
    intro e w' he
    cases e with
    |returned v=>exact bB l2 he
    |panicked ch=>exact he
    |outgrown=>exact he
   ·exact h2
  ·rename_i hw
   rw [if_neg hw] at h
   exact ⟨h.1,bB l2 h.2⟩
def jG (C : Cx) (fn : Func) (res : PV) (c : Code) (st : St) : Prop:=
 ∀ n L a w,dp C L st a w→oS C.P a.defers→c.wpIn Fence.wide n C.P (bodyPostM Fence.wide n C.P fn (tw C res)) a w
section
variable {C : Cx} {fn : Func} {res : PV} {st : St}
theorem nW {S : Nat→Prop} (hS : ∀ b,¬ S b) {w w' : World} (h : Ext S w w') : Ext (fun _=>False) w w':=⟨h.os,h.tape,h.output,h.size,fun b hb _=>h.block b hb (hS b)⟩
def vB (C : Cx) (fn : Func) (res : PV) (y : Code) : Exit→St→Prop
 |.normal,st=>jG C fn res y st
 |.ret,st=>eh C.P fn.results.toList [] (.pv res) st
 |_,_=>False
theorem jG.seq (hCS : ∀ b,¬ C.S b) {x y : Code} (h : af Fence.wide C x (vB C fn res y) st) : jG C fn res (.seq x y) st:=by
 intro n L a w hs hq
 refine wpIn_seq (wpIn_mono (h n L a w hs) ?_)
 rintro e a' w' ⟨st',L',hs',hA,hd,hq'⟩
 cases e with
 |normal=>exact hq' n L' a' w' hs' (by rw [hd];exact hq)
 |ret=>
  obtain ⟨u,h1,h2⟩:=pK hs' hq'
  exact ke (by rw [hd];exact hq) h1 ⟨u,rfl,nW hCS hs'.1.ext,h2⟩
 |exit=>exact hq'.elim
 |goto=>exact hq'.elim
 |panic=>exact hq'.elim
 |outgrown=>exact hq'.elim
theorem uB {n : Nat} {P : Program} {o : Oper} {a : Act} {w : World} {next : Act→World→Prop} {Q : Exit→Act→World→Prop} (h : o.wp P a w next Q) : o.wpIn Fence.wide n P a w next Q:=by
 refine ⟨fun f _=>trivial,?_⟩
 show o.uponIn Fence.wide n P a next Q ((o.semAt none a.eval).run P w)
 rw [Oper.semAt_none]
 unfold Oper.wp at h
 cases hx : (execOp a.eval o).run P w with
 |ok nx w'=>
  rw [hx] at h
  cases nx with
  |value v=>exact h
  |skip=>exact h
  |defer d=>exact h
  |enter f args=>exact ⟨fun hs=>(by cases hs),dK.calls h⟩
  |row r args=>exact ⟨fun hs=>(by cases hs),dK.rows h⟩
  |_=>exact h.elim
 |halt k w'=>
  rw [hx] at h
  cases k with
  |panic v=>exact h
  |_=>exact h.elim
theorem jG.defer {id : Nat} {ops : Array Oper} {pre : List Oper} {o : Oper} {c : Call} {y : Code} {f : Operand} {g : FuncId} {hn : List Nat} (hops : ops.toList=pre++[o]) (hnd : ∀ o ∈ pre,∀ c,o.op≠.defer c) (ho : o.op=.defer c) (hg0 : o.guard=none) (hd : o.dst=none) (hf : c.callee=.value f) (h0 : c.args.size=0) (hq : pJ C.P g)
 (h : cJ C.P hn C.N ops (fun st'=>(∃ first caps,st'.ev f=.fn (.func g) first caps)∧jG C fn res y st') pre st) : jG C fn res (.seq (.region id ops false) y) st:=by
 intro n L a w hs hqa
 refine wpIn_seq (wpIn_region_list ?_)
 rw [hops]
 refine bB _ (dF dK (ds:=a.defers) ?_ hnd hs (ax.refl hs.1) rfl h)
 intro st1 L1 a1 w1 hs1 _ hd1 hq1
 obtain ⟨⟨first,caps,hv⟩,hy⟩:=hq1
 obtain ⟨vs,cs,hval⟩:=ut (by have:=cy hs1.2.2 f;rw [hv] at this;exact this)
 show wpListIn Fence.wide n C.P ops _ [o] a1 w1
 unfold wpListIn
 have hw : Region.wanted o (yielded ops a1.tmps)=true:=by unfold Region.wanted;rw [hg0]
 rw [if_pos hw]
 refine uB (Oper.wp_defer ho hf h0 hval ?_)
 rw [hd]
 refine hy n L1 _ w1 ⟨hs1.1,hs1.2.1,hs1.2.2⟩ ?_
 intro d hd'
 rcases List.mem_cons.1 hd' with rfl|hd'
 ·exact ⟨g,cs,rfl,hq⟩
 ·rw [hd1] at hd';exact hqa d hd'
theorem jG.range (hCS : ∀ b,¬ C.S b) {x assign body : Code} {gop : Operand} {p q b0 id : Nat} {ops : Array Oper} {gf : FuncId} {caps : List PV} {xs : List (PV × PV)} (hit : wN C.P gf caps xs) (hp : p < C.N) (hq : q < C.N)
 {ks : List Nat} {hin : Nat→List PV} {t : Nat→AV}
 (hx : af Fence.wide C x (fun e st'=>e=.normal∧st'.ev gop=.pv (.fn (.func gf) [] caps)∧(∀ k ∈ ks,st'.h k=some (.box ((hin k).map .pv) true false))∧∀ m,(∃ k ∈ ks,t m=.ptr k 0∧st'.t m=.ptr k 0)∨t m=.undef) st)
 (I : Nat→Hp→Prop) (h0 : I 0 (eY ks hin)) (hI : ∀ i h k,k ∈ ks→I i h→∃ cs,h k=some (.box cs false false))
 (hround : ∀ (C1 C2 : Cx) (l i : Nat) (x : PV × PV) (h : Hp),C1.P=C.P→C1.N=C.N→C2.P=C.P→C2.N=C.N→xs[i]?=some x→I i h→
   af (Fence.wide.inRound l) C1 assign (fun e st'=>e=.normal∧af (Fence.wide.inRound l) C2 body (fun e' st''=>e'=.normal∧I (i+1) st''.h) st') ⟨tv t p q x,h⟩)
 (hnd : jo ops=true) {hn : List Nat} (htail : ∀ h,I xs.length h→cJ C.P hn C.N ops (fun st'=>eh C.P fn.results.toList [] (.pv res) st') ops.toList ⟨t,h⟩) :
 jG C fn res (.seq (.seq x (.block b0 (.rangeFunc gop #[p,q] assign body))) (.seq (.region id ops false) .ret)) st:=by
 intro n L a w hs hqa
 refine wpIn_seq (wpIn_seq (wpIn_mono (hx n L a w hs) ?_))
 rintro e a1 w1 ⟨st1,L1,hs1,hA1,hd1,rfl,hg,hks,htt⟩
 have hgr:=cy hs1.2.2 gop
 rw [hg] at hgr
 obtain ⟨us,hus,hcap⟩ : ∃ us : List Value,a1.eval gop=.func (.func gf) #[] us.toArray∧aX w1 (ah C L1 st1.h) caps us:=by
  generalize a1.eval gop=u at hgr
  cases hgr with
  |pv hr=>
   cases hr with
   |fn _ _ _ vs us hl hk h1 h2=>
    have : vs=[]:=List.eq_nil_of_length_eq_zero hl.symm
    subst this
    exact ⟨us,rfl,hk,h2⟩
 have hbx : ∀ k ∈ ks,(∀ o,ah C L1 st1.h (L1 k).b o)∧eN w1 (ah C L1 st1.h) (L1 k).b (hin k):=by
  intro k hk
  obtain ⟨arr,ty,e1,e2⟩:=hs1.1.bl k _ (hks k hk)
  exact ⟨fun o=>.inr ⟨k,_,hks k hk,trivial,rfl,by simp [Blk.frz]⟩,arr,ty,e1,e2.map_pv_inv⟩
 refine wpIn_block (wpIn_mono (vA (N:=C.N) hus hit (fun b o h=>hs1.1.mlt h) hcap hbx (fun k hk k' hk' hne=>hs1.1.sep k k' _ _ hne (hks k hk) (hks k' hk') trivial trivial) hs1.2.1 hp hq (t:=t) ?_ I h0 hI hround) ?_)
 ·intro m
  rcases htt m with ⟨k,hk,e1,e2⟩|e
  ·have hr:=hs1.2.2 m
   rw [e2] at hr
   generalize hv : a1.tmps.getD m undef=v at hr
   cases hr with
   |ptr _=>exact .inl ⟨k,hk,e1,rfl⟩
  ·exact .inr e
 rintro e a2 w2 ⟨rfl,C2,L2,h2,D,hP2,hN2,hM2,hS2,hm2,hi2,hb2,hx2,hD2,hnS2,hDge,rfl⟩
 show Code.wpIn Fence.wide n C.P _ _ _ w2
 have hs2 : dp C2 L2 ⟨t,h2⟩ { a1 with defers:={ target:=.collected D,args:=#[] } :: a1.defers } w2:=by
  refine ⟨hm2,by rw [hN2];exact hs1.2.1,fun m=>?_⟩
  show RepA w2 (ah C2 L2 h2) L2 h2 (t m) (a1.tmps.getD m undef)
  rcases htt m with ⟨k,hk,e1,e2⟩|e
  ·have hr:=hs1.2.2 m
   rw [e2] at hr
   obtain ⟨cs,hc⟩:=hI _ h2 k hk hi2
   have hv : a1.tmps.getD m undef=.pointer (some ⟨(L1 k).b,0,none⟩):=by
    generalize a1.tmps.getD m undef=v at hr
    cases hr with
    |ptr _=>rfl
   rw [e1,hv,← hb2 k hk]
   exact .ptr hc
  ·rw [e];exact .undef _
 refine wpIn_seq (wpIn_region_list ?_)
 have htl:=htail h2 hi2
 rw [← hP2,← hN2] at htl
 rw [hP2] at htl
 have hgo:=fun Q' hQ'=>dF (C:=C2) (Q:=fun st'=>eh C.P fn.results.toList [] (.pv res) st') (Q':=Q') (hn:=hn) (ops:=ops) dK (n:=n) hQ' (fun _ ho=>gH hnd ho) hs2 (ax.refl hs2.1) rfl (by rw [hP2];exact htl)
 rw [hP2] at hgo
 refine hgo _ ?_
 intro st3 L3 a3 w3 hs3 _ hd3 hr3
 refine wpIn_ret ?_
 show LeavesInM Fence.wide n C.P fn a3.tmps (tw C res) a3.defers .returning w3
 rw [hd3]
 have hDlt : D < C2.w0.heap.size:=(Array.getElem?_eq_some_iff.1 hD2).1
 have hD3 : w3.heap[D]?=some (.deferred (some [])):=(hs3.1.ext.block D hDlt hnS2).trans hD2
 obtain ⟨hm4,hp4⟩:=hs3.1.turn hD2 hnS2 rfl (.deferred none)
 have hs4 : dp { C2 with w0:=C2.w0.putObj D (.deferred none) } L3 st3 a3 (w3.putObj D (.deferred none)):=⟨hm4,hs3.2.1,fun m=>(hs3.2.2 m).mono hp4 (KC.refl _ _)⟩
 obtain ⟨u,hu1,hu2⟩:=pK hs4 (fn:=fn) (res:=res) (by show eh C2.P _ _ _ _;rw [hP2];exact hr3)
 have hu1' : (results fn a3.tmps).run C.P (w3.putObj D (.deferred none))=.ok u (w3.putObj D (.deferred none)):=by rw [← hP2];exact hu1
 refine ⟨by simp,.inl ⟨D,_,rfl,run_takeDeferred hD3,ke (by rw [hd1];exact hqa) hu1' ⟨u,rfl,?_,?_⟩⟩⟩
 ·
  have e1 : Ext (fun _=>False) C.w0 w1:=nW hCS hs1.1.ext
  have e2 : Ext (fun _=>False) C.w0 C2.w0:=e1.trans hx2 (fun _ _ h=>h)
  have hle:=e1.size
  refine ⟨?_,?_,?_,?_,?_⟩
  ·show w3.os=_;rw [hs3.1.ext.os];exact e2.os
  ·show w3.tape=_;rw [hs3.1.ext.tape];exact e2.tape
  ·show w3.output=_;rw [hs3.1.ext.output];exact e2.output
  ·simp only [World.putObj_size];exact Nat.le_trans e2.size hs3.1.ext.size
  ·intro b hb _
   rw [World.putObj_heap_other (by omega)]
   rw [hs3.1.ext.block b (Nat.lt_of_lt_of_le hb e2.size) ?_]
   ·exact e2.block b hb (fun h=>h)
   ·intro hSb
    obtain ⟨k,hk,rfl⟩:=hS2 b hSb
    have:=hs1.1.own k _ (hks k hk)
    simp only [cT] at this
    omega
 ·refine hu2.mono (aE.sub ?_)
  intro b o h
  show C2.M0 b o
  rw [hM2];exact .inl h
end
theorem xp {P : Program} {f : FuncId} {fn : Func} {c : Code} (hf : P.funcs[f]?=some fn) (hb : fn.body=some c) (hcall : bP P f=true) {args : List PV} {res : PV} (hlen : args.length≤fn.ntmps)
 (h : ∀ C : Cx,C.P=P→C.N=fn.ntmps→(∀ b,¬ C.S b)→jG C fn res c (jD (args.map .pv) [])) : ab P f (args.map .pv) [] [] (.pv res):=by
 refine ⟨hcall,rfl,fun w M bs vs hM hbl hnd hbox hal harg=>?_⟩
 have hbs : bs=[]:=List.eq_nil_of_length_eq_zero hbl
 subst hbs
 let C : Cx:={ P:=P,N:=fn.ntmps,M0:=M,S:=fun _=>False,pb:=fun _=>none,w0:=w }
 have hnone : ∀ k,(jD (args.map .pv) []).h k=none:=by
  intro k
  simp only [jD,nU]
  split
  ·rfl
  ·simp
 have hal' : args.length=vs.length:=by simpa using hal
 have hs : dp C (fun _=>default) (jD (args.map .pv) []) { tmps:=vs.toArray++Array.replicate (fn.ntmps - vs.toArray.size) undef,defers:=[] } w:=by
  refine ⟨⟨Ext.refl _ _,hM,fun k blk hk=>(by rw [hnone] at hk;cases hk),fun k k' b1 b2 _ hk=>(by rw [hnone] at hk;cases hk),fun k blk hk=>(by rw [hnone] at hk;cases hk)⟩,?_,fun n=>?_⟩
  ·show (vs.toArray++Array.replicate (fn.ntmps - vs.toArray.size) undef).size=fn.ntmps
   simp;omega
  ·have hMst : ∀ b o,ah C (fun _=>default) (jD (args.map .pv) []).h b o→M b o:=by
    rintro b o (h|⟨k,blk,hk,_⟩)
    ·exact h
    ·rw [hnone] at hk;cases hk
   show RepA w _ _ _ (rg (args.map .pv) n) _
   simp only [rg]
   split
   ·rename_i p hp
    have hlt : n < vs.length:=by rw [← hal];exact (List.getElem?_eq_some_iff.1 hp).1
    have hv:=harg n (.pv p) vs[n] hp (List.getElem?_eq_getElem hlt)
    have hget : (vs.toArray++Array.replicate (fn.ntmps - vs.toArray.size) undef).getD n undef=vs[n]:=by
     rw [Array.getD_eq_getD_getElem?,Array.getElem?_append_left (by simpa using hlt)];simp [hlt]
    simp only [hget]
    have hv' : Rep w M p vs[n]:=hv
    exact .pv (hv'.mono (aE.sub hMst))
   ·rename_i j hp
    rw [List.getElem?_map] at hp
    cases hq : args[n]? with
    |none=>rw [hq] at hp;cases hp
    |some x=>rw [hq] at hp;cases hp
   ·exact .undef _
 refine (callsIn_wide (n:=0)).1 ((callsIn_of_wp_marks hf hb trivial (h C rfl rfl (fun _ h=>h) 0 _ _ w hs (fun d hd=>(by simp at hd))) rfl).mono ?_)
 rintro e w' ⟨v,rfl,hx,hr⟩
 exact ⟨v,rfl,⟨hx.os,hx.tape,hx.output,hx.size,fun b hb _=>hx.block b hb (fun h=>h)⟩,fun i b ps hb=>(by simp at hb),hr⟩
end Go.Ab
namespace Go.Ab
@[simp] theorem yj {F : Fence} {C : Cx} {y : Code} {Q : Exit→St→Prop} {st : St} : qG F C y Q .normal st=af F C y Q st:=rfl
@[simp] theorem zV {F : Fence} {C : Cx} {y : Code} {Q : Exit→St→Prop} {st : St} : qG F C y Q .ret st=Q .ret st:=rfl
@[simp] theorem zz {F : Fence} {C : Cx} {y : Code} {Q : Exit→St→Prop} {st : St} {i : Nat} : qG F C y Q (.exit i) st=Q (.exit i) st:=rfl
@[simp] theorem zp {C : Cx} {fn : Func} {res : PV} {y : Code} {st : St} : vB C fn res y .normal st=jG C fn res y st:=rfl
@[simp] theorem Aq {C : Cx} {fn : Func} {res : PV} {y : Code} {st : St} : vB C fn res y .ret st=eh C.P fn.results.toList [] (.pv res) st:=rfl
section
variable {F : Fence} {C : Cx} {x y : Code} {Q : Exit→St→Prop} {st : St} {c : Operand}
def kT (F : Fence) (C : Cx) (x y : Code) (Q : Exit→St→Prop) (st : St) : AV→Prop
 |.pv (.val (.bool b))=>(b=true→af F C x Q st)∧(b=false→af F C y Q st)
 |_=>False
@[simp] theorem zq : kT F C x y Q st (.pv (.val (.bool true)))=af F C x Q st:=by simp [kT]
@[simp] theorem yk : kT F C x y Q st (.pv (.val (.bool false)))=af F C y Q st:=by simp [kT]
theorem aw {b : Bool} (h1 : b=true→af F C x Q st) (h2 : b=false→af F C y Q st) : kT F C x y Q st (.pv (.val (.bool b))):=⟨h1,h2⟩
theorem af.cond' (h : kT F C x y Q st (st.ev c)) : af F C (.cond c x y) Q st:=by
 cases hv : st.ev c with
 |pv p=>cases p with
  |val v=>cases v with
   |bool b=>rw [hv] at h;exact af.cond hv h.1 h.2
   |_=>rw [hv] at h;exact h.elim
  |_=>rw [hv] at h;exact h.elim
 |_=>rw [hv] at h;exact h.elim
end
def ek (N : Nat) (M : Nat→Nat→Prop) (t : Nat→AV) (a : Act) (w : World) : Prop:=a.tmps.size=N∧∀ m,t m=.undef∨∃ p,t m=.pv p∧Rep w M p (a.tmps.getD m undef)
theorem ek.sim {P : Program} {N : Nat} {M : Nat→Nat→Prop} {t : Nat→AV} {a : Act} {w : World} (h : ek N M t a w) (hM : ∀ b o,M b o→b < w.heap.size) : dp { P:=P,N:=N,M0:=M,S:=fun _=>False,pb:=fun _=>none,w0:=w } (fun _=>default) ⟨t,fun _=>none⟩ a w:=by
 refine ⟨⟨Ext.refl _ _,hM,fun k blk hk=>(by cases hk),fun k k' b1 b2 _ hk=>(by cases hk),fun k blk hk=>(by cases hk)⟩,h.1,fun m=>?_⟩
 rcases h.2 m with e|⟨p,e,hr⟩
 ·show RepA w _ _ _ (t m) _
  rw [e];exact .undef _
 ·show RepA w _ _ _ (t m) _
  rw [e]
  refine .pv (hr.mono (aE.sub ?_))
  rintro b o (h|⟨k,blk,hk,_⟩)
  ·exact h
  ·cases hk
def bi (t : Nat→AV) : Nat→AV:=fun m=>match t m with
 |.pv p=>.pv p
 |_=>.undef
theorem jp {C : Cx} {L : Nat→Loc} {st : St} {a : Act} {w : World} (hs : dp C L st a w) : ek C.N C.M0 (bi st.t) a w:=by
 refine ⟨hs.2.1,fun m=>?_⟩
 have:=hs.2.2 m
 unfold bi
 generalize st.t m=v at this
 cases v with
 |pv p=>
  cases this with
  |pv hr=>exact .inr ⟨p,rfl,hr.mono (aE.sub fun b o h=>.inl h)⟩
 |_=>exact .inl rfl
theorem ek.sub {N : Nat} {M : Nat→Nat→Prop} {t t' : Nat→AV} {a : Act} {w : World} (h : ek N M t a w) (ht : ∀ m,t' m=.undef∨t' m=t m) : ek N M t' a w:=by
 refine ⟨h.1,fun m=>?_⟩
 rcases ht m with e|e
 ·exact .inl e
 ·rw [e];exact h.2 m
theorem ek.mono {N : Nat} {M M' : Nat→Nat→Prop} {t : Nat→AV} {a : Act} {w w' : World} (h : ek N M t a w) (hp : aE w M w' M') : ek N M' t a w':=
 ⟨h.1,fun m=>(h.2 m).imp id fun ⟨p,e,hr⟩=>⟨p,e,hr.mono hp⟩⟩
theorem ek.step {P : Program} {N n : Nat} {M : Nat→Nat→Prop} {t : Nat→AV} {a : Act} {w : World} {c : Code} {Q : Exit→St→Prop} (h : ek N M t a w) (hM : ∀ b o,M b o→b < w.heap.size)
 (hc : ∀ C : Cx,C.P=P→C.N=N→af Fence.wide C c Q ⟨t,fun _=>none⟩) : c.wpIn Fence.wide n P (fun e a' w'=>∃ st',Q e st'∧ek N M (bi st'.t) a' w'∧Ext (fun _=>False) w w'∧a'.defers=a.defers) a w:=
 wpIn_mono (hc { P:=P,N:=N,M0:=M,S:=fun _=>False,pb:=fun _=>none,w0:=w } rfl rfl n _ a w (h.sim hM)) fun _ _ _ ⟨st',_,hs',_,hd,hq⟩=>⟨st',hq,jp hs',hs'.1.ext,hd⟩
theorem ek.list {P : Program} {N n : Nat} {M : Nat→Nat→Prop} {t : Nat→AV} {a : Act} {w : World} {hn : List Nat} {ops : Array Oper} {l : List Oper} {Q : St→Prop} {Q' : Exit→Act→World→Prop} (h : ek N M t a w) (hM : ∀ b o,M b o→b < w.heap.size) (hnd : ∀ o ∈ l,∀ c,o.op≠.defer c)
 (hc : cJ P hn N ops Q l ⟨t,fun _=>none⟩) (hQ : ∀ st' a' w',Q st'→ek N M (bi st'.t) a' w'→Ext (fun _=>False) w w'→a'.defers=a.defers→Q' .normal a' w') : wpListIn Fence.wide n P ops Q' l a w:=
 dF (C:={ P:=P,N:=N,M0:=M,S:=fun _=>False,pb:=fun _=>none,w0:=w }) dK (fun st' L' a' w' hs' _ hd hq=>hQ st' a' w' hq (jp hs') hs'.1.ext hd) hnd (h.sim hM) (ax.refl (h.sim (P:=P) hM).1) rfl hc
end Go.Ab
namespace Go.Ab
def qB (P : Program) (gf : FuncId) (caps : List PV) (xs : List PV) : Prop:=
 bP P gf=true∧∀ (n l : Nat) (lb : List Value) (W : World) (M : Nat→Nat→Prop) (J Jx : Nat→(Nat→Nat→Prop)→World→Prop),
  (∀ i M W,J i M W→∀ b o,M b o→b < W.heap.size)→(∀ i M W W',J i M W→Ext (fun _=>False) W W'→J i M W')→
  (∀ i M W,Jx i M W→∀ b o,M b o→b < W.heap.size)→(∀ i M W W',Jx i M W→Ext (fun _=>False) W W'→Jx i M W')→
  (∀ m i x M W v1,xs[i]?=some x→J i M W→Rep W M x v1→YieldAt Fence.wide m P l #[v1] W fun e W'=>∃ (b : Bool) (M' : Nat→Nat→Prop),e=.returned (.bool b)∧(if b=true then J (i+1) M' W' else Jx i M' W')∧aE W M W' M')→
  J 0 M W→aX W M caps lb→CallsIn Fence.wide n P gf (#[.func (.yield l) #[] #[]]++lb.toArray) W fun e W'=>(∃ v,e=.returned v)∧((∃ M',J xs.length M' W')∨∃ i M',i < xs.length∧Jx i M' W')
def gj (t : Nat→AV) (p : Nat) (x : PV) : Nat→AV:=aq t p (.pv x)
theorem MemL.kill {C : Cx} {L : Nat→Loc} {st : St} {w : World} (ks : List Nat) (hm : MemL C L st.h w) : MemL C L (st.kill ks).h w∧∀ b o,ah C L (st.kill ks).h b o→ah C L st.h b o:=by
 have hkey : ∀ k blk',(st.kill ks).h k=some blk'→∃ blk,st.h k=some blk∧eW ks blk=blk'∧blk'.live (L k)=blk.live (L k)∧∀ o,blk'.frz o=blk.frz o:=by
  intro k blk' hk
  simp only [St.kill] at hk
  split at hk
  ·cases hk
  ·simp only [Option.map_eq_some_iff] at hk
   obtain ⟨blk,h1,rfl⟩:=hk
   exact ⟨blk,h1,rfl,by cases blk<;>rfl,fun o=>by cases blk<;>rfl⟩
 have hM : ∀ b o,ah C L (st.kill ks).h b o→ah C L st.h b o:=by
  rintro b o (h0|⟨k,blk',hk,hl,hb,hf⟩)
  ·exact .inl h0
  ·obtain ⟨blk,h1,_,h2,h3⟩:=hkey k blk' hk
   exact .inr ⟨k,blk,h1,h2 ▸ hl,hb,h3 o ▸ hf⟩
 have hp : aE w (ah C L st.h) w (ah C L (st.kill ks).h):=aE.sub hM
 refine ⟨⟨hm.ext,hm.m0,?_,?_,?_⟩,hM⟩
 ·intro k blk' hk
  obtain ⟨blk,h1,rfl,_,_⟩:=hkey k blk' hk
  have:=hm.bl k blk h1
  cases blk with
  |box cs own fz=>
   obtain ⟨arr,ty,e1,e2⟩:=this
   refine ⟨arr,ty,e1,by simpa using e2.1,fun i p u hp' hu=>?_⟩
   simp only [List.getElem?_map,Option.map_eq_some_iff] at hp'
   obtain ⟨q,hq,rfl⟩:=hp'
   exact mm hp (e2.2 i q u hq hu)
  |row e sz xs fz=>
   obtain ⟨a1,a2,a3,a4,a5⟩:=this
   refine ⟨a1,a2,a3,a4,fun hn=>?_⟩
   obtain ⟨b1,b2,arr,b3,b4,b5⟩:=a5 hn
   exact ⟨b1,b2,arr,b3,b4,fun i x j p hx hj=>by obtain ⟨u,hu,hr⟩:=b5 i x j p hx hj;exact ⟨u,hu,hr.mono hp⟩⟩
 ·intro k k' b1 b2 hne hk hk' hl hl'
  obtain ⟨c1,d1,_,e1,_⟩:=hkey k b1 hk
  obtain ⟨c2,d2,_,e2,_⟩:=hkey k' b2 hk'
  exact hm.sep k k' c1 c2 hne d1 d2 (e1 ▸ hl) (e2 ▸ hl')
 ·intro k blk' hk
  obtain ⟨blk,h1,rfl,_,_⟩:=hkey k blk' hk
  have:=hm.own k blk h1
  cases blk with
  |box cs own fz=>cases own<;>exact this
  |row=>exact this
def ud (kd : List Nat) (I : Nat→Hp→Prop) (Ix : Nat→Hp→Prop) (i : Nat) : Exit→St→Prop
 |.normal,st=>I (i+1) (st.kill kd).h
 |.ret,st=>Ix i st.h
 |_,_=>False
theorem ue {kd : List Nat} {P : Program} {N : Nat} {gop : Operand} {p : Nat} {assign body : Code} {a : Act} {w : World} {n : Nat} {gf : FuncId} {lb : List Value} (hg : a.eval gop=.func (.func gf) #[] lb.toArray)
 {caps : List PV} {xs : List PV} (hit : qB P gf caps xs) {M : Nat→Nat→Prop} (hM : ∀ b o,M b o→b < w.heap.size) (hcap : aX w M caps lb)
 {ks : List Nat} {bs : Nat→Nat} {hin : Nat→List PV} (hbs : ∀ k ∈ ks,(∀ o,M (bs k) o)∧eN w M (bs k) (hin k)) (hinj : ∀ k ∈ ks,∀ k' ∈ ks,k≠k'→bs k≠bs k')
 (hN : a.tmps.size=N) (hp : p < N) {t : Nat→AV} (ht : ∀ m,(∃ k ∈ ks,t m=.ptr k 0∧a.tmps.getD m undef=.pointer (some ⟨bs k,0,none⟩))∨(∃ q,t m=.pv q∧Rep w M q (a.tmps.getD m undef))∨t m=.undef)
 (I Ix : Nat→Hp→Prop) (h0 : I 0 (eY ks hin)) (hI : ∀ i h k,k ∈ ks→I i h→∃ cs,h k=some (.box cs false false)) (hIx : ∀ i h k,k ∈ ks→Ix i h→∃ cs,h k=some (.box cs false false))
 (hround : ∀ (C C' : Cx) (l i : Nat) (x : PV) (h : Hp),C.P=P→C.N=N→C'.P=P→C'.N=N→xs[i]?=some x→I i h→
   af (Fence.wide.inRound l) C assign (fun e st'=>e=.normal∧af (Fence.wide.inRound l) C' body (ud kd I Ix i) st') ⟨gj t p x,h⟩) :
 (Code.rangeFunc gop #[p] assign body).wpIn Fence.wide n P (fun e a' w'=>∃ (C : Cx) (L : Nat→Loc) (h : Hp) (D : Nat),((e=.normal∧I xs.length h)∨(e=.ret∧∃ i,i < xs.length∧Ix i h))∧C.P=P∧C.N=N∧C.M0=M∧(∀ b,C.S b→∃ k ∈ ks,b=bs k)∧
   MemL C L h w'∧(∀ k ∈ ks,(L k).b=bs k)∧(∀ q v,Rep w M q v→Rep w' (ah C L h) q v)∧Ext (fun _=>False) w C.w0∧C.w0.heap[D]?=some (.deferred (some []))∧¬ C.S D∧w.heap.size≤D∧a'={ a with defers:={ target:=.collected D,args:=#[] } :: a.defers }) a w:=by
 refine wpIn_rangeFunc ?_
 intro fn _
 obtain ⟨rec,hrec⟩ : ∃ rec : LoopState→Option Code→Loop,rec=fun st pe=>{ state:=st,pending:=pe,fn,tmps:=a.tmps,params:=#[p],assign,body,defers:=w.heap.size }:=⟨_,rfl⟩
 obtain ⟨W1,hW1⟩ : ∃ W1,(w.alloc (.deferred (some []))).alloc (.loop (rec .ready none))=W1:=⟨_,rfl⟩
 have hx1 : Ext (fun _=>False) w W1:=by rw [← hW1];exact (Ext.alloc _ _ _).trans (Ext.alloc _ _ _) (fun _ _ h=>h)
 have hs1 : W1.heap.size=w.heap.size+2:=by rw [← hW1];simp
 have hL1 : W1.heap[w.heap.size+1]?=some (.loop (rec .ready none)):=by
  rw [← hW1];have:=World.alloc_heap_new (w.alloc (.deferred (some []))) (.loop (rec .ready none));rwa [World.size_alloc] at this
 have hD1 : W1.heap[w.heap.size]?=some (.deferred (some [])):=by
  rw [← hW1];exact (RowKit.Below.heap_alloc _ _ _ (by simp)).trans (World.alloc_heap_new w _)
 obtain ⟨l,hl⟩ : ∃ l,l=w.heap.size+1:=⟨_,rfl⟩
 rw [← hl] at hL1
 obtain ⟨cx,hcx⟩ : ∃ cx : Obj→Cx,cx=fun o=>{ P:=P,N:=N,M0:=M,S:=fun b=>∃ k ∈ ks,b=bs k,pb:=fun k=>if ks.contains k=true then some (bs k) else none,w0:=W1.putObj l o }:=⟨_,rfl⟩
 have hS : ∀ o b,(cx o).S b→b < w.heap.size:=by
  intro o b hb
  rw [hcx] at hb
  obtain ⟨k,hk,rfl⟩:=hb
  exact gy (hbs k hk).2
 have hw0 : ∀ o,(cx o).w0=W1.putObj l o:=fun o=>by rw [hcx]
 have hMst : ∀ o o' L h,ah (cx o) L h=ah (cx o') L h:=fun o o' L h=>by rw [hcx];rfl
 have hat : ∀ (o : Obj),(cx o).w0.heap[l]?=some o:=fun o=>by rw [hw0];exact World.putObj_heap_same (Array.getElem?_eq_some_iff.1 hL1).1
 have hnS : ∀ o,¬ (cx o).S l:=fun o h=>by have:=hS o l h;omega
 have hturn : ∀ {o o' : Obj} {L : Nat→Loc} {h : Hp} {W : World},o.isCells=false→MemL (cx o) L h W→W.heap[l]?=some o∧MemL (cx o') L h (W.putObj l o')∧aE W (ah (cx o) L h) (W.putObj l o') (ah (cx o') L h):=by
  intro o o' L h W ho hm
  have hlt : l < (cx o).w0.heap.size:=(Array.getElem?_eq_some_iff.1 (hat o)).1
  obtain ⟨h1,h2⟩:=hm.turn (hat o) (hnS o) ho o'
  refine ⟨(hm.ext.block l hlt (hnS o)).trans (hat o),?_,?_⟩
  ·have e : ({ cx o with w0:=(cx o).w0.putObj l o' } : Cx)=cx o':=by rw [hcx];simp only [lY]
   rw [e] at h1;exact h1
  ·rw [hMst o' o];exact h2
 have hready : W1.putObj l (.loop (rec .ready none))=W1:=nC hL1
 have hown : ∀ {K : Nat→Hp→Prop} {o : Obj} {L : Nat→Loc} {h : Hp} {W : World} {i k : Nat},(∀ i h k,k ∈ ks→K i h→∃ cs,h k=some (.box cs false false))→k ∈ ks→K i h→MemL (cx o) L h W→(L k).b=bs k:=by
  intro K o L h W i k hK hk hi hm
  obtain ⟨cs,hc⟩:=hK i h k hk hi
  have:=(hm.own k _ hc).2.1
  rw [hcx] at this
  have hc' : ks.contains k=true:=by simpa using hk
  simp only [hc',if_true,Option.some.injEq] at this
  exact this.symm
 let L0 : Nat→Loc:=fun k=>⟨bs k,0,false⟩
 have hkey : ∀ k blk,eY ks hin k=some blk→k ∈ ks∧blk=.box ((hin k).map .pv) false false:=by
  intro k blk hk
  unfold eY at hk
  split at hk
  ·rename_i hc;injection hk with hk;exact ⟨by simpa using hc,hk.symm⟩
  ·cases hk
 have hM1 : ∀ o b o',ah (cx o) L0 (eY ks hin) b o'→M b o':=by
  rintro o b o' (hb|⟨k,blk,hk,_,hb,_⟩)
  ·rw [hcx] at hb;exact hb
  ·obtain ⟨hks,_⟩:=hkey k blk hk
   rw [← hb];exact (hbs k hks).1 o'
 have hpres1 : aE w M W1 (ah (cx (.loop (rec .ready none))) L0 (eY ks hin)):=fun b o v hv hn=>⟨(hx1.cell (eQ hv) (fun h=>h)).trans hv,fun h=>hn (hM1 _ b o h)⟩
 have hm0 : MemL (cx (.loop (rec .ready none))) L0 (eY ks hin) W1:=by
  refine ⟨by rw [hw0,hready];exact Ext.refl _ _,?_,?_,?_,?_⟩
  ·intro b o hb
   rw [hw0,hready]
   rw [hcx] at hb
   have:=hM b o hb
   omega
  ·intro k blk hk
   obtain ⟨hks,rfl⟩:=hkey k blk hk
   obtain ⟨arr,ty,e1,e2⟩:=(hbs k hks).2
   exact ⟨arr,ty,(hx1.block _ (gy (hbs k hks).2) (fun h=>h)).trans e1,au.map_pv (e2.mono hpres1)⟩
  ·intro k k' b1 b2 hne hk hk' _ _
   exact hinj k (hkey k b1 hk).1 k' (hkey k' b2 hk').1 hne
  ·intro k blk hk
   obtain ⟨hks,rfl⟩:=hkey k blk hk
   have hc' : ks.contains k=true:=by simpa using hks
   refine ⟨rfl,?_,?_,?_,?_⟩
   ·rw [hcx];simp only [hc',if_true];rfl
   ·rw [hcx];exact ⟨k,hks,rfl⟩
   ·rw [hw0,hready];have:=gy (hbs k hks).2;show bs k < _;omega
   ·intro o;rw [hcx];exact (hbs k hks).1 o
 let Jt : (Nat→Hp→Prop)→Obj→Nat→(Nat→Nat→Prop)→World→Prop:=fun K o i M' W=>∃ L h,K i h∧MemL (cx o) L h W∧M'=ah (cx o) L h∧(∀ q v,Rep w M q v→Rep W M' q v)
 refine ⟨l,[{ target:=.collected w.heap.size,args:=#[] }],W1,{ target:=.fn (.func gf) lb.toArray,args:=#[.func (.yield l) #[] #[]] },W1,gf,#[.func (.yield l) #[] #[]]++lb.toArray,W1,?_,?_,fun _ _=>trivial,j9 hit.1 _ _ _,fun h=>(by cases h),?_⟩
 ·rw [← hW1,hrec,hl];exact run_enterLoop_outer _ _ _ _ _
 ·simp only [resolve,hg]
  simp [go_sem]
 ·have hbd : ∀ K o i M' W,Jt K o i M' W→∀ b o',M' b o'→b < W.heap.size:=by
   rintro K o i M' W ⟨L,h,_,hm,rfl,_⟩ b o' hb
   exact hm.mlt hb
  have hgr : ∀ K o i M' W W',Jt K o i M' W→Ext (fun _=>False) W W'→Jt K o i M' W':=by
   rintro K o i M' W W' ⟨L,h,hi,hm,rfl,hq⟩ hx
   exact ⟨L,h,hi,(hm.grow hx).1,rfl,fun q v hr=>(hq q v hr).mono (hm.grow hx).2⟩
  refine (hit.2 (n - 1) l lb W1 _ (Jt I (.loop (rec .ready none))) (Jt Ix (.loop (rec .done (some .ret)))) (hbd _ _) (hgr _ _) (hbd _ _) (hgr _ _) ?_ ⟨L0,_,h0,hm0,rfl,fun q v hr=>hr.mono hpres1⟩ (hcap.mono hpres1)).mono ?_
  ·
   rintro m i x M' W v1 hxi ⟨L,h,hi,hm,rfl,hq⟩ hr1
   obtain ⟨hlW,_,_⟩:=hturn (o':=.loop (rec .ready none)) rfl hm
   have hy:=run_yield (P:=P) (args:=#[v1]) hlW (by rw [hrec];rfl)
   rw [hrec] at hy
   refine ⟨fn,a.tmps.setIfInBounds p v1,assign,body,by simpa using hy,roundIn_of_wpIn trivial ?_⟩
   have hsim : dp (cx (.loop (rec .ready none))) L ⟨gj t p x,h⟩ { tmps:=a.tmps.setIfInBounds p v1,defers:=[] } W:=by
    refine ⟨hm,by rw [hcx];simpa using hN,fun k=>?_⟩
    have hp' : p < a.tmps.size:=by rw [hN];exact hp
    simp only [nV hp',gj,aq]
    split
    ·exact .pv hr1
    ·rcases ht k with ⟨k',hk',e1,e2⟩|⟨q,e1,e2⟩|e1
     ·obtain ⟨cs,hc⟩:=hI i h k' hk' hi
      rw [e1,e2,← hown hI hk' hi hm]
      exact .ptr hc
     ·rw [e1];exact .pv (hq q _ e2)
     ·rw [e1];exact .undef _
   have hP1 : (cx (.loop (rec .ready none))).P=P:=by rw [hcx]
   have hP2 : (cx (.loop (rec .busy none))).P=P:=by rw [hcx]
   have hR:=hround (cx (.loop (rec .ready none))) (cx (.loop (rec .busy none))) l i x h hP1 (by rw [hcx]) hP2 (by rw [hcx]) hxi hi m L _ W hsim
   rw [hP1] at hR
   refine wpIn_mono hR ?_
   rintro e a1 w1 ⟨st1,L1,hs1',hA1,_,rfl,hbody⟩
   obtain ⟨hl1,hmb,hpb⟩:=hturn (o':=.loop (rec .busy none)) rfl hs1'.1
   refine ⟨w1.putObj l (.loop (rec .busy none)),?_,?_⟩
   ·have:=run_beginRound (P:=P) hl1 (by rw [hrec])
    rw [hrec] at this ⊢;exact this
   have hsb : dp (cx (.loop (rec .busy none))) L1 st1 a1 (w1.putObj l (.loop (rec .busy none))):=⟨hmb,by have:=hs1'.2.1;rw [hcx] at this ⊢;exact this,fun k=>(hs1'.2.2 k).mono hpb (KC.refl _ _)⟩
   have hB:=hbody m L1 a1 _ hsb
   rw [hP2] at hB
   refine wpIn_mono hB ?_
   rintro e2 a2 w2 ⟨st2,L2,hs2,hA2,_,hq2⟩
   cases e2 with
   |normal=>
    obtain ⟨hl2,hmr,hpr⟩:=hturn (o':=.loop (rec .ready none)) rfl hs2.1
    have e : (Obj.loop { rec .busy none with state:=if (none : Option Code).isNone=true then .ready else .done,pending:=none })=.loop (rec .ready none):=by rw [hrec];rfl
    have hpres : aE W (ah (cx (.loop (rec .ready none))) L h) (w2.putObj l (.loop (rec .ready none))) (ah (cx (.loop (rec .ready none))) L2 st2.h):=((hA1.2.1.trans hpb).trans hA2.2.1).trans hpr
    obtain ⟨hmk,hMk⟩:=hmr.kill kd
    have hpres:=hpres.trans (aE.sub hMk)
    refine ⟨_,_,run_endRound none hl2,true,ah (cx (.loop (rec .ready none))) L2 (st2.kill kd).h,rfl,?_,?_⟩
    ·rw [if_pos rfl,e]
     exact ⟨L2,(st2.kill kd).h,hq2,hmk,rfl,fun q v hr=>(hq q v hr).mono hpres⟩
    ·rw [e];exact hpres
   |ret=>
    obtain ⟨hl2,hmr,hpr⟩:=hturn (o':=.loop (rec .done (some .ret))) rfl hs2.1
    have e : (Obj.loop { rec .busy none with state:=if (some Code.ret).isNone=true then .ready else .done,pending:=some .ret })=.loop (rec .done (some .ret)):=by rw [hrec];rfl
    have hpres : aE W (ah (cx (.loop (rec .ready none))) L h) (w2.putObj l (.loop (rec .done (some .ret)))) (ah (cx (.loop (rec .done (some .ret)))) L2 st2.h):=((hA1.2.1.trans hpb).trans hA2.2.1).trans hpr
    refine ⟨_,_,run_endRound (some .ret) hl2,false,ah (cx (.loop (rec .done (some .ret)))) L2 st2.h,rfl,?_,?_⟩
    ·rw [if_neg (by simp),e]
     exact ⟨L2,st2.h,hq2,hmr,rfl,fun q v hr=>(hq q v hr).mono hpres⟩
    ·rw [e];exact hpres
   |exit=>exact hq2.elim
   |goto=>exact hq2.elim
   |panic=>exact hq2.elim
   |outgrown=>exact hq2.elim
  ·
   have hend : ∀ (K : Nat→Hp→Prop) (o : Obj) (st : LoopState) (pe : Option Code) (i : Nat) (M' : Nat→Nat→Prop) (W2 : World),o=.loop (rec st pe)→(∀ i h k,k ∈ ks→K i h→∃ cs,h k=some (.box cs false false))→Jt K o i M' W2→
    W2.heap[l]?=some o∧∃ (C : Cx) (L : Nat→Loc) (h : Hp) (D : Nat),K i h∧C.P=P∧C.N=N∧C.M0=M∧(∀ b,C.S b→∃ k ∈ ks,b=bs k)∧
     MemL C L h (W2.putObj l (.loop (rec .exhausted pe)))∧(∀ k ∈ ks,(L k).b=bs k)∧(∀ q v,Rep w M q v→Rep (W2.putObj l (.loop (rec .exhausted pe))) (ah C L h) q v)∧Ext (fun _=>False) w C.w0∧C.w0.heap[D]?=some (.deferred (some []))∧¬ C.S D∧w.heap.size≤D∧D=w.heap.size:=by
    rintro K o st pe i M' W2 rfl hK ⟨L,h,hi,hm,rfl,hq⟩
    obtain ⟨hl2,hme,hpe⟩:=hturn (o':=.loop (rec .exhausted pe)) rfl hm
    refine ⟨hl2,cx (.loop (rec .exhausted pe)),L,h,w.heap.size,hi,by rw [hcx],by rw [hcx],by rw [hcx],?_,hme,fun k hk=>hown hK hk hi hm,fun q v hr=>(hq q v hr).mono hpe,?_,?_,?_,Nat.le_refl _,rfl⟩
    ·intro b hb
     rw [hcx] at hb;exact hb
    ·rw [hw0]
     refine ⟨hx1.os,hx1.tape,hx1.output,by simp;omega,fun b hb _=>?_⟩
     rw [World.putObj_heap_other (by omega)]
     exact hx1.block b hb (fun h=>h)
    ·rw [hw0,World.putObj_heap_other (by omega)];exact hD1
    ·intro hb
     have:=hS _ _ hb
     omega
   rintro e W2 ⟨⟨v,rfl⟩,⟨M',hj⟩|⟨i,M',hi,hj⟩⟩
   ·obtain ⟨hl2,C,L,h,D,a1,a2,a3,a4,a5,a6,a7,a7',a8,a9,a10,a11,rfl⟩:=hend I _ _ _ _ _ _ rfl hI hj
    refine ⟨none,W2.putObj l (.loop (rec .exhausted none)),?_,C,L,h,_,.inl ⟨rfl,a1⟩,a2,a3,a4,a5,a6,a7,a7',a8,a9,a10,a11,rfl⟩
    have:=run_endLoop (P:=P) hl2 (by rw [hrec];simp)
    rw [hrec] at this ⊢;exact this
   ·obtain ⟨hl2,C,L,h,D,a1,a2,a3,a4,a5,a6,a7,a7',a8,a9,a10,a11,rfl⟩:=hend Ix _ _ _ _ _ _ rfl hIx hj
    refine ⟨some .ret,W2.putObj l (.loop (rec .exhausted (some .ret))),?_,wpIn_ret ⟨C,L,h,_,.inr ⟨rfl,i,hi,a1⟩,a2,a3,a4,a5,a6,a7,a7',a8,a9,a10,a11,rfl⟩⟩
    have:=run_endLoop (P:=P) hl2 (by rw [hrec];simp)
    rw [hrec] at this ⊢;exact this
theorem np {C C2 : Cx} {fn : Func} {res : PV} {st1 st3 : St} {a1 a3 : Act} {w1 w3 : World} {L1 L3 : Nat→Loc} {n D : Nat} {ks : List Nat} {bs : Nat→Nat} {hin : Nat→List PV} (hCS : ∀ b,¬ C.S b) (hs1 : dp C L1 st1 a1 w1) (hks : ∀ k ∈ ks,st1.h k=some (.box ((hin k).map .pv) true false)) (hbs : ∀ k ∈ ks,bs k=(L1 k).b)
 (hqa : oS C.P a1.defers) (hP2 : C2.P=C.P) (hM2 : C2.M0=ah C L1 st1.h) (hS2 : ∀ b,C2.S b→∃ k ∈ ks,b=bs k) (hx2 : Ext (fun _=>False) w1 C2.w0) (hD2 : C2.w0.heap[D]?=some (.deferred (some []))) (hnS2 : ¬ C2.S D) (hDge : w1.heap.size≤D)
 (hs3 : dp C2 L3 st3 a3 w3) (hd3 : a3.defers={ target:=.collected D,args:=#[] } :: a1.defers) (hr3 : eh C.P fn.results.toList [] (.pv res) st3) : LeavesInM Fence.wide n C.P fn a3.tmps (tw C res) a3.defers .returning w3:=by
 rw [hd3]
 have hDlt : D < C2.w0.heap.size:=(Array.getElem?_eq_some_iff.1 hD2).1
 have hD3 : w3.heap[D]?=some (.deferred (some [])):=(hs3.1.ext.block D hDlt hnS2).trans hD2
 obtain ⟨hm4,hp4⟩:=hs3.1.turn hD2 hnS2 rfl (.deferred none)
 have hs4 : dp { C2 with w0:=C2.w0.putObj D (.deferred none) } L3 st3 a3 (w3.putObj D (.deferred none)):=⟨hm4,hs3.2.1,fun m=>(hs3.2.2 m).mono hp4 (KC.refl _ _)⟩
 obtain ⟨u,hu1,hu2⟩:=pK hs4 (fn:=fn) (res:=res) (by show eh C2.P _ _ _ _;rw [hP2];exact hr3)
 have hu1' : (results fn a3.tmps).run C.P (w3.putObj D (.deferred none))=.ok u (w3.putObj D (.deferred none)):=by rw [← hP2];exact hu1
 refine ⟨by simp,.inl ⟨D,_,rfl,run_takeDeferred hD3,ke hqa hu1' ⟨u,rfl,?_,?_⟩⟩⟩
 ·have e1 : Ext (fun _=>False) C.w0 w1:=nW hCS hs1.1.ext
  have e2 : Ext (fun _=>False) C.w0 C2.w0:=e1.trans hx2 (fun _ _ h=>h)
  have hle:=e1.size
  refine ⟨?_,?_,?_,?_,?_⟩
  ·show w3.os=_;rw [hs3.1.ext.os];exact e2.os
  ·show w3.tape=_;rw [hs3.1.ext.tape];exact e2.tape
  ·show w3.output=_;rw [hs3.1.ext.output];exact e2.output
  ·simp only [World.putObj_size];exact Nat.le_trans e2.size hs3.1.ext.size
  ·intro b hb _
   rw [World.putObj_heap_other (by omega)]
   rw [hs3.1.ext.block b (Nat.lt_of_lt_of_le hb e2.size) ?_]
   ·exact e2.block b hb (fun h=>h)
   ·intro hSb
    obtain ⟨k,hk,rfl⟩:=hS2 b hSb
    rw [hbs k hk] at hb
    have:=hs1.1.own k _ (hks k hk)
    simp only [cT] at this
    omega
 ·refine hu2.mono (aE.sub ?_)
  intro b o h
  show C2.M0 b o
  rw [hM2];exact .inl h
theorem jG.rangeS {kd : List Nat} {C : Cx} {fn : Func} {res : PV} {st : St} (hCS : ∀ b,¬ C.S b) {x assign body : Code} {gop : Operand} {p b0 id : Nat} {ops : Array Oper} {gf : FuncId} {caps : List PV} {xs : List PV} (hit : qB C.P gf caps xs) (hp : p < C.N)
 {ks : List Nat} {hin : Nat→List PV} {t : Nat→AV}
 (hx : af Fence.wide C x (fun e st'=>e=.normal∧st'.ev gop=.pv (.fn (.func gf) [] caps)∧(∀ k ∈ ks,st'.h k=some (.box ((hin k).map .pv) true false))∧∀ m,(∃ k ∈ ks,t m=.ptr k 0∧st'.t m=.ptr k 0)∨(∃ q,t m=.pv q∧st'.t m=.pv q)∨t m=.undef) st)
 (I Ix : Nat→Hp→Prop) (h0 : I 0 (eY ks hin)) (hI : ∀ i h k,k ∈ ks→I i h→∃ cs,h k=some (.box cs false false)) (hIx : ∀ i h k,k ∈ ks→Ix i h→∃ cs,h k=some (.box cs false false))
 (hround : ∀ (C1 C2 : Cx) (l i : Nat) (x : PV) (h : Hp),C1.P=C.P→C1.N=C.N→C2.P=C.P→C2.N=C.N→xs[i]?=some x→I i h→
   af (Fence.wide.inRound l) C1 assign (fun e st'=>e=.normal∧af (Fence.wide.inRound l) C2 body (ud kd I Ix i) st') ⟨gj t p x,h⟩)
 (hnd : jo ops=true) {hn : List Nat} (htail : ∀ h,I xs.length h→cJ C.P hn C.N ops (fun st'=>eh C.P fn.results.toList [] (.pv res) st') ops.toList ⟨t,h⟩)
 (hstop : ∀ i h,i < xs.length→Ix i h→eh C.P fn.results.toList [] (.pv res) ⟨t,h⟩) :
 jG C fn res (.seq (.seq x (.block b0 (.rangeFunc gop #[p] assign body))) (.seq (.region id ops false) .ret)) st:=by
 intro n L a w hs hqa
 refine wpIn_seq (wpIn_seq (wpIn_mono (hx n L a w hs) ?_))
 rintro e a1 w1 ⟨st1,L1,hs1,hA1,hd1,rfl,hg,hks,htt⟩
 have hgr:=cy hs1.2.2 gop
 rw [hg] at hgr
 obtain ⟨us,hus,hcap⟩ : ∃ us : List Value,a1.eval gop=.func (.func gf) #[] us.toArray∧aX w1 (ah C L1 st1.h) caps us:=by
  generalize a1.eval gop=u at hgr
  cases hgr with
  |pv hr=>
   cases hr with
   |fn _ _ _ vs us hl hk h1 h2=>
    have : vs=[]:=List.eq_nil_of_length_eq_zero hl.symm
    subst this
    exact ⟨us,rfl,hk,h2⟩
 have hbx : ∀ k ∈ ks,(∀ o,ah C L1 st1.h (L1 k).b o)∧eN w1 (ah C L1 st1.h) (L1 k).b (hin k):=by
  intro k hk
  obtain ⟨arr,ty,e1,e2⟩:=hs1.1.bl k _ (hks k hk)
  exact ⟨fun o=>.inr ⟨k,_,hks k hk,trivial,rfl,by simp [Blk.frz]⟩,arr,ty,e1,e2.map_pv_inv⟩
 have hqa1 : oS C.P a1.defers:=by rw [hd1];exact hqa
 refine wpIn_block (wpIn_mono (ue (N:=C.N) hus hit (fun b o h=>hs1.1.mlt h) hcap hbx (fun k hk k' hk' hne=>hs1.1.sep k k' _ _ hne (hks k hk) (hks k' hk') trivial trivial) hs1.2.1 hp (t:=t) ?_ I Ix h0 hI hIx hround) ?_)
 ·intro m
  rcases htt m with ⟨k,hk,e1,e2⟩|⟨q,e1,e2⟩|e
  ·have hr:=hs1.2.2 m
   rw [e2] at hr
   generalize hv : a1.tmps.getD m undef=v at hr
   cases hr with
   |ptr _=>exact .inl ⟨k,hk,e1,rfl⟩
  ·have hr:=hs1.2.2 m
   rw [e2] at hr
   cases hr with
   |pv hr=>exact .inr (.inl ⟨q,e1,hr⟩)
  ·exact .inr (.inr e)
 rintro e a2 w2 ⟨C2,L2,h2,D,hend,hP2,hN2,hM2,hS2,hm2,hb2,hq2,hx2,hD2,hnS2,hDge,rfl⟩
 have hbox : ∀ k ∈ ks,∃ cs,h2 k=some (.box cs false false):=by
  intro k hk
  rcases hend with ⟨_,hi⟩|⟨_,i,_,hi⟩
  ·exact hI _ h2 k hk hi
  ·exact hIx _ h2 k hk hi
 have hs2 : dp C2 L2 ⟨t,h2⟩ { a1 with defers:={ target:=.collected D,args:=#[] } :: a1.defers } w2:=by
  refine ⟨hm2,by rw [hN2];exact hs1.2.1,fun m=>?_⟩
  show RepA w2 (ah C2 L2 h2) L2 h2 (t m) (a1.tmps.getD m undef)
  rcases htt m with ⟨k,hk,e1,e2⟩|⟨q,e1,e2⟩|e
  ·have hr:=hs1.2.2 m
   rw [e2] at hr
   obtain ⟨cs,hc⟩:=hbox k hk
   have hv : a1.tmps.getD m undef=.pointer (some ⟨(L1 k).b,0,none⟩):=by
    generalize a1.tmps.getD m undef=v at hr
    cases hr with
    |ptr _=>rfl
   rw [e1,hv,← hb2 k hk]
   exact .ptr hc
  ·have hr:=hs1.2.2 m
   rw [e2] at hr
   rw [e1]
   cases hr with
   |pv hr=>exact .pv (hq2 q _ hr)
  ·rw [e];exact .undef _
 rcases hend with ⟨rfl,hi2⟩|⟨rfl,i,hilt,hi2⟩
 ·show Code.wpIn Fence.wide n C.P _ _ _ w2
  refine wpIn_seq (wpIn_region_list ?_)
  have htl:=htail h2 hi2
  rw [← hP2,← hN2] at htl
  rw [hP2] at htl
  have hgo:=fun Q' hQ'=>dF (C:=C2) (Q:=fun st'=>eh C.P fn.results.toList [] (.pv res) st') (Q':=Q') (hn:=hn) (ops:=ops) dK (n:=n) hQ' (fun _ ho=>gH hnd ho) hs2 (ax.refl hs2.1) rfl (by rw [hP2];exact htl)
  rw [hP2] at hgo
  refine hgo _ ?_
  intro st3 L3 a3 w3 hs3 _ hd3 hr3
  refine wpIn_ret ?_
  exact np hCS hs1 hks (fun _ _=>rfl) hqa1 hP2 hM2 hS2 hx2 hD2 hnS2 hDge hs3 hd3 hr3
 ·show LeavesInM Fence.wide n C.P fn a1.tmps (tw C res) ({ target:=.collected D,args:=#[] } :: a1.defers) .returning w2
  exact np (a3:={ a1 with defers:={ target:=.collected D,args:=#[] } :: a1.defers }) hCS hs1 hks (fun _ _=>rfl) hqa1 hP2 hM2 hS2 hx2 hD2 hnS2 hDge hs2 rfl (hstop i h2 hilt hi2)
end Go.Ab
namespace Go.Ab
structure YEnv (P : Program) where
 N : Nat
 l : Nat
 xs : List PV
 J : Bool→Nat→(Nat→Nat→Prop)→World→Prop
 bd : ∀ s i M W,J s i M W→∀ b o,M b o→b < W.heap.size
 gr : ∀ s i M W W',J s i M W→Ext (fun _=>False) W W'→J s i M W'
 yl : ∀ m i x M W v1,xs[i]?=some x→J false i M W→Rep W M x v1→YieldAt Fence.wide m P l #[v1] W fun e W'=>∃ (b : Bool) (M' : Nat→Nat→Prop),e=.returned (.bool b)∧J (!b) (if b=true then i+1 else i) M' W'∧aE W M W' M'
abbrev QY:=Exit→(Nat→AV)→Nat→Bool→Prop
def wF {P : Program} (E : YEnv P) (Q : QY) : Exit→Act→World→Prop:=fun e a' w'=>∃ t' i' s' M',E.J s' i' M' w'∧ek E.N M' t' a' w'∧a'.defers=[]∧Q e t' i' s'
def aK {P : Program} (E : YEnv P) (c : Code) (Q : QY) (t : Nat→AV) (i : Nat) (s : Bool) : Prop:=
 ∀ n a w M,E.J s i M w→ek E.N M t a w→a.defers=[]→c.wpIn Fence.wide n P (wF E Q) a w
section
variable {P : Program} {E : YEnv P} {Q : QY} {t : Nat→AV} {i : Nat} {s : Bool}
theorem aK.walk {c : Code} (h : ∀ C : Cx,C.P=P→C.N=E.N→af Fence.wide C c (fun e st'=>Q e (bi st'.t) i s) ⟨t,fun _=>none⟩) : aK E c Q t i s:=by
 intro n a w M hJ hH hd
 refine wpIn_mono (hH.step (E.bd _ _ _ _ hJ) h) ?_
 rintro e a' w' ⟨st',hq,hH',hx,hd'⟩
 exact ⟨_,i,s,M,E.gr _ _ _ _ _ hJ hx,hH',by rw [hd'];exact hd,hq⟩
theorem aK.mono {c : Code} {Q' : QY} (h : aK E c Q t i s) (hq : ∀ e t i s,Q e t i s→Q' e t i s) : aK E c Q' t i s:=
 fun n a w M hJ hH hd=>wpIn_mono (h n a w M hJ hH hd) fun _ _ _ ⟨t',i',s',M',h1,h2,h3,h4⟩=>⟨t',i',s',M',h1,h2,h3,hq _ _ _ _ h4⟩
theorem aK.sub {c : Code} {t' : Nat→AV} (h : aK E c Q t' i s) (ht : ∀ m,t' m=.undef∨t' m=t m) : aK E c Q t i s:=
 fun n a w M hJ hH hd=>h n a w M hJ (hH.sub ht) hd
def wG {P : Program} (E : YEnv P) (y : Code) (Q : QY) : QY
 |.normal,t,i,s=>aK E y Q t i s
 |e,t,i,s=>Q e t i s
theorem aK.seq {x y : Code} (h : aK E x (wG E y Q) t i s) : aK E (.seq x y) Q t i s:=by
 intro n a w M hJ hH hd
 refine wpIn_seq (wpIn_mono (h n a w M hJ hH hd) ?_)
 rintro e a' w' ⟨t',i',s',M',h1,h2,h3,h4⟩
 cases e with
 |normal=>exact h4 n a' w' M' h1 h2 h3
 |_=>exact ⟨t',i',s',M',h1,h2,h3,h4⟩
theorem aK.skip (h : Q .normal t i s) : aK E .skip Q t i s:=fun _ _ _ M hJ hH hd=>wpIn_skip ⟨t,i,s,M,hJ,hH,hd,h⟩
theorem aK.ret (h : Q .ret t i s) : aK E .ret Q t i s:=fun _ _ _ M hJ hH hd=>wpIn_ret ⟨t,i,s,M,hJ,hH,hd,h⟩
theorem aK.exit {id : Nat} (h : Q (.exit id) t i s) : aK E (.exit id) Q t i s:=fun _ _ _ M hJ hH hd=>wpIn_exit ⟨t,i,s,M,hJ,hH,hd,h⟩
theorem aK.cond {m : Nat} {x y : Code} {b : Bool} (hc : t m=.pv (.val (.bool b))) (ht : b=true→aK E x Q t i s) (hf : b=false→aK E y Q t i s) : aK E (.cond (.tmp m) x y) Q t i s:=by
 intro n a w M hJ hH hd
 have hc' : a.eval (.tmp m)=.bool b:=by
  rcases hH.2 m with e|⟨p,e,hr⟩
  ·rw [hc] at e;cases e
  ·rw [hc] at e;injection e with e;subst e;exact aI hr
 exact wpIn_cond_split hc' (fun e=>ht e n a w M hJ hH hd) (fun e=>hf e n a w M hJ hH hd)
def ot (id : Nat) (Q : QY) : QY
 |.exit j,t,i,s=>if j=id then Q .normal t i s else Q (.exit j) t i s
 |e,t,i,s=>Q e t i s
theorem aK.block {id : Nat} {c : Code} (h : aK E c (ot id Q) t i s) : aK E (.block id c) Q t i s:=by
 intro n a w M hJ hH hd
 refine wpIn_block (wpIn_mono (h n a w M hJ hH hd) ?_)
 rintro e a' w' ⟨t',i',s',M',h1,h2,h3,h4⟩
 cases e with
 |exit j=>
  simp only [ot,Exit.inBlock] at h4 ⊢
  split
  ·rename_i e;rw [if_pos e] at h4;exact ⟨t',i',s',M',h1,h2,h3,h4⟩
  ·rename_i e;rw [if_neg e] at h4;exact ⟨t',i',s',M',h1,h2,h3,h4⟩
 |_=>exact ⟨t',i',s',M',h1,h2,h3,h4⟩
theorem aK.loopN {c : Code} (K : Nat) (I : Nat→(Nat→AV)→Nat→Bool→Prop) (h₀ : I 0 t i s)
 (round : ∀ k t i s,k≤K→I k t i s→aK E c (fun e t i s=>match e with|.normal=>k < K∧I (k+1) t i s|e=>Q e t i s) t i s) : aK E (.loop c) Q t i s:=by
 classical
 intro n a w M hJ hH hd
 let In : Nat→Act→World→Prop:=fun k a w=>∃ t i s M,I k t i s∧E.J s i M w∧ek E.N M t a w∧a.defers=[]
 have hmax : ∀ a w,(∃ k,k≤K∧In k a w)→∃ k,k≤K∧In k a w∧∀ j,j≤K→In j a w→j≤k:=by
  intro a w ⟨k0,h1,h2⟩
  have : ∀ d k,K - k≤d→k≤K→In k a w→∃ k,k≤K∧In k a w∧∀ j,j≤K→In j a w→j≤k:=by
   intro d
   induction d with
   |zero=>intro k hd hk hI;exact ⟨k,hk,hI,fun j hj _=>by omega⟩
   |succ d ih=>
    intro k hd hk hI
    by_cases h : ∃ j,j≤K∧In j a w∧k < j
    ·obtain ⟨j,hj,hIj,hij⟩:=h;exact ih j (by omega) hj hIj
    ·exact ⟨k,hk,hI,fun j hj hIj=>Nat.le_of_not_lt (fun hlt=>h ⟨j,hj,hIj,hlt⟩)⟩
  exact this K k0 (by omega) h1 h2
 refine wpIn_loop (fun a w=>∃ k,k≤K∧In k a w) (fun a w=>K - (if h : ∃ k,k≤K∧In k a w∧∀ j,j≤K→In j a w→j≤k then h.choose else 0)) ⟨0,Nat.zero_le _,t,i,s,M,h₀,hJ,hH,hd⟩ ?_
 intro a1 w1 hex
 have hm:=hmax a1 w1 hex
 have hs:=hm.choose_spec
 obtain ⟨t1,i1,s1,M1,g1,g2,g3,g4⟩:=hs.2.1
 refine wpIn_mono (round _ t1 i1 s1 hs.1 g1 n a1 w1 M1 g2 g3 g4) ?_
 rintro e a2 w2 ⟨t2,i2,s2,M2,q1,q2,q3,q4⟩
 cases e with
 |normal=>
  obtain ⟨hlt,hI⟩:=q4
  have hin : In (hm.choose+1) a2 w2:=⟨t2,i2,s2,M2,hI,q1,q2,q3⟩
  refine ⟨⟨_,hlt,hin⟩,?_⟩
  have hm2:=hmax a2 w2 ⟨_,hlt,hin⟩
  have h1:=hm2.choose_spec.2.2 _ hlt hin
  show K - (if h : ∃ k,k≤K∧In k a2 w2∧∀ j,j≤K→In j a2 w2→j≤k then h.choose else 0) < K - (if h : ∃ k,k≤K∧In k a1 w1∧∀ j,j≤K→In j a1 w1→j≤k then h.choose else 0)
  rw [dif_pos hm2,dif_pos hm]
  omega
 |_=>exact ⟨t2,i2,s2,M2,q1,q2,q3,q4⟩
end
theorem nq {n l : Nat} {P : Program} {ops : Array Oper} {o : Oper} {rest : List Oper} {c : Call} {f x : Operand} {Q : Exit→Act→World→Prop} {a : Act} {w : World} {R : Ending→World→Prop} (hw : Region.wanted o (yielded ops a.tmps)=true) (ho : o.op=.call c) (hc : c.callee=.value f) (hargs : c.args=#[x])
 (hf : a.eval f=.func (.yield l) #[] #[]) (hy : YieldAt Fence.wide (n - 1) P l #[a.eval x] w R)
 (hnext : ∀ e w',R e w'→∃ v,e=.returned v∧wpListIn Fence.wide n P ops Q rest (a.put o.dst v) w') : wpListIn Fence.wide n P ops Q (o :: rest) a w:=by
 obtain ⟨fn,tmps,assign,body,hr,hround⟩:=hy
 unfold wpListIn
 rw [if_pos hw]
 refine ⟨fun _ _=>trivial,?_⟩
 show o.uponIn Fence.wide n P a _ Q ((o.semAt none a.eval).run P w)
 rw [Oper.semAt_none]
 have hrun : (execOp a.eval o).run P w=.ok (.round l fn tmps assign body) w:=by
  generalize a.eval=ρ at hf hr
  unfold execOp
  rw [ho]
  obtain ⟨cal,ar,at_⟩:=c
  simp only at hc hargs
  subst hc;subst hargs
  simp [resolve,hf,invoke,go_sem,hr]
 rw [hrun]
 refine ⟨fun h=>(by cases h),hround.mono ?_⟩
 intro e w' he
 obtain ⟨v,rfl,h⟩:=hnext e w' he
 exact h
section
variable {P : Program} {E : YEnv P} {Q : QY} {t : Nat→AV} {i : Nat}
theorem aK.yield {id d f x : Nat} {ops : Array Oper} {pre post : List Oper} {o : Oper} {c : Call} {hn : List Nat} (hops : ops.toList=pre++o :: post) (hnd : jo ops=true) (ho : o.op=.call c) (hc : c.callee=.value (.tmp f)) (hargs : c.args=#[.tmp x]) (hd : o.dst=some d) (hdN : d < E.N)
 (hpre : cJ P hn E.N ops (fun st'=>st'.t f=.pv (.val (.func (.yield E.l) #[] #[]))∧cV ops (bi st'.t) o.guard=some true∧∃ q,st'.t x=.pv q∧E.xs[i]?=some q∧
   ∀ b,cJ P hn E.N ops (fun st''=>Q .normal (bi st''.t) (if b=true then i+1 else i) (!b)) post ⟨aq (bi st'.t) d (.pv (.val (.bool b))),fun _=>none⟩) pre ⟨t,fun _=>none⟩) : aK E (.region id ops false) Q t i false:=by
 intro n a w M hJ hH hdd
 refine wpIn_region_list ?_
 rw [hops]
 refine bB _ ?_
 have hmem : ∀ o' ∈ pre++o :: post,∀ c,o'.op≠.defer c:=fun o' ho'=>gH hnd (by rw [hops];exact ho')
 refine hH.list (E.bd _ _ _ _ hJ) (fun o' ho'=>hmem o' (List.mem_append_left _ ho')) hpre ?_
 rintro st' a' w' ⟨h1,h2,q,h3,h4,h5⟩ hH' hx hd'
 have hJ':=E.gr _ _ _ _ _ hJ hx
 have hM':=E.bd _ _ _ _ hJ'
 have ef : a'.eval (.tmp f)=.func (.yield E.l) #[] #[]:=by
  rcases hH'.2 f with e|⟨p,e,hr⟩
  ·simp only [bi,h1] at e;cases e
  ·simp only [bi,h1] at e;injection e with e;subst e;exact aI hr
 have ex : Rep w' M q (a'.eval (.tmp x)):=by
  rcases hH'.2 x with e|⟨p,e,hr⟩
  ·simp only [bi,h3] at e;cases e
  ·simp only [bi,h3] at e;injection e with e;subst e;exact hr
 refine nq ?_ ho hc hargs ef (E.yl (n - 1) i q M w' _ h4 hJ' ex) ?_
 ·exact bK (hH'.sim (P:=P) hM').2.2 h2
 rintro e w2 ⟨b,M2,rfl,hJ2,hp2⟩
 refine ⟨_,rfl,?_⟩
 have hH2 : ek E.N M2 (aq (bi st'.t) d (.pv (.val (.bool b)))) (a'.put o.dst (.bool b)) w2:=by
  have hb:=hH'.mono hp2
  rw [hd]
  have hd' : d < a'.tmps.size:=by rw [hb.1];exact hdN
  refine ⟨by simpa [Act.put] using hb.1,fun m=>?_⟩
  rw [lq hd']
  simp only [aq]
  split
  ·exact .inr ⟨_,rfl,.val _⟩
  ·exact hb.2 m
 refine hH2.list (E.bd _ _ _ _ hJ2) (fun o' ho'=>hmem o' (List.mem_append_right _ (List.mem_cons_of_mem _ ho'))) (h5 b) ?_
 intro st3 a3 w3 hq3 hH3 hx3 hd3
 exact ⟨_,_,_,M2,E.gr _ _ _ _ _ hJ2 hx3,hH3,by rw [hd3,fM,hd'];exact hdd,hq3⟩
end
def tI (l : Nat) (caps : List PV) : Nat→AV
 |0=>.pv (.val (.func (.yield l) #[] #[]))
 |k+1=>match caps[k]? with
  |some p=>.pv p
  |none=>.undef
theorem vm {P : Program} {gf : FuncId} {fn : Func} {c : Code} {caps xs : List PV} (hf : P.funcs[gf]?=some fn) (hb : fn.body=some c) (hcall : bP P gf=true) (hres : fn.results=#[]) (hlen : caps.length+1≤fn.ntmps)
 (h : ∀ E : YEnv P,E.N=fn.ntmps→E.xs=xs→aK E c (fun e _ i s=>(e=.normal∨e=.ret)∧(if s=true then i < xs.length else i=xs.length)) (tI E.l caps) 0 false) : qB P gf caps xs:=by
 refine ⟨hcall,fun n l lb W M J Jx hJb hJg hXb hXg hY h0 hcap=>?_⟩
 have e1 : ∀ (s : Bool) i M W,(if s=true then Jx i M W else J i M W)→∀ b o,M b o→b < W.heap.size:=by
  intro s i M W hj
  cases s with
  |true=>exact hXb i M W hj
  |false=>exact hJb i M W hj
 have e2 : ∀ (s : Bool) i M W W',(if s=true then Jx i M W else J i M W)→Ext (fun _=>False) W W'→(if s=true then Jx i M W' else J i M W'):=by
  intro s i M W W' hj hx
  cases s with
  |true=>exact hXg i M W W' hj hx
  |false=>exact hJg i M W W' hj hx
 have e3 : ∀ m i x M W v1,xs[i]?=some x→(if false=true then Jx i M W else J i M W)→Rep W M x v1→YieldAt Fence.wide m P l #[v1] W fun e W'=>∃ (b : Bool) (M' : Nat→Nat→Prop),e=.returned (.bool b)∧(if (!b)=true then Jx (if b=true then i+1 else i) M' W' else J (if b=true then i+1 else i) M' W')∧aE W M W' M':=by
  intro m i x M W v1 hx hj hr
  obtain ⟨fn',tmps,assign,body,h1,h2⟩:=hY m i x M W v1 hx hj hr
  refine ⟨fn',tmps,assign,body,h1,h2.mono ?_⟩
  rintro e W' ⟨b,M',rfl,h3,h4⟩
  refine ⟨b,M',rfl,?_,h4⟩
  cases b with
  |true=>exact h3
  |false=>exact h3
 let E : YEnv P:={ N:=fn.ntmps,l:=l,xs:=xs,J:=fun s i M W=>if s=true then Jx i M W else J i M W,bd:=e1,gr:=e2,yl:=e3 }
 have hl:=hcap.1
 refine (callsIn_of_wp_marks hf hb trivial ?_ rfl)
 have hH : ek fn.ntmps M (tI l caps) { tmps:=((#[Value.func (.yield l) #[] #[]] : Array Value)++lb.toArray)++Array.replicate (fn.ntmps - ((#[Value.func (.yield l) #[] #[]] : Array Value)++lb.toArray).size) undef,defers:=[] } W:=by
  refine ⟨by simp;omega,fun m=>?_⟩
  cases m with
  |zero=>
   have hg : (((#[Value.func (.yield l) #[] #[]] : Array Value)++lb.toArray)++Array.replicate (fn.ntmps - ((#[Value.func (.yield l) #[] #[]] : Array Value)++lb.toArray).size) undef).getD 0 undef=.func (.yield l) #[] #[]:=by
    rw [Array.getD_eq_getD_getElem?,Array.getElem?_append_left (by simp),Array.getElem?_append_left (by simp)];rfl
   refine .inr ⟨_,rfl,?_⟩
   simp only [hg];exact .val _
  |succ k=>
   simp only [tI]
   cases hk : caps[k]? with
   |none=>exact .inl rfl
   |some p=>
    have hlt : k < lb.length:=by rw [← hl];exact (List.getElem?_eq_some_iff.1 hk).1
    have hr:=hcap.2 k p lb[k] hk (List.getElem?_eq_getElem hlt)
    refine .inr ⟨p,rfl,?_⟩
    have hg : (((#[Value.func (.yield l) #[] #[]] : Array Value)++lb.toArray)++Array.replicate (fn.ntmps - ((#[Value.func (.yield l) #[] #[]] : Array Value)++lb.toArray).size) undef).getD (k+1) undef=lb[k]:=by
     rw [Array.getD_eq_getD_getElem?,Array.getElem?_append_left (by simp;omega),Array.getElem?_append_right (by simp)]
     simp [hlt]
    simp only [hg];exact hr
 refine wpIn_mono (h E rfl rfl n _ W M h0 hH rfl) ?_
 rintro e a' w' ⟨t',i',s',M',h1,h2,h3,h4,h5⟩
 have hfin : ((∃ M',J xs.length M' w')∨∃ i M',i < xs.length∧Jx i M' w'):=by
  cases s' with
  |true=>exact .inr ⟨i',M',h5,h1⟩
  |false=>
   simp only [Bool.false_eq_true,if_false] at h5
   subst h5;exact .inl ⟨M',h1⟩
 have hrn : (results fn a'.tmps).run P w'=.ok (.tuple #[]) w':=by
  unfold results
  rw [hres]
  simp [go_sem]
 rcases h4 with rfl|rfl
 ·show LeavesInM Fence.wide n P fn a'.tmps _ a'.defers .returning w'
  rw [h3];exact ⟨_,hrn,⟨_,rfl⟩,hfin⟩
 ·show LeavesInM Fence.wide n P fn a'.tmps _ a'.defers .returning w'
  rw [h3];exact ⟨_,hrn,⟨_,rfl⟩,hfin⟩
end Go.Ab
namespace Go.Ab
section
variable {P : Program} {E : YEnv P} {Q : QY} {C : Cx} {st : St} {i : Nat} {s : Bool}
def aU {P : Program} (E : YEnv P) (C : Cx) (c : Code) (Q : QY) (st : St) (i : Nat) (s : Bool) : Prop:=
 C.P=P→C.N=E.N→(∀ b,¬ C.S b)→E.J s i C.M0 C.w0→∀ n L a w,dp C L st a w→a.defers=[]→c.wpIn Fence.wide n P (wF E Q) a w
theorem wI {C : Cx} (h : ∀ b,¬ C.S b) {w w' : World} (hx : Ext C.S w w') : Ext (fun _=>False) w w':=by
 have e : C.S=fun _=>False:=funext fun b=>propext ⟨fun hb=>(h b hb).elim,False.elim⟩
 rw [e] at hx;exact hx
theorem aK.blocks {c : Code} {t : Nat→AV} (h : ∀ C : Cx,C.P=P→C.N=E.N→aU E C c Q ⟨t,fun _=>none⟩ i s) : aK E c Q t i s:=by
 intro n a w M hJ hH hd
 exact h { P:=P,N:=E.N,M0:=M,S:=fun _=>False,pb:=fun _=>none,w0:=w } rfl rfl rfl rfl (fun _ h=>h) hJ n _ a w (hH.sim (E.bd _ _ _ _ hJ)) hd
theorem aU.drop {c : Code} (h : aK E c Q (bi st.t) i s) : aU E C c Q st i s:=by
 intro hP hN hS hJ n L a w hs hd
 have hH:=jp hs
 rw [hN] at hH
 exact h n a w C.M0 (E.gr _ _ _ _ _ hJ (wI hS hs.1.ext)) hH hd
def zt {P : Program} (E : YEnv P) (C : Cx) (y : Code) (Q : QY) (i : Nat) (s : Bool) : Exit→St→Prop
 |.normal,st=>aU E C y Q st i s
 |e,st=>Q e (bi st.t) i s
theorem aU.seq {x y : Code} (h : af Fence.wide C x (zt E C y Q i s) st) : aU E C (.seq x y) Q st i s:=by
 intro hP hN hS hJ n L a w hs hd
 subst hP
 refine wpIn_seq (wpIn_mono (h n L a w hs) ?_)
 rintro e a' w' ⟨st',L',hs',_,hd',hq⟩
 have hdd : a'.defers=[]:=by rw [hd'];exact hd
 have hH:=jp hs'
 rw [hN] at hH
 cases e with
 |normal=>exact hq rfl hN hS hJ n L' a' w' hs' hdd
 |_=>exact ⟨_,i,s,C.M0,E.gr _ _ _ _ _ hJ (wI hS hs'.1.ext),hH,hdd,hq⟩
theorem aU.walk {c : Code} (h : af Fence.wide C c (fun e st'=>Q e (bi st'.t) i s) st) : aU E C c Q st i s:=by
 intro hP hN hS hJ n L a w hs hd
 subst hP
 refine wpIn_mono (h n L a w hs) ?_
 rintro e a' w' ⟨st',L',hs',_,hd',hq⟩
 have hH:=jp hs'
 rw [hN] at hH
 exact ⟨_,i,s,C.M0,E.gr _ _ _ _ _ hJ (wI hS hs'.1.ext),hH,by rw [hd'];exact hd,hq⟩
theorem aU.cond {m : Nat} {x y : Code} {b : Bool} (hc : st.t m=.pv (.val (.bool b))) (ht : b=true→aU E C x Q st i s) (hf : b=false→aU E C y Q st i s) : aU E C (.cond (.tmp m) x y) Q st i s:=by
 intro hP hN hS hJ n L a w hs hd
 have hc' : a.eval (.tmp m)=.bool b:=by
  have h:=hs.2.2 m
  rw [hc] at h
  cases h with
  |pv hr=>exact aI hr
 exact wpIn_cond_split hc' (fun e=>ht e hP hN hS hJ n L a w hs hd) (fun e=>hf e hP hN hS hJ n L a w hs hd)
theorem aU.seqY {x y : Code} (h : aU E C x (wG E y Q) st i s) : aU E C (.seq x y) Q st i s:=by
 intro hP hN hS hJ n L a w hs hd
 refine wpIn_seq (wpIn_mono (h hP hN hS hJ n L a w hs hd) ?_)
 rintro e a' w' ⟨t',i',s',M',h1,h2,h3,h4⟩
 cases e with
 |normal=>exact h4 n a' w' M' h1 h2 h3
 |_=>exact ⟨t',i',s',M',h1,h2,h3,h4⟩
theorem aU.block {id : Nat} {c : Code} (h : aU E C c (ot id Q) st i s) : aU E C (.block id c) Q st i s:=by
 intro hP hN hS hJ n L a w hs hd
 refine wpIn_block (wpIn_mono (h hP hN hS hJ n L a w hs hd) ?_)
 rintro e a' w' ⟨t',i',s',M',h1,h2,h3,h4⟩
 cases e with
 |exit j=>
  simp only [ot] at h4
  show (if j=id then _ else _)
  split
  ·rename_i e;rw [if_pos e] at h4;exact ⟨t',i',s',M',h1,h2,h3,h4⟩
  ·rename_i e;rw [if_neg e] at h4;exact ⟨t',i',s',M',h1,h2,h3,h4⟩
 |_=>exact ⟨t',i',s',M',h1,h2,h3,h4⟩
theorem aU.yield {id d f x : Nat} {ops : Array Oper} {pre post : List Oper} {o : Oper} {c : Call} {hn : List Nat} (hops : ops.toList=pre++o :: post) (hnd : jo ops=true) (ho : o.op=.call c) (hc : c.callee=.value (.tmp f)) (hargs : c.args=#[.tmp x]) (hd : o.dst=some d) (hdN : d < E.N)
 (hpre : cJ P hn E.N ops (fun st'=>st'.t f=.pv (.val (.func (.yield E.l) #[] #[]))∧cV ops (bi st'.t) o.guard=some true∧∃ q,st'.t x=.pv q∧E.xs[i]?=some q∧
   ∀ b,cJ P hn E.N ops (fun st''=>Q .normal (bi st''.t) (if b=true then i+1 else i) (!b)) post ⟨aq (bi st'.t) d (.pv (.val (.bool b))),fun _=>none⟩) pre st) : aU E C (.region id ops false) Q st i false:=by
 intro hP hN hS hJ n L a w hs hdd
 subst hP
 rw [← hN] at hpre
 refine wpIn_region_list ?_
 rw [hops]
 refine bB _ ?_
 have hmem : ∀ o' ∈ pre++o :: post,∀ c,o'.op≠.defer c:=fun o' ho'=>gH hnd (by rw [hops];exact ho')
 refine dF dK (fun st' L' a' w' hs' _ hd' hq=>?_) (fun o' ho'=>hmem o' (List.mem_append_left _ ho')) hs (ax.refl hs.1) rfl hpre
 obtain ⟨h1,h2,q,h3,h4,h5⟩:=hq
 have hH':=jp hs'
 have hJ':=E.gr _ _ _ _ _ hJ (wI hS hs'.1.ext)
 have hM':=E.bd _ _ _ _ hJ'
 have ef : a'.eval (.tmp f)=.func (.yield E.l) #[] #[]:=by
  rcases hH'.2 f with e|⟨p,e,hr⟩
  ·simp only [bi,h1] at e;cases e
  ·simp only [bi,h1] at e;injection e with e;subst e;exact aI hr
 have ex : Rep w' C.M0 q (a'.eval (.tmp x)):=by
  rcases hH'.2 x with e|⟨p,e,hr⟩
  ·simp only [bi,h3] at e;cases e
  ·simp only [bi,h3] at e;injection e with e;subst e;exact hr
 refine nq ?_ ho hc hargs ef (E.yl (n - 1) i q C.M0 w' _ h4 hJ' ex) ?_
 ·exact bK (hH'.sim (P:=C.P) hM').2.2 h2
 rintro e w2 ⟨b,M2,rfl,hJ2,hp2⟩
 refine ⟨_,rfl,?_⟩
 have hH2 : ek E.N M2 (aq (bi st'.t) d (.pv (.val (.bool b)))) (a'.put o.dst (.bool b)) w2:=by
  have hb:=hH'.mono hp2
  rw [hd]
  have hd' : d < a'.tmps.size:=by rw [hb.1,hN];exact hdN
  refine ⟨by simpa [Act.put,hN] using hb.1,fun m=>?_⟩
  rw [lq hd']
  simp only [aq]
  split
  ·exact .inr ⟨_,rfl,.val _⟩
  ·exact hb.2 m
 refine hH2.list (E.bd _ _ _ _ hJ2) (fun o' ho'=>hmem o' (List.mem_append_right _ (List.mem_cons_of_mem _ ho'))) (by rw [hN] at h5;exact h5 b) ?_
 intro st3 a3 w3 hq3 hH3 hx3 hd3
 exact ⟨_,_,_,M2,E.gr _ _ _ _ _ hJ2 hx3,hH3,by rw [hd3,fM,hd'];exact hdd,hq3⟩
end
end Go.Ab
namespace Go.Ab
def mb (C : Cx) (ds : List Deferred) (st : St) (a : Act) (w : World) : Prop:=∃ L,MemL C L st.h w∧a.tmps.size=C.N∧a.defers=ds∧∀ n,RepA w (ah C L st.h) L st.h (st.t n) (a.tmps.getD n undef)
theorem mb.put {C : Cx} {ds : List Deferred} {L : Nat→Loc} {st : St} {a : Act} {w : World} (hm : MemL C L st.h w) (hN : a.tmps.size=C.N) (hdf : a.defers=ds) (ht : ∀ n,RepA w (ah C L st.h) L st.h (st.t n) (a.tmps.getD n undef))
 {d : Option Nat} (hd : dW C.N d=true) {v : AV} {W : List (Nat × Blk)} {u : Value} {w' : World} {L' : Nat→Loc} (hA : ax C L st.h w L' (aj st.h W) w') (hv : RepA w' (ah C L' (aj st.h W)) L' (aj st.h W) v u) :
 mb C ds (st.put d v W) (a.put d u) w':=by
 obtain ⟨h1,h2,h3⟩:=dp.put (a:=a) ⟨hm,hN,ht⟩ hd hA hv
 exact ⟨L',h1,h2,(fM _ _ _).trans hdf,h3⟩
section
variable {C : Cx} {hn : List Nat} {ops : Array Oper} {fs : List Ef} {st : St} {ds : List Deferred}
theorem uf (hslot : ga ops=true) (hlen : fs.length=ops.size) (hstep : ∀ (i : Nat) o f,ops[i]?=some o→fs[i]?=some f→mq C.P hn C.N ops o (run (fs.take i) st) f)
 (hkey : i9 (f9 ops.toList []) (fs.map fun f=>(f.W.map (·.1),f.K))=true) {Q' : Exit→Act→World→Prop} (hQ : ∀ a w,mb C ds (run fs st) a w→Q' .normal a w) :
 ∀ (fuel : Nat) (listed : Array Bool) (a : Act) (w : World),listed.size=ops.size→((List.range ops.size).filter fun j=>!ao listed j).length≤fuel→(∀ i j,gE ops i j→ao listed j=true→ao listed i=true)→
  mb C ds (bM fs ops.size st (ao listed)) a w→wpAny C.P .any ops Q' fuel listed a w:=by
 have hall : ∀ listed : Array Bool,Region.ready .any ops listed=[]→listed.size=ops.size→∀ j,j < ops.size→ao listed j=true:=by
  intro listed hr hsz j
  induction j using Nat.strongRecOn with
  |_ j ih=>
   intro hj
   cases hl : ao listed j with
   |true=>rfl
   |false=>
    have : j ∈ Region.ready .any ops listed:=fL.2 ⟨hj,hl,fun q hq=>by
     have hqj:=jc hslot hq
     have:=ih q hqj (by omega)
     unfold ao at this
     rw [Array.getD_eq_getD_getElem?] at this ⊢
     rw [Array.getElem?_eq_getElem (by omega)] at this ⊢
     simpa using this⟩
    rw [hr] at this;cases this
 have hend : ∀ (listed : Array Bool) a w,Region.ready .any ops listed=[]→listed.size=ops.size→mb C ds (bM fs ops.size st (ao listed)) a w→Q' .normal a w:=by
  intro listed a w hr hsz hsim
  apply hQ
  have hl:=hall listed hr hsz
  have : bM fs ops.size st (ao listed)=run fs st:=by
   have ht : run fs st=run (fs.take ops.size) st:=by rw [List.take_of_length_le (by omega)]
   rw [ht]
   have h1 : (bM fs ops.size st (ao listed)).t=(run (fs.take ops.size) st).t:=by
    funext r;rw [gF fs st _ (by omega)];exact bv (fun j hj _=>hl j hj)
   have h2 : (bM fs ops.size st (ao listed)).h=(run (fs.take ops.size) st).h:=by
    funext r;rw [gG fs st _ (by omega)];exact bv (fun j hj _=>hl j hj)
   cases hA : bM fs ops.size st (ao listed);cases hB : run (fs.take ops.size) st
   rw [hA,hB] at h1 h2
   simp at h1 h2
   rw [h1,h2]
  rw [← this];exact hsim
 intro fuel
 induction fuel with
 |zero=>
  intro listed a w hsz hcnt hcl hsim
  have hemp : Region.ready .any ops listed=[]:=by
   cases hr : Region.ready .any ops listed with
   |nil=>rfl
   |cons i r=>
    have hi : i ∈ Region.ready .any ops listed:=by rw [hr];simp
    obtain ⟨h1,h2,_⟩:=fL.1 hi
    have : i ∈ (List.range ops.size).filter fun j=>!ao listed j:=List.mem_filter.2 ⟨List.mem_range.2 h1,by simp [h2]⟩
    have hnil : ((List.range ops.size).filter fun j=>!ao listed j)=[]:=List.eq_nil_of_length_eq_zero (by omega)
    rw [hnil] at this;cases this
  exact ⟨hemp,hend listed a w hemp hsz hsim⟩
 |succ fuel ih=>
  intro listed a w hsz hcnt hcl hsim
  refine ⟨fun hr=>hend listed a w hr hsz hsim,fun i hi=>?_⟩
  obtain ⟨hin,hli,hdir⟩:=fL.1 hi
  have ho : ops[i]?=some ops[i]:=Array.getElem?_eq_getElem hin
  have hf : fs[i]?=some (fs[i]'(by omega)):=List.getElem?_eq_getElem _
  generalize ops[i]=o at ho
  generalize fs[i]'(by omega)=f at hf
  obtain ⟨hdst,hfd,hcase⟩:=hstep i o f ho hf
  have hbefore : ∀ q,Pre ops q i→ao listed q=true:=by
   intro q hq
   have hd : ∀ q,gE ops q i→ao listed q=true:=by
    intro q hq
    have hqi:=jc hslot hq
    have:=hdir q hq
    unfold ao
    rw [Array.getD_eq_getD_getElem?] at this ⊢
    rw [Array.getElem?_eq_getElem (by omega)] at this ⊢
    simpa using this
   cases hq with
   |one h=>exact hd q h
   |step h h'=>exact jb hcl h (hd _ h')
  have hafter : ∀ q,Pre ops i q→ao listed q=false:=by
   intro q hq
   cases hlq : ao listed q with
   |false=>rfl
   |true=>rw [jb hcl hq hlq] at hli;cases hli
  have hdj : ∀ j r,(ka fs r j).isSome=true→∃ oj fj,ops[j]?=some oj∧fs[j]?=some fj∧oj.dst=some r:=by
   intro j r hj
   unfold ka at hj
   split at hj
   ·rename_i fj hfj
    split at hj
    ·rename_i hd
     have hjn : j < ops.size:=by rw [← hlen];exact (List.getElem?_eq_some_iff.1 hfj).1
     have hoj : ops[j]?=some ops[j]:=Array.getElem?_eq_getElem hjn
     obtain ⟨_,h2,_⟩:=hstep j _ fj hoj hfj
     exact ⟨_,fj,hoj,hfj,by rw [← h2];exact hd⟩
    ·cases hj
   ·cases hj
  have hkj : ∀ j k,(kc fs k j).isSome=true→∃ fj,fs[j]?=some fj∧k ∈ fj.W.map (·.1):=by
   intro j k hj
   unfold kc at hj
   split at hj
   ·rename_i fj hfj;exact ⟨fj,hfj,mr hj⟩
   ·cases hj
  have haccat : ∀ (j : Nat) (fj : Ef),fs[j]?=some fj→(fs.map fun f=>(f.W.map (·.1),f.K))[j]?=some (fj.W.map (·.1),fj.K):=fun j fj h=>by simp [h]
  have hagT : ∀ r ∈ iM ops o,(bM fs ops.size st (ao listed)).t r=(run (fs.take i) st).t r:=by
   intro r hr
   rw [gF fs st i (by omega),← i8 (n:=ops.size) (by omega)]
   refine bv (fun j hj hw=>?_)
   obtain ⟨oj,fj,hoj,hfj,hd⟩:=hdj j r hw
   rcases Nat.lt_trichotomy j i with hlt|rfl|hgt
   ·rw [hbefore j (fK hslot hlt hoj ho (by simp [fq,hd,hr]))];simp [hlt]
   ·rw [hli];simp
   ·rw [hafter j (fK hslot hgt ho hoj (by simp [fq,hd,hr]))]
    have : ¬ j < i:=by omega
    simp [this]
  have hagH : ∀ k ∈ f.K,(bM fs ops.size st (ao listed)).h k=(run (fs.take i) st).h k:=by
   intro k hk
   rw [gG fs st i (by omega),← i8 (n:=ops.size) (by omega)]
   refine bv (fun j hj hw=>?_)
   obtain ⟨fj,hfj,hd⟩:=hkj j k hw
   rcases Nat.lt_trichotomy j i with hlt|rfl|hgt
   ·rw [hbefore j (gx hkey hlt (haccat j fj hfj) (haccat i f hf) ⟨k,.inl ⟨hd,hk⟩⟩)];simp [hlt]
   ·rw [hli];simp
   ·rw [hafter j (gx hkey hgt (haccat i f hf) (haccat j fj hfj) ⟨k,.inr ⟨hd,hk⟩⟩)]
    have : ¬ j < i:=by omega
    simp [this]
  have hWK : ∀ k,k ∈ f.W.map (·.1)→k ∈ f.K:=by
   intro k hk
   obtain ⟨kb,hkb,rfl⟩:=List.mem_map.1 hk
   rcases hcase with ⟨_,_,_,hall⟩|⟨_,_,hW,_⟩
   ·have:=List.all_eq_true.1 hall kb hkb;simpa using this
   ·rw [hW] at hkb;cases hkb
  have fU : bM fs ops.size st (ao (listed.setIfInBounds i true))=(bM fs ops.size st (ao listed)).put f.d f.v f.W:=by
   have hls : ∀ j,j < ops.size→ao (listed.setIfInBounds i true) j=(ao listed j || j==i):=by
    intro j hj
    unfold ao
    by_cases e : j=i
    ·subst e;simp [Array.getD_eq_getD_getElem?,hsz,hj]
    ·have h1 : (j==i)=false:=by simpa using e
     rw [h1,Bool.or_false,Array.getD_eq_getD_getElem?,Array.getD_eq_getD_getElem?,Array.getElem?_setIfInBounds_ne (by omega)]
   have h1 : (bM fs ops.size st (ao (listed.setIfInBounds i true))).t=((bM fs ops.size st (ao listed)).put f.d f.v f.W).t:=by
    funext r
    show dE ops.size (ka fs r) (st.t r) (ao (listed.setIfInBounds i true))=_
    rw [bv (fun j hj _=>hls j hj),iD hin ?_]
    ·have hw : ka fs r i=if f.d=some r then some f.v else none:=by simp [ka,hf]
     rw [hw]
     cases hd : f.d with
     |none=>simp [St.put,bM]
     |some d=>
      simp only [St.put,aq,Option.some.injEq]
      by_cases e : d=r
      ·subst e;simp
      ·rw [if_neg e,if_neg (fun h=>e h.symm)];rfl
    ·intro hwi j hij hj hwj
     obtain ⟨oi,fi,hoi,hfi,hdi⟩:=hdj i r hwi
     obtain ⟨oj,fj,hoj,hfj,hd⟩:=hdj j r hwj
     rw [ho] at hoi;injection hoi with hoi;subst hoi
     exact hafter j (fK hslot hij ho hoj (by simp [fq,hdi,hd]))
   have h2 : (bM fs ops.size st (ao (listed.setIfInBounds i true))).h=((bM fs ops.size st (ao listed)).put f.d f.v f.W).h:=by
    funext k
    show dE ops.size (kc fs k) (st.h k) (ao (listed.setIfInBounds i true))=_
    rw [bv (fun j hj _=>hls j hj),iD hin ?_]
    ·have hw : kc fs k i=dX f.W k:=by simp [kc,hf]
     rw [hw]
     simp only [St.put]
     exact (iE k f.W (bM fs ops.size st (ao listed)).h).symm
    ·intro hwi j hij hj hwj
     obtain ⟨fi,hfi,hdi⟩:=hkj i k hwi
     obtain ⟨fj,hfj,hd⟩:=hkj j k hwj
     rw [hf] at hfi;injection hfi with hfi;subst hfi
     exact hafter j (gx hkey hij (haccat i f hf) (haccat j fj hfj) ⟨k,.inr ⟨hd,hWK k hdi⟩⟩)
   cases hA : bM fs ops.size st (ao (listed.setIfInBounds i true));cases hB : (bM fs ops.size st (ao listed)).put f.d f.v f.W
   rw [hA,hB] at h1 h2
   simp at h1 h2
   rw [h1,h2]
  have hnext : ∀ a' w',mb C ds ((bM fs ops.size st (ao listed)).put f.d f.v f.W) a' w'→wpAny C.P .any ops Q' fuel (listed.setIfInBounds i true) a' w':=by
   intro a' w' hs'
   refine ih (listed.setIfInBounds i true) a' w' (by simp [hsz]) ?_ ?_ (by rw [fU];exact hs')
   ·have hle : ((List.range ops.size).filter fun j=>!ao (listed.setIfInBounds i true) j).length < ((List.range ops.size).filter fun j=>!ao listed j).length:=by
     have heq : ((List.range ops.size).filter fun j=>!ao (listed.setIfInBounds i true) j)=((List.range ops.size).filter fun j=>!ao listed j).filter fun j=>!(j==i):=by
      rw [List.filter_filter]
      refine List.filter_congr (fun j hj=>?_)
      have hj':=List.mem_range.1 hj
      unfold ao
      by_cases e : j=i
      ·subst e;simp [Array.getD_eq_getD_getElem?,hsz,hj']
      ·have h1 : (j==i)=false:=by simpa using e
       rw [h1,Array.getD_eq_getD_getElem?,Array.getD_eq_getD_getElem?,Array.getElem?_setIfInBounds_ne (by omega)];simp
     rw [heq]
     refine List.length_filter_lt_length_iff_exists.2 ⟨i,List.mem_filter.2 ⟨List.mem_range.2 hin,by simp [hli]⟩,by simp⟩
    omega
   ·intro q j hd hj
    have hset : ∀ m,ao (listed.setIfInBounds i true) m=true↔(ao listed m=true∨m=i):=by
     intro m
     unfold ao
     by_cases e : m=i
     ·subst e;simp [Array.getD_eq_getD_getElem?,hsz,hin]
     ·rw [Array.getD_eq_getD_getElem?,Array.getD_eq_getD_getElem?,Array.getElem?_setIfInBounds_ne (by omega)];simp [e]
    rw [hset] at hj ⊢
    rcases hj with hj|rfl
    ·exact .inl (hcl q j hd hj)
    ·exact .inl (hbefore q (.one hd))
  obtain ⟨L,hm,hN,hdf,ht⟩:=hsim
  have hgd : cV ops (bM fs ops.size st (ao listed)).t o.guard=cV ops (run (fs.take i) st).t o.guard:=by
   unfold cV
   split
   ·rfl
   ·rename_i j want hg
    split
    ·rename_i d hd
     rw [hagT d (by simp [iM,hg,hd])]
    ·rfl
  unfold wpOp
  rw [ho]
  simp only
  rcases hcase with ⟨hg,hK,hev,hallk⟩|⟨hg,hv,hW,_⟩
  ·rw [bK ht (hgd.trans hg)]
   rw [if_pos rfl]
   refine .inl ?_
   have hops : ∀ x ∈ o.op.operands,(run (fs.take i) st).ev x=(bM fs ops.size st (ao listed)).ev x:=by
    intro x hx
    cases x with
    |tmp t=>
     refine (hagT t ?_).symm
     simp only [iM,ri,List.mem_append,List.mem_filterMap]
     exact .inl ⟨.tmp t,by simpa using hx,rfl⟩
    |_=>rfl
   have hres : aN f.K (run (fs.take i) st).h=aN f.K (bM fs ops.size st (ao listed)).h:=by
    funext k
    unfold aN
    split
    ·rename_i hk;exact (hagH k (by simpa using hk)).symm
    ·rfl
   rw [qg hops,hres] at hev
   refine oN hm (h1:=aN f.K (bM fs ops.size st (ao listed)).h) ?_ ?_ (fun x _=>cy ht x) hev (fun eff u w' L' he hA hv=>?_)
   ·intro k b hk;unfold aN at hk;split at hk
    ·exact hk
    ·cases hk
   ·intro d hd
    unfold aN
    have : f.K.contains d=true:=by rw [hK];simp [ft,hd]
    rw [if_pos this]
    refine ⟨rfl,?_⟩
    have hd9:=hdst
    rw [hd] at hd9
    simp only [dW,Bool.and_eq_true,decide_eq_true_eq] at hd9
    exact hd9.2
   ·subst he
    refine hnext _ _ ?_
    rw [hfd]
    exact mb.put hm hN hdf ht hdst hA hv
  ·rw [bK ht (hgd.trans hg)]
   simp only [Bool.false_eq_true,if_false]
   refine hnext _ _ ?_
   rw [hfd,hv,hW]
   exact mb.put hm hN hdf ht hdst (W:=[]) (ax.refl hm) (.pv (.val _))
variable {P : Program} {E : YEnv P} {Q : QY} {i : Nat} {s : Bool}
theorem aU.draw {id : Nat} {y : Code} (hmx : P.follows .mixedOrders=true) (hslot : ga ops=true)
 (h : gb P hn E.N ops (fun acc st=>i9 (f9 ops.toList []) acc=true∧aU E C y Q st i s) ops.toList [] st) : aU E C (.seq (.region id ops true) y) Q st i s:=by
 intro hP hN hS hJ n L a w hs hd
 subst hP
 rw [← hN] at h
 obtain ⟨fs,h1,h2,h3,h4⟩:=pI h
 refine wpIn_seq (wpIn_wide.2 ?_)
 refine wp_region_any hmx (uf (ds:=[]) (fs:=fs) (st:=st) hslot (by rw [h1];simp) (fun i o f ho hf=>h2 i o f (by simpa using ho) hf) (by simpa using h3) (fun a w hs=>?_) _ _ _ _ (by simp) ?_ ?_ ?_)
 ·obtain ⟨L',hm',hN',hdd,ht'⟩:=hs
  exact h4 rfl hN hS hJ n L' a w ⟨hm',hN',ht'⟩ hdd
 ·refine Nat.le_trans (List.length_filter_le _ _) (by simp)
 ·intro i j hd hj
  have hjn : j < ops.size:=by obtain ⟨o,ho,_⟩:=hd;exact (Array.getElem?_eq_some_iff.1 ho).1
  unfold ao at hj
  rw [Array.getD_eq_getD_getElem?,Array.getElem?_replicate,if_pos hjn] at hj
  cases hj
 ·have : bM fs ops.size st (ao (Array.replicate ops.size false))=st:=by
   have hf : ∀ j,j < ops.size→ao (Array.replicate ops.size false) j=false:=by
    intro j hj;unfold ao;rw [Array.getD_eq_getD_getElem?,Array.getElem?_replicate,if_pos hj];rfl
   have hz : ∀ {V : Type} (wr : Nat→Option V) (x0 : V),dE ops.size wr x0 (ao (Array.replicate ops.size false))=x0:=by
    intro V wr x0
    rw [bv (ls':=fun _=>false) (fun j hj _=>hf j hj)]
    have : ∀ n,dE n wr x0 (fun _=>false)=x0:=by
     intro n;induction n with
     |zero=>rfl
     |succ n ih=>rw [eF];simp [ih]
    exact this _
   cases st
   unfold bM
   simp [hz]
  rw [this]
  have hg:=hs.1.grow (Ext.drew (fun _=>False) w)
  exact ⟨L,hg.1,hs.2.1,hd,fun n=>(hs.2.2 n).mono hg.2 (KC.refl _ _)⟩
end
end Go.Ab
namespace Go.Ab
open Go.Proofs
abbrev jO (a : List am) (ra : Int) (b : List am) (rb : Int) (hints : List Vc) : List PV:=[.rptr (aY a) 0,.rptr (aY b) 0,.rptr (Z ra) 0,.rptr (Z rb) 0,.rptr (aT hints) 0]
theorem A2 (a : List am) (ra : Int) (b : List am) (rb : Int) (hints : List Vc) : ab Tryz.prog 232 [.pv (aY a),.pv (Z ra),.pv (aY b),.pv (Z rb),.pv (aT hints)] [] [] (.pv (.fn (.func 323) [] (jO a ra b rb hints))):=by
 refine Dp Tryz.func232 ?_
 intro C hP hN
 simp only [Tryz.f232] at hN ⊢
 with_reducible repeat' (first|refine Sp.h ?_|((first|refine Ss.h ?_|(refine Sb.h ?_ ?_ ?_<;>(try intro hgd)<;>try exact Xy))<;>simp -implicitDefEqProofs (maxSteps:=2000000) [hP,hN])|refine X2 ?_ ?_|(refine Xd ?_ ?_<;>intro hcd<;>try exact Xx))
def qJ (a : List am) (ra : Int) (b : List am) (rb : Int) : Bool:=az a && az b && bj ra 0 1048576 && bj rb 0 1048576
def pc (a : List am) (ra : Int) (b : List am) (rb : Int) : Vc:=(iF (aA a) (aA b) (ra+rb) 64).2.n
def pd (a : List am) (ra : Int) (b : List am) (rb : Int) (hints : List Vc) : List Vc:=
 if qJ a ra b rb then hints.filter bb++((if lD a b then [kn a b] else [])++(km++(if bb (pc a ra b rb) then [pc a ra b rb] else []))) else []
theorem sy {α : Type} {p : α→Bool} {l : List α} {k : Nat} {v : α} (hv : l[k]?=some v) : (l.filter p)=(l.take k).filter p++(if p v then [v] else [])++(l.drop (k+1)).filter p:=by
 obtain ⟨h,hv⟩:=List.getElem?_eq_some_iff.1 hv
 have e : l=l.take k++v :: l.drop (k+1):=by rw [← hv,List.getElem_cons_drop];exact (List.take_append_drop k l).symm
 conv=>lhs;rw [e]
 rw [List.filter_append,List.filter_cons]
 split<;>simp
structure CandT (l : Nat) (a : List am) (ra : Int) (b : List am) (rb : Int) (hints : List Vc) (t : Nat→AV) : Prop where
 g0 : t 0=.pv (.val (.func (.yield l) #[] #[]))
 g1 : t 1=.pv (.rptr (aY a) 0)
 g2 : t 2=.pv (.rptr (aY b) 0)
 g3 : t 3=.pv (.rptr (Z ra) 0)
 g4 : t 4=.pv (.rptr (Z rb) 0)
 g5 : t 5=.pv (.rptr (aT hints) 0)
def pf {P : Program} (E : YEnv P) (a : List am) (ra : Int) (b : List am) (rb : Int) (hints : List Vc) (n : Nat) : QY:=fun e t i s=>match e with
 |.normal=>s=false∧i=n∧CandT E.l a ra b rb hints t
 |.ret=>s=true∧i < E.xs.length
 |_=>False
theorem A3 (a : List am) (ra : Int) (b : List am) (rb : Int) (hints : List Vc) (ha : a.length≤9223372036854775807) (hb : b.length≤9223372036854775807) (hl : hints.length≤9223372036854775807) : qB Tryz.prog 323 (jO a ra b rb hints) ((pd a ra b rb hints).map av):=by
 refine vm (c:=(Tryz.f323.body).getD .skip) Tryz.func323 rfl (by kernel_rfl) rfl (by simp [Tryz.f323]) ?_
 intro E hEN hxs
 simp only [Tryz.f323,Option.getD_some] at hEN ⊢
 rw [← hxs]
 have hG : CandT E.l a ra b rb hints (tI E.l (jO a ra b rb hints)):=⟨rfl,rfl,rfl,rfl,rfl,rfl⟩
 generalize tI E.l (jO a ra b rb hints)=t at *
 obtain ⟨g0,g1,g2,g3,g4,g5⟩:=hG
 have hF:=dK
 have ca:=lK a ha
 have cb:=lK b hb
 have cra:=y9 ra
 have crb:=y9 rb
 have hcl : pd a ra b rb hints=if qJ a ra b rb then hints.filter bb++((if lD a b then [kn a b] else [])++(km++(if bb (pc a ra b rb) then [pc a ra b rb] else []))) else []:=rfl
 have hcb : qJ a ra b rb=(az a && az b && bj ra 0 1048576 && bj rb 0 1048576):=rfl
 cases hok : qJ a ra b rb with
 |false=>
  rw [hok] at hcl hcb
  simp only [Bool.false_eq_true,if_false] at hcl
  have hx0 : E.xs.length=0:=by rw [hxs,hcl];rfl
  refine aK.seq ?_
  refine aK.walk fun C hP hN=>?_
  rw [hEN] at hN
  cases hpa : az a
  ·rw [hpa] at ca
   repeat' (first
    |with_reducible refine af.seq ?_
    |(with_reducible ((first|refine af.region hF (hn:=[]) (by kernel_rfl) ?_|refine aO (ca) ?_|refine aO (cb) ?_|refine aO (cra) ?_|refine aO (crb) ?_|refine af.cond' ?_);simp -implicitDefEqProofs (maxSteps:=2000000) [hP,hN,g0,g1,g2,g3,g4,g5]))
    |(with_reducible refine aR (by simp [g0,g1,g2,g3,g4,g5]) (fun hgd=>?_) (fun hgd=>?_)<;>first|(exfalso;simp at hgd;done)|(exfalso;simp at hgd;omega)|simp -implicitDefEqProofs (maxSteps:=2000000) [hP,hN,g0,g1,g2,g3,g4,g5])
    |with_reducible refine aB ?_ ?_
    |(with_reducible refine aw (fun hcd=>?_) (fun hcd=>?_)<;>(try (exfalso;clear hP hN;simp_all;done))<;>(try (exfalso;simp at *;omega)))
    |with_reducible refine af.block ?_
    |(with_reducible ((first|refine af.skip ?_|refine af.exit ?_|refine af.ret ?_);simp [g0,g1,g2,g3,g4,g5])))
   all_goals exact ⟨.inr rfl,by simp [hx0]⟩
  rw [hpa] at ca hcb
  cases hpb : az b
  ·rw [hpb] at cb
   repeat' (first
    |with_reducible refine af.seq ?_
    |(with_reducible ((first|refine af.region hF (hn:=[]) (by kernel_rfl) ?_|refine aO (ca) ?_|refine aO (cb) ?_|refine aO (cra) ?_|refine aO (crb) ?_|refine af.cond' ?_);simp -implicitDefEqProofs (maxSteps:=2000000) [hP,hN,g0,g1,g2,g3,g4,g5]))
    |(with_reducible refine aR (by simp [g0,g1,g2,g3,g4,g5]) (fun hgd=>?_) (fun hgd=>?_)<;>first|(exfalso;simp at hgd;done)|(exfalso;simp at hgd;omega)|simp -implicitDefEqProofs (maxSteps:=2000000) [hP,hN,g0,g1,g2,g3,g4,g5])
    |with_reducible refine aB ?_ ?_
    |(with_reducible refine aw (fun hcd=>?_) (fun hcd=>?_)<;>(try (exfalso;clear hP hN;simp_all;done))<;>(try (exfalso;simp at *;omega)))
    |with_reducible refine af.block ?_
    |(with_reducible ((first|refine af.skip ?_|refine af.exit ?_|refine af.ret ?_);simp [g0,g1,g2,g3,g4,g5])))
   all_goals exact ⟨.inr rfl,by simp [hx0]⟩
  rw [hpb] at cb hcb
  cases hra : bj ra 0 1048576
  ·rw [hra] at cra
   repeat' (first
    |with_reducible refine af.seq ?_
    |(with_reducible ((first|refine af.region hF (hn:=[]) (by kernel_rfl) ?_|refine aO (ca) ?_|refine aO (cb) ?_|refine aO (cra) ?_|refine aO (crb) ?_|refine af.cond' ?_);simp -implicitDefEqProofs (maxSteps:=2000000) [hP,hN,g0,g1,g2,g3,g4,g5]))
    |(with_reducible refine aR (by simp [g0,g1,g2,g3,g4,g5]) (fun hgd=>?_) (fun hgd=>?_)<;>first|(exfalso;simp at hgd;done)|(exfalso;simp at hgd;omega)|simp -implicitDefEqProofs (maxSteps:=2000000) [hP,hN,g0,g1,g2,g3,g4,g5])
    |with_reducible refine aB ?_ ?_
    |(with_reducible refine aw (fun hcd=>?_) (fun hcd=>?_)<;>(try (exfalso;clear hP hN;simp_all;done))<;>(try (exfalso;simp at *;omega)))
    |with_reducible refine af.block ?_
    |(with_reducible ((first|refine af.skip ?_|refine af.exit ?_|refine af.ret ?_);simp [g0,g1,g2,g3,g4,g5])))
   all_goals exact ⟨.inr rfl,by simp [hx0]⟩
  rw [hra] at cra hcb
  have hrb : bj rb 0 1048576=false:=by simpa using hcb.symm
  rw [hrb] at crb
  repeat' (first
   |with_reducible refine af.seq ?_
   |(with_reducible ((first|refine af.region hF (hn:=[]) (by kernel_rfl) ?_|refine aO (ca) ?_|refine aO (cb) ?_|refine aO (cra) ?_|refine aO (crb) ?_|refine af.cond' ?_);simp -implicitDefEqProofs (maxSteps:=2000000) [hP,hN,g0,g1,g2,g3,g4,g5]))
   |(with_reducible refine aR (by simp [g0,g1,g2,g3,g4,g5]) (fun hgd=>?_) (fun hgd=>?_)<;>first|(exfalso;simp at hgd;done)|(exfalso;simp at hgd;omega)|simp -implicitDefEqProofs (maxSteps:=2000000) [hP,hN,g0,g1,g2,g3,g4,g5])
   |with_reducible refine aB ?_ ?_
   |(with_reducible refine aw (fun hcd=>?_) (fun hcd=>?_)<;>(try (exfalso;clear hP hN;simp_all;done))<;>(try (exfalso;simp at *;omega)))
   |with_reducible refine af.block ?_
   |(with_reducible ((first|refine af.skip ?_|refine af.exit ?_|refine af.ret ?_);simp [g0,g1,g2,g3,g4,g5])))
  all_goals exact ⟨.inr rfl,by simp [hx0]⟩
 |true=>
 have hk:=hok
 rw [hcb] at hk
 simp only [Bool.and_eq_true] at hk
 obtain ⟨⟨⟨hpa,hpb⟩,hra⟩,hrb⟩:=hk
 rw [hpa] at ca
 rw [hpb] at cb
 rw [hra] at cra
 rw [hrb] at crb
 rw [hok] at hcl
 simp only [if_true] at hcl
 rw [hcl] at hxs
 clear hcl hcb
 refine aK.seq (aK.mono (Q:=pf E a ra b rb hints 0) ?_ ?_)
 ·refine aK.walk fun C hP hN=>?_
  rw [hEN] at hN
  repeat' (first
   |with_reducible refine af.seq ?_
   |(with_reducible ((first|refine af.region hF (hn:=[]) (by kernel_rfl) ?_|refine aO (ca) ?_|refine aO (cb) ?_|refine aO (cra) ?_|refine aO (crb) ?_|refine af.cond' ?_);simp -implicitDefEqProofs (maxSteps:=2000000) [hP,hN,g0,g1,g2,g3,g4,g5]))
   |(with_reducible refine aR (by simp [g0,g1,g2,g3,g4,g5]) (fun hgd=>?_) (fun hgd=>?_)<;>first|(exfalso;simp at hgd;done)|(exfalso;simp at hgd;omega)|simp -implicitDefEqProofs (maxSteps:=2000000) [hP,hN,g0,g1,g2,g3,g4,g5])
   |with_reducible refine aB ?_ ?_
   |(with_reducible refine aw (fun hcd=>?_) (fun hcd=>?_)<;>(try (exfalso;clear hP hN;simp_all;done))<;>(try (exfalso;simp at *;omega)))
   |with_reducible refine af.block ?_
   |(with_reducible ((first|refine af.skip ?_|refine af.exit ?_|refine af.ret ?_);simp [g0,g1,g2,g3,g4,g5])))
  all_goals exact ⟨rfl,rfl,by constructor<;>simp [bi,aq,g0,g1,g2,g3,g4,g5]⟩
 clear g0 g1 g2 g3 g4 g5
 rintro e t i s h
 cases e with
 |ret=>exact ⟨.inr rfl,by obtain ⟨rfl,h⟩:=h;exact h⟩
 |normal=>
  obtain ⟨rfl,rfl,hG⟩:=h
  show aK E _ _ _ _ _
  refine aK.seq (aK.mono (Q:=pf E a ra b rb hints (hints.filter bb).length) ?_ ?_)
  ·obtain ⟨g0,g1,g2,g3,g4,g5⟩:=hG
   refine aK.seq ?_
   refine aK.walk fun C hP hN=>?_
   rw [hEN] at hN
   repeat' (first
    |with_reducible refine af.seq ?_
    |(with_reducible ((first|refine af.region hF (hn:=[]) (by kernel_rfl) ?_|refine af.cond' ?_);simp -implicitDefEqProofs (maxSteps:=2000000) [hP,hN,g0,g1,g2,g3,g4,g5]))
    |(with_reducible refine aR (by simp [g0,g1,g2,g3,g4,g5]) (fun hgd=>?_) (fun hgd=>?_)<;>first|(exfalso;simp at hgd;done)|(exfalso;simp at hgd;omega)|simp -implicitDefEqProofs (maxSteps:=2000000) [hP,hN,g0,g1,g2,g3,g4,g5])
    |with_reducible refine aB ?_ ?_
    |(with_reducible refine aw (fun hcd=>?_) (fun hcd=>?_)<;>(try (exfalso;clear hP hN;simp_all;done))<;>(try (exfalso;simp at *;omega)))
    |with_reducible refine af.block ?_
    |(with_reducible ((first|refine af.skip ?_|refine af.exit ?_|refine af.ret ?_);simp [g0,g1,g2,g3,g4,g5])))
   show aK E _ _ _ _ _
   refine aK.block ?_
   refine aK.loopN hints.length (fun k t i s=>s=false∧i=((hints.take k).filter bb).length∧CandT E.l a ra b rb hints t∧t 32=.pv (aT hints)∧t 33=.pv (Z hints.length)∧t 34=.pv (Z k)) ?_ ?_
   ·refine ⟨rfl,rfl,?_,?_⟩
    ·constructor<;>simp [bi,aq,g0,g1,g2,g3,g4,g5]
    ·simp [bi,aq]
   clear g0 g1 g2 g3 g4 g5
   rintro k t i s hk ⟨rfl,rfl,⟨g0,g1,g2,g3,g4,g5⟩,g32,g33,g34⟩
   refine aK.blocks fun C hP hN=>?_
   rw [hEN] at hN
   by_cases hlt : k < hints.length
   ·have hwr:=aJ hlt hl
    generalize hxe : hints[k]=v at *
    have hx : hints[k]?=some v:=by rw [List.getElem?_eq_getElem hlt,hxe]
    have cu:=rW v
    have hft:=sy (p:=bb) hx
    have htk : hints.take (k+1)=hints.take k++[v]:=by rw [List.take_add_one,hx];rfl
    refine aU.seq ?_
    repeat' (first
     |with_reducible refine af.seq ?_
     |(with_reducible ((first|refine af.region hF (hn:=[]) (by kernel_rfl) ?_|refine af.cond' ?_);simp -implicitDefEqProofs (maxSteps:=2000000) [hP,hN,g0,g1,g2,g3,g4,g5,g32,g33,g34,hlt]))
     |(with_reducible refine aR (by simp [g0,g1,g2,g3,g4,g5,g32,g33,g34,hlt]) (fun hgd=>?_) (fun hgd=>?_)<;>first|(exfalso;simp at hgd;done)|(exfalso;simp at hgd;omega)|simp -implicitDefEqProofs (maxSteps:=2000000) [hP,hN,g0,g1,g2,g3,g4,g5,g32,g33,g34,hlt])
     |with_reducible refine aB ?_ ?_
     |(with_reducible refine aw (fun hcd=>?_) (fun hcd=>?_)<;>(try (exfalso;clear hP hN;simp_all;done))<;>(try (exfalso;simp at *;omega)))
     |with_reducible refine af.block ?_
     |(with_reducible ((first|refine af.skip ?_|refine af.exit ?_|refine af.ret ?_);simp [g0,g1,g2,g3,g4,g5,g32,g33,g34,hlt])))
    show aU E C _ _ _ _ _
    refine aU.seq ?_
    repeat' (first
     |with_reducible refine af.seq ?_
     |(with_reducible ((first|refine af.region hF (hn:=[]) (by kernel_rfl) ?_|refine af.cond' ?_);simp -implicitDefEqProofs (maxSteps:=2000000) [hP,hN,g0,g1,g2,g3,g4,g5,g32,g33,g34,hlt]))
     |(with_reducible refine aR (by simp [g0,g1,g2,g3,g4,g5,g32,g33,g34,hlt]) (fun hgd=>?_) (fun hgd=>?_)<;>first|(exfalso;simp at hgd;done)|(exfalso;simp at hgd;omega)|simp -implicitDefEqProofs (maxSteps:=2000000) [hP,hN,g0,g1,g2,g3,g4,g5,g32,g33,g34,hlt])
     |with_reducible refine aB ?_ ?_
     |(with_reducible refine aw (fun hcd=>?_) (fun hcd=>?_)<;>(try (exfalso;clear hP hN;simp_all;done))<;>(try (exfalso;simp at *;omega)))
     |with_reducible refine af.block ?_
     |(with_reducible ((first|refine af.skip ?_|refine af.exit ?_|refine af.ret ?_);simp [g0,g1,g2,g3,g4,g5,g32,g33,g34,hlt])))
    refine af.skip ?_
    show aU E C _ _ _ _ _
    refine aU.seqY (aU.block ?_)
    refine aU.seq ?_
    repeat' (first
     |with_reducible refine af.seq ?_
     |(with_reducible ((first|refine af.region hF (hn:=[]) (by kernel_rfl) ?_|refine af.cond' ?_);simp -implicitDefEqProofs (maxSteps:=2000000) [hP,hN,g0,g1,g2,g3,g4,g5,g32,g33,g34,hlt,hx,hxe]))
     |(with_reducible refine aR (by simp [g0,g1,g2,g3,g4,g5,g32,g33,g34,hlt,hx,hxe]) (fun hgd=>?_) (fun hgd=>?_)<;>first|(exfalso;simp at hgd;done)|(exfalso;simp at hgd;omega)|simp -implicitDefEqProofs (maxSteps:=2000000) [hP,hN,g0,g1,g2,g3,g4,g5,g32,g33,g34,hlt,hx,hxe])
     |with_reducible refine aB ?_ ?_
     |(with_reducible refine aw (fun hcd=>?_) (fun hcd=>?_)<;>(try (exfalso;clear hP hN;simp_all;done))<;>(try (exfalso;simp at *;omega)))
     |with_reducible refine af.block ?_
     |(with_reducible ((first|refine af.skip ?_|refine af.exit ?_|refine af.ret ?_);simp [g0,g1,g2,g3,g4,g5,g32,g33,g34,hlt,hx,hxe])))
    show aU E C _ _ _ _ _
    cases hu : bb v with
    |true=>
     rw [hu] at cu
     have hi : E.xs[((hints.take k).filter bb).length]?=some (av v):=by
      rw [hxs,hft,hu];simp
     refine aU.seqY (aU.yield (hn:=[]) (d:=43) (f:=41) (x:=42) (pre:=[_,_,_,_,_]) (post:=[_,_]) rfl (by kernel_rfl) rfl rfl rfl rfl (by rw [hEN];decide) ?_)
     rw [hEN]
     simp -implicitDefEqProofs (maxSteps:=2000000) [g0,g1,g2,g3,g4,g5,g32,g33,g34,hlt,hx,hxe]
     refine aO cu ?_
     simp -implicitDefEqProofs (maxSteps:=2000000) [g0,g1,g2,g3,g4,g5,g32,g33,g34,hlt,hx,hxe,bi]
     refine ⟨by simp [cV,bi,aq],hi,?_,?_⟩
     ·show aK E _ _ _ _ _
      refine aK.cond (b:=true) (by simp [bi,aq]) (fun _=>aK.ret ?_) (fun h=>by cases h)
      exact ⟨rfl,(List.getElem?_eq_some_iff.1 hi).1⟩
     ·show aK E _ _ _ _ _
      refine aK.cond (b:=false) (by simp [bi,aq]) (fun h=>by cases h) (fun _=>aK.skip ?_)
      show aK E _ _ _ _ _
      clear hP hN
      refine aK.walk fun C hP hN=>?_
      rw [hEN] at hN
      repeat' (first
       |with_reducible refine af.seq ?_
       |(with_reducible ((first|refine af.region hF (hn:=[]) (by kernel_rfl) ?_|refine af.cond' ?_);simp -implicitDefEqProofs (maxSteps:=2000000) [hP,hN,g0,g1,g2,g3,g4,g5,g32,g33,g34,hlt,hx,hxe,hwr,bi]))
       |(with_reducible refine aR (by simp [g0,g1,g2,g3,g4,g5,g32,g33,g34,hlt,hx,hxe,hwr,bi]) (fun hgd=>?_) (fun hgd=>?_)<;>first|(exfalso;simp at hgd;done)|(exfalso;simp at hgd;omega)|simp -implicitDefEqProofs (maxSteps:=2000000) [hP,hN,g0,g1,g2,g3,g4,g5,g32,g33,g34,hlt,hx,hxe,hwr,bi])
       |with_reducible refine aB ?_ ?_
       |(with_reducible refine aw (fun hcd=>?_) (fun hcd=>?_)<;>(try (exfalso;clear hP hN;simp_all;done))<;>(try (exfalso;simp at *;omega)))
       |with_reducible refine af.block ?_
       |(with_reducible ((first|refine af.skip ?_|refine af.exit ?_|refine af.ret ?_);simp [g0,g1,g2,g3,g4,g5,g32,g33,g34,hlt,hx,hxe,hwr,bi])))
      repeat' (refine And.intro ?_ ?_)
      all_goals first|rfl|(rw [htk,List.filter_append];simp [hu];done)|(simp [hu,htk,bi,aq,g32,g33,hwr];done)|(constructor<;>simp [bi,aq,g0,g1,g2,g3,g4,g5])
    |false=>
     rw [hu] at cu
     refine aU.walk ?_
     repeat' (first
      |with_reducible refine af.seq ?_
      |(with_reducible ((first|refine af.region hF (hn:=[]) (by kernel_rfl) ?_|refine aO (cu) ?_|refine af.cond' ?_);simp -implicitDefEqProofs (maxSteps:=2000000) [hP,hN,g0,g1,g2,g3,g4,g5,g32,g33,g34,hlt,hx,hxe]))
      |(with_reducible refine aR (by simp [g0,g1,g2,g3,g4,g5,g32,g33,g34,hlt,hx,hxe]) (fun hgd=>?_) (fun hgd=>?_)<;>first|(exfalso;simp at hgd;done)|(exfalso;simp at hgd;omega)|simp -implicitDefEqProofs (maxSteps:=2000000) [hP,hN,g0,g1,g2,g3,g4,g5,g32,g33,g34,hlt,hx,hxe])
      |with_reducible refine aB ?_ ?_
      |(with_reducible refine aw (fun hcd=>?_) (fun hcd=>?_)<;>(try (exfalso;clear hP hN;simp_all;done))<;>(try (exfalso;simp at *;omega)))
      |with_reducible refine af.block ?_
      |(with_reducible ((first|refine af.skip ?_|refine af.exit ?_|refine af.ret ?_);simp [g0,g1,g2,g3,g4,g5,g32,g33,g34,hlt,hx,hxe])))
     show aK E _ _ _ _ _
     clear hP hN
     refine aK.walk fun C hP hN=>?_
     rw [hEN] at hN
     repeat' (first
      |with_reducible refine af.seq ?_
      |(with_reducible ((first|refine af.region hF (hn:=[]) (by kernel_rfl) ?_|refine af.cond' ?_);simp -implicitDefEqProofs (maxSteps:=2000000) [hP,hN,g0,g1,g2,g3,g4,g5,g32,g33,g34,hlt,hx,hxe,hwr,bi]))
      |(with_reducible refine aR (by simp [g0,g1,g2,g3,g4,g5,g32,g33,g34,hlt,hx,hxe,hwr,bi]) (fun hgd=>?_) (fun hgd=>?_)<;>first|(exfalso;simp at hgd;done)|(exfalso;simp at hgd;omega)|simp -implicitDefEqProofs (maxSteps:=2000000) [hP,hN,g0,g1,g2,g3,g4,g5,g32,g33,g34,hlt,hx,hxe,hwr,bi])
      |with_reducible refine aB ?_ ?_
      |(with_reducible refine aw (fun hcd=>?_) (fun hcd=>?_)<;>(try (exfalso;clear hP hN;simp_all;done))<;>(try (exfalso;simp at *;omega)))
      |with_reducible refine af.block ?_
      |(with_reducible ((first|refine af.skip ?_|refine af.exit ?_|refine af.ret ?_);simp [g0,g1,g2,g3,g4,g5,g32,g33,g34,hlt,hx,hxe,hwr,bi])))
     repeat' (refine And.intro ?_ ?_)
     all_goals first|rfl|(rw [htk,List.filter_append];simp [hu];done)|(simp [hu,htk,bi,aq,g32,g33,hwr];done)|(constructor<;>simp [bi,aq,g0,g1,g2,g3,g4,g5])
   ·have hin : k=hints.length:=by omega
    subst hin
    refine aU.walk ?_
    repeat' (first
     |with_reducible refine af.seq ?_
     |(with_reducible ((first|refine af.region hF (hn:=[]) (by kernel_rfl) ?_|refine af.cond' ?_);simp -implicitDefEqProofs (maxSteps:=2000000) [hP,hN,g0,g1,g2,g3,g4,g5,g32,g33,g34]))
     |(with_reducible refine aR (by simp [g0,g1,g2,g3,g4,g5,g32,g33,g34]) (fun hgd=>?_) (fun hgd=>?_)<;>first|(exfalso;simp at hgd;done)|(exfalso;simp at hgd;omega)|simp -implicitDefEqProofs (maxSteps:=2000000) [hP,hN,g0,g1,g2,g3,g4,g5,g32,g33,g34])
     |with_reducible refine aB ?_ ?_
     |(with_reducible refine aw (fun hcd=>?_) (fun hcd=>?_)<;>(try (exfalso;clear hP hN;simp_all;done))<;>(try (exfalso;simp at *;omega)))
     |with_reducible refine af.block ?_
     |(with_reducible ((first|refine af.skip ?_|refine af.exit ?_|refine af.ret ?_);simp [g0,g1,g2,g3,g4,g5,g32,g33,g34])))
    exact ⟨rfl,rfl,by constructor<;>simp [bi,aq,g0,g1,g2,g3,g4,g5]⟩
  clear hG
  rintro e t i s h
  cases e with
  |ret=>exact ⟨.inr rfl,by obtain ⟨rfl,h⟩:=h;exact h⟩
  |normal=>
   obtain ⟨rfl,rfl,hG⟩:=h
   show aK E _ _ _ _ _
   generalize hn1 : (hints.filter bb).length=n1 at *
   refine aK.seq (aK.mono (Q:=pf E a ra b rb hints (n1+(if lD a b then [kn a b] else []).length)) ?_ ?_)
   ·obtain ⟨g0,g1,g2,g3,g4,g5⟩:=hG
    refine aK.blocks fun C hP hN=>?_
    rw [hEN] at hN
    have cm:=A1 a b ha hb
    refine aU.seq ?_
    cases hmb : lD a b with
    |false=>
     rw [hmb] at cm
     repeat' (first
      |with_reducible refine af.seq ?_
      |(with_reducible ((first|refine af.region hF (hn:=[]) (by kernel_rfl) ?_|refine aO (cm) ?_|refine af.cond' ?_);simp -implicitDefEqProofs (maxSteps:=2000000) [hP,hN,g0,g1,g2,g3,g4,g5]))
      |(with_reducible refine aR (by simp [g0,g1,g2,g3,g4,g5]) (fun hgd=>?_) (fun hgd=>?_)<;>first|(exfalso;simp at hgd;done)|(exfalso;simp at hgd;omega)|simp -implicitDefEqProofs (maxSteps:=2000000) [hP,hN,g0,g1,g2,g3,g4,g5])
      |with_reducible refine aB ?_ ?_
      |(with_reducible refine aw (fun hcd=>?_) (fun hcd=>?_)<;>(try (exfalso;clear hP hN;simp_all;done))<;>(try (exfalso;simp at *;omega)))
      |with_reducible refine af.block ?_
      |(with_reducible ((first|refine af.skip ?_|refine af.exit ?_|refine af.ret ?_);simp [g0,g1,g2,g3,g4,g5])))
     show aU E C _ _ _ _ _
     refine aU.walk ?_
     repeat' (first
      |with_reducible refine af.seq ?_
      |(with_reducible ((first|refine af.region hF (hn:=[]) (by kernel_rfl) ?_|refine af.cond' ?_);simp -implicitDefEqProofs (maxSteps:=2000000) [hP,hN,g0,g1,g2,g3,g4,g5]))
      |(with_reducible refine aR (by simp [g0,g1,g2,g3,g4,g5]) (fun hgd=>?_) (fun hgd=>?_)<;>first|(exfalso;simp at hgd;done)|(exfalso;simp at hgd;omega)|simp -implicitDefEqProofs (maxSteps:=2000000) [hP,hN,g0,g1,g2,g3,g4,g5])
      |with_reducible refine aB ?_ ?_
      |(with_reducible refine aw (fun hcd=>?_) (fun hcd=>?_)<;>(try (exfalso;clear hP hN;simp_all;done))<;>(try (exfalso;simp at *;omega)))
      |with_reducible refine af.block ?_
      |(with_reducible ((first|refine af.skip ?_|refine af.exit ?_|refine af.ret ?_);simp [g0,g1,g2,g3,g4,g5])))
     exact ⟨rfl,by simp,by constructor<;>simp [bi,aq,g0,g1,g2,g3,g4,g5]⟩
    |true=>
     rw [hmb] at cm
     have hi : E.xs[n1]?=some (av (kn a b)):=by rw [hxs,hmb,← hn1];simp
     generalize kn a b=v at *
     repeat' (first
      |with_reducible refine af.seq ?_
      |(with_reducible ((first|refine af.region hF (hn:=[]) (by kernel_rfl) ?_|refine aO (cm) ?_|refine af.cond' ?_);simp -implicitDefEqProofs (maxSteps:=2000000) [hP,hN,g0,g1,g2,g3,g4,g5]))
      |(with_reducible refine aR (by simp [g0,g1,g2,g3,g4,g5]) (fun hgd=>?_) (fun hgd=>?_)<;>first|(exfalso;simp at hgd;done)|(exfalso;simp at hgd;omega)|simp -implicitDefEqProofs (maxSteps:=2000000) [hP,hN,g0,g1,g2,g3,g4,g5])
      |with_reducible refine aB ?_ ?_
      |(with_reducible refine aw (fun hcd=>?_) (fun hcd=>?_)<;>(try (exfalso;clear hP hN;simp_all;done))<;>(try (exfalso;simp at *;omega)))
      |with_reducible refine af.block ?_
      |(with_reducible ((first|refine af.skip ?_|refine af.exit ?_|refine af.ret ?_);simp [g0,g1,g2,g3,g4,g5])))
     show aU E C _ _ _ _ _
     refine aU.seqY (aU.yield (hn:=[]) (d:=57) (f:=55) (x:=56) (pre:=[_,_,_,_]) (post:=[_,_]) rfl (by kernel_rfl) rfl rfl rfl rfl (by rw [hEN];decide) ?_)
     rw [hEN]
     simp -implicitDefEqProofs (maxSteps:=2000000) [g0,g1,g2,g3,g4,g5,bi]
     refine ⟨by simp [cV,bi,aq],hi,?_,?_⟩
     ·show aK E _ _ _ _ _
      refine aK.cond (b:=true) (by simp [bi,aq]) (fun _=>aK.ret ?_) (fun h=>by cases h)
      exact ⟨rfl,(List.getElem?_eq_some_iff.1 hi).1⟩
     ·show aK E _ _ _ _ _
      refine aK.cond (b:=false) (by simp [bi,aq]) (fun h=>by cases h) (fun _=>aK.skip ?_)
      exact ⟨rfl,rfl,by constructor<;>simp [bi,aq,g0,g1,g2,g3,g4,g5]⟩
   clear hG
   rintro e t i s h
   cases e with
   |ret=>exact ⟨.inr rfl,by obtain ⟨rfl,h⟩:=h;exact h⟩
   |normal=>
    obtain ⟨rfl,rfl,hG⟩:=h
    show aK E _ _ _ _ _
    generalize hml : (if lD a b then [kn a b] else [])=ml at *
    generalize hn2 : n1+ml.length=n2 at *
    refine aK.seq (aK.mono (Q:=pf E a ra b rb hints (n2+6)) ?_ ?_)
    ·obtain ⟨g0,g1,g2,g3,g4,g5⟩:=hG
     have cax:=A0
     refine aK.seq ?_
     refine aK.walk fun C hP hN=>?_
     rw [hEN] at hN
     repeat' (first
      |with_reducible refine af.seq ?_
      |(with_reducible ((first|refine af.region hF (hn:=[]) (by kernel_rfl) ?_|refine aO (cax) ?_|refine af.cond' ?_);simp -implicitDefEqProofs (maxSteps:=2000000) [hP,hN,g0,g1,g2,g3,g4,g5]))
      |(with_reducible refine aR (by simp [g0,g1,g2,g3,g4,g5]) (fun hgd=>?_) (fun hgd=>?_)<;>first|(exfalso;simp at hgd;done)|(exfalso;simp at hgd;omega)|simp -implicitDefEqProofs (maxSteps:=2000000) [hP,hN,g0,g1,g2,g3,g4,g5])
      |with_reducible refine aB ?_ ?_
      |(with_reducible refine aw (fun hcd=>?_) (fun hcd=>?_)<;>(try (exfalso;clear hP hN;simp_all;done))<;>(try (exfalso;simp at *;omega)))
      |with_reducible refine af.block ?_
      |(with_reducible ((first|refine af.skip ?_|refine af.exit ?_|refine af.ret ?_);simp [g0,g1,g2,g3,g4,g5])))
     show aK E _ _ _ _ _
     refine aK.block ?_
     refine aK.loopN 6 (fun k t i s=>s=false∧i=n2+k∧CandT E.l a ra b rb hints t∧t 60=.pv (aT km)∧t 61=.pv (Z 6)∧t 62=.pv (Z k)) ?_ ?_
     ·refine ⟨rfl,rfl,?_,?_⟩
      ·constructor<;>simp [bi,aq,g0,g1,g2,g3,g4,g5]
      ·simp [bi,aq]
     clear g0 g1 g2 g3 g4 g5
     rintro k t i s hk ⟨rfl,rfl,⟨g0,g1,g2,g3,g4,g5⟩,g60,g61,g62⟩
     refine aK.blocks fun C hP hN=>?_
     rw [hEN] at hN
     by_cases hlt : k < 6
     ·have hwr : IntKind.i64.wrap ((k : Int)+1)=(k : Int)+1:=aa (by omega) (by omega)
      have hltI : (k : Int) < 6:=by omega
      have hltL : k < km.length:=hlt
      generalize hxe : km[k]=v at *
      have hx : km[k]?=some v:=by rw [List.getElem?_eq_getElem hltL,hxe]
      have hi : E.xs[n2+k]?=some (av v):=by
       rw [hxs,← hn2,← hn1,List.getElem?_map,List.getElem?_append_right (by omega),List.getElem?_append_right (by omega),show (hints.filter bb).length+ml.length+k - (hints.filter bb).length - ml.length=k by omega,List.getElem?_append_left hltL,hx];rfl
      generalize km=AX at *
      refine aU.seq ?_
      repeat' (first
       |with_reducible refine af.seq ?_
       |(with_reducible ((first|refine af.region hF (hn:=[]) (by kernel_rfl) ?_|refine af.cond' ?_);simp -implicitDefEqProofs (maxSteps:=2000000) [hP,hN,g0,g1,g2,g3,g4,g5,g60,g61,g62,hlt,hltI]))
       |(with_reducible refine aR (by simp [g0,g1,g2,g3,g4,g5,g60,g61,g62,hlt,hltI]) (fun hgd=>?_) (fun hgd=>?_)<;>first|(exfalso;simp at hgd;done)|(exfalso;simp at hgd;omega)|simp -implicitDefEqProofs (maxSteps:=2000000) [hP,hN,g0,g1,g2,g3,g4,g5,g60,g61,g62,hlt,hltI])
       |with_reducible refine aB ?_ ?_
       |(with_reducible refine aw (fun hcd=>?_) (fun hcd=>?_)<;>(try (exfalso;clear hP hN;simp_all;done))<;>(try (exfalso;simp at *;omega)))
       |with_reducible refine af.block ?_
       |(with_reducible ((first|refine af.skip ?_|refine af.exit ?_|refine af.ret ?_);simp [g0,g1,g2,g3,g4,g5,g60,g61,g62,hlt,hltI])))
      show aU E C _ _ _ _ _
      refine aU.seq ?_
      repeat' (first
       |with_reducible refine af.seq ?_
       |(with_reducible ((first|refine af.region hF (hn:=[]) (by kernel_rfl) ?_|refine af.cond' ?_);simp -implicitDefEqProofs (maxSteps:=2000000) [hP,hN,g0,g1,g2,g3,g4,g5,g60,g61,g62,hlt,hltI]))
       |(with_reducible refine aR (by simp [g0,g1,g2,g3,g4,g5,g60,g61,g62,hlt,hltI]) (fun hgd=>?_) (fun hgd=>?_)<;>first|(exfalso;simp at hgd;done)|(exfalso;simp at hgd;omega)|simp -implicitDefEqProofs (maxSteps:=2000000) [hP,hN,g0,g1,g2,g3,g4,g5,g60,g61,g62,hlt,hltI])
       |with_reducible refine aB ?_ ?_
       |(with_reducible refine aw (fun hcd=>?_) (fun hcd=>?_)<;>(try (exfalso;clear hP hN;simp_all;done))<;>(try (exfalso;simp at *;omega)))
       |with_reducible refine af.block ?_
       |(with_reducible ((first|refine af.skip ?_|refine af.exit ?_|refine af.ret ?_);simp [g0,g1,g2,g3,g4,g5,g60,g61,g62,hlt,hltI])))
      refine af.skip ?_
      show aU E C _ _ _ _ _
      refine aU.seqY (aU.block ?_)
      refine aU.seq ?_
      repeat' (first
       |with_reducible refine af.seq ?_
       |(with_reducible ((first|refine af.region hF (hn:=[]) (by kernel_rfl) ?_|refine af.cond' ?_);simp -implicitDefEqProofs (maxSteps:=2000000) [hP,hN,g0,g1,g2,g3,g4,g5,g60,g61,g62,hlt,hltI,hltL,hx,hxe]))
       |(with_reducible refine aR (by simp [g0,g1,g2,g3,g4,g5,g60,g61,g62,hlt,hltI,hltL,hx,hxe]) (fun hgd=>?_) (fun hgd=>?_)<;>first|(exfalso;simp at hgd;done)|(exfalso;simp at hgd;omega)|simp -implicitDefEqProofs (maxSteps:=2000000) [hP,hN,g0,g1,g2,g3,g4,g5,g60,g61,g62,hlt,hltI,hltL,hx,hxe])
       |with_reducible refine aB ?_ ?_
       |(with_reducible refine aw (fun hcd=>?_) (fun hcd=>?_)<;>(try (exfalso;clear hP hN;simp_all;done))<;>(try (exfalso;simp at *;omega)))
       |with_reducible refine af.block ?_
       |(with_reducible ((first|refine af.skip ?_|refine af.exit ?_|refine af.ret ?_);simp [g0,g1,g2,g3,g4,g5,g60,g61,g62,hlt,hltI,hltL,hx,hxe])))
      show aU E C _ _ _ _ _
      refine aU.seqY (aU.yield (hn:=[]) (d:=68) (f:=66) (x:=67) (pre:=[_,_]) (post:=[_]) rfl (by kernel_rfl) rfl rfl rfl rfl (by rw [hEN];decide) ?_)
      rw [hEN]
      simp -implicitDefEqProofs (maxSteps:=2000000) [g0,g1,g2,g3,g4,g5,g60,g61,g62,hltL,hx,hxe,bi]
      refine ⟨by simp [cV,bi,aq],hi,?_,?_⟩
      ·show aK E _ _ _ _ _
       refine aK.cond (b:=true) (by simp [bi,aq]) (fun _=>aK.ret ?_) (fun h=>by cases h)
       exact ⟨rfl,(List.getElem?_eq_some_iff.1 hi).1⟩
      ·show aK E _ _ _ _ _
       refine aK.cond (b:=false) (by simp [bi,aq]) (fun h=>by cases h) (fun _=>aK.skip ?_)
       show aK E _ _ _ _ _
       clear hP hN
       refine aK.walk fun C hP hN=>?_
       rw [hEN] at hN
       repeat' (first
        |with_reducible refine af.seq ?_
        |(with_reducible ((first|refine af.region hF (hn:=[]) (by kernel_rfl) ?_|refine af.cond' ?_);simp -implicitDefEqProofs (maxSteps:=2000000) [hP,hN,g0,g1,g2,g3,g4,g5,g60,g61,g62,hwr,bi]))
        |(with_reducible refine aR (by simp [g0,g1,g2,g3,g4,g5,g60,g61,g62,hwr,bi]) (fun hgd=>?_) (fun hgd=>?_)<;>first|(exfalso;simp at hgd;done)|(exfalso;simp at hgd;omega)|simp -implicitDefEqProofs (maxSteps:=2000000) [hP,hN,g0,g1,g2,g3,g4,g5,g60,g61,g62,hwr,bi])
        |with_reducible refine aB ?_ ?_
        |(with_reducible refine aw (fun hcd=>?_) (fun hcd=>?_)<;>(try (exfalso;clear hP hN;simp_all;done))<;>(try (exfalso;simp at *;omega)))
        |with_reducible refine af.block ?_
        |(with_reducible ((first|refine af.skip ?_|refine af.exit ?_|refine af.ret ?_);simp [g0,g1,g2,g3,g4,g5,g60,g61,g62,hwr,bi])))
       repeat' (refine And.intro ?_ ?_)
       all_goals first|rfl|(simp [bi,aq,g60,g61,hwr];done)|(constructor<;>simp [bi,aq,g0,g1,g2,g3,g4,g5])
     ·have hin : k=6:=by omega
      subst hin
      refine aU.walk ?_
      repeat' (first
       |with_reducible refine af.seq ?_
       |(with_reducible ((first|refine af.region hF (hn:=[]) (by kernel_rfl) ?_|refine af.cond' ?_);simp -implicitDefEqProofs (maxSteps:=2000000) [hP,hN,g0,g1,g2,g3,g4,g5,g60,g61,g62]))
       |(with_reducible refine aR (by simp [g0,g1,g2,g3,g4,g5,g60,g61,g62]) (fun hgd=>?_) (fun hgd=>?_)<;>first|(exfalso;simp at hgd;done)|(exfalso;simp at hgd;omega)|simp -implicitDefEqProofs (maxSteps:=2000000) [hP,hN,g0,g1,g2,g3,g4,g5,g60,g61,g62])
       |with_reducible refine aB ?_ ?_
       |(with_reducible refine aw (fun hcd=>?_) (fun hcd=>?_)<;>(try (exfalso;clear hP hN;simp_all;done))<;>(try (exfalso;simp at *;omega)))
       |with_reducible refine af.block ?_
       |(with_reducible ((first|refine af.skip ?_|refine af.exit ?_|refine af.ret ?_);simp [g0,g1,g2,g3,g4,g5,g60,g61,g62])))
      exact ⟨rfl,rfl,by constructor<;>simp [bi,aq,g0,g1,g2,g3,g4,g5]⟩
    clear hG
    rintro e t i s h
    cases e with
    |ret=>exact ⟨.inr rfl,by obtain ⟨rfl,h⟩:=h;exact h⟩
    |normal=>
     obtain ⟨rfl,rfl,⟨g0,g1,g2,g3,g4,g5⟩⟩:=h
     show aK E _ _ _ _ _
     refine aK.blocks fun C hP hN=>?_
     rw [hEN] at hN
     have c1:=p6 a ha
     have c2:=p6 b hb
     have hla:=(bE hpa).2.1
     have hlb:=(bE hpb).2.1
     have hca:=eT hpa
     have hcb:=eT hpb
     simp only [bj,Bool.and_eq_true,decide_eq_true_eq] at hra hrb
     have hw : IntKind.i64.wrap (ra+rb)=ra+rb:=aa (by omega) (by omega)
     have c3:=yR (aA a) (aA b) (ra+rb) 64 (by omega) (by omega)
     have hnn : (iF (aA a) (aA b) (ra+rb) 64).2.n=pc a ra b rb:=rfl
     generalize iF (aA a) (aA b) (ra+rb) 64=R at *
     rw [← hnn] at hxs
     refine aU.draw (hn:=[]) (by kernel_rfl) (by kernel_rfl) ?_
     rw [hEN]
     simp -implicitDefEqProofs (maxSteps:=2000000) [g0,g1,g2,g3,g4,g5]
     refine lv c1 ?_
     simp -implicitDefEqProofs (maxSteps:=2000000) [g0,g1,g2,g3,g4,g5]
     refine lv c2 ?_
     simp -implicitDefEqProofs (maxSteps:=2000000) [g0,g1,g2,g3,g4,g5,hw]
     refine lv c3 ?_
     simp -implicitDefEqProofs (maxSteps:=2000000) [g0,g1,g2,g3,g4,g5,hw]
     refine ⟨by kernel_rfl,?_⟩
     have cu:=rW R.2.n
     refine aU.seq ?_
     cases hu : bb R.2.n with
     |false=>
      rw [hu] at cu
      have hL : n2+6=E.xs.length:=by
       rw [hxs,hu,List.length_map,List.length_append,List.length_append,List.length_append,hn1]
       simp only [Bool.false_eq_true,if_false,List.length_cons,List.length_nil];omega
      repeat' (first
       |with_reducible refine af.seq ?_
       |(with_reducible ((first|refine af.region hF (hn:=[]) (by kernel_rfl) ?_|refine aO (cu) ?_|refine af.cond' ?_);simp -implicitDefEqProofs (maxSteps:=2000000) [hP,hN,g0,g1,g2,g3,g4,g5]))
       |(with_reducible refine aR (by simp [g0,g1,g2,g3,g4,g5]) (fun hgd=>?_) (fun hgd=>?_)<;>first|(exfalso;simp at hgd;done)|(exfalso;simp at hgd;omega)|simp -implicitDefEqProofs (maxSteps:=2000000) [hP,hN,g0,g1,g2,g3,g4,g5])
       |with_reducible refine aB ?_ ?_
       |(with_reducible refine aw (fun hcd=>?_) (fun hcd=>?_)<;>(try (exfalso;clear hP hN;simp_all;done))<;>(try (exfalso;simp at *;omega)))
       |with_reducible refine af.block ?_
       |(with_reducible ((first|refine af.skip ?_|refine af.exit ?_|refine af.ret ?_);simp [g0,g1,g2,g3,g4,g5])))
      show aU E C _ _ _ _ _
      refine aU.walk ?_
      repeat' (first
       |with_reducible refine af.seq ?_
       |(with_reducible ((first|refine af.region hF (hn:=[]) (by kernel_rfl) ?_|refine af.cond' ?_);simp -implicitDefEqProofs (maxSteps:=2000000) [hP,hN,g0,g1,g2,g3,g4,g5]))
       |(with_reducible refine aR (by simp [g0,g1,g2,g3,g4,g5]) (fun hgd=>?_) (fun hgd=>?_)<;>first|(exfalso;simp at hgd;done)|(exfalso;simp at hgd;omega)|simp -implicitDefEqProofs (maxSteps:=2000000) [hP,hN,g0,g1,g2,g3,g4,g5])
       |with_reducible refine aB ?_ ?_
       |(with_reducible refine aw (fun hcd=>?_) (fun hcd=>?_)<;>(try (exfalso;clear hP hN;simp_all;done))<;>(try (exfalso;simp at *;omega)))
       |with_reducible refine af.block ?_
       |(with_reducible ((first|refine af.skip ?_|refine af.exit ?_|refine af.ret ?_);simp [g0,g1,g2,g3,g4,g5])))
      all_goals exact hL
     |true=>
      rw [hu] at cu
      have hL : n2+6+1=E.xs.length:=by
       rw [hxs,hu,List.length_map,List.length_append,List.length_append,List.length_append,hn1]
       simp only [if_true,List.length_cons,List.length_nil];omega
      have hi : E.xs[n2+6]?=some (av R.2.n):=by
       rw [hxs,hu,← hn2,← hn1,List.getElem?_map,List.getElem?_append_right (by omega),List.getElem?_append_right (by omega),show (hints.filter bb).length+ml.length+6 - (hints.filter bb).length - ml.length=6 by omega,List.getElem?_append_right (by decide)];rfl
      repeat' (first
       |with_reducible refine af.seq ?_
       |(with_reducible ((first|refine af.region hF (hn:=[]) (by kernel_rfl) ?_|refine aO (cu) ?_|refine af.cond' ?_);simp -implicitDefEqProofs (maxSteps:=2000000) [hP,hN,g0,g1,g2,g3,g4,g5]))
       |(with_reducible refine aR (by simp [g0,g1,g2,g3,g4,g5]) (fun hgd=>?_) (fun hgd=>?_)<;>first|(exfalso;simp at hgd;done)|(exfalso;simp at hgd;omega)|simp -implicitDefEqProofs (maxSteps:=2000000) [hP,hN,g0,g1,g2,g3,g4,g5])
       |with_reducible refine aB ?_ ?_
       |(with_reducible refine aw (fun hcd=>?_) (fun hcd=>?_)<;>(try (exfalso;clear hP hN;simp_all;done))<;>(try (exfalso;simp at *;omega)))
       |with_reducible refine af.block ?_
       |(with_reducible ((first|refine af.skip ?_|refine af.exit ?_|refine af.ret ?_);simp [g0,g1,g2,g3,g4,g5])))
      show aU E C _ _ _ _ _
      refine aU.cond (m:=81) (b:=true) (by simp) (fun _=>?_) (fun h=>by cases h)
      refine aU.yield (hn:=[]) (d:=85) (f:=82) (x:=84) (pre:=[_,_,_]) (post:=[]) rfl (by kernel_rfl) rfl rfl rfl rfl (by rw [hEN];decide) ?_
      rw [hEN]
      simp -implicitDefEqProofs (maxSteps:=2000000) [g0,g1,g2,g3,g4,g5,bi]
      exact ⟨rfl,hi,by omega,hL⟩
    |_=>exact h.elim
   |_=>exact h.elim
  |_=>exact h.elim
 |_=>exact h.elim
end Go.Ab
namespace Go.Ab
open Go.Proofs
set_option maxRecDepth 100000 in
theorem tJ : pJ Tryz.prog 231:=by
 refine ⟨by kernel_rfl,fun n args w=>?_⟩
 refine callsDIn_of_wpSIn Tryz.func231 rfl trivial fun c₀ cs hu=>?_
 apply wpSIn_seq
 apply wpSIn_region
 have hk : ∀ k,k < Tryz.f231.ntmps→k < args.size+(Tryz.f231.ntmps - args.size):=by intro k h;omega
 rw [Tryz.ntmps231] at hk
 have h0:=hk 0 (by decide)
 have h1:=hk 1 (by decide)
 have h2:=hk 2 (by decide)
 have h3:=hk 3 (by decide)
 simp [wpOpsSIn,go_sem,recoverD,hu,Tryz.ntmps231,Exit.thenS,h0,h1,h2,h3]
 refine wpSIn_cond (t:=false) (by simp [Act.eval,h0,h1,h2,h3]) ?_
 simp only [Bool.false_eq_true,if_false]
 refine wpSIn_of_wpIn rfl (wpIn_skip ?_)
 cases c₀
 simp_all [bodyPostS,results,Tryz.results231]
def ko (a : List am) (ra : Int) (b : List am) (rb : Int) (hints : List Vc) : Vc × Bool:=match (pd a ra b rb hints).find? (fun n=>iX n a ra b rb) with
 |some n=>(n,true)
 |none=>((0,0,0),false)
theorem uP {α : Type} {p : α→Bool} {l : List α} (h : ∀ j x,j < l.length→l[j]?=some x→p x=false) : l.find? p=none:=by
 rw [List.find?_eq_none]
 intro x hx
 obtain ⟨j,hj,rfl⟩:=List.mem_iff_getElem.1 hx
 rw [h j _ hj (List.getElem?_eq_getElem hj)];simp
theorem qo {α : Type} {p : α→Bool} : ∀ {l : List α} {i : Nat} {v : α},l[i]?=some v→p v=true→(∀ j x,j < i→l[j]?=some x→p x=false)→l.find? p=some v
 |[],i,v,h,_,_=>by simp at h
 |y :: l,0,v,h,hp,_=>by simp at h;subst h;simp [hp]
 |y :: l,i+1,v,h,hp,hq=>by
  have h0:=hq 0 y (by omega) rfl
  rw [List.find?_cons,h0]
  exact qo (by simpa using h) hp fun j x hj hx=>hq (j+1) x (by omega) (by simpa using hx)
abbrev tK : List Nat:=[5,6,7,8,10,11]
abbrev zE (a : List am) (ra : Int) (b : List am) (rb : Int) : Nat→List PV:=fun k=>if k=5 then [aY a] else if k=6 then [Z ra] else if k=7 then [aY b] else if k=8 then [Z rb] else if k=10 then [Z 0,Z 0,Z 0] else [B false]
structure FindI (a : List am) (ra : Int) (b : List am) (rb : Int) (n : Vc) (k : Bool) (h : Hp) : Prop where
 h5 : h 5=some (.box [.pv (aY a)] false false)
 h6 : h 6=some (.box [.pv (Z ra)] false false)
 h7 : h 7=some (.box [.pv (aY b)] false false)
 h8 : h 8=some (.box [.pv (Z rb)] false false)
 h10 : h 10=some (.box [.pv (Z n.1),.pv (Z n.2.1),.pv (Z n.2.2)] false false)
 h11 : h 11=some (.box [.pv (B k)] false false)
theorem FindI.all {a : List am} {ra : Int} {b : List am} {rb : Int} {n : Vc} {k : Bool} {h : Hp} (H : FindI a ra b rb n k h) {j : Nat} (hj : j ∈ tK) : ∃ cs,h j=some (.box cs false false):=by
 simp only [List.mem_cons,List.not_mem_nil,or_false] at hj
 rcases hj with rfl|rfl|rfl|rfl|rfl|rfl
 ·exact ⟨_,H.h5⟩
 ·exact ⟨_,H.h6⟩
 ·exact ⟨_,H.h7⟩
 ·exact ⟨_,H.h8⟩
 ·exact ⟨_,H.h10⟩
 ·exact ⟨_,H.h11⟩
def wW (a : List am) (ra : Int) (b : List am) (rb : Int) (CL : List Vc) (i : Nat) : Prop:=∀ j x,j < i→CL[j]?=some x→iX x a ra b rb=false
def zF (a : List am) (ra : Int) (b : List am) (rb : Int) (CL : List Vc) (i : Nat) (h : Hp) : Prop:=∃ n,CL[i]?=some n∧iX n a ra b rb=true∧FindI a ra b rb n true h∧wW a ra b rb CL i
set_option maxRecDepth 100000 in
theorem A4 (a : List am) (ra : Int) (b : List am) (rb : Int) (hints : List Vc) (ha : a.length≤9223372036854775807) (hb : b.length≤9223372036854775807) (hl : hints.length≤9223372036854775807) : ab Tryz.prog 121 [.pv (aY a),.pv (Z ra),.pv (aY b),.pv (Z rb),.pv (aT hints)] [] [] (.pv (.tup [av (ko a ra b rb hints).1,B (ko a ra b rb hints).2])):=by
 have hfr : ko a ra b rb hints=match (pd a ra b rb hints).find? (fun n=>iX n a ra b rb) with
  |some n=>(n,true)
  |none=>((0,0,0),false):=rfl
 have hit:=A3 a ra b rb hints ha hb hl
 generalize pd a ra b rb hints=CL at *
 refine xp (args:=[aY a,Z ra,aY b,Z rb,aT hints]) Tryz.func121 rfl (by kernel_rfl) (by simp [Tryz.f121]) ?_
 intro C hP hN hCS
 simp only [Tryz.f121] at hN ⊢
 have hF:=dK
 refine jG.seq hCS ?_
 repeat' (first
  |with_reducible refine af.seq ?_
  |(with_reducible ((first|refine af.region hF (hn:=[]) (by kernel_rfl) ?_|refine af.cond' ?_);simp -implicitDefEqProofs (maxSteps:=2000000) [hP,hN]))
  |(with_reducible refine aR (by simp) (fun hgd=>?_) (fun hgd=>?_)<;>first|(exfalso;simp at hgd;done)|(exfalso;simp at hgd;omega)|simp -implicitDefEqProofs (maxSteps:=2000000) [hP,hN])
  |with_reducible refine aB ?_ ?_
  |(with_reducible refine aw (fun hcd=>?_) (fun hcd=>?_)<;>(try (exfalso;clear hP hN;simp_all;done))<;>(try (exfalso;simp at *;omega)))
  |with_reducible refine af.block ?_
  |(with_reducible ((first|refine af.skip ?_|refine af.exit ?_|refine af.ret ?_);simp)))
 refine jG.defer (pre:=[_]) (hn:=[]) (g:=231) rfl (fun o ho c' hc'=>by simp at ho;subst ho;cases hc') rfl rfl rfl rfl rfl (by rw [hP];exact tJ) ?_
 simp -implicitDefEqProofs [hP,hN]
 refine jG.rangeS (kd:=[12]) hCS (gf:=323) (caps:=jO a ra b rb hints) (xs:=CL.map av) (by rw [hP];exact hit) (by rw [hN];decide) (ks:=tK) (hin:=zE a ra b rb) (t:=fun m=>if m ∈ tK then .ptr m 0 else .undef) ?_ (fun i h=>FindI a ra b rb (0,0,0) false h∧h 12=none∧wW a ra b rb CL i) (fun i h=>zF a ra b rb CL i h) ?_ ?_ ?_ ?_ (by kernel_rfl) (hn:=[]) ?_ ?_
 ·skip
  repeat' (first
   |with_reducible refine af.seq ?_
   |(with_reducible ((first|refine af.region hF (hn:=[]) (by kernel_rfl) ?_|refine aO (A2 a ra b rb hints) ?_|refine af.cond' ?_);simp -implicitDefEqProofs (maxSteps:=2000000) [hP,hN]))
   |(with_reducible refine aR (by simp) (fun hgd=>?_) (fun hgd=>?_)<;>first|(exfalso;simp at hgd;done)|(exfalso;simp at hgd;omega)|simp -implicitDefEqProofs (maxSteps:=2000000) [hP,hN])
   |with_reducible refine aB ?_ ?_
   |(with_reducible refine aw (fun hcd=>?_) (fun hcd=>?_)<;>(try (exfalso;clear hP hN;simp_all;done))<;>(try (exfalso;simp at *;omega)))
   |with_reducible refine af.block ?_
   |(with_reducible ((first|refine af.skip ?_|refine af.exit ?_|refine af.ret ?_);simp)))
  refine ⟨⟨rfl,rfl,rfl,rfl,rfl,rfl⟩,fun m=>?_⟩
  by_cases hm : m=5∨m=6∨m=7∨m=8∨m=10∨m=11
  ·rcases hm with rfl|rfl|rfl|rfl|rfl|rfl<;>simp
  ·simp only [if_neg hm];simp
   omega
 ·refine ⟨by constructor<;>rfl,rfl,fun j x hj=>by omega⟩
 ·rintro i h k hk ⟨hi,_⟩
  exact hi.all hk
 ·rintro i h k hk ⟨n,_,_,hi,_⟩
  exact hi.all hk
 ·intro C1 C2 l i x h hP1 hN1 hP2 hN2 hx ⟨hI,q12,hq⟩
  rw [List.getElem?_map,Option.map_eq_some_iff] at hx
  obtain ⟨v,hx,rfl⟩:=hx
  have hF:=tt l
  have hP0:=hP
  have hN0:=hN
  clear hP hN
  have hP:=hP1.trans hP0
  have hN:=hN1.trans hN0
  have hPb:=hP2.trans hP0
  have hNb:=hN2.trans hN0
  obtain ⟨q5,q6,q7,q8,q10,q11⟩:=hI
  have cs:=zj v a ra b rb ha hb
  cases hsp : iX v a ra b rb with
  |true=>
   rw [hsp] at cs
   repeat' (first
    |with_reducible refine af.seq ?_
    |(with_reducible ((first|refine af.region hF (hn:=[]) (by kernel_rfl) ?_|refine aO (cs) ?_|refine af.cond' ?_);simp -implicitDefEqProofs (maxSteps:=2000000) [hP,hN,hPb,hNb,gj,q5,q6,q7,q8,q10,q11,q12]))
    |(with_reducible refine aR (by simp [hPb,hNb,gj,q5,q6,q7,q8,q10,q11,q12]) (fun hgd=>?_) (fun hgd=>?_)<;>first|(exfalso;simp at hgd;done)|(exfalso;simp at hgd;omega)|simp -implicitDefEqProofs (maxSteps:=2000000) [hP,hN,hPb,hNb,gj,q5,q6,q7,q8,q10,q11,q12])
    |with_reducible refine aB ?_ ?_
    |(with_reducible refine aw (fun hcd=>?_) (fun hcd=>?_)<;>(try (exfalso;clear hP hN;simp_all;done))<;>(try (exfalso;simp at *;omega)))
    |with_reducible refine af.block ?_
    |(with_reducible ((first|refine af.skip ?_|refine af.exit ?_|refine af.ret ?_);simp [hPb,hNb,gj,q5,q6,q7,q8,q10,q11,q12])))
   exact ⟨v,hx,hsp,by constructor<;>simp [q5,q6,q7,q8,q10,q11],hq⟩
  |false=>
   rw [hsp] at cs
   repeat' (first
    |with_reducible refine af.seq ?_
    |(with_reducible ((first|refine af.region hF (hn:=[]) (by kernel_rfl) ?_|refine aO (cs) ?_|refine af.cond' ?_);simp -implicitDefEqProofs (maxSteps:=2000000) [hP,hN,hPb,hNb,gj,q5,q6,q7,q8,q10,q11,q12]))
    |(with_reducible refine aR (by simp [hPb,hNb,gj,q5,q6,q7,q8,q10,q11,q12]) (fun hgd=>?_) (fun hgd=>?_)<;>first|(exfalso;simp at hgd;done)|(exfalso;simp at hgd;omega)|simp -implicitDefEqProofs (maxSteps:=2000000) [hP,hN,hPb,hNb,gj,q5,q6,q7,q8,q10,q11,q12])
    |with_reducible refine aB ?_ ?_
    |(with_reducible refine aw (fun hcd=>?_) (fun hcd=>?_)<;>(try (exfalso;clear hP hN;simp_all;done))<;>(try (exfalso;simp at *;omega)))
    |with_reducible refine af.block ?_
    |(with_reducible ((first|refine af.skip ?_|refine af.exit ?_|refine af.ret ?_);simp [hPb,hNb,gj,q5,q6,q7,q8,q10,q11,q12])))
   refine ⟨by constructor<;>simp [St.kill,eW,eI,q5,q6,q7,q8,q10,q11],by simp [St.kill],fun j x hj hx'=>?_⟩
   by_cases e : j=i
   ·subst e;rw [hx] at hx';injection hx' with hx';subst hx';exact hsp
   ·exact hq j x (by omega) hx'
 ·rintro h ⟨⟨q5,q6,q7,q8,q10,q11⟩,q12,hq⟩
  rw [List.length_map] at hq
  have hn : CL.find? (fun n=>iX n a ra b rb)=none:=uP hq
  rw [hn] at hfr
  rw [hfr]
  simp -implicitDefEqProofs [hP,hN,q5,q6,q7,q8,q10,q11]
 ·rintro i h hi ⟨n,hn1,hn2,⟨q5,q6,q7,q8,q10,q11⟩,hq⟩
  rw [qo hn1 hn2 hq] at hfr
  rw [hfr]
  simp -implicitDefEqProofs [hP,hN,q5,q6,q7,q8,q10,q11]
end Go.Ab
namespace Go.Ab
open Go.Proofs
abbrev pg (SH : List Sh) (PR : List (Nat × Nat)) (PT : List (List am)) : PV:=.agg [.sl (SH.map dc),.sl (PR.map ni),.sl (PT.map aY)]
abbrev zG (a b : List am) (ra rb : Int) : PV:=.agg [aY a,aY b,Z ra,Z rb]
def bU (PT : List (List am)) (i : Nat) : List am:=(PT[i]?).getD []
def bS (SH : List Sh) (i : Nat) : Int:=((SH[i]?).map Sh.rad).getD 0
structure BdOk (SH : List Sh) (PR : List (Nat × Nat)) (PT : List (List am)) : Prop where
 len : PT.length=SH.length
 prs : ∀ p ∈ PR,p.1 < SH.length∧p.2 < SH.length
 wP : SH.length≤24
 few : PR.length≤576
 pts : ∀ l ∈ PT,l.length≤8
theorem vX (SH : List Sh) (PR : List (Nat × Nat)) (PT : List (List am)) (hb : BdOk SH PR PT) (k : Nat) (p : Nat × Nat) (hp : PR[k]?=some p) : ab Tryz.prog 120 [.pv (pg SH PR PT),.pv (Z k)] [] [] (.pv (zG (bU PT p.1) (bU PT p.2) (bS SH p.1) (bS SH p.2))):=by
 obtain ⟨hlt,hpe⟩:=List.getElem?_eq_some_iff.1 hp
 obtain ⟨i,j⟩:=p
 have hpr:=hb.prs _ (List.mem_of_getElem? hp)
 simp only at hpr
 have hl:=hb.len
 have hxk : ∀ h,PR[k]'h=(i,j):=fun _=>hpe
 have i1 : i < PT.length:=by omega
 have j1 : j < PT.length:=by omega
 obtain ⟨a,ha⟩ : ∃ x,PT[i]?=some x:=⟨_,List.getElem?_eq_getElem i1⟩
 obtain ⟨b,hb'⟩ : ∃ x,PT[j]?=some x:=⟨_,List.getElem?_eq_getElem j1⟩
 obtain ⟨u,hu⟩ : ∃ x,SH[i]?=some x:=⟨_,List.getElem?_eq_getElem hpr.1⟩
 obtain ⟨v,hv⟩ : ∃ x,SH[j]?=some x:=⟨_,List.getElem?_eq_getElem hpr.2⟩
 have hxa : ∀ h,PT[i]'h=a:=fun h=>by rw [List.getElem?_eq_getElem h] at ha;exact Option.some.inj ha
 have hxb : ∀ h,PT[j]'h=b:=fun h=>by rw [List.getElem?_eq_getElem h] at hb';exact Option.some.inj hb'
 have hxu : ∀ h,SH[i]'h=u:=fun h=>by rw [List.getElem?_eq_getElem h] at hu;exact Option.some.inj hu
 have hxv : ∀ h,SH[j]'h=v:=fun h=>by rw [List.getElem?_eq_getElem h] at hv;exact Option.some.inj hv
 have e1 : bU PT i=a:=by simp [bU,ha]
 have e2 : bU PT j=b:=by simp [bU,hb']
 have e3 : bS SH i=u.rad:=by simp [bS,hu]
 have e4 : bS SH j=v.rad:=by simp [bS,hv]
 rw [e1,e2,e3,e4]
 obtain ⟨h1,h2⟩:=hpr
 refine Dp Tryz.func120 ?_
 intro C hP hN
 simp only [Tryz.f120] at hN ⊢
 with_reducible repeat' (first|refine Sp.h ?_|((first|refine Wd ?_|refine Ss.h ?_|(refine Sb.h ?_ ?_ ?_<;>(try intro hgd)<;>try exact Xy))<;>simp -implicitDefEqProofs (maxSteps:=2000000) [hP,hN,hlt,hp,hxk,i1,j1,h1,h2,ha,hb',hu,hv,hxa,hxb,hxu,hxv]<;>try refine Ya ?_)|refine X2 ?_ ?_|(refine Xd ?_ ?_<;>intro hcd<;>try exact Xx))
def bG (s : Sce) (bx : List Iv) : Bool:=decide (cG s=0) && fA s.js bx
theorem tL {s : Sce} {p : Nat × Nat} (h : p ∈ bT s) : p.1 < p.2∧p.2 < s.shs.length∧fy s p.1 p.2=true:=by
 have hI : ∀ i k,k≤s.shs.length→p ∈ i5 s i k→p.1 < p.2∧p.2 < s.shs.length∧fy s p.1 p.2=true:=by
  intro i k
  induction k with
  |zero=>intro _ h;cases h
  |succ k ih=>
   intro hk h
   rw [i5,List.mem_append] at h
   rcases h with h|h
   ·exact ih (by omega) h
   ·split at h
    ·rename_i hc
     rw [List.mem_singleton] at h;subst h
     exact ⟨hc.1,by omega,hc.2⟩
    ·cases h
 have hN : ∀ i,p ∈ ij s i→p.1 < p.2∧p.2 < s.shs.length∧fy s p.1 p.2=true:=by
  intro i
  induction i with
  |zero=>intro h;cases h
  |succ i ih=>
   intro h
   rw [ij,List.mem_append] at h
   rcases h with h|h
   ·exact ih h
   ·exact hI i _ (Nat.le_refl _) h
 unfold bT at h
 split at h
 ·exact hN _ h
 ·cases h
theorem vY {s : Sce} {bx : List Iv} (h : bG s bx=true) : BdOk s.shs (bT s) (cK s bx):=by
 simp only [bG,Bool.and_eq_true,decide_eq_true_eq] at h
 obtain ⟨v1,v2,v3,v4,v5,v6,v7⟩:=ku h.1
 have hl:=p5 s s.shs.length
 have hm : s.shs.length * s.shs.length≤24 * 24:=Nat.mul_le_mul v4 v4
 refine ⟨by simp [cK],fun p hp=>?_,v4,?_,fun l hl=>?_⟩
 ·have:=tL hp;omega
 ·unfold bT;rw [if_pos h.1];omega
 ·obtain ⟨x,hx,rfl⟩:=List.mem_map.1 hl
  have:=(v6 x hx).2
  simp only [eP,Bool.and_eq_true,decide_eq_true_eq] at this
  simp only [gg,List.length_map];omega
def wX (bx : List Iv) (i : Nat) : Prop:=∀ k x,k < i→bx[k]?=some x→vI x=true
theorem rD (s : Sce) (bx : List Iv) (hs : ScL s) (hbl : bx.length≤9223372036854775807) : ab Tryz.prog 119 [.pv (de s),.pv (iv bx)] [] [] (.pv (.tup (if bG s bx then [pg s.shs (bT s) (cK s bx),B true] else [pg [] [] [],B false]))):=by
 have hd : bG s bx=(decide (cG s=0) && (decide (bx.length=s.js.length) && bx.all vI)):=rfl
 have cc:=wo s hs
 have hjl:=hs.js
 by_cases h0 : cG s=0
 case neg=>
  have h0' : (cG s !=0)=true:=by simp [h0]
  rw [decide_eq_false h0,Bool.false_and] at hd
  rw [hd]
  refine Dp Tryz.func119 ?_
  intro C hP hN
  simp only [Tryz.f119] at hN ⊢
  with_reducible repeat' (first|refine Sp.h ?_|((first|refine Wd ?_|refine Ss.h ?_|refine Sc.h (cc) ?_|(refine Sb.h ?_ ?_ ?_<;>(try intro hgd)<;>try exact Xy))<;>simp -implicitDefEqProofs (maxSteps:=2000000) [hP,hN,h0,h0']<;>try refine Ya ?_)|refine X2 ?_ ?_|(refine Xd ?_ ?_<;>intro hcd<;>try exact Xx))
 have h0' : (cG s !=0)=false:=by simp [h0]
 by_cases h1 : bx.length=s.js.length
 case neg=>
  have h1' : ((bx.length : Int) !=(s.js.length : Int))=true:=by simp;omega
  have h1'' : ¬ (bx.length : Int)=(s.js.length : Int):=by omega
  rw [decide_eq_false h1,Bool.false_and,Bool.and_false] at hd
  rw [hd]
  refine Dp Tryz.func119 ?_
  intro C hP hN
  simp only [Tryz.f119] at hN ⊢
  with_reducible repeat' (first|refine Sp.h ?_|((first|refine Wd ?_|refine Ss.h ?_|refine Sc.h (cc) ?_|(refine Sb.h ?_ ?_ ?_<;>(try intro hgd)<;>try exact Xy))<;>simp -implicitDefEqProofs (maxSteps:=2000000) [hP,hN,h0,h0',h1',h1'']<;>try refine Ya ?_)|refine X2 ?_ ?_|(refine Xd ?_ ?_<;>intro hcd<;>try exact Xx))
 have h1' : ((bx.length : Int) !=(s.js.length : Int))=false:=by simp [h1]
 have hI : fA s.js bx=bx.all vI:=by
  show (decide (bx.length=s.js.length) && bx.all vI)=_
  rw [decide_eq_true h1,Bool.true_and]
 rw [decide_eq_true h0,decide_eq_true h1,Bool.true_and,Bool.true_and] at hd
 rw [hd]
 have cP:=BT s bx hs h0
 rw [hI] at cP
 have cR:=BN s hs
 generalize cK s bx=PT at *
 generalize bT s=PR at *
 refine Dp Tryz.func119 ?_
 intro C hP hN
 simp only [Tryz.f119] at hN ⊢
 with_reducible repeat' (first|refine Sp.h ?_|((first|refine Wd ?_|refine Ss.h ?_|refine Sc.h (cc) ?_|(refine Sb.h ?_ ?_ ?_<;>(try intro hgd)<;>try exact Xy))<;>simp -implicitDefEqProofs (maxSteps:=2000000) [hP,hN,h0,h0',h1',h1]<;>try refine Ya ?_)|refine X2 ?_ ?_|(refine Xd ?_ ?_<;>intro hcd<;>try exact Xx))
 refine WP.loopN [7] bx.length (fun i st=>st.t 1=.pv (iv bx)∧st.t 2=.ptr 2 0∧st.h 2=some (.box [.pv (.sl (s.js.map dy)),.pv (.sl (s.ms.map di)),.pv (.sl (s.shs.map dc)),.pv (.sl (s.sks.map bF))] true false)∧st.t 4=.ptr 4 0∧st.h 4=some (.box [.pv (.val (.slice none 0 0)),.pv (.val (.slice none 0 0)),.pv (.val (.slice none 0 0))] true false)∧st.t 21=.pv (iv bx)∧st.t 22=.pv (Z bx.length)∧st.t 23=.pv (Z i)∧st.h 7=none∧wX bx i) ?_ ?_
 ·simp [h1]
  exact fun k x hk=>by omega
 rintro i st hi ⟨g1,g2,hb2,g4,hb4,g21,g22,g23,hb7,hq⟩
 by_cases hlt : i < bx.length
 ·have hwr:=aJ hlt hbl
  generalize hxe : bx[i]=v at *
  have hx : bx[i]?=some v:=by rw [List.getElem?_eq_getElem hlt,hxe]
  have cv:=eJ v.1 v.2
  have hvI : vI v=aH v.1 v.2:=rfl
  have hst:=mM (p:=vI) hx hq
  cases hvb : aH v.1 v.2 with
  |true=>
   rw [hvb] at cv
   have hst' : wX bx (i+1):=hst hvb
   with_reducible repeat' (first|refine Sp.h ?_|((first|refine Wd ?_|refine Ss.h ?_|refine Sc.h (cv) ?_|(refine Sb.h ?_ ?_ ?_<;>(try intro hgd)<;>try exact Xy))<;>simp -implicitDefEqProofs (maxSteps:=2000000) [hP,hN,g1,g2,hb2,g4,hb4,g21,g22,g23,hb7,hlt,hx,hxe,hwr]<;>try refine Ya ?_)|refine X2 ?_ ?_|(refine Xd ?_ ?_<;>intro hcd<;>try exact Xx))
   all_goals exact hst'
  |false=>
   rw [hvb] at cv
   have hall : bx.all vI=false:=by
    cases h : bx.all vI with
    |false=>rfl
    |true=>rw [List.all_eq_true] at h;have:=h v (List.mem_of_getElem? hx);rw [hvI,hvb] at this;cases this
   rw [hall]
   with_reducible repeat' (first|refine Sp.h ?_|((first|refine Wd ?_|refine Ss.h ?_|refine Sc.h (cv) ?_|(refine Sb.h ?_ ?_ ?_<;>(try intro hgd)<;>try exact Xy))<;>simp -implicitDefEqProofs (maxSteps:=2000000) [hP,hN,g1,g2,hb2,g4,hb4,g21,g22,g23,hb7,hlt,hx,hxe,hwr]<;>try refine Ya ?_)|refine X2 ?_ ?_|(refine Xd ?_ ?_<;>intro hcd<;>try exact Xx))
 ·have hin : i=bx.length:=by omega
  subst hin
  have hall : bx.all vI=true:=oe hq hlt
  have cP:=cP hall
  rw [hall]
  with_reducible repeat' (first|refine Sp.h ?_|((first|refine Wd ?_|refine Ss.h ?_|refine Sc.h (cP) ?_|refine Sc.h (cR) ?_|(refine Sb.h ?_ ?_ ?_<;>(try intro hgd)<;>try exact Xy))<;>simp -implicitDefEqProofs (maxSteps:=2000000) [hP,hN,g1,g2,hb2,g4,hb4,g21,g22,g23,hb7]<;>try refine Ya ?_)|refine X2 ?_ ?_|(refine Xd ?_ ?_<;>intro hcd<;>try exact Xx))
end Go.Ab
namespace Go.Ab
open Go.Proofs
def rE (SH : List Sh) (PT : List (List am)) (n : Vc) (p : Nat × Nat) : Bool:=iX n (bU PT p.1) (bS SH p.1) (bU PT p.2) (bS SH p.2)
def tM (SH : List Sh) (PR : List (Nat × Nat)) (PT : List (List am)) (ns : List Vc) (i : Nat) : Prop:=∀ k n p,k < i→ns[k]?=some n→PR[k]?=some p→rE SH PT n p=true
def eD (SH : List Sh) (PR : List (Nat × Nat)) (PT : List (List am)) (ns : List Vc) : Bool:=decide (ns.length=PR.length) && (ns.zip PR).all fun x=>rE SH PT x.1 x.2
theorem uQ {SH : List Sh} {PR : List (Nat × Nat)} {PT : List (List am)} {ns : List Vc} (hl : ns.length=PR.length) (h : tM SH PR PT ns ns.length) : eD SH PR PT ns=true:=by
 simp only [eD,Bool.and_eq_true,decide_eq_true_eq,List.all_eq_true]
 refine ⟨hl,fun x hx=>?_⟩
 obtain ⟨k,hk,rfl⟩:=List.mem_iff_getElem.1 hx
 rw [List.length_zip] at hk
 rw [List.getElem_zip]
 exact h k _ _ (by omega) (List.getElem?_eq_getElem (by omega)) (List.getElem?_eq_getElem (by omega))
theorem uR {SH : List Sh} {PR : List (Nat × Nat)} {PT : List (List am)} {ns : List Vc} {k : Nat} {n : Vc} {p : Nat × Nat} (hn : ns[k]?=some n) (hp : PR[k]?=some p) (h : rE SH PT n p=false) : eD SH PR PT ns=false:=by
 cases ha : eD SH PR PT ns with
 |false=>rfl
 |true=>
  simp only [eD,Bool.and_eq_true,List.all_eq_true] at ha
  have : (n,p) ∈ ns.zip PR:=by
   refine List.mem_of_getElem? (i:=k) ?_
   rw [List.getElem?_zip_eq_some];exact ⟨hn,hp⟩
  have:=ha.2 _ this
  rw [h] at this;cases this
theorem nd {SH : List Sh} {PR : List (Nat × Nat)} {PT : List (List am)} (hb : BdOk SH PR PT) (i : Nat) : (bU PT i).length≤9223372036854775807:=by
 unfold bU
 cases h : PT[i]? with
 |none=>simp
 |some l=>have:=hb.pts l (List.mem_of_getElem? h);simp;omega
theorem A5 (SH : List Sh) (PR : List (Nat × Nat)) (PT : List (List am)) (hb : BdOk SH PR PT) (ns : List Vc) (hl : ns.length≤9223372036854775807) : ab Tryz.prog 128 [.pv (.agg [aT ns]),.pv (pg SH PR PT)] [] [] (.pv (B (eD SH PR PT ns))):=by
 have hpl:=hb.few
 by_cases hle : ns.length=PR.length
 case neg=>
  have h1 : ((ns.length : Int) !=(PR.length : Int))=true:=by simp;omega
  have h2 : ¬ (ns.length : Int)=(PR.length : Int):=by omega
  have hf : eD SH PR PT ns=false:=by simp [eD,hle]
  rw [hf]
  refine Dp Tryz.func128 ?_
  intro C hP hN
  simp only [Tryz.f128] at hN ⊢
  with_reducible repeat' (first|refine Sp.h ?_|((first|refine Ss.h ?_|(refine Sb.h ?_ ?_ ?_<;>(try intro hgd)<;>try exact Xy))<;>simp -implicitDefEqProofs (maxSteps:=2000000) [hP,hN,h1,h2])|refine X2 ?_ ?_|(refine Xd ?_ ?_<;>intro hcd<;>try exact Xx))
 have h1 : ((ns.length : Int) !=(PR.length : Int))=false:=by simp [hle]
 refine Dp Tryz.func128 ?_
 intro C hP hN
 simp only [Tryz.f128] at hN ⊢
 with_reducible repeat' (first|refine Sp.h ?_|((first|refine Ss.h ?_|(refine Sb.h ?_ ?_ ?_<;>(try intro hgd)<;>try exact Xy))<;>simp -implicitDefEqProofs (maxSteps:=2000000) [hP,hN,h1,hle])|refine X2 ?_ ?_|(refine Xd ?_ ?_<;>intro hcd<;>try exact Xx))
 refine WP.loopN [6,7] ns.length (fun i st=>st.t 3=.ptr 3 0∧st.h 3=some (.box [.pv (.sl (SH.map dc)),.pv (.sl (PR.map ni)),.pv (.sl (PT.map aY))] true false)∧st.t 16=.pv (aT ns)∧st.t 17=.pv (Z ns.length)∧st.t 18=.pv (Z i)∧st.h 6=none∧st.h 7=none∧tM SH PR PT ns i) ?_ ?_
 ·simp [hle]
  exact fun k n p hk=>by omega
 rintro i st hi ⟨g3,hb3,g16,g17,g18,hb6,hb7,hq⟩
 by_cases hlt : i < ns.length
 ·have hwr:=aJ hlt hl
  generalize hxe : ns[i]=v at *
  have hx : ns[i]?=some v:=by rw [List.getElem?_eq_getElem hlt,hxe]
  have hltp : i < PR.length:=by omega
  obtain ⟨p,hp⟩ : ∃ p,PR[i]?=some p:=⟨_,List.getElem?_eq_getElem hltp⟩
  have cc:=vX SH PR PT hb i p hp
  have cs:=zj v (bU PT p.1) (bS SH p.1) (bU PT p.2) (bS SH p.2) (nd hb _) (nd hb _)
  have hsk : rE SH PT v p=iX v (bU PT p.1) (bS SH p.1) (bU PT p.2) (bS SH p.2):=rfl
  rw [← hsk] at cs
  cases hsp : rE SH PT v p with
  |true=>
   rw [hsp] at cs
   have hst : tM SH PR PT ns (i+1):=fun k n q hk hn hq'=>by
    by_cases e : k=i
    ·subst e;rw [hx] at hn;rw [hp] at hq';injection hn with hn;injection hq' with hq';subst hn;subst hq';exact hsp
    ·exact hq k n q (by omega) hn hq'
   with_reducible repeat' (first|refine Sp.h ?_|((first|refine Ss.h ?_|refine Sc.h (cc) ?_|refine Sc.h (cs) ?_|(refine Sb.h ?_ ?_ ?_<;>(try intro hgd)<;>try exact Xy))<;>simp -implicitDefEqProofs (maxSteps:=2000000) [hP,hN,g3,hb3,g16,g17,g18,hb6,hb7,hlt,hx,hxe,hwr])|refine X2 ?_ ?_|(refine Xd ?_ ?_<;>intro hcd<;>try exact Xx))
   all_goals exact hst
  |false=>
   rw [hsp] at cs
   rw [uR hx hp hsp]
   with_reducible repeat' (first|refine Sp.h ?_|((first|refine Ss.h ?_|refine Sc.h (cc) ?_|refine Sc.h (cs) ?_|(refine Sb.h ?_ ?_ ?_<;>(try intro hgd)<;>try exact Xy))<;>simp -implicitDefEqProofs (maxSteps:=2000000) [hP,hN,g3,hb3,g16,g17,g18,hb6,hb7,hlt,hx,hxe,hwr])|refine X2 ?_ ?_|(refine Xd ?_ ?_<;>intro hcd<;>try exact Xx))
 ·have hin : i=ns.length:=by omega
  subst hin
  rw [uQ hle hq]
  with_reducible repeat' (first|refine Sp.h ?_|((first|refine Ss.h ?_|(refine Sb.h ?_ ?_ ?_<;>(try intro hgd)<;>try exact Xy))<;>simp -implicitDefEqProofs (maxSteps:=2000000) [hP,hN,g3,hb3,g16,g17,g18,hb6,hb7])|refine X2 ?_ ?_|(refine Xd ?_ ?_<;>intro hcd<;>try exact Xx))
def od (SH : List Sh) (PT : List (List am)) (x y : List Int) (p : Nat × Nat) : Bool:=lA x y (bU PT p.1) (bS SH p.1) (bU PT p.2) (bS SH p.2) && decide (0≤jJ x y (bU PT p.1) (bS SH p.1) (bU PT p.2) (bS SH p.2))
structure Wit where
 pair : Int
 a : List Int
 b : List Int
abbrev qK (w : Wit) : PV:=.agg [Z w.pair,zs w.a,zs w.b]
def mF (SH : List Sh) (PR : List (Nat × Nat)) (PT : List (List am)) (w : Wit) : Bool:=decide (0≤w.pair) && match PR[w.pair.toNat]? with
 |some p=>od SH PT w.a w.b p
 |none=>false
theorem A6 (SH : List Sh) (PR : List (Nat × Nat)) (PT : List (List am)) (hb : BdOk SH PR PT) (w : Wit) (ha : w.a.length≤9223372036854775807) (hbl : w.b.length≤9223372036854775807) : ab Tryz.prog 491 [.pv (qK w),.pv (pg SH PR PT)] [] [] (.pv (B (mF SH PR PT w))):=by
 have hpl:=hb.few
 by_cases h0 : w.pair < 0
 ·have hf : mF SH PR PT w=false:=by unfold mF;rw [decide_eq_false (by omega)];rfl
  rw [hf]
  refine Dp Tryz.func491 ?_
  intro C hP hN
  simp only [Tryz.f491] at hN ⊢
  with_reducible repeat' (first|refine Sp.h ?_|((first|refine Ss.h ?_|(refine Sb.h ?_ ?_ ?_<;>(try intro hgd)<;>try exact Xy))<;>simp -implicitDefEqProofs (maxSteps:=2000000) [hP,hN,h0])|refine X2 ?_ ?_|(refine Xd ?_ ?_<;>intro hcd<;>try exact Xx))
 obtain ⟨k,hk⟩ : ∃ k : Nat,w.pair=k:=⟨w.pair.toNat,by omega⟩
 have hcd : mF SH PR PT w=match PR[k]? with
  |some p=>od SH PT w.a w.b p
  |none=>false:=by unfold mF;rw [hk,decide_eq_true (by omega)];simp
 by_cases h1 : k < PR.length
 ·obtain ⟨p,hp⟩ : ∃ p,PR[k]?=some p:=⟨_,List.getElem?_eq_getElem h1⟩
  rw [hp] at hcd
  simp only at hcd
  have h1' : ¬ (PR.length : Int)≤k:=by omega
  have h1'' : ¬ PR.length≤k:=by omega
  have cc:=vX SH PR PT hb k p hp
  have co:=yI w.a w.b (bU PT p.1) (bS SH p.1) (bU PT p.2) (bS SH p.2) ha hbl (nd hb _) (nd hb _)
  have hod : od SH PT w.a w.b p=(lA w.a w.b (bU PT p.1) (bS SH p.1) (bU PT p.2) (bS SH p.2) && decide (0≤jJ w.a w.b (bU PT p.1) (bS SH p.1) (bU PT p.2) (bS SH p.2))):=rfl
  rw [← hod] at co
  rw [hcd]
  generalize od SH PT w.a w.b p=o at *
  refine Dp Tryz.func491 ?_
  intro C hP hN
  simp only [Tryz.f491] at hN ⊢
  with_reducible repeat' (first|refine Sp.h ?_|((first|refine Ss.h ?_|refine Sc.h (cc) ?_|refine Sc.h (co) ?_|(refine Sb.h ?_ ?_ ?_<;>(try intro hgd)<;>try exact Xy))<;>simp -implicitDefEqProofs (maxSteps:=2000000) [hP,hN,hk,h1',h1''])|refine X2 ?_ ?_|(refine Xd ?_ ?_<;>intro hcd<;>try exact Xx))
 ·have hn : PR[k]?=none:=List.getElem?_eq_none (by omega)
  rw [hn] at hcd
  simp only at hcd
  rw [hcd]
  have h1' : (PR.length : Int)≤k:=by omega
  have h1'' : PR.length≤k:=by omega
  refine Dp Tryz.func491 ?_
  intro C hP hN
  simp only [Tryz.f491] at hN ⊢
  with_reducible repeat' (first|refine Sp.h ?_|((first|refine Ss.h ?_|(refine Sb.h ?_ ?_ ?_<;>(try intro hgd)<;>try exact Xy))<;>simp -implicitDefEqProofs (maxSteps:=2000000) [hP,hN,hk,h1',h1''])|refine X2 ?_ ?_|(refine Xd ?_ ?_<;>intro hcd<;>try exact Xx))
end Go.Ab
namespace Go.Ab
open Go.Proofs
set_option maxRecDepth 100000 in
@[simp] theorem A7 : bp Tryz.prog 118:=by
 refine ⟨by kernel_rfl,fun args w=>?_⟩
 refine callsD_of_wpS Tryz.func118 rfl fun c₀ cs hu=>?_
 apply wpS_seq
 apply wpS_region
 have hk : ∀ k,k < Tryz.f118.ntmps→k < args.size+(Tryz.f118.ntmps - args.size):=by intro k h;omega
 rw [Tryz.ntmps118] at hk
 have h0:=hk 0 (by decide)
 have h1:=hk 1 (by decide)
 have h2:=hk 2 (by decide)
 simp [wpOpsS,go_sem,recoverD,hu,Tryz.ntmps118,Exit.thenS,h0,h1,h2]
 refine wpS_cond (t:=false) (by simp [Act.eval,h0,h1,h2]) ?_
 simp only [Bool.false_eq_true,if_false]
 refine wpS_of_wp (wp_skip ?_)
 cases c₀
 simp_all [bodyPostS,results,Tryz.results118]
set_option maxRecDepth 100000 in
@[simp] theorem A8 : bp Tryz.prog 131:=by
 refine ⟨by kernel_rfl,fun args w=>?_⟩
 refine callsD_of_wpS Tryz.func131 rfl fun c₀ cs hu=>?_
 apply wpS_seq
 apply wpS_region
 have hk : ∀ k,k < Tryz.f131.ntmps→k < args.size+(Tryz.f131.ntmps - args.size):=by intro k h;omega
 rw [Tryz.ntmps131] at hk
 have h0:=hk 0 (by decide)
 have h1:=hk 1 (by decide)
 have h2:=hk 2 (by decide)
 simp [wpOpsS,go_sem,recoverD,hu,Tryz.ntmps131,Exit.thenS,h0,h1,h2]
 refine wpS_cond (t:=false) (by simp [Act.eval,h0,h1,h2]) ?_
 simp only [Bool.false_eq_true,if_false]
 refine wpS_of_wp (wp_skip ?_)
 cases c₀
 simp_all [bodyPostS,results,Tryz.results131]
set_option maxRecDepth 100000 in
@[simp] theorem A9 : bp Tryz.prog 252:=by
 refine ⟨by kernel_rfl,fun args w=>?_⟩
 refine callsD_of_wpS Tryz.func252 rfl fun c₀ cs hu=>?_
 apply wpS_seq
 apply wpS_region
 have hk : ∀ k,k < Tryz.f252.ntmps→k < args.size+(Tryz.f252.ntmps - args.size):=by intro k h;omega
 rw [Tryz.ntmps252] at hk
 have h0:=hk 0 (by decide)
 have h1:=hk 1 (by decide)
 have h2:=hk 2 (by decide)
 simp [wpOpsS,go_sem,recoverD,hu,Tryz.ntmps252,Exit.thenS,h0,h1,h2]
 refine wpS_cond (t:=false) (by simp [Act.eval,h0,h1,h2]) ?_
 simp only [Bool.false_eq_true,if_false]
 refine wpS_of_wp (wp_skip ?_)
 cases c₀
 simp_all [bodyPostS,results,Tryz.results252]
set_option maxRecDepth 100000 in
@[simp] theorem Ba : bp Tryz.prog 133:=by
 refine ⟨by kernel_rfl,fun args w=>?_⟩
 refine callsD_of_wpS Tryz.func133 rfl fun c₀ cs hu=>?_
 apply wpS_seq
 apply wpS_region
 have hk : ∀ k,k < Tryz.f133.ntmps→k < args.size+(Tryz.f133.ntmps - args.size):=by intro k h;omega
 rw [Tryz.ntmps133] at hk
 have h0:=hk 0 (by decide)
 have h1:=hk 1 (by decide)
 have h2:=hk 2 (by decide)
 simp [wpOpsS,go_sem,recoverD,hu,Tryz.ntmps133,Exit.thenS,h0,h1,h2]
 refine wpS_cond (t:=false) (by simp [Act.eval,h0,h1,h2]) ?_
 simp only [Bool.false_eq_true,if_false]
 refine wpS_of_wp (wp_skip ?_)
 cases c₀
 simp_all [bodyPostS,results,Tryz.results133]
set_option maxRecDepth 100000 in
@[simp] theorem Bb : bp Tryz.prog 127:=by
 refine ⟨by kernel_rfl,fun args w=>?_⟩
 refine callsD_of_wpS Tryz.func127 rfl fun c₀ cs hu=>?_
 apply wpS_seq
 apply wpS_region
 have hk : ∀ k,k < Tryz.f127.ntmps→k < args.size+(Tryz.f127.ntmps - args.size):=by intro k h;omega
 rw [Tryz.ntmps127] at hk
 have h0:=hk 0 (by decide)
 have h1:=hk 1 (by decide)
 have h2:=hk 2 (by decide)
 have h3:=hk 3 (by decide)
 simp [wpOpsS,go_sem,recoverD,hu,Tryz.ntmps127,Exit.thenS,h0,h1,h2,h3]
 refine wpS_cond (t:=false) (by simp [Act.eval,h0,h1,h2,h3]) ?_
 simp only [Bool.false_eq_true,if_false]
 refine wpS_of_wp (wp_skip ?_)
 cases c₀
 simp_all [bodyPostS,results,Tryz.results127]
@[simp] theorem Dy : kO Tryz.prog 205=true:=by kernel_rfl
@[simp] theorem Dz : kO Tryz.prog 203=true:=by kernel_rfl
@[simp] theorem DA : ll Tryz.prog 205 "armplan/classify.holds"=some 128:=by kernel_rfl
@[simp] theorem DB : ll Tryz.prog 203 "armplan/classify.holds"=some 491:=by kernel_rfl
structure Vd where
 kind : Int
 ns : List Vc
 w : Wit
abbrev kp (v : Vd) : PV:=.agg [Z v.kind,aT v.ns,Z v.w.pair,zs v.w.a,zs v.w.b]
abbrev wY (ns : List Vc) : PV:=.ifc 205 (.agg [aT ns])
abbrev wZ (w : Wit) : PV:=.ifc 203 (qK w)
theorem vS (ns : List Vc) : ab Tryz.prog 125 [.pv (wY ns)] [] [] (.pv (kp ⟨1,ns,⟨0,[],[]⟩⟩)):=by
 refine Dp Tryz.func125 ?_
 intro C hP hN
 simp only [Tryz.f125] at hN ⊢
 with_reducible repeat' (first|refine Sp.h ?_|((first|refine Ss.h ?_|(refine Sb.h ?_ ?_ ?_<;>(try intro hgd)<;>try exact Xy))<;>simp -implicitDefEqProofs (maxSteps:=2000000) [hP,hN])|refine X2 ?_ ?_|(refine Xd ?_ ?_<;>intro hcd<;>try exact Xx))
theorem vC (w : Wit) : ab Tryz.prog 125 [.pv (wZ w)] [] [] (.pv (kp ⟨2,[],w⟩)):=by
 refine Dp Tryz.func125 ?_
 intro C hP hN
 simp only [Tryz.f125] at hN ⊢
 with_reducible repeat' (first|refine Sp.h ?_|((first|refine Ss.h ?_|(refine Sb.h ?_ ?_ ?_<;>(try intro hgd)<;>try exact Xy))<;>simp -implicitDefEqProofs (maxSteps:=2000000) [hP,hN])|refine X2 ?_ ?_|(refine Xd ?_ ?_<;>intro hcd<;>try exact Xx))
def eK (s : Sce) (bx : List Iv) (ns : List Vc) : Bool:=bG s bx && eD s.shs (bT s) (cK s bx) ns
def jP (s : Sce) (bx : List Iv) (w : Wit) : Bool:=bG s bx && mF s.shs (bT s) (cK s bx) w
theorem hS (s : Sce) (bx : List Iv) (ns : List Vc) (hs : ScL s) (hbl : bx.length≤9223372036854775807) (hn : ns.length≤9223372036854775807) : ab Tryz.prog 132 [.pv (de s),.pv (iv bx),.pv (wY ns)] [] [] (.pv (B (eK s bx ns))):=by
 have cp:=rD s bx hs hbl
 have hd : eK s bx ns=(bG s bx && eD s.shs (bT s) (cK s bx) ns):=rfl
 rw [hd]
 cases hp : bG s bx with
 |false=>
  rw [hp] at cp
  refine Dp Tryz.func132 ?_
  intro C hP hN
  simp only [Tryz.f132] at hN ⊢
  with_reducible repeat' (first|refine Sp.h ?_|((first|refine Ss.h ?_|refine Sc.h (cp) ?_|(refine Sb.h ?_ ?_ ?_<;>(try intro hgd)<;>try exact Xy))<;>simp -implicitDefEqProofs (maxSteps:=2000000) [hP,hN])|refine X2 ?_ ?_|(refine Xd ?_ ?_<;>intro hcd<;>try exact Xx))
 |true=>
  rw [hp] at cp
  have cs:=A5 s.shs (bT s) (cK s bx) (vY hp) ns hn
  generalize eD s.shs (bT s) (cK s bx) ns=b at *
  refine Dp Tryz.func132 ?_
  intro C hP hN
  simp only [Tryz.f132] at hN ⊢
  with_reducible repeat' (first|refine Sp.h ?_|((first|refine Ss.h ?_|refine Sc.h (cp) ?_|refine Sc.h (cs) ?_|(refine Sb.h ?_ ?_ ?_<;>(try intro hgd)<;>try exact Xy))<;>simp -implicitDefEqProofs (maxSteps:=2000000) [hP,hN])|refine X2 ?_ ?_|(refine Xd ?_ ?_<;>intro hcd<;>try exact Xx))
theorem hC (s : Sce) (bx : List Iv) (w : Wit) (hs : ScL s) (hbl : bx.length≤9223372036854775807) (ha : w.a.length≤9223372036854775807) (hb : w.b.length≤9223372036854775807) : ab Tryz.prog 132 [.pv (de s),.pv (iv bx),.pv (wZ w)] [] [] (.pv (B (jP s bx w))):=by
 have cp:=rD s bx hs hbl
 have hd : jP s bx w=(bG s bx && mF s.shs (bT s) (cK s bx) w):=rfl
 rw [hd]
 cases hp : bG s bx with
 |false=>
  rw [hp] at cp
  refine Dp Tryz.func132 ?_
  intro C hP hN
  simp only [Tryz.f132] at hN ⊢
  with_reducible repeat' (first|refine Sp.h ?_|((first|refine Ss.h ?_|refine Sc.h (cp) ?_|(refine Sb.h ?_ ?_ ?_<;>(try intro hgd)<;>try exact Xy))<;>simp -implicitDefEqProofs (maxSteps:=2000000) [hP,hN])|refine X2 ?_ ?_|(refine Xd ?_ ?_<;>intro hcd<;>try exact Xx))
 |true=>
  rw [hp] at cp
  have cs:=A6 s.shs (bT s) (cK s bx) (vY hp) w ha hb
  generalize mF s.shs (bT s) (cK s bx) w=b at *
  refine Dp Tryz.func132 ?_
  intro C hP hN
  simp only [Tryz.f132] at hN ⊢
  with_reducible repeat' (first|refine Sp.h ?_|((first|refine Ss.h ?_|refine Sc.h (cp) ?_|refine Sc.h (cs) ?_|(refine Sb.h ?_ ?_ ?_<;>(try intro hgd)<;>try exact Xy))<;>simp -implicitDefEqProofs (maxSteps:=2000000) [hP,hN])|refine X2 ?_ ?_|(refine Xd ?_ ?_<;>intro hcd<;>try exact Xx))
theorem CK (s : Sce) (bx : List Iv) (ns : List Vc) (hs : ScL s) (hbl : bx.length≤9223372036854775807) (hn : ns.length≤9223372036854775807) : ab Tryz.prog 41 [.pv (de s),.pv (iv bx),.pv (aT ns)] [] [] (.pv (B (eK s bx ns))):=by
 have ch:=hS s bx ns hs hbl hn
 generalize eK s bx ns=b at *
 refine Dp Tryz.func41 ?_
 intro C hP hN
 simp only [Tryz.f41] at hN ⊢
 with_reducible repeat' (first|refine Sp.h ?_|((first|refine Ss.h ?_|refine Sc.h (ch) ?_|(refine Sb.h ?_ ?_ ?_<;>(try intro hgd)<;>try exact Xy))<;>simp -implicitDefEqProofs (maxSteps:=2000000) [hP,hN])|refine X2 ?_ ?_|(refine Xd ?_ ?_<;>intro hcd<;>try exact Xx))
def rF (s : Sce) (bx : List Iv) (v : Vd) : Bool:=
 if v.kind=1∧v.w.pair=0∧v.w.a.length=0∧v.w.b.length=0 then eK s bx v.ns
 else if v.kind=2∧v.ns.length=0 then jP s bx v.w else false
theorem CM (s : Sce) (bx : List Iv) (v : Vd) (hs : ScL s) (hbl : bx.length≤9223372036854775807) (hn : v.ns.length≤9223372036854775807) (ha : v.w.a.length≤9223372036854775807) (hb : v.w.b.length≤9223372036854775807) : ab Tryz.prog 40 [.pv (de s),.pv (iv bx),.pv (kp v)] [] [] (.pv (B (rF s bx v))):=by
 have ch:=hS s bx v.ns hs hbl hn
 have cc:=hC s bx v.w hs hbl ha hb
 have hd : rF s bx v=if v.kind=1∧v.w.pair=0∧v.w.a.length=0∧v.w.b.length=0 then eK s bx v.ns else if v.kind=2∧v.ns.length=0 then jP s bx v.w else false:=rfl
 rw [hd]
 generalize eK s bx v.ns=b1 at *
 generalize jP s bx v.w=b2 at *
 by_cases h1 : v.kind=1
 ·have h2 : ¬ v.kind=2:=by omega
  have e1 : (v.kind==1)=true:=by simp [h1]
  have e2 : (v.kind==2)=false:=by simp [h2]
  by_cases h3 : v.w.pair=0
  ·have e3 : (v.w.pair==0)=true:=by simp [h3]
   by_cases h4 : v.w.a.length=0
   ·have e4 : ((v.w.a.length : Int)==0)=true:=by simp [h4]
    by_cases h5 : v.w.b.length=0
    ·have e5 : ((v.w.b.length : Int)==0)=true:=by simp [h5]
     rw [if_pos ⟨h1,h3,h4,h5⟩]
     refine Dp Tryz.func40 ?_
     intro C hP hN
     simp only [Tryz.f40] at hN ⊢
     with_reducible repeat' (first|refine Sp.h ?_|((first|refine Ss.h ?_|refine Sc.h (ch) ?_|(refine Sb.h ?_ ?_ ?_<;>(try intro hgd)<;>try exact Xy))<;>simp -implicitDefEqProofs (maxSteps:=2000000) [hP,hN,e1,e2,e3,e4,e5])|refine X2 ?_ ?_|(refine Xd ?_ ?_<;>intro hcd<;>try exact Xx))
    ·have e5 : ((v.w.b.length : Int)==0)=false:=beq_eq_false_iff_ne.2 (by omega)
     rw [if_neg (by simp [h5]),if_neg (by simp [h2])]
     refine Dp Tryz.func40 ?_
     intro C hP hN
     simp only [Tryz.f40] at hN ⊢
     with_reducible repeat' (first|refine Sp.h ?_|((first|refine Ss.h ?_|(refine Sb.h ?_ ?_ ?_<;>(try intro hgd)<;>try exact Xy))<;>simp -implicitDefEqProofs (maxSteps:=2000000) [hP,hN,e1,e2,e3,e4,e5])|refine X2 ?_ ?_|(refine Xd ?_ ?_<;>intro hcd<;>try exact Xx))
   ·have e4 : ((v.w.a.length : Int)==0)=false:=beq_eq_false_iff_ne.2 (by omega)
    rw [if_neg (by simp [h4]),if_neg (by simp [h2])]
    refine Dp Tryz.func40 ?_
    intro C hP hN
    simp only [Tryz.f40] at hN ⊢
    with_reducible repeat' (first|refine Sp.h ?_|((first|refine Ss.h ?_|(refine Sb.h ?_ ?_ ?_<;>(try intro hgd)<;>try exact Xy))<;>simp -implicitDefEqProofs (maxSteps:=2000000) [hP,hN,e1,e2,e3,e4])|refine X2 ?_ ?_|(refine Xd ?_ ?_<;>intro hcd<;>try exact Xx))
  ·have e3 : (v.w.pair==0)=false:=by simp [h3]
   rw [if_neg (by simp [h3]),if_neg (by simp [h2])]
   refine Dp Tryz.func40 ?_
   intro C hP hN
   simp only [Tryz.f40] at hN ⊢
   with_reducible repeat' (first|refine Sp.h ?_|((first|refine Ss.h ?_|(refine Sb.h ?_ ?_ ?_<;>(try intro hgd)<;>try exact Xy))<;>simp -implicitDefEqProofs (maxSteps:=2000000) [hP,hN,e1,e2,e3])|refine X2 ?_ ?_|(refine Xd ?_ ?_<;>intro hcd<;>try exact Xx))
 ·have e1 : (v.kind==1)=false:=by simp [h1]
  rw [if_neg (by simp [h1])]
  by_cases h2 : v.kind=2
  ·have e2 : (v.kind==2)=true:=by simp [h2]
   by_cases h3 : v.ns.length=0
   ·have e3 : ((v.ns.length : Int)==0)=true:=by simp [h3]
    rw [if_pos ⟨h2,h3⟩]
    refine Dp Tryz.func40 ?_
    intro C hP hN
    simp only [Tryz.f40] at hN ⊢
    with_reducible repeat' (first|refine Sp.h ?_|((first|refine Ss.h ?_|refine Sc.h (cc) ?_|(refine Sb.h ?_ ?_ ?_<;>(try intro hgd)<;>try exact Xy))<;>simp -implicitDefEqProofs (maxSteps:=2000000) [hP,hN,e1,e2,e3])|refine X2 ?_ ?_|(refine Xd ?_ ?_<;>intro hcd<;>try exact Xx))
   ·have e3 : ((v.ns.length : Int)==0)=false:=beq_eq_false_iff_ne.2 (by omega)
    rw [if_neg (by simp [h3])]
    refine Dp Tryz.func40 ?_
    intro C hP hN
    simp only [Tryz.f40] at hN ⊢
    with_reducible repeat' (first|refine Sp.h ?_|((first|refine Ss.h ?_|(refine Sb.h ?_ ?_ ?_<;>(try intro hgd)<;>try exact Xy))<;>simp -implicitDefEqProofs (maxSteps:=2000000) [hP,hN,e1,e2,e3])|refine X2 ?_ ?_|(refine Xd ?_ ?_<;>intro hcd<;>try exact Xx))
  ·have e2 : (v.kind==2)=false:=by simp [h2]
   rw [if_neg (by simp [h2])]
   refine Dp Tryz.func40 ?_
   intro C hP hN
   simp only [Tryz.f40] at hN ⊢
   with_reducible repeat' (first|refine Sp.h ?_|((first|refine Ss.h ?_|(refine Sb.h ?_ ?_ ?_<;>(try intro hgd)<;>try exact Xy))<;>simp -implicitDefEqProofs (maxSteps:=2000000) [hP,hN,e1,e2])|refine X2 ?_ ?_|(refine Xd ?_ ?_<;>intro hcd<;>try exact Xx))
end Go.Ab
namespace Go.Ab
open Go.Proofs
def kX (hints : List Vc) (k : Nat) : List Vc:=(hints.drop k).take 1
def qp (SH : List Sh) (PT : List (List am)) (hints : List Vc) (k : Nat) (p : Nat × Nat) : Vc × Bool:=ko (bU PT p.1) (bS SH p.1) (bU PT p.2) (bS SH p.2) (kX hints k)
def pV (SH : List Sh) (PT : List (List am)) (p : Nat × Nat) : Int × NSt:=iF (aA (bU PT p.1)) (aA (bU PT p.2)) (bS SH p.1+bS SH p.2) 64
def eU (SH : List Sh) (PR : List (Nat × Nat)) (PT : List (List am)) (hints : List Vc) : List Vc:=PR.mapIdx fun k p=>(qp SH PT hints k p).1
def mG (SH : List Sh) (PR : List (Nat × Nat)) (PT : List (List am)) (hints : List Vc) : Nat→Nat→Bool→Vd
 |0,_,ap=>if ap then ⟨1,eU SH PR PT hints,⟨0,[],[]⟩⟩ else ⟨0,eU SH PR PT hints,⟨0,[],[]⟩⟩
 |f+1,k,ap=>match PR[k]? with
  |some p=>if (qp SH PT hints k p).2=true then mG SH PR PT hints f (k+1) ap
   else if od SH PT (pV SH PT p).2.w (pV SH PT p).2.v p=true then ⟨2,[],⟨k,(pV SH PT p).2.w,(pV SH PT p).2.v⟩⟩
   else mG SH PR PT hints f (k+1) false
  |none=>if ap then ⟨1,eU SH PR PT hints,⟨0,[],[]⟩⟩ else ⟨0,eU SH PR PT hints,⟨0,[],[]⟩⟩
def gT (s : Sce) (bx : List Iv) (hints : List Vc) : Vd:=if bG s bx then mG s.shs (bT s) (cK s bx) hints (bT s).length 0 true else ⟨0,[],⟨0,[],[]⟩⟩
theorem xH {s : Sce} {bx : List Iv} (h : bG s bx=true) (i : Nat) : 0≤bS s.shs i∧bS s.shs i≤1048576:=by
 simp only [bG,Bool.and_eq_true,decide_eq_true_eq] at h
 obtain ⟨_,_,_,_,_,v6,_⟩:=ku h.1
 unfold bS
 cases hx : s.shs[i]? with
 |none=>simp
 |some u=>
  have:=(v6 u (List.mem_of_getElem? hx)).2
  simp only [eP,Bool.and_eq_true,decide_eq_true_eq] at this
  simp only [Option.map_some,Option.getD_some];omega
theorem mH {l : List am} (h : l.length≤8) : (aA l).length≤8:=by unfold aA;split<;>simp<;>omega
theorem rG {SH : List Sh} {PR : List (Nat × Nat)} {PT : List (List am)} (hb : BdOk SH PR PT) (i : Nat) : (bU PT i).length≤8:=by
 unfold bU
 cases h : PT[i]? with
 |none=>simp
 |some l=>exact hb.pts l (List.mem_of_getElem? h)
theorem xI {a : List am} {ra : Int} {b : List am} {rb : Int} {h : List Vc} (hf : (ko a ra b rb h).2=false) : (ko a ra b rb h).1=(0,0,0):=by
 unfold ko at hf ⊢
 split
 ·rename_i n e;rw [e] at hf;cases hf
 ·rfl
theorem uS (a b : List Vc) (rho st : Int) : (iF a b rho st).2.w.length≤8∧(iF a b rho st).2.v.length≤8:=by
 unfold iF
 split
 ·rename_i h
  simp only [qI,Bool.and_eq_true] at h
  have ia:=fw.1 h.1.1.1
  have ib:=fw.1 h.1.1.2
  have:=lC (rho:=rho) (steps:=st.toNat) h.1.1.1 h.1.1.2 (st.toNat+1) (nI a b) (uO ia.1 ib.1)
  rw [this.wl,this.vl];exact ⟨ia.2.1,ib.2.1⟩
 ·simp
theorem xJ (l : List Vc) : (l.map av).all (j4 3)=true:=by
 rw [List.all_eq_true]
 intro x hx
 obtain ⟨v,_,rfl⟩:=List.mem_map.1 hx
 rfl
theorem rH (hints : List Vc) (i : Nat) (z : Option Value) (e n : Nat) (y : Option Value) : gq { size:=n,zero:=z,kind:=TK.slice e 3 24 y } (.pv (aT hints)) (some (.pv (.val (.int .i64 (if hints.length < i then (hints.length : Int) else (i : Int)))))) (some (.pv (.val (.int .i64 (min ((i : Int)+1) (hints.length : Int))))))=some (.pv (aT (kX hints i))):=by
 have h1 : 0≤(if hints.length < i then (hints.length : Int) else (i : Int)):=by split<;>omega
 have h2 : 0≤min ((i : Int)+1) (hints.length : Int):=by omega
 have h3 : (if hints.length < i then (hints.length : Int) else (i : Int)).toNat=min i hints.length:=by split<;>omega
 have h4 : (min ((i : Int)+1) (hints.length : Int)).toNat=min (i+1) hints.length:=by omega
 simp only [gq,if_pos h1,if_pos h2,h3,h4,List.length_map]
 rw [if_pos ⟨by omega,by omega,by decide,xJ hints⟩]
 congr 3
 rw [← List.map_take,← List.map_drop]
 congr 1
 unfold kX
 by_cases h : i < hints.length
 ·rw [show min i hints.length=i by omega,show min (i+1) hints.length=i+1 by omega,List.drop_take,show i+1 - i=1 by omega]
 ·rw [show min i hints.length=hints.length by omega,show min (i+1) hints.length=hints.length by omega,List.take_length,List.drop_length,List.drop_eq_nil_of_le (by omega)];rfl
theorem xc (s : Sce) (bx : List Iv) (hints : List Vc) (hs : ScL s) (hbl : bx.length≤9223372036854775807) (hh : hints.length≤9223372036854775807) : ab Tryz.prog 37 [.pv (de s),.pv (iv bx),.pv (aT hints)] [] [] (.pv (kp (gT s bx hints))):=by
 have cp:=rD s bx hs hbl
 have hd : gT s bx hints=if bG s bx then mG s.shs (bT s) (cK s bx) hints (bT s).length 0 true else ⟨0,[],⟨0,[],[]⟩⟩:=rfl
 cases hp : bG s bx with
 |false=>
  rw [hp] at cp hd
  simp only [Bool.false_eq_true,if_false] at hd
  rw [hd]
  refine Dp Tryz.func37 ?_
  intro C hP hN
  simp only [Tryz.f37] at hN ⊢
  with_reducible repeat' (first|refine Sp.h ?_|((first|refine Wd ?_|refine Ss.h ?_|refine Sc.h (cp) ?_|(refine Sb.h ?_ ?_ ?_<;>(try intro hgd)<;>try exact Xy))<;>simp -implicitDefEqProofs (maxSteps:=2000000) [hP,hN]<;>try refine Ya ?_)|refine X2 ?_ ?_|(refine Xd ?_ ?_<;>intro hcd<;>try exact Xx))
 |true=>
 rw [hp] at cp hd
 simp only [if_true] at hd
 have hb:=vY hp
 have hrd:=xH hp
 rw [hd]
 generalize bT s=PR at *
 generalize cK s bx=PT at *
 generalize s.shs=SH at *
 have hfew:=hb.few
 generalize hgo : mG SH PR PT hints PR.length 0 true=RES at *
 generalize hLM : (eU SH PR PT hints).map av=LM
 have hML : LM.length=PR.length:=by rw [← hLM];simp [eU]
 have hMk : ∀ k p,PR[k]?=some p→LM[k]?=some (av (qp SH PT hints k p).1):=fun k q hk=>by rw [← hLM,eU,List.getElem?_map,List.getElem?_mapIdx,hk];rfl
 refine Dp Tryz.func37 ?_
 intro C hP hN
 simp only [Tryz.f37] at hN ⊢
 with_reducible repeat' (first|refine Sp.h ?_|((first|refine Wd ?_|refine Ss.h ?_|refine Sc.h (cp) ?_|(refine Sb.h ?_ ?_ ?_<;>(try intro hgd)<;>try exact Xy))<;>simp -implicitDefEqProofs (maxSteps:=2000000) [hP,hN,show (24 : Int) * (PR.length : Int)≤281474976710656 by omega,show (PR.length : Int)≤9223372036854775807 by omega]<;>try refine Ya ?_)|refine X2 ?_ ?_|(refine Xd ?_ ?_<;>intro hcd<;>try exact Xx))
 refine WP.loopN [12,14,16] PR.length (fun i st=>∃ R : List PV,∃ ap : Bool,mG SH PR PT hints (PR.length - i) i ap=RES∧st.t 2=.pv (aT hints)∧st.t 6=.ptr 6 0∧st.h 6=some (.box [.pv (Z 0),.pv (.val (.slice none 0 0)),.pv (Z 0),.pv (.val (.slice none 0 0)),.pv (.val (.slice none 0 0))] true false)∧st.t 7=.ptr 7 0∧st.h 7=some (.box [.pv (.sl (SH.map dc)),.pv (.sl (PR.map ni)),.pv (.sl (PT.map aY))] true false)∧st.t 9=.arr 30 PR.length∧st.t 10=.pv (B ap)∧st.t 33=.pv (Z PR.length)∧st.t 34=.pv (Z i)∧st.h 12=none∧st.h 14=none∧st.h 16=none∧st.h 30=some (.row 126 3 R 0)∧R.length=PR.length∧(∀ k,i≤k→k < PR.length→R[k]?=some (ip 0 0 0))∧∀ k,k < i→R[k]?=LM[k]?) ?_ ?_
 ·refine ⟨List.replicate PR.length (ip 0 0 0),true,hgo,?_⟩
  simp
  try (intro k hk;first|exact hk|simp [List.getElem?_replicate,hk])
 rintro i st hi ⟨R,ap,hgo,g2,g6,hb6,g7,hb7,g9,g10,g33,g34,hb12,hb14,hb16,hb30,hRl,hRz,hR⟩
 by_cases hlt : i < PR.length
 ·have hwr:=aJ hlt (by omega)
  obtain ⟨p,hp⟩ : ∃ p,PR[i]?=some p:=⟨_,List.getElem?_eq_getElem hlt⟩
  have hRi:=hRz i (Nat.le_refl _) hlt
  have hgi:=jY hRi
  have hiR : i < R.length:=by omega
  have cc:=vX SH PR PT hb i p hp
  have r1:=hrd p.1
  have r2:=hrd p.2
  have l1:=rG hb p.1
  have l2:=rG hb p.2
  have cf:=A4 (bU PT p.1) (bS SH p.1) (bU PT p.2) (bS SH p.2) (kX hints i) (by omega) (by omega) (by simp [kX];omega)
  have hfd : qp SH PT hints i p=ko (bU PT p.1) (bS SH p.1) (bU PT p.2) (bS SH p.2) (kX hints i):=rfl
  rw [← hfd] at cf
  rw [show PR.length - i=(PR.length - i - 1)+1 by omega] at hgo
  simp only [mG,hp] at hgo
  have hMi:=hMk i p hp
  have k2 : ∀ k,k < i+1→(R.set i (av (qp SH PT hints i p).1))[k]?=LM[k]?:=fun k h1=>by
   rw [List.getElem?_set]
   by_cases e : i=k
   ·subst e;rw [if_pos rfl,if_pos hiR,hMi]
   ·rw [if_neg e];exact hR k (by omega)
  have k1 : ∀ y k,i+1≤k→k < PR.length→(R.set i y)[k]?=some (ip 0 0 0):=fun y k h1 h2=>by
   rw [List.getElem?_set,if_neg (by omega)];exact hRz k (by omega) h2
  have k2' : (qp SH PT hints i p).2=false→∀ k,k < i+1→R[k]?=LM[k]?:=fun hf k h1=>by
   by_cases e : k=i
   ·subst e;rw [hRi,hMi]
    have : (qp SH PT hints k p).1=(0,0,0):=xI hf
    rw [this]
   ·exact hR k (by omega)
  have k1' : ∀ k,i+1≤k→k < PR.length→R[k]?=some (ip 0 0 0):=fun k h1 h2=>hRz k (by omega) h2
  generalize qp SH PT hints i p=F at *
  clear hMk hLM hML
  cases hF2 : F.2 with
  |true=>
   rw [hF2] at cf hgo
   simp only [if_true] at hgo
   with_reducible repeat' (first|refine Sp.h ?_|((first|refine Wd ?_|refine Ss.h ?_|refine Sc.h (cc) ?_|refine Sc.h (cf) ?_|(refine Sb.h ?_ ?_ ?_<;>(try intro hgd)<;>try exact Xy))<;>simp -implicitDefEqProofs (maxSteps:=2000000) [hP,hN,g2,g6,hb6,g7,hb7,g9,g10,g33,g34,hb12,hb14,hb16,hb30,hRl,hlt,hwr,hRi,hgi,rH]<;>try refine Ya ?_)|refine X2 ?_ ?_|(refine Xd ?_ ?_<;>intro hcd<;>try exact Xx))
   rw [show PR.length - i - 1=PR.length - (i+1) by omega] at hgo
   refine ⟨R.set i (av F.1),?_⟩
   cases ap
   ·exact .inl ⟨hgo,rfl,rfl,by simp [hRl],k1 _,k2⟩
   ·exact .inr ⟨hgo,rfl,rfl,by simp [hRl],k1 _,k2⟩
  |false=>
   rw [hF2] at cf hgo
   simp only [Bool.false_eq_true,if_false] at hgo
   have k2':=k2' hF2
   have c1:=p6 (bU PT p.1) (by omega)
   have c2:=p6 (bU PT p.2) (by omega)
   have z1:=mH l1
   have z2:=mH l2
   have c3:=yR (aA (bU PT p.1)) (aA (bU PT p.2)) (bS SH p.1+bS SH p.2) 64 (by omega) (by omega)
   have hNd : pV SH PT p=iF (aA (bU PT p.1)) (aA (bU PT p.2)) (bS SH p.1+bS SH p.2) 64:=rfl
   have hln:=uS (aA (bU PT p.1)) (aA (bU PT p.2)) (bS SH p.1+bS SH p.2) 64
   rw [← hNd] at c3 hln
   have hw : IntKind.i64.wrap (bS SH p.1+bS SH p.2)=bS SH p.1+bS SH p.2:=aa (by omega) (by omega)
   generalize pV SH PT p=NN at *
   have co:=yI NN.2.w NN.2.v (bU PT p.1) (bS SH p.1) (bU PT p.2) (bS SH p.2) (by omega) (by omega) (by omega) (by omega)
   have hod : od SH PT NN.2.w NN.2.v p=(lA NN.2.w NN.2.v (bU PT p.1) (bS SH p.1) (bU PT p.2) (bS SH p.2) && decide (0≤jJ NN.2.w NN.2.v (bU PT p.1) (bS SH p.1) (bU PT p.2) (bS SH p.2))):=rfl
   rw [← hod] at co
   cases hov : od SH PT NN.2.w NN.2.v p with
   |true=>
    rw [hov] at co hgo
    simp only [if_true] at hgo
    subst hgo
    have cv:=vC ⟨i,NN.2.w,NN.2.v⟩
    with_reducible repeat' (first|refine Sp.h ?_|((first|refine Wd ?_|refine Ss.h ?_|refine Sc.h (cc) ?_|refine Sc.h (cf) ?_|refine Sc.h (c1) ?_|refine Sc.h (c2) ?_|refine Sc.h (c3) ?_|refine Sc.h (co) ?_|refine Sc.h (cv) ?_|(refine Sb.h ?_ ?_ ?_<;>(try intro hgd)<;>try exact Xy))<;>simp -implicitDefEqProofs (maxSteps:=2000000) [hP,hN,g2,g6,hb6,g7,hb7,g9,g10,g33,g34,hb12,hb14,hb16,hb30,hRl,hlt,hwr,hRi,hgi,rH,hw]<;>try refine Ya ?_)|refine X2 ?_ ?_|(refine Xd ?_ ?_<;>intro hcd<;>try exact Xx))
   |false=>
    rw [hov] at co hgo
    simp only [Bool.false_eq_true,if_false] at hgo
    rw [show PR.length - i - 1=PR.length - (i+1) by omega] at hgo
    with_reducible repeat' (first|refine Sp.h ?_|((first|refine Wd ?_|refine Ss.h ?_|refine Sc.h (cc) ?_|refine Sc.h (cf) ?_|refine Sc.h (c1) ?_|refine Sc.h (c2) ?_|refine Sc.h (c3) ?_|refine Sc.h (co) ?_|(refine Sb.h ?_ ?_ ?_<;>(try intro hgd)<;>try exact Xy))<;>simp -implicitDefEqProofs (maxSteps:=2000000) [hP,hN,g2,g6,hb6,g7,hb7,g9,g10,g33,g34,hb12,hb14,hb16,hb30,hRl,hlt,hwr,hRi,hgi,rH,hw]<;>try refine Ya ?_)|refine X2 ?_ ?_|(refine Xd ?_ ?_<;>intro hcd<;>try exact Xx))
    exact ⟨hgo,k1',k2'⟩
 ·have hin : i=PR.length:=by omega
  subst hin
  have hRC : R=LM:=by
   apply List.ext_getElem?
   intro k
   by_cases hk : k < PR.length
   ·exact hR k hk
   ·rw [List.getElem?_eq_none (by omega),List.getElem?_eq_none (by omega)]
  subst hRC
  rw [Nat.sub_self] at hgo
  simp only [mG] at hgo
  have cv:=vS (eU SH PR PT hints)
  have hBL : (eU SH PR PT hints).length=PR.length:=by simp [eU]
  cases ap with
  |true=>
   simp only [if_true] at hgo
   subst hgo
   rw [← hLM] at hb30
   with_reducible repeat' (first|refine Sp.h ?_|((first|refine Wd ?_|refine Ss.h ?_|refine Sc.h (cv) ?_|(refine Sb.h ?_ ?_ ?_<;>(try intro hgd)<;>try exact Xy))<;>simp -implicitDefEqProofs (maxSteps:=2000000) [hP,hN,g2,g6,hb6,g7,hb7,g9,g10,g33,g34,hb12,hb14,hb16,hb30,hML,hBL]<;>try refine Ya ?_)|refine X2 ?_ ?_|(refine Xd ?_ ?_<;>intro hcd<;>try exact Xx))
  |false=>
   simp only [Bool.false_eq_true,if_false] at hgo
   subst hgo
   rw [← hLM] at hb30
   with_reducible repeat' (first|refine Sp.h ?_|((first|refine Wd ?_|refine Ss.h ?_|(refine Sb.h ?_ ?_ ?_<;>(try intro hgd)<;>try exact Xy))<;>simp -implicitDefEqProofs (maxSteps:=2000000) [hP,hN,g2,g6,hb6,g7,hb7,g9,g10,g33,g34,hb12,hb14,hb16,hb30,hML,hBL]<;>try refine Ya ?_)|refine X2 ?_ ?_|(refine Xd ?_ ?_<;>intro hcd<;>try exact Xx))
end Go.Ab
namespace Go.Ab
open Go.Proofs
end Go.Ab
namespace Go.Ab
open Go.Proofs
def yT (l : List Int) (m : Nat) (c : Vc) : Vc:=(wr (c.1+wr (wr (nx l m 7 - 3) * 32768)),wr (c.2.1+wr (wr (nx l (nn l m) 5 - 2) * 32768)),wr (c.2.2+wr (wr (nx l (nn l (nn l m)) 5 - 2) * 32768)))
def eO (l : List Int) (m : Nat) : Nat→Nat
 |0=>m
 |i+1=>nn l (nn l (nn l (eO l m i)))
theorem ph (l : List Int) (m : Nat) : ∀ i,eO l m i≤m+3 * i
 |0=>Nat.le_refl _
 |i+1=>by
  have h:=ph l m i
  have l1:=aC l (eO l m i)
  have l2:=aC l (nn l (eO l m i))
  have l3:=aC l (nn l (nn l (eO l m i)))
  simp only [eO];omega
def qq (l : List Int) (m : Nat) (c : Vc) (k : Nat) : List Vc:=c :: (List.range k).map fun i=>yT l (eO l m i) c
theorem vZ (l : List Int) (m : Nat) (c : Vc) (k : Nat) : (qq l m c (k+1)).map av=(qq l m c k).map av++[av (yT l (eO l m k) c)]:=by simp [qq,List.range_succ]
theorem sO (l : List Int) (m : Nat) (c : Vc) (k : Nat) : (qq l m c k).length=k+1:=by simp [qq]
def ie (l : List Int) (n : Nat) : Nat:=(nx l n 4).toNat
def sP (l : List Int) (n : Nat) (c : Vc) : List Vc:=qq l (nn l n) c (ie l n)
def qt (l : List Int) (n : Nat) : Nat:=eO l (nn l n) (ie l n)
theorem z4 (l : List Int) (n : Nat) (c : Vc) (hn : n < 100000) : ab Tryz.prog 68 [.bx 0,.pv (av c)] [eC l n] [eC l (qt l n)] (.pv (aT (sP l n c))):=by
 have hx:=ba l n (k:=4) (by decide) (by decide)
 have hk : nx l n 4=((ie l n : Nat) : Int):=by unfold ie;omega
 have hk3 : ie l n < 4:=by unfold ie;omega
 have hl1:=aC l n
 refine jn Tryz.func68 rfl (by kernel_rfl) (by simp [Tryz.f68]) rfl (by intro i j h;rcases i with _|_|_|i<;>simp_all) ?_
 intro C hP hN
 simp only [Tryz.f68] at hN ⊢
 with_reducible repeat' (first|refine Sp.h ?_|((first|refine Wh [8] ?_|refine Wi [8] ?_|refine Ss.h ?_|refine Sc.h (bO l n 4 (by decide) (by omega)) ?_|(refine Sb.h ?_ ?_ ?_<;>(try intro hgd)<;>try exact Xy))<;>simp -implicitDefEqProofs (maxSteps:=2000000) [hP,hN,eC,hk]<;>try refine Ya ?_)|refine X2 ?_ ?_|(refine Xd ?_ ?_<;>intro hcd<;>try exact Xx))
 refine WP.loopN [] (ie l n) (fun i st=>st.t 0=.ptr (pk 0) 0∧st.t 3=.ptr 3 0∧st.h 3=some (.box [.pv (Z c.1),.pv (Z c.2.1),.pv (Z c.2.2)] true false)∧st.t 6=.pv (Z ((ie l n : Int) - i))∧
  st.h (pk 0)=some (.box [.pv (zs l),.pv (Z (eO l (nn l n) i))] false false)∧st.t 5=.arr 8 (i+1)∧st.h 8=some (.row 126 3 ((qq l (nn l n) c i).map av) 0)) (by simp [eO,qq]) ?_
 rintro i st hi ⟨h0,h3,hb3,h6,hp,h5,hb8⟩
 have hz:=sO l (nn l n) c i
 by_cases hlt : i < ie l n
 ·have hw : IntKind.i64.wrap ((ie l n : Int) - i - 1)=(ie l n : Int) - ((i : Int)+1):=by rw [IntKind.wrap_i64];omega
  have hgt : (0 : Int) < (ie l n : Int) - i:=by omega
  have hm2:=ph l (nn l n) i
  have l1:=aC l (eO l (nn l n) i)
  have l2:=aC l (nn l (eO l (nn l n) i))
  have hJ:=vZ l (nn l n) c i
  have hS : eO l (nn l n) (i+1)=nn l (nn l (nn l (eO l (nn l n) i))):=rfl
  with_reducible repeat' (first|refine Sp.h ?_|((first|refine Wd ?_|refine Ss.h ?_|refine Sc.h (nF l _ _ (by decide) (by decide) (by omega)) ?_|(refine Sb.h ?_ ?_ ?_<;>(try intro hgd)<;>try exact Xy))<;>simp -implicitDefEqProofs (maxSteps:=2000000) [hP,hN,h0,h3,hb3,h5,h6,hp,hb8,hlt,hw,hgt,hS,hz,show (i+1+1) * 24≤140737488355328 by omega,show i≤9223372036854775805 by omega]<;>try refine Ya ?_)|refine X2 ?_ ?_|(refine Xd ?_ ?_<;>intro hcd<;>try exact Xx))
  all_goals simp [hJ,yT]
 ·have hir : i=ie l n:=by omega
  subst hir
  with_reducible repeat' (first|refine Sp.h ?_|((first|refine Wd ?_|refine Ss.h ?_|(refine Sb.h ?_ ?_ ?_<;>(try intro hgd)<;>try exact Xy))<;>simp -implicitDefEqProofs (maxSteps:=2000000) [hP,hN,h0,h3,hb3,h5,h6,hp,hb8,hz]<;>try refine Ya ?_)|refine X2 ?_ ?_|(refine Xd ?_ ?_<;>intro hcd<;>try exact Xx))
  all_goals simp [qt,sP]
end Go.Ab
namespace Go.Ab
open Go.Proofs
theorem uT (l : List Int) (n : Nat) : qt l n≤n+10:=by
 have h1:=aC l n
 have hx:=ba l n (k:=4) (by decide) (by decide)
 have hk3 : ie l n < 4:=by unfold ie;omega
 have h2:=ph l (nn l n) (ie l n)
 unfold qt;omega
theorem xL (l : List Int) : ly l 0≤60:=by
 have h1:=aC l 0
 have hx:=ba l 0 (k:=3) (by decide) (by decide)
 have hrN : rN l 0≤3:=by unfold rN;omega
 have h2:=rt l (nn l 0) (rN l 0)
 have h3:=aC l (rM l 0)
 have hx3:=ba l (rM l 0) (k:=3) (by decide) (by decide)
 have hrK : rK l 0 < 3:=by unfold rK;omega
 have h4:=uI l (nn l (rM l 0)) (rK l 0)
 have h5 : rM l 0=kf l (nn l 0) (rN l 0):=rfl
 unfold ly;omega
def z5 (l : List Int) (m : Nat) (i : Nat) : Sh:=⟨i,wr ((wr (wr (1+nx l m 3) * 65536)).tdiv 8),sP l (nn l (nn l m)) (wr (nx l (nn l m) 4 * 32768),0,0)⟩
def dD (l : List Int) (n : Nat) : Nat→List Sh × Nat
 |0=>([],n)
 |i+1=>if nx l (dD l n i).2 5 < 4 then ((dD l n i).1++[z5 l (nn l (dD l n i).2) i],qt l (nn l (nn l (nn l (dD l n i).2)))) else ((dD l n i).1,nn l (dD l n i).2)
theorem pi (l : List Int) (n : Nat) : ∀ i,(dD l n i).2≤n+13 * i∧(dD l n i).1.length≤i
 |0=>by simp [dD]
 |i+1=>by
  have ih:=pi l n i
  have a1:=aC l (dD l n i).2
  have a2:=aC l (nn l (dD l n i).2)
  have a3:=aC l (nn l (nn l (dD l n i).2))
  have a4:=uT l (nn l (nn l (nn l (dD l n i).2)))
  simp only [dD]
  split
  ·simp only [List.length_append,List.length_cons,List.length_nil];omega
  ·simp only;omega
def uU (l : List Int) (m : Nat) : Sh:=⟨-1,wr ((wr (wr (1+nx l (nn l (nn l (nn l m))) 4) * 65536)).tdiv 8),sP l (nn l (nn l (nn l (nn l m)))) (wr (wr (nx l m 19 - 9) * 32768),wr (wr (nx l (nn l m) 19 - 9) * 32768),wr (wr (nx l (nn l (nn l m)) 5 - 2) * 32768))⟩
def eH (l : List Int) (xs : List Sh) (n : Nat) : Nat→List Sh × Nat
 |0=>(xs,n)
 |i+1=>((eH l xs n i).1++[uU l (eH l xs n i).2],qt l (nn l (nn l (nn l (nn l (eH l xs n i).2)))))
theorem pj (l : List Int) (xs : List Sh) (n : Nat) : ∀ i,(eH l xs n i).2≤n+14 * i∧(eH l xs n i).1.length=xs.length+i
 |0=>by simp [eH]
 |i+1=>by
  have ih:=pj l xs n i
  have a1:=aC l (eH l xs n i).2
  have a2:=aC l (nn l (eH l xs n i).2)
  have a3:=aC l (nn l (nn l (eH l xs n i).2))
  have a4:=aC l (nn l (nn l (nn l (eH l xs n i).2)))
  have a5:=uT l (nn l (nn l (nn l (nn l (eH l xs n i).2))))
  simp only [eH,List.length_append,List.length_cons,List.length_nil];omega
def kr (l : List Int) (n : Nat) : Nat:=(1+nx l n 3).toNat
def mA (l : List Int) : List Sh × Nat:=dD l (ly l 0) (rN l 0)
def mB (l : List Int) : List Sh × Nat:=eH l (mA l).1 (nn l (mA l).2) (kr l (mA l).2)
def lE (l : List Int) : Sce:=⟨gc l 0,kV l 0,(mB l).1,if nx l (mB l).2 5=1 then [(-1,nx l (nn l (mB l).2) (rN l 0))] else []⟩
def CN (l : List Int) (xs : List Sh) (h : Hp) : Prop:=∃ W : AV,h 4=some (.box [.pv (.sl ((gc l 0).map dy)),.pv (.sl ((kV l 0).map di)),W,dz] true false)∧((xs=[]∧W=dz∧h 71=none)∨(xs≠[]∧W=.arr 40 xs.length∧h 40=some (.row 85 3 (xs.map dc) 0))∨(xs≠[]∧W=.arr 71 xs.length∧h 71=some (.row 85 3 (xs.map dc) 0)))
theorem CO (l : List Int) : ab Tryz.prog 14 [.pv (zs l)] [] [] (.pv (de (lE l))):=by
 have hx:=ba l 0 (k:=3) (by decide) (by decide)
 have hrN : rN l 0≤3∧0 < rN l 0:=by unfold rN;omega
 have hzJ : (gc l 0).length=rN l 0:=kU l (nn l 0) (rN l 0)
 have hre:=xL l
 have cr:=CE l 0 (by decide)
 generalize hn0 : ly l 0=n0 at *
 refine Dp Tryz.func14 ?_
 intro C hP hN
 simp only [Tryz.f14] at hN ⊢
 with_reducible repeat' (first|refine Sp.h ?_|((first|refine Wd ?_|refine Ss.h ?_|refine Sc.h (yp _) ?_|refine Sc.h (cr) ?_|(refine Sb.h ?_ ?_ ?_<;>(try intro hgd)<;>try exact Xy))<;>simp -implicitDefEqProofs (maxSteps:=2000000) [hP,hN,eC]<;>try refine Ya ?_)|refine X2 ?_ ?_|(refine Xd ?_ ?_<;>intro hcd<;>try exact Xx))
 refine WP.loopN [] (rN l 0) (fun i st=>st.t 3=.ptr 9 0∧st.h 9=some (.box [.pv (zs l),.pv (Z (dD l n0 i).2)] true false)∧st.t 2=.ptr 2 0∧st.h 2=some (.box [dz,dz,dz,dz] true false)∧st.t 4=.ptr 4 0∧st.t 5=.pv (Z i)∧st.h 71=none∧st.h 86=none∧st.h 7=none∧
  (((dD l n0 i).1=[]∧st.h 4=some (.box [.pv (.sl ((gc l 0).map dy)),.pv (.sl ((kV l 0).map di)),dz,dz] true false)∧st.h 40=none)∨((dD l n0 i).1≠[]∧st.h 4=some (.box [.pv (.sl ((gc l 0).map dy)),.pv (.sl ((kV l 0).map di)),.arr 40 (dD l n0 i).1.length,dz] true false)∧st.h 40=some (.row 85 3 ((dD l n0 i).1.map dc) 0)))) (by simp [dD]) ?_
 rintro i st hi ⟨g3,hb9,g2,hb2,g4,g5,hb71,hb86,hb7,hor⟩
 have hle:=pi l n0 i
 by_cases hlt : i < rN l 0
 ·have hwr:=aJ hlt (by omega)
  have hS : dD l n0 (i+1)=if nx l (dD l n0 i).2 5 < 4 then ((dD l n0 i).1++[z5 l (nn l (dD l n0 i).2) i],qt l (nn l (nn l (nn l (dD l n0 i).2)))) else ((dD l n0 i).1,nn l (dD l n0 i).2):=rfl
  generalize dD l n0 (i+1)=S' at *
  generalize dD l n0 i=S at *
  obtain ⟨xs,m⟩:=S
  simp only at hle hS hb9 hor
  have a1:=aC l m
  have a2:=aC l (nn l m)
  have a3:=aC l (nn l (nn l m))
  have cp:=z4 l (nn l (nn l (nn l m))) (wr (nx l (nn l (nn l m)) 4 * 32768),0,0) (by omega)
  by_cases h5 : nx l m 5 < 4
  ·rw [if_pos h5] at hS
   subst hS
   rcases hor with ⟨hxs,hb4,hb40⟩|⟨hxs,hb4,hb40⟩
   ·subst hxs
    with_reducible repeat' (first|refine Sp.h ?_|((first|refine Wd ?_|refine Ss.h ?_|refine Sc.h (bO l _ 5 (by decide) (by omega)) ?_|refine Sc.h (bO l _ 3 (by decide) (by omega)) ?_|refine Sc.h (bO l _ 4 (by decide) (by omega)) ?_|refine Sc.h (cp) ?_|(refine Sb.h ?_ ?_ ?_<;>(try intro hgd)<;>try exact Xy))<;>simp -implicitDefEqProofs (maxSteps:=2000000) [hP,hN,g3,hb9,g2,hb2,g4,g5,hb71,hb86,hb7,hb4,hb40,hlt,hwr,hzJ,h5]<;>try refine Ya ?_)|refine X2 ?_ ?_|(refine Xd ?_ ?_<;>intro hcd<;>try exact Xx))
    all_goals exact ⟨rfl,rfl,rfl⟩
   ·skip
    with_reducible repeat' (first|refine Sp.h ?_|((first|refine Wd ?_|refine Ss.h ?_|refine Sc.h (bO l _ 5 (by decide) (by omega)) ?_|refine Sc.h (bO l _ 3 (by decide) (by omega)) ?_|refine Sc.h (bO l _ 4 (by decide) (by omega)) ?_|refine Sc.h (cp) ?_|(refine Sb.h ?_ ?_ ?_<;>(try intro hgd)<;>try exact Xy))<;>simp -implicitDefEqProofs (maxSteps:=2000000) [hP,hN,g3,hb9,g2,hb2,g4,g5,hb71,hb86,hb7,hb4,hb40,hlt,hwr,hzJ,h5,show (xs.length+1) * 40≤140737488355328 by omega,show xs.length≤9223372036854775806 by omega]<;>try refine Ya ?_)|refine X2 ?_ ?_|(refine Xd ?_ ?_<;>intro hcd<;>try exact Xx))
    all_goals exact ⟨rfl,rfl,rfl⟩
  ·rw [if_neg h5] at hS
   subst hS
   rcases hor with ⟨hxs,hb4,hb40⟩|⟨hxs,hb4,hb40⟩
   ·skip
    with_reducible repeat' (first|refine Sp.h ?_|((first|refine Wd ?_|refine Ss.h ?_|refine Sc.h (bO l _ 5 (by decide) (by omega)) ?_|(refine Sb.h ?_ ?_ ?_<;>(try intro hgd)<;>try exact Xy))<;>simp -implicitDefEqProofs (maxSteps:=2000000) [hP,hN,g3,hb9,g2,hb2,g4,g5,hb71,hb86,hb7,hb4,hb40,hlt,hwr,hzJ,h5]<;>try refine Ya ?_)|refine X2 ?_ ?_|(refine Xd ?_ ?_<;>intro hcd<;>try exact Xx))
    all_goals exact hxs
   ·skip
    with_reducible repeat' (first|refine Sp.h ?_|((first|refine Wd ?_|refine Ss.h ?_|refine Sc.h (bO l _ 5 (by decide) (by omega)) ?_|(refine Sb.h ?_ ?_ ?_<;>(try intro hgd)<;>try exact Xy))<;>simp -implicitDefEqProofs (maxSteps:=2000000) [hP,hN,g3,hb9,g2,hb2,g4,g5,hb71,hb86,hb7,hb4,hb40,hlt,hwr,hzJ,h5]<;>try refine Ya ?_)|refine X2 ?_ ?_|(refine Xd ?_ ?_<;>intro hcd<;>try exact Xx))
    all_goals exact hxs
 ·have hir : i=rN l 0:=by omega
  subst hir
  have hmA : dD l n0 (rN l 0)=mA l:=by unfold mA;rw [hn0]
  rw [hmA] at hle hb9 hor
  have hK : nx l (mA l).2 3 < 3∧0≤nx l (mA l).2 3:=⟨(ba l _ (by decide) (by decide)).2,(ba l _ (by decide) (by decide)).1⟩
  have hKe : IntKind.i64.wrap (1+nx l (mA l).2 3)=((kr l (mA l).2 : Nat) : Int):=by rw [IntKind.wrap_i64];unfold kr;omega
  have hK3 : kr l (mA l).2≤3∧1≤kr l (mA l).2:=by unfold kr;omega
  have hsk : lE l=⟨gc l 0,kV l 0,(mB l).1,if nx l (mB l).2 5=1 then [(-1,nx l (nn l (mB l).2) (rN l 0))] else []⟩:=rfl
  rw [hsk]
  have hmB : mB l=eH l (mA l).1 (nn l (mA l).2) (kr l (mA l).2):=rfl
  have hnA:=aC l (mA l).2
  rw [hmB]
  generalize mA l=A at *
  clear hmA hsk hmB
  generalize kr l A.2=K at *
  obtain ⟨W,hb4,hW⟩ : ∃ W : AV,st.h 4=some (.box [.pv (.sl ((gc l 0).map dy)),.pv (.sl ((kV l 0).map di)),W,dz] true false)∧((A.1=[]∧W=dz∧st.h 71=none)∨(A.1≠[]∧W=.arr 40 A.1.length∧st.h 40=some (.row 85 3 (A.1.map dc) 0))∨(A.1≠[]∧W=.arr 71 A.1.length∧st.h 71=some (.row 85 3 (A.1.map dc) 0))):=by
   rcases hor with ⟨a,b,c⟩|⟨a,b,c⟩
   ·exact ⟨_,b,.inl ⟨a,rfl,hb71⟩⟩
   ·exact ⟨_,b,.inr (.inl ⟨a,rfl,c⟩)⟩
  clear hor
  with_reducible repeat' (first|refine Sp.h ?_|((first|refine Wd ?_|refine Ss.h ?_|refine Sc.h (bO l _ 3 (by decide) (by omega)) ?_|(refine Sb.h ?_ ?_ ?_<;>(try intro hgd)<;>try exact Xy))<;>simp -implicitDefEqProofs (maxSteps:=2000000) [hP,hN,g3,hb9,g2,hb2,g4,g5,hb4,hb86,hb7,hzJ,hKe]<;>try refine Ya ?_)|refine X2 ?_ ?_|(refine Xd ?_ ?_<;>intro hcd<;>try exact Xx))
  have hz0 : eH l A.1 (nn l A.2) 0=(A.1,nn l A.2):=rfl
  refine WP.loopN [7] K (fun i st=>st.t 3=.ptr 9 0∧st.h 9=some (.box [.pv (zs l),.pv (Z (eH l A.1 (nn l A.2) i).2)] true false)∧st.t 2=.ptr 2 0∧st.h 2=some (.box [dz,dz,dz,dz] true false)∧st.t 4=.ptr 4 0∧st.t 6=.pv (Z ((K : Int) - i))∧st.h 86=none∧st.h 7=none∧CN l (eH l A.1 (nn l A.2) i).1 st.h) ?_ ?_
  ·refine ⟨by simp [g3],by simp [hz0],by simp [g2],by simp [hb2],by simp [g4],by simp,by simp [hb86],by simp [hb7],?_⟩
   rw [hz0]
   rcases hW with ⟨a,rfl,b⟩|⟨a,rfl,b⟩|⟨a,rfl,b⟩
   ·exact ⟨dz,by simp [hb4],.inl ⟨a,rfl,by simp [b]⟩⟩
   ·exact ⟨.arr 40 A.1.length,by simp [hb4],.inr (.inl ⟨a,rfl,by simp [b]⟩)⟩
   ·exact ⟨.arr 71 A.1.length,by simp [hb4],.inr (.inr ⟨a,rfl,by simp [b]⟩)⟩
  clear g3 hb9 g2 hb2 g4 g5 hb86 hb7 hb4 hb71 hW
  rintro i st hi ⟨g3,hb9,g2,hb2,g4,g6,hb86,hb7,W,hb4,hW⟩
  have hleO:=pj l A.1 (nn l A.2) i
  by_cases hlt : i < K
  ·have hwr : IntKind.i64.wrap ((K : Int) - i - 1)=(K : Int) - ((i : Int)+1):=by rw [IntKind.wrap_i64];omega
   have hgt : (0 : Int) < (K : Int) - i:=by omega
   have hS : eH l A.1 (nn l A.2) (i+1)=((eH l A.1 (nn l A.2) i).1++[uU l (eH l A.1 (nn l A.2) i).2],qt l (nn l (nn l (nn l (nn l (eH l A.1 (nn l A.2) i).2))))):=rfl
   generalize eH l A.1 (nn l A.2) (i+1)=S' at *
   generalize eH l A.1 (nn l A.2) i=S at *
   subst hS
   obtain ⟨xs,m⟩:=S
   simp only at hleO hb9 hW ⊢
   have a1:=aC l m
   have a2:=aC l (nn l m)
   have a3:=aC l (nn l (nn l m))
   have a4:=aC l (nn l (nn l (nn l m)))
   have cp:=z4 l (nn l (nn l (nn l (nn l m)))) (wr (wr (nx l m 19 - 9) * 32768),wr (wr (nx l (nn l m) 19 - 9) * 32768),wr (wr (nx l (nn l (nn l m)) 5 - 2) * 32768)) (by omega)
   rcases hW with ⟨hxs,hW,hb71⟩|⟨hxs,hW,hb40⟩|⟨hxs,hW,hb71⟩
   ·subst hW;subst hxs
    with_reducible repeat' (first|refine Sp.h ?_|((first|refine Wd ?_|refine Ss.h ?_|refine Sc.h (nF l _ 9 (by decide) (by decide) (by omega)) ?_|refine Sc.h (nF l _ 2 (by decide) (by decide) (by omega)) ?_|refine Sc.h (bO l _ 4 (by decide) (by omega)) ?_|refine Sc.h (cp) ?_|(refine Sb.h ?_ ?_ ?_<;>(try intro hgd)<;>try exact Xy))<;>simp -implicitDefEqProofs (maxSteps:=2000000) [hP,hN,g3,hb9,g2,hb2,g4,g6,hb86,hb7,hb4,hb71,hwr,hgt]<;>try refine Ya ?_)|refine X2 ?_ ?_|(refine Xd ?_ ?_<;>intro hcd<;>try exact Xx))
    refine ⟨hlt,.arr 71 [uU l m].length,by simp [St.kill,eW,eI],.inr (.inr ⟨by simp,rfl,?_⟩)⟩
    simp [St.kill,eW,eI]
    all_goals exact ⟨rfl,rfl,rfl⟩
   ·subst hW
    with_reducible repeat' (first|refine Sp.h ?_|((first|refine Wd ?_|refine Ss.h ?_|refine Sc.h (nF l _ 9 (by decide) (by decide) (by omega)) ?_|refine Sc.h (nF l _ 2 (by decide) (by decide) (by omega)) ?_|refine Sc.h (bO l _ 4 (by decide) (by omega)) ?_|refine Sc.h (cp) ?_|(refine Sb.h ?_ ?_ ?_<;>(try intro hgd)<;>try exact Xy))<;>simp -implicitDefEqProofs (maxSteps:=2000000) [hP,hN,g3,hb9,g2,hb2,g4,g6,hb86,hb7,hb4,hb40,hwr,hgt,show (xs.length+1) * 40≤140737488355328 by omega,show xs.length≤9223372036854775806 by omega]<;>try refine Ya ?_)|refine X2 ?_ ?_|(refine Xd ?_ ?_<;>intro hcd<;>try exact Xx))
    refine ⟨hlt,.arr 40 (xs++[uU l m]).length,by simp [St.kill,eW,eI],.inr (.inl ⟨by simp,rfl,?_⟩)⟩
    simp [St.kill,eW,eI]
    all_goals exact ⟨rfl,rfl,rfl⟩
   ·subst hW
    with_reducible repeat' (first|refine Sp.h ?_|((first|refine Wd ?_|refine Ss.h ?_|refine Sc.h (nF l _ 9 (by decide) (by decide) (by omega)) ?_|refine Sc.h (nF l _ 2 (by decide) (by decide) (by omega)) ?_|refine Sc.h (bO l _ 4 (by decide) (by omega)) ?_|refine Sc.h (cp) ?_|(refine Sb.h ?_ ?_ ?_<;>(try intro hgd)<;>try exact Xy))<;>simp -implicitDefEqProofs (maxSteps:=2000000) [hP,hN,g3,hb9,g2,hb2,g4,g6,hb86,hb7,hb4,hb71,hwr,hgt,show (xs.length+1) * 40≤140737488355328 by omega,show xs.length≤9223372036854775806 by omega]<;>try refine Ya ?_)|refine X2 ?_ ?_|(refine Xd ?_ ?_<;>intro hcd<;>try exact Xx))
    refine ⟨hlt,.arr 71 (xs++[uU l m]).length,by simp [St.kill,eW,eI],.inr (.inr ⟨by simp,rfl,?_⟩)⟩
    simp [St.kill,eW,eI]
    all_goals exact ⟨rfl,rfl,rfl⟩
  ·have hir : i=K:=by omega
   subst hir
   generalize eH l A.1 (nn l A.2) i=S at *
   obtain ⟨xs,m⟩:=S
   simp only at hleO hb9 hW ⊢
   have a1:=aC l m
   have hne : ((rN l 0 : Nat) : Int)≠0:=by omega
   have hxs : xs≠[]:=by
    rintro rfl
    have:=hleO.2
    simp at this;omega
   by_cases h5 : nx l m 5=1
   ·have h5' : (nx l m 5==1)=true:=by simp [h5]
    rw [if_pos h5]
    rcases hW with ⟨hx,hW,hb71⟩|⟨_,hW,hb40⟩|⟨_,hW,hb71⟩
    ·exact absurd hx hxs
    ·subst hW
     with_reducible repeat' (first|refine Sp.h ?_|((first|refine Wd ?_|refine Ss.h ?_|refine Sc.h (bO l _ 5 (by decide) (by omega)) ?_|refine Sc.h (bO l _ _ hne (by omega)) ?_|(refine Sb.h ?_ ?_ ?_<;>(try intro hgd)<;>try exact Xy))<;>simp -implicitDefEqProofs (maxSteps:=2000000) [hP,hN,g3,hb9,g2,hb2,g4,g6,hb86,hb7,hb4,hb40,h5,h5',hzJ]<;>try refine Ya ?_)|refine X2 ?_ ?_|(refine Xd ?_ ?_<;>intro hcd<;>try exact Xx))
    ·subst hW
     with_reducible repeat' (first|refine Sp.h ?_|((first|refine Wd ?_|refine Ss.h ?_|refine Sc.h (bO l _ 5 (by decide) (by omega)) ?_|refine Sc.h (bO l _ _ hne (by omega)) ?_|(refine Sb.h ?_ ?_ ?_<;>(try intro hgd)<;>try exact Xy))<;>simp -implicitDefEqProofs (maxSteps:=2000000) [hP,hN,g3,hb9,g2,hb2,g4,g6,hb86,hb7,hb4,hb71,h5,h5',hzJ]<;>try refine Ya ?_)|refine X2 ?_ ?_|(refine Xd ?_ ?_<;>intro hcd<;>try exact Xx))
   ·have h5' : (nx l m 5==1)=false:=by simp [h5]
    rw [if_neg h5]
    rcases hW with ⟨hx,hW,hb71⟩|⟨_,hW,hb40⟩|⟨_,hW,hb71⟩
    ·exact absurd hx hxs
    ·subst hW
     with_reducible repeat' (first|refine Sp.h ?_|((first|refine Wd ?_|refine Ss.h ?_|refine Sc.h (bO l _ 5 (by decide) (by omega)) ?_|(refine Sb.h ?_ ?_ ?_<;>(try intro hgd)<;>try exact Xy))<;>simp -implicitDefEqProofs (maxSteps:=2000000) [hP,hN,g3,hb9,g2,hb2,g4,g6,hb86,hb7,hb4,hb40,h5,h5',hzJ]<;>try refine Ya ?_)|refine X2 ?_ ?_|(refine Xd ?_ ?_<;>intro hcd<;>try exact Xx))
    ·subst hW
     with_reducible repeat' (first|refine Sp.h ?_|((first|refine Wd ?_|refine Ss.h ?_|refine Sc.h (bO l _ 5 (by decide) (by omega)) ?_|(refine Sb.h ?_ ?_ ?_<;>(try intro hgd)<;>try exact Xy))<;>simp -implicitDefEqProofs (maxSteps:=2000000) [hP,hN,g3,hb9,g2,hb2,g4,g6,hb86,hb7,hb4,hb71,h5,h5',hzJ]<;>try refine Ya ?_)|refine X2 ?_ ?_|(refine Xd ?_ ?_<;>intro hcd<;>try exact Xx))
end Go.Ab
namespace Go.Ab
open Go.Proofs
theorem v8 (xs : List Vc) (hl : xs.length≤9223372036854775807) : ab Tryz.prog 116 [.pv (aT xs),.pv (aT xs)] [] [] (.pv (B true)):=by
 refine Dp Tryz.func116 ?_
 intro C hP hN
 simp only [Tryz.f116] at hN ⊢
 with_reducible repeat' (first|refine Sp.h ?_|((first|refine Wd ?_|refine Ss.h ?_|(refine Sb.h ?_ ?_ ?_<;>(try intro hgd)<;>try exact Xy))<;>simp -implicitDefEqProofs (maxSteps:=2000000) [hP,hN]<;>try refine Ya ?_)|refine X2 ?_ ?_|(refine Xd ?_ ?_<;>intro hcd<;>try exact Xx))
 refine WP.loopN [] xs.length (fun i st=>st.t 0=.pv (aT xs)∧st.t 1=.pv (aT xs)∧st.t 5=.pv (Z i)) (by simp) ?_
 rintro i st hi ⟨h0,h1,h2⟩
 by_cases hlt : i < xs.length
 ·have hw:=aJ hlt hl
  generalize hxe : xs[i]=v at *
  have hx : xs[i]?=some v:=by rw [List.getElem?_eq_getElem hlt,hxe]
  with_reducible repeat' (first|refine Sp.h ?_|((first|refine Wd ?_|refine Ss.h ?_|(refine Sb.h ?_ ?_ ?_<;>(try intro hgd)<;>try exact Xy))<;>simp -implicitDefEqProofs (maxSteps:=2000000) [hP,hN,h0,h1,h2,hlt,hw,hx,hxe]<;>try refine Ya ?_)|refine X2 ?_ ?_|(refine Xd ?_ ?_<;>intro hcd<;>try exact Xx))
 ·skip
  with_reducible repeat' (first|refine Sp.h ?_|((first|refine Wd ?_|refine Ss.h ?_|(refine Sb.h ?_ ?_ ?_<;>(try intro hgd)<;>try exact Xy))<;>simp -implicitDefEqProofs (maxSteps:=2000000) [hP,hN,h0,h1,h2,hlt]<;>try refine Ya ?_)|refine X2 ?_ ?_|(refine Xd ?_ ?_<;>intro hcd<;>try exact Xx))
theorem tN {α : Type} [DecidableEq α] (xs : List α) : m8 xs xs=true:=by
 unfold m8
 rw [xr rfl];simp
theorem Bc (w : Wit) (ha : w.a.length≤9223372036854775807) (hb : w.b.length≤9223372036854775807) : ab Tryz.prog 117 [.pv (qK w),.pv (qK w)] [] [] (.pv (B true)):=by
 have c1:=zX w.a w.a ha ha
 have c2:=zX w.b w.b hb hb
 rw [tN] at c1 c2
 refine Dp Tryz.func117 ?_
 intro C hP hN
 simp only [Tryz.f117] at hN ⊢
 with_reducible repeat' (first|refine Sp.h ?_|((first|refine Ss.h ?_|refine Sc.h (c1) ?_|refine Sc.h (c2) ?_|(refine Sb.h ?_ ?_ ?_<;>(try intro hgd)<;>try exact Xy))<;>simp -implicitDefEqProofs (maxSteps:=2000000) [hP,hN])|refine X2 ?_ ?_|(refine Xd ?_ ?_<;>intro hcd<;>try exact Xx))
theorem CP (v : Vd) (hn : v.ns.length≤9223372036854775807) (ha : v.w.a.length≤9223372036854775807) (hb : v.w.b.length≤9223372036854775807) : ab Tryz.prog 36 [.pv (kp v),.pv (kp v)] [] [] (.pv (B true)):=by
 have c1:=v8 v.ns hn
 have c2:=Bc v.w ha hb
 refine Dp Tryz.func36 ?_
 intro C hP hN
 simp only [Tryz.f36] at hN ⊢
 with_reducible repeat' (first|refine Sp.h ?_|((first|refine Ss.h ?_|refine Sc.h (c1) ?_|refine Sc.h (c2) ?_|(refine Sb.h ?_ ?_ ?_<;>(try intro hgd)<;>try exact Xy))<;>simp -implicitDefEqProofs (maxSteps:=2000000) [hP,hN])|refine X2 ?_ ?_|(refine Xd ?_ ?_<;>intro hcd<;>try exact Xx))
def da (d : Int) : Sce:=⟨[⟨⟨#[97]⟩,3,-1,0,0,0,0,16384,1,1,1,1⟩],[],[⟨0,9,[(1000,0,0)]⟩,⟨-1,9,[(d,0,0)]⟩],[]⟩
theorem yU (d : Int) : ab Tryz.prog 115 [.pv (Z d)] [] [] (.pv (de (da d))):=by
 refine Dp Tryz.func115 ?_
 intro C hP hN
 simp only [Tryz.f115] at hN ⊢
 with_reducible repeat' (first|refine Sp.h ?_|((first|refine Ss.h ?_|(refine Sb.h ?_ ?_ ?_<;>(try intro hgd)<;>try exact Xy))<;>simp -implicitDefEqProofs (maxSteps:=2000000) [hP,hN])|refine X2 ?_ ?_|(refine Xd ?_ ?_<;>intro hcd<;>try exact Xx))
 all_goals exact ⟨rfl,rfl,rfl,rfl⟩
set_option maxRecDepth 100000 in
theorem uV : ((gT (da 5000) [(0,100)] []).kind=1∧(gT (da 5000) [(0,100)] []).ns.length=1∧(gT (da 5000) [(0,100)] []).w.a.length=0∧(gT (da 5000) [(0,100)] []).w.b.length=0)∧(gT (da 1010) [(0,0)] []).kind=2∧rF (da 5000) [(0,100)] (gT (da 5000) [(0,100)] [])=true:=by decide +kernel
theorem v9 (d : Int) : ScL (da d):=⟨by simp [da],by simp [da],by simp [da],by simp [da],by simp [da]⟩
theorem CQ : ab Tryz.prog 35 [] [] [] (.pv (B true)):=by
 obtain ⟨⟨f1,f2,f3,f4⟩,f5,f6⟩:=uV
 have c0:=yU 5000
 have c1:=yU 1010
 have c2:=xc (da 5000) [(0,100)] [] (v9 _) (by decide) (by decide)
 have c3:=xc (da 1010) [(0,0)] [] (v9 _) (by decide) (by decide)
 have c4:=CM (da 5000) [(0,100)] (gT (da 5000) [(0,100)] []) (v9 _) (by decide) (by omega) (by omega) (by omega)
 rw [f6] at c4
 simp only [iv,aT,List.map_nil,List.map_cons] at c2 c3 c4
 generalize gT (da 5000) [(0,100)] []=v at *
 generalize gT (da 1010) [(0,0)] []=u at *
 generalize da 5000=s1 at *
 generalize da 1010=s2 at *
 obtain ⟨k,ns,w⟩:=v
 obtain ⟨k',ns',w'⟩:=u
 simp only at f1 f2 f5 c2 c3 c4
 subst f1;subst f5
 refine Dp Tryz.func35 ?_
 intro C hP hN
 simp only [Tryz.f35] at hN ⊢
 with_reducible repeat' (first|refine Sp.h ?_|((first|refine Wd ?_|refine Ss.h ?_|refine Sc.h (c0) ?_|refine Sc.h (c1) ?_|refine Sc.h (c2) ?_|refine Sc.h (c3) ?_|refine Sc.h (c4) ?_|(refine Sb.h ?_ ?_ ?_<;>(try intro hgd)<;>try exact Xy))<;>simp -implicitDefEqProofs (maxSteps:=2000000) [hP,hN,f2]<;>try refine Ya ?_)|refine X2 ?_ ?_|(refine Xd ?_ ?_<;>intro hcd<;>try exact Xx))
end Go.Ab
namespace Go.Ab
open Go.Proofs
def rI (v : Vc) : Bool:=!(v.1==0 && v.2.1==0 && v.2.2==0) && ep v.1 v.2.1 v.2.2 16384
theorem yV (v : Vc) : ab Tryz.prog 240 [.pv (av v)] [] [] (.pv (B (rI v))):=by
 have cn:=AA v.1 v.2.1 v.2.2 16384 (by decide) (by decide)
 have hd : rI v=(!(v.1==0 && v.2.1==0 && v.2.2==0) && ep v.1 v.2.1 v.2.2 16384):=rfl
 rw [hd]
 generalize ep v.1 v.2.1 v.2.2 16384=b at *
 refine Dp Tryz.func240 ?_
 intro C hP hN
 simp only [Tryz.f240] at hN ⊢
 with_reducible repeat' (first|refine Sp.h ?_|((first|refine Ss.h ?_|refine Sc.h (cn) ?_|(refine Sb.h ?_ ?_ ?_<;>(try intro hgd)<;>try exact Xy))<;>simp -implicitDefEqProofs (maxSteps:=2000000) [hP,hN])|refine X2 ?_ ?_|(refine Xd ?_ ?_<;>intro hcd<;>try exact Xx))
 all_goals (try (cases b<;>simp_all))
def z7 (a b c : Int) : Vc:=(aG a 41 - 20,aG b 41 - 20,aG c 41 - 20)
def z8 (a b c : Int) : Vc:=(aG a 32769 - 16384,aG b 32769 - 16384,aG c 32769 - 16384)
def nJ (a b c : Int) : Vc:=if kz .and .i64 a 8=8 then z8 a b c else z7 a b c
def xd (a b c : Int) : Vc:=if rI (nJ a b c) then nJ a b c else (1,0,0)
theorem fx (n : Int) {k : Int} (h0 : 0 < k) (hk : k < 4611686018427387904) : 0≤aG n k∧aG n k < k:=by
 have h1 : -k < n.tmod k:=by have:=Int.lt_tmod_of_pos n h0;omega
 have h2 : n.tmod k < k:=Int.tmod_lt_of_pos n h0
 unfold aG
 split
 ·rw [aa (by omega) (by omega)];omega
 ·omega
theorem yW (a b c : Int) : ab Tryz.prog 126 [.pv (Z a),.pv (Z b),.pv (Z c)] [] [] (.pv (av (xd a b c))):=by
 have a1:=fx a (k:=41) (by decide) (by decide)
 have b1:=fx b (k:=41) (by decide) (by decide)
 have c1:=fx c (k:=41) (by decide) (by decide)
 have a2:=fx a (k:=32769) (by decide) (by decide)
 have b2:=fx b (k:=32769) (by decide) (by decide)
 have c2:=fx c (k:=32769) (by decide) (by decide)
 by_cases h8 : kz .and .i64 a 8=8
 ·have h8' : (kz .and .i64 a 8==8)=true:=by simp [h8]
  have e1 : IntKind.i64.wrap (aG a 32769 - 16384)=aG a 32769 - 16384:=aa (by omega) (by omega)
  have e2 : IntKind.i64.wrap (aG b 32769 - 16384)=aG b 32769 - 16384:=aa (by omega) (by omega)
  have e3 : IntKind.i64.wrap (aG c 32769 - 16384)=aG c 32769 - 16384:=aa (by omega) (by omega)
  have cu:=yV (aG a 32769 - 16384,aG b 32769 - 16384,aG c 32769 - 16384)
  have hn : nJ a b c=(aG a 32769 - 16384,aG b 32769 - 16384,aG c 32769 - 16384):=by simp [nJ,z8,h8]
  have hv : xd a b c=if rI (nJ a b c) then nJ a b c else (1,0,0):=rfl
  rw [hn] at hv
  cases hu : rI (aG a 32769 - 16384,aG b 32769 - 16384,aG c 32769 - 16384) with
  |true=>
   rw [hu] at cu hv
   simp only [if_true] at hv
   rw [hv]
   refine Dp Tryz.func126 ?_
   intro C hP hN
   simp only [Tryz.f126] at hN ⊢
   with_reducible repeat' (first|refine Sp.h ?_|((first|refine Ss.h ?_|refine Sc.h (nD _ 41 (by decide)) ?_|refine Sc.h (nD _ 32769 (by decide)) ?_|refine Sc.h (cu) ?_|(refine Sb.h ?_ ?_ ?_<;>(try intro hgd)<;>try exact Xy))<;>simp -implicitDefEqProofs (maxSteps:=2000000) [hP,hN,h8,h8',e1,e2,e3])|refine X2 ?_ ?_|(refine Xd ?_ ?_<;>intro hcd<;>try exact Xx))
  |false=>
   rw [hu] at cu hv
   simp only [Bool.false_eq_true,if_false] at hv
   rw [hv]
   refine Dp Tryz.func126 ?_
   intro C hP hN
   simp only [Tryz.f126] at hN ⊢
   with_reducible repeat' (first|refine Sp.h ?_|((first|refine Ss.h ?_|refine Sc.h (nD _ 41 (by decide)) ?_|refine Sc.h (nD _ 32769 (by decide)) ?_|refine Sc.h (cu) ?_|(refine Sb.h ?_ ?_ ?_<;>(try intro hgd)<;>try exact Xy))<;>simp -implicitDefEqProofs (maxSteps:=2000000) [hP,hN,h8,h8',e1,e2,e3])|refine X2 ?_ ?_|(refine Xd ?_ ?_<;>intro hcd<;>try exact Xx))
 ·have h8' : (kz .and .i64 a 8==8)=false:=by simp [h8]
  have e1 : IntKind.i64.wrap (aG a 41 - 20)=aG a 41 - 20:=aa (by omega) (by omega)
  have e2 : IntKind.i64.wrap (aG b 41 - 20)=aG b 41 - 20:=aa (by omega) (by omega)
  have e3 : IntKind.i64.wrap (aG c 41 - 20)=aG c 41 - 20:=aa (by omega) (by omega)
  have cu:=yV (aG a 41 - 20,aG b 41 - 20,aG c 41 - 20)
  have hn : nJ a b c=(aG a 41 - 20,aG b 41 - 20,aG c 41 - 20):=by simp [nJ,z7,h8]
  have hv : xd a b c=if rI (nJ a b c) then nJ a b c else (1,0,0):=rfl
  rw [hn] at hv
  cases hu : rI (aG a 41 - 20,aG b 41 - 20,aG c 41 - 20) with
  |true=>
   rw [hu] at cu hv
   simp only [if_true] at hv
   rw [hv]
   refine Dp Tryz.func126 ?_
   intro C hP hN
   simp only [Tryz.f126] at hN ⊢
   with_reducible repeat' (first|refine Sp.h ?_|((first|refine Ss.h ?_|refine Sc.h (nD _ 41 (by decide)) ?_|refine Sc.h (nD _ 32769 (by decide)) ?_|refine Sc.h (cu) ?_|(refine Sb.h ?_ ?_ ?_<;>(try intro hgd)<;>try exact Xy))<;>simp -implicitDefEqProofs (maxSteps:=2000000) [hP,hN,h8,h8',e1,e2,e3])|refine X2 ?_ ?_|(refine Xd ?_ ?_<;>intro hcd<;>try exact Xx))
  |false=>
   rw [hu] at cu hv
   simp only [Bool.false_eq_true,if_false] at hv
   rw [hv]
   refine Dp Tryz.func126 ?_
   intro C hP hN
   simp only [Tryz.f126] at hN ⊢
   with_reducible repeat' (first|refine Sp.h ?_|((first|refine Ss.h ?_|refine Sc.h (nD _ 41 (by decide)) ?_|refine Sc.h (nD _ 32769 (by decide)) ?_|refine Sc.h (cu) ?_|(refine Sb.h ?_ ?_ ?_<;>(try intro hgd)<;>try exact Xy))<;>simp -implicitDefEqProofs (maxSteps:=2000000) [hP,hN,h8,h8',e1,e2,e3])|refine X2 ?_ ?_|(refine Xd ?_ ?_<;>intro hcd<;>try exact Xx))
def pm (l : List Int) (m : Nat) : Vc:=xd (nx l m 1048576) (nx l (nn l m) 1048576) (nx l (nn l (nn l m)) 1048576)
def iG (l : List Int) (n : Nat) (k : Nat) : List Vc:=(List.range k).map fun i=>pm l (eO l n i)
theorem tO (l : List Int) (n k : Nat) : (iG l n (k+1)).map av=(iG l n k).map av++[av (pm l (eO l n k))]:=by simp [iG,List.range_succ]
theorem qu (l : List Int) (n k : Nat) : (iG l n k).length=k:=by simp [iG]
def fO (l : List Int) : Nat:=(nx l 0 6).toNat
def kY (l : List Int) : List Vc:=iG l (nn l 0) (fO l)
theorem CR (l : List Int) : ab Tryz.prog 38 [.pv (zs l)] [] [] (.pv (aT (kY l))):=by
 have hx:=ba l 0 (k:=6) (by decide) (by decide)
 have hk : nx l 0 6=((fO l : Nat) : Int):=by unfold fO;omega
 have hk3 : fO l < 6:=by unfold fO;omega
 have hl1:=aC l 0
 refine Dp Tryz.func38 ?_
 intro C hP hN
 simp only [Tryz.f38] at hN ⊢
 with_reducible repeat' (first|refine Sp.h ?_|((first|refine Ss.h ?_|refine Sc.h (yp _) ?_|refine Sc.h (bO l 0 6 (by decide) (by omega)) ?_|(refine Sb.h ?_ ?_ ?_<;>(try intro hgd)<;>try exact Xy))<;>simp -implicitDefEqProofs (maxSteps:=2000000) [hP,hN,eC,hk])|refine X2 ?_ ?_|(refine Xd ?_ ?_<;>intro hcd<;>try exact Xx))
 refine WP.loopN [] (fO l) (fun i st=>st.t 3=.ptr 7 0∧st.t 5=.pv (Z ((fO l : Int) - i))∧
  st.h 7=some (.box [.pv (zs l),.pv (Z (eO l (nn l 0) i))] true false)∧((i=0∧st.t 4=dz∧st.h 23=none)∨(0 < i∧st.t 4=.arr 23 i∧st.h 23=some (.row 126 3 ((iG l (nn l 0) i).map av) 0)))) (by simp [eO]) ?_
 rintro i st hi ⟨h3,h5,hb7,hor⟩
 have hz:=qu l (nn l 0) i
 by_cases hlt : i < fO l
 ·have hw : IntKind.i64.wrap ((fO l : Int) - i - 1)=(fO l : Int) - ((i : Int)+1):=by rw [IntKind.wrap_i64];omega
  have hgt : (0 : Int) < (fO l : Int) - i:=by omega
  have hm2:=ph l (nn l 0) i
  have l1:=aC l (eO l (nn l 0) i)
  have l2:=aC l (nn l (eO l (nn l 0) i))
  have hJ:=tO l (nn l 0) i
  have hS : eO l (nn l 0) (i+1)=nn l (nn l (nn l (eO l (nn l 0) i))):=rfl
  rcases hor with ⟨hi0,h4,hb23⟩|⟨hi0,h4,hb23⟩
  ·subst hi0
   with_reducible repeat' (first|refine Sp.h ?_|((first|refine Ss.h ?_|refine Sc.h (bO l _ 1048576 (by decide) (by omega)) ?_|refine Sc.h (yW _ _ _) ?_|(refine Sb.h ?_ ?_ ?_<;>(try intro hgd)<;>try exact Xy))<;>simp -implicitDefEqProofs (maxSteps:=2000000) [hP,hN,h3,h4,h5,hb7,hb23,hlt,hw,hgt,hS])|refine X2 ?_ ?_|(refine Xd ?_ ?_<;>intro hcd<;>try exact Xx))
   all_goals (first|(exact ⟨by rw [IntKind.wrap_i64];omega,by simp [iG,pm,eO]⟩)|(rw [IntKind.wrap_i64];omega)|(refine ⟨by rw [IntKind.wrap_i64];omega,?_⟩;simp [iG,pm,eO]))
  ·skip
   with_reducible repeat' (first|refine Sp.h ?_|((first|refine Ss.h ?_|refine Sc.h (bO l _ 1048576 (by decide) (by omega)) ?_|refine Sc.h (yW _ _ _) ?_|(refine Sb.h ?_ ?_ ?_<;>(try intro hgd)<;>try exact Xy))<;>simp -implicitDefEqProofs (maxSteps:=2000000) [hP,hN,h3,h4,h5,hb7,hb23,hlt,hw,hgt,hS,hz,show (i+1) * 24≤140737488355328 by omega,show i≤9223372036854775806 by omega])|refine X2 ?_ ?_|(refine Xd ?_ ?_<;>intro hcd<;>try exact Xx))
   all_goals simp [hJ,pm]
 ·have hir : i=fO l:=by omega
  subst hir
  rcases hor with ⟨hi0,h4,hb23⟩|⟨hi0,h4,hb23⟩
  ·skip
   with_reducible repeat' (first|refine Sp.h ?_|((first|refine Ss.h ?_|(refine Sb.h ?_ ?_ ?_<;>(try intro hgd)<;>try exact Xy))<;>simp -implicitDefEqProofs (maxSteps:=2000000) [hP,hN,h3,h4,h5,hb7,hb23,hi0])|refine X2 ?_ ?_|(refine Xd ?_ ?_<;>intro hcd<;>try exact Xx))
   all_goals simp [kY,hi0,iG]
  ·skip
   with_reducible repeat' (first|refine Sp.h ?_|((first|refine Ss.h ?_|(refine Sb.h ?_ ?_ ?_<;>(try intro hgd)<;>try exact Xy))<;>simp -implicitDefEqProofs (maxSteps:=2000000) [hP,hN,h3,h4,h5,hb7,hb23,hz])|refine X2 ?_ ?_|(refine Xd ?_ ?_<;>intro hcd<;>try exact Xx))
   all_goals simp [kY]
end Go.Ab
namespace Go.Ab
open Go.Proofs
theorem sQ (l : List Int) (n : Nat) (c : Vc) : (sP l n c).length≤4:=by
 have hx:=ba l n (k:=4) (by decide) (by decide)
 have : ie l n < 4:=by unfold ie;omega
 unfold sP;rw [sO];omega
theorem pW (l : List Int) (n : Nat) : ∀ i,∀ h ∈ (dD l n i).1,h.pts.length≤4
 |0,h,hm=>by cases hm
 |i+1,h,hm=>by
  simp only [dD] at hm
  split at hm
  ·rcases List.mem_append.1 hm with hm|hm
   ·exact pW l n i h hm
   ·rw [List.mem_singleton] at hm;subst hm;exact sQ _ _ _
  ·exact pW l n i h hm
theorem sR (l : List Int) (xs : List Sh) (n : Nat) (hx : ∀ h ∈ xs,h.pts.length≤4) : ∀ i,∀ h ∈ (eH l xs n i).1,h.pts.length≤4
 |0,h,hm=>hx h hm
 |i+1,h,hm=>by
  simp only [eH] at hm
  rcases List.mem_append.1 hm with hm|hm
  ·exact sR l xs n hx i h hm
  ·rw [List.mem_singleton] at hm;subst hm;exact sQ _ _ _
theorem yX (l : List Int) : ScL (lE l):=by
 have h1:=sL l 0
 have hx:=ba l (rM l 0) (k:=3) (by decide) (by decide)
 have h2 : (kV l 0).length=rK l 0:=pN _ _ _ _
 have h3 : rK l 0 < 3:=by unfold rK;omega
 have hN:=ba l 0 (k:=3) (by decide) (by decide)
 have h4 : rN l 0≤3:=by unfold rN;omega
 have h5:=(pi l (ly l 0) (rN l 0)).2
 have h6:=(pj l (mA l).1 (nn l (mA l).2) (kr l (mA l).2)).2
 have hx3:=ba l (mA l).2 (k:=3) (by decide) (by decide)
 have h7 : kr l (mA l).2≤3:=by unfold kr;omega
 have h8 : (mA l).1.length≤3:=by unfold mA;omega
 refine ⟨by show (gc l 0).length≤_;omega,by show (kV l 0).length≤_;omega,by show (mB l).1.length≤_;unfold mB;omega,?_,?_⟩
 ·show (if nx l (mB l).2 5=1 then [((-1 : Int),nx l (nn l (mB l).2) (rN l 0))] else []).length≤_
  split<;>simp
 ·intro h hm
  have : h.pts.length≤4:=sR l _ _ (pW l _ _) _ h hm
  omega
theorem uW (l : List Int) (js : List J) : (dT l js).length=js.length:=by simp [dT]
end Go.Ab
namespace Go.Ab
open Go.Proofs
theorem ab.wk {P : Program} {f : FuncId} {args : List Arg} {hin hout : List (List PV)} {p q : PV} (h : ab P f args hin hout (.pv p)) (hq : ∀ w M v,Rep w M p v→Rep w M q v) : ab P f args hin hout (.pv q):=
 ⟨h.1,h.2.1,fun w M bs vs h1 h2 h3 h4 h5 h6=>(h.2.2 w M bs vs h1 h2 h3 h4 h5 h6).mono fun _ _ ⟨v,a,b,c,d⟩=>⟨v,a,b,c,hq _ _ _ d⟩⟩
theorem t5 {w : World} {M : Nat→Nat→Prop} {xs : List PV} {u : Value} {n : Nat} (hn : xs.length=n) (h : Rep w M (.sl xs) u) : Rep w M (.hd n) u:=by
 subst hn
 cases h with
 |sl0 a c=>exact .hd _ a c
 |sl _ b o c=>exact .hd _ _ c
abbrev wv (k : Int) (n : Nat) (pr : Int) (a b : Nat) : PV:=.agg [Z k,.hd n,Z pr,.hd a,.hd b]
theorem C5 (v : Vd) : ∀ w M u,Rep w M (kp v) u→Rep w M (wv v.kind v.ns.length v.w.pair v.w.a.length v.w.b.length) u:=by
 intro w M u h
 cases h with
 |agg _ vs hl hh=>
  refine .agg _ vs (by simpa using hl) (fun i p x hp hx=>?_)
  match i with
  |0=>simp at hp;subst hp;exact hh 0 _ x (by simp) hx
  |1=>simp at hp;subst hp;exact t5 (xs:=v.ns.map av) (by simp) (hh 1 _ x rfl hx)
  |2=>simp at hp;subst hp;exact hh 2 _ x (by simp) hx
  |3=>simp at hp;subst hp;exact t5 (xs:=v.w.a.map Z) (by simp) (hh 3 _ x rfl hx)
  |4=>simp at hp;subst hp;exact t5 (xs:=v.w.b.map Z) (by simp) (hh 4 _ x rfl hx)
  |i+5=>simp at hp
section
variable {s : Sce} {bx : List Iv} (hs : ScL s) (hbl : bx.length≤9223372036854775807) (hp : bG s bx=false)
include hs hbl hp
theorem C6 (p : PV) : ab Tryz.prog 132 [.pv (de s),.pv (iv bx),.pv (p)] [] [] (.pv (B false)):=by
 have cp:=rD s bx hs hbl
 rw [hp] at cp
 refine Dp Tryz.func132 ?_
 intro C hP hN
 simp only [Tryz.f132] at hN ⊢
 with_reducible repeat' (first|refine Sp.h ?_|((first|refine Ss.h ?_|refine Sc.h (cp) ?_|(refine Sb.h ?_ ?_ ?_<;>(try intro hgd)<;>try exact Xy))<;>simp -implicitDefEqProofs (maxSteps:=2000000) [hP,hN])|refine X2 ?_ ?_|(refine Xd ?_ ?_<;>intro hcd<;>try exact Xx))
theorem C7 (k : Int) (n : Nat) (pr : Int) (a b : Nat) : ab Tryz.prog 40 [.pv (de s),.pv (iv bx),.pv (wv k n pr a b)] [] [] (.pv (B false)):=by
 have ch:=fun p=>C6 hs hbl hp p
 have hn : ∀ m : Nat,((m : Int)==0)=decide (m=0):=fun m=>by cases m<;>simp<;>omega
 by_cases e1 : k=1
 ·subst e1
  cases e2 : pr==0 with
  |false=>
   refine Dp Tryz.func40 ?_
   intro C hP hN
   simp only [Tryz.f40] at hN ⊢
   with_reducible repeat' (first|refine Sp.h ?_|((first|refine Ss.h ?_|refine Sc.h (ch _) ?_|(refine Sb.h ?_ ?_ ?_<;>(try intro hgd)<;>try exact Xy))<;>simp -implicitDefEqProofs (maxSteps:=2000000) [hP,hN,e2])|refine X2 ?_ ?_|(refine Xd ?_ ?_<;>intro hcd<;>try exact Xx))
  |true=>
   cases e3 : decide (a=0)<;>cases e4 : decide (b=0)
   all_goals
    refine Dp Tryz.func40 ?_
    intro C hP hN
    simp only [Tryz.f40] at hN ⊢
    with_reducible repeat' (first|refine Sp.h ?_|((first|refine Ss.h ?_|refine Sc.h (ch _) ?_|(refine Sb.h ?_ ?_ ?_<;>(try intro hgd)<;>try exact Xy))<;>simp -implicitDefEqProofs (maxSteps:=2000000) [hP,hN,e2,hn,e3,e4])|refine X2 ?_ ?_|(refine Xd ?_ ?_<;>intro hcd<;>try exact Xx))
 ·have b1 : (k==1)=false:=by simp [e1]
  cases e5 : k==2<;>cases e6 : decide (n=0)
  all_goals
   refine Dp Tryz.func40 ?_
   intro C hP hN
   simp only [Tryz.f40] at hN ⊢
   with_reducible repeat' (first|refine Sp.h ?_|((first|refine Ss.h ?_|refine Sc.h (ch _) ?_|(refine Sb.h ?_ ?_ ?_<;>(try intro hgd)<;>try exact Xy))<;>simp -implicitDefEqProofs (maxSteps:=2000000) [hP,hN,e1,b1,e5,hn,e6])|refine X2 ?_ ?_|(refine Xd ?_ ?_<;>intro hcd<;>try exact Xx))
theorem C8 (n : Nat) : ab Tryz.prog 39 [.pv (de s),.pv (iv bx),.pv (.hd n)] [] [] (.pv (.tup [Z 0,B false])):=by
 have cp:=rD s bx hs hbl
 rw [hp] at cp
 refine Dp Tryz.func39 ?_
 intro C hP hN
 simp only [Tryz.f39] at hN ⊢
 with_reducible repeat' (first|refine Sp.h ?_|((first|refine Wd ?_|refine Ss.h ?_|refine Sc.h (cp) ?_|(refine Sb.h ?_ ?_ ?_<;>(try intro hgd)<;>try exact Xy))<;>simp -implicitDefEqProofs (maxSteps:=2000000) [hP,hN]<;>try refine Ya ?_)|refine X2 ?_ ?_|(refine Xd ?_ ?_<;>intro hcd<;>try exact Xx))
end
theorem xT {R : List PV} (h : R.all (j4 2)=true) {k : Nat} (hk : k≤R.length) (z : Option Value) (e n : Nat) (y : Option Value) : gq { size:=n,zero:=z,kind:=TK.slice e 2 16 y } (.pv (.sl R)) none (some (.pv (.val (.int .i64 (k : Int)))))=some (.pv (.sl (R.take k))):=by
 have h2 : (0 : Int)≤(k : Int):=by omega
 simp only [gq,if_pos h2,Int.toNat_natCast]
 rw [if_pos ⟨by omega,hk,by decide,h⟩,List.drop_zero]
theorem ww (l : List Int) : (lE l).shs.length≤24:=by
 have hN:=ba l 0 (k:=3) (by decide) (by decide)
 have h4 : rN l 0≤3:=by unfold rN;omega
 have h5:=(pi l (ly l 0) (rN l 0)).2
 have h6:=(pj l (mA l).1 (nn l (mA l).2) (kr l (mA l).2)).2
 have hx3:=ba l (mA l).2 (k:=3) (by decide) (by decide)
 have h7 : kr l (mA l).2≤3:=by unfold kr;omega
 have h8 : (mA l).1.length≤3:=by unfold mA;omega
 show (mB l).1.length≤24;unfold mB;omega
theorem ve (l : List Int) : (kY l).length≤6:=by
 have hx:=ba l 0 (k:=6) (by decide) (by decide)
 unfold kY
 rw [qu]
 unfold fO
 omega
def lP (s : Sce) : Sce:={ s with shs:=s.shs++[⟨99,0,[]⟩] }
theorem sA {n : Nat} {shs : List Sh} {h : Sh} (hm : h ∈ shs) (he : cE n h≠0) : dv n shs≠0:=by
 unfold dv
 cases hf : (shs.map (cE n)).find? (fun e=>e !=0) with
 |none=>
  rw [List.find?_eq_none] at hf
  have:=hf _ (List.mem_map_of_mem hm)
  simp [he] at this
 |some e=>have:=List.find?_some hf;simpa using this
theorem xU (s : Sce) (bx : List Iv) : bG (lP s) bx=false:=by
 have h : cG (lP s)≠0:=by
  have hb : dv (lP s).js.length (lP s).shs≠0:=sA (h:=⟨99,0,[]⟩) (by simp [lP]) (by unfold cE;simp)
  unfold cG
  split
  ·assumption
  ·split
   ·decide
   ·exact hb
 simp [bG,h]
theorem r6 {s : Sce} {bx : List Iv} (h : fA s.js bx=false) : bG s bx=false:=by simp [bG,h]
theorem xV {s : Sce} {bx : List Iv} (h : bG s bx=false) (hs : List Vc) : gT s bx hs=⟨0,[],⟨0,[],[]⟩⟩:=by unfold gT;rw [h];rfl
theorem d7 (l m o : List Int) (how : Int) : ab Tryz.prog 7 [.pv (zs l),.pv (zs m),.pv (zs o),.pv (Z how)] [] [] (.pv (B true)):=by
 have c0:=CQ
 have c1:=CO l
 have hL:=yX l
 have hfew:=ww l
 have hj:=sL l 0
 have c2:=CG m (gc l 0) (kV l 0) (by omega) (yt l 0)
 have hjs : (lE l).js=gc l 0:=rfl
 have hms : (lE l).ms=kV l 0:=rfl
 have hbl:=uW m (gc l 0)
 generalize dT m (gc l 0)=b at *
 rw [← hjs] at hj hbl
 rw [← hjs,← hms] at c2
 have c3:=(xc (lE l) b [] hL (by omega) (by simp)).wk (C5 _)
 have cr:=nD how 4 (by decide)
 have r4:=fx how (k:=4) (by decide) (by decide)
 have ch:=CR o
 have hhl:=ve o
 generalize kY o=H at *
 have cs:=CP ⟨0,[],⟨0,[],[]⟩⟩ (by simp) (by simp) (by simp)
 generalize gT (lE l) b []=v at *
 obtain ⟨k,ns,⟨pr,va,vb⟩⟩:=v
 simp only at c3
 generalize ns.length=n at *
 generalize va.length=na at *
 generalize vb.length=nb at *
 simp only [kp,aT,List.map_nil] at c3 cs
 have gen : ∀ (s' : Sce) (b' : List Iv),ScL s'→b'.length≤100→bG s' b'=false→
  ab Tryz.prog 37 [.pv (de s'),.pv (iv b'),.pv (aT H)] [] [] (.pv (.agg [Z 0,.sl [],Z 0,.sl [],.sl []]))∧
  ab Tryz.prog 39 [.pv (de s'),.pv (iv b'),.pv (.hd n)] [] [] (.pv (.tup [Z 0,B false]))∧
  ab Tryz.prog 40 [.pv (de s'),.pv (iv b'),.pv (wv k n pr na nb)] [] [] (.pv (B false))∧
  ab Tryz.prog 41 [.pv (de s'),.pv (iv b'),.pv (.sl [])] [] [] (.pv (B false)):=by
  intro s' b' h1 h2 h3
  have e1:=xc s' b' H h1 (by omega) (by omega)
  rw [xV h3] at e1
  have e4:=CK s' b' [] h1 (by omega) (by simp)
  have hf : eK s' b' []=false:=by simp [eK,h3]
  rw [hf] at e4
  exact ⟨e1,C8 h1 (by omega) h3 n,C7 h1 (by omega) h3 k n pr na nb,e4⟩
 generalize lE l=s at *
 have key : aG how 4=0∨aG how 4=1∨aG how 4=2∨aG how 4=3:=by omega
 rcases key with e|e|e|e
 ·rw [e] at cr
  have hw : IntKind.i64.wrap ((b.length : Int) - 1)=((b.length - 1 : Nat) : Int):=(aa (by omega) (by omega)).trans (by omega)
  have ht:=xT (R:=b.map bF) (k:=b.length - 1) (by simp [j4,PV.cells,Value.cells]) (by simp)
  rw [← List.map_take] at ht
  obtain ⟨d1,d2,d3,d4⟩:=gen s (b.take (b.length - 1)) hL (by rw [List.length_take];omega) (r6 (by simp [fA];omega))
  generalize b.take (b.length - 1)=b' at *
  refine Dp Tryz.func7 ?_
  intro C hP hN
  simp only [Tryz.f7] at hN ⊢
  with_reducible repeat' (first|refine Sp.h ?_|((first|refine Wd ?_|refine Ss.h ?_|refine Sc.h (c0) ?_|refine Sc.h (c1) ?_|refine Sc.h (c2) ?_|refine Sc.h (c3) ?_|refine Sc.h (cr) ?_|refine Sc.h (ch) ?_|refine Sc.h (d1) ?_|refine Sc.h (d2) ?_|refine Sc.h (d3) ?_|refine Sc.h (d4) ?_|refine Sc.h (cs) ?_|(refine Sb.h ?_ ?_ ?_<;>(try intro hgd)<;>try exact Xy))<;>simp -implicitDefEqProofs (maxSteps:=2000000) [hP,hN,hw,ht,s8]<;>try refine Ya ?_)|refine X2 ?_ ?_|(refine Xd ?_ ?_<;>intro hcd<;>try exact Xx))
 ·rw [e] at cr
  obtain ⟨x,b1,rfl⟩ : ∃ x b1,b=x :: b1:=by
   cases b with
   |nil=>simp at hbl;omega
   |cons x b1=>exact ⟨x,b1,rfl⟩
  obtain ⟨d1,d2,d3,d4⟩:=gen s ((1,0) :: b1) hL (by simp at hbl ⊢;omega) (r6 (by simp [fA,dq,vI,aH]))
  simp only [iv,List.map_cons] at c2 c3 d1 d2 d3 d4
  refine Dp Tryz.func7 ?_
  intro C hP hN
  simp only [Tryz.f7] at hN ⊢
  with_reducible repeat' (first|refine Sp.h ?_|((first|refine Wd ?_|refine Ss.h ?_|refine Sc.h (c0) ?_|refine Sc.h (c1) ?_|refine Sc.h (c2) ?_|refine Sc.h (c3) ?_|refine Sc.h (cr) ?_|refine Sc.h (ch) ?_|refine Sc.h (d1) ?_|refine Sc.h (d2) ?_|refine Sc.h (d3) ?_|refine Sc.h (d4) ?_|refine Sc.h (cs) ?_|(refine Sb.h ?_ ?_ ?_<;>(try intro hgd)<;>try exact Xy))<;>simp -implicitDefEqProofs (maxSteps:=2000000) [hP,hN]<;>try refine Ya ?_)|refine X2 ?_ ?_|(refine Xd ?_ ?_<;>intro hcd<;>try exact Xx))
 ·rw [e] at cr
  obtain ⟨d1,d2,d3,d4⟩:=gen s (b++[(0,0)]) hL (by simp;omega) (r6 (by simp [fA];omega))
  simp only [iv,List.map_append,List.map_cons,List.map_nil] at d1 d2 d3 d4
  refine Dp Tryz.func7 ?_
  intro C hP hN
  simp only [Tryz.f7] at hN ⊢
  with_reducible repeat' (first|refine Sp.h ?_|((first|refine Wd ?_|refine Ss.h ?_|refine Sc.h (c0) ?_|refine Sc.h (c1) ?_|refine Sc.h (c2) ?_|refine Sc.h (c3) ?_|refine Sc.h (cr) ?_|refine Sc.h (ch) ?_|refine Sc.h (d1) ?_|refine Sc.h (d2) ?_|refine Sc.h (d3) ?_|refine Sc.h (d4) ?_|refine Sc.h (cs) ?_|(refine Sb.h ?_ ?_ ?_<;>(try intro hgd)<;>try exact Xy))<;>simp -implicitDefEqProofs (maxSteps:=2000000) [hP,hN,show (b.length+1) * 16≤140737488355328 by omega,show b.length≤9223372036854775806 by omega]<;>try refine Ya ?_)|refine X2 ?_ ?_|(refine Xd ?_ ?_<;>intro hcd<;>try exact Xx))
 ·rw [e] at cr
  obtain ⟨d1,d2,d3,d4⟩:=gen (lP s) b ⟨hL.js,hL.ms,by simp [lP];omega,hL.sks,fun h hh=>by
   simp only [lP,List.mem_append,List.mem_singleton] at hh
   rcases hh with hh|rfl
   ·exact hL.pts h hh
   ·simp⟩ (by omega) (xU s b)
  simp only [de,lP,List.map_append,List.map_cons,List.map_nil] at d1 d2 d3 d4
  refine Dp Tryz.func7 ?_
  intro C hP hN
  simp only [Tryz.f7] at hN ⊢
  with_reducible repeat' (first|refine Sp.h ?_|((first|refine Wd ?_|refine Ss.h ?_|refine Sc.h (c0) ?_|refine Sc.h (c1) ?_|refine Sc.h (c2) ?_|refine Sc.h (c3) ?_|refine Sc.h (cr) ?_|refine Sc.h (ch) ?_|refine Sc.h (d1) ?_|refine Sc.h (d2) ?_|refine Sc.h (d3) ?_|refine Sc.h (d4) ?_|refine Sc.h (cs) ?_|(refine Sb.h ?_ ?_ ?_<;>(try intro hgd)<;>try exact Xy))<;>simp -implicitDefEqProofs (maxSteps:=2000000) [hP,hN,show s.shs.length * 40≤140737488355328 by omega,show s.shs.length≤9223372036854775807 by omega,show (s.shs.length+1) * 40≤140737488355328 by omega,show s.shs.length≤9223372036854775806 by omega]<;>try refine Ya ?_)|refine X2 ?_ ?_|(refine Xd ?_ ?_<;>intro hcd<;>try exact Xx))
end Go.Ab
