/- The contracts and facts that the laws of this seat need, in one text (AbC, Ab27, Ab28, Ab30, Ab31, K12b, K12c, K13, K13b, K13c, K13d, K13e, KM4, K14, K14b, K15, K15b, K16, K17, KM5, Tr3, Tr4, TrE, TrF, TrH, TrN, TrX, L28a, TrW, TrY, L28d, L28b, L28e, TC1, KR1, KR2, KR3). -/
import Derived.Test.YtpbakcmohoahgaaGreatV7
import Derived.TacticsIn
import Derived.RangeFuncRecord
import Derived.RangeFuncLeaves
import Derived.RangeFuncCalls
import Derived.RangeFuncSeq
import Derived.RecoverIn
set_option linter.all false
set_option maxHeartbeats 16000000
namespace Go.Ab
def ol (ops : Array Oper) : Bool:=ops.toList.all fun o=>match o.op with|.defer _=>false|_=>true
theorem jT {ops : Array Oper} (h : ol ops=true) {o : Oper} (ho : o ∈ ops.toList) : ∀ c,o.op≠.defer c:=by
 intro c hc
 have:=List.all_eq_true.1 h o ho
 rw [hc] at this;cases this
structure Wide (F : Fence) : Prop where
 fn : ∀ f,F.fn f
 depth : F.depth=none
 calls : ∀ {n : Nat} {P : Program} {f : FuncId} {args : Array Value} {w : World} {R : Ending→World→Prop},Calls P f args w R→CallsIn F n P f args w R
 rows : ∀ {n : Nat} {P : Program} {row : String} {args : Array Value} {w : World} {R : Value→World→Prop},Rows P row args w R→RowsIn F n P row args w R
theorem fJ : Wide Fence.wide:=⟨fun _=>trivial,rfl,fun h=>callsIn_wide.2 h,fun h c cs _=>let ⟨v,w',r,s⟩:=h c cs;⟨v,w',r,stepsIn_wide.2 s⟩⟩
theorem tv (l : Nat) : Wide (Fence.wide.inRound l):=⟨fun _=>trivial,rfl,fun h=>(callsIn_wide.2 h).inRound l,fun h=>fJ.rows h⟩
theorem yY {F : Fence} (hF : Wide F) {n : Nat} {P : Program} {o : Oper} (hd : ∀ c,o.op≠.defer c) {a : Act} {w : World} {next : Act→World→Prop} {Q : Exit→Act→World→Prop}
 (h : o.wp P a w next Q) : o.wpIn F n P a w next Q:=by
 refine ⟨fun f _=>hF.fn f,?_⟩
 rw [Oper.semAt_eq _ _ _ hd]
 unfold Oper.wp at h
 cases hx : (execOp a.eval o).run P w with
 |ok nx w'=>
  rw [hx] at h
  cases nx with
  |value v=>exact h
  |skip=>exact h
  |defer d=>exact h
  |enter f args=>exact ⟨fun hs=>(by rw [hF.depth] at hs;cases hs),hF.calls h⟩
  |row r args=>exact ⟨fun hs=>(by rw [hF.depth] at hs;cases hs),hF.rows h⟩
  |_=>exact h.elim
 |halt k w'=>
  rw [hx] at h
  cases k with
  |panic v=>exact h
  |_=>exact h.elim
def gF (C : Cx) (L : Nat→Loc) (st : St) (a : Act) (w : World) : Prop:=
 MemL C L st.h w∧a.tmps.size=C.N∧∀ n,RepA w (ak C L st.h) L st.h (st.t n) (a.tmps.getD n undef)
theorem gF.put {C : Cx} {L : Nat→Loc} {st : St} {a : Act} {w : World} (hs : gF C L st a w) {d : Option Nat} (hd : fY C.N d=true) {v : AV} {W : List (Nat × Blk)} {u : Value} {w' : World} {L' : Nat→Loc}
 (hA : aI C L st.h w L' (ah st.h W) w') (hv : RepA w' (ak C L' (ah st.h W)) L' (ah st.h W) v u) : gF C L' (st.put d v W) (a.put d u) w':=by
 obtain ⟨hm,hN,ht⟩:=hs
 refine ⟨hA.1,?_,fun n=>?_⟩
 ·cases d<;>simp [Act.put,hN]
 ·have hold:=(ht n).mono hA.2.1 hA.2.2
  cases d with
  |none=>exact hold
  |some d=>
   have hd' : d < a.tmps.size:=by rw [hN];simp only [fY,Bool.and_eq_true,decide_eq_true_eq] at hd;exact hd.1
   rw [mH hd']
   simp only [St.put,az]
   split
   ·exact hv
   ·exact hold
theorem z8 (st : St) (d : Option Nat) (v : AV) (W : List (Nat × Blk)) : (st.put d v W).h=ah st.h W:=by cases d<;>rfl
theorem gW (a : Act) (d : Option Nat) (u : Value) : (a.put d u).defers=a.defers:=by cases d<;>rfl
theorem wO {C : Cx} {L : Nat→Loc} {st : St} {a : Act} {w : World} (hs : gF C L st a w) {o : Oper} (hnd : ∀ c,o.op≠.defer c) (hd : fY C.N o.dst=true) {hn : List Nat} {K : bI→Prop} (e : pQ C.P hn o st.ev st.h K) {next : Act→World→Prop} {Q : Exit→Act→World→Prop}
 (hnext : ∀ eff a' w' L',K eff→gF C L' (st.put o.dst eff.1 eff.2) a' w'→aI C L st.h w L' (st.put o.dst eff.1 eff.2).h w'→a'.defers=a.defers→next a' w') : o.wp C.P a w next Q:=by
 have hs':=hs
 obtain ⟨hm,hN,ht⟩:=hs'
 have hplain : lP C.P hn o st.ev st.h K→o.wp C.P a w next Q:=fun e=>
  tj hm (fun _ _ h=>h) (fun d hdd=>⟨rfl,by rw [hdd] at hd;simp only [fY,Bool.and_eq_true,decide_eq_true_eq] at hd;exact hd.2⟩) (fun x _=>ej ht x) e (fun eff u w' L' hk hA hv=>hnext eff _ _ L' hk (hs.put hd hA hv) (by rw [z8];exact hA) (gW _ _ _))
 unfold pQ at e
 split at e
 ·rename_i c hop
  exact absurd hop (hnd c)
 ·rename_i op t x y t' hop
  split at e
  ·rename_i hc
   simp only [Bool.and_eq_true,Bool.or_eq_true,beq_iff_eq] at hc
   obtain ⟨⟨⟨c1,c2⟩,c3⟩,c4⟩:=hc
   have hy:=sd c1 (ej ht y)
   obtain ⟨ad,n,c,hx⟩:=pF hm (ej ht x) c3
   obtain ⟨b,hb⟩ : ∃ b : Bool,(op=.eql∧b=ad.isNone)∨(op=.neq∧b=!ad.isNone):=by
    rcases c4 with c4|c4
    ·exact ⟨_,.inl ⟨c4,rfl⟩⟩
    ·exact ⟨_,.inr ⟨c4,rfl⟩⟩
   have hrun : (execOp a.eval o).run C.P w=.ok (.value (.bool b)) w:=by
    obtain ⟨dst,op',ty,pos,aft,g⟩:=o
    simp only at hop
    subst hop
    exact jj (uj (mD c2) hx hy hb) w
   have hK : K (.pv (.val (.bool b)),[]):=by cases b with
    |true=>exact e.1
    |false=>exact e.2
   unfold Oper.wp
   rw [hrun]
   exact hnext _ _ _ L hK (hs.put hd (W:=[]) (aI.refl hm) (.pv (.val _))) (by rw [z8];exact aI.refl hm) (gW _ _ _)
  ·exact hplain e
 ·exact hplain e
theorem gi {F : Fence} (hF : Wide F) {n : Nat} {C : Cx} {hn : List Nat} {ops : Array Oper} {Q : St→Prop} {Q' : Exit→Act→World→Prop} {L0 : Nat→Loc} {h0 : Hp} {w0 : World} {ds : List Deferred}
 (hQ : ∀ st L a w,gF C L st a w→aI C L0 h0 w0 L st.h w→a.defers=ds→Q st→Q' .normal a w) :
 ∀ {l : List Oper} {st : St} {L : Nat→Loc} {a : Act} {w : World},(∀ o ∈ l,∀ c,o.op≠.defer c)→gF C L st a w→aI C L0 h0 w0 L st.h w→a.defers=ds→eH C.P hn C.N ops Q l st→wpListIn F n C.P ops Q' l a w
 |[],st,L,a,w,_,hs,hA,hdd,e=>hQ st L a w hs hA hdd e
 |o :: l,st,L,a,w,hnd,hs,hA,hdd,e=>by
  have hs':=hs
  obtain ⟨hm,hN,ht⟩:=hs'
  simp only [eH] at e
  obtain ⟨hd,e⟩:=e
  have hnd' : ∀ o' ∈ l,∀ c,o'.op≠.defer c:=fun o' ho'=>hnd o' (List.mem_cons_of_mem _ ho')
  have ho:=hnd o List.mem_cons_self
  unfold wpListIn
  split at e
  ·rename_i hg
   rw [dc ht (kT hg),if_pos rfl]
   exact yY hF ho (wO hs ho hd e (fun eff a' w' L' hk hsim hA' hd'=>gi hF hQ hnd' hsim (hA.trans hA') (hd'.trans hdd) hk))
  ·rename_i d b want hg
   rw [dc ht (ji hg)]
   unfold rG at e
   simp only at e
   split at e
   ·rename_i hgt
    subst hgt
    rw [if_pos (by simp)]
    exact yY hF ho (wO hs ho hd e (fun eff a' w' L' hk hsim hA' hd'=>gi hF hQ hnd' hsim (hA.trans hA') (hd'.trans hdd) hk))
   ·rename_i hgt
    rw [if_neg (by simpa using hgt)]
    exact ⟨fun f _=>hF.fn f,gi hF hQ hnd' (hs.put hd (W:=[]) (aI.refl hm) (.pv (.val _))) (by rw [z8];exact hA) ((gW _ _ _).trans hdd) e⟩
  ·exact e.elim
def aq (F : Fence) (C : Cx) (c : Code) (Q : Exit→St→Prop) (st : St) : Prop:=
 ∀ n L a w,gF C L st a w→c.wpIn F n C.P (fun e a' w'=>∃ st' L',gF C L' st' a' w'∧aI C L st.h w L' st'.h w'∧a'.defers=a.defers∧Q e st') a w
section
variable {F : Fence} {C : Cx} {Q : Exit→St→Prop} {st : St}
theorem aq.region (hF : Wide F) {hn : List Nat} {id : Nat} {ops : Array Oper} (hnd : ol ops=true) (h : eH C.P hn C.N ops (Q .normal) ops.toList st) : aq F C (.region id ops false) Q st:=
 fun _ _ _ _ hs=>wpIn_region_list (gi hF (fun st' L' _ _ hs' hA hd hq=>⟨st',L',hs',hA,hd,hq⟩) (fun _ ho=>jT hnd ho) hs (aI.refl hs.1) rfl h)
def v9 (F : Fence) (C : Cx) (y : Code) (Q : Exit→St→Prop) : Exit→St→Prop
 |.normal,st=>aq F C y Q st
 |e,st=>Q e st
theorem aq.seq {x y : Code} (h : aq F C x (v9 F C y Q) st) : aq F C (.seq x y) Q st:=by
 intro n L a w hs
 refine wpIn_seq (wpIn_mono (h n L a w hs) ?_)
 rintro e a' w' ⟨st',L',hs',hA,hd,hq⟩
 cases e with
 |normal=>exact wpIn_mono (hq n L' a' w' hs') (fun e a2 w2 ⟨st2,L2,hs2,hA2,hd2,hq2⟩=>⟨st2,L2,hs2,hA.trans hA2,hd2.trans hd,hq2⟩)
 |_=>exact ⟨st',L',hs',hA,hd,hq⟩
theorem aq.skip (h : Q .normal st) : aq F C .skip Q st:=fun _ L _ _ hs=>wpIn_skip ⟨st,L,hs,aI.refl hs.1,rfl,h⟩
theorem aq.ret (h : Q .ret st) : aq F C .ret Q st:=fun _ L _ _ hs=>wpIn_ret ⟨st,L,hs,aI.refl hs.1,rfl,h⟩
theorem aq.exit {id : Nat} (h : Q (.exit id) st) : aq F C (.exit id) Q st:=fun _ L _ _ hs=>wpIn_exit ⟨st,L,hs,aI.refl hs.1,rfl,h⟩
theorem aq.cond {c : Operand} {x y : Code} {b : Bool} (hc : st.ev c=.pv (.val (.bool b))) (ht : b=true→aq F C x Q st) (hf : b=false→aq F C y Q st) : aq F C (.cond c x y) Q st:=by
 intro n L a w hs
 have hc' : a.eval c=.bool b:=by
  have:=ej hs.2.2 c
  rw [hc] at this
  cases this with
  |pv hr=>exact aS hr
 exact wpIn_cond_split hc' (fun e=>ht e n L a w hs) (fun e=>hf e n L a w hs)
theorem aq.block {id : Nat} {c : Code} (h : aq F C c (nj id Q) st) : aq F C (.block id c) Q st:=by
 intro n L a w hs
 refine wpIn_block (wpIn_mono (h n L a w hs) ?_)
 rintro e a' w' ⟨st',L',hs',hA,hd,hq⟩
 cases e with
 |exit i=>
  simp only [nj,Exit.inBlock] at hq ⊢
  split
  ·rename_i e;rw [if_pos e] at hq;exact ⟨st',L',hs',hA,hd,hq⟩
  ·rename_i e;rw [if_neg e] at hq;exact ⟨st',L',hs',hA,hd,hq⟩
 |_=>exact ⟨st',L',hs',hA,hd,hq⟩
theorem aq.mono {c : Code} {Q' : Exit→St→Prop} (h : aq F C c Q st) (hq : ∀ e st,Q e st→Q' e st) : aq F C c Q' st:=
 fun n L a w hs=>wpIn_mono (h n L a w hs) (fun e _ _ ⟨st',L',hs',hA,hd,hq'⟩=>⟨st',L',hs',hA,hd,hq e st' hq'⟩)
end
end Go.Ab
namespace Go.Ab
theorem Ej {w : World} {l b o : Nat} {ob : Obj} {v : Value} (hl : w.heap[l]?=some ob) (hc : ob.isCells=false) (h : w.cell? ⟨b,o,none⟩=some v) : b≠l:=by
 intro e
 subst e
 obtain ⟨o',h1,h2⟩:=cells_of_cell h
 simp only at h1
 rw [hl] at h1;injection h1 with h1;subst h1
 rw [hc] at h2;cases h2
theorem E8 {w : World} {M : Nat→Nat→Prop} {L : Nat→Loc} {h : Hp} {loc : Loc} {blk : Blk} (hb : eo w M L h loc blk) (hl : blk.live loc) {l : Nat} {ob : Obj} (hw : w.heap[l]?=some ob) (hc : ob.isCells=false) : loc.b≠l:=by
 intro e
 subst e
 cases blk with
 |box cs own fz=>obtain ⟨arr,ty,e,_⟩:=hb;rw [hw] at e;injection e with e;subst e;cases hc
 |row e sz xs fz=>obtain ⟨_,_,_,_,h5⟩:=hb;obtain ⟨_,_,arr,e,_⟩:=h5 hl;rw [hw] at e;injection e with e;subst e;cases hc
theorem MemL.turn {C : Cx} {L : Nat→Loc} {h : Hp} {w : World} (hm : MemL C L h w) {l : Nat} {ob : Obj} (hl : C.w0.heap[l]?=some ob) (hS : ¬ C.S l) (hc : ob.isCells=false) (ob' : Obj) :
 MemL { C with w0:=C.w0.putObj l ob' } L h (w.putObj l ob')∧ba w (ak C L h) (w.putObj l ob') (ak C L h):=by
 have hlt : l < C.w0.heap.size:=(Array.getElem?_eq_some_iff.1 hl).1
 have hw : w.heap[l]?=some ob:=(hm.ext.block l hlt hS).trans hl
 have hlt' : l < w.heap.size:=(Array.getElem?_eq_some_iff.1 hw).1
 have hpres : ba w (ak C L h) (w.putObj l ob') (ak C L h):=fun b o v hv hn=>⟨(World.cell?_of_block (World.putObj_heap_other (Ej hw hc hv))).trans hv,hn⟩
 refine ⟨⟨⟨hm.ext.os,hm.ext.tape,hm.ext.output,by simpa using hm.ext.size,fun b hb hs=>?_⟩,fun b o hb=>by simpa using hm.m0 b o hb,fun k blk hk=>(hm.bl k blk hk).mono hpres (KC.refl _ _) (fun hlv=>World.putObj_heap_other (E8 (hm.bl k blk hk) hlv hw hc)),hm.sep,fun k blk hk=>?_⟩,hpres⟩
 ·by_cases e : b=l
  ·subst e
   rw [World.putObj_heap_same hlt',World.putObj_heap_same hlt]
  ·rw [World.putObj_heap_other e,World.putObj_heap_other e]
   exact hm.ext.block b (by simpa using hb) hs
 ·have:=hm.own k blk hk
  cases blk with
  |box cs own fz=>cases own with
   |true=>simpa [fA] using this
   |false=>simpa [fA] using this
  |row e sz xs fz=>simpa [fA] using this
theorem yy {w : World} {l : Nat} {o : Obj} (h : w.heap[l]?=some o) : w.putObj l o=w:=by
 have : w.heap.setIfInBounds l o=w.heap:=by
  apply Array.ext_getElem?
  intro i
  rw [Array.getElem?_setIfInBounds]
  by_cases e : l=i
  ·subst e
   rw [if_pos rfl,if_pos (Array.getElem?_eq_some_iff.1 h).1,h]
  ·rw [if_neg e]
 show { w with heap:=w.heap.setIfInBounds l o }=w
 rw [this]
theorem vW (w : World) (l : Nat) (o o' : Obj) : (w.putObj l o).putObj l o'=w.putObj l o':=by
 show { w with heap:=(w.heap.setIfInBounds l o).setIfInBounds l o' }={ w with heap:=w.heap.setIfInBounds l o' }
 congr 1
 apply Array.ext_getElem?
 intro i
 simp only [Array.getElem?_setIfInBounds,Array.size_setIfInBounds]
 by_cases e : l=i
 ·subst e;simp
 ·simp [e]
theorem wP {tm : Array Value} {d : Nat} {u : Value} (hd : d < tm.size) (n : Nat) : (tm.setIfInBounds d u).getD n undef=if n=d then u else tm.getD n undef:=by
 simp only [Array.getD_eq_getD_getElem?]
 by_cases e : n=d
 ·subst e;simp [hd]
 ·rw [if_neg e,Array.getElem?_setIfInBounds_ne (by omega)]
theorem qb {w : World} {M : Nat→Nat→Prop} {b : Nat} {ps : List PV} (h : jh w M b ps) : b < w.heap.size:=by
 obtain ⟨arr,ty,e,_⟩:=h
 exact (Array.getElem?_eq_some_iff.1 e).1
def z9 (P : Program) (gf : FuncId) (caps : List PV) (xs : List (PV × PV)) : Prop:=
 ei P gf=true∧∀ (n l : Nat) (lb : List Value) (W : World) (M : Nat→Nat→Prop) (J : Nat→(Nat→Nat→Prop)→World→Prop),
  (∀ i M W,J i M W→∀ b o,M b o→b < W.heap.size)→(∀ i M W W',J i M W→Ext (fun _=>False) W W'→J i M W')→
  (∀ m i x M W v1 v2,xs[i]?=some x→J i M W→Rep W M x.1 v1→Rep W M x.2 v2→YieldAt Fence.wide m P l #[v1,v2] W fun e W'=>e=.returned (.bool true)∧∃ M',J (i+1) M' W'∧ba W M W' M')→
  J 0 M W→bD W M caps lb→CallsIn Fence.wide n P gf (#[.func (.yield l) #[] #[]]++lb.toArray) W fun e W'=>(∃ v,e=.returned v)∧∃ M',J xs.length M' W'
def ma (ks : List Nat) (hin : Nat→List PV) : Hp:=fun k=>if ks.contains k=true then some (.box ((hin k).map .pv) false false) else none
def eO (t : Nat→AV) (p q : Nat) (x : PV × PV) : Nat→AV:=az (az t p (.pv x.1)) q (.pv x.2)
theorem Cp {P : Program} {N : Nat} {gop : Operand} {p q : Nat} {assign body : Code} {a : Act} {w : World} {n : Nat} {gf : FuncId} {lb : List Value} (hg : a.eval gop=.func (.func gf) #[] lb.toArray)
 {caps : List PV} {xs : List (PV × PV)} (hit : z9 P gf caps xs) {M : Nat→Nat→Prop} (hM : ∀ b o,M b o→b < w.heap.size) (hcap : bD w M caps lb)
 {ks : List Nat} {bs : Nat→Nat} {hin : Nat→List PV} (hbs : ∀ k ∈ ks,(∀ o,M (bs k) o)∧jh w M (bs k) (hin k)) (hinj : ∀ k ∈ ks,∀ k' ∈ ks,k≠k'→bs k≠bs k')
 (hN : a.tmps.size=N) (hp : p < N) (hq : q < N) {t : Nat→AV} (ht : ∀ m,(∃ k ∈ ks,t m=.ptr k 0∧a.tmps.getD m undef=.pointer (some ⟨bs k,0,none⟩))∨t m=.undef)
 (I : Nat→Hp→Prop) (h0 : I 0 (ma ks hin)) (hI : ∀ i h k,k ∈ ks→I i h→∃ cs,h k=some (.box cs false false))
 (hround : ∀ (C C' : Cx) (l i : Nat) (x : PV × PV) (h : Hp),C.P=P→C.N=N→C'.P=P→C'.N=N→xs[i]?=some x→I i h→
   aq (Fence.wide.inRound l) C assign (fun e st'=>e=.normal∧aq (Fence.wide.inRound l) C' body (fun e' st''=>e'=.normal∧I (i+1) st''.h) st') ⟨eO t p q x,h⟩) :
 (Code.rangeFunc gop #[p,q] assign body).wpIn Fence.wide n P (fun e a' w'=>e=.normal∧∃ (C : Cx) (L : Nat→Loc) (h : Hp) (D : Nat),C.P=P∧C.N=N∧C.M0=M∧(∀ b,C.S b→∃ k ∈ ks,b=bs k)∧
   MemL C L h w'∧I xs.length h∧(∀ k ∈ ks,(L k).b=bs k)∧Ext (fun _=>False) w C.w0∧C.w0.heap[D]?=some (.deferred (some []))∧¬ C.S D∧w.heap.size≤D∧a'={ a with defers:={ target:=.collected D,args:=#[] } :: a.defers }) a w:=by
 refine wpIn_rangeFunc ?_
 intro fn _
 obtain ⟨rec,hrec⟩ : ∃ rec : LoopState→Option Code→Loop,rec=fun st pe=>{ state:=st,pending:=pe,fn,tmps:=a.tmps,params:=#[p,q],assign,body,defers:=w.heap.size }:=⟨_,rfl⟩
 obtain ⟨W1,hW1⟩ : ∃ W1,(w.alloc (.deferred (some []))).alloc (.loop (rec .ready none))=W1:=⟨_,rfl⟩
 have hx1 : Ext (fun _=>False) w W1:=by rw [← hW1];exact (Ext.alloc _ _ _).trans (Ext.alloc _ _ _) (fun _ _ h=>h)
 have hs1 : W1.heap.size=w.heap.size+2:=by rw [← hW1];simp
 have hL1 : W1.heap[w.heap.size+1]?=some (.loop (rec .ready none)):=by
  rw [← hW1];have:=World.alloc_heap_new (w.alloc (.deferred (some []))) (.loop (rec .ready none));rwa [World.size_alloc] at this
 have hD1 : W1.heap[w.heap.size]?=some (.deferred (some [])):=by
  rw [← hW1];exact (RowKit.Below.heap_alloc _ _ _ (by simp)).trans (World.alloc_heap_new w _)
 obtain ⟨l,hl⟩ : ∃ l,l=w.heap.size+1:=⟨_,rfl⟩
 rw [← hl] at hL1
 obtain ⟨cx,hcx⟩ : ∃ cx : Obj→Cx,cx=fun o=>{ P:=P,N:=N,M0:=M,S:=fun b=>∃ k ∈ ks,b=bs k,pb:=fun k=>if ks.contains k=true then some (bs k) else none,w0:=W1.putObj l o }:=⟨_,rfl⟩
 have hS : ∀ o b,(cx o).S b→b < w.heap.size:=by
  intro o b hb
  rw [hcx] at hb
  obtain ⟨k,hk,rfl⟩:=hb
  exact qb (hbs k hk).2
 have hw0 : ∀ o,(cx o).w0=W1.putObj l o:=fun o=>by rw [hcx]
 have hMst : ∀ o o' L h,ak (cx o) L h=ak (cx o') L h:=fun o o' L h=>by rw [hcx];rfl
 have hat : ∀ (o : Obj),(cx o).w0.heap[l]?=some o:=fun o=>by rw [hw0];exact World.putObj_heap_same (Array.getElem?_eq_some_iff.1 hL1).1
 have hnS : ∀ o,¬ (cx o).S l:=fun o h=>by have:=hS o l h;omega
 have hturn : ∀ {o o' : Obj} {L : Nat→Loc} {h : Hp} {W : World},o.isCells=false→MemL (cx o) L h W→W.heap[l]?=some o∧MemL (cx o') L h (W.putObj l o')∧ba W (ak (cx o) L h) (W.putObj l o') (ak (cx o') L h):=by
  intro o o' L h W ho hm
  have hlt : l < (cx o).w0.heap.size:=(Array.getElem?_eq_some_iff.1 (hat o)).1
  obtain ⟨h1,h2⟩:=hm.turn (hat o) (hnS o) ho o'
  refine ⟨(hm.ext.block l hlt (hnS o)).trans (hat o),?_,?_⟩
  ·have e : ({ cx o with w0:=(cx o).w0.putObj l o' } : Cx)=cx o':=by rw [hcx];simp only [vW]
   rw [e] at h1;exact h1
  ·rw [hMst o' o];exact h2
 have hready : W1.putObj l (.loop (rec .ready none))=W1:=yy hL1
 have hown : ∀ {o : Obj} {L : Nat→Loc} {h : Hp} {W : World} {i k : Nat},k ∈ ks→I i h→MemL (cx o) L h W→(L k).b=bs k:=by
  intro o L h W i k hk hi hm
  obtain ⟨cs,hc⟩:=hI i h k hk hi
  have:=(hm.own k _ hc).2.1
  rw [hcx] at this
  have hc' : ks.contains k=true:=by simpa using hk
  simp only [hc',if_true,Option.some.injEq] at this
  exact this.symm
 let L0 : Nat→Loc:=fun k=>⟨bs k,0,false⟩
 have hkey : ∀ k blk,ma ks hin k=some blk→k ∈ ks∧blk=.box ((hin k).map .pv) false false:=by
  intro k blk hk
  unfold ma at hk
  split at hk
  ·rename_i hc;injection hk with hk;exact ⟨by simpa using hc,hk.symm⟩
  ·cases hk
 have hM1 : ∀ o b o',ak (cx o) L0 (ma ks hin) b o'→M b o':=by
  rintro o b o' (hb|⟨k,blk,hk,_,hb,_⟩)
  ·rw [hcx] at hb;exact hb
  ·obtain ⟨hks,_⟩:=hkey k blk hk
   rw [← hb];exact (hbs k hks).1 o'
 have hpres1 : ba w M W1 (ak (cx (.loop (rec .ready none))) L0 (ma ks hin)):=fun b o v hv hn=>⟨(hx1.cell (iO hv) (fun h=>h)).trans hv,fun h=>hn (hM1 _ b o h)⟩
 have hm0 : MemL (cx (.loop (rec .ready none))) L0 (ma ks hin) W1:=by
  refine ⟨by rw [hw0,hready];exact Ext.refl _ _,?_,?_,?_,?_⟩
  ·intro b o hb
   rw [hw0,hready]
   rw [hcx] at hb
   have:=hM b o hb
   omega
  ·intro k blk hk
   obtain ⟨hks,rfl⟩:=hkey k blk hk
   obtain ⟨arr,ty,e1,e2⟩:=(hbs k hks).2
   exact ⟨arr,ty,(hx1.block _ (qb (hbs k hks).2) (fun h=>h)).trans e1,aB.map_pv (e2.mono hpres1)⟩
  ·intro k k' b1 b2 hne hk hk' _ _
   exact hinj k (hkey k b1 hk).1 k' (hkey k' b2 hk').1 hne
  ·intro k blk hk
   obtain ⟨hks,rfl⟩:=hkey k blk hk
   have hc' : ks.contains k=true:=by simpa using hks
   refine ⟨rfl,?_,?_,?_,?_⟩
   ·rw [hcx];simp only [hc',if_true];rfl
   ·rw [hcx];exact ⟨k,hks,rfl⟩
   ·rw [hw0,hready];have:=qb (hbs k hks).2;show bs k < _;omega
   ·intro o;rw [hcx];exact (hbs k hks).1 o
 refine ⟨l,[{ target:=.collected w.heap.size,args:=#[] }],W1,{ target:=.fn (.func gf) lb.toArray,args:=#[.func (.yield l) #[] #[]] },W1,gf,#[.func (.yield l) #[] #[]]++lb.toArray,W1,?_,?_,fun _ _=>trivial,pY hit.1 _ _ _,fun h=>(by cases h),?_⟩
 ·rw [← hW1,hrec,hl];exact run_enterLoop_outer _ _ _ _ _
 ·simp only [resolve,hg]
  simp [go_sem]
 ·refine (hit.2 (n - 1) l lb W1 _ (fun i M' W=>∃ L h,I i h∧MemL (cx (.loop (rec .ready none))) L h W∧M'=ak (cx (.loop (rec .ready none))) L h) ?_ ?_ ?_ ⟨L0,_,h0,hm0,rfl⟩ (hcap.mono hpres1)).mono ?_
  ·rintro i M' W ⟨L,h,_,hm,rfl⟩ b o hb
   exact hm.mlt hb
  ·rintro i M' W W' ⟨L,h,hi,hm,rfl⟩ hx
   exact ⟨L,h,hi,(hm.grow hx).1,rfl⟩
  ·
   rintro m i x M' W v1 v2 hxi ⟨L,h,hi,hm,rfl⟩ hr1 hr2
   obtain ⟨hlW,_,_⟩:=hturn (o':=.loop (rec .ready none)) rfl hm
   have hy:=run_yield (P:=P) (args:=#[v1,v2]) hlW (by rw [hrec];rfl)
   rw [hrec] at hy
   refine ⟨fn,(a.tmps.setIfInBounds p v1).setIfInBounds q v2,assign,body,by simpa using hy,roundIn_of_wpIn trivial ?_⟩
   have hsim : gF (cx (.loop (rec .ready none))) L ⟨eO t p q x,h⟩ { tmps:=(a.tmps.setIfInBounds p v1).setIfInBounds q v2,defers:=[] } W:=by
    refine ⟨hm,by rw [hcx];simpa using hN,fun k=>?_⟩
    have hq' : q < (a.tmps.setIfInBounds p v1).size:=by rw [Array.size_setIfInBounds,hN];exact hq
    have hp' : p < a.tmps.size:=by rw [hN];exact hp
    simp only [wP hq',wP hp',eO,az]
    split
    ·exact .pv hr2
    ·split
     ·exact .pv hr1
     ·rcases ht k with ⟨k',hk',e1,e2⟩|e1
      ·obtain ⟨cs,hc⟩:=hI i h k' hk' hi
       rw [e1,e2,← hown hk' hi hm]
       exact .ptr hc
      ·rw [e1];exact .undef _
   have hP1 : (cx (.loop (rec .ready none))).P=P:=by rw [hcx]
   have hP2 : (cx (.loop (rec .busy none))).P=P:=by rw [hcx]
   have hR:=hround (cx (.loop (rec .ready none))) (cx (.loop (rec .busy none))) l i x h hP1 (by rw [hcx]) hP2 (by rw [hcx]) hxi hi m L _ W hsim
   rw [hP1] at hR
   refine wpIn_mono hR ?_
   rintro e a1 w1 ⟨st1,L1,hs1',hA1,_,rfl,hbody⟩
   obtain ⟨hl1,hmb,hpb⟩:=hturn (o':=.loop (rec .busy none)) rfl hs1'.1
   refine ⟨w1.putObj l (.loop (rec .busy none)),?_,?_⟩
   ·have:=run_beginRound (P:=P) hl1 (by rw [hrec])
    rw [hrec] at this ⊢;exact this
   have hsb : gF (cx (.loop (rec .busy none))) L1 st1 a1 (w1.putObj l (.loop (rec .busy none))):=⟨hmb,by have:=hs1'.2.1;rw [hcx] at this ⊢;exact this,fun k=>(hs1'.2.2 k).mono hpb (KC.refl _ _)⟩
   have hB:=hbody m L1 a1 _ hsb
   rw [hP2] at hB
   refine wpIn_mono hB ?_
   rintro e2 a2 w2 ⟨st2,L2,hs2,hA2,_,rfl,hi2⟩
   obtain ⟨hl2,hmr,hpr⟩:=hturn (o':=.loop (rec .ready none)) rfl hs2.1
   refine ⟨_,_,run_endRound none hl2,rfl,_,⟨L2,st2.h,hi2,?_,rfl⟩,?_⟩
   ·have e : (Obj.loop { rec .busy none with state:=if (none : Option Code).isNone=true then .ready else .done,pending:=none })=.loop (rec .ready none):=by rw [hrec];rfl
    rw [e];exact hmr
   ·have e : (Obj.loop { rec .busy none with state:=if (none : Option Code).isNone=true then .ready else .done,pending:=none })=.loop (rec .ready none):=by rw [hrec];rfl
    rw [e]
    exact ((hA1.2.1.trans hpb).trans hA2.2.1).trans hpr
  ·
   rintro e W2 ⟨⟨v,rfl⟩,M',L,h,hi,hm,_⟩
   obtain ⟨hl2,hme,_⟩:=hturn (o':=.loop (rec .exhausted none)) rfl hm
   refine ⟨none,W2.putObj l (.loop (rec .exhausted none)),?_,rfl,cx (.loop (rec .exhausted none)),L,h,w.heap.size,by rw [hcx],by rw [hcx],by rw [hcx],?_,hme,hi,fun k hk=>hown hk hi hm,?_,?_,?_,Nat.le_refl _,rfl⟩
   ·have:=run_endLoop (P:=P) hl2 (by rw [hrec];simp)
    rw [hrec] at this ⊢;exact this
   ·intro b hb
    rw [hcx] at hb;exact hb
   ·rw [hw0]
    refine ⟨hx1.os,hx1.tape,hx1.output,by simp;omega,fun b hb _=>?_⟩
    rw [World.putObj_heap_other (by omega)]
    exact hx1.block b hb (fun h=>h)
   ·rw [hw0,World.putObj_heap_other (by omega)];exact hD1
   ·intro hb
    have:=hS _ _ hb
    omega
end Go.Ab
namespace Go.Ab
def qZ (P : Program) (g : FuncId) : Prop:=ei P g=true∧∀ (n : Nat) (args : Array Value) (w : World),CallsDIn Fence.wide n P g args .returning w fun e u' w'=>u'=.returning∧(∃ v,e=.returned v)∧w'=w
def Bg (P : Program) (ds : List Deferred) : Prop:=∀ d ∈ ds,∃ g cap,d.target=.fn (.func g) cap∧qZ P g
theorem qc {n : Nat} {P : Program} {fn : Func} {tmps : Array Value} {R : Ending→World→Prop} {w : World} {v : Value} : ∀ {ds : List Deferred},Bg P ds→(results fn tmps).run P w=.ok v w→R (.returned v) w→LeavesInM Fence.wide n P fn tmps R ds .returning w
 |[],_,hr,hR=>⟨v,hr,hR⟩
 |d :: ds,hq,hr,hR=>by
  obtain ⟨g,cap,ht,hg⟩:=hq d (by simp)
  refine ⟨by simp,.inr ⟨fun h=>(by cases h),.func g,cap,g,d.args++cap,ht,by rw [ht];exact pY hg.1 _ _ _,fun _ _=>trivial,(hg.2 _ _ w).mono ?_⟩⟩
  rintro e u' w' ⟨rfl,⟨v',rfl⟩,rfl⟩
  exact qc (fun d hd=>hq d (by simp [hd])) hr hR
def E9 (C : Cx) (res : PV) : Ending→World→Prop:=fun e w'=>∃ v,e=.returned v∧Ext (fun _=>False) C.w0 w'∧Rep w' C.M0 res v
theorem yZ {C : Cx} {L : Nat→Loc} {st : St} {a : Act} {w : World} (hs : gF C L st a w) {fn : Func} {res : PV} (hr : ju C.P fn.results.toList [] (.pv res) st) : ∃ u,(results fn a.tmps).run C.P w=.ok u w∧Rep w C.M0 res u:=by
 obtain ⟨r,h1,_,W,hW⟩:=hr
 obtain ⟨u,hu1,hu2⟩:=tk (C:=C) hs.1 hs.2.2 h1
 obtain ⟨b1,b2,_⟩:=lg hs.1 (dj.refl _) hu2 hW
 exact ⟨u,hu1,b2.mono (ba.sub (fun b o h=>.inl h))⟩
theorem cG {F : Fence} {n : Nat} {P : Program} {ops : Array Oper} {Q : Exit→Act→World→Prop} (l2 : List Oper) : ∀ {l1 : List Oper} {a : Act} {w : World},
 wpListIn F n P ops (Exit.then (wpListIn F n P ops Q l2) Q) l1 a w→wpListIn F n P ops Q (l1++l2) a w
 |[],a,w,h=>h
 |o :: l1,a,w,h=>by
  rw [List.cons_append]
  unfold wpListIn at h ⊢
  split
  ·rename_i hw
   rw [if_pos hw] at h
   refine ⟨h.1,?_⟩
   have h2:=h.2
   generalize (o.semAt F.round a.eval).run P w=r at h2 ⊢
   unfold Oper.uponIn at h2 ⊢
   split<;>simp only at h2 ⊢
   ·exact cG l2 h2
   ·exact cG l2 h2
   ·exact cG l2 h2
   ·refine ⟨h2.1,h2.2.mono ?_⟩
    intro e w' he
    cases e with
    |returned v=>exact cG l2 he
    |panicked ch=>exact he
    |outgrown=>exact he
   ·exact ⟨h2.1,h2.2.mono fun v w' he=>cG l2 he⟩
   ·refine ⟨h2.1,h2.2.mono ?_⟩
    intro e w' he
    cases e with
    |returned v=>exact cG l2 he
    |panicked ch=>exact he
    |outgrown=>exact he
   ·exact h2
  ·rename_i hw
   rw [if_neg hw] at h
   exact ⟨h.1,cG l2 h.2⟩
def lQ (C : Cx) (fn : Func) (res : PV) (c : Code) (st : St) : Prop:=
 ∀ n L a w,gF C L st a w→Bg C.P a.defers→c.wpIn Fence.wide n C.P (bodyPostM Fence.wide n C.P fn (E9 C res)) a w
section
variable {C : Cx} {fn : Func} {res : PV} {st : St}
theorem wQ {S : Nat→Prop} (hS : ∀ b,¬ S b) {w w' : World} (h : Ext S w w') : Ext (fun _=>False) w w':=⟨h.os,h.tape,h.output,h.size,fun b hb _=>h.block b hb (hS b)⟩
def Cq (C : Cx) (fn : Func) (res : PV) (y : Code) : Exit→St→Prop
 |.normal,st=>lQ C fn res y st
 |.ret,st=>ju C.P fn.results.toList [] (.pv res) st
 |_,_=>False
theorem lQ.seq (hCS : ∀ b,¬ C.S b) {x y : Code} (h : aq Fence.wide C x (Cq C fn res y) st) : lQ C fn res (.seq x y) st:=by
 intro n L a w hs hq
 refine wpIn_seq (wpIn_mono (h n L a w hs) ?_)
 rintro e a' w' ⟨st',L',hs',hA,hd,hq'⟩
 cases e with
 |normal=>exact hq' n L' a' w' hs' (by rw [hd];exact hq)
 |ret=>
  obtain ⟨u,h1,h2⟩:=yZ hs' hq'
  exact qc (by rw [hd];exact hq) h1 ⟨u,rfl,wQ hCS hs'.1.ext,h2⟩
 |exit=>exact hq'.elim
 |goto=>exact hq'.elim
 |panic=>exact hq'.elim
 |outgrown=>exact hq'.elim
theorem Bh {n : Nat} {P : Program} {o : Oper} {a : Act} {w : World} {next : Act→World→Prop} {Q : Exit→Act→World→Prop} (h : o.wp P a w next Q) : o.wpIn Fence.wide n P a w next Q:=by
 refine ⟨fun f _=>trivial,?_⟩
 show o.uponIn Fence.wide n P a next Q ((o.semAt none a.eval).run P w)
 rw [Oper.semAt_none]
 unfold Oper.wp at h
 cases hx : (execOp a.eval o).run P w with
 |ok nx w'=>
  rw [hx] at h
  cases nx with
  |value v=>exact h
  |skip=>exact h
  |defer d=>exact h
  |enter f args=>exact ⟨fun hs=>(by cases hs),fJ.calls h⟩
  |row r args=>exact ⟨fun hs=>(by cases hs),fJ.rows h⟩
  |_=>exact h.elim
 |halt k w'=>
  rw [hx] at h
  cases k with
  |panic v=>exact h
  |_=>exact h.elim
theorem lQ.defer {id : Nat} {ops : Array Oper} {pre : List Oper} {o : Oper} {c : Call} {y : Code} {f : Operand} {g : FuncId} {hn : List Nat} (hops : ops.toList=pre++[o]) (hnd : ∀ o ∈ pre,∀ c,o.op≠.defer c) (ho : o.op=.defer c) (hg0 : o.guard=none) (hd : o.dst=none) (hf : c.callee=.value f) (h0 : c.args.size=0) (hq : qZ C.P g)
 (h : eH C.P hn C.N ops (fun st'=>(∃ first caps,st'.ev f=.fn (.func g) first caps)∧lQ C fn res y st') pre st) : lQ C fn res (.seq (.region id ops false) y) st:=by
 intro n L a w hs hqa
 refine wpIn_seq (wpIn_region_list ?_)
 rw [hops]
 refine cG _ (gi fJ (ds:=a.defers) ?_ hnd hs (aI.refl hs.1) rfl h)
 intro st1 L1 a1 w1 hs1 _ hd1 hq1
 obtain ⟨⟨first,caps,hv⟩,hy⟩:=hq1
 obtain ⟨vs,cs,hval⟩:=Ba (by have:=ej hs1.2.2 f;rw [hv] at this;exact this)
 show wpListIn Fence.wide n C.P ops _ [o] a1 w1
 unfold wpListIn
 have hw : Region.wanted o (yielded ops a1.tmps)=true:=by unfold Region.wanted;rw [hg0]
 rw [if_pos hw]
 refine Bh (Oper.wp_defer ho hf h0 hval ?_)
 rw [hd]
 refine hy n L1 _ w1 ⟨hs1.1,hs1.2.1,hs1.2.2⟩ ?_
 intro d hd'
 rcases List.mem_cons.1 hd' with rfl|hd'
 ·exact ⟨g,cs,rfl,hq⟩
 ·rw [hd1] at hd';exact hqa d hd'
theorem lQ.range (hCS : ∀ b,¬ C.S b) {x assign body : Code} {gop : Operand} {p q b0 id : Nat} {ops : Array Oper} {gf : FuncId} {caps : List PV} {xs : List (PV × PV)} (hit : z9 C.P gf caps xs) (hp : p < C.N) (hq : q < C.N)
 {ks : List Nat} {hin : Nat→List PV} {t : Nat→AV}
 (hx : aq Fence.wide C x (fun e st'=>e=.normal∧st'.ev gop=.pv (.fn (.func gf) [] caps)∧(∀ k ∈ ks,st'.h k=some (.box ((hin k).map .pv) true false))∧∀ m,(∃ k ∈ ks,t m=.ptr k 0∧st'.t m=.ptr k 0)∨t m=.undef) st)
 (I : Nat→Hp→Prop) (h0 : I 0 (ma ks hin)) (hI : ∀ i h k,k ∈ ks→I i h→∃ cs,h k=some (.box cs false false))
 (hround : ∀ (C1 C2 : Cx) (l i : Nat) (x : PV × PV) (h : Hp),C1.P=C.P→C1.N=C.N→C2.P=C.P→C2.N=C.N→xs[i]?=some x→I i h→
   aq (Fence.wide.inRound l) C1 assign (fun e st'=>e=.normal∧aq (Fence.wide.inRound l) C2 body (fun e' st''=>e'=.normal∧I (i+1) st''.h) st') ⟨eO t p q x,h⟩)
 (hnd : ol ops=true) {hn : List Nat} (htail : ∀ h,I xs.length h→eH C.P hn C.N ops (fun st'=>ju C.P fn.results.toList [] (.pv res) st') ops.toList ⟨t,h⟩) :
 lQ C fn res (.seq (.seq x (.block b0 (.rangeFunc gop #[p,q] assign body))) (.seq (.region id ops false) .ret)) st:=by
 intro n L a w hs hqa
 refine wpIn_seq (wpIn_seq (wpIn_mono (hx n L a w hs) ?_))
 rintro e a1 w1 ⟨st1,L1,hs1,hA1,hd1,rfl,hg,hks,htt⟩
 have hgr:=ej hs1.2.2 gop
 rw [hg] at hgr
 obtain ⟨us,hus,hcap⟩ : ∃ us : List Value,a1.eval gop=.func (.func gf) #[] us.toArray∧bD w1 (ak C L1 st1.h) caps us:=by
  generalize a1.eval gop=u at hgr
  cases hgr with
  |pv hr=>
   cases hr with
   |fn _ _ _ vs us hl hk h1 h2=>
    have : vs=[]:=List.eq_nil_of_length_eq_zero hl.symm
    subst this
    exact ⟨us,rfl,hk,h2⟩
 have hbx : ∀ k ∈ ks,(∀ o,ak C L1 st1.h (L1 k).b o)∧jh w1 (ak C L1 st1.h) (L1 k).b (hin k):=by
  intro k hk
  obtain ⟨arr,ty,e1,e2⟩:=hs1.1.bl k _ (hks k hk)
  exact ⟨fun o=>.inr ⟨k,_,hks k hk,trivial,rfl,by simp [Blk.frz]⟩,arr,ty,e1,e2.map_pv_inv⟩
 refine wpIn_block (wpIn_mono (Cp (N:=C.N) hus hit (fun b o h=>hs1.1.mlt h) hcap hbx (fun k hk k' hk' hne=>hs1.1.sep k k' _ _ hne (hks k hk) (hks k' hk') trivial trivial) hs1.2.1 hp hq (t:=t) ?_ I h0 hI hround) ?_)
 ·intro m
  rcases htt m with ⟨k,hk,e1,e2⟩|e
  ·have hr:=hs1.2.2 m
   rw [e2] at hr
   generalize hv : a1.tmps.getD m undef=v at hr
   cases hr with
   |ptr _=>exact .inl ⟨k,hk,e1,rfl⟩
  ·exact .inr e
 rintro e a2 w2 ⟨rfl,C2,L2,h2,D,hP2,hN2,hM2,hS2,hm2,hi2,hb2,hx2,hD2,hnS2,hDge,rfl⟩
 show Code.wpIn Fence.wide n C.P _ _ _ w2
 have hs2 : gF C2 L2 ⟨t,h2⟩ { a1 with defers:={ target:=.collected D,args:=#[] } :: a1.defers } w2:=by
  refine ⟨hm2,by rw [hN2];exact hs1.2.1,fun m=>?_⟩
  show RepA w2 (ak C2 L2 h2) L2 h2 (t m) (a1.tmps.getD m undef)
  rcases htt m with ⟨k,hk,e1,e2⟩|e
  ·have hr:=hs1.2.2 m
   rw [e2] at hr
   obtain ⟨cs,hc⟩:=hI _ h2 k hk hi2
   have hv : a1.tmps.getD m undef=.pointer (some ⟨(L1 k).b,0,none⟩):=by
    generalize a1.tmps.getD m undef=v at hr
    cases hr with
    |ptr _=>rfl
   rw [e1,hv,← hb2 k hk]
   exact .ptr hc
  ·rw [e];exact .undef _
 refine wpIn_seq (wpIn_region_list ?_)
 have htl:=htail h2 hi2
 rw [← hP2,← hN2] at htl
 rw [hP2] at htl
 have hgo:=fun Q' hQ'=>gi (C:=C2) (Q:=fun st'=>ju C.P fn.results.toList [] (.pv res) st') (Q':=Q') (hn:=hn) (ops:=ops) fJ (n:=n) hQ' (fun _ ho=>jT hnd ho) hs2 (aI.refl hs2.1) rfl (by rw [hP2];exact htl)
 rw [hP2] at hgo
 refine hgo _ ?_
 intro st3 L3 a3 w3 hs3 _ hd3 hr3
 refine wpIn_ret ?_
 show LeavesInM Fence.wide n C.P fn a3.tmps (E9 C res) a3.defers .returning w3
 rw [hd3]
 have hDlt : D < C2.w0.heap.size:=(Array.getElem?_eq_some_iff.1 hD2).1
 have hD3 : w3.heap[D]?=some (.deferred (some [])):=(hs3.1.ext.block D hDlt hnS2).trans hD2
 obtain ⟨hm4,hp4⟩:=hs3.1.turn hD2 hnS2 rfl (.deferred none)
 have hs4 : gF { C2 with w0:=C2.w0.putObj D (.deferred none) } L3 st3 a3 (w3.putObj D (.deferred none)):=⟨hm4,hs3.2.1,fun m=>(hs3.2.2 m).mono hp4 (KC.refl _ _)⟩
 obtain ⟨u,hu1,hu2⟩:=yZ hs4 (fn:=fn) (res:=res) (by show ju C2.P _ _ _ _;rw [hP2];exact hr3)
 have hu1' : (results fn a3.tmps).run C.P (w3.putObj D (.deferred none))=.ok u (w3.putObj D (.deferred none)):=by rw [← hP2];exact hu1
 refine ⟨by simp,.inl ⟨D,_,rfl,run_takeDeferred hD3,qc (by rw [hd1];exact hqa) hu1' ⟨u,rfl,?_,?_⟩⟩⟩
 ·
  have e1 : Ext (fun _=>False) C.w0 w1:=wQ hCS hs1.1.ext
  have e2 : Ext (fun _=>False) C.w0 C2.w0:=e1.trans hx2 (fun _ _ h=>h)
  have hle:=e1.size
  refine ⟨?_,?_,?_,?_,?_⟩
  ·show w3.os=_;rw [hs3.1.ext.os];exact e2.os
  ·show w3.tape=_;rw [hs3.1.ext.tape];exact e2.tape
  ·show w3.output=_;rw [hs3.1.ext.output];exact e2.output
  ·simp only [World.putObj_size];exact Nat.le_trans e2.size hs3.1.ext.size
  ·intro b hb _
   rw [World.putObj_heap_other (by omega)]
   rw [hs3.1.ext.block b (Nat.lt_of_lt_of_le hb e2.size) ?_]
   ·exact e2.block b hb (fun h=>h)
   ·intro hSb
    obtain ⟨k,hk,rfl⟩:=hS2 b hSb
    have:=hs1.1.own k _ (hks k hk)
    simp only [fA] at this
    omega
 ·refine hu2.mono (ba.sub ?_)
  intro b o h
  show C2.M0 b o
  rw [hM2];exact .inl h
end
theorem y9 {P : Program} {f : FuncId} {fn : Func} {c : Code} (hf : P.funcs[f]?=some fn) (hb : fn.body=some c) (hcall : ei P f=true) {args : List PV} {res : PV} (hlen : args.length≤fn.ntmps)
 (h : ∀ C : Cx,C.P=P→C.N=fn.ntmps→(∀ b,¬ C.S b)→lQ C fn res c (mI (args.map .pv) [])) : ab P f (args.map .pv) [] [] (.pv res):=by
 refine ⟨hcall,rfl,fun w M bs vs hM hbl hnd hbox hal harg=>?_⟩
 have hbs : bs=[]:=List.eq_nil_of_length_eq_zero hbl
 subst hbs
 let C : Cx:={ P:=P,N:=fn.ntmps,M0:=M,S:=fun _=>False,pb:=fun _=>none,w0:=w }
 have hnone : ∀ k,(mI (args.map .pv) []).h k=none:=by
  intro k
  simp only [mI,sf]
  split
  ·rfl
  ·simp
 have hal' : args.length=vs.length:=by simpa using hal
 have hs : gF C (fun _=>default) (mI (args.map .pv) []) { tmps:=vs.toArray++Array.replicate (fn.ntmps - vs.toArray.size) undef,defers:=[] } w:=by
  refine ⟨⟨Ext.refl _ _,hM,fun k blk hk=>(by rw [hnone] at hk;cases hk),fun k k' b1 b2 _ hk=>(by rw [hnone] at hk;cases hk),fun k blk hk=>(by rw [hnone] at hk;cases hk)⟩,?_,fun n=>?_⟩
  ·show (vs.toArray++Array.replicate (fn.ntmps - vs.toArray.size) undef).size=fn.ntmps
   simp;omega
  ·have hMst : ∀ b o,ak C (fun _=>default) (mI (args.map .pv) []).h b o→M b o:=by
    rintro b o (h|⟨k,blk,hk,_⟩)
    ·exact h
    ·rw [hnone] at hk;cases hk
   show RepA w _ _ _ (wH (args.map .pv) n) _
   simp only [wH]
   split
   ·rename_i p hp
    have hlt : n < vs.length:=by rw [← hal];exact (List.getElem?_eq_some_iff.1 hp).1
    have hv:=harg n (.pv p) vs[n] hp (List.getElem?_eq_getElem hlt)
    have hget : (vs.toArray++Array.replicate (fn.ntmps - vs.toArray.size) undef).getD n undef=vs[n]:=by
     rw [Array.getD_eq_getD_getElem?,Array.getElem?_append_left (by simpa using hlt)];simp [hlt]
    simp only [hget]
    have hv' : Rep w M p vs[n]:=hv
    exact .pv (hv'.mono (ba.sub hMst))
   ·rename_i j hp
    rw [List.getElem?_map] at hp
    cases hq : args[n]? with
    |none=>rw [hq] at hp;cases hp
    |some x=>rw [hq] at hp;cases hp
   ·exact .undef _
 refine (callsIn_wide (n:=0)).1 ((callsIn_of_wp_marks hf hb trivial (h C rfl rfl (fun _ h=>h) 0 _ _ w hs (fun d hd=>(by simp at hd))) rfl).mono ?_)
 rintro e w' ⟨v,rfl,hx,hr⟩
 exact ⟨v,rfl,⟨hx.os,hx.tape,hx.output,hx.size,fun b hb _=>hx.block b hb (fun h=>h)⟩,fun i b ps hb=>(by simp at hb),hr⟩
end Go.Ab
namespace Go.Ab
@[simp] theorem Fa {F : Fence} {C : Cx} {y : Code} {Q : Exit→St→Prop} {st : St} : v9 F C y Q .normal st=aq F C y Q st:=rfl
@[simp] theorem Hg {F : Fence} {C : Cx} {y : Code} {Q : Exit→St→Prop} {st : St} : v9 F C y Q .ret st=Q .ret st:=rfl
@[simp] theorem GO {F : Fence} {C : Cx} {y : Code} {Q : Exit→St→Prop} {st : St} {i : Nat} : v9 F C y Q (.exit i) st=Q (.exit i) st:=rfl
@[simp] theorem GD {C : Cx} {fn : Func} {res : PV} {y : Code} {st : St} : Cq C fn res y .normal st=lQ C fn res y st:=rfl
@[simp] theorem HT {C : Cx} {fn : Func} {res : PV} {y : Code} {st : St} : Cq C fn res y .ret st=ju C.P fn.results.toList [] (.pv res) st:=rfl
section
variable {F : Fence} {C : Cx} {x y : Code} {Q : Exit→St→Prop} {st : St} {c : Operand}
def om (F : Fence) (C : Cx) (x y : Code) (Q : Exit→St→Prop) (st : St) : AV→Prop
 |.pv (.val (.bool b))=>(b=true→aq F C x Q st)∧(b=false→aq F C y Q st)
 |_=>False
@[simp] theorem GE : om F C x y Q st (.pv (.val (.bool true)))=aq F C x Q st:=by simp [om]
@[simp] theorem Fb : om F C x y Q st (.pv (.val (.bool false)))=aq F C y Q st:=by simp [om]
theorem bE {b : Bool} (h1 : b=true→aq F C x Q st) (h2 : b=false→aq F C y Q st) : om F C x y Q st (.pv (.val (.bool b))):=⟨h1,h2⟩
theorem aq.cond' (h : om F C x y Q st (st.ev c)) : aq F C (.cond c x y) Q st:=by
 cases hv : st.ev c with
 |pv p=>cases p with
  |val v=>cases v with
   |bool b=>rw [hv] at h;exact aq.cond hv h.1 h.2
   |_=>rw [hv] at h;exact h.elim
  |_=>rw [hv] at h;exact h.elim
 |_=>rw [hv] at h;exact h.elim
end
def dA (N : Nat) (M : Nat→Nat→Prop) (t : Nat→AV) (a : Act) (w : World) : Prop:=a.tmps.size=N∧∀ m,t m=.undef∨∃ p,t m=.pv p∧Rep w M p (a.tmps.getD m undef)
theorem dA.sim {P : Program} {N : Nat} {M : Nat→Nat→Prop} {t : Nat→AV} {a : Act} {w : World} (h : dA N M t a w) (hM : ∀ b o,M b o→b < w.heap.size) : gF { P:=P,N:=N,M0:=M,S:=fun _=>False,pb:=fun _=>none,w0:=w } (fun _=>default) ⟨t,fun _=>none⟩ a w:=by
 refine ⟨⟨Ext.refl _ _,hM,fun k blk hk=>(by cases hk),fun k k' b1 b2 _ hk=>(by cases hk),fun k blk hk=>(by cases hk)⟩,h.1,fun m=>?_⟩
 rcases h.2 m with e|⟨p,e,hr⟩
 ·show RepA w _ _ _ (t m) _
  rw [e];exact .undef _
 ·show RepA w _ _ _ (t m) _
  rw [e]
  refine .pv (hr.mono (ba.sub ?_))
  rintro b o (h|⟨k,blk,hk,_⟩)
  ·exact h
  ·cases hk
def dk (t : Nat→AV) : Nat→AV:=fun m=>match t m with
 |.pv p=>.pv p
 |_=>.undef
theorem mt {C : Cx} {L : Nat→Loc} {st : St} {a : Act} {w : World} (hs : gF C L st a w) : dA C.N C.M0 (dk st.t) a w:=by
 refine ⟨hs.2.1,fun m=>?_⟩
 have:=hs.2.2 m
 unfold dk
 generalize st.t m=v at this
 cases v with
 |pv p=>
  cases this with
  |pv hr=>exact .inr ⟨p,rfl,hr.mono (ba.sub fun b o h=>.inl h)⟩
 |_=>exact .inl rfl
theorem dA.sub {N : Nat} {M : Nat→Nat→Prop} {t t' : Nat→AV} {a : Act} {w : World} (h : dA N M t a w) (ht : ∀ m,t' m=.undef∨t' m=t m) : dA N M t' a w:=by
 refine ⟨h.1,fun m=>?_⟩
 rcases ht m with e|e
 ·exact .inl e
 ·rw [e];exact h.2 m
theorem dA.mono {N : Nat} {M M' : Nat→Nat→Prop} {t : Nat→AV} {a : Act} {w w' : World} (h : dA N M t a w) (hp : ba w M w' M') : dA N M' t a w':=
 ⟨h.1,fun m=>(h.2 m).imp id fun ⟨p,e,hr⟩=>⟨p,e,hr.mono hp⟩⟩
theorem dA.step {P : Program} {N n : Nat} {M : Nat→Nat→Prop} {t : Nat→AV} {a : Act} {w : World} {c : Code} {Q : Exit→St→Prop} (h : dA N M t a w) (hM : ∀ b o,M b o→b < w.heap.size)
 (hc : ∀ C : Cx,C.P=P→C.N=N→aq Fence.wide C c Q ⟨t,fun _=>none⟩) : c.wpIn Fence.wide n P (fun e a' w'=>∃ st',Q e st'∧dA N M (dk st'.t) a' w'∧Ext (fun _=>False) w w'∧a'.defers=a.defers) a w:=
 wpIn_mono (hc { P:=P,N:=N,M0:=M,S:=fun _=>False,pb:=fun _=>none,w0:=w } rfl rfl n _ a w (h.sim hM)) fun _ _ _ ⟨st',_,hs',_,hd,hq⟩=>⟨st',hq,mt hs',hs'.1.ext,hd⟩
theorem dA.list {P : Program} {N n : Nat} {M : Nat→Nat→Prop} {t : Nat→AV} {a : Act} {w : World} {hn : List Nat} {ops : Array Oper} {l : List Oper} {Q : St→Prop} {Q' : Exit→Act→World→Prop} (h : dA N M t a w) (hM : ∀ b o,M b o→b < w.heap.size) (hnd : ∀ o ∈ l,∀ c,o.op≠.defer c)
 (hc : eH P hn N ops Q l ⟨t,fun _=>none⟩) (hQ : ∀ st' a' w',Q st'→dA N M (dk st'.t) a' w'→Ext (fun _=>False) w w'→a'.defers=a.defers→Q' .normal a' w') : wpListIn Fence.wide n P ops Q' l a w:=
 gi (C:={ P:=P,N:=N,M0:=M,S:=fun _=>False,pb:=fun _=>none,w0:=w }) fJ (fun st' L' a' w' hs' _ hd hq=>hQ st' a' w' hq (mt hs') hs'.1.ext hd) hnd (h.sim hM) (aI.refl (h.sim (P:=P) hM).1) rfl hc
theorem Aa {n l : Nat} {P : Program} {ops : Array Oper} {o : Oper} {rest : List Oper} {c : Call} {f x y : Operand} {Q : Exit→Act→World→Prop} {a : Act} {w : World} {R : Ending→World→Prop} (hw : Region.wanted o (yielded ops a.tmps)=true) (ho : o.op=.call c) (hc : c.callee=.value f) (hargs : c.args=#[x,y])
 (hf : a.eval f=.func (.yield l) #[] #[]) (hy : YieldAt Fence.wide (n - 1) P l #[a.eval x,a.eval y] w R)
 (hnext : ∀ e w',R e w'→∃ v,e=.returned v∧wpListIn Fence.wide n P ops Q rest (a.put o.dst v) w') : wpListIn Fence.wide n P ops Q (o :: rest) a w:=by
 obtain ⟨fn,tmps,assign,body,hr,hround⟩:=hy
 unfold wpListIn
 rw [if_pos hw]
 refine ⟨fun _ _=>trivial,?_⟩
 show o.uponIn Fence.wide n P a _ Q ((o.semAt none a.eval).run P w)
 rw [Oper.semAt_none]
 have hrun : (execOp a.eval o).run P w=.ok (.round l fn tmps assign body) w:=by
  generalize a.eval=ρ at hf hr
  unfold execOp
  rw [ho]
  obtain ⟨cal,ar,at_⟩:=c
  simp only at hc hargs
  subst hc;subst hargs
  simp [resolve,hf,invoke,go_sem,hr]
 rw [hrun]
 refine ⟨fun h=>(by cases h),hround.mono ?_⟩
 intro e w' he
 obtain ⟨v,rfl,h⟩:=hnext e w' he
 exact h
end Go.Ab
namespace Go.Ab
theorem MemL.kill {C : Cx} {L : Nat→Loc} {st : St} {w : World} (ks : List Nat) (hm : MemL C L st.h w) : MemL C L (st.kill ks).h w∧∀ b o,ak C L (st.kill ks).h b o→ak C L st.h b o:=by
 have hkey : ∀ k blk',(st.kill ks).h k=some blk'→∃ blk,st.h k=some blk∧iS ks blk=blk'∧blk'.live (L k)=blk.live (L k)∧∀ o,blk'.frz o=blk.frz o:=by
  intro k blk' hk
  simp only [St.kill] at hk
  split at hk
  ·cases hk
  ·simp only [Option.map_eq_some_iff] at hk
   obtain ⟨blk,h1,rfl⟩:=hk
   exact ⟨blk,h1,rfl,by cases blk<;>rfl,fun o=>by cases blk<;>rfl⟩
 have hM : ∀ b o,ak C L (st.kill ks).h b o→ak C L st.h b o:=by
  rintro b o (h0|⟨k,blk',hk,hl,hb,hf⟩)
  ·exact .inl h0
  ·obtain ⟨blk,h1,_,h2,h3⟩:=hkey k blk' hk
   exact .inr ⟨k,blk,h1,h2 ▸ hl,hb,h3 o ▸ hf⟩
 have hp : ba w (ak C L st.h) w (ak C L (st.kill ks).h):=ba.sub hM
 refine ⟨⟨hm.ext,hm.m0,?_,?_,?_⟩,hM⟩
 ·intro k blk' hk
  obtain ⟨blk,h1,rfl,_,_⟩:=hkey k blk' hk
  have:=hm.bl k blk h1
  cases blk with
  |box cs own fz=>
   obtain ⟨arr,ty,e1,e2⟩:=this
   refine ⟨arr,ty,e1,by simpa using e2.1,fun i p u hp' hu=>?_⟩
   simp only [List.getElem?_map,Option.map_eq_some_iff] at hp'
   obtain ⟨q,hq,rfl⟩:=hp'
   exact pW hp (e2.2 i q u hq hu)
  |row e sz xs fz=>
   obtain ⟨a1,a2,a3,a4,a5⟩:=this
   refine ⟨a1,a2,a3,a4,fun hn=>?_⟩
   obtain ⟨b1,b2,arr,b3,b4,b5⟩:=a5 hn
   exact ⟨b1,b2,arr,b3,b4,fun i x j p hx hj=>by obtain ⟨u,hu,hr⟩:=b5 i x j p hx hj;exact ⟨u,hu,hr.mono hp⟩⟩
 ·intro k k' b1 b2 hne hk hk' hl hl'
  obtain ⟨c1,d1,_,e1,_⟩:=hkey k b1 hk
  obtain ⟨c2,d2,_,e2,_⟩:=hkey k' b2 hk'
  exact hm.sep k k' c1 c2 hne d1 d2 (e1 ▸ hl) (e2 ▸ hl')
 ·intro k blk' hk
  obtain ⟨blk,h1,rfl,_,_⟩:=hkey k blk' hk
  have:=hm.own k blk h1
  cases blk with
  |box cs own fz=>cases own<;>exact this
  |row=>exact this
end Go.Ab
namespace Go.Ab
structure YEnv (P : Program) where
 N : Nat
 l : Nat
 xs : List PV
 J : Bool→Nat→(Nat→Nat→Prop)→World→Prop
 bd : ∀ s i M W,J s i M W→∀ b o,M b o→b < W.heap.size
 gr : ∀ s i M W W',J s i M W→Ext (fun _=>False) W W'→J s i M W'
 yl : ∀ m i x M W v1,xs[i]?=some x→J false i M W→Rep W M x v1→YieldAt Fence.wide m P l #[v1] W fun e W'=>∃ (b : Bool) (M' : Nat→Nat→Prop),e=.returned (.bool b)∧J (!b) (if b=true then i+1 else i) M' W'∧ba W M W' M'
abbrev QY:=Exit→(Nat→AV)→Nat→Bool→Prop
def DN {P : Program} (E : YEnv P) (Q : QY) : Exit→Act→World→Prop:=fun e a' w'=>∃ t' i' s' M',E.J s' i' M' w'∧dA E.N M' t' a' w'∧a'.defers=[]∧Q e t' i' s'
def fv {P : Program} (E : YEnv P) (c : Code) (Q : QY) (t : Nat→AV) (i : Nat) (s : Bool) : Prop:=
 ∀ n a w M,E.J s i M w→dA E.N M t a w→a.defers=[]→c.wpIn Fence.wide n P (DN E Q) a w
section
variable {P : Program} {E : YEnv P} {Q : QY} {t : Nat→AV} {i : Nat} {s : Bool}
theorem fv.walk {c : Code} (h : ∀ C : Cx,C.P=P→C.N=E.N→aq Fence.wide C c (fun e st'=>Q e (dk st'.t) i s) ⟨t,fun _=>none⟩) : fv E c Q t i s:=by
 intro n a w M hJ hH hd
 refine wpIn_mono (hH.step (E.bd _ _ _ _ hJ) h) ?_
 rintro e a' w' ⟨st',hq,hH',hx,hd'⟩
 exact ⟨_,i,s,M,E.gr _ _ _ _ _ hJ hx,hH',by rw [hd'];exact hd,hq⟩
theorem fv.mono {c : Code} {Q' : QY} (h : fv E c Q t i s) (hq : ∀ e t i s,Q e t i s→Q' e t i s) : fv E c Q' t i s:=
 fun n a w M hJ hH hd=>wpIn_mono (h n a w M hJ hH hd) fun _ _ _ ⟨t',i',s',M',h1,h2,h3,h4⟩=>⟨t',i',s',M',h1,h2,h3,hq _ _ _ _ h4⟩
theorem fv.sub {c : Code} {t' : Nat→AV} (h : fv E c Q t' i s) (ht : ∀ m,t' m=.undef∨t' m=t m) : fv E c Q t i s:=
 fun n a w M hJ hH hd=>h n a w M hJ (hH.sub ht) hd
def GH {P : Program} (E : YEnv P) (y : Code) (Q : QY) : QY
 |.normal,t,i,s=>fv E y Q t i s
 |e,t,i,s=>Q e t i s
theorem fv.seq {x y : Code} (h : fv E x (GH E y Q) t i s) : fv E (.seq x y) Q t i s:=by
 intro n a w M hJ hH hd
 refine wpIn_seq (wpIn_mono (h n a w M hJ hH hd) ?_)
 rintro e a' w' ⟨t',i',s',M',h1,h2,h3,h4⟩
 cases e with
 |normal=>exact h4 n a' w' M' h1 h2 h3
 |_=>exact ⟨t',i',s',M',h1,h2,h3,h4⟩
theorem fv.skip (h : Q .normal t i s) : fv E .skip Q t i s:=fun _ _ _ M hJ hH hd=>wpIn_skip ⟨t,i,s,M,hJ,hH,hd,h⟩
theorem fv.ret (h : Q .ret t i s) : fv E .ret Q t i s:=fun _ _ _ M hJ hH hd=>wpIn_ret ⟨t,i,s,M,hJ,hH,hd,h⟩
theorem fv.exit {id : Nat} (h : Q (.exit id) t i s) : fv E (.exit id) Q t i s:=fun _ _ _ M hJ hH hd=>wpIn_exit ⟨t,i,s,M,hJ,hH,hd,h⟩
theorem fv.cond {m : Nat} {x y : Code} {b : Bool} (hc : t m=.pv (.val (.bool b))) (ht : b=true→fv E x Q t i s) (hf : b=false→fv E y Q t i s) : fv E (.cond (.tmp m) x y) Q t i s:=by
 intro n a w M hJ hH hd
 have hc' : a.eval (.tmp m)=.bool b:=by
  rcases hH.2 m with e|⟨p,e,hr⟩
  ·rw [hc] at e;cases e
  ·rw [hc] at e;injection e with e;subst e;exact aS hr
 exact wpIn_cond_split hc' (fun e=>ht e n a w M hJ hH hd) (fun e=>hf e n a w M hJ hH hd)
def sR (id : Nat) (Q : QY) : QY
 |.exit j,t,i,s=>if j=id then Q .normal t i s else Q (.exit j) t i s
 |e,t,i,s=>Q e t i s
theorem fv.block {id : Nat} {c : Code} (h : fv E c (sR id Q) t i s) : fv E (.block id c) Q t i s:=by
 intro n a w M hJ hH hd
 refine wpIn_block (wpIn_mono (h n a w M hJ hH hd) ?_)
 rintro e a' w' ⟨t',i',s',M',h1,h2,h3,h4⟩
 cases e with
 |exit j=>
  simp only [sR,Exit.inBlock] at h4 ⊢
  split
  ·rename_i e;rw [if_pos e] at h4;exact ⟨t',i',s',M',h1,h2,h3,h4⟩
  ·rename_i e;rw [if_neg e] at h4;exact ⟨t',i',s',M',h1,h2,h3,h4⟩
 |_=>exact ⟨t',i',s',M',h1,h2,h3,h4⟩
theorem fv.loopN {c : Code} (K : Nat) (I : Nat→(Nat→AV)→Nat→Bool→Prop) (h₀ : I 0 t i s)
 (round : ∀ k t i s,k≤K→I k t i s→fv E c (fun e t i s=>match e with|.normal=>k < K∧I (k+1) t i s|e=>Q e t i s) t i s) : fv E (.loop c) Q t i s:=by
 classical
 intro n a w M hJ hH hd
 let In : Nat→Act→World→Prop:=fun k a w=>∃ t i s M,I k t i s∧E.J s i M w∧dA E.N M t a w∧a.defers=[]
 have hmax : ∀ a w,(∃ k,k≤K∧In k a w)→∃ k,k≤K∧In k a w∧∀ j,j≤K→In j a w→j≤k:=by
  intro a w ⟨k0,h1,h2⟩
  have : ∀ d k,K - k≤d→k≤K→In k a w→∃ k,k≤K∧In k a w∧∀ j,j≤K→In j a w→j≤k:=by
   intro d
   induction d with
   |zero=>intro k hd hk hI;exact ⟨k,hk,hI,fun j hj _=>by omega⟩
   |succ d ih=>
    intro k hd hk hI
    by_cases h : ∃ j,j≤K∧In j a w∧k < j
    ·obtain ⟨j,hj,hIj,hij⟩:=h;exact ih j (by omega) hj hIj
    ·exact ⟨k,hk,hI,fun j hj hIj=>Nat.le_of_not_lt (fun hlt=>h ⟨j,hj,hIj,hlt⟩)⟩
  exact this K k0 (by omega) h1 h2
 refine wpIn_loop (fun a w=>∃ k,k≤K∧In k a w) (fun a w=>K - (if h : ∃ k,k≤K∧In k a w∧∀ j,j≤K→In j a w→j≤k then h.choose else 0)) ⟨0,Nat.zero_le _,t,i,s,M,h₀,hJ,hH,hd⟩ ?_
 intro a1 w1 hex
 have hm:=hmax a1 w1 hex
 have hs:=hm.choose_spec
 obtain ⟨t1,i1,s1,M1,g1,g2,g3,g4⟩:=hs.2.1
 refine wpIn_mono (round _ t1 i1 s1 hs.1 g1 n a1 w1 M1 g2 g3 g4) ?_
 rintro e a2 w2 ⟨t2,i2,s2,M2,q1,q2,q3,q4⟩
 cases e with
 |normal=>
  obtain ⟨hlt,hI⟩:=q4
  have hin : In (hm.choose+1) a2 w2:=⟨t2,i2,s2,M2,hI,q1,q2,q3⟩
  refine ⟨⟨_,hlt,hin⟩,?_⟩
  have hm2:=hmax a2 w2 ⟨_,hlt,hin⟩
  have h1:=hm2.choose_spec.2.2 _ hlt hin
  show K - (if h : ∃ k,k≤K∧In k a2 w2∧∀ j,j≤K→In j a2 w2→j≤k then h.choose else 0) < K - (if h : ∃ k,k≤K∧In k a1 w1∧∀ j,j≤K→In j a1 w1→j≤k then h.choose else 0)
  rw [dif_pos hm2,dif_pos hm]
  omega
 |_=>exact ⟨t2,i2,s2,M2,q1,q2,q3,q4⟩
end
theorem rF {n l : Nat} {P : Program} {ops : Array Oper} {o : Oper} {rest : List Oper} {c : Call} {f x : Operand} {Q : Exit→Act→World→Prop} {a : Act} {w : World} {R : Ending→World→Prop} (hw : Region.wanted o (yielded ops a.tmps)=true) (ho : o.op=.call c) (hc : c.callee=.value f) (hargs : c.args=#[x])
 (hf : a.eval f=.func (.yield l) #[] #[]) (hy : YieldAt Fence.wide (n - 1) P l #[a.eval x] w R)
 (hnext : ∀ e w',R e w'→∃ v,e=.returned v∧wpListIn Fence.wide n P ops Q rest (a.put o.dst v) w') : wpListIn Fence.wide n P ops Q (o :: rest) a w:=by
 obtain ⟨fn,tmps,assign,body,hr,hround⟩:=hy
 unfold wpListIn
 rw [if_pos hw]
 refine ⟨fun _ _=>trivial,?_⟩
 show o.uponIn Fence.wide n P a _ Q ((o.semAt none a.eval).run P w)
 rw [Oper.semAt_none]
 have hrun : (execOp a.eval o).run P w=.ok (.round l fn tmps assign body) w:=by
  generalize a.eval=ρ at hf hr
  unfold execOp
  rw [ho]
  obtain ⟨cal,ar,at_⟩:=c
  simp only at hc hargs
  subst hc;subst hargs
  simp [resolve,hf,invoke,go_sem,hr]
 rw [hrun]
 refine ⟨fun h=>(by cases h),hround.mono ?_⟩
 intro e w' he
 obtain ⟨v,rfl,h⟩:=hnext e w' he
 exact h
section
variable {P : Program} {E : YEnv P} {Q : QY} {t : Nat→AV} {i : Nat}
theorem fv.yield {id d f x : Nat} {ops : Array Oper} {pre post : List Oper} {o : Oper} {c : Call} {hn : List Nat} (hops : ops.toList=pre++o :: post) (hnd : ol ops=true) (ho : o.op=.call c) (hc : c.callee=.value (.tmp f)) (hargs : c.args=#[.tmp x]) (hd : o.dst=some d) (hdN : d < E.N)
 (hpre : eH P hn E.N ops (fun st'=>st'.t f=.pv (.val (.func (.yield E.l) #[] #[]))∧fk ops (dk st'.t) o.guard=some true∧∃ q,st'.t x=.pv q∧E.xs[i]?=some q∧
   ∀ b,eH P hn E.N ops (fun st''=>Q .normal (dk st''.t) (if b=true then i+1 else i) (!b)) post ⟨az (dk st'.t) d (.pv (.val (.bool b))),fun _=>none⟩) pre ⟨t,fun _=>none⟩) : fv E (.region id ops false) Q t i false:=by
 intro n a w M hJ hH hdd
 refine wpIn_region_list ?_
 rw [hops]
 refine cG _ ?_
 have hmem : ∀ o' ∈ pre++o :: post,∀ c,o'.op≠.defer c:=fun o' ho'=>jT hnd (by rw [hops];exact ho')
 refine hH.list (E.bd _ _ _ _ hJ) (fun o' ho'=>hmem o' (List.mem_append_left _ ho')) hpre ?_
 rintro st' a' w' ⟨h1,h2,q,h3,h4,h5⟩ hH' hx hd'
 have hJ':=E.gr _ _ _ _ _ hJ hx
 have hM':=E.bd _ _ _ _ hJ'
 have ef : a'.eval (.tmp f)=.func (.yield E.l) #[] #[]:=by
  rcases hH'.2 f with e|⟨p,e,hr⟩
  ·simp only [dk,h1] at e;cases e
  ·simp only [dk,h1] at e;injection e with e;subst e;exact aS hr
 have ex : Rep w' M q (a'.eval (.tmp x)):=by
  rcases hH'.2 x with e|⟨p,e,hr⟩
  ·simp only [dk,h3] at e;cases e
  ·simp only [dk,h3] at e;injection e with e;subst e;exact hr
 refine rF ?_ ho hc hargs ef (E.yl (n - 1) i q M w' _ h4 hJ' ex) ?_
 ·exact dc (hH'.sim (P:=P) hM').2.2 h2
 rintro e w2 ⟨b,M2,rfl,hJ2,hp2⟩
 refine ⟨_,rfl,?_⟩
 have hH2 : dA E.N M2 (az (dk st'.t) d (.pv (.val (.bool b)))) (a'.put o.dst (.bool b)) w2:=by
  have hb:=hH'.mono hp2
  rw [hd]
  have hd' : d < a'.tmps.size:=by rw [hb.1];exact hdN
  refine ⟨by simpa [Act.put] using hb.1,fun m=>?_⟩
  rw [mH hd']
  simp only [az]
  split
  ·exact .inr ⟨_,rfl,.val _⟩
  ·exact hb.2 m
 refine hH2.list (E.bd _ _ _ _ hJ2) (fun o' ho'=>hmem o' (List.mem_append_right _ (List.mem_cons_of_mem _ ho'))) (h5 b) ?_
 intro st3 a3 w3 hq3 hH3 hx3 hd3
 exact ⟨_,_,_,M2,E.gr _ _ _ _ _ hJ2 hx3,hH3,by rw [hd3,gW,hd'];exact hdd,hq3⟩
end
end Go.Ab
namespace Go.Ab
section
variable {P : Program} {E : YEnv P} {Q : QY} {C : Cx} {st : St} {i : Nat} {s : Bool}
def gB {P : Program} (E : YEnv P) (C : Cx) (c : Code) (Q : QY) (st : St) (i : Nat) (s : Bool) : Prop:=
 C.P=P→C.N=E.N→(∀ b,¬ C.S b)→E.J s i C.M0 C.w0→∀ n L a w,gF C L st a w→a.defers=[]→c.wpIn Fence.wide n P (DN E Q) a w
theorem DP {C : Cx} (h : ∀ b,¬ C.S b) {w w' : World} (hx : Ext C.S w w') : Ext (fun _=>False) w w':=by
 have e : C.S=fun _=>False:=funext fun b=>propext ⟨fun hb=>(h b hb).elim,False.elim⟩
 rw [e] at hx;exact hx
theorem fv.blocks {c : Code} {t : Nat→AV} (h : ∀ C : Cx,C.P=P→C.N=E.N→gB E C c Q ⟨t,fun _=>none⟩ i s) : fv E c Q t i s:=by
 intro n a w M hJ hH hd
 exact h { P:=P,N:=E.N,M0:=M,S:=fun _=>False,pb:=fun _=>none,w0:=w } rfl rfl rfl rfl (fun _ h=>h) hJ n _ a w (hH.sim (E.bd _ _ _ _ hJ)) hd
theorem gB.drop {c : Code} (h : fv E c Q (dk st.t) i s) : gB E C c Q st i s:=by
 intro hP hN hS hJ n L a w hs hd
 have hH:=mt hs
 rw [hN] at hH
 exact h n a w C.M0 (E.gr _ _ _ _ _ hJ (DP hS hs.1.ext)) hH hd
def GI {P : Program} (E : YEnv P) (C : Cx) (y : Code) (Q : QY) (i : Nat) (s : Bool) : Exit→St→Prop
 |.normal,st=>gB E C y Q st i s
 |e,st=>Q e (dk st.t) i s
theorem gB.seq {x y : Code} (h : aq Fence.wide C x (GI E C y Q i s) st) : gB E C (.seq x y) Q st i s:=by
 intro hP hN hS hJ n L a w hs hd
 subst hP
 refine wpIn_seq (wpIn_mono (h n L a w hs) ?_)
 rintro e a' w' ⟨st',L',hs',_,hd',hq⟩
 have hdd : a'.defers=[]:=by rw [hd'];exact hd
 have hH:=mt hs'
 rw [hN] at hH
 cases e with
 |normal=>exact hq rfl hN hS hJ n L' a' w' hs' hdd
 |_=>exact ⟨_,i,s,C.M0,E.gr _ _ _ _ _ hJ (DP hS hs'.1.ext),hH,hdd,hq⟩
theorem gB.walk {c : Code} (h : aq Fence.wide C c (fun e st'=>Q e (dk st'.t) i s) st) : gB E C c Q st i s:=by
 intro hP hN hS hJ n L a w hs hd
 subst hP
 refine wpIn_mono (h n L a w hs) ?_
 rintro e a' w' ⟨st',L',hs',_,hd',hq⟩
 have hH:=mt hs'
 rw [hN] at hH
 exact ⟨_,i,s,C.M0,E.gr _ _ _ _ _ hJ (DP hS hs'.1.ext),hH,by rw [hd'];exact hd,hq⟩
theorem gB.cond {m : Nat} {x y : Code} {b : Bool} (hc : st.t m=.pv (.val (.bool b))) (ht : b=true→gB E C x Q st i s) (hf : b=false→gB E C y Q st i s) : gB E C (.cond (.tmp m) x y) Q st i s:=by
 intro hP hN hS hJ n L a w hs hd
 have hc' : a.eval (.tmp m)=.bool b:=by
  have h:=hs.2.2 m
  rw [hc] at h
  cases h with
  |pv hr=>exact aS hr
 exact wpIn_cond_split hc' (fun e=>ht e hP hN hS hJ n L a w hs hd) (fun e=>hf e hP hN hS hJ n L a w hs hd)
theorem gB.block {id : Nat} {c : Code} (h : gB E C c (sR id Q) st i s) : gB E C (.block id c) Q st i s:=by
 intro hP hN hS hJ n L a w hs hd
 refine wpIn_block (wpIn_mono (h hP hN hS hJ n L a w hs hd) ?_)
 rintro e a' w' ⟨t',i',s',M',h1,h2,h3,h4⟩
 cases e with
 |exit j=>
  simp only [sR] at h4
  show (if j=id then _ else _)
  split
  ·rename_i e;rw [if_pos e] at h4;exact ⟨t',i',s',M',h1,h2,h3,h4⟩
  ·rename_i e;rw [if_neg e] at h4;exact ⟨t',i',s',M',h1,h2,h3,h4⟩
 |_=>exact ⟨t',i',s',M',h1,h2,h3,h4⟩
theorem gB.yield {id d f x : Nat} {ops : Array Oper} {pre post : List Oper} {o : Oper} {c : Call} {hn : List Nat} (hops : ops.toList=pre++o :: post) (hnd : ol ops=true) (ho : o.op=.call c) (hc : c.callee=.value (.tmp f)) (hargs : c.args=#[.tmp x]) (hd : o.dst=some d) (hdN : d < E.N)
 (hpre : eH P hn E.N ops (fun st'=>st'.t f=.pv (.val (.func (.yield E.l) #[] #[]))∧fk ops (dk st'.t) o.guard=some true∧∃ q,st'.t x=.pv q∧E.xs[i]?=some q∧
   ∀ b,eH P hn E.N ops (fun st''=>Q .normal (dk st''.t) (if b=true then i+1 else i) (!b)) post ⟨az (dk st'.t) d (.pv (.val (.bool b))),fun _=>none⟩) pre st) : gB E C (.region id ops false) Q st i false:=by
 intro hP hN hS hJ n L a w hs hdd
 subst hP
 rw [← hN] at hpre
 refine wpIn_region_list ?_
 rw [hops]
 refine cG _ ?_
 have hmem : ∀ o' ∈ pre++o :: post,∀ c,o'.op≠.defer c:=fun o' ho'=>jT hnd (by rw [hops];exact ho')
 refine gi fJ (fun st' L' a' w' hs' _ hd' hq=>?_) (fun o' ho'=>hmem o' (List.mem_append_left _ ho')) hs (aI.refl hs.1) rfl hpre
 obtain ⟨h1,h2,q,h3,h4,h5⟩:=hq
 have hH':=mt hs'
 have hJ':=E.gr _ _ _ _ _ hJ (DP hS hs'.1.ext)
 have hM':=E.bd _ _ _ _ hJ'
 have ef : a'.eval (.tmp f)=.func (.yield E.l) #[] #[]:=by
  rcases hH'.2 f with e|⟨p,e,hr⟩
  ·simp only [dk,h1] at e;cases e
  ·simp only [dk,h1] at e;injection e with e;subst e;exact aS hr
 have ex : Rep w' C.M0 q (a'.eval (.tmp x)):=by
  rcases hH'.2 x with e|⟨p,e,hr⟩
  ·simp only [dk,h3] at e;cases e
  ·simp only [dk,h3] at e;injection e with e;subst e;exact hr
 refine rF ?_ ho hc hargs ef (E.yl (n - 1) i q C.M0 w' _ h4 hJ' ex) ?_
 ·exact dc (hH'.sim (P:=C.P) hM').2.2 h2
 rintro e w2 ⟨b,M2,rfl,hJ2,hp2⟩
 refine ⟨_,rfl,?_⟩
 have hH2 : dA E.N M2 (az (dk st'.t) d (.pv (.val (.bool b)))) (a'.put o.dst (.bool b)) w2:=by
  have hb:=hH'.mono hp2
  rw [hd]
  have hd' : d < a'.tmps.size:=by rw [hb.1,hN];exact hdN
  refine ⟨by simpa [Act.put,hN] using hb.1,fun m=>?_⟩
  rw [mH hd']
  simp only [az]
  split
  ·exact .inr ⟨_,rfl,.val _⟩
  ·exact hb.2 m
 refine hH2.list (E.bd _ _ _ _ hJ2) (fun o' ho'=>hmem o' (List.mem_append_right _ (List.mem_cons_of_mem _ ho'))) (by rw [hN] at h5;exact h5 b) ?_
 intro st3 a3 w3 hq3 hH3 hx3 hd3
 exact ⟨_,_,_,M2,E.gr _ _ _ _ _ hJ2 hx3,hH3,by rw [hd3,gW,hd'];exact hdd,hq3⟩
end
end Go.Ab
namespace Go.Ab
def pN (C : Cx) (ds : List Deferred) (st : St) (a : Act) (w : World) : Prop:=∃ L,MemL C L st.h w∧a.tmps.size=C.N∧a.defers=ds∧∀ n,RepA w (ak C L st.h) L st.h (st.t n) (a.tmps.getD n undef)
theorem pN.put {C : Cx} {ds : List Deferred} {L : Nat→Loc} {st : St} {a : Act} {w : World} (hm : MemL C L st.h w) (hN : a.tmps.size=C.N) (hdf : a.defers=ds) (ht : ∀ n,RepA w (ak C L st.h) L st.h (st.t n) (a.tmps.getD n undef))
 {d : Option Nat} (hd : fY C.N d=true) {v : AV} {W : List (Nat × Blk)} {u : Value} {w' : World} {L' : Nat→Loc} (hA : aI C L st.h w L' (ah st.h W) w') (hv : RepA w' (ak C L' (ah st.h W)) L' (ah st.h W) v u) :
 pN C ds (st.put d v W) (a.put d u) w':=by
 obtain ⟨h1,h2,h3⟩:=gF.put (a:=a) ⟨hm,hN,ht⟩ hd hA hv
 exact ⟨L',h1,h2,(gW _ _ _).trans hdf,h3⟩
section
variable {C : Cx} {hn : List Nat} {ops : Array Oper} {fs : List Ef} {st : St} {ds : List Deferred}
theorem A1 (hslot : jm ops=true) (hlen : fs.length=ops.size) (hstep : ∀ (i : Nat) o f,ops[i]?=some o→fs[i]?=some f→pZ C.P hn C.N ops o (run (fs.take i) st) f)
 (hkey : lW (jk ops.toList []) (fs.map fun f=>(f.W.map (·.1),f.K))=true) {Q' : Exit→Act→World→Prop} (hQ : ∀ a w,pN C ds (run fs st) a w→Q' .normal a w) :
 ∀ (fuel : Nat) (listed : Array Bool) (a : Act) (w : World),listed.size=ops.size→((List.range ops.size).filter fun j=>!ay listed j).length≤fuel→(∀ i j,jP ops i j→ay listed j=true→ay listed i=true)→
  pN C ds (dy fs ops.size st (ay listed)) a w→wpAny C.P .any ops Q' fuel listed a w:=by
 have hall : ∀ listed : Array Bool,Region.ready .any ops listed=[]→listed.size=ops.size→∀ j,j < ops.size→ay listed j=true:=by
  intro listed hr hsz j
  induction j using Nat.strongRecOn with
  |_ j ih=>
   intro hj
   cases hl : ay listed j with
   |true=>rfl
   |false=>
    have : j ∈ Region.ready .any ops listed:=iU.2 ⟨hj,hl,fun q hq=>by
     have hqj:=lZ hslot hq
     have:=ih q hqj (by omega)
     unfold ay at this
     rw [Array.getD_eq_getD_getElem?] at this ⊢
     rw [Array.getElem?_eq_getElem (by omega)] at this ⊢
     simpa using this⟩
    rw [hr] at this;cases this
 have hend : ∀ (listed : Array Bool) a w,Region.ready .any ops listed=[]→listed.size=ops.size→pN C ds (dy fs ops.size st (ay listed)) a w→Q' .normal a w:=by
  intro listed a w hr hsz hsim
  apply hQ
  have hl:=hall listed hr hsz
  have : dy fs ops.size st (ay listed)=run fs st:=by
   have ht : run fs st=run (fs.take ops.size) st:=by rw [List.take_of_length_le (by omega)]
   rw [ht]
   have h1 : (dy fs ops.size st (ay listed)).t=(run (fs.take ops.size) st).t:=by
    funext r;rw [jR fs st _ (by omega)];exact cY (fun j hj _=>hl j hj)
   have h2 : (dy fs ops.size st (ay listed)).h=(run (fs.take ops.size) st).h:=by
    funext r;rw [jS fs st _ (by omega)];exact cY (fun j hj _=>hl j hj)
   cases hA : dy fs ops.size st (ay listed);cases hB : run (fs.take ops.size) st
   rw [hA,hB] at h1 h2
   simp at h1 h2
   rw [h1,h2]
  rw [← this];exact hsim
 intro fuel
 induction fuel with
 |zero=>
  intro listed a w hsz hcnt hcl hsim
  have hemp : Region.ready .any ops listed=[]:=by
   cases hr : Region.ready .any ops listed with
   |nil=>rfl
   |cons i r=>
    have hi : i ∈ Region.ready .any ops listed:=by rw [hr];simp
    obtain ⟨h1,h2,_⟩:=iU.1 hi
    have : i ∈ (List.range ops.size).filter fun j=>!ay listed j:=List.mem_filter.2 ⟨List.mem_range.2 h1,by simp [h2]⟩
    have hnil : ((List.range ops.size).filter fun j=>!ay listed j)=[]:=List.eq_nil_of_length_eq_zero (by omega)
    rw [hnil] at this;cases this
  exact ⟨hemp,hend listed a w hemp hsz hsim⟩
 |succ fuel ih=>
  intro listed a w hsz hcnt hcl hsim
  refine ⟨fun hr=>hend listed a w hr hsz hsim,fun i hi=>?_⟩
  obtain ⟨hin,hli,hdir⟩:=iU.1 hi
  have ho : ops[i]?=some ops[i]:=Array.getElem?_eq_getElem hin
  have hf : fs[i]?=some (fs[i]'(by omega)):=List.getElem?_eq_getElem _
  generalize ops[i]=o at ho
  generalize fs[i]'(by omega)=f at hf
  obtain ⟨hdst,hfd,hcase⟩:=hstep i o f ho hf
  have hbefore : ∀ q,Pre ops q i→ay listed q=true:=by
   intro q hq
   have hd : ∀ q,jP ops q i→ay listed q=true:=by
    intro q hq
    have hqi:=lZ hslot hq
    have:=hdir q hq
    unfold ay
    rw [Array.getD_eq_getD_getElem?] at this ⊢
    rw [Array.getElem?_eq_getElem (by omega)] at this ⊢
    simpa using this
   cases hq with
   |one h=>exact hd q h
   |step h h'=>exact lY hcl h (hd _ h')
  have hafter : ∀ q,Pre ops i q→ay listed q=false:=by
   intro q hq
   cases hlq : ay listed q with
   |false=>rfl
   |true=>rw [lY hcl hq hlq] at hli;cases hli
  have hdj : ∀ j r,(nk fs r j).isSome=true→∃ oj fj,ops[j]?=some oj∧fs[j]?=some fj∧oj.dst=some r:=by
   intro j r hj
   unfold nk at hj
   split at hj
   ·rename_i fj hfj
    split at hj
    ·rename_i hd
     have hjn : j < ops.size:=by rw [← hlen];exact (List.getElem?_eq_some_iff.1 hfj).1
     have hoj : ops[j]?=some ops[j]:=Array.getElem?_eq_getElem hjn
     obtain ⟨_,h2,_⟩:=hstep j _ fj hoj hfj
     exact ⟨_,fj,hoj,hfj,by rw [← h2];exact hd⟩
    ·cases hj
   ·cases hj
  have hkj : ∀ j k,(nl fs k j).isSome=true→∃ fj,fs[j]?=some fj∧k ∈ fj.W.map (·.1):=by
   intro j k hj
   unfold nl at hj
   split at hj
   ·rename_i fj hfj;exact ⟨fj,hfj,p9 hj⟩
   ·cases hj
  have haccat : ∀ (j : Nat) (fj : Ef),fs[j]?=some fj→(fs.map fun f=>(f.W.map (·.1),f.K))[j]?=some (fj.W.map (·.1),fj.K):=fun j fj h=>by simp [h]
  have hagT : ∀ r ∈ li ops o,(dy fs ops.size st (ay listed)).t r=(run (fs.take i) st).t r:=by
   intro r hr
   rw [jR fs st i (by omega),← lV (n:=ops.size) (by omega)]
   refine cY (fun j hj hw=>?_)
   obtain ⟨oj,fj,hoj,hfj,hd⟩:=hdj j r hw
   rcases Nat.lt_trichotomy j i with hlt|rfl|hgt
   ·rw [hbefore j (iT hslot hlt hoj ho (by simp [iG,hd,hr]))];simp [hlt]
   ·rw [hli];simp
   ·rw [hafter j (iT hslot hgt ho hoj (by simp [iG,hd,hr]))]
    have : ¬ j < i:=by omega
    simp [this]
  have hagH : ∀ k ∈ f.K,(dy fs ops.size st (ay listed)).h k=(run (fs.take i) st).h k:=by
   intro k hk
   rw [jS fs st i (by omega),← lV (n:=ops.size) (by omega)]
   refine cY (fun j hj hw=>?_)
   obtain ⟨fj,hfj,hd⟩:=hkj j k hw
   rcases Nat.lt_trichotomy j i with hlt|rfl|hgt
   ·rw [hbefore j (jI hkey hlt (haccat j fj hfj) (haccat i f hf) ⟨k,.inl ⟨hd,hk⟩⟩)];simp [hlt]
   ·rw [hli];simp
   ·rw [hafter j (jI hkey hgt (haccat i f hf) (haccat j fj hfj) ⟨k,.inr ⟨hd,hk⟩⟩)]
    have : ¬ j < i:=by omega
    simp [this]
  have hWK : ∀ k,k ∈ f.W.map (·.1)→k ∈ f.K:=by
   intro k hk
   obtain ⟨kb,hkb,rfl⟩:=List.mem_map.1 hk
   rcases hcase with ⟨_,_,_,hall⟩|⟨_,_,hW,_⟩
   ·have:=List.all_eq_true.1 hall kb hkb;simpa using this
   ·rw [hW] at hkb;cases hkb
  have ja : dy fs ops.size st (ay (listed.setIfInBounds i true))=(dy fs ops.size st (ay listed)).put f.d f.v f.W:=by
   have hls : ∀ j,j < ops.size→ay (listed.setIfInBounds i true) j=(ay listed j || j==i):=by
    intro j hj
    unfold ay
    by_cases e : j=i
    ·subst e;simp [Array.getD_eq_getD_getElem?,hsz,hj]
    ·have h1 : (j==i)=false:=by simpa using e
     rw [h1,Bool.or_false,Array.getD_eq_getD_getElem?,Array.getD_eq_getD_getElem?,Array.getElem?_setIfInBounds_ne (by omega)]
   have h1 : (dy fs ops.size st (ay (listed.setIfInBounds i true))).t=((dy fs ops.size st (ay listed)).put f.d f.v f.W).t:=by
    funext r
    show fB ops.size (nk fs r) (st.t r) (ay (listed.setIfInBounds i true))=_
    rw [cY (fun j hj _=>hls j hj),kW hin ?_]
    ·have hw : nk fs r i=if f.d=some r then some f.v else none:=by simp [nk,hf]
     rw [hw]
     cases hd : f.d with
     |none=>simp [St.put,dy]
     |some d=>
      simp only [St.put,az,Option.some.injEq]
      by_cases e : d=r
      ·subst e;simp
      ·rw [if_neg e,if_neg (fun h=>e h.symm)];rfl
    ·intro hwi j hij hj hwj
     obtain ⟨oi,fi,hoi,hfi,hdi⟩:=hdj i r hwi
     obtain ⟨oj,fj,hoj,hfj,hd⟩:=hdj j r hwj
     rw [ho] at hoi;injection hoi with hoi;subst hoi
     exact hafter j (iT hslot hij ho hoj (by simp [iG,hdi,hd]))
   have h2 : (dy fs ops.size st (ay (listed.setIfInBounds i true))).h=((dy fs ops.size st (ay listed)).put f.d f.v f.W).h:=by
    funext k
    show fB ops.size (nl fs k) (st.h k) (ay (listed.setIfInBounds i true))=_
    rw [cY (fun j hj _=>hls j hj),kW hin ?_]
    ·have hw : nl fs k i=fZ f.W k:=by simp [nl,hf]
     rw [hw]
     simp only [St.put]
     exact (kX k f.W (dy fs ops.size st (ay listed)).h).symm
    ·intro hwi j hij hj hwj
     obtain ⟨fi,hfi,hdi⟩:=hkj i k hwi
     obtain ⟨fj,hfj,hd⟩:=hkj j k hwj
     rw [hf] at hfi;injection hfi with hfi;subst hfi
     exact hafter j (jI hkey hij (haccat i f hf) (haccat j fj hfj) ⟨k,.inr ⟨hd,hWK k hdi⟩⟩)
   cases hA : dy fs ops.size st (ay (listed.setIfInBounds i true));cases hB : (dy fs ops.size st (ay listed)).put f.d f.v f.W
   rw [hA,hB] at h1 h2
   simp at h1 h2
   rw [h1,h2]
  have hnext : ∀ a' w',pN C ds ((dy fs ops.size st (ay listed)).put f.d f.v f.W) a' w'→wpAny C.P .any ops Q' fuel (listed.setIfInBounds i true) a' w':=by
   intro a' w' hs'
   refine ih (listed.setIfInBounds i true) a' w' (by simp [hsz]) ?_ ?_ (by rw [ja];exact hs')
   ·have hle : ((List.range ops.size).filter fun j=>!ay (listed.setIfInBounds i true) j).length < ((List.range ops.size).filter fun j=>!ay listed j).length:=by
     have heq : ((List.range ops.size).filter fun j=>!ay (listed.setIfInBounds i true) j)=((List.range ops.size).filter fun j=>!ay listed j).filter fun j=>!(j==i):=by
      rw [List.filter_filter]
      refine List.filter_congr (fun j hj=>?_)
      have hj':=List.mem_range.1 hj
      unfold ay
      by_cases e : j=i
      ·subst e;simp [Array.getD_eq_getD_getElem?,hsz,hj']
      ·have h1 : (j==i)=false:=by simpa using e
       rw [h1,Array.getD_eq_getD_getElem?,Array.getD_eq_getD_getElem?,Array.getElem?_setIfInBounds_ne (by omega)];simp
     rw [heq]
     refine List.length_filter_lt_length_iff_exists.2 ⟨i,List.mem_filter.2 ⟨List.mem_range.2 hin,by simp [hli]⟩,by simp⟩
    omega
   ·intro q j hd hj
    have hset : ∀ m,ay (listed.setIfInBounds i true) m=true↔(ay listed m=true∨m=i):=by
     intro m
     unfold ay
     by_cases e : m=i
     ·subst e;simp [Array.getD_eq_getD_getElem?,hsz,hin]
     ·rw [Array.getD_eq_getD_getElem?,Array.getD_eq_getD_getElem?,Array.getElem?_setIfInBounds_ne (by omega)];simp [e]
    rw [hset] at hj ⊢
    rcases hj with hj|rfl
    ·exact .inl (hcl q j hd hj)
    ·exact .inl (hbefore q (.one hd))
  obtain ⟨L,hm,hN,hdf,ht⟩:=hsim
  have hgd : fk ops (dy fs ops.size st (ay listed)).t o.guard=fk ops (run (fs.take i) st).t o.guard:=by
   unfold fk
   split
   ·rfl
   ·rename_i j want hg
    split
    ·rename_i d hd
     rw [hagT d (by simp [li,hg,hd])]
    ·rfl
  unfold wpOp
  rw [ho]
  simp only
  rcases hcase with ⟨hg,hK,hev,hallk⟩|⟨hg,hv,hW,_⟩
  ·rw [dc ht (hgd.trans hg)]
   rw [if_pos rfl]
   refine .inl ?_
   have hops : ∀ x ∈ o.op.operands,(run (fs.take i) st).ev x=(dy fs ops.size st (ay listed)).ev x:=by
    intro x hx
    cases x with
    |tmp t=>
     refine (hagT t ?_).symm
     simp only [li,wJ,List.mem_append,List.mem_filterMap]
     exact .inl ⟨.tmp t,by simpa using hx,rfl⟩
    |_=>rfl
   have hres : bc f.K (run (fs.take i) st).h=bc f.K (dy fs ops.size st (ay listed)).h:=by
    funext k
    unfold bc
    split
    ·rename_i hk;exact (hagH k (by simpa using hk)).symm
    ·rfl
   rw [u0 hops,hres] at hev
   refine tj hm (h1:=bc f.K (dy fs ops.size st (ay listed)).h) ?_ ?_ (fun x _=>ej ht x) hev (fun eff u w' L' he hA hv=>?_)
   ·intro k b hk;unfold bc at hk;split at hk
    ·exact hk
    ·cases hk
   ·intro d hd
    unfold bc
    have : f.K.contains d=true:=by rw [hK];simp [iH,hd]
    rw [if_pos this]
    refine ⟨rfl,?_⟩
    have hd9:=hdst
    rw [hd] at hd9
    simp only [fY,Bool.and_eq_true,decide_eq_true_eq] at hd9
    exact hd9.2
   ·subst he
    refine hnext _ _ ?_
    rw [hfd]
    exact pN.put hm hN hdf ht hdst hA hv
  ·rw [dc ht (hgd.trans hg)]
   simp only [Bool.false_eq_true,if_false]
   refine hnext _ _ ?_
   rw [hfd,hv,hW]
   exact pN.put hm hN hdf ht hdst (W:=[]) (aI.refl hm) (.pv (.val _))
variable {P : Program} {E : YEnv P} {Q : QY} {i : Nat} {s : Bool}
theorem gB.draw {id : Nat} {y : Code} (hmx : P.follows .mixedOrders=true) (hslot : jm ops=true)
 (h : jn P hn E.N ops (fun acc st=>lW (jk ops.toList []) acc=true∧gB E C y Q st i s) ops.toList [] st) : gB E C (.seq (.region id ops true) y) Q st i s:=by
 intro hP hN hS hJ n L a w hs hd
 subst hP
 rw [← hN] at h
 obtain ⟨fs,h1,h2,h3,h4⟩:=um h
 refine wpIn_seq (wpIn_wide.2 ?_)
 refine wp_region_any hmx (A1 (ds:=[]) (fs:=fs) (st:=st) hslot (by rw [h1];simp) (fun i o f ho hf=>h2 i o f (by simpa using ho) hf) (by simpa using h3) (fun a w hs=>?_) _ _ _ _ (by simp) ?_ ?_ ?_)
 ·obtain ⟨L',hm',hN',hdd,ht'⟩:=hs
  exact h4 rfl hN hS hJ n L' a w ⟨hm',hN',ht'⟩ hdd
 ·refine Nat.le_trans (List.length_filter_le _ _) (by simp)
 ·intro i j hd hj
  have hjn : j < ops.size:=by obtain ⟨o,ho,_⟩:=hd;exact (Array.getElem?_eq_some_iff.1 ho).1
  unfold ay at hj
  rw [Array.getD_eq_getD_getElem?,Array.getElem?_replicate,if_pos hjn] at hj
  cases hj
 ·have : dy fs ops.size st (ay (Array.replicate ops.size false))=st:=by
   have hf : ∀ j,j < ops.size→ay (Array.replicate ops.size false) j=false:=by
    intro j hj;unfold ay;rw [Array.getD_eq_getD_getElem?,Array.getElem?_replicate,if_pos hj];rfl
   have hz : ∀ {V : Type} (wr : Nat→Option V) (x0 : V),fB ops.size wr x0 (ay (Array.replicate ops.size false))=x0:=by
    intro V wr x0
    rw [cY (ls':=fun _=>false) (fun j hj _=>hf j hj)]
    have : ∀ n,fB n wr x0 (fun _=>false)=x0:=by
     intro n;induction n with
     |zero=>rfl
     |succ n ih=>rw [gP];simp [ih]
    exact this _
   cases st
   unfold dy
   simp [hz]
  rw [this]
  have hg:=hs.1.grow (Ext.drew (fun _=>False) w)
  exact ⟨L,hg.1,hs.2.1,hd,fun n=>(hs.2.2 n).mono hg.2 (KC.refl _ _)⟩
end
end Go.Ab
namespace Go.Ab
open Go.Proofs
def wh (a : List ai) (ra : Int) (b : List ai) (rb : Int) : Bool:=av a && av b && bz ra 0 1048576 && bz rb 0 1048576
def mg (a : List ai) (ra : Int) (b : List ai) (rb : Int) : Vc:=(iW (aK a) (aK b) (ra+rb) 64).2.n
def nB (a : List ai) (ra : Int) (b : List ai) (rb : Int) (hints : List Vc) : List Vc:=
 if wh a ra b rb then hints.filter aJ++((if o3 a b then [nA a b] else [])++(ny++(if aJ (mg a ra b rb) then [mg a ra b rb] else []))) else []
structure CandT (l : Nat) (a : List ai) (ra : Int) (b : List ai) (rb : Int) (hints : List Vc) (t : Nat→AV) : Prop where
 g0 : t 0=.pv (.val (.func (.yield l) #[] #[]))
 g1 : t 1=.pv (.rptr (aF a) 0)
 g2 : t 2=.pv (.rptr (aF b) 0)
 g3 : t 3=.pv (.rptr (Z ra) 0)
 g4 : t 4=.pv (.rptr (Z rb) 0)
 g5 : t 5=.pv (.rptr (aX hints) 0)
end Go.Ab
namespace Go.Ab
open Go.Proofs
def nC (a : List ai) (ra : Int) (b : List ai) (rb : Int) (hints : List Vc) : Vc × Bool:=match (nB a ra b rb hints).find? (fun n=>f9 n a ra b rb) with
 |some n=>(n,true)
 |none=>((0,0,0),false)
theorem vm {α : Type} {p : α→Bool} : ∀ {l : List α} {i : Nat} {v : α},l[i]?=some v→p v=true→(∀ j x,j < i→l[j]?=some x→p x=false)→l.find? p=some v
 |[],i,v,h,_,_=>by simp at h
 |y :: l,0,v,h,hp,_=>by simp at h;subst h;simp [hp]
 |y :: l,i+1,v,h,hp,hq=>by
  have h0:=hq 0 y (by omega) rfl
  rw [List.find?_cons,h0]
  exact vm (by simpa using h) hp fun j x hj hx=>hq (j+1) x (by omega) (by simpa using hx)
abbrev GT : List Nat:=[5,6,7,8,10,11]
structure FindI (a : List ai) (ra : Int) (b : List ai) (rb : Int) (n : Vc) (k : Bool) (h : Hp) : Prop where
 h5 : h 5=some (.box [.pv (aF a)] false false)
 h6 : h 6=some (.box [.pv (Z ra)] false false)
 h7 : h 7=some (.box [.pv (aF b)] false false)
 h8 : h 8=some (.box [.pv (Z rb)] false false)
 h10 : h 10=some (.box [.pv (Z n.1),.pv (Z n.2.1),.pv (Z n.2.2)] false false)
 h11 : h 11=some (.box [.pv (B k)] false false)
theorem FindI.all {a : List ai} {ra : Int} {b : List ai} {rb : Int} {n : Vc} {k : Bool} {h : Hp} (H : FindI a ra b rb n k h) {j : Nat} (hj : j ∈ GT) : ∃ cs,h j=some (.box cs false false):=by
 simp only [List.mem_cons,List.not_mem_nil,or_false] at hj
 rcases hj with rfl|rfl|rfl|rfl|rfl|rfl
 ·exact ⟨_,H.h5⟩
 ·exact ⟨_,H.h6⟩
 ·exact ⟨_,H.h7⟩
 ·exact ⟨_,H.h8⟩
 ·exact ⟨_,H.h10⟩
 ·exact ⟨_,H.h11⟩
end Go.Ab
namespace Go.Ab
open Go.Proofs
abbrev wi (SH : List Sh) (PR : List (Nat × Nat)) (PT : List (List ai)) : PV:=.agg [.sl (SH.map dg),.sl (PR.map mi),.sl (PT.map aF)]
abbrev GU (a b : List ai) (ra rb : Int) : PV:=.agg [aF a,aF b,Z ra,Z rb]
def bL (PT : List (List ai)) (i : Nat) : List ai:=(PT[i]?).getD []
def bM (SH : List Sh) (i : Nat) : Int:=((SH[i]?).map Sh.rad).getD 0
structure BdOk (SH : List Sh) (PR : List (Nat × Nat)) (PT : List (List ai)) : Prop where
 len : PT.length=SH.length
 prs : ∀ p ∈ PR,p.1 < SH.length∧p.2 < SH.length
 Ag : SH.length≤24
 few : PR.length≤576
 pts : ∀ l ∈ PT,l.length≤8
theorem Iw (SH : List Sh) (PR : List (Nat × Nat)) (PT : List (List ai)) (hb : BdOk SH PR PT) (k : Nat) (p : Nat × Nat) (hp : PR[k]?=some p) : ab Tryz.prog 120 [.pv (wi SH PR PT),.pv (Z k)] [] [] (.pv (GU (bL PT p.1) (bL PT p.2) (bM SH p.1) (bM SH p.2))):=by
 obtain ⟨hlt,hpe⟩:=List.getElem?_eq_some_iff.1 hp
 obtain ⟨i,j⟩:=p
 have hpr:=hb.prs _ (List.mem_of_getElem? hp)
 simp only at hpr
 have hl:=hb.len
 have hxk : ∀ h,PR[k]'h=(i,j):=fun _=>hpe
 have i1 : i < PT.length:=by omega
 have j1 : j < PT.length:=by omega
 obtain ⟨a,ha⟩ : ∃ x,PT[i]?=some x:=⟨_,List.getElem?_eq_getElem i1⟩
 obtain ⟨b,hb'⟩ : ∃ x,PT[j]?=some x:=⟨_,List.getElem?_eq_getElem j1⟩
 obtain ⟨u,hu⟩ : ∃ x,SH[i]?=some x:=⟨_,List.getElem?_eq_getElem hpr.1⟩
 obtain ⟨v,hv⟩ : ∃ x,SH[j]?=some x:=⟨_,List.getElem?_eq_getElem hpr.2⟩
 have hxa : ∀ h,PT[i]'h=a:=fun h=>by rw [List.getElem?_eq_getElem h] at ha;exact Option.some.inj ha
 have hxb : ∀ h,PT[j]'h=b:=fun h=>by rw [List.getElem?_eq_getElem h] at hb';exact Option.some.inj hb'
 have hxu : ∀ h,SH[i]'h=u:=fun h=>by rw [List.getElem?_eq_getElem h] at hu;exact Option.some.inj hu
 have hxv : ∀ h,SH[j]'h=v:=fun h=>by rw [List.getElem?_eq_getElem h] at hv;exact Option.some.inj hv
 have e1 : bL PT i=a:=by simp [bL,ha]
 have e2 : bL PT j=b:=by simp [bL,hb']
 have e3 : bM SH i=u.rad:=by simp [bM,hu]
 have e4 : bM SH j=v.rad:=by simp [bM,hv]
 rw [e1,e2,e3,e4]
 obtain ⟨h1,h2⟩:=hpr
 refine Dp Tryz.func120 ?_
 intro C hP hN
 simp only [Tryz.f120] at hN ⊢
 with_reducible repeat' (first|refine Sp.h ?_|((first|refine Wd ?_|refine Ss.h ?_|(refine Sb.h ?_ ?_ ?_<;>(try intro hgd)<;>try exact Xy))<;>simp -implicitDefEqProofs (maxSteps:=2000000) [hP,hN,hlt,hp,hxk,i1,j1,h1,h2,ha,hb',hu,hv,hxa,hxb,hxu,hxv]<;>try refine Ya ?_)|refine X2 ?_ ?_|(refine Xd ?_ ?_<;>intro hcd<;>try exact Xx))
def cS (s : Sce) (bx : List Iv) : Bool:=decide (bm s=0) && gm s.js bx
theorem Ao {s : Sce} {p : Nat × Nat} (h : p ∈ bv s) : p.1 < p.2∧p.2 < s.shs.length∧eK s p.1 p.2=true:=by
 have hI : ∀ i k,k≤s.shs.length→p ∈ iu s i k→p.1 < p.2∧p.2 < s.shs.length∧eK s p.1 p.2=true:=by
  intro i k
  induction k with
  |zero=>intro _ h;cases h
  |succ k ih=>
   intro hk h
   rw [iu,List.mem_append] at h
   rcases h with h|h
   ·exact ih (by omega) h
   ·split at h
    ·rename_i hc
     rw [List.mem_singleton] at h;subst h
     exact ⟨hc.1,by omega,hc.2⟩
    ·cases h
 have hN : ∀ i,p ∈ gl s i→p.1 < p.2∧p.2 < s.shs.length∧eK s p.1 p.2=true:=by
  intro i
  induction i with
  |zero=>intro h;cases h
  |succ i ih=>
   intro h
   rw [gl,List.mem_append] at h
   rcases h with h|h
   ·exact ih h
   ·exact hI i _ (Nat.le_refl _) h
 unfold bv at h
 split at h
 ·exact hN _ h
 ·cases h
theorem uA {s : Sce} {bx : List Iv} (h : cS s bx=true) : BdOk s.shs (bv s) (bj s bx):=by
 simp only [cS,Bool.and_eq_true,decide_eq_true_eq] at h
 obtain ⟨v1,v2,v3,v4,v5,v6,v7⟩:=jJ h.1
 have hl:=ro s s.shs.length
 have hm : s.shs.length * s.shs.length≤24 * 24:=Nat.mul_le_mul v4 v4
 refine ⟨by simp [bj],fun p hp=>?_,v4,?_,fun l hl=>?_⟩
 ·have:=Ao hp;omega
 ·unfold bv;rw [if_pos h.1];omega
 ·obtain ⟨x,hx,rfl⟩:=List.mem_map.1 hl
  have:=(v6 x hx).2
  simp only [eJ,Bool.and_eq_true,decide_eq_true_eq] at this
  simp only [bS,List.length_map];omega
def DY (bx : List Iv) (i : Nat) : Prop:=∀ k x,k < i→bx[k]?=some x→vI x=true
theorem Ix (s : Sce) (bx : List Iv) (hs : ScL s) (hbl : bx.length≤9223372036854775807) : ab Tryz.prog 119 [.pv (f0 s),.pv (iv bx)] [] [] (.pv (.tup (if cS s bx then [wi s.shs (bv s) (bj s bx),B true] else [wi [] [] [],B false]))):=by
 have hd : cS s bx=(decide (bm s=0) && (decide (bx.length=s.js.length) && bx.all vI)):=rfl
 have cc:=CW s hs
 have hjl:=hs.js
 by_cases h0 : bm s=0
 case neg=>
  have h0' : (bm s !=0)=true:=by simp [h0]
  rw [decide_eq_false h0,Bool.false_and] at hd
  rw [hd]
  refine Dp Tryz.func119 ?_
  intro C hP hN
  simp only [Tryz.f119] at hN ⊢
  with_reducible repeat' (first|refine Sp.h ?_|((first|refine Wd ?_|refine Ss.h ?_|refine Sc.h (cc) ?_|(refine Sb.h ?_ ?_ ?_<;>(try intro hgd)<;>try exact Xy))<;>simp -implicitDefEqProofs (maxSteps:=2000000) [hP,hN,h0,h0']<;>try refine Ya ?_)|refine X2 ?_ ?_|(refine Xd ?_ ?_<;>intro hcd<;>try exact Xx))
 have h0' : (bm s !=0)=false:=by simp [h0]
 by_cases h1 : bx.length=s.js.length
 case neg=>
  have h1' : ((bx.length : Int) !=(s.js.length : Int))=true:=by simp;omega
  have h1'' : ¬ (bx.length : Int)=(s.js.length : Int):=by omega
  rw [decide_eq_false h1,Bool.false_and,Bool.and_false] at hd
  rw [hd]
  refine Dp Tryz.func119 ?_
  intro C hP hN
  simp only [Tryz.f119] at hN ⊢
  with_reducible repeat' (first|refine Sp.h ?_|((first|refine Wd ?_|refine Ss.h ?_|refine Sc.h (cc) ?_|(refine Sb.h ?_ ?_ ?_<;>(try intro hgd)<;>try exact Xy))<;>simp -implicitDefEqProofs (maxSteps:=2000000) [hP,hN,h0,h0',h1',h1'']<;>try refine Ya ?_)|refine X2 ?_ ?_|(refine Xd ?_ ?_<;>intro hcd<;>try exact Xx))
 have h1' : ((bx.length : Int) !=(s.js.length : Int))=false:=by simp [h1]
 have hI : gm s.js bx=bx.all vI:=by
  show (decide (bx.length=s.js.length) && bx.all vI)=_
  rw [decide_eq_true h1,Bool.true_and]
 rw [decide_eq_true h0,decide_eq_true h1,Bool.true_and,Bool.true_and] at hd
 rw [hd]
 have cP:=Jl s bx hs h0
 rw [hI] at cP
 have cR:=Jg s hs
 generalize bj s bx=PT at *
 generalize bv s=PR at *
 refine Dp Tryz.func119 ?_
 intro C hP hN
 simp only [Tryz.f119] at hN ⊢
 with_reducible repeat' (first|refine Sp.h ?_|((first|refine Wd ?_|refine Ss.h ?_|refine Sc.h (cc) ?_|(refine Sb.h ?_ ?_ ?_<;>(try intro hgd)<;>try exact Xy))<;>simp -implicitDefEqProofs (maxSteps:=2000000) [hP,hN,h0,h0',h1',h1]<;>try refine Ya ?_)|refine X2 ?_ ?_|(refine Xd ?_ ?_<;>intro hcd<;>try exact Xx))
 refine WP.loopN [7] bx.length (fun i st=>st.t 1=.pv (iv bx)∧st.t 2=.ptr 2 0∧st.h 2=some (.box [.pv (.sl (s.js.map cJ)),.pv (.sl (s.ms.map cT)),.pv (.sl (s.shs.map dg)),.pv (.sl (s.sks.map aO))] true false)∧st.t 4=.ptr 4 0∧st.h 4=some (.box [.pv (.val (.slice none 0 0)),.pv (.val (.slice none 0 0)),.pv (.val (.slice none 0 0))] true false)∧st.t 21=.pv (iv bx)∧st.t 22=.pv (Z bx.length)∧st.t 23=.pv (Z i)∧st.h 7=none∧DY bx i) ?_ ?_
 ·simp [h1]
  exact fun k x hk=>by omega
 rintro i st hi ⟨g1,g2,hb2,g4,hb4,g21,g22,g23,hb7,hq⟩
 by_cases hlt : i < bx.length
 ·have hwr:=aw hlt hbl
  generalize hxe : bx[i]=v at *
  have hx : bx[i]?=some v:=by rw [List.getElem?_eq_getElem hlt,hxe]
  have cv:=gt v.1 v.2
  have gn : vI v=am v.1 v.2:=rfl
  have hst:=kH (p:=vI) hx hq
  cases hvb : am v.1 v.2 with
  |true=>
   rw [hvb] at cv
   have hst' : DY bx (i+1):=hst hvb
   with_reducible repeat' (first|refine Sp.h ?_|((first|refine Wd ?_|refine Ss.h ?_|refine Sc.h (cv) ?_|(refine Sb.h ?_ ?_ ?_<;>(try intro hgd)<;>try exact Xy))<;>simp -implicitDefEqProofs (maxSteps:=2000000) [hP,hN,g1,g2,hb2,g4,hb4,g21,g22,g23,hb7,hlt,hx,hxe,hwr]<;>try refine Ya ?_)|refine X2 ?_ ?_|(refine Xd ?_ ?_<;>intro hcd<;>try exact Xx))
   all_goals exact hst'
  |false=>
   rw [hvb] at cv
   have hall : bx.all vI=false:=by
    cases h : bx.all vI with
    |false=>rfl
    |true=>rw [List.all_eq_true] at h;have:=h v (List.mem_of_getElem? hx);rw [gn,hvb] at this;cases this
   rw [hall]
   with_reducible repeat' (first|refine Sp.h ?_|((first|refine Wd ?_|refine Ss.h ?_|refine Sc.h (cv) ?_|(refine Sb.h ?_ ?_ ?_<;>(try intro hgd)<;>try exact Xy))<;>simp -implicitDefEqProofs (maxSteps:=2000000) [hP,hN,g1,g2,hb2,g4,hb4,g21,g22,g23,hb7,hlt,hx,hxe,hwr]<;>try refine Ya ?_)|refine X2 ?_ ?_|(refine Xd ?_ ?_<;>intro hcd<;>try exact Xx))
 ·have hin : i=bx.length:=by omega
  subst hin
  have hall : bx.all vI=true:=mT hq hlt
  have cP:=cP hall
  rw [hall]
  with_reducible repeat' (first|refine Sp.h ?_|((first|refine Wd ?_|refine Ss.h ?_|refine Sc.h (cP) ?_|refine Sc.h (cR) ?_|(refine Sb.h ?_ ?_ ?_<;>(try intro hgd)<;>try exact Xy))<;>simp -implicitDefEqProofs (maxSteps:=2000000) [hP,hN,g1,g2,hb2,g4,hb4,g21,g22,g23,hb7]<;>try refine Ya ?_)|refine X2 ?_ ?_|(refine Xd ?_ ?_<;>intro hcd<;>try exact Xx))
end Go.Ab
namespace Go.Ab
open Go.Proofs
def mP (SH : List Sh) (PT : List (List ai)) (n : Vc) (p : Nat × Nat) : Bool:=f9 n (bL PT p.1) (bM SH p.1) (bL PT p.2) (bM SH p.2)
def rk (SH : List Sh) (PR : List (Nat × Nat)) (PT : List (List ai)) (ns : List Vc) (i : Nat) : Prop:=∀ k n p,k < i→ns[k]?=some n→PR[k]?=some p→mP SH PT n p=true
def ep (SH : List Sh) (PR : List (Nat × Nat)) (PT : List (List ai)) (ns : List Vc) : Bool:=decide (ns.length=PR.length) && (ns.zip PR).all fun x=>mP SH PT x.1 x.2
theorem nD {SH : List Sh} {PR : List (Nat × Nat)} {PT : List (List ai)} {ns : List Vc} (hl : ns.length=PR.length) (h : rk SH PR PT ns ns.length) : ep SH PR PT ns=true:=by
 simp only [ep,Bool.and_eq_true,decide_eq_true_eq,List.all_eq_true]
 refine ⟨hl,fun x hx=>?_⟩
 obtain ⟨k,hk,rfl⟩:=List.mem_iff_getElem.1 hx
 rw [List.length_zip] at hk
 rw [List.getElem_zip]
 exact h k _ _ (by omega) (List.getElem?_eq_getElem (by omega)) (List.getElem?_eq_getElem (by omega))
theorem ql {SH : List Sh} {PR : List (Nat × Nat)} {PT : List (List ai)} {ns : List Vc} {k : Nat} {n : Vc} {p : Nat × Nat} (hn : ns[k]?=some n) (hp : PR[k]?=some p) (h : mP SH PT n p=false) : ep SH PR PT ns=false:=by
 cases ha : ep SH PR PT ns with
 |false=>rfl
 |true=>
  simp only [ep,Bool.and_eq_true,List.all_eq_true] at ha
  have : (n,p) ∈ ns.zip PR:=by
   refine List.mem_of_getElem? (i:=k) ?_
   rw [List.getElem?_zip_eq_some];exact ⟨hn,hp⟩
  have:=ha.2 _ this
  rw [h] at this;cases this
theorem mu {SH : List Sh} {PR : List (Nat × Nat)} {PT : List (List ai)} (hb : BdOk SH PR PT) (i : Nat) : (bL PT i).length≤9223372036854775807:=by
 unfold bL
 cases h : PT[i]? with
 |none=>simp
 |some l=>have:=hb.pts l (List.mem_of_getElem? h);simp;omega
theorem Iy (SH : List Sh) (PR : List (Nat × Nat)) (PT : List (List ai)) (hb : BdOk SH PR PT) (ns : List Vc) (hl : ns.length≤9223372036854775807) : ab Tryz.prog 128 [.pv (.agg [aX ns]),.pv (wi SH PR PT)] [] [] (.pv (B (ep SH PR PT ns))):=by
 have hpl:=hb.few
 by_cases hle : ns.length=PR.length
 case neg=>
  have h1 : ((ns.length : Int) !=(PR.length : Int))=true:=by simp;omega
  have h2 : ¬ (ns.length : Int)=(PR.length : Int):=by omega
  have hf : ep SH PR PT ns=false:=by simp [ep,hle]
  rw [hf]
  refine Dp Tryz.func128 ?_
  intro C hP hN
  simp only [Tryz.f128] at hN ⊢
  with_reducible repeat' (first|refine Sp.h ?_|((first|refine Ss.h ?_|(refine Sb.h ?_ ?_ ?_<;>(try intro hgd)<;>try exact Xy))<;>simp -implicitDefEqProofs (maxSteps:=2000000) [hP,hN,h1,h2])|refine X2 ?_ ?_|(refine Xd ?_ ?_<;>intro hcd<;>try exact Xx))
 have h1 : ((ns.length : Int) !=(PR.length : Int))=false:=by simp [hle]
 refine Dp Tryz.func128 ?_
 intro C hP hN
 simp only [Tryz.f128] at hN ⊢
 with_reducible repeat' (first|refine Sp.h ?_|((first|refine Ss.h ?_|(refine Sb.h ?_ ?_ ?_<;>(try intro hgd)<;>try exact Xy))<;>simp -implicitDefEqProofs (maxSteps:=2000000) [hP,hN,h1,hle])|refine X2 ?_ ?_|(refine Xd ?_ ?_<;>intro hcd<;>try exact Xx))
 refine WP.loopN [6,7] ns.length (fun i st=>st.t 3=.ptr 3 0∧st.h 3=some (.box [.pv (.sl (SH.map dg)),.pv (.sl (PR.map mi)),.pv (.sl (PT.map aF))] true false)∧st.t 16=.pv (aX ns)∧st.t 17=.pv (Z ns.length)∧st.t 18=.pv (Z i)∧st.h 6=none∧st.h 7=none∧rk SH PR PT ns i) ?_ ?_
 ·simp [hle]
  exact fun k n p hk=>by omega
 rintro i st hi ⟨g3,hb3,g16,g17,g18,hb6,hb7,hq⟩
 by_cases hlt : i < ns.length
 ·have hwr:=aw hlt hl
  generalize hxe : ns[i]=v at *
  have hx : ns[i]?=some v:=by rw [List.getElem?_eq_getElem hlt,hxe]
  have hltp : i < PR.length:=by omega
  obtain ⟨p,hp⟩ : ∃ p,PR[i]?=some p:=⟨_,List.getElem?_eq_getElem hltp⟩
  have cc:=Iw SH PR PT hb i p hp
  have cs:=JE v (bL PT p.1) (bM SH p.1) (bL PT p.2) (bM SH p.2) (mu hb _) (mu hb _)
  have hsk : mP SH PT v p=f9 v (bL PT p.1) (bM SH p.1) (bL PT p.2) (bM SH p.2):=rfl
  rw [← hsk] at cs
  cases hsp : mP SH PT v p with
  |true=>
   rw [hsp] at cs
   have hst : rk SH PR PT ns (i+1):=fun k n q hk hn hq'=>by
    by_cases e : k=i
    ·subst e;rw [hx] at hn;rw [hp] at hq';injection hn with hn;injection hq' with hq';subst hn;subst hq';exact hsp
    ·exact hq k n q (by omega) hn hq'
   with_reducible repeat' (first|refine Sp.h ?_|((first|refine Ss.h ?_|refine Sc.h (cc) ?_|refine Sc.h (cs) ?_|(refine Sb.h ?_ ?_ ?_<;>(try intro hgd)<;>try exact Xy))<;>simp -implicitDefEqProofs (maxSteps:=2000000) [hP,hN,g3,hb3,g16,g17,g18,hb6,hb7,hlt,hx,hxe,hwr])|refine X2 ?_ ?_|(refine Xd ?_ ?_<;>intro hcd<;>try exact Xx))
   all_goals exact hst
  |false=>
   rw [hsp] at cs
   rw [ql hx hp hsp]
   with_reducible repeat' (first|refine Sp.h ?_|((first|refine Ss.h ?_|refine Sc.h (cc) ?_|refine Sc.h (cs) ?_|(refine Sb.h ?_ ?_ ?_<;>(try intro hgd)<;>try exact Xy))<;>simp -implicitDefEqProofs (maxSteps:=2000000) [hP,hN,g3,hb3,g16,g17,g18,hb6,hb7,hlt,hx,hxe,hwr])|refine X2 ?_ ?_|(refine Xd ?_ ?_<;>intro hcd<;>try exact Xx))
 ·have hin : i=ns.length:=by omega
  subst hin
  rw [nD hle hq]
  with_reducible repeat' (first|refine Sp.h ?_|((first|refine Ss.h ?_|(refine Sb.h ?_ ?_ ?_<;>(try intro hgd)<;>try exact Xy))<;>simp -implicitDefEqProofs (maxSteps:=2000000) [hP,hN,g3,hb3,g16,g17,g18,hb6,hb7])|refine X2 ?_ ?_|(refine Xd ?_ ?_<;>intro hcd<;>try exact Xx))
def jB (SH : List Sh) (PT : List (List ai)) (x y : List Int) (p : Nat × Nat) : Bool:=jY x y (bL PT p.1) (bM SH p.1) (bL PT p.2) (bM SH p.2) && decide (0≤jp x y (bL PT p.1) (bM SH p.1) (bL PT p.2) (bM SH p.2))
structure Wit where
 pair : Int
 a : List Int
 b : List Int
abbrev DZ (w : Wit) : PV:=.agg [Z w.pair,zs w.a,zs w.b]
def qm (SH : List Sh) (PR : List (Nat × Nat)) (PT : List (List ai)) (w : Wit) : Bool:=decide (0≤w.pair) && match PR[w.pair.toNat]? with
 |some p=>jB SH PT w.a w.b p
 |none=>false
end Go.Ab
namespace Go.Ab
open Go.Proofs
set_option maxRecDepth 100000 in
@[simp] theorem Iz : cO Tryz.prog 118:=by
 refine ⟨by kernel_rfl,fun args w=>?_⟩
 refine callsD_of_wpS Tryz.func118 rfl fun c₀ cs hu=>?_
 apply wpS_seq
 apply wpS_region
 have hk : ∀ k,k < Tryz.f118.ntmps→k < args.size+(Tryz.f118.ntmps - args.size):=by intro k h;omega
 rw [Tryz.ntmps118] at hk
 have h0:=hk 0 (by decide)
 have h1:=hk 1 (by decide)
 have h2:=hk 2 (by decide)
 simp [wpOpsS,go_sem,recoverD,hu,Tryz.ntmps118,Exit.thenS,h0,h1,h2]
 refine wpS_cond (t:=false) (by simp [Act.eval,h0,h1,h2]) ?_
 simp only [Bool.false_eq_true,if_false]
 refine wpS_of_wp (wp_skip ?_)
 cases c₀
 simp_all [bodyPostS,results,Tryz.results118]
set_option maxRecDepth 100000 in
@[simp] theorem IA : cO Tryz.prog 131:=by
 refine ⟨by kernel_rfl,fun args w=>?_⟩
 refine callsD_of_wpS Tryz.func131 rfl fun c₀ cs hu=>?_
 apply wpS_seq
 apply wpS_region
 have hk : ∀ k,k < Tryz.f131.ntmps→k < args.size+(Tryz.f131.ntmps - args.size):=by intro k h;omega
 rw [Tryz.ntmps131] at hk
 have h0:=hk 0 (by decide)
 have h1:=hk 1 (by decide)
 have h2:=hk 2 (by decide)
 simp [wpOpsS,go_sem,recoverD,hu,Tryz.ntmps131,Exit.thenS,h0,h1,h2]
 refine wpS_cond (t:=false) (by simp [Act.eval,h0,h1,h2]) ?_
 simp only [Bool.false_eq_true,if_false]
 refine wpS_of_wp (wp_skip ?_)
 cases c₀
 simp_all [bodyPostS,results,Tryz.results131]
set_option maxRecDepth 100000 in
@[simp] theorem IB : cO Tryz.prog 252:=by
 refine ⟨by kernel_rfl,fun args w=>?_⟩
 refine callsD_of_wpS Tryz.func252 rfl fun c₀ cs hu=>?_
 apply wpS_seq
 apply wpS_region
 have hk : ∀ k,k < Tryz.f252.ntmps→k < args.size+(Tryz.f252.ntmps - args.size):=by intro k h;omega
 rw [Tryz.ntmps252] at hk
 have h0:=hk 0 (by decide)
 have h1:=hk 1 (by decide)
 have h2:=hk 2 (by decide)
 simp [wpOpsS,go_sem,recoverD,hu,Tryz.ntmps252,Exit.thenS,h0,h1,h2]
 refine wpS_cond (t:=false) (by simp [Act.eval,h0,h1,h2]) ?_
 simp only [Bool.false_eq_true,if_false]
 refine wpS_of_wp (wp_skip ?_)
 cases c₀
 simp_all [bodyPostS,results,Tryz.results252]
set_option maxRecDepth 100000 in
@[simp] theorem IC : cO Tryz.prog 133:=by
 refine ⟨by kernel_rfl,fun args w=>?_⟩
 refine callsD_of_wpS Tryz.func133 rfl fun c₀ cs hu=>?_
 apply wpS_seq
 apply wpS_region
 have hk : ∀ k,k < Tryz.f133.ntmps→k < args.size+(Tryz.f133.ntmps - args.size):=by intro k h;omega
 rw [Tryz.ntmps133] at hk
 have h0:=hk 0 (by decide)
 have h1:=hk 1 (by decide)
 have h2:=hk 2 (by decide)
 simp [wpOpsS,go_sem,recoverD,hu,Tryz.ntmps133,Exit.thenS,h0,h1,h2]
 refine wpS_cond (t:=false) (by simp [Act.eval,h0,h1,h2]) ?_
 simp only [Bool.false_eq_true,if_false]
 refine wpS_of_wp (wp_skip ?_)
 cases c₀
 simp_all [bodyPostS,results,Tryz.results133]
set_option maxRecDepth 100000 in
@[simp] theorem ID : cO Tryz.prog 127:=by
 refine ⟨by kernel_rfl,fun args w=>?_⟩
 refine callsD_of_wpS Tryz.func127 rfl fun c₀ cs hu=>?_
 apply wpS_seq
 apply wpS_region
 have hk : ∀ k,k < Tryz.f127.ntmps→k < args.size+(Tryz.f127.ntmps - args.size):=by intro k h;omega
 rw [Tryz.ntmps127] at hk
 have h0:=hk 0 (by decide)
 have h1:=hk 1 (by decide)
 have h2:=hk 2 (by decide)
 have h3:=hk 3 (by decide)
 simp [wpOpsS,go_sem,recoverD,hu,Tryz.ntmps127,Exit.thenS,h0,h1,h2,h3]
 refine wpS_cond (t:=false) (by simp [Act.eval,h0,h1,h2,h3]) ?_
 simp only [Bool.false_eq_true,if_false]
 refine wpS_of_wp (wp_skip ?_)
 cases c₀
 simp_all [bodyPostS,results,Tryz.results127]
@[simp] theorem LQ : oc Tryz.prog 205=true:=by kernel_rfl
@[simp] theorem LR : oc Tryz.prog 203=true:=by kernel_rfl
@[simp] theorem LS : oO Tryz.prog 205 "armplan/classify.holds"=some 128:=by kernel_rfl
@[simp] theorem LT : oO Tryz.prog 203 "armplan/classify.holds"=some 491:=by kernel_rfl
structure Vd where
 kind : Int
 ns : List Vc
 w : Wit
abbrev D0 (v : Vd) : PV:=.agg [Z v.kind,aX v.ns,Z v.w.pair,zs v.w.a,zs v.w.b]
abbrev GV (ns : List Vc) : PV:=.ifc 205 (.agg [aX ns])
def fu (s : Sce) (bx : List Iv) (ns : List Vc) : Bool:=cS s bx && ep s.shs (bv s) (bj s bx) ns
def gv (s : Sce) (bx : List Iv) (w : Wit) : Bool:=cS s bx && qm s.shs (bv s) (bj s bx) w
theorem hS (s : Sce) (bx : List Iv) (ns : List Vc) (hs : ScL s) (hbl : bx.length≤9223372036854775807) (hn : ns.length≤9223372036854775807) : ab Tryz.prog 132 [.pv (f0 s),.pv (iv bx),.pv (GV ns)] [] [] (.pv (B (fu s bx ns))):=by
 have cp:=Ix s bx hs hbl
 have hd : fu s bx ns=(cS s bx && ep s.shs (bv s) (bj s bx) ns):=rfl
 rw [hd]
 cases hp : cS s bx with
 |false=>
  rw [hp] at cp
  refine Dp Tryz.func132 ?_
  intro C hP hN
  simp only [Tryz.f132] at hN ⊢
  with_reducible repeat' (first|refine Sp.h ?_|((first|refine Ss.h ?_|refine Sc.h (cp) ?_|(refine Sb.h ?_ ?_ ?_<;>(try intro hgd)<;>try exact Xy))<;>simp -implicitDefEqProofs (maxSteps:=2000000) [hP,hN])|refine X2 ?_ ?_|(refine Xd ?_ ?_<;>intro hcd<;>try exact Xx))
 |true=>
  rw [hp] at cp
  have cs:=Iy s.shs (bv s) (bj s bx) (uA hp) ns hn
  generalize ep s.shs (bv s) (bj s bx) ns=b at *
  refine Dp Tryz.func132 ?_
  intro C hP hN
  simp only [Tryz.f132] at hN ⊢
  with_reducible repeat' (first|refine Sp.h ?_|((first|refine Ss.h ?_|refine Sc.h (cp) ?_|refine Sc.h (cs) ?_|(refine Sb.h ?_ ?_ ?_<;>(try intro hgd)<;>try exact Xy))<;>simp -implicitDefEqProofs (maxSteps:=2000000) [hP,hN])|refine X2 ?_ ?_|(refine Xd ?_ ?_<;>intro hcd<;>try exact Xx))
def fV (s : Sce) (bx : List Iv) (v : Vd) : Bool:=
 if v.kind=1∧v.w.pair=0∧v.w.a.length=0∧v.w.b.length=0 then fu s bx v.ns
 else if v.kind=2∧v.ns.length=0 then gv s bx v.w else false
end Go.Ab
namespace Go.Ab
open Go.Proofs
def lp (hints : List Vc) (k : Nat) : List Vc:=(hints.drop k).take 1
def rW (SH : List Sh) (PT : List (List ai)) (hints : List Vc) (k : Nat) (p : Nat × Nat) : Vc × Bool:=nC (bL PT p.1) (bM SH p.1) (bL PT p.2) (bM SH p.2) (lp hints k)
def nO (SH : List Sh) (PT : List (List ai)) (p : Nat × Nat) : Int × NSt:=iW (aK (bL PT p.1)) (aK (bL PT p.2)) (bM SH p.1+bM SH p.2) 64
def dP (SH : List Sh) (PR : List (Nat × Nat)) (PT : List (List ai)) (hints : List Vc) : List Vc:=PR.mapIdx fun k p=>(rW SH PT hints k p).1
def io (SH : List Sh) (PR : List (Nat × Nat)) (PT : List (List ai)) (hints : List Vc) : Nat→Nat→Bool→Vd
 |0,_,ap=>if ap then ⟨1,dP SH PR PT hints,⟨0,[],[]⟩⟩ else ⟨0,dP SH PR PT hints,⟨0,[],[]⟩⟩
 |f+1,k,ap=>match PR[k]? with
  |some p=>if (rW SH PT hints k p).2=true then io SH PR PT hints f (k+1) ap
   else if jB SH PT (nO SH PT p).2.w (nO SH PT p).2.v p=true then ⟨2,[],⟨k,(nO SH PT p).2.w,(nO SH PT p).2.v⟩⟩
   else io SH PR PT hints f (k+1) false
  |none=>if ap then ⟨1,dP SH PR PT hints,⟨0,[],[]⟩⟩ else ⟨0,dP SH PR PT hints,⟨0,[],[]⟩⟩
def ip (s : Sce) (bx : List Iv) (hints : List Vc) : Vd:=if cS s bx then io s.shs (bv s) (bj s bx) hints (bv s).length 0 true else ⟨0,[],⟨0,[],[]⟩⟩
theorem Ey {s : Sce} {bx : List Iv} (h : cS s bx=true) (i : Nat) : 0≤bM s.shs i∧bM s.shs i≤1048576:=by
 simp only [cS,Bool.and_eq_true,decide_eq_true_eq] at h
 obtain ⟨_,_,_,_,_,v6,_⟩:=jJ h.1
 unfold bM
 cases hx : s.shs[i]? with
 |none=>simp
 |some u=>
  have:=(v6 u (List.mem_of_getElem? hx)).2
  simp only [eJ,Bool.and_eq_true,decide_eq_true_eq] at this
  simp only [Option.map_some,Option.getD_some];omega
theorem qn {l : List ai} (h : l.length≤8) : (aK l).length≤8:=by unfold aK;split<;>simp<;>omega
theorem xi {SH : List Sh} {PR : List (Nat × Nat)} {PT : List (List ai)} (hb : BdOk SH PR PT) (i : Nat) : (bL PT i).length≤8:=by
 unfold bL
 cases h : PT[i]? with
 |none=>simp
 |some l=>exact hb.pts l (List.mem_of_getElem? h)
theorem vn (a b : List Vc) (rho st : Int) : (iW a b rho st).2.w.length≤8∧(iW a b rho st).2.v.length≤8:=by
 unfold iW
 split
 ·rename_i h
  simp only [o0,Bool.and_eq_true] at h
  have ia:=kz.1 h.1.1.1
  have ib:=kz.1 h.1.1.2
  have:=xh (rho:=rho) (steps:=st.toNat) h.1.1.1 h.1.1.2 (st.toNat+1) (tP a b) (Bv ia.1 ib.1)
  rw [this.wl,this.vl];exact ⟨ia.2.1,ib.2.1⟩
 ·simp
theorem zg (l : List Vc) : (l.map aC).all (pu 3)=true:=by
 rw [List.all_eq_true]
 intro x hx
 obtain ⟨v,_,rfl⟩:=List.mem_map.1 hx
 rfl
end Go.Ab
namespace Go.Ab
open Go.Proofs
theorem Ap (x : Int) : 0≤x * x:=by
 rcases Int.le_total 0 x with h|h
 ·exact Int.mul_nonneg h h
 ·have:=Int.mul_nonneg (show 0≤-x by omega) (show 0≤-x by omega)
  rw [Int.neg_mul_neg] at this;exact this
end Go.Ab
namespace Go.Ab
open Go.Proofs
theorem nT {x y : Iv} (h : SubI x y) (hy : bJ y=true) : bJ x=true:=by
 rw [dN] at hy ⊢
 have:=h.all
 omega
theorem yI {x y : ai} (h : SubV x y) (hy : bn y=true) : bn x=true:=by
 rw [fe] at hy ⊢
 exact ⟨nT h.a hy.1,nT h.b hy.2.1,nT h.c hy.2.2⟩
theorem f7.get {a b : List ai} (h : f7 a b) {k : Nat} {x : ai} (hx : a[k]?=some x) : ∃ y,b[k]?=some y∧SubV x y:=by
 have hk : k < a.length:=(List.getElem?_eq_some_iff.1 hx).1
 have hb : b[k]?=some (b[k]'(by rw [← h.1];exact hk)):=List.getElem?_eq_getElem _
 exact ⟨_,hb,h.2 k _ _ hx hb⟩
theorem nU {a b : List ai} (h : f7 a b) (hb : av b=true) : av a=true:=by
 simp only [av,Bool.and_eq_true,decide_eq_true_eq,List.all_eq_true] at hb ⊢
 refine ⟨by rw [h.1];exact hb.1,fun x hx=>?_⟩
 obtain ⟨k,hk⟩:=List.getElem?_of_mem hx
 obtain ⟨y,hy,hs⟩:=h.get hk
 exact yI hs (hb.2 y (List.mem_of_getElem? hy))
theorem uK {n : Int} {x y : Iv} (h : SubI x y) : j9 n y≤j9 n x∧kc n x≤kc n y:=by
 have ha:=h.all
 have h1:=xI (c:=n) (a:=y.1) (b:=y.2) (x:=x.1) (by omega) (by omega)
 have h2:=xI (c:=n) (a:=y.1) (b:=y.2) (x:=x.2) (by omega) (by omega)
 simp only [j9,kc]
 rw [Int.mul_comm y.1 n,Int.mul_comm y.2 n,Int.mul_comm x.1 n] at h1
 rw [Int.mul_comm y.1 n,Int.mul_comm y.2 n,Int.mul_comm x.2 n] at h2
 omega
theorem zy {n : Vc} {x y : ai} (h : SubV x y) : dF n y≤dF n x∧dG n x≤dG n y:=by
 have h1:=uK (n:=n.1) h.a
 have h2:=uK (n:=n.2.1) h.b
 have h3:=uK (n:=n.2.2) h.c
 simp only [dF,dG]
 omega
theorem vD {n : Vc} {a b : List ai} (h : f7 a b) : ∀ i,i≤a.length→(em (dF n) eL b i).1≤(em (dF n) eL a i).1
 |0,_=>Int.le_refl _
 |i+1,hi=>by
  have ih:=vD (n:=n) h i (by omega)
  have hx : a[i]?=some a[i]:=List.getElem?_eq_getElem (by omega)
  obtain ⟨y,hy,hs⟩:=h.get hx
  have hd:=(zy (n:=n) hs).1
  rw [iM hx,iM hy]
  simp only [eL,decide_eq_true_eq]
  split<;>split<;>(try simp only [])<;>omega
theorem vE {n : Vc} {a b : List ai} (h : f7 a b) : ∀ i,i≤a.length→(em (dG n) eM a i).1≤(em (dG n) eM b i).1
 |0,_=>Int.le_refl _
 |i+1,hi=>by
  have ih:=vE (n:=n) h i (by omega)
  have hx : a[i]?=some a[i]:=List.getElem?_eq_getElem (by omega)
  obtain ⟨y,hy,hs⟩:=h.get hx
  have hd:=(zy (n:=n) hs).2
  rw [iM hx,iM hy]
  simp only [eM,decide_eq_true_eq]
  split<;>split<;>(try simp only [])<;>omega
theorem AE {n : Vc} {a a' b b' : List ai} {ra rb : Int} (ha : f7 a a') (hb : f7 b b') : gc n a' ra b' rb≤gc n a ra b rb:=by
 have h1:=vD (n:=n) ha a.length (Nat.le_refl _)
 have h2:=vE (n:=n) hb b.length (Nat.le_refl _)
 simp only [gc,ey,eC,sE]
 rw [ha.1] at h1 ⊢
 rw [hb.1] at h2 ⊢
 omega
theorem yJ {n : Vc} {a a' b b' : List ai} {ra rb : Int} (ha : f7 a a') (hb : f7 b b') (h : fP n a' ra b' rb=true) : fP n a ra b rb=true:=by
 simp only [fP,kf,Bool.and_eq_true] at h ⊢
 exact ⟨⟨⟨⟨nU ha h.1.1.1.1,h.1.1.1.2⟩,h.1.1.2⟩,⟨nU hb h.1.2.1.1,h.1.2.1.2⟩,h.1.2.2⟩,h.2⟩
theorem Dg {n : Vc} {a a' b b' : List ai} {ra rb : Int} (ha : f7 a a') (hb : f7 b b') (h : f9 n a' ra b' rb=true) : f9 n a ra b rb=true:=by
 simp only [f9,Bool.and_eq_true,decide_eq_true_eq] at h ⊢
 have:=AE (n:=n) (ra:=ra) (rb:=rb) ha hb
 exact ⟨yJ ha hb h.1,by omega⟩
structure SumI (x y : Iv) : Prop where
 lo : y.1≤x.1
 md : x.1≤x.2
 hi : x.2≤y.2
theorem sL {w : Int} {s s' x x' : Iv} (hw : 0≤w) (hs : SumI s s') (hx : SubI x x') : SumI (eP w s x) (eP w s' x'):=by
 have h:=hx.all
 have h1:=Int.mul_le_mul_of_nonneg_left hx.lo hw
 have h2:=Int.mul_le_mul_of_nonneg_left hx.hi hw
 have h3:=Int.mul_le_mul_of_nonneg_left (show x.1≤x.2 by omega) hw
 have a:=hs.lo
 have b:=hs.md
 have c:=hs.hi
 constructor<;>simp only [eP]<;>omega
structure SumV (x y : ai) : Prop where
 a : SumI x.1 y.1
 b : SumI x.2.1 y.2.1
 c : SumI x.2.2 y.2.2
theorem sM {a b : List ai} {ws : List Int} (h : f7 a b) (hw : ∀ w ∈ ws,wB w=true) : ∀ i,i≤a.length→SumV (dv a ws i) (dv b ws i)
 |0,_=>⟨⟨Int.le_refl _,Int.le_refl _,Int.le_refl _⟩,⟨Int.le_refl _,Int.le_refl _,Int.le_refl _⟩,⟨Int.le_refl _,Int.le_refl _,Int.le_refl _⟩⟩
 |i+1,hi=>by
  have ih:=sM h hw i (by omega)
  have hx : a[i]?=some a[i]:=List.getElem?_eq_getElem (by omega)
  obtain ⟨y,hy,hs⟩:=h.get hx
  simp only [dv,hx,hy]
  cases hk : ws[i]? with
  |none=>exact ih
  |some w=>
   have hp : 0≤w:=by
    have:=hw w (List.mem_of_getElem? hk)
    simp only [wB,Bool.not_eq_true',Bool.or_eq_false_iff,decide_eq_false_iff_not] at this
    omega
   exact ⟨sL hp ih.a hs.a,sL hp ih.b hs.b,sL hp ih.c hs.c⟩
theorem vF {a b : List ai} {ws : List Int} (h : f7 a b) (hb : dX b ws=true) : dX a ws=true:=by
 simp only [dX,Bool.and_eq_true] at hb ⊢
 rw [h.1]
 exact ⟨⟨⟨nU h hb.1.1.1,hb.1.1.2⟩,hb.1.2⟩,hb.2⟩
theorem xQ {a : List ai} {ws : List Int} (h : dX a ws=true) : (∀ w ∈ ws,wB w=true)∧ws.length=a.length∧av a=true:=by
 simp only [dX,Bool.and_eq_true,List.all_eq_true,decide_eq_true_eq] at h
 exact ⟨h.1.2,h.1.1.2,h.1.1.1⟩
theorem sP {u u' v v' : Iv} {t : Int} (hu : SumI u u') (hv : SumI v v') (ht : 0 < t) : 0≤gH u v t∧gH u v t≤gH u' v' t:=by
 have a:=hu.lo
 have b:=hu.md
 have c:=hu.hi
 have a':=hv.lo
 have b':=hv.md
 have c':=hv.hi
 have h1 : lK (u.1 - v.2) (u.2 - v.1)≤lK (u'.1 - v'.2) (u'.2 - v'.1):=by unfold lK;omega
 have h2 : 0≤lK (u.1 - v.2) (u.2 - v.1):=by unfold lK;omega
 exact ⟨Int.ediv_nonneg (by omega) (by omega),Int.ediv_le_ediv ht (by omega)⟩
theorem EI (x y z r : Int) : uv [x,y,z] r=if x≤r∧y≤r∧z≤r then r * r - x * x - y * y - z * z else -1:=by
 unfold uv
 have : [x,y,z].all (fun x=>decide (x≤r))=decide (x≤r∧y≤r∧z≤r):=by simp [Bool.and_assoc]
 rw [this]
 simp [Ak]
theorem AF {x y : Int} (h0 : 0≤x) (h : x≤y) : x * x≤y * y:=Int.mul_le_mul h h h0 (by omega)
theorem AG {l r : List Int} {a a' b b' : List ai} {ra rb : Int} (ha : f7 a a') (hb : f7 b b') (h : jY l r a' ra b' rb=true) (h0 : 0≤jp l r a' ra b' rb) : jY l r a ra b rb=true∧0≤jp l r a ra b rb:=by
 have hE : jY l r a ra b rb=true:=by
  simp only [jY,Bool.and_eq_true] at h ⊢
  exact ⟨⟨⟨⟨vF ha h.1.1.1.1,vF hb h.1.1.1.2⟩,h.1.1.2⟩,h.1.2⟩,h.2⟩
 refine ⟨hE,?_⟩
 have hc:=h
 simp only [jY,Bool.and_eq_true] at hc
 have wl:=xQ hc.1.1.1.1
 have wr':=xQ hc.1.1.1.2
 have ht:=xe hc.1.1.1.1
 have s1:=sM ha wl.1 l.length (by rw [wl.2.1,ha.1];exact Nat.le_refl _)
 have s2:=sM hb wr'.1 r.length (by rw [wr'.2.1,hb.1];exact Nat.le_refl _)
 simp only [jp,h,hE,if_true,Al,EI] at h0 ⊢
 have g1:=sP s1.a s2.a (t:=aW l l.length) (by omega)
 have g2:=sP s1.b s2.b (t:=aW l l.length) (by omega)
 have g3:=sP s1.c s2.c (t:=aW l l.length) (by omega)
 generalize gH (dv a l l.length).1 (dv b r r.length).1 (aW l l.length)=x at *
 generalize gH (dv a l l.length).2.1 (dv b r r.length).2.1 (aW l l.length)=y at *
 generalize gH (dv a l l.length).2.2 (dv b r r.length).2.2 (aW l l.length)=z at *
 generalize gH (dv a' l l.length).1 (dv b' r r.length).1 (aW l l.length)=x' at *
 generalize gH (dv a' l l.length).2.1 (dv b' r r.length).2.1 (aW l l.length)=y' at *
 generalize gH (dv a' l l.length).2.2 (dv b' r r.length).2.2 (aW l l.length)=z' at *
 have q1:=AF g1.1 g1.2
 have q2:=AF g2.1 g2.2
 have q3:=AF g3.1 g3.2
 split at h0
 ·rename_i hc
  rw [if_pos (by omega)]
  omega
 ·omega
end Go.Ab
namespace Go.Ab
open Go.Proofs
def FD (l : List Int) (m : Nat) (c : Vc) : Vc:=(wr (c.1+wr (wr (nx l m 7 - 3) * 32768)),wr (c.2.1+wr (wr (nx l (nn l m) 5 - 2) * 32768)),wr (c.2.2+wr (wr (nx l (nn l (nn l m)) 5 - 2) * 32768)))
def mQ (l : List Int) (m : Nat) : Nat→Nat
 |0=>m
 |i+1=>nn l (nn l (nn l (mQ l m i)))
theorem xj (l : List Int) (m : Nat) : ∀ i,mQ l m i≤m+3 * i
 |0=>Nat.le_refl _
 |i+1=>by
  have h:=xj l m i
  have l1:=aU l (mQ l m i)
  have l2:=aU l (nn l (mQ l m i))
  have l3:=aU l (nn l (nn l (mQ l m i)))
  simp only [mQ];omega
def vo (l : List Int) (m : Nat) (c : Vc) (k : Nat) : List Vc:=c :: (List.range k).map fun i=>FD l (mQ l m i) c
theorem CI (l : List Int) (m : Nat) (c : Vc) (k : Nat) : (vo l m c (k+1)).map aC=(vo l m c k).map aC++[aC (FD l (mQ l m k) c)]:=by simp [vo,List.range_succ]
theorem zh (l : List Int) (m : Nat) (c : Vc) (k : Nat) : (vo l m c k).length=k+1:=by simp [vo]
def kq (l : List Int) (n : Nat) : Nat:=(nx l n 4).toNat
def zi (l : List Int) (n : Nat) (c : Vc) : List Vc:=vo l (nn l n) c (kq l n)
def vp (l : List Int) (n : Nat) : Nat:=mQ l (nn l n) (kq l n)
theorem Hn (l : List Int) (n : Nat) (c : Vc) (hn : n < 100000) : ab Tryz.prog 68 [.bx 0,.pv (aC c)] [gX l n] [gX l (vp l n)] (.pv (aX (zi l n c))):=by
 have hx:=bt l n (k:=4) (by decide) (by decide)
 have hk : nx l n 4=((kq l n : Nat) : Int):=by unfold kq;omega
 have hk3 : kq l n < 4:=by unfold kq;omega
 have hl1:=aU l n
 refine mr Tryz.func68 rfl (by kernel_rfl) (by simp [Tryz.f68]) rfl (by intro i j h;rcases i with _|_|_|i<;>simp_all) ?_
 intro C hP hN
 simp only [Tryz.f68] at hN ⊢
 with_reducible repeat' (first|refine Sp.h ?_|((first|refine Wh [8] ?_|refine Wi [8] ?_|refine Ss.h ?_|refine Sc.h (dK l n 4 (by decide) (by omega)) ?_|(refine Sb.h ?_ ?_ ?_<;>(try intro hgd)<;>try exact Xy))<;>simp -implicitDefEqProofs (maxSteps:=2000000) [hP,hN,gX,hk]<;>try refine Ya ?_)|refine X2 ?_ ?_|(refine Xd ?_ ?_<;>intro hcd<;>try exact Xx))
 refine WP.loopN [] (kq l n) (fun i st=>st.t 0=.ptr (pk 0) 0∧st.t 3=.ptr 3 0∧st.h 3=some (.box [.pv (Z c.1),.pv (Z c.2.1),.pv (Z c.2.2)] true false)∧st.t 6=.pv (Z ((kq l n : Int) - i))∧
  st.h (pk 0)=some (.box [.pv (zs l),.pv (Z (mQ l (nn l n) i))] false false)∧st.t 5=.arr 8 (i+1)∧st.h 8=some (.row 126 3 ((vo l (nn l n) c i).map aC) 0)) (by simp [mQ,vo]) ?_
 rintro i st hi ⟨h0,h3,hb3,h6,hp,h5,hb8⟩
 have hz:=zh l (nn l n) c i
 by_cases hlt : i < kq l n
 ·have hw : IntKind.i64.wrap ((kq l n : Int) - i - 1)=(kq l n : Int) - ((i : Int)+1):=by rw [IntKind.wrap_i64];omega
  have hgt : (0 : Int) < (kq l n : Int) - i:=by omega
  have hm2:=xj l (nn l n) i
  have l1:=aU l (mQ l (nn l n) i)
  have l2:=aU l (nn l (mQ l (nn l n) i))
  have hJ:=CI l (nn l n) c i
  have hS : mQ l (nn l n) (i+1)=nn l (nn l (nn l (mQ l (nn l n) i))):=rfl
  with_reducible repeat' (first|refine Sp.h ?_|((first|refine Wd ?_|refine Ss.h ?_|refine Sc.h (rR l _ _ (by decide) (by decide) (by omega)) ?_|(refine Sb.h ?_ ?_ ?_<;>(try intro hgd)<;>try exact Xy))<;>simp -implicitDefEqProofs (maxSteps:=2000000) [hP,hN,h0,h3,hb3,h5,h6,hp,hb8,hlt,hw,hgt,hS,hz,show (i+1+1) * 24≤140737488355328 by omega,show i≤9223372036854775805 by omega]<;>try refine Ya ?_)|refine X2 ?_ ?_|(refine Xd ?_ ?_<;>intro hcd<;>try exact Xx))
  all_goals simp [hJ,FD]
 ·have hir : i=kq l n:=by omega
  subst hir
  with_reducible repeat' (first|refine Sp.h ?_|((first|refine Wd ?_|refine Ss.h ?_|(refine Sb.h ?_ ?_ ?_<;>(try intro hgd)<;>try exact Xy))<;>simp -implicitDefEqProofs (maxSteps:=2000000) [hP,hN,h0,h3,hb3,h5,h6,hp,hb8,hz]<;>try refine Ya ?_)|refine X2 ?_ ?_|(refine Xd ?_ ?_<;>intro hcd<;>try exact Xx))
  all_goals simp [vp,zi]
end Go.Ab
namespace Go.Ab
open Go.Proofs
theorem Bw (l : List Int) (n : Nat) : vp l n≤n+10:=by
 have h1:=aU l n
 have hx:=bt l n (k:=4) (by decide) (by decide)
 have hk3 : kq l n < 4:=by unfold kq;omega
 have h2:=xj l (nn l n) (kq l n)
 unfold vp;omega
theorem Ez (l : List Int) : qf l 0≤60:=by
 have h1:=aU l 0
 have hx:=bt l 0 (k:=3) (by decide) (by decide)
 have hrN : rN l 0≤3:=by unfold rN;omega
 have h2:=wW l (nn l 0) (rN l 0)
 have h3:=aU l (rM l 0)
 have hx3:=bt l (rM l 0) (k:=3) (by decide) (by decide)
 have hrK : rK l 0 < 3:=by unfold rK;omega
 have h4:=Bn l (nn l (rM l 0)) (rK l 0)
 have h5 : rM l 0=nm l (nn l 0) (rN l 0):=rfl
 unfold qf;omega
def Ho (l : List Int) (m : Nat) (i : Nat) : Sh:=⟨i,wr ((wr (wr (1+nx l m 3) * 65536)).tdiv 8),zi l (nn l (nn l m)) (wr (nx l (nn l m) 4 * 32768),0,0)⟩
def fx (l : List Int) (n : Nat) : Nat→List Sh × Nat
 |0=>([],n)
 |i+1=>if nx l (fx l n i).2 5 < 4 then ((fx l n i).1++[Ho l (nn l (fx l n i).2) i],vp l (nn l (nn l (nn l (fx l n i).2)))) else ((fx l n i).1,nn l (fx l n i).2)
theorem xk (l : List Int) (n : Nat) : ∀ i,(fx l n i).2≤n+13 * i∧(fx l n i).1.length≤i
 |0=>by simp [fx]
 |i+1=>by
  have ih:=xk l n i
  have a1:=aU l (fx l n i).2
  have a2:=aU l (nn l (fx l n i).2)
  have a3:=aU l (nn l (nn l (fx l n i).2))
  have a4:=Bw l (nn l (nn l (nn l (fx l n i).2)))
  simp only [fx]
  split
  ·simp only [List.length_append,List.length_cons,List.length_nil];omega
  ·simp only;omega
def By (l : List Int) (m : Nat) : Sh:=⟨-1,wr ((wr (wr (1+nx l (nn l (nn l (nn l m))) 4) * 65536)).tdiv 8),zi l (nn l (nn l (nn l (nn l m)))) (wr (wr (nx l m 19 - 9) * 32768),wr (wr (nx l (nn l m) 19 - 9) * 32768),wr (wr (nx l (nn l (nn l m)) 5 - 2) * 32768))⟩
def gT (l : List Int) (xs : List Sh) (n : Nat) : Nat→List Sh × Nat
 |0=>(xs,n)
 |i+1=>((gT l xs n i).1++[By l (gT l xs n i).2],vp l (nn l (nn l (nn l (nn l (gT l xs n i).2)))))
theorem xl (l : List Int) (xs : List Sh) (n : Nat) : ∀ i,(gT l xs n i).2≤n+14 * i∧(gT l xs n i).1.length=xs.length+i
 |0=>by simp [gT]
 |i+1=>by
  have ih:=xl l xs n i
  have a1:=aU l (gT l xs n i).2
  have a2:=aU l (nn l (gT l xs n i).2)
  have a3:=aU l (nn l (nn l (gT l xs n i).2))
  have a4:=aU l (nn l (nn l (nn l (gT l xs n i).2)))
  have a5:=Bw l (nn l (nn l (nn l (nn l (gT l xs n i).2))))
  simp only [gT,List.length_append,List.length_cons,List.length_nil];omega
def qo (l : List Int) (n : Nat) : Nat:=(1+nx l n 3).toNat
def mA (l : List Int) : List Sh × Nat:=fx l (qf l 0) (rN l 0)
def mB (l : List Int) : List Sh × Nat:=gT l (mA l).1 (nn l (mA l).2) (qo l (mA l).2)
def lL (l : List Int) : Sce:=⟨jo l 0,oq l 0,(mB l).1,if nx l (mB l).2 5=1 then [(-1,nx l (nn l (mB l).2) (rN l 0))] else []⟩
def KS (l : List Int) (xs : List Sh) (h : Hp) : Prop:=∃ W : AV,h 4=some (.box [.pv (.sl ((jo l 0).map cJ)),.pv (.sl ((oq l 0).map cT)),W,fC] true false)∧((xs=[]∧W=fC∧h 71=none)∨(xs≠[]∧W=.arr 40 xs.length∧h 40=some (.row 85 3 (xs.map dg) 0))∨(xs≠[]∧W=.arr 71 xs.length∧h 71=some (.row 85 3 (xs.map dg) 0)))
theorem KT (l : List Int) : ab Tryz.prog 14 [.pv (zs l)] [] [] (.pv (f0 (lL l))):=by
 have hx:=bt l 0 (k:=3) (by decide) (by decide)
 have hrN : rN l 0≤3∧0 < rN l 0:=by unfold rN;omega
 have hzJ : (jo l 0).length=rN l 0:=oo l (nn l 0) (rN l 0)
 have hre:=Ez l
 have cr:=KL l 0 (by decide)
 generalize hn0 : qf l 0=n0 at *
 refine Dp Tryz.func14 ?_
 intro C hP hN
 simp only [Tryz.f14] at hN ⊢
 with_reducible repeat' (first|refine Sp.h ?_|((first|refine Wd ?_|refine Ss.h ?_|refine Sc.h (Hk _) ?_|refine Sc.h (cr) ?_|(refine Sb.h ?_ ?_ ?_<;>(try intro hgd)<;>try exact Xy))<;>simp -implicitDefEqProofs (maxSteps:=2000000) [hP,hN,gX]<;>try refine Ya ?_)|refine X2 ?_ ?_|(refine Xd ?_ ?_<;>intro hcd<;>try exact Xx))
 refine WP.loopN [] (rN l 0) (fun i st=>st.t 3=.ptr 9 0∧st.h 9=some (.box [.pv (zs l),.pv (Z (fx l n0 i).2)] true false)∧st.t 2=.ptr 2 0∧st.h 2=some (.box [fC,fC,fC,fC] true false)∧st.t 4=.ptr 4 0∧st.t 5=.pv (Z i)∧st.h 71=none∧st.h 86=none∧st.h 7=none∧
  (((fx l n0 i).1=[]∧st.h 4=some (.box [.pv (.sl ((jo l 0).map cJ)),.pv (.sl ((oq l 0).map cT)),fC,fC] true false)∧st.h 40=none)∨((fx l n0 i).1≠[]∧st.h 4=some (.box [.pv (.sl ((jo l 0).map cJ)),.pv (.sl ((oq l 0).map cT)),.arr 40 (fx l n0 i).1.length,fC] true false)∧st.h 40=some (.row 85 3 ((fx l n0 i).1.map dg) 0)))) (by simp [fx]) ?_
 rintro i st hi ⟨g3,hb9,g2,hb2,g4,g5,hb71,hb86,hb7,hor⟩
 have hle:=xk l n0 i
 by_cases hlt : i < rN l 0
 ·have hwr:=aw hlt (by omega)
  have hS : fx l n0 (i+1)=if nx l (fx l n0 i).2 5 < 4 then ((fx l n0 i).1++[Ho l (nn l (fx l n0 i).2) i],vp l (nn l (nn l (nn l (fx l n0 i).2)))) else ((fx l n0 i).1,nn l (fx l n0 i).2):=rfl
  generalize fx l n0 (i+1)=S' at *
  generalize fx l n0 i=S at *
  obtain ⟨xs,m⟩:=S
  simp only at hle hS hb9 hor
  have a1:=aU l m
  have a2:=aU l (nn l m)
  have a3:=aU l (nn l (nn l m))
  have cp:=Hn l (nn l (nn l (nn l m))) (wr (nx l (nn l (nn l m)) 4 * 32768),0,0) (by omega)
  by_cases h5 : nx l m 5 < 4
  ·rw [if_pos h5] at hS
   subst hS
   rcases hor with ⟨hxs,hb4,hb40⟩|⟨hxs,hb4,hb40⟩
   ·subst hxs
    with_reducible repeat' (first|refine Sp.h ?_|((first|refine Wd ?_|refine Ss.h ?_|refine Sc.h (dK l _ 5 (by decide) (by omega)) ?_|refine Sc.h (dK l _ 3 (by decide) (by omega)) ?_|refine Sc.h (dK l _ 4 (by decide) (by omega)) ?_|refine Sc.h (cp) ?_|(refine Sb.h ?_ ?_ ?_<;>(try intro hgd)<;>try exact Xy))<;>simp -implicitDefEqProofs (maxSteps:=2000000) [hP,hN,g3,hb9,g2,hb2,g4,g5,hb71,hb86,hb7,hb4,hb40,hlt,hwr,hzJ,h5]<;>try refine Ya ?_)|refine X2 ?_ ?_|(refine Xd ?_ ?_<;>intro hcd<;>try exact Xx))
    all_goals exact ⟨rfl,rfl,rfl⟩
   ·skip
    with_reducible repeat' (first|refine Sp.h ?_|((first|refine Wd ?_|refine Ss.h ?_|refine Sc.h (dK l _ 5 (by decide) (by omega)) ?_|refine Sc.h (dK l _ 3 (by decide) (by omega)) ?_|refine Sc.h (dK l _ 4 (by decide) (by omega)) ?_|refine Sc.h (cp) ?_|(refine Sb.h ?_ ?_ ?_<;>(try intro hgd)<;>try exact Xy))<;>simp -implicitDefEqProofs (maxSteps:=2000000) [hP,hN,g3,hb9,g2,hb2,g4,g5,hb71,hb86,hb7,hb4,hb40,hlt,hwr,hzJ,h5,show (xs.length+1) * 40≤140737488355328 by omega,show xs.length≤9223372036854775806 by omega]<;>try refine Ya ?_)|refine X2 ?_ ?_|(refine Xd ?_ ?_<;>intro hcd<;>try exact Xx))
    all_goals exact ⟨rfl,rfl,rfl⟩
  ·rw [if_neg h5] at hS
   subst hS
   rcases hor with ⟨hxs,hb4,hb40⟩|⟨hxs,hb4,hb40⟩
   ·skip
    with_reducible repeat' (first|refine Sp.h ?_|((first|refine Wd ?_|refine Ss.h ?_|refine Sc.h (dK l _ 5 (by decide) (by omega)) ?_|(refine Sb.h ?_ ?_ ?_<;>(try intro hgd)<;>try exact Xy))<;>simp -implicitDefEqProofs (maxSteps:=2000000) [hP,hN,g3,hb9,g2,hb2,g4,g5,hb71,hb86,hb7,hb4,hb40,hlt,hwr,hzJ,h5]<;>try refine Ya ?_)|refine X2 ?_ ?_|(refine Xd ?_ ?_<;>intro hcd<;>try exact Xx))
    all_goals exact hxs
   ·skip
    with_reducible repeat' (first|refine Sp.h ?_|((first|refine Wd ?_|refine Ss.h ?_|refine Sc.h (dK l _ 5 (by decide) (by omega)) ?_|(refine Sb.h ?_ ?_ ?_<;>(try intro hgd)<;>try exact Xy))<;>simp -implicitDefEqProofs (maxSteps:=2000000) [hP,hN,g3,hb9,g2,hb2,g4,g5,hb71,hb86,hb7,hb4,hb40,hlt,hwr,hzJ,h5]<;>try refine Ya ?_)|refine X2 ?_ ?_|(refine Xd ?_ ?_<;>intro hcd<;>try exact Xx))
    all_goals exact hxs
 ·have hir : i=rN l 0:=by omega
  subst hir
  have hmA : fx l n0 (rN l 0)=mA l:=by unfold mA;rw [hn0]
  rw [hmA] at hle hb9 hor
  have hK : nx l (mA l).2 3 < 3∧0≤nx l (mA l).2 3:=⟨(bt l _ (by decide) (by decide)).2,(bt l _ (by decide) (by decide)).1⟩
  have hKe : IntKind.i64.wrap (1+nx l (mA l).2 3)=((qo l (mA l).2 : Nat) : Int):=by rw [IntKind.wrap_i64];unfold qo;omega
  have hK3 : qo l (mA l).2≤3∧1≤qo l (mA l).2:=by unfold qo;omega
  have hsk : lL l=⟨jo l 0,oq l 0,(mB l).1,if nx l (mB l).2 5=1 then [(-1,nx l (nn l (mB l).2) (rN l 0))] else []⟩:=rfl
  rw [hsk]
  have hmB : mB l=gT l (mA l).1 (nn l (mA l).2) (qo l (mA l).2):=rfl
  have hnA:=aU l (mA l).2
  rw [hmB]
  generalize mA l=A at *
  clear hmA hsk hmB
  generalize qo l A.2=K at *
  obtain ⟨W,hb4,hW⟩ : ∃ W : AV,st.h 4=some (.box [.pv (.sl ((jo l 0).map cJ)),.pv (.sl ((oq l 0).map cT)),W,fC] true false)∧((A.1=[]∧W=fC∧st.h 71=none)∨(A.1≠[]∧W=.arr 40 A.1.length∧st.h 40=some (.row 85 3 (A.1.map dg) 0))∨(A.1≠[]∧W=.arr 71 A.1.length∧st.h 71=some (.row 85 3 (A.1.map dg) 0))):=by
   rcases hor with ⟨a,b,c⟩|⟨a,b,c⟩
   ·exact ⟨_,b,.inl ⟨a,rfl,hb71⟩⟩
   ·exact ⟨_,b,.inr (.inl ⟨a,rfl,c⟩)⟩
  clear hor
  with_reducible repeat' (first|refine Sp.h ?_|((first|refine Wd ?_|refine Ss.h ?_|refine Sc.h (dK l _ 3 (by decide) (by omega)) ?_|(refine Sb.h ?_ ?_ ?_<;>(try intro hgd)<;>try exact Xy))<;>simp -implicitDefEqProofs (maxSteps:=2000000) [hP,hN,g3,hb9,g2,hb2,g4,g5,hb4,hb86,hb7,hzJ,hKe]<;>try refine Ya ?_)|refine X2 ?_ ?_|(refine Xd ?_ ?_<;>intro hcd<;>try exact Xx))
  have hz0 : gT l A.1 (nn l A.2) 0=(A.1,nn l A.2):=rfl
  refine WP.loopN [7] K (fun i st=>st.t 3=.ptr 9 0∧st.h 9=some (.box [.pv (zs l),.pv (Z (gT l A.1 (nn l A.2) i).2)] true false)∧st.t 2=.ptr 2 0∧st.h 2=some (.box [fC,fC,fC,fC] true false)∧st.t 4=.ptr 4 0∧st.t 6=.pv (Z ((K : Int) - i))∧st.h 86=none∧st.h 7=none∧KS l (gT l A.1 (nn l A.2) i).1 st.h) ?_ ?_
  ·refine ⟨by simp [g3],by simp [hz0],by simp [g2],by simp [hb2],by simp [g4],by simp,by simp [hb86],by simp [hb7],?_⟩
   rw [hz0]
   rcases hW with ⟨a,rfl,b⟩|⟨a,rfl,b⟩|⟨a,rfl,b⟩
   ·exact ⟨fC,by simp [hb4],.inl ⟨a,rfl,by simp [b]⟩⟩
   ·exact ⟨.arr 40 A.1.length,by simp [hb4],.inr (.inl ⟨a,rfl,by simp [b]⟩)⟩
   ·exact ⟨.arr 71 A.1.length,by simp [hb4],.inr (.inr ⟨a,rfl,by simp [b]⟩)⟩
  clear g3 hb9 g2 hb2 g4 g5 hb86 hb7 hb4 hb71 hW
  rintro i st hi ⟨g3,hb9,g2,hb2,g4,g6,hb86,hb7,W,hb4,hW⟩
  have hleO:=xl l A.1 (nn l A.2) i
  by_cases hlt : i < K
  ·have hwr : IntKind.i64.wrap ((K : Int) - i - 1)=(K : Int) - ((i : Int)+1):=by rw [IntKind.wrap_i64];omega
   have hgt : (0 : Int) < (K : Int) - i:=by omega
   have hS : gT l A.1 (nn l A.2) (i+1)=((gT l A.1 (nn l A.2) i).1++[By l (gT l A.1 (nn l A.2) i).2],vp l (nn l (nn l (nn l (nn l (gT l A.1 (nn l A.2) i).2))))):=rfl
   generalize gT l A.1 (nn l A.2) (i+1)=S' at *
   generalize gT l A.1 (nn l A.2) i=S at *
   subst hS
   obtain ⟨xs,m⟩:=S
   simp only at hleO hb9 hW ⊢
   have a1:=aU l m
   have a2:=aU l (nn l m)
   have a3:=aU l (nn l (nn l m))
   have a4:=aU l (nn l (nn l (nn l m)))
   have cp:=Hn l (nn l (nn l (nn l (nn l m)))) (wr (wr (nx l m 19 - 9) * 32768),wr (wr (nx l (nn l m) 19 - 9) * 32768),wr (wr (nx l (nn l (nn l m)) 5 - 2) * 32768)) (by omega)
   rcases hW with ⟨hxs,hW,hb71⟩|⟨hxs,hW,hb40⟩|⟨hxs,hW,hb71⟩
   ·subst hW;subst hxs
    with_reducible repeat' (first|refine Sp.h ?_|((first|refine Wd ?_|refine Ss.h ?_|refine Sc.h (rR l _ 9 (by decide) (by decide) (by omega)) ?_|refine Sc.h (rR l _ 2 (by decide) (by decide) (by omega)) ?_|refine Sc.h (dK l _ 4 (by decide) (by omega)) ?_|refine Sc.h (cp) ?_|(refine Sb.h ?_ ?_ ?_<;>(try intro hgd)<;>try exact Xy))<;>simp -implicitDefEqProofs (maxSteps:=2000000) [hP,hN,g3,hb9,g2,hb2,g4,g6,hb86,hb7,hb4,hb71,hwr,hgt]<;>try refine Ya ?_)|refine X2 ?_ ?_|(refine Xd ?_ ?_<;>intro hcd<;>try exact Xx))
    refine ⟨hlt,.arr 71 [By l m].length,by simp [St.kill,iS,iq],.inr (.inr ⟨by simp,rfl,?_⟩)⟩
    simp [St.kill,iS,iq]
    all_goals exact ⟨rfl,rfl,rfl⟩
   ·subst hW
    with_reducible repeat' (first|refine Sp.h ?_|((first|refine Wd ?_|refine Ss.h ?_|refine Sc.h (rR l _ 9 (by decide) (by decide) (by omega)) ?_|refine Sc.h (rR l _ 2 (by decide) (by decide) (by omega)) ?_|refine Sc.h (dK l _ 4 (by decide) (by omega)) ?_|refine Sc.h (cp) ?_|(refine Sb.h ?_ ?_ ?_<;>(try intro hgd)<;>try exact Xy))<;>simp -implicitDefEqProofs (maxSteps:=2000000) [hP,hN,g3,hb9,g2,hb2,g4,g6,hb86,hb7,hb4,hb40,hwr,hgt,show (xs.length+1) * 40≤140737488355328 by omega,show xs.length≤9223372036854775806 by omega]<;>try refine Ya ?_)|refine X2 ?_ ?_|(refine Xd ?_ ?_<;>intro hcd<;>try exact Xx))
    refine ⟨hlt,.arr 40 (xs++[By l m]).length,by simp [St.kill,iS,iq],.inr (.inl ⟨by simp,rfl,?_⟩)⟩
    simp [St.kill,iS,iq]
    all_goals exact ⟨rfl,rfl,rfl⟩
   ·subst hW
    with_reducible repeat' (first|refine Sp.h ?_|((first|refine Wd ?_|refine Ss.h ?_|refine Sc.h (rR l _ 9 (by decide) (by decide) (by omega)) ?_|refine Sc.h (rR l _ 2 (by decide) (by decide) (by omega)) ?_|refine Sc.h (dK l _ 4 (by decide) (by omega)) ?_|refine Sc.h (cp) ?_|(refine Sb.h ?_ ?_ ?_<;>(try intro hgd)<;>try exact Xy))<;>simp -implicitDefEqProofs (maxSteps:=2000000) [hP,hN,g3,hb9,g2,hb2,g4,g6,hb86,hb7,hb4,hb71,hwr,hgt,show (xs.length+1) * 40≤140737488355328 by omega,show xs.length≤9223372036854775806 by omega]<;>try refine Ya ?_)|refine X2 ?_ ?_|(refine Xd ?_ ?_<;>intro hcd<;>try exact Xx))
    refine ⟨hlt,.arr 71 (xs++[By l m]).length,by simp [St.kill,iS,iq],.inr (.inr ⟨by simp,rfl,?_⟩)⟩
    simp [St.kill,iS,iq]
    all_goals exact ⟨rfl,rfl,rfl⟩
  ·have hir : i=K:=by omega
   subst hir
   generalize gT l A.1 (nn l A.2) i=S at *
   obtain ⟨xs,m⟩:=S
   simp only at hleO hb9 hW ⊢
   have a1:=aU l m
   have hne : ((rN l 0 : Nat) : Int)≠0:=by omega
   have hxs : xs≠[]:=by
    rintro rfl
    have:=hleO.2
    simp at this;omega
   by_cases h5 : nx l m 5=1
   ·have h5' : (nx l m 5==1)=true:=by simp [h5]
    rw [if_pos h5]
    rcases hW with ⟨hx,hW,hb71⟩|⟨_,hW,hb40⟩|⟨_,hW,hb71⟩
    ·exact absurd hx hxs
    ·subst hW
     with_reducible repeat' (first|refine Sp.h ?_|((first|refine Wd ?_|refine Ss.h ?_|refine Sc.h (dK l _ 5 (by decide) (by omega)) ?_|refine Sc.h (dK l _ _ hne (by omega)) ?_|(refine Sb.h ?_ ?_ ?_<;>(try intro hgd)<;>try exact Xy))<;>simp -implicitDefEqProofs (maxSteps:=2000000) [hP,hN,g3,hb9,g2,hb2,g4,g6,hb86,hb7,hb4,hb40,h5,h5',hzJ]<;>try refine Ya ?_)|refine X2 ?_ ?_|(refine Xd ?_ ?_<;>intro hcd<;>try exact Xx))
    ·subst hW
     with_reducible repeat' (first|refine Sp.h ?_|((first|refine Wd ?_|refine Ss.h ?_|refine Sc.h (dK l _ 5 (by decide) (by omega)) ?_|refine Sc.h (dK l _ _ hne (by omega)) ?_|(refine Sb.h ?_ ?_ ?_<;>(try intro hgd)<;>try exact Xy))<;>simp -implicitDefEqProofs (maxSteps:=2000000) [hP,hN,g3,hb9,g2,hb2,g4,g6,hb86,hb7,hb4,hb71,h5,h5',hzJ]<;>try refine Ya ?_)|refine X2 ?_ ?_|(refine Xd ?_ ?_<;>intro hcd<;>try exact Xx))
   ·have h5' : (nx l m 5==1)=false:=by simp [h5]
    rw [if_neg h5]
    rcases hW with ⟨hx,hW,hb71⟩|⟨_,hW,hb40⟩|⟨_,hW,hb71⟩
    ·exact absurd hx hxs
    ·subst hW
     with_reducible repeat' (first|refine Sp.h ?_|((first|refine Wd ?_|refine Ss.h ?_|refine Sc.h (dK l _ 5 (by decide) (by omega)) ?_|(refine Sb.h ?_ ?_ ?_<;>(try intro hgd)<;>try exact Xy))<;>simp -implicitDefEqProofs (maxSteps:=2000000) [hP,hN,g3,hb9,g2,hb2,g4,g6,hb86,hb7,hb4,hb40,h5,h5',hzJ]<;>try refine Ya ?_)|refine X2 ?_ ?_|(refine Xd ?_ ?_<;>intro hcd<;>try exact Xx))
    ·subst hW
     with_reducible repeat' (first|refine Sp.h ?_|((first|refine Wd ?_|refine Ss.h ?_|refine Sc.h (dK l _ 5 (by decide) (by omega)) ?_|(refine Sb.h ?_ ?_ ?_<;>(try intro hgd)<;>try exact Xy))<;>simp -implicitDefEqProofs (maxSteps:=2000000) [hP,hN,g3,hb9,g2,hb2,g4,g6,hb86,hb7,hb4,hb71,h5,h5',hzJ]<;>try refine Ya ?_)|refine X2 ?_ ?_|(refine Xd ?_ ?_<;>intro hcd<;>try exact Xx))
end Go.Ab
namespace Go.Ab
open Go.Proofs
end Go.Ab
namespace Go.Ab
open Go.Proofs
def D1 (v : Vc) : Bool:=!(v.1==0 && v.2.1==0 && v.2.2==0) && eQ v.1 v.2.1 v.2.2 16384
theorem uB (v : Vc) : ab Tryz.prog 240 [.pv (aC v)] [] [] (.pv (B (D1 v))):=by
 have cn:=mN v.1 v.2.1 v.2.2 16384 (by decide) (by decide)
 have hd : D1 v=(!(v.1==0 && v.2.1==0 && v.2.2==0) && eQ v.1 v.2.1 v.2.2 16384):=rfl
 rw [hd]
 generalize eQ v.1 v.2.1 v.2.2 16384=b at *
 refine Dp Tryz.func240 ?_
 intro C hP hN
 simp only [Tryz.f240] at hN ⊢
 with_reducible repeat' (first|refine Sp.h ?_|((first|refine Ss.h ?_|refine Sc.h (cn) ?_|(refine Sb.h ?_ ?_ ?_<;>(try intro hgd)<;>try exact Xy))<;>simp -implicitDefEqProofs (maxSteps:=2000000) [hP,hN])|refine X2 ?_ ?_|(refine Xd ?_ ?_<;>intro hcd<;>try exact Xx))
 all_goals (try (cases b<;>simp_all))
theorem ov {v : Vc} : D1 v=aJ v:=by
 unfold D1 aJ nz
 rw [Bool.and_comm];rfl
end Go.Ab
namespace Go.Ab
open Go.Proofs
theorem zj (l : List Int) (n : Nat) (c : Vc) : (zi l n c).length≤4:=by
 have hx:=bt l n (k:=4) (by decide) (by decide)
 have : kq l n < 4:=by unfold kq;omega
 unfold zi;rw [zh];omega
theorem uC (l : List Int) (n : Nat) : ∀ i,∀ h ∈ (fx l n i).1,h.pts.length≤4
 |0,h,hm=>by cases hm
 |i+1,h,hm=>by
  simp only [fx] at hm
  split at hm
  ·rcases List.mem_append.1 hm with hm|hm
   ·exact uC l n i h hm
   ·rw [List.mem_singleton] at hm;subst hm;exact zj _ _ _
  ·exact uC l n i h hm
theorem zk (l : List Int) (xs : List Sh) (n : Nat) (hx : ∀ h ∈ xs,h.pts.length≤4) : ∀ i,∀ h ∈ (gT l xs n i).1,h.pts.length≤4
 |0,h,hm=>hx h hm
 |i+1,h,hm=>by
  simp only [gT] at hm
  rcases List.mem_append.1 hm with hm|hm
  ·exact zk l xs n hx i h hm
  ·rw [List.mem_singleton] at hm;subst hm;exact zj _ _ _
theorem FE (l : List Int) : ScL (lL l):=by
 have h1:=zd l 0
 have hx:=bt l (rM l 0) (k:=3) (by decide) (by decide)
 have h2 : (oq l 0).length=rK l 0:=uq _ _ _ _
 have h3 : rK l 0 < 3:=by unfold rK;omega
 have hN:=bt l 0 (k:=3) (by decide) (by decide)
 have h4 : rN l 0≤3:=by unfold rN;omega
 have h5:=(xk l (qf l 0) (rN l 0)).2
 have h6:=(xl l (mA l).1 (nn l (mA l).2) (qo l (mA l).2)).2
 have hx3:=bt l (mA l).2 (k:=3) (by decide) (by decide)
 have h7 : qo l (mA l).2≤3:=by unfold qo;omega
 have h8 : (mA l).1.length≤3:=by unfold mA;omega
 refine ⟨by show (jo l 0).length≤_;omega,by show (oq l 0).length≤_;omega,by show (mB l).1.length≤_;unfold mB;omega,?_,?_⟩
 ·show (if nx l (mB l).2 5=1 then [((-1 : Int),nx l (nn l (mB l).2) (rN l 0))] else []).length≤_
  split<;>simp
 ·intro h hm
  have : h.pts.length≤4:=zk l _ _ (uC l _ _) _ h hm
  omega
theorem sy {SH : List Sh} {PR : List (Nat × Nat)} {PT : List (List ai)} {hints : List Vc} (hf : PR.length≤576) : ∀ f k ap,(io SH PR PT hints f k ap).ns.length≤576∧(io SH PR PT hints f k ap).w.a.length≤8∧(io SH PR PT hints f k ap).w.b.length≤8
 |0,k,ap=>by
  simp only [io]
  split<;>simp [dP,hf]
 |f+1,k,ap=>by
  simp only [io]
  split
  ·split
   ·exact sy hf f _ _
   ·split
    ·exact ⟨by simp,vn _ _ _ _⟩
    ·exact sy hf f _ _
  ·split<;>simp [dP,hf]
theorem CJ (s : Sce) (bx : List Iv) (hints : List Vc) : (ip s bx hints).ns.length≤576∧(ip s bx hints).w.a.length≤8∧(ip s bx hints).w.b.length≤8:=by
 unfold ip
 split
 ·rename_i h;exact sy (uA h).few _ _ _
 ·simp
theorem Bz (l : List Int) (js : List J) : (eT l js).length=js.length:=by simp [eT]
end Go.Ab
namespace Go.Ab
open Go.Proofs
theorem CK {a b : List ai} {ra rb : Int} {h : List Vc} (hf : (nC a ra b rb h).2=true) : f9 (nC a ra b rb h).1 a ra b rb=true:=by
 unfold nC at hf ⊢
 split
 ·rename_i n e;have:=List.find?_some e;exact this
 ·rename_i e;rw [e] at hf;cases hf
end Go.Ab
namespace Go.Ab
open Go.Proofs
theorem xR {s : Sce} {a b : List Iv} (h : kK a b) (hp : cS s b=true) : cS s a=true:=by
 simp only [cS,gm,de,Bool.and_eq_true,decide_eq_true_eq,List.all_eq_true] at hp ⊢
 refine ⟨hp.1,by rw [h.1];exact hp.2.1,fun x hx=>?_⟩
 obtain ⟨k,hk⟩:=List.getElem?_of_mem hx
 have hlt : k < a.length:=(List.getElem?_eq_some_iff.1 hk).1
 have hb : b[k]?=some (b[k]'(by rw [← h.1];exact hlt)):=List.getElem?_eq_getElem _
 exact (h.2 k _ _ hk hb).vx
theorem rz (s : Sce) {a b : List Iv} (h : kK a b) (i : Nat) : f7 (bL (bj s a) i) (bL (bj s b) i):=yH s h i
theorem Dh {s : Sce} {a b : List Iv} (h : kK a b) {n : Vc} {p : Nat × Nat} (hs : mP s.shs (bj s b) n p=true) : mP s.shs (bj s a) n p=true:=Dg (rz s h _) (rz s h _) hs
theorem Di {s : Sce} {a b : List Iv} (h : kK a b) {x y : List Int} {p : Nat × Nat} (hs : jB s.shs (bj s b) x y p=true) : jB s.shs (bj s a) x y p=true:=by
 simp only [jB,Bool.and_eq_true,decide_eq_true_eq] at hs ⊢
 exact AG (rz s h _) (rz s h _) hs.1 hs.2
theorem AH {SH : List Sh} {PR : List (Nat × Nat)} {PT : List (List ai)} {ns : List Vc} : ep SH PR PT ns=true↔ns.length=PR.length∧rk SH PR PT ns ns.length:=by
 constructor
 ·intro h
  have hl : ns.length=PR.length:=by simp only [ep,Bool.and_eq_true,decide_eq_true_eq] at h;exact h.1
  refine ⟨hl,fun k n p hk hn hp=>?_⟩
  cases hs : mP SH PT n p with
  |true=>rfl
  |false=>rw [ql hn hp hs] at h;cases h
 ·exact fun h=>nD h.1 h.2
theorem xS {s : Sce} {a b : List Iv} (h : kK a b) {ns : List Vc} (hs : fu s b ns=true) : fu s a ns=true:=by
 simp only [fu,Bool.and_eq_true] at hs ⊢
 refine ⟨xR h hs.1,?_⟩
 rw [AH] at hs ⊢
 exact ⟨hs.2.1,fun k n p hk hn hp=>Dh h (hs.2.2 k n p hk hn hp)⟩
theorem zz {SH : List Sh} {PR : List (Nat × Nat)} {PT : List (List ai)} {w : Wit} : qm SH PR PT w=true↔∃ p,0≤w.pair∧PR[w.pair.toNat]?=some p∧jB SH PT w.a w.b p=true:=by
 unfold qm
 cases h : PR[w.pair.toNat]? with
 |none=>simp
 |some p=>simp
theorem xT {s : Sce} {a b : List Iv} (h : kK a b) {w : Wit} (hs : gv s b w=true) : gv s a w=true:=by
 simp only [gv,Bool.and_eq_true] at hs ⊢
 refine ⟨xR h hs.1,?_⟩
 rw [zz] at hs ⊢
 obtain ⟨_,p,h0,hp,ho⟩:=hs
 exact ⟨p,h0,hp,Di h ho⟩
section
variable {SH : List Sh} {PR : List (Nat × Nat)} {PT : List (List ai)} {hs : List Vc}
theorem uL : ∀ f k ap,k+f=PR.length→(∃ (j : Nat) (p : Nat × Nat),PR[j]?=some p∧io SH PR PT hs f k ap=⟨2,[],⟨j,(nO SH PT p).2.w,(nO SH PT p).2.v⟩⟩∧jB SH PT (nO SH PT p).2.w (nO SH PT p).2.v p=true)∨(io SH PR PT hs f k ap=⟨1,dP SH PR PT hs,⟨0,[],[]⟩⟩∧ap=true∧∀ j p,k≤j→PR[j]?=some p→(rW SH PT hs j p).2=true)∨io SH PR PT hs f k ap=⟨0,dP SH PR PT hs,⟨0,[],[]⟩⟩
 |0,k,ap,hk=>by
  right
  cases ap with
  |true=>
   left
   refine ⟨rfl,rfl,fun j p hj hp=>?_⟩
   have:=(List.getElem?_eq_some_iff.1 hp).1
   omega
  |false=>right;rfl
 |f+1,k,ap,hk=>by
  have hp : PR[k]?=some (PR[k]'(by omega)):=List.getElem?_eq_getElem _
  simp only [io,hp]
  split
  ·rename_i hf
   rcases uL f (k+1) ap (by omega) with h|⟨h1,h2,h3⟩|h
   ·exact .inl h
   ·refine .inr (.inl ⟨h1,h2,fun j p hj hpj=>?_⟩)
    by_cases he : j=k
    ·subst he;rw [hp] at hpj;cases hpj;exact hf
    ·exact h3 j p (by omega) hpj
   ·exact .inr (.inr h)
  ·split
   ·rename_i ho
    exact .inl ⟨k,_,hp,rfl,ho⟩
   ·rcases uL f (k+1) false (by omega) with h|⟨h1,h2,h3⟩|h
    ·exact .inl h
    ·cases h2
    ·exact .inr (.inr h)
theorem yL {k : Nat} {p : Nat × Nat} (h : PR[k]?=some p) : (dP SH PR PT hs)[k]?=some (rW SH PT hs k p).1:=by
 simp [dP,List.getElem?_mapIdx,h]
theorem rY : (dP SH PR PT hs).length=PR.length:=by simp [dP]
theorem EJ {k : Nat} {p : Nat × Nat} (h : (rW SH PT hs k p).2=true) : mP SH PT (rW SH PT hs k p).1 p=true:=CK h
theorem BO (h : ∀ j p,PR[j]?=some p→(rW SH PT hs j p).2=true) : ep SH PR PT (dP SH PR PT hs)=true:=by
 refine nD rY fun k n p hk hn hp=>?_
 rw [yL hp] at hn
 cases hn
 exact EJ (h k p hp)
end
theorem uM (s : Sce) (bx : List Iv) (hs : List Vc) : (∃ w,ip s bx hs=⟨2,[],w⟩∧gv s bx w=true)∨(∃ ns,ip s bx hs=⟨1,ns,⟨0,[],[]⟩⟩∧fu s bx ns=true)∨(∃ ns,ip s bx hs=⟨0,ns,⟨0,[],[]⟩⟩∧(ns.length=(bv s).length∨cS s bx=false)):=by
 unfold ip
 cases hp : cS s bx with
 |false=>exact .inr (.inr ⟨[],rfl,.inr rfl⟩)
 |true=>
  simp only [if_true]
  rcases uL (SH:=s.shs) (PR:=bv s) (PT:=bj s bx) (hs:=hs) (bv s).length 0 true (by omega) with ⟨j,p,h1,h2,h3⟩|⟨h1,_,h3⟩|h
  ·refine .inl ⟨_,h2,?_⟩
   simp only [gv,hp,Bool.true_and,zz]
   exact ⟨p,by omega,by simpa using h1,h3⟩
  ·refine .inr (.inl ⟨_,h1,?_⟩)
   simp only [fu,hp,Bool.true_and]
   exact BO fun j p hp=>h3 j p (by omega) hp
  ·exact .inr (.inr ⟨_,h,.inl rY⟩)
theorem AI (s : Sce) (bx : List Iv) (hs : List Vc) : fV s bx (ip s bx hs)=decide ((ip s bx hs).kind=1∨(ip s bx hs).kind=2):=by
 rcases uM s bx hs with ⟨w,h1,h2⟩|⟨ns,h1,h2⟩|⟨ns,h1,h2⟩
 ·rw [h1];simp [fV,h2]
 ·rw [h1];simp [fV,h2]
 ·rw [h1];simp [fV]
theorem yM {l : List Int} {js : List J} (hj : ∀ j ∈ js,ot j) : ∀ x ∈ eT l js,am x.1 x.2=true:=by
 intro x hx
 simp only [eT,List.mem_mapIdx] at hx
 obtain ⟨i,hi,rfl⟩:=hx
 have h:=hj js[i] (List.getElem_mem hi)
 unfold ot at h
 have:=Af (l:=l) (m:=fw l i) h.1 h.2.1 h.2.2
 rw [aT];omega
end Go.Ab
namespace Go.Ab
open Go.Proofs
theorem Dz {t : Tr} (h : 1≤t.cells.length) : (List.replicate t.cells.length (PV.val (.slice none 0 0))).set 0 (iv t.root)=(iw t).map nV:=by
 obtain ⟨n,hn⟩ : ∃ n,t.cells.length=n+1:=⟨t.cells.length - 1,by omega⟩
 simp [iw,hn,List.replicate_succ,nV]
theorem gU : nV none=.val (.slice none 0 0):=rfl
theorem gV (b : Bx) : nV (some b)=iv b:=rfl
theorem kh {α : Type} {L : List α} {i : Nat} {x : α} (h : L[i]?=some x) (hl : i < L.length) : L[i]=x:=(List.getElem?_eq_some_iff.1 h).2
theorem set_row {L : OL} {a z : Nat} {x y : Bx} : ((L.map nV).set a (iv x)).set z (iv y)=((L.set a (some x)).set z (some y)).map nV:=by
 simp [List.map_set,nV]
theorem yP {n i : Nat} {c : Cel} (h : gM n i c=false) : c.low≤i∨(n : Int)≤c.low∨c.high≤i∨(n : Int)≤c.high∨(c.low==c.high)=true∨mn c.v=false:=by
 cases hz : mn c.v with
 |false=>exact .inr (.inr (.inr (.inr (.inr rfl))))
 |true=>
  have : ¬ ((i : Int) < c.low∧c.low < n∧(i : Int) < c.high∧c.high < n∧c.low≠c.high∧mn c.v=true):=by rw [← fg,h];simp
  simp only [hz,and_true] at this
  simp only [beq_iff_eq]
  omega
theorem Ea (t : Tr) (hl : t.cells.length≤9223372036854775807) : ab Tryz.prog 91 [.pv (dV t)] [] [] (.pv (.tup [.sl ((aM t).map iv),B (aV t)])):=by
 have cv:=Kd t.root
 cases hs : eW t with
 |false=>
  have hno:=vN (t:=t) (by simp [cw,hs])
  rw [hno.1,hno.2]
  by_cases h1 : t.cells.length < 1
  ·have h1' : (t.cells.length : Int) < 1:=by omega
   refine Dp Tryz.func91 ?_
   intro C hP hN
   simp only [Tryz.f91] at hN ⊢
   with_reducible repeat' (first|refine Sp.h ?_|((first|refine Wd ?_|refine Ss.h ?_|(refine Sb.h ?_ ?_ ?_<;>(try intro hgd)<;>try exact Xy))<;>simp -implicitDefEqProofs (maxSteps:=2000000) [hP,hN,h1',h1]<;>try refine Ya ?_)|refine X2 ?_ ?_|(refine Xd ?_ ?_<;>intro hcd<;>try exact Xx))
  have h1' : ¬ (t.cells.length : Int) < 1:=by omega
  by_cases h2 : 2048 < t.cells.length
  ·have h2' : (2048 : Int) < t.cells.length:=by omega
   refine Dp Tryz.func91 ?_
   intro C hP hN
   simp only [Tryz.f91] at hN ⊢
   with_reducible repeat' (first|refine Sp.h ?_|((first|refine Wd ?_|refine Ss.h ?_|(refine Sb.h ?_ ?_ ?_<;>(try intro hgd)<;>try exact Xy))<;>simp -implicitDefEqProofs (maxSteps:=2000000) [hP,hN,h1',h1,h2,h2']<;>try refine Ya ?_)|refine X2 ?_ ?_|(refine Xd ?_ ?_<;>intro hcd<;>try exact Xx))
  have h2' : ¬ (2048 : Int) < t.cells.length:=by omega
  have h3 : dl t.root=false:=by
   cases h : dl t.root with
   |false=>rfl
   |true=>simp [eW,h] at hs;omega
  rw [h3] at cv
  refine Dp Tryz.func91 ?_
  intro C hP hN
  simp only [Tryz.f91] at hN ⊢
  with_reducible repeat' (first|refine Sp.h ?_|((first|refine Wd ?_|refine Ss.h ?_|refine Sc.h (cv) ?_|(refine Sb.h ?_ ?_ ?_<;>(try intro hgd)<;>try exact Xy))<;>simp -implicitDefEqProofs (maxSteps:=2000000) [hP,hN,h1',h1,h2,h2']<;>try refine Ya ?_)|refine X2 ?_ ?_|(refine Xd ?_ ?_<;>intro hcd<;>try exact Xx))
 |true=>
  obtain ⟨z1,z2,z3,z4,z5⟩:=eh.1 hs
  have h1 : ¬ t.cells.length < 1:=by omega
  have h2 : ¬ 2048 < t.cells.length:=by omega
  have h1' : ¬ (t.cells.length : Int) < 1:=by omega
  have h2' : ¬ (2048 : Int) < t.cells.length:=by omega
  have h3 : dl t.root=true:=by simp only [eW,Bool.and_eq_true] at hs;exact hs.2
  have hin:=Dz z1
  rw [h3] at cv
  refine Dp Tryz.func91 ?_
  intro C hP hN
  simp only [Tryz.f91] at hN ⊢
  with_reducible repeat' (first|refine Sp.h ?_|((first|refine Wd ?_|refine Ss.h ?_|refine Sc.h (cv) ?_|(refine Sb.h ?_ ?_ ?_<;>(try intro hgd)<;>try exact Xy))<;>simp -implicitDefEqProofs (maxSteps:=2000000) [hP,hN,h1',h1,h2,h2',hin,show (24 : Int) * t.cells.length≤281474976710656 by omega,show (t.cells.length : Int)≤9223372036854775807 by omega,show 0 < t.cells.length by omega]<;>try refine Ya ?_)|refine X2 ?_ ?_|(refine Xd ?_ ?_<;>intro hcd<;>try exact Xx))
  refine WP.loopN [7] t.cells.length (fun i st=>∃ L,BInv t i L∧st.t 4=.pv (Z t.cells.length)∧st.t 5=.arr 27 t.cells.length∧st.t 33=.pv (.sl (t.cells.map jD))∧st.t 34=.pv (Z t.cells.length)∧st.t 35=.pv (Z i)∧st.h 7=none∧st.h 27=some (.row 32 1 (L.map nV) 0)) (by exact ⟨iw t,B4 hs,by simp [hin]⟩) ?_
  rintro i st hi ⟨L,hB,g4,g5,g33,g34,g35,hb7,hb27⟩
  have hLl:=hB.bok.len
  by_cases hlt : i < t.cells.length
  ·have hw:=aw hlt hl
   have hlL : i < L.length:=by omega
   generalize hc : t.cells[i]=c at *
   have hci : t.cells[i]?=some c:=by rw [List.getElem?_eq_getElem hlt,hc]
   have bad : ff t.cells.length i c L=none→aV t=false∧aM t=[]:=fun h=>vN (B5 hB hlt (by rw [hc];exact h))
   have cl:=B3 c
   have cf:=HA c.v
   have cz:=Kc c.v
   cases hx : L[i]? with
   |none=>rw [List.getElem?_eq_getElem hlL] at hx;cases hx
   |some x=>
   cases x with
   |none=>
    have hx':=kh hx hlL
    obtain ⟨e1,e2⟩:=bad (by simp [ff,hx])
    rw [e1,e2]
    with_reducible repeat' (first|refine Sp.h ?_|((first|refine Wd ?_|refine Ss.h ?_|(refine Sb.h ?_ ?_ ?_<;>(try intro hgd)<;>try exact Xy))<;>simp -implicitDefEqProofs (maxSteps:=2000000) [hP,hN,g4,g5,g33,g34,g35,hb7,hb27,hlt,hw,hx,hx',gU,gV,hci,hc,hLl]<;>try refine Ya ?_)|refine X2 ?_ ?_|(refine Xd ?_ ?_<;>intro hcd<;>try exact Xx))
   |some b=>
   have hx':=kh hx hlL
   obtain ⟨hbl,hbv⟩:=hB.bok.ok i b hx
   have hb2 : b≠[]:=by intro h;rw [h] at hbl;simp at hbl;omega
   have hb1 : b.isEmpty=false:=by simp [hb2]
   cases hlf : dI c with
   |true=>
    rw [hlf] at cl
    cases hf : dD c.v with
    |true=>
     rw [hf] at cf
     have hnx:=vM (L':=L) hB hlt (by rw [hc,jL (t:=t) hx hlf,hf];rfl)
     with_reducible repeat' (first|refine Sp.h ?_|((first|refine Wd ?_|refine Ss.h ?_|refine Sc.h (cl) ?_|refine Sc.h (cf) ?_|(refine Sb.h ?_ ?_ ?_<;>(try intro hgd)<;>try exact Xy))<;>simp -implicitDefEqProofs (maxSteps:=2000000) [hP,hN,g4,g5,g33,g34,g35,hb7,hb27,hlt,hw,hx,hx',gU,gV,hci,hc,hLl,hb1,hb2]<;>try refine Ya ?_)|refine X2 ?_ ?_|(refine Xd ?_ ?_<;>intro hcd<;>try exact Xx))
     all_goals exact ⟨L,hnx,rfl⟩
    |false=>
     rw [hf] at cf
     obtain ⟨e1,e2⟩:=bad (by rw [jL (t:=t) hx hlf,hf];rfl)
     rw [e1,e2]
     with_reducible repeat' (first|refine Sp.h ?_|((first|refine Wd ?_|refine Ss.h ?_|refine Sc.h (cl) ?_|refine Sc.h (cf) ?_|(refine Sb.h ?_ ?_ ?_<;>(try intro hgd)<;>try exact Xy))<;>simp -implicitDefEqProofs (maxSteps:=2000000) [hP,hN,g4,g5,g33,g34,g35,hb7,hb27,hlt,hw,hx,hx',gU,gV,hci,hc,hLl,hb1,hb2]<;>try refine Ya ?_)|refine X2 ?_ ?_|(refine Xd ?_ ?_<;>intro hcd<;>try exact Xx))
   |false=>
    rw [hlf] at cl
    cases hin' : gM t.cells.length i c with
    |false=>
     obtain ⟨e1,e2⟩:=bad (pm hx hlf (.inl hin'))
     rw [e1,e2]
     rcases yP hin' with h|h|h|h|h|h
     all_goals try rw [h] at cz
     all_goals
      with_reducible repeat' (first|refine Sp.h ?_|((first|refine Wd ?_|refine Ss.h ?_|refine Sc.h (cl) ?_|refine Sc.h (cz) ?_|(refine Sb.h ?_ ?_ ?_<;>(try intro hgd)<;>try exact Xy))<;>simp -implicitDefEqProofs (maxSteps:=2000000) [hP,hN,g4,g5,g33,g34,g35,hb7,hb27,hlt,hw,hx,hx',gU,gV,hci,hc,hLl,hb1,hb2,h]<;>try refine Ya ?_)|refine X2 ?_ ?_|(refine Xd ?_ ?_<;>intro hcd<;>try exact Xx))
    |true=>
     obtain ⟨i1,i2,i3,i4,i5,i6⟩:=fg.1 hin'
     rw [i6] at cz
     have ch:=Hj b c.joint (by omega)
     have j1 : ¬ c.low≤i:=by omega
     have j2 : ¬ (t.cells.length : Int)≤c.low:=by omega
     have j3 : ¬ c.high≤i:=by omega
     have j4 : ¬ (t.cells.length : Int)≤c.high:=by omega
     have k1 : c.low.toNat < t.cells.length:=by omega
     have k2 : c.high.toNat < t.cells.length:=by omega
     have k3 : 0≤c.low:=by omega
     have k4 : 0≤c.high:=by omega
     have k5 : c.low.toNat < L.length:=by omega
     have k6 : c.high.toNat < L.length:=by omega
     cases hh : bB b c.joint with
     |false=>
      obtain ⟨e1,e2⟩:=bad (pm hx hlf (.inr (.inl hh)))
      rw [e1,e2]
      rw [hh] at ch
      with_reducible repeat' (first|refine Sp.h ?_|((first|refine Wd ?_|refine Ss.h ?_|refine Sc.h (cl) ?_|refine Sc.h (cz) ?_|refine Sc.h (ch) ?_|(refine Sb.h ?_ ?_ ?_<;>(try intro hgd)<;>try exact Xy))<;>simp -implicitDefEqProofs (maxSteps:=2000000) [hP,hN,g4,g5,g33,g34,g35,hb7,hb27,hlt,hw,hx,hx',gU,gV,hci,hc,hLl,hb1,hb2,j1,j2,j3,j4,i5]<;>try refine Ya ?_)|refine X2 ?_ ?_|(refine Xd ?_ ?_<;>intro hcd<;>try exact Xx))
     |true=>
     rw [hh] at ch
     cases ha : L[c.low.toNat]? with
     |none=>rw [List.getElem?_eq_getElem k5] at ha;cases ha
     |some xa=>
     have ha':=kh ha k5
     cases xa with
     |some d=>
      obtain ⟨e1,e2⟩:=bad (pm hx hlf (.inr (.inr (.inl ⟨d,ha⟩))))
      rw [e1,e2]
      obtain ⟨hdl,_⟩:=hB.bok.ok _ d ha
      have hd2 : d≠[]:=by intro h;rw [h] at hdl;simp at hdl;omega
      have hd1 : d.isEmpty=false:=by simp [hd2]
      with_reducible repeat' (first|refine Sp.h ?_|((first|refine Wd ?_|refine Ss.h ?_|refine Sc.h (cl) ?_|refine Sc.h (cz) ?_|refine Sc.h (ch) ?_|(refine Sb.h ?_ ?_ ?_<;>(try intro hgd)<;>try exact Xy))<;>simp -implicitDefEqProofs (maxSteps:=2000000) [hP,hN,g4,g5,g33,g34,g35,hb7,hb27,hlt,hw,hx,hx',gU,gV,hci,hc,hLl,hb1,hb2,j1,j2,j3,j4,i5,k1,k2,k3,k4,ha,ha',hd1,hd2]<;>try refine Ya ?_)|refine X2 ?_ ?_|(refine Xd ?_ ?_<;>intro hcd<;>try exact Xx))
     |none=>
     cases hz : L[c.high.toNat]? with
     |none=>rw [List.getElem?_eq_getElem k6] at hz;cases hz
     |some xz=>
     have hz':=kh hz k6
     cases xz with
     |some d=>
      obtain ⟨e1,e2⟩:=bad (pm hx hlf (.inr (.inr (.inr ⟨d,hz⟩))))
      rw [e1,e2]
      obtain ⟨hdl,_⟩:=hB.bok.ok _ d hz
      have hd2 : d≠[]:=by intro h;rw [h] at hdl;simp at hdl;omega
      have hd1 : d.isEmpty=false:=by simp [hd2]
      with_reducible repeat' (first|refine Sp.h ?_|((first|refine Wd ?_|refine Ss.h ?_|refine Sc.h (cl) ?_|refine Sc.h (cz) ?_|refine Sc.h (ch) ?_|(refine Sb.h ?_ ?_ ?_<;>(try intro hgd)<;>try exact Xy))<;>simp -implicitDefEqProofs (maxSteps:=2000000) [hP,hN,g4,g5,g33,g34,g35,hb7,hb27,hlt,hw,hx,hx',gU,gV,hci,hc,hLl,hb1,hb2,j1,j2,j3,j4,i5,k1,k2,k3,k4,ha,ha',hz,hz',hd1,hd2]<;>try refine Ya ?_)|refine X2 ?_ ?_|(refine Xd ?_ ?_<;>intro hcd<;>try exact Xx))
     |none=>
      have hnx:=vM hB hlt (by rw [hc];exact pj hx hlf hin' hh ha hz)
      with_reducible repeat' (first|refine Sp.h ?_|((first|refine Wd ?_|refine Ss.h ?_|refine Sc.h (cl) ?_|refine Sc.h (cz) ?_|refine Sc.h (ch) ?_|(refine Sb.h ?_ ?_ ?_<;>(try intro hgd)<;>try exact Xy))<;>simp -implicitDefEqProofs (maxSteps:=2000000) [hP,hN,g4,g5,g33,g34,g35,hb7,hb27,hlt,hw,hx,hx',gU,gV,hci,hc,hLl,hb1,hb2,j1,j2,j3,j4,i5,k1,k2,k3,k4,ha,ha',hz,hz']<;>try refine Ya ?_)|refine X2 ?_ ?_|(refine Xd ?_ ?_<;>intro hcd<;>try exact Xx))
      all_goals exact ⟨_,hnx,set_row⟩
  ·have hdn:=B6 hB hlt
   have hmap:=DD hdn
   have hval : aV t=true:=by simp [aV,hdn]
   rw [hval,← hmap]
   with_reducible repeat' (first|refine Sp.h ?_|((first|refine Wd ?_|refine Ss.h ?_|(refine Sb.h ?_ ?_ ?_<;>(try intro hgd)<;>try exact Xy))<;>simp -implicitDefEqProofs (maxSteps:=2000000) [hP,hN,g4,g5,g33,g34,g35,hb7,hb27,hlt,hLl]<;>try refine Ya ?_)|refine X2 ?_ ?_|(refine Xd ?_ ?_<;>intro hcd<;>try exact Xx))
end Go.Ab
namespace Go.Ab
open Go.Proofs
def DA (x : AV) (fb : Option bI) : Option bI:=match x with
 |.pv (.val (.slice none 0 0))=>some (.pv (Z 0),[])
 |_=>fb
@[simp] theorem Hz (fb : Option bI) : DA (.pv (.val (.slice none 0 0))) fb=some (.pv (Z 0),[]):=rfl
theorem DB {dst : Option Nat} {ty : TypeId} {pos : String} {aft : Array Edge} {g : Option (Nat × Bool)} (x : Operand) :
 aR Tryz.prog ⟨dst,.call ⟨.builtin .len,#[x],#[32]⟩,ty,pos,aft,g⟩ (fun _=>.pv (.val (.slice none 0 0)))=some (.pv (Z 0),[]):=by kernel_rfl
@[simp] theorem KA {dst : Option Nat} {ty : TypeId} {pos : String} {aft : Array Edge} {g : Option (Nat × Bool)} {ρ : Operand→AV} (x : Operand) :
 aR Tryz.prog ⟨dst,.call ⟨.builtin .len,#[x],#[32]⟩,ty,pos,aft,g⟩ ρ=DA (ρ x) (ga Tryz.prog ⟨dst,.call ⟨.builtin .len,#[x],#[32]⟩,ty,pos,aft,g⟩ ρ):=by
 unfold DA
 split
 ·rename_i hs
  rw [← DB (dst:=dst) (ty:=ty) (pos:=pos) (aft:=aft) (g:=g) x]
  refine jQ (by intro _ _ h;cases h) ?_
  intro y hy
  simp [Op.operands,Call.operands] at hy
  subst hy;exact hs
 ·rfl
end Go.Ab
namespace Go.Ab
open Go.Proofs
abbrev zN (n : Nat) : PV:=Z (n : Int)
abbrev ns (l : List Nat) : PV:=.sl (l.map zN)
theorem Gt (t : Tr) (hl : t.cells.length≤9223372036854775807) : ab Tryz.prog 73 [.pv (dV t)] [] [] (.pv (B (aV t))):=by
 have cb:=Ea t hl
 refine Dp Tryz.func73 ?_
 intro C hP hN
 simp only [Tryz.f73] at hN ⊢
 with_reducible repeat' (first|refine Sp.h ?_|((first|refine Ss.h ?_|refine Sc.h (cb) ?_|(refine Sb.h ?_ ?_ ?_<;>(try intro hgd)<;>try exact Xy))<;>simp -implicitDefEqProofs (maxSteps:=2000000) [hP,hN])|refine X2 ?_ ?_|(refine Xd ?_ ?_<;>intro hcd<;>try exact Xx))
theorem lB {t : Tr} {i j : Int} (h : dx t i j=false) : bw t i j=t:=by simp [bw,h]
theorem ig {t : Tr} {i : Int} {v : Verd} (h : cD t i v=false) : kM t i v=t:=by simp [kM,h]
end Go.Ab
namespace Go.Ab
open Go.Proofs
end Go.Ab
namespace Go.Ab
open Go.Proofs
theorem Gu (xs : List (Int)) (hl : xs.length≤16777216) : ab Tryz.prog 191 [.pv (.sl (xs.map Z))] [] [] (.pv (.sl (xs.map Z))):=by
 by_cases hx : xs=[]
 ·subst hx
  refine Dp Tryz.func191 ?_
  intro C hP hN
  simp only [Tryz.f191] at hN ⊢
  with_reducible repeat' (first|refine Sp.h ?_|((first|refine Wh [5] ?_|refine Ss.h ?_|(refine Sb.h ?_ ?_ ?_<;>(try intro hgd)<;>try exact Xy))<;>simp -implicitDefEqProofs (maxSteps:=2000000) [hP,hN])|refine X2 ?_ ?_|(refine Xd ?_ ?_<;>intro hcd<;>try exact Xx))
 ·have hne : xs.isEmpty=false:=by simp [hx]
  refine Dp Tryz.func191 ?_
  intro C hP hN
  simp only [Tryz.f191] at hN ⊢
  with_reducible repeat' (first|refine Sp.h ?_|((first|refine Wh [5] ?_|refine Ss.h ?_|(refine Sb.h ?_ ?_ ?_<;>(try intro hgd)<;>try exact Xy))<;>simp -implicitDefEqProofs (maxSteps:=2000000) [hP,hN,hx,hne,show xs.length * 8≤140737488355328 by omega,show xs.length≤9223372036854775807 by omega])|refine X2 ?_ ?_|(refine Xd ?_ ?_<;>intro hcd<;>try exact Xx))
theorem Eb (xs : List (Int × Int)) (hl : xs.length≤16777216) : ab Tryz.prog 71 [.pv (.sl (xs.map aO))] [] [] (.pv (.sl (xs.map aO))):=by
 by_cases hx : xs=[]
 ·subst hx
  refine Dp Tryz.func71 ?_
  intro C hP hN
  simp only [Tryz.f71] at hN ⊢
  with_reducible repeat' (first|refine Sp.h ?_|((first|refine Wh [5] ?_|refine Ss.h ?_|(refine Sb.h ?_ ?_ ?_<;>(try intro hgd)<;>try exact Xy))<;>simp -implicitDefEqProofs (maxSteps:=2000000) [hP,hN])|refine X2 ?_ ?_|(refine Xd ?_ ?_<;>intro hcd<;>try exact Xx))
 ·have hne : xs.isEmpty=false:=by simp [hx]
  refine Dp Tryz.func71 ?_
  intro C hP hN
  simp only [Tryz.f71] at hN ⊢
  with_reducible repeat' (first|refine Sp.h ?_|((first|refine Wh [5] ?_|refine Ss.h ?_|(refine Sb.h ?_ ?_ ?_<;>(try intro hgd)<;>try exact Xy))<;>simp -implicitDefEqProofs (maxSteps:=2000000) [hP,hN,hx,hne,show xs.length * 16≤140737488355328 by omega,show xs.length≤9223372036854775807 by omega])|refine X2 ?_ ?_|(refine Xd ?_ ?_<;>intro hcd<;>try exact Xx))
end Go.Ab
namespace Go.Ab
open Go.Proofs
abbrev vQ (n : Nat) : PV:=Z (n : Int)
def dZ (t : Tr) : List (PV × PV):=(bK t).map fun i=>(vQ i,iv (aQ t (i : Int)))
def po (a : Act) : Nat:=match a.tmps.getD 14 undef with
 |.int _ v=>v.toNat
 |_=>0
def tL (l : Nat) (t : Tr) (i : Nat) : Nat→AV:=fun m=>if m=0 then .pv (.val (.func (.yield l) #[] #[])) else if m=1 then .pv (.rptr (dV t) 0) else if m=12 then .pv (.sl ((aM t).map iv)) else if m=13 then .pv (Z (aM t).length) else if m=14 then .pv (Z i) else .undef
def dT (l : Nat) (t : Tr) (i : Nat) (st : St) : Prop:=st.t 0=.pv (.val (.func (.yield l) #[] #[]))∧st.t 1=.pv (.rptr (dV t) 0)∧st.t 12=.pv (.sl ((aM t).map iv))∧st.t 13=.pv (Z (aM t).length)∧st.t 14=.pv (Z i)
def tX (l : Nat) (t : Tr) (i : Nat) (x y : Nat) (p q : PV) : Nat→AV:=fun m=>if m=x then .pv p else if m=y then .pv q else tL l t i m
theorem qN {M : Nat→Nat→Prop} {l : Nat} {t : Tr} {i : Nat} {st : St} {a : Act} {w : World} (h : dA 33 M (dk st.t) a w) (hk : dT l t i st) : dA 33 M (tL l t i) a w:=h.sub (fun m=>by
 obtain ⟨k0,k1,k12,k13,k14⟩:=hk
 unfold tL
 by_cases m0 : m=0
 ·subst m0;right;simp [dk,k0]
 by_cases m1 : m=1
 ·subst m1;right;simp [dk,k1]
 by_cases m12 : m=12
 ·subst m12;right;simp [dk,k12]
 by_cases m13 : m=13
 ·subst m13;right;simp [dk,k13]
 by_cases m14 : m=14
 ·subst m14;right;simp [dk,k14]
 ·left;simp [m0,m1,m12,m13,m14])
theorem pt {M : Nat→Nat→Prop} {l : Nat} {t : Tr} {i x y : Nat} {p q : PV} {st : St} {a : Act} {w : World} (h : dA 33 M (dk st.t) a w) (hk : dT l t i st) (hx : st.t x=.pv p) (hy : st.t y=.pv q) : dA 33 M (tX l t i x y p q) a w:=by
 have h2:=qN h hk
 refine ⟨h.1,fun m=>?_⟩
 unfold tX
 split
 ·rename_i e;subst e
  have:=h.2 m
  simp only [dk,hx] at this
  exact this
 ·split
  ·rename_i e;subst e
   have:=h.2 m
   simp only [dk,hy] at this
   exact this
  ·exact h2.2 m
theorem G6 {M : Nat→Nat→Prop} {l : Nat} {t : Tr} {i x y : Nat} {p q : PV} {tt : Nat→AV} {a : Act} {w : World} (h : dA 33 M tt a w) (k0 : tt 0=.pv (.val (.func (.yield l) #[] #[]))) (k1 : tt 1=.pv (.rptr (dV t) 0)) (k12 : tt 12=.pv (.sl ((aM t).map iv))) (k13 : tt 13=.pv (Z (aM t).length)) (k14 : tt 14=.pv (Z i)) (hx : tt x=.pv p) (hy : tt y=.pv q) : dA 33 M (tX l t i x y p q) a w:=h.sub (fun m=>by
 unfold tX tL
 by_cases mx : m=x
 ·subst mx;right;simp [hx]
 by_cases my : m=y
 ·subst my;right;simp [mx,hy]
 by_cases m0 : m=0
 ·subst m0;right;simp [k0,mx,my]
 by_cases m1 : m=1
 ·subst m1;right;simp [k1,mx,my]
 by_cases m12 : m=12
 ·subst m12;right;simp [k12,mx,my]
 by_cases m13 : m=13
 ·subst m13;right;simp [k13,mx,my]
 by_cases m14 : m=14
 ·subst m14;right;simp [k14,mx,my]
 ·left;simp [m0,m1,m12,m13,m14,mx,my])
theorem r4 {t : Tr} {i : Nat} (hlf : dY t i=true) : ∀ {n : Nat},i < n→(dS t n)[(dS t i).length]?=some i
 |0,h=>by omega
 |n+1,h=>by
  rw [qL]
  by_cases e : i=n
  ·subst e
   rw [if_pos hlf];simp
  ·have ih:=r4 hlf (n:=n) (by omega)
   have hlt:=(List.getElem?_eq_some_iff.1 ih).1
   split
   ·rw [List.getElem?_append_left hlt];exact ih
   ·exact ih
theorem dA.put {N : Nat} {M : Nat→Nat→Prop} {t : Nat→AV} {a : Act} {w : World} (h : dA N M t a w) {d : Nat} (hd : d < N) {p : PV} {v : Value} (hv : Rep w M p v) : dA N M (az t d (.pv p)) (a.put (some d) v) w:=by
 have hd' : d < a.tmps.size:=by rw [h.1];exact hd
 refine ⟨by simpa [Act.put] using h.1,fun m=>?_⟩
 rw [mH hd']
 simp only [az]
 split
 ·exact .inr ⟨p,rfl,hv⟩
 ·exact h.2 m
theorem ES {fn : Func} (h : fn.results=#[]) (tmps : Array Value) (P : Program) (w : World) : (results fn tmps).run P w=.ok (.tuple #[]) w:=by
 unfold results
 rw [h]
 simp [go_sem]
theorem kO {N : Nat} {M : Nat→Nat→Prop} {t : Nat→AV} {a : Act} {w : World} (h : dA N M t a w) {m : Nat} {v : Value} (e : t m=.pv (.val v)) : a.tmps.getD m undef=v:=by
 rcases h.2 m with e'|⟨p,e',hr⟩
 ·rw [e] at e';cases e'
 ·rw [e] at e';injection e' with e';subst e'
  exact aS hr
theorem yf {N : Nat} {M : Nat→Nat→Prop} {t : Nat→AV} {a : Act} {w : World} (h : dA N M t a w) {m : Nat} {p : PV} (e : t m=.pv p) : Rep w M p (a.tmps.getD m undef):=by
 rcases h.2 m with e'|⟨p',e',hr⟩
 ·rw [e] at e';cases e'
 ·rw [e] at e';injection e' with e';subst e'
  exact hr
set_option maxRecDepth 100000 in
theorem Gv (t : Tr) (hl : t.cells.length≤9223372036854775807) : z9 Tryz.prog 297 [.rptr (dV t) 0] (dZ t):=by
 refine ⟨by kernel_rfl,fun n l lb W M J hJb hJg hY h0 hcap=>?_⟩
 obtain ⟨v1,rfl⟩ : ∃ v,lb=[v]:=by
  have:=hcap.1
  cases lb with
  |nil=>simp at this
  |cons v r=>cases r with
   |nil=>exact ⟨v,rfl⟩
   |cons=>simp at this
 have hrep1 : Rep W M (.rptr (dV t) 0) v1:=hcap.2 0 _ _ rfl rfl
 have hF:=fJ
 have cb:=Ea t hl
 refine callsIn_of_wp_marks Tryz.func297 rfl trivial ?_ rfl
 have H0 : dA 33 M (fun m=>if m=0 then .pv (.val (.func (.yield l) #[] #[])) else if m=1 then .pv (.rptr (dV t) 0) else .undef) { tmps:=((#[Value.func (.yield l) #[] #[]] : Array Value)++[v1].toArray)++Array.replicate (Tryz.f297.ntmps - ((#[Value.func (.yield l) #[] #[]] : Array Value)++[v1].toArray).size) undef,defers:=[] } W:=by
  refine ⟨by rw [Tryz.ntmps297];simp,fun m=>?_⟩
  by_cases m0 : m=0
  ·subst m0;exact .inr ⟨_,rfl,by simp;exact .val _⟩
  ·by_cases m1 : m=1
   ·subst m1;exact .inr ⟨_,rfl,by simpa using hrep1⟩
   ·left;simp [m0,m1]
 refine wpIn_seq (wpIn_mono (H0.step (hJb 0 M W h0) (Q:=fun e st'=>e=.normal∧st'.t 0=.pv (.val (.func (.yield l) #[] #[]))∧st'.t 1=.pv (.rptr (dV t) 0)∧st'.t 3=.pv (.sl ((aM t).map iv))) (fun C hP hN=>?_)) ?_)
 ·skip
  repeat' (first
   |with_reducible refine aq.seq ?_
   |(with_reducible ((first|refine aq.region hF (hn:=[]) (by kernel_rfl) ?_|refine gq (cb) ?_|refine aq.cond' ?_);simp -implicitDefEqProofs (maxSteps:=2000000) [hP,hN]))
   |(with_reducible refine dz (by simp) (fun hgd=>?_) (fun hgd=>?_)<;>first|(exfalso;simp at hgd;done)|(exfalso;simp at hgd;omega)|simp -implicitDefEqProofs (maxSteps:=2000000) [hP,hN])
   |with_reducible refine bT ?_ ?_
   |(with_reducible refine bE (fun hcd=>?_) (fun hcd=>?_)<;>(try (exfalso;clear hP hN;simp_all;done))<;>(try (exfalso;simp at *;omega)))
   |with_reducible refine aq.block ?_
   |(with_reducible ((first|refine aq.skip ?_|refine aq.exit ?_|refine aq.ret ?_);simp)))
 rintro e a1 w1 ⟨st1,⟨rfl,g0,g1,g3⟩,H1,hx1,hd1⟩
 have hJ1:=hJg 0 M W w1 h0 hx1
 have H1' : dA 33 M (fun m=>if m=0 then .pv (.val (.func (.yield l) #[] #[])) else if m=1 then .pv (.rptr (dV t) 0) else if m=3 then .pv (.sl ((aM t).map iv)) else .undef) a1 w1:=H1.sub (fun m=>by
  by_cases m0 : m=0
  ·subst m0;right;simp [dk,g0]
  ·by_cases m1 : m=1
   ·subst m1;right;simp [dk,g1]
   ·by_cases m3 : m=3
    ·subst m3;right;simp [dk,g3]
    ·left;simp [m0,m1,m3])
 show Code.wpIn Fence.wide n Tryz.prog _ _ a1 w1
 refine wpIn_seq (wpIn_mono (H1'.step (hJb 0 M w1 hJ1) (Q:=fun e st'=>e=.normal∧st'.t 0=.pv (.val (.func (.yield l) #[] #[]))∧st'.t 1=.pv (.rptr (dV t) 0)∧st'.t 12=.pv (.sl ((aM t).map iv))∧st'.t 13=.pv (Z (aM t).length)∧st'.t 14=.pv (Z 0)) (fun C hP hN=>?_)) ?_)
 ·skip
  repeat' (first
   |with_reducible refine aq.seq ?_
   |(with_reducible ((first|refine aq.region hF (hn:=[]) (by kernel_rfl) ?_|refine aq.cond' ?_);simp -implicitDefEqProofs (maxSteps:=2000000) [hP,hN]))
   |(with_reducible refine dz (by simp) (fun hgd=>?_) (fun hgd=>?_)<;>first|(exfalso;simp at hgd;done)|(exfalso;simp at hgd;omega)|simp -implicitDefEqProofs (maxSteps:=2000000) [hP,hN])
   |with_reducible refine bT ?_ ?_
   |(with_reducible refine bE (fun hcd=>?_) (fun hcd=>?_)<;>(try (exfalso;clear hP hN;simp_all;done))<;>(try (exfalso;simp at *;omega)))
   |with_reducible refine aq.block ?_
   |(with_reducible ((first|refine aq.skip ?_|refine aq.exit ?_|refine aq.ret ?_);simp)))
 rintro e a2 w2 ⟨st2,⟨rfl,k0,k1,k12,k13,k14⟩,H2,hx2,hd2⟩
 have hJ2:=hJg 0 M w1 w2 hJ1 hx2
 have H2' : dA 33 M (tL l t 0) a2 w2:=H2.sub (fun m=>by
  unfold tL
  by_cases m0 : m=0
  ·subst m0;right;simp [dk,k0]
  by_cases m1 : m=1
  ·subst m1;right;simp [dk,k1]
  by_cases m12 : m=12
  ·subst m12;right;simp [dk,k12]
  by_cases m13 : m=13
  ·subst m13;right;simp [dk,k13]
  by_cases m14 : m=14
  ·subst m14;right;simp [dk,k14]
  ·left;simp [m0,m1,m12,m13,m14])
 have hdd : a2.defers=[]:=by rw [hd2,hd1]
 clear H1 H1' H2 H0 g0 g1 g3 k0 k1 k12 k13 k14 hx1 hx2 hd1 hd2 hJ1 h0
 show Code.wpIn Fence.wide n Tryz.prog _ _ a2 w2
 refine wpIn_block (wpIn_loop (fun a w=>∃ i M',i≤(aM t).length∧J (dS t i).length M' w∧dA 33 M' (tL l t i) a w∧a.defers=[]) (fun a _=>(aM t).length - po a) ⟨0,M,Nat.zero_le _,by simpa [dS] using hJ2,H2',hdd⟩ ?_)
 clear hJ2 H2' hdd a2 w2 st2 a1 w1 st1
 rintro a w ⟨i,M',hi,hJ,hH,hdd⟩
 have hidx : po a=i:=by simp [po,kO hH (m:=14) (v:=.int .i64 i) (by simp [tL])]
 have hM':=hJb _ _ _ hJ
 by_cases hlt : i < (aM t).length
 ·have hv : aV t=true:=by
   cases h : aV t with
   |true=>rfl
   |false=>
    have : aM t=[]:=by
     simp only [aV] at h
     simp [aM,Option.isSome_eq_false_iff.1 h|> Option.isNone_iff_eq_none.1]
    rw [this] at hlt;simp at hlt
  have hbl:=kj hv
  have hic : i < t.cells.length:=by omega
  have hz:=eh.1 (gp hv)
  generalize hc : t.cells[i]=c at *
  have hci : t.cells[i]?=some c:=by rw [List.getElem?_eq_getElem hic,hc]
  obtain ⟨hbx,hbxl,_⟩:=jE hv (c:=(i : Int)) hic
  have hbx1 : (aM t)[i]?=some (aQ t i):=hbx
  have hbx2:=kh hbx1 hlt
  have hwi : IntKind.i64.wrap ((i : Int)+1)=(i : Int)+1:=aa (by omega) (by omega)
  have cl:=B3 c
  have hstep:=qL t i
  have hlfN : dY t i=dI c:=by simp [dY,hci]
  rw [hlfN] at hstep
  refine wpIn_seq (wpIn_mono (hH.step hM' (Q:=fun e st'=>e=.normal∧dT l t i st'∧st'.t 15=.pv (.val (.bool true))) (fun C hP hN=>?_)) ?_)
  ·skip
   repeat' (first
    |with_reducible refine aq.seq ?_
    |(with_reducible ((first|refine aq.region hF (hn:=[]) (by kernel_rfl) ?_|refine aq.cond' ?_);simp -implicitDefEqProofs (maxSteps:=2000000) [hP,hN,tL,dT,hlt]))
    |(with_reducible refine dz (by simp [tL,dT,hlt]) (fun hgd=>?_) (fun hgd=>?_)<;>first|(exfalso;simp at hgd;done)|(exfalso;simp at hgd;omega)|simp -implicitDefEqProofs (maxSteps:=2000000) [hP,hN,tL,dT,hlt])
    |with_reducible refine bT ?_ ?_
    |(with_reducible refine bE (fun hcd=>?_) (fun hcd=>?_)<;>(try (exfalso;clear hP hN;simp_all;done))<;>(try (exfalso;simp at *;omega)))
    |with_reducible refine aq.block ?_
    |(with_reducible ((first|refine aq.skip ?_|refine aq.exit ?_|refine aq.ret ?_);simp [tL,dT,hlt])))
  rintro e a1 w1 ⟨st1,⟨rfl,hk1,h15⟩,H1,hx1,hd1⟩
  have hJ1:=hJg _ _ _ _ hJ hx1
  have e15 : a1.eval (.tmp 15)=.bool true:=kO H1 (m:=15) (by simp [dk,h15])
  have K1:=qN H1 hk1
  show Code.wpIn Fence.wide n Tryz.prog _ _ a1 w1
  refine wpIn_seq (wpIn_cond_true e15 (wpIn_skip ?_))
  show Code.wpIn Fence.wide n Tryz.prog _ _ a1 w1
  refine wpIn_seq (wpIn_block ?_)
  refine wpIn_seq (wpIn_mono (K1.step (hJb _ _ _ hJ1) (Q:=fun e st'=>e=.normal∧dT l t i st'∧st'.t 5=.pv (Z i)∧st'.t 6=.pv (iv (aQ t i))) (fun C hP hN=>?_)) ?_)
  ·skip
   repeat' (first
    |with_reducible refine aq.seq ?_
    |(with_reducible ((first|refine aq.region hF (hn:=[]) (by kernel_rfl) ?_|refine aq.cond' ?_);simp -implicitDefEqProofs (maxSteps:=2000000) [hP,hN,tL,dT,hlt,hbx1,hbx2]))
    |(with_reducible refine dz (by simp [tL,dT,hlt,hbx1,hbx2]) (fun hgd=>?_) (fun hgd=>?_)<;>first|(exfalso;simp at hgd;done)|(exfalso;simp at hgd;omega)|simp -implicitDefEqProofs (maxSteps:=2000000) [hP,hN,tL,dT,hlt,hbx1,hbx2])
    |with_reducible refine bT ?_ ?_
    |(with_reducible refine bE (fun hcd=>?_) (fun hcd=>?_)<;>(try (exfalso;clear hP hN;simp_all;done))<;>(try (exfalso;simp at *;omega)))
    |with_reducible refine aq.block ?_
    |(with_reducible ((first|refine aq.skip ?_|refine aq.exit ?_|refine aq.ret ?_);simp [tL,dT,hlt,hbx1,hbx2])))
  rintro e a2 w2 ⟨st2,⟨rfl,hk2,h5,h6⟩,H2,hx2,hd2⟩
  have hJ2:=hJg _ _ _ _ hJ1 hx2
  have K2:=pt H2 hk2 h5 h6
  have hM2:=hJb _ _ _ hJ2
  show Code.wpIn Fence.wide n Tryz.prog _ _ a2 w2
  refine wpIn_seq (wpIn_mono (Q:=fun e a3 w3=>e=.normal∧∃ M3,J (dS t (i+1)).length M3 w3∧dA 33 M3 (tX l t i 31 31 (B false) (B false)) a3 w3∧a3.defers=[]) ?_ ?_)
  ·cases hlf : dI c with
   |false=>
    rw [hlf] at cl hstep
    rw [if_neg (by simp)] at hstep
    refine wpIn_mono (K2.step hM2 (Q:=fun e st'=>e=.normal∧dT l t i st'∧st'.t 31=.pv (.val (.bool false))) (fun C hP hN=>?_)) ?_
    ·skip
     repeat' (first
      |with_reducible refine aq.seq ?_
      |(with_reducible ((first|refine aq.region hF (hn:=[]) (by kernel_rfl) ?_|refine gq (cl) ?_|refine aq.cond' ?_);simp -implicitDefEqProofs (maxSteps:=2000000) [hP,hN,tX,tL,dT,hic,hci,hc]))
      |(with_reducible refine dz (by simp [tX,tL,dT,hic,hci,hc]) (fun hgd=>?_) (fun hgd=>?_)<;>first|(exfalso;simp at hgd;done)|(exfalso;simp at hgd;omega)|simp -implicitDefEqProofs (maxSteps:=2000000) [hP,hN,tX,tL,dT,hic,hci,hc])
      |with_reducible refine bT ?_ ?_
      |(with_reducible refine bE (fun hcd=>?_) (fun hcd=>?_)<;>(try (exfalso;clear hP hN;simp_all;done))<;>(try (exfalso;simp at *;omega)))
      |with_reducible refine aq.block ?_
      |(with_reducible ((first|refine aq.skip ?_|refine aq.exit ?_|refine aq.ret ?_);simp [tX,tL,dT,hic,hci,hc])))
    rintro e a3 w3 ⟨st3,⟨rfl,hk3,h31⟩,H3,hx3,hd3⟩
    exact ⟨rfl,M',by rw [hstep];exact hJg _ _ _ _ hJ2 hx3,pt H3 hk3 h31 h31,by rw [hd3,hd2,hd1];exact hdd⟩
   |true=>
    rw [hlf] at cl hstep hlfN
    rw [if_pos rfl] at hstep
    refine wpIn_region_list ?_
    rw [← List.take_append_drop 10 (Array.toList _)]
    refine cG _ ?_
    refine K2.list hM2 (hn:=[]) (Q:=fun st'=>dT l t i st'∧st'.t 25=.pv (.val (.bool true))∧st'.t 26=.pv (.val (.func (.yield l) #[] #[]))∧st'.t 27=.pv (Z i)∧st'.t 28=.pv (iv (aQ t i))) (fun o ho=>jT (by kernel_rfl) (List.mem_of_mem_take ho)) ?_ ?_
    ·simp -implicitDefEqProofs [tX,tL,dT,hic,hci,hc]
     refine gq cl ?_
     simp -implicitDefEqProofs [tX,tL,dT,hic,hci,hc]
    intro st3 a3 w3 ⟨hk3,h25,h26,h27,h28⟩ H3 hx3 hd3
    have hJ3:=hJg _ _ _ _ hJ2 hx3
    have hM3:=hJb _ _ _ hJ3
    have hxs : (dZ t)[(dS t i).length]?=some (vQ i,iv (aQ t (i : Int))):=by
     have hL : bK t=dS t t.cells.length:=by simp [bK,hv]
     simp [dZ,hL,r4 hlfN hic]
    have hy:=hY (n - 1) _ _ M' w3 _ _ hxs hJ3 (yf H3 (m:=27) (by simp [dk,h27])) (yf H3 (m:=28) (by simp [dk,h28]))
    refine Aa ?_ rfl rfl rfl (kO H3 (m:=26) (by simp [dk,h26])) hy ?_
    ·exact dc (H3.sim (P:=Tryz.prog) hM3).2.2 (by simp [fk,dk,h25])
    rintro e w4 ⟨rfl,M4,hJ4,hp4⟩
    refine ⟨_,rfl,?_⟩
    obtain ⟨y0,y1,y12,y13,y14⟩:=hk3
    have H5:=(H3.mono hp4).put (d:=29) (by decide) (p:=B true) (.val (.bool true))
    have K5 : dA 33 M4 (tX l t i 25 29 (B true) (B true)) (a3.put (some 29) (.bool true)) w4:=G6 H5 (by simp [az,dk,y0]) (by simp [az,dk,y1]) (by simp [az,dk,y12]) (by simp [az,dk,y13]) (by simp [az,dk,y14]) (by simp [az,dk,h25]) (by simp [az])
    refine K5.list (hJb _ _ _ hJ4) (hn:=[]) (Q:=fun st'=>dT l t i st'∧st'.t 31=.pv (.val (.bool false))) (fun o ho c' hc'=>by simp at ho;rcases ho with rfl|rfl<;>cases hc') ?_ ?_
    ·simp -implicitDefEqProofs [tX,tL,dT]
    intro st6 a6 w6 ⟨hk6,h31⟩ H6 hx6 hd6
    refine ⟨rfl,M4,?_,pt H6 hk6 h31 h31,?_⟩
    ·have : (dS t (i+1)).length=(dS t i).length+1:=by rw [hstep];simp
     rw [this];exact hJg _ _ _ _ hJ4 hx6
    ·rw [hd6,gW,hd3,hd2,hd1];exact hdd
  rintro e a3 w3 ⟨rfl,M3,hJ3,H3,hd3⟩
  show Code.wpIn Fence.wide n Tryz.prog _ _ a3 w3
  refine wpIn_cond_false (kO H3 (m:=31) (by simp [tX])) (wpIn_skip ?_)
  show Code.wpIn Fence.wide n Tryz.prog _ _ a3 w3
  refine wpIn_mono (H3.step (hJb _ _ _ hJ3) (Q:=fun e st'=>e=.normal∧dT l t (i+1) st') (fun C hP hN=>?_)) ?_
  ·skip
   repeat' (first
    |with_reducible refine aq.seq ?_
    |(with_reducible ((first|refine aq.region hF (hn:=[]) (by kernel_rfl) ?_|refine aq.cond' ?_);simp -implicitDefEqProofs (maxSteps:=2000000) [hP,hN,tX,tL,dT,hwi]))
    |(with_reducible refine dz (by simp [tX,tL,dT,hwi]) (fun hgd=>?_) (fun hgd=>?_)<;>first|(exfalso;simp at hgd;done)|(exfalso;simp at hgd;omega)|simp -implicitDefEqProofs (maxSteps:=2000000) [hP,hN,tX,tL,dT,hwi])
    |with_reducible refine bT ?_ ?_
    |(with_reducible refine bE (fun hcd=>?_) (fun hcd=>?_)<;>(try (exfalso;clear hP hN;simp_all;done))<;>(try (exfalso;simp at *;omega)))
    |with_reducible refine aq.block ?_
    |(with_reducible ((first|refine aq.skip ?_|refine aq.exit ?_|refine aq.ret ?_);simp [tX,tL,dT,hwi])))
  rintro e a4 w4 ⟨st4,⟨rfl,hk4⟩,H4,hx4,hd4⟩
  have K4:=qN H4 hk4
  refine ⟨⟨i+1,M3,by omega,hJg _ _ _ _ hJ3 hx4,K4,by rw [hd4];exact hd3⟩,?_⟩
  have hidx4 : po a4=i+1:=by
   simp only [po,kO K4 (m:=14) (v:=.int .i64 ((i+1 : Nat) : Int)) (by simp [tL])]
   omega
  show (aM t).length - po a4 < (aM t).length - po a
  omega
 ·have hin : i=(aM t).length:=by omega
  refine wpIn_seq (wpIn_mono (hH.step hM' (Q:=fun e st'=>e=.normal∧st'.t 15=.pv (.val (.bool false))) (fun C hP hN=>?_)) ?_)
  ·skip
   repeat' (first
    |with_reducible refine aq.seq ?_
    |(with_reducible ((first|refine aq.region hF (hn:=[]) (by kernel_rfl) ?_|refine aq.cond' ?_);simp -implicitDefEqProofs (maxSteps:=2000000) [hP,hN,tL,hlt]))
    |(with_reducible refine dz (by simp [tL,hlt]) (fun hgd=>?_) (fun hgd=>?_)<;>first|(exfalso;simp at hgd;done)|(exfalso;simp at hgd;omega)|simp -implicitDefEqProofs (maxSteps:=2000000) [hP,hN,tL,hlt])
    |with_reducible refine bT ?_ ?_
    |(with_reducible refine bE (fun hcd=>?_) (fun hcd=>?_)<;>(try (exfalso;clear hP hN;simp_all;done))<;>(try (exfalso;simp at *;omega)))
    |with_reducible refine aq.block ?_
    |(with_reducible ((first|refine aq.skip ?_|refine aq.exit ?_|refine aq.ret ?_);simp [tL,hlt])))
  rintro e a1 w1 ⟨st1,⟨rfl,h15⟩,H1,hx1,hd1⟩
  have hJ1:=hJg _ _ _ _ hJ hx1
  have e15 : a1.eval (.tmp 15)=.bool false:=kO H1 (m:=15) (by simp [dk,h15])
  show Code.wpIn Fence.wide n Tryz.prog _ _ a1 w1
  refine wpIn_seq (wpIn_cond_false e15 (wpIn_exit ?_))
  show LeavesInM Fence.wide n Tryz.prog Tryz.f297 a1.tmps _ a1.defers .returning w1
  rw [hd1,hdd]
  refine ⟨_,ES Tryz.results297 _ _ _,⟨_,rfl⟩,M',?_⟩
  have hlen : (dZ t).length=(dS t i).length:=by
   cases hv : aV t with
   |true=>
    have:=kj hv
    rw [hin,this];simp [dZ,bK,hv]
   |false=>
    have : aM t=[]:=by
     simp only [aV] at hv
     simp [aM,Option.isSome_eq_false_iff.1 hv|> Option.isNone_iff_eq_none.1]
    rw [hin,this];simp [dZ,bK,hv,dS]
  rw [hlen];exact hJ1
end Go.Ab
namespace Go.Ab
open Go.Proofs
set_option maxRecDepth 100000 in
theorem AY : qZ Tryz.prog 199:=by
 refine ⟨by kernel_rfl,fun n args w=>?_⟩
 refine callsDIn_of_wpSIn Tryz.func199 rfl trivial fun c₀ cs hu=>?_
 apply wpSIn_seq
 apply wpSIn_region
 have hk : ∀ k,k < Tryz.f199.ntmps→k < args.size+(Tryz.f199.ntmps - args.size):=by intro k h;omega
 rw [Tryz.ntmps199] at hk
 have h0:=hk 0 (by decide)
 have h1:=hk 1 (by decide)
 have h2:=hk 2 (by decide)
 simp [wpOpsSIn,go_sem,recoverD,hu,Tryz.ntmps199,Exit.thenS,h0,h1,h2]
 refine wpSIn_cond (t:=false) (by simp [Act.eval,h0,h1,h2]) ?_
 simp only [Bool.false_eq_true,if_false]
 refine wpSIn_of_wpIn rfl (wpIn_skip ?_)
 cases c₀
 simp_all [bodyPostS,results,Tryz.results199]
set_option maxRecDepth 100000 in
theorem AZ : qZ Tryz.prog 197:=by
 refine ⟨by kernel_rfl,fun n args w=>?_⟩
 refine callsDIn_of_wpSIn Tryz.func197 rfl trivial fun c₀ cs hu=>?_
 apply wpSIn_seq
 apply wpSIn_region
 have hk : ∀ k,k < Tryz.f197.ntmps→k < args.size+(Tryz.f197.ntmps - args.size):=by intro k h;omega
 rw [Tryz.ntmps197] at hk
 have h0:=hk 0 (by decide)
 have h1:=hk 1 (by decide)
 have h2:=hk 2 (by decide)
 simp [wpOpsSIn,go_sem,recoverD,hu,Tryz.ntmps197,Exit.thenS,h0,h1,h2]
 refine wpSIn_cond (t:=false) (by simp [Act.eval,h0,h1,h2]) ?_
 simp only [Bool.false_eq_true,if_false]
 refine wpSIn_of_wpIn rfl (wpIn_skip ?_)
 cases c₀
 simp_all [bodyPostS,results,Tryz.results197]
theorem Gw (t : Tr) : ab Tryz.prog 198 [.pv (dV t)] [] [] (.pv (.fn (.func 297) [] [.rptr (dV t) 0])):=by
 refine Dp Tryz.func198 ?_
 intro C hP hN
 simp only [Tryz.f198] at hN ⊢
 with_reducible repeat' (first|refine Sp.h ?_|((first|refine Ss.h ?_|(refine Sb.h ?_ ?_ ?_<;>(try intro hgd)<;>try exact Xy))<;>simp -implicitDefEqProofs (maxSteps:=2000000) [hP,hN])|refine X2 ?_ ?_|(refine Xd ?_ ?_<;>intro hcd<;>try exact Xx))
def LI (kb kr : Nat) (acc : List Nat) (h : Hp) : Prop:=(acc=[]∧h kb=some (.box [.pv (.val (.slice none 0 0))] false false)∧h kr=none)∨(acc≠[]∧h kb=some (.box [.arr kr acc.length] false false)∧h kr=some (.row 3 1 (acc.map vQ) 0))
theorem vR {t : Tr} {i : Nat} {x : PV × PV} (h : (dZ t)[i]?=some x) : ∃ e,(bK t)[i]?=some e∧x=(vQ e,iv (aQ t (e : Int))):=by
 rw [dZ,List.getElem?_map,Option.map_eq_some_iff] at h
 obtain ⟨e,h1,h2⟩:=h
 exact ⟨e,h1,h2.symm⟩
theorem yg {l : List Nat} {i e : Nat} (h : l[i]?=some e) : l.take (i+1)=l.take i++[e]:=by
 obtain ⟨h1,h2⟩:=List.getElem?_eq_some_iff.1 h
 rw [List.take_succ_eq_append_getElem h1,h2]
theorem qO (t : Tr) : (bK t).length≤2048:=by
 cases hv : aV t with
 |false=>simp [bK,hv]
 |true=>
  have:=eh.1 (gp hv)
  have:=yQ t t.cells.length
  simp [bK,hv];omega
set_option maxRecDepth 100000 in
theorem Lr (t : Tr) (hl : t.cells.length≤9223372036854775807) : ab Tryz.prog 89 [.pv (dV t)] [] [] (.pv (.sl ((bK t).map vQ))):=by
 refine y9 (args:=[dV t]) Tryz.func89 rfl (by kernel_rfl) (by simp [Tryz.f89]) ?_
 intro C hP hN hCS
 simp only [Tryz.f89] at hN ⊢
 have hF:=fJ
 refine lQ.seq hCS ?_
 repeat' (first
  |with_reducible refine aq.seq ?_
  |(with_reducible ((first|refine aq.region hF (hn:=[]) (by kernel_rfl) ?_|refine aq.cond' ?_);simp -implicitDefEqProofs (maxSteps:=2000000) [hP,hN]))
  |(with_reducible refine dz (by simp) (fun hgd=>?_) (fun hgd=>?_)<;>first|(exfalso;simp at hgd;done)|(exfalso;simp at hgd;omega)|simp -implicitDefEqProofs (maxSteps:=2000000) [hP,hN])
  |with_reducible refine bT ?_ ?_
  |(with_reducible refine bE (fun hcd=>?_) (fun hcd=>?_)<;>(try (exfalso;clear hP hN;simp_all;done))<;>(try (exfalso;simp at *;omega)))
  |with_reducible refine aq.block ?_
  |(with_reducible ((first|refine aq.skip ?_|refine aq.exit ?_|refine aq.ret ?_);simp)))
 refine lQ.defer (pre:=[_]) (hn:=[]) (g:=199) rfl (fun o ho c' hc'=>by simp at ho;subst ho;cases hc') rfl rfl rfl rfl rfl (by rw [hP];exact AY) ?_
 simp -implicitDefEqProofs [hP,hN]
 refine lQ.range hCS (gf:=297) (caps:=[.rptr (dV t) 0]) (xs:=dZ t) (by rw [hP];exact Gv t hl) (by rw [hN];decide) (by rw [hN];decide) (ks:=[2]) (hin:=fun _=>[.val (.slice none 0 0)]) (t:=fun m=>if m=2 then .ptr 2 0 else .undef) ?_ (fun i h=>LI 2 12 ((bK t).take i) h) ?_ ?_ ?_ (by kernel_rfl) (hn:=[]) ?_
 ·skip
  repeat' (first
   |with_reducible refine aq.seq ?_
   |(with_reducible ((first|refine aq.region hF (hn:=[]) (by kernel_rfl) ?_|refine gq (Gw t) ?_|refine aq.cond' ?_);simp -implicitDefEqProofs (maxSteps:=2000000) [hP,hN]))
   |(with_reducible refine dz (by simp) (fun hgd=>?_) (fun hgd=>?_)<;>first|(exfalso;simp at hgd;done)|(exfalso;simp at hgd;omega)|simp -implicitDefEqProofs (maxSteps:=2000000) [hP,hN])
   |with_reducible refine bT ?_ ?_
   |(with_reducible refine bE (fun hcd=>?_) (fun hcd=>?_)<;>(try (exfalso;clear hP hN;simp_all;done))<;>(try (exfalso;simp at *;omega)))
   |with_reducible refine aq.block ?_
   |(with_reducible ((first|refine aq.skip ?_|refine aq.exit ?_|refine aq.ret ?_);simp)))
  all_goals (intro m;by_cases hm : m=2<;>simp [hm])
 ·left;simp [ma]
 ·intro i h k hk hi
  simp at hk;subst hk
  rcases hi with ⟨_,h2,_⟩|⟨_,h2,_⟩
  ·exact ⟨_,h2⟩
  ·exact ⟨_,h2⟩
 ·intro C1 C2 l i x h hP1 hN1 hP2 hN2 hx hI
  obtain ⟨e,he,rfl⟩:=vR hx
  have hac:=yg he
  have hsm:=qO t
  have hlen : ((bK t).take i).length≤2048:=by rw [List.length_take];omega
  rw [hac]
  generalize (bK t).take i=acc at *
  have hF:=tv l
  have hP0:=hP
  have hN0:=hN
  clear hP hN
  have hP:=hP1.trans hP0
  have hN:=hN1.trans hN0
  have hPb:=hP2.trans hP0
  have hNb:=hN2.trans hN0
  have hA : (acc.length+1) * 8≤140737488355328:=by omega
  have hA' : acc.length+1≤9223372036854775807:=by omega
  rcases hI with ⟨rfl,q2,q12⟩|⟨hne,q2,q12⟩
  ·skip
   repeat' (first
    |with_reducible refine aq.seq ?_
    |(with_reducible ((first|refine aq.region hF (hn:=[]) (by kernel_rfl) ?_|refine aq.cond' ?_);simp -implicitDefEqProofs (maxSteps:=2000000) [hP,hN,hPb,hNb,eO,q2,q12]))
    |(with_reducible refine dz (by simp [hPb,hNb,eO,q2,q12]) (fun hgd=>?_) (fun hgd=>?_)<;>first|(exfalso;simp at hgd;done)|(exfalso;simp at hgd;omega)|simp -implicitDefEqProofs (maxSteps:=2000000) [hP,hN,hPb,hNb,eO,q2,q12])
    |with_reducible refine bT ?_ ?_
    |(with_reducible refine bE (fun hcd=>?_) (fun hcd=>?_)<;>(try (exfalso;clear hP hN;simp_all;done))<;>(try (exfalso;simp at *;omega)))
    |with_reducible refine aq.block ?_
    |(with_reducible ((first|refine aq.skip ?_|refine aq.exit ?_|refine aq.ret ?_);simp [hPb,hNb,eO,q2,q12])))
   all_goals exact .inr ⟨by simp,by simp [az],by simp [az]⟩
  ·skip
   repeat' (first
    |with_reducible refine aq.seq ?_
    |(with_reducible ((first|refine aq.region hF (hn:=[]) (by kernel_rfl) ?_|refine aq.cond' ?_);simp -implicitDefEqProofs (maxSteps:=2000000) [hP,hN,hPb,hNb,eO,q2,q12,hA,hA']))
    |(with_reducible refine dz (by simp [hPb,hNb,eO,q2,q12,hA,hA']) (fun hgd=>?_) (fun hgd=>?_)<;>first|(exfalso;simp at hgd;done)|(exfalso;simp at hgd;omega)|simp -implicitDefEqProofs (maxSteps:=2000000) [hP,hN,hPb,hNb,eO,q2,q12,hA,hA'])
    |with_reducible refine bT ?_ ?_
    |(with_reducible refine bE (fun hcd=>?_) (fun hcd=>?_)<;>(try (exfalso;clear hP hN;simp_all;done))<;>(try (exfalso;simp at *;omega)))
    |with_reducible refine aq.block ?_
    |(with_reducible ((first|refine aq.skip ?_|refine aq.exit ?_|refine aq.ret ?_);simp [hPb,hNb,eO,q2,q12,hA,hA'])))
   all_goals exact .inr ⟨by simp,by simp [az],by simp [az]⟩
 ·intro h hI
  have hall : (bK t).take (dZ t).length=bK t:=List.take_of_length_le (by simp [dZ])
  rw [hall] at hI
  rcases hI with ⟨e,q2,q12⟩|⟨hne,q2,q12⟩
  ·rw [e]
   simp -implicitDefEqProofs [hP,hN,q2,q12]
  ·simp -implicitDefEqProofs [hP,hN,q2,q12]
def nX (t : Tr) (q : List Int) (e : Nat) : Bool:=gY (aQ t (e : Int)) q
def DG (t : Tr) (q : List Int) : List Nat:=(bK t).filter (nX t q)
theorem DH {t : Tr} {i e : Nat} (h : (bK t)[i]?=some e) : (aQ t (e : Int)).length≤10:=by
 obtain ⟨hv,c,hc,_⟩:=yR.1 (List.mem_of_getElem? h)
 have:=(jE hv (c:=(e : Int)) (List.getElem?_eq_some_iff.1 hc).1).2.1
 have:=eh.1 (gp hv)
 omega
set_option maxRecDepth 100000 in
theorem Ls (t : Tr) (q : List Int) (hl : t.cells.length≤9223372036854775807) : ab Tryz.prog 88 [.pv (dV t),.pv (zs q)] [] [] (.pv (.sl ((DG t q).map vQ))):=by
 refine y9 (args:=[dV t,zs q]) Tryz.func88 rfl (by kernel_rfl) (by simp [Tryz.f88]) ?_
 intro C hP hN hCS
 simp only [Tryz.f88] at hN ⊢
 have hF:=fJ
 refine lQ.seq hCS ?_
 repeat' (first
  |with_reducible refine aq.seq ?_
  |(with_reducible ((first|refine aq.region hF (hn:=[]) (by kernel_rfl) ?_|refine aq.cond' ?_);simp -implicitDefEqProofs (maxSteps:=2000000) [hP,hN]))
  |(with_reducible refine dz (by simp) (fun hgd=>?_) (fun hgd=>?_)<;>first|(exfalso;simp at hgd;done)|(exfalso;simp at hgd;omega)|simp -implicitDefEqProofs (maxSteps:=2000000) [hP,hN])
  |with_reducible refine bT ?_ ?_
  |(with_reducible refine bE (fun hcd=>?_) (fun hcd=>?_)<;>(try (exfalso;clear hP hN;simp_all;done))<;>(try (exfalso;simp at *;omega)))
  |with_reducible refine aq.block ?_
  |(with_reducible ((first|refine aq.skip ?_|refine aq.exit ?_|refine aq.ret ?_);simp)))
 refine lQ.defer (pre:=[_]) (hn:=[]) (g:=197) rfl (fun o ho c' hc'=>by simp at ho;subst ho;cases hc') rfl rfl rfl rfl rfl (by rw [hP];exact AZ) ?_
 simp -implicitDefEqProofs [hP,hN]
 refine lQ.range hCS (gf:=297) (caps:=[.rptr (dV t) 0]) (xs:=dZ t) (by rw [hP];exact Gv t hl) (by rw [hN];decide) (by rw [hN];decide) (ks:=[3,4]) (hin:=fun k=>if k=3 then [zs q] else [.val (.slice none 0 0)]) (t:=fun m=>if m=3 then .ptr 3 0 else if m=4 then .ptr 4 0 else .undef) ?_ (fun i h=>LI 4 18 (((bK t).take i).filter (nX t q)) h∧h 3=some (.box [.pv (zs q)] false false)) ?_ ?_ ?_ (by kernel_rfl) (hn:=[]) ?_
 ·skip
  repeat' (first
   |with_reducible refine aq.seq ?_
   |(with_reducible ((first|refine aq.region hF (hn:=[]) (by kernel_rfl) ?_|refine gq (Gw t) ?_|refine aq.cond' ?_);simp -implicitDefEqProofs (maxSteps:=2000000) [hP,hN]))
   |(with_reducible refine dz (by simp) (fun hgd=>?_) (fun hgd=>?_)<;>first|(exfalso;simp at hgd;done)|(exfalso;simp at hgd;omega)|simp -implicitDefEqProofs (maxSteps:=2000000) [hP,hN])
   |with_reducible refine bT ?_ ?_
   |(with_reducible refine bE (fun hcd=>?_) (fun hcd=>?_)<;>(try (exfalso;clear hP hN;simp_all;done))<;>(try (exfalso;simp at *;omega)))
   |with_reducible refine aq.block ?_
   |(with_reducible ((first|refine aq.skip ?_|refine aq.exit ?_|refine aq.ret ?_);simp)))
  all_goals (intro m;by_cases hm : m=3<;>by_cases hm' : m=4<;>simp [hm,hm'])
 ·refine ⟨.inl ?_,?_⟩<;>simp [ma]
 ·intro i h k hk hi
  simp at hk
  rcases hk with rfl|rfl
  ·exact ⟨_,hi.2⟩
  ·rcases hi.1 with ⟨_,h2,_⟩|⟨_,h2,_⟩
   ·exact ⟨_,h2⟩
   ·exact ⟨_,h2⟩
 ·intro C1 C2 l i x h hP1 hN1 hP2 hN2 hx ⟨hI,q3⟩
  obtain ⟨e,he,rfl⟩:=vR hx
  have hac:=yg he
  have hsm:=qO t
  have hlen : (((bK t).take i).filter (nX t q)).length≤2048:=by
   have:=List.length_filter_le (nX t q) ((bK t).take i)
   rw [List.length_take] at this;omega
  have hbl:=DH he
  have ch:=Fj (aQ t (e : Int)) q (by omega)
  have hac2 : ((bK t).take (i+1)).filter (nX t q)=((bK t).take i).filter (nX t q)++(if nX t q e then [e] else []):=by
   rw [hac,List.filter_append]
   cases h : nX t q e<;>simp [h]
  rw [hac2]
  have hlp : nX t q e=gY (aQ t (e : Int)) q:=rfl
  rw [hlp]
  generalize ((bK t).take i).filter (nX t q)=acc at *
  have hF:=tv l
  have hP0:=hP
  have hN0:=hN
  clear hP hN
  have hP:=hP1.trans hP0
  have hN:=hN1.trans hN0
  have hPb:=hP2.trans hP0
  have hNb:=hN2.trans hN0
  have hA : (acc.length+1) * 8≤140737488355328:=by omega
  have hA' : acc.length+1≤9223372036854775807:=by omega
  cases hh : gY (aQ t (e : Int)) q with
  |false=>
   rw [hh] at ch
   rcases hI with ⟨rfl,q2,q12⟩|⟨hne,q2,q12⟩
   ·skip
    repeat' (first
     |with_reducible refine aq.seq ?_
     |(with_reducible ((first|refine aq.region hF (hn:=[]) (by kernel_rfl) ?_|refine gq (ch) ?_|refine aq.cond' ?_);simp -implicitDefEqProofs (maxSteps:=2000000) [hP,hN,hPb,hNb,eO,q2,q12,q3]))
     |(with_reducible refine dz (by simp [hPb,hNb,eO,q2,q12,q3]) (fun hgd=>?_) (fun hgd=>?_)<;>first|(exfalso;simp at hgd;done)|(exfalso;simp at hgd;omega)|simp -implicitDefEqProofs (maxSteps:=2000000) [hP,hN,hPb,hNb,eO,q2,q12,q3])
     |with_reducible refine bT ?_ ?_
     |(with_reducible refine bE (fun hcd=>?_) (fun hcd=>?_)<;>(try (exfalso;clear hP hN;simp_all;done))<;>(try (exfalso;simp at *;omega)))
     |with_reducible refine aq.block ?_
     |(with_reducible ((first|refine aq.skip ?_|refine aq.exit ?_|refine aq.ret ?_);simp [hPb,hNb,eO,q2,q12,q3])))
    all_goals exact .inl ⟨by simp,q2,q12⟩
   ·skip
    repeat' (first
     |with_reducible refine aq.seq ?_
     |(with_reducible ((first|refine aq.region hF (hn:=[]) (by kernel_rfl) ?_|refine gq (ch) ?_|refine aq.cond' ?_);simp -implicitDefEqProofs (maxSteps:=2000000) [hP,hN,hPb,hNb,eO,q2,q12,q3]))
     |(with_reducible refine dz (by simp [hPb,hNb,eO,q2,q12,q3]) (fun hgd=>?_) (fun hgd=>?_)<;>first|(exfalso;simp at hgd;done)|(exfalso;simp at hgd;omega)|simp -implicitDefEqProofs (maxSteps:=2000000) [hP,hN,hPb,hNb,eO,q2,q12,q3])
     |with_reducible refine bT ?_ ?_
     |(with_reducible refine bE (fun hcd=>?_) (fun hcd=>?_)<;>(try (exfalso;clear hP hN;simp_all;done))<;>(try (exfalso;simp at *;omega)))
     |with_reducible refine aq.block ?_
     |(with_reducible ((first|refine aq.skip ?_|refine aq.exit ?_|refine aq.ret ?_);simp [hPb,hNb,eO,q2,q12,q3])))
    all_goals exact .inr ⟨by simp [hne],by simp [q2],by simp [q12]⟩
  |true=>
   rw [hh] at ch
   rcases hI with ⟨rfl,q2,q12⟩|⟨hne,q2,q12⟩
   ·skip
    repeat' (first
     |with_reducible refine aq.seq ?_
     |(with_reducible ((first|refine aq.region hF (hn:=[]) (by kernel_rfl) ?_|refine gq (ch) ?_|refine aq.cond' ?_);simp -implicitDefEqProofs (maxSteps:=2000000) [hP,hN,hPb,hNb,eO,q2,q12,q3]))
     |(with_reducible refine dz (by simp [hPb,hNb,eO,q2,q12,q3]) (fun hgd=>?_) (fun hgd=>?_)<;>first|(exfalso;simp at hgd;done)|(exfalso;simp at hgd;omega)|simp -implicitDefEqProofs (maxSteps:=2000000) [hP,hN,hPb,hNb,eO,q2,q12,q3])
     |with_reducible refine bT ?_ ?_
     |(with_reducible refine bE (fun hcd=>?_) (fun hcd=>?_)<;>(try (exfalso;clear hP hN;simp_all;done))<;>(try (exfalso;simp at *;omega)))
     |with_reducible refine aq.block ?_
     |(with_reducible ((first|refine aq.skip ?_|refine aq.exit ?_|refine aq.ret ?_);simp [hPb,hNb,eO,q2,q12,q3])))
    all_goals exact .inr ⟨by simp,by simp [az],by simp [az]⟩
   ·skip
    repeat' (first
     |with_reducible refine aq.seq ?_
     |(with_reducible ((first|refine aq.region hF (hn:=[]) (by kernel_rfl) ?_|refine gq (ch) ?_|refine aq.cond' ?_);simp -implicitDefEqProofs (maxSteps:=2000000) [hP,hN,hPb,hNb,eO,q2,q12,q3,hA,hA']))
     |(with_reducible refine dz (by simp [hPb,hNb,eO,q2,q12,q3,hA,hA']) (fun hgd=>?_) (fun hgd=>?_)<;>first|(exfalso;simp at hgd;done)|(exfalso;simp at hgd;omega)|simp -implicitDefEqProofs (maxSteps:=2000000) [hP,hN,hPb,hNb,eO,q2,q12,q3,hA,hA'])
     |with_reducible refine bT ?_ ?_
     |(with_reducible refine bE (fun hcd=>?_) (fun hcd=>?_)<;>(try (exfalso;clear hP hN;simp_all;done))<;>(try (exfalso;simp at *;omega)))
     |with_reducible refine aq.block ?_
     |(with_reducible ((first|refine aq.skip ?_|refine aq.exit ?_|refine aq.ret ?_);simp [hPb,hNb,eO,q2,q12,q3,hA,hA'])))
    all_goals exact .inr ⟨by simp,by simp [az],by simp [az]⟩
 ·intro h ⟨hI,q3⟩
  have hall : (bK t).take (dZ t).length=bK t:=List.take_of_length_le (by simp [dZ])
  rw [hall] at hI
  show eH _ _ _ _ _ _ _
  unfold DG
  rcases hI with ⟨e,q2,q12⟩|⟨hne,q2,q12⟩
  ·rw [e]
   simp -implicitDefEqProofs [hP,hN,q2,q12]
  ·simp -implicitDefEqProofs [hP,hN,q2,q12]
end Go.Ab
namespace Go.Ab
open Go.Proofs
theorem nd {t : Tr} {L : OL} (h : cw t=some L) {i : Nat} {b : Bx} (hb : L[i]?=some (some b)) : aQ t (i : Int)=b:=by
 rw [go h] at hb
 rw [List.getElem?_map,Option.map_eq_some_iff] at hb
 obtain ⟨x,h1,h2⟩:=hb
 injection h2 with h2;subst h2
 simp [aQ,h1]
theorem r5 {t : Tr} (hv : aV t=true) {i : Nat} {c : Cel} (hc : t.cells[i]?=some c) (hlf : dI c=false) :
 gM t.cells.length i c=true∧bB (aQ t (i : Int)) c.joint=true∧aQ t c.low=bu (aQ t (i : Int)) c.joint∧aQ t c.high=bF (aQ t (i : Int)) c.joint:=by
 obtain ⟨L,hL⟩:=Option.isSome_iff_exists.1 hv
 have hlt:=(List.getElem?_eq_some_iff.1 hc).1
 have hP:=ly (P:=fun k M=>BOk t k M∧(i < k→∃ b,M[i]?=some (some b)∧gM t.cells.length i c=true∧bB b c.joint=true∧M[c.low.toNat]?=some (some (bu b c.joint))∧M[c.high.toNat]?=some (some (bF b c.joint)))) hL ⟨ph (k9 hL),by omega⟩ (by
  rintro k d M M' hk ⟨hbo,hp⟩ hm
  refine ⟨pi hbo hm,fun hik=>?_⟩
  by_cases e : k=i
  ·subst e
   rw [hc] at hk;injection hk with hk;subst hk
   obtain ⟨b,hb,⟨h1,_⟩|⟨_,hi,hh,hlo,hhi,rfl⟩⟩:=i7 hm
   ·rw [hlf] at h1;cases h1
   ·have hin:=fg.1 hi
    refine ⟨b,?_,hi,hh,?_,?_⟩
    ·rw [nc hbo.len hi,if_neg (by omega),if_neg (by omega)];exact hb
    ·rw [nc hbo.len hi,if_neg (by omega),if_pos rfl]
    ·rw [nc hbo.len hi,if_pos rfl]
  ·obtain ⟨b,h1,h2,h3,h4,h5⟩:=hp (by omega)
   exact ⟨b,kl hm h1,h2,h3,kl hm h4,kl hm h5⟩)
 obtain ⟨b,h1,h2,h3,h4,h5⟩:=hP.2 hlt
 have hin:=fg.1 h2
 have e0:=nd hL h1
 have e1:=nd hL h4
 have e2:=nd hL h5
 rw [Int.toNat_of_nonneg (by omega)] at e1 e2
 rw [e0,e1,e2]
 exact ⟨h2,h3,rfl,rfl⟩
theorem DI {t : Tr} (hv : aV t=true) : aQ t 0=t.root:=by
 obtain ⟨L,hL⟩:=Option.isSome_iff_exists.1 hv
 have hP:=ly (P:=fun _ M=>M[0]?=some (some t.root)) hL (by simp [iw]) (fun k d M M' _ hp hm=>kl hm hp)
 exact nd hL hP
theorem A0 {b : Bx} {j : Int} (h : bB b j=true) {q : List Int} (hq : gY b q=true) : ∃ c x,q[j.toNat]?=some c∧(bu b j)[j.toNat]?=some x∧(c≤x.2→gY (bu b j) q=true)∧(x.2≤c→gY (bF b j) q=true):=by
 obtain ⟨x,hx,hv,h3,ea,ez⟩:=sQ h
 have hvb:=(m9.1 h).2.1
 obtain ⟨va,vz⟩:=nW h
 obtain ⟨l1,m1⟩:=(uU hvb).1 hq
 have hlt:=(List.getElem?_eq_some_iff.1 hx).1
 have hqj : q[j.toNat]?=some (q[j.toNat]'(by omega)):=List.getElem?_eq_getElem _
 have hm:=m1 j.toNat x _ hx hqj
 refine ⟨_,(x.1,(x.1+x.2) / 2),hqj,by rw [ea];simp [hlt],fun hle=>?_,fun hle=>?_⟩
 ·refine (uU va).2 ⟨by rw [ea];simpa using l1,fun i y z hy hz=>?_⟩
  rw [ea,List.getElem?_set] at hy
  split at hy
  ·rename_i e;subst e
   simp [hlt] at hy;subst hy
   rw [hqj] at hz;injection hz with hz;subst hz
   exact ⟨hm.1,hle⟩
  ·exact m1 i y z hy hz
 ·refine (uU vz).2 ⟨by rw [ez];simpa using l1,fun i y z hy hz=>?_⟩
  rw [ez,List.getElem?_set] at hy
  split at hy
  ·rename_i e;subst e
   simp [hlt] at hy;subst hy
   rw [hqj] at hz;injection hz with hz;subst hz
   exact ⟨hle,hm.2⟩
  ·exact m1 i y z hy hz
def km (t : Tr) (q : List Int) (at_ : Nat) : Nat:=match t.cells[at_]? with
 |some c=>if dI c then at_ else if q[c.joint.toNat]?.getD 0≤((aQ t c.low)[c.joint.toNat]?.getD (0,0)).2 then c.low.toNat else c.high.toNat
 |none=>at_
def fh (t : Tr) (q : List Int) : Nat→Nat
 |0=>0
 |k+1=>km t q (fh t q k)
def gO (t : Tr) (q : List Int) : Bool:=aV t && gY t.root q
def rC (t : Tr) (q : List Int) : Int:=if gO t q then (fh t q t.cells.length : Nat) else 0
theorem DJ {t : Tr} (hv : aV t=true) {q : List Int} {i : Nat} {c : Cel} (hc : t.cells[i]?=some c) (hlf : dI c=false) (hq : gY (aQ t (i : Int)) q=true) :
 i < km t q i∧km t q i < t.cells.length∧gY (aQ t (km t q i : Int)) q=true:=by
 obtain ⟨h1,h2,h3,h4⟩:=r5 hv hc hlf
 have hin:=fg.1 h1
 obtain ⟨cc,x,e1,e2,e3,e4⟩:=A0 h2 hq
 unfold km
 rw [hc]
 simp only [hlf,Bool.false_eq_true,if_false,e1,h3,e2,Option.getD_some]
 split
 ·rename_i hle
  refine ⟨by omega,by omega,?_⟩
  rw [Int.toNat_of_nonneg (by omega),h3];exact e3 hle
 ·rename_i hle
  refine ⟨by omega,by omega,?_⟩
  rw [Int.toNat_of_nonneg (by omega),h4];exact e4 (by omega)
theorem yh {t : Tr} {q : List Int} (h : gO t q=true) : ∀ k,fh t q k < t.cells.length∧gY (aQ t (fh t q k : Int)) q=true∧(dY t (fh t q k)=true∨k≤fh t q k)
 |0=>by
  simp only [gO,Bool.and_eq_true] at h
  have hz:=eh.1 (gp h.1)
  refine ⟨by simp only [fh];omega,?_,.inr (Nat.zero_le _)⟩
  simp only [fh]
  rw [show ((0 : Nat) : Int)=0 from rfl,DI h.1];exact h.2
 |k+1=>by
  obtain ⟨i1,i2,i3⟩:=yh h k
  have hv : aV t=true:=by simp only [gO,Bool.and_eq_true] at h;exact h.1
  have hc:=List.getElem?_eq_getElem i1
  simp only [fh]
  cases hlf : dI t.cells[fh t q k] with
  |true=>
   have e : km t q (fh t q k)=fh t q k:=by simp [km,hc,hlf]
   rw [e]
   exact ⟨i1,i2,.inl (by simp [dY,hc,hlf])⟩
  |false=>
   obtain ⟨j1,j2,j3⟩:=DJ hv hc hlf i2
   refine ⟨j2,j3,.inr ?_⟩
   rcases i3 with i3|i3
   ·simp [dY,hc,hlf] at i3
   ·omega
theorem t9 {t : Tr} {q : List Int} {k : Nat} (h : dY t (fh t q k)=true) : ∀ m,fh t q (k+m)=fh t q k
 |0=>rfl
 |m+1=>by
  rw [← Nat.add_assoc]
  simp only [fh]
  rw [t9 h m]
  obtain ⟨c,hc,hl,_⟩:=qM h
  simp [km,hc,hl]
def ko (a b : Bx) : Prop:=∃ (j : Nat) (x y : Int × Int),a[j]?=some x∧b[j]?=some y∧(x.2≤y.1∨y.2≤x.1)
theorem ko.symm {a b : Bx} (h : ko a b) : ko b a:=by
 obtain ⟨j,x,y,h1,h2,h3⟩:=h
 exact ⟨j,y,x,h2,h1,h3.symm⟩
def live (t : Tr) (k j : Nat) : Prop:=k≤j∨dY t j=true
end Go.Ab
namespace Go.Ab
open Go.Proofs
def eF (t : Tr) (i : Int) : Bool:=aV t && decide (0≤i) && decide (i < t.cells.length)
def kp (t : Tr) (i : Int) : Bx:=if eF t i then aQ t i else []
theorem nf {t : Tr} {i : Int} (h : eF t i=false) : kp t i=[]:=by simp [kp,h]
theorem Gx (t : Tr) (i : Int) (hl : t.cells.length≤9223372036854775807) : ab Tryz.prog 22 [.pv (dV t),.pv (Z i)] [] [] (.pv (.tup [iv (kp t i),B (eF t i)])):=by
 have cb:=Ea t hl
 cases hv : aV t with
 |false=>
  have hno : eF t i=false:=by simp [eF,hv]
  rw [nf hno,hno]
  rw [hv] at cb
  refine Dp Tryz.func22 ?_
  intro C hP hN
  simp only [Tryz.f22] at hN ⊢
  with_reducible repeat' (first|refine Sp.h ?_|((first|refine Ss.h ?_|refine Sc.h (cb) ?_|(refine Sb.h ?_ ?_ ?_<;>(try intro hgd)<;>try exact Xy))<;>simp -implicitDefEqProofs (maxSteps:=2000000) [hP,hN])|refine X2 ?_ ?_|(refine Xd ?_ ?_<;>intro hcd<;>try exact Xx))
 |true=>
  rw [hv] at cb
  have hbl:=kj hv
  have hz:=eh.1 (gp hv)
  by_cases h1 : i < 0
  ·have hno : eF t i=false:=by
    have : decide (0≤i)=false:=by simp;omega
    simp only [eF,this,Bool.and_false,Bool.false_and]
   rw [nf hno,hno]
   refine Dp Tryz.func22 ?_
   intro C hP hN
   simp only [Tryz.f22] at hN ⊢
   with_reducible repeat' (first|refine Sp.h ?_|((first|refine Ss.h ?_|refine Sc.h (cb) ?_|(refine Sb.h ?_ ?_ ?_<;>(try intro hgd)<;>try exact Xy))<;>simp -implicitDefEqProofs (maxSteps:=2000000) [hP,hN,h1])|refine X2 ?_ ?_|(refine Xd ?_ ?_<;>intro hcd<;>try exact Xx))
  ·obtain ⟨k,rfl⟩:=Int.eq_ofNat_of_zero_le (show 0≤i by omega)
   by_cases h2 : t.cells.length≤k
   ·have hno : eF t k=false:=by
     have : decide ((k : Int) < t.cells.length)=false:=by simp;omega
     simp only [eF,this,Bool.and_false,Bool.false_and]
    rw [nf hno,hno]
    refine Dp Tryz.func22 ?_
    intro C hP hN
    simp only [Tryz.f22] at hN ⊢
    with_reducible repeat' (first|refine Sp.h ?_|((first|refine Ss.h ?_|refine Sc.h (cb) ?_|(refine Sb.h ?_ ?_ ?_<;>(try intro hgd)<;>try exact Xy))<;>simp -implicitDefEqProofs (maxSteps:=2000000) [hP,hN,h1,h2,hbl])|refine X2 ?_ ?_|(refine Xd ?_ ?_<;>intro hcd<;>try exact Xx))
   ·have hlt : k < t.cells.length:=by omega
    have hlt' : k < (aM t).length:=by omega
    obtain ⟨hb1,hb2,_⟩:=jE hv (c:=(k : Int)) hlt
    have hb1' : (aM t)[k]?=some (aQ t k):=hb1
    have hb3:=kh hb1' hlt'
    have hyes : eF t k=true:=by simp [eF,hv,hlt]
    have hbo : kp t k=aQ t k:=by simp [kp,hyes]
    rw [hbo,hyes]
    have cc:=Eb (aQ t k) (by omega)
    refine Dp Tryz.func22 ?_
    intro C hP hN
    simp only [Tryz.f22] at hN ⊢
    with_reducible repeat' (first|refine Sp.h ?_|((first|refine Ss.h ?_|refine Sc.h (cb) ?_|refine Sc.h (cc) ?_|(refine Sb.h ?_ ?_ ?_<;>(try intro hgd)<;>try exact Xy))<;>simp -implicitDefEqProofs (maxSteps:=2000000) [hP,hN,h1,h2,hbl,hlt,hlt',hb1',hb3])|refine X2 ?_ ?_|(refine Xd ?_ ?_<;>intro hcd<;>try exact Xx))
theorem HB (v : Verd) : ab Tryz.prog 72 [.pv (rB v)] [] [] (.pv (jD (aE v))):=by
 refine Dp Tryz.func72 ?_
 intro C hP hN
 simp only [Tryz.f72] at hN ⊢
 with_reducible repeat' (first|refine Sp.h ?_|((first|refine Ss.h ?_|(refine Sb.h ?_ ?_ ?_<;>(try intro hgd)<;>try exact Xy))<;>simp -implicitDefEqProofs (maxSteps:=2000000) [hP,hN])|refine X2 ?_ ?_|(refine Xd ?_ ?_<;>intro hcd<;>try exact Xx))
 all_goals simp [aE]
theorem Kl (xs : List (Int × Int × Int)) (hl : xs.length≤16777216) : ab Tryz.prog 190 [.pv (.sl (xs.map aC))] [] [] (.pv (.sl (xs.map aC))):=by
 by_cases hx : xs=[]
 ·subst hx
  refine Dp Tryz.func190 ?_
  intro C hP hN
  simp only [Tryz.f190] at hN ⊢
  with_reducible repeat' (first|refine Sp.h ?_|((first|refine Wh [5] ?_|refine Ss.h ?_|(refine Sb.h ?_ ?_ ?_<;>(try intro hgd)<;>try exact Xy))<;>simp -implicitDefEqProofs (maxSteps:=2000000) [hP,hN])|refine X2 ?_ ?_|(refine Xd ?_ ?_<;>intro hcd<;>try exact Xx))
 ·have hne : xs.isEmpty=false:=by simp [hx]
  refine Dp Tryz.func190 ?_
  intro C hP hN
  simp only [Tryz.f190] at hN ⊢
  with_reducible repeat' (first|refine Sp.h ?_|((first|refine Wh [5] ?_|refine Ss.h ?_|(refine Sb.h ?_ ?_ ?_<;>(try intro hgd)<;>try exact Xy))<;>simp -implicitDefEqProofs (maxSteps:=2000000) [hP,hN,hx,hne,show xs.length * 24≤140737488355328 by omega,show xs.length≤9223372036854775807 by omega])|refine X2 ?_ ?_|(refine Xd ?_ ?_<;>intro hcd<;>try exact Xx))
theorem DK : ab Tryz.prog 188 [.pv (.sl [])] [] [] (.pv (.sl [])):=by
 refine Dp Tryz.func188 ?_
 intro C hP hN
 simp only [Tryz.f188] at hN ⊢
 with_reducible repeat' (first|refine Sp.h ?_|((first|refine Wh [5] ?_|refine Ss.h ?_|(refine Sb.h ?_ ?_ ?_<;>(try intro hgd)<;>try exact Xy))<;>simp -implicitDefEqProofs (maxSteps:=2000000) [hP,hN])|refine X2 ?_ ?_|(refine Xd ?_ ?_<;>intro hcd<;>try exact Xx))
theorem DL (xs : List Cel) (hl : xs.length≤16777216) (hx : xs≠[]) : ab Tryz.prog 188 [.pv (.sl (xs.map jD))] [] [] (.row 54 8 (xs.map jD)):=by
 have hne : xs.isEmpty=false:=by simp [hx]
 refine Dp Tryz.func188 ?_
 intro C hP hN
 simp only [Tryz.f188] at hN ⊢
 with_reducible repeat' (first|refine Sp.h ?_|((first|refine Wh [5] ?_|refine Ss.h ?_|(refine Sb.h ?_ ?_ ?_<;>(try intro hgd)<;>try exact Xy))<;>simp -implicitDefEqProofs (maxSteps:=2000000) [hP,hN,hx,hne,show xs.length * 112≤140737488355328 by omega,show xs.length≤9223372036854775807 by omega])|refine X2 ?_ ?_|(refine Xd ?_ ?_<;>intro hcd<;>try exact Xx))
def ua (n : Nat) (v : Verd) : Prop:=v.nor.length≤n∧v.left.length≤n∧v.right.length≤n
theorem Gy (v : Verd) (hv : ua 16777216 v) : ab Tryz.prog 83 [.pv (rB v)] [] [] (.pv (rB v)):=by
 have c1:=Kl v.nor hv.1
 have c2:=Gu v.left hv.2.1
 have c3:=Gu v.right hv.2.2
 refine Dp Tryz.func83 ?_
 intro C hP hN
 simp only [Tryz.f83] at hN ⊢
 with_reducible repeat' (first|refine Sp.h ?_|((first|refine Ss.h ?_|refine Sc.h (c1) ?_|refine Sc.h (c2) ?_|refine Sc.h (c3) ?_|(refine Sb.h ?_ ?_ ?_<;>(try intro hgd)<;>try exact Xy))<;>simp -implicitDefEqProofs (maxSteps:=2000000) [hP,hN])|refine X2 ?_ ?_|(refine Xd ?_ ?_<;>intro hcd<;>try exact Xx))
theorem HC (r : List (Int × Int)) (hl : r.length≤16777216) : ab Tryz.prog 16 [.pv (iv r)] [] [] (.pv (.tup [dV (uT r),B (dl r)])):=by
 have cc:=Eb r hl
 have cl : ab Tryz.prog 72 [.pv (.agg [Z 0,.sl [],Z 0,.sl [],.sl []])] [] [] (.pv (.agg [Z (-1),Z (-1),Z (-1),Z 0,.sl [],Z 0,.sl [],.sl []])):=HB dh
 have cv : ab Tryz.prog 73 [.pv (.agg [iv r,.sl [.agg [Z (-1),Z (-1),Z (-1),Z 0,.sl [],Z 0,.sl [],.sl []]]])] [] [] (.pv (B (dl r))):=by
  have:=Gt ⟨r,[aE dh]⟩ (by simp)
  rw [vP] at this;exact this
 cases h : dl r with
 |true=>
  rw [h] at cv
  refine Dp Tryz.func16 ?_
  intro C hP hN
  simp only [Tryz.f16] at hN ⊢
  with_reducible repeat' (first|refine Sp.h ?_|((first|refine Ss.h ?_|refine Sc.h (cc) ?_|refine Sc.h (cl) ?_|refine Sc.h (cv) ?_|(refine Sb.h ?_ ?_ ?_<;>(try intro hgd)<;>try exact Xy))<;>simp -implicitDefEqProofs (maxSteps:=2000000) [hP,hN])|refine X2 ?_ ?_|(refine Xd ?_ ?_<;>intro hcd<;>try exact Xx))
  all_goals simp [uT,h,aE,dh]
 |false=>
  rw [h] at cv
  refine Dp Tryz.func16 ?_
  intro C hP hN
  simp only [Tryz.f16] at hN ⊢
  with_reducible repeat' (first|refine Sp.h ?_|((first|refine Ss.h ?_|refine Sc.h (cc) ?_|refine Sc.h (cl) ?_|refine Sc.h (cv) ?_|(refine Sb.h ?_ ?_ ?_<;>(try intro hgd)<;>try exact Xy))<;>simp -implicitDefEqProofs (maxSteps:=2000000) [hP,hN])|refine X2 ?_ ?_|(refine Xd ?_ ?_<;>intro hcd<;>try exact Xx))
  all_goals simp [uT,h]
end Go.Ab
namespace Go.Ab
open Go.Proofs
structure TSm (t : Tr) : Prop where
 root : t.root.length≤16777216
 cells : t.cells.length≤16777216
 vs : ∀ c ∈ t.cells,ua 16777216 c.v
theorem yi (r : List (Int × Int)) (hr : r.length≤16777216) : ab Tryz.prog 80 [.pv (.agg [iv r,.sl []])] [] [] (.pv (.agg [iv r,.sl []])):=by
 have c1:=DK
 have c2:=Eb r hr
 refine Dp Tryz.func80 ?_
 intro C hP hN
 simp only [Tryz.f80] at hN ⊢
 with_reducible repeat' (first|refine Sp.h ?_|((first|refine Ss.h ?_|refine Sc.h (c1) ?_|refine Sc.h (c2) ?_|(refine Sb.h ?_ ?_ ?_<;>(try intro hgd)<;>try exact Xy))<;>simp -implicitDefEqProofs (maxSteps:=2000000) [hP,hN])|refine X2 ?_ ?_|(refine Xd ?_ ?_<;>intro hcd<;>try exact Xx))
 refine WP.loopN [5] 0 (fun i st=>st.t 1=.ptr 1 0∧st.t 2=.ptr 2 0∧st.t 3=.pv (.sl [])∧st.t 10=.pv (Z 0)∧st.t 11=.pv (Z i)∧st.h 1=some (.box [.pv (iv r),.pv (.sl [])] true false)∧st.h 2=some (.box [.pv (.val (.slice none 0 0)),.pv (.val (.slice none 0 0))] true false)∧st.h 5=none) (by simp) ?_
 rintro i st hi ⟨g1,g2,g3,g10,g11,hb1,hb2,hb5⟩
 have hi0 : i=0:=by omega
 subst hi0
 with_reducible repeat' (first|refine Sp.h ?_|((first|refine Ss.h ?_|refine Sc.h (c2) ?_|(refine Sb.h ?_ ?_ ?_<;>(try intro hgd)<;>try exact Xy))<;>simp -implicitDefEqProofs (maxSteps:=2000000) [hP,hN,g1,g2,g3,g10,g11,hb1,hb2,hb5])|refine X2 ?_ ?_|(refine Xd ?_ ?_<;>intro hcd<;>try exact Xx))
set_option maxRecDepth 10000 in
theorem yj (t : Tr) (ht : TSm t) (hne : t.cells≠[]) : ab Tryz.prog 80 [.pv (dV t)] [] [] (.srow [iv t.root] 54 8 (t.cells.map jD)):=by
 have c1:=DL t.cells ht.cells hne
 have c2:=Eb t.root ht.root
 have hl:=ht.cells
 refine Dp Tryz.func80 ?_
 intro C hP hN
 simp only [Tryz.f80] at hN ⊢
 with_reducible repeat' (first|refine Sp.h ?_|((first|refine Ss.h ?_|refine Sc.h (c1) ?_|refine Sc.h (c2) ?_|(refine Sb.h ?_ ?_ ?_<;>(try intro hgd)<;>try exact Xy))<;>simp -implicitDefEqProofs (maxSteps:=2000000) [hP,hN])|refine X2 ?_ ?_|(refine Xd ?_ ?_<;>intro hcd<;>try exact Xx))
 refine WP.loopN [5] t.cells.length (fun i st=>st.t 1=.ptr 1 0∧st.t 2=.ptr 2 0∧st.t 3=.arr 8 t.cells.length∧st.t 9=.arr 8 t.cells.length∧st.t 10=.pv (Z t.cells.length)∧st.t 11=.pv (Z i)∧st.h 1=some (.box [.pv (iv t.root),.pv (.sl (t.cells.map jD))] true false)∧st.h 2=some (.box [.pv (.val (.slice none 0 0)),.pv (.val (.slice none 0 0))] true false)∧st.h 5=none∧st.h 8=some (.row 54 8 (t.cells.map jD) 0)) (by simp) ?_
 rintro i st hi ⟨g1,g2,g3,g9,g10,g11,hb1,hb2,hb5,hb8⟩
 by_cases hlt : i < t.cells.length
 ·have hw:=aw hlt (by omega)
  generalize hc : t.cells[i]=c at *
  have hci : t.cells[i]?=some c:=by rw [List.getElem?_eq_getElem hlt,hc]
  have cv:=Gy c.v (ht.vs c (List.mem_of_getElem? hci))
  have hset : (t.cells.map jD).set i (jD c)=t.cells.map jD:=by
   apply List.ext_getElem?;intro j
   rw [List.getElem?_set]
   by_cases e : i=j
   ·subst e;simp [hlt,hc]
   ·rw [if_neg e]
  with_reducible repeat' (first|refine Sp.h ?_|((first|refine Ss.h ?_|refine Sc.h (cv) ?_|(refine Sb.h ?_ ?_ ?_<;>(try intro hgd)<;>try exact Xy))<;>simp -implicitDefEqProofs (maxSteps:=2000000) [hP,hN,g1,g2,g3,g9,g10,g11,hb1,hb2,hb5,hb8,hlt,hw,hci,hc])|refine X2 ?_ ?_|(refine Xd ?_ ?_<;>intro hcd<;>try exact Xx))
  all_goals exact hset
 ·skip
  with_reducible repeat' (first|refine Sp.h ?_|((first|refine Ss.h ?_|refine Sc.h (c2) ?_|(refine Sb.h ?_ ?_ ?_<;>(try intro hgd)<;>try exact Xy))<;>simp -implicitDefEqProofs (maxSteps:=2000000) [hP,hN,g1,g2,g3,g9,g10,g11,hb1,hb2,hb5,hb8,hlt])|refine X2 ?_ ?_|(refine Xd ?_ ?_<;>intro hcd<;>try exact Xx))
  all_goals exact ⟨8,⟨rfl,rfl⟩,hb8⟩
theorem ET {t : Tr} {i : Int} (h : eF t i=false) : aV t=false∨¬ 0≤i∨¬ i < t.cells.length:=by
 by_cases h1 : 0≤i
 ·by_cases h2 : i < t.cells.length
  ·left
   simp only [eF,h1,h2,decide_true,Bool.and_true] at h
   exact h
  ·exact .inr (.inr h2)
 ·exact .inr (.inl h1)
theorem vS {t : Tr} {i j : Int} (h : eF t i=false) : dx t i j=false:=by
 simp only [dx]
 rcases ET h with h|h|h
 ·simp [h]
 ·simp [decide_eq_false h]
 ·simp [decide_eq_false h]
theorem nY (r : List (Int × Int)) : aV ⟨r,[]⟩=false:=by simp [aV,cw,eW]
set_option maxRecDepth 10000 in
theorem HD (t : Tr) (i j : Int) (ht : TSm t) : ab Tryz.prog 19 [.pv (dV t),.pv (Z i),.pv (Z j)] [] [] (.pv (.tup [dV (bw t i j),B (dx t i j)])):=by
 have hl:=ht.cells
 have cb:=Gx t i (by omega)
 by_cases hne : t.cells=[]
 ·obtain ⟨r,cs⟩:=t
  simp only at hne
  subst hne
  have hbo : eF ⟨r,[]⟩ i=false:=by simp [eF,nY]
  have hno:=vS (j:=j) hbo
  rw [lB hno,hno]
  have cc:=yi r ht.root
  rw [hbo,nf hbo] at cb
  simp only [dV,List.map_nil] at cb ⊢
  refine Dp Tryz.func19 ?_
  intro C hP hN
  simp only [Tryz.f19] at hN ⊢
  with_reducible repeat' (first|refine Sp.h ?_|((first|refine Wd ?_|refine Ss.h ?_|refine Sc.h (cc) ?_|refine Sc.h (cb) ?_|(refine Sb.h ?_ ?_ ?_<;>(try intro hgd)<;>try exact Xy))<;>simp -implicitDefEqProofs (maxSteps:=2000000) [hP,hN]<;>try refine Ya ?_)|refine X2 ?_ ?_|(refine Xd ?_ ?_<;>intro hcd<;>try exact Xx))
 have cc:=yj t ht hne
 cases hbo : eF t i with
 |false=>
  have hno:=vS (j:=j) hbo
  rw [lB hno,hno]
  rw [hbo,nf hbo] at cb
  refine Dp Tryz.func19 ?_
  intro C hP hN
  simp only [Tryz.f19] at hN ⊢
  with_reducible repeat' (first|refine Sp.h ?_|((first|refine Wd ?_|refine Ss.h ?_|refine Sc.h (cc) ?_|refine Sc.h (cb) ?_|(refine Sb.h ?_ ?_ ?_<;>(try intro hgd)<;>try exact Xy))<;>simp -implicitDefEqProofs (maxSteps:=2000000) [hP,hN]<;>try refine Ya ?_)|refine X2 ?_ ?_|(refine Xd ?_ ?_<;>intro hcd<;>try exact Xx))
 |true=>
  rw [hbo] at cb
  simp only [eF,Bool.and_eq_true,decide_eq_true_eq] at hbo
  obtain ⟨⟨hv,h0⟩,h1⟩:=hbo
  obtain ⟨k,rfl⟩:=Int.eq_ofNat_of_zero_le h0
  have hlt : k < t.cells.length:=by omega
  have hz:=eh.1 (gp hv)
  have hbk : kp t k=aQ t k:=by simp [kp,eF,hv,hlt]
  obtain ⟨hb1,hb2,_⟩:=jE hv (c:=(k : Int)) hlt
  have hb1' : (aM t)[k]?=some (aQ t k):=hb1
  rw [hbk] at cb
  generalize hc : t.cells[k]=c at *
  have hci : t.cells[k]?=some c:=by rw [List.getElem?_eq_getElem hlt,hc]
  have cl:=B3 c
  have ch:=Hj (aQ t k) j (by omega)
  have hvc:=ht.vs c (List.mem_of_getElem? hci)
  have cv:=Gy c.v hvc
  have cf:=HB c.v
  have hw : IntKind.i64.wrap ((t.cells.length : Int)+2)=(t.cells.length : Int)+2:=aa (by omega) (by omega)
  have hw1 : IntKind.i64.wrap ((t.cells.length : Int)+1)=(t.cells.length : Int)+1:=aa (by omega) (by omega)
  cases hlf : dI c with
  |false=>
   have hno : dx t k j=false:=by simp [dx,dY,hci,hlf]
   rw [lB hno,hno]
   rw [hlf] at cl
   refine Dp Tryz.func19 ?_
   intro C hP hN
   simp only [Tryz.f19] at hN ⊢
   with_reducible repeat' (first|refine Sp.h ?_|((first|refine Wd ?_|refine Ss.h ?_|refine Sc.h (cc) ?_|refine Sc.h (cb) ?_|refine Sc.h (cl) ?_|(refine Sb.h ?_ ?_ ?_<;>(try intro hgd)<;>try exact Xy))<;>simp -implicitDefEqProofs (maxSteps:=2000000) [hP,hN,hlt,hci,hc]<;>try refine Ya ?_)|refine X2 ?_ ?_|(refine Xd ?_ ?_<;>intro hcd<;>try exact Xx))
  |true=>
   rw [hlf] at cl
   cases hh : bB (aQ t k) j with
   |false=>
    have hno : dx t k j=false:=by simp [dx,hb1',hh]
    rw [lB hno,hno]
    rw [hh] at ch
    refine Dp Tryz.func19 ?_
    intro C hP hN
    simp only [Tryz.f19] at hN ⊢
    with_reducible repeat' (first|refine Sp.h ?_|((first|refine Wd ?_|refine Ss.h ?_|refine Sc.h (cc) ?_|refine Sc.h (cb) ?_|refine Sc.h (cl) ?_|refine Sc.h (ch) ?_|(refine Sb.h ?_ ?_ ?_<;>(try intro hgd)<;>try exact Xy))<;>simp -implicitDefEqProofs (maxSteps:=2000000) [hP,hN,hlt,hci,hc]<;>try refine Ya ?_)|refine X2 ?_ ?_|(refine Xd ?_ ?_<;>intro hcd<;>try exact Xx))
   |true=>
    rw [hh] at ch
    by_cases h3 : 2048 < t.cells.length+2
    ·have hno : dx t k j=false:=by
      have : decide (t.cells.length+2≤2048)=false:=by simp;omega
      simp only [dx,this,Bool.and_false,Bool.false_and]
     have h3' : (2048 : Int) < t.cells.length+2:=by omega
     rw [lB hno,hno]
     refine Dp Tryz.func19 ?_
     intro C hP hN
     simp only [Tryz.f19] at hN ⊢
     with_reducible repeat' (first|refine Sp.h ?_|((first|refine Wd ?_|refine Ss.h ?_|refine Sc.h (cc) ?_|refine Sc.h (cb) ?_|refine Sc.h (cl) ?_|refine Sc.h (ch) ?_|(refine Sb.h ?_ ?_ ?_<;>(try intro hgd)<;>try exact Xy))<;>simp -implicitDefEqProofs (maxSteps:=2000000) [hP,hN,hlt,hci,hc,hw,h3']<;>try refine Ya ?_)|refine X2 ?_ ?_|(refine Xd ?_ ?_<;>intro hcd<;>try exact Xx))
    ·have h3' : ¬ (2048 : Int) < t.cells.length+2:=by omega
     have hyes : dx t k j=true:=by
      simp only [dx,hv,dY,Int.toNat_natCast,hci,hlf,hb1',Option.getD_some,hh,Bool.and_true,Bool.true_and,Bool.and_eq_true,decide_eq_true_eq]
      omega
     have hT : bw t k j=ik t k j c.v:=by simp [bw,hyes,yd,hci]
     rw [hT,hyes]
     have hcl : jD (aE c.v)=.agg [Z (-1),Z (-1),Z (-1),Z c.v.kind,aX c.v.nor,Z c.v.pair,zs c.v.left,zs c.v.right]:=rfl
     rw [hcl] at cf
     refine Dp Tryz.func19 ?_
     intro C hP hN
     simp only [Tryz.f19] at hN ⊢
     with_reducible repeat' (first|refine Sp.h ?_|((first|refine Wd ?_|refine Ss.h ?_|refine Sc.h (cc) ?_|refine Sc.h (cb) ?_|refine Sc.h (cl) ?_|refine Sc.h (ch) ?_|refine Sc.h (cv) ?_|refine Sc.h (cf) ?_|(refine Sb.h ?_ ?_ ?_<;>(try intro hgd)<;>try exact Xy))<;>simp -implicitDefEqProofs (maxSteps:=2000000) [hP,hN,hlt,hci,hc,hw,hw1,h3',show (t.cells.length+2) * 112≤140737488355328 by omega,show t.cells.length+2≤9223372036854775807 by omega]<;>try refine Ya ?_)|refine X2 ?_ ?_|(refine Xd ?_ ?_<;>intro hcd<;>try exact Xx))
     all_goals (simp [ik,aE,List.map_set,dh]<;>rfl)
set_option maxRecDepth 10000 in
theorem Lt (t : Tr) (i : Int) (v : Verd) (ht : TSm t) (hvv : ua 16777216 v) : ab Tryz.prog 18 [.pv (dV t),.pv (Z i),.pv (rB v)] [] [] (.pv (.tup [dV (kM t i v),B (cD t i v)])):=by
 have hl:=ht.cells
 have cb:=Gt t (by omega)
 by_cases hne : t.cells=[]
 ·obtain ⟨r,cs⟩:=t
  simp only at hne
  subst hne
  have hno : cD ⟨r,[]⟩ i v=false:=by simp [cD,nY]
  rw [ig hno,hno]
  have cc:=yi r ht.root
  rw [nY] at cb
  simp only [dV,List.map_nil] at cb ⊢
  refine Dp Tryz.func18 ?_
  intro C hP hN
  simp only [Tryz.f18] at hN ⊢
  with_reducible repeat' (first|refine Sp.h ?_|((first|refine Wd ?_|refine Ss.h ?_|refine Sc.h (cc) ?_|refine Sc.h (cb) ?_|(refine Sb.h ?_ ?_ ?_<;>(try intro hgd)<;>try exact Xy))<;>simp -implicitDefEqProofs (maxSteps:=2000000) [hP,hN]<;>try refine Ya ?_)|refine X2 ?_ ?_|(refine Xd ?_ ?_<;>intro hcd<;>try exact Xx))
 have cc:=yj t ht hne
 cases hv : aV t with
 |false=>
  have hno : cD t i v=false:=by simp [cD,hv]
  rw [ig hno,hno]
  rw [hv] at cb
  refine Dp Tryz.func18 ?_
  intro C hP hN
  simp only [Tryz.f18] at hN ⊢
  with_reducible repeat' (first|refine Sp.h ?_|((first|refine Wd ?_|refine Ss.h ?_|refine Sc.h (cc) ?_|refine Sc.h (cb) ?_|(refine Sb.h ?_ ?_ ?_<;>(try intro hgd)<;>try exact Xy))<;>simp -implicitDefEqProofs (maxSteps:=2000000) [hP,hN]<;>try refine Ya ?_)|refine X2 ?_ ?_|(refine Xd ?_ ?_<;>intro hcd<;>try exact Xx))
 |true=>
  rw [hv] at cb
  have hz:=eh.1 (gp hv)
  by_cases h1 : i < 0
  ·have hno : cD t i v=false:=by
    have : decide (0≤i)=false:=by simp;omega
    simp only [cD,this,Bool.and_false,Bool.false_and]
   rw [ig hno,hno]
   refine Dp Tryz.func18 ?_
   intro C hP hN
   simp only [Tryz.f18] at hN ⊢
   with_reducible repeat' (first|refine Sp.h ?_|((first|refine Wd ?_|refine Ss.h ?_|refine Sc.h (cc) ?_|refine Sc.h (cb) ?_|(refine Sb.h ?_ ?_ ?_<;>(try intro hgd)<;>try exact Xy))<;>simp -implicitDefEqProofs (maxSteps:=2000000) [hP,hN,h1]<;>try refine Ya ?_)|refine X2 ?_ ?_|(refine Xd ?_ ?_<;>intro hcd<;>try exact Xx))
  ·obtain ⟨k,rfl⟩:=Int.eq_ofNat_of_zero_le (show 0≤i by omega)
   by_cases h2 : t.cells.length≤k
   ·have hno : cD t k v=false:=by
     have : decide ((k : Int) < t.cells.length)=false:=by simp;omega
     simp only [cD,this,Bool.and_false,Bool.false_and]
    rw [ig hno,hno]
    refine Dp Tryz.func18 ?_
    intro C hP hN
    simp only [Tryz.f18] at hN ⊢
    with_reducible repeat' (first|refine Sp.h ?_|((first|refine Wd ?_|refine Ss.h ?_|refine Sc.h (cc) ?_|refine Sc.h (cb) ?_|(refine Sb.h ?_ ?_ ?_<;>(try intro hgd)<;>try exact Xy))<;>simp -implicitDefEqProofs (maxSteps:=2000000) [hP,hN,h1,h2]<;>try refine Ya ?_)|refine X2 ?_ ?_|(refine Xd ?_ ?_<;>intro hcd<;>try exact Xx))
   ·have hlt : k < t.cells.length:=by omega
    generalize hc : t.cells[k]=c at *
    have hci : t.cells[k]?=some c:=by rw [List.getElem?_eq_getElem hlt,hc]
    have cl:=B3 c
    have cf:=HA v
    have cv:=Gy v hvv
    cases hlf : dI c with
    |false=>
     have hno : cD t k v=false:=by simp [cD,dY,hci,hlf]
     rw [ig hno,hno]
     rw [hlf] at cl
     refine Dp Tryz.func18 ?_
     intro C hP hN
     simp only [Tryz.f18] at hN ⊢
     with_reducible repeat' (first|refine Sp.h ?_|((first|refine Wd ?_|refine Ss.h ?_|refine Sc.h (cc) ?_|refine Sc.h (cb) ?_|refine Sc.h (cl) ?_|(refine Sb.h ?_ ?_ ?_<;>(try intro hgd)<;>try exact Xy))<;>simp -implicitDefEqProofs (maxSteps:=2000000) [hP,hN,h1,h2,hlt,hci,hc]<;>try refine Ya ?_)|refine X2 ?_ ?_|(refine Xd ?_ ?_<;>intro hcd<;>try exact Xx))
    |true=>
     rw [hlf] at cl
     by_cases h3 : c.v.kind=0
     ·have h3' : (c.v.kind !=0)=false:=by simp [h3]
      cases hf : dD v with
      |false=>
       have hno : cD t k v=false:=by simp [cD,hf]
       rw [ig hno,hno]
       rw [hf] at cf
       refine Dp Tryz.func18 ?_
       intro C hP hN
       simp only [Tryz.f18] at hN ⊢
       with_reducible repeat' (first|refine Sp.h ?_|((first|refine Wd ?_|refine Ss.h ?_|refine Sc.h (cc) ?_|refine Sc.h (cb) ?_|refine Sc.h (cl) ?_|refine Sc.h (cf) ?_|(refine Sb.h ?_ ?_ ?_<;>(try intro hgd)<;>try exact Xy))<;>simp -implicitDefEqProofs (maxSteps:=2000000) [hP,hN,h1,h2,hlt,hci,hc,h3']<;>try refine Ya ?_)|refine X2 ?_ ?_|(refine Xd ?_ ?_<;>intro hcd<;>try exact Xx))
      |true=>
       rw [hf] at cf
       have hyes : cD t k v=true:=by
        simp [cD,hv,dY,hci,hlf,hf,yd,h3,hlt,hc]
       have hT : kM t k v=uS t k v:=by simp [kM,hyes]
       rw [hT,hyes]
       have hcl:=DE hlf
       have q1 : c.joint=-1:=by rw [hcl];rfl
       have q2 : c.low=-1:=by rw [hcl];rfl
       have q3 : c.high=-1:=by rw [hcl];rfl
       refine Dp Tryz.func18 ?_
       intro C hP hN
       simp only [Tryz.f18] at hN ⊢
       with_reducible repeat' (first|refine Sp.h ?_|((first|refine Wd ?_|refine Ss.h ?_|refine Sc.h (cc) ?_|refine Sc.h (cb) ?_|refine Sc.h (cl) ?_|refine Sc.h (cf) ?_|refine Sc.h (cv) ?_|(refine Sb.h ?_ ?_ ?_<;>(try intro hgd)<;>try exact Xy))<;>simp -implicitDefEqProofs (maxSteps:=2000000) [hP,hN,h1,h2,hlt,hci,hc,h3']<;>try refine Ya ?_)|refine X2 ?_ ?_|(refine Xd ?_ ?_<;>intro hcd<;>try exact Xx))
       all_goals simp [uS,aE,List.map_set,q1,q2,q3]
     ·have h3' : (c.v.kind !=0)=true:=by simp [h3]
      have hno : cD t k v=false:=by simp [cD,yd,hci,h3]
      rw [ig hno,hno]
      refine Dp Tryz.func18 ?_
      intro C hP hN
      simp only [Tryz.f18] at hN ⊢
      with_reducible repeat' (first|refine Sp.h ?_|((first|refine Wd ?_|refine Ss.h ?_|refine Sc.h (cc) ?_|refine Sc.h (cb) ?_|refine Sc.h (cl) ?_|refine Sc.h (cf) ?_|(refine Sb.h ?_ ?_ ?_<;>(try intro hgd)<;>try exact Xy))<;>simp -implicitDefEqProofs (maxSteps:=2000000) [hP,hN,h1,h2,hlt,hci,hc,h3']<;>try refine Ya ?_)|refine X2 ?_ ?_|(refine Xd ?_ ?_<;>intro hcd<;>try exact Xx))
end Go.Ab
namespace Go.Ab
open Go.Proofs
theorem zK {t : Tr} {q : List Int} (h : gO t q=false) : rC t q=0:=by simp [rC,h]
set_option maxRecDepth 10000 in
theorem Lu (t : Tr) (q : List Int) (hl : t.cells.length≤9223372036854775807) (hr : t.root.length≤9223372036854775807) : ab Tryz.prog 86 [.pv (dV t),.pv (zs q)] [] [] (.pv (.tup [Z (rC t q),B (gO t q)])):=by
 have cb:=Ea t hl
 have ch:=Fj t.root q hr
 cases hv : aV t with
 |false=>
  have hno : gO t q=false:=by simp [gO,hv]
  rw [zK hno,hno]
  rw [hv] at cb
  refine Dp Tryz.func86 ?_
  intro C hP hN
  simp only [Tryz.f86] at hN ⊢
  with_reducible repeat' (first|refine Sp.h ?_|((first|refine Wd ?_|refine Ss.h ?_|refine Sc.h (cb) ?_|(refine Sb.h ?_ ?_ ?_<;>(try intro hgd)<;>try exact Xy))<;>simp -implicitDefEqProofs (maxSteps:=2000000) [hP,hN]<;>try refine Ya ?_)|refine X2 ?_ ?_|(refine Xd ?_ ?_<;>intro hcd<;>try exact Xx))
 |true=>
 rw [hv] at cb
 cases hh : gY t.root q with
 |false=>
  have hno : gO t q=false:=by simp [gO,hh]
  rw [zK hno,hno]
  rw [hh] at ch
  refine Dp Tryz.func86 ?_
  intro C hP hN
  simp only [Tryz.f86] at hN ⊢
  with_reducible repeat' (first|refine Sp.h ?_|((first|refine Wd ?_|refine Ss.h ?_|refine Sc.h (cb) ?_|refine Sc.h (ch) ?_|(refine Sb.h ?_ ?_ ?_<;>(try intro hgd)<;>try exact Xy))<;>simp -implicitDefEqProofs (maxSteps:=2000000) [hP,hN]<;>try refine Ya ?_)|refine X2 ?_ ?_|(refine Xd ?_ ?_<;>intro hcd<;>try exact Xx))
 |true=>
 rw [hh] at ch
 have hok : gO t q=true:=by simp [gO,hv,hh]
 have hbl:=kj hv
 have hz:=eh.1 (gp hv)
 have hql : q.length=t.root.length:=by
  simp only [gY,Bool.and_eq_true,decide_eq_true_eq] at hh;exact hh.1.symm
 rw [hok]
 refine Dp Tryz.func86 ?_
 intro C hP hN
 simp only [Tryz.f86] at hN ⊢
 with_reducible repeat' (first|refine Sp.h ?_|((first|refine Wd ?_|refine Ss.h ?_|refine Sc.h (cb) ?_|refine Sc.h (ch) ?_|(refine Sb.h ?_ ?_ ?_<;>(try intro hgd)<;>try exact Xy))<;>simp -implicitDefEqProofs (maxSteps:=2000000) [hP,hN]<;>try refine Ya ?_)|refine X2 ?_ ?_|(refine Xd ?_ ?_<;>intro hcd<;>try exact Xx))
 refine WP.loopN [7] t.cells.length (fun k st=>st.t 1=.pv (zs q)∧st.t 2=.ptr 2 0∧st.t 4=.ptr 4 0∧st.t 5=.ptr 5 0∧st.t 6=.pv (.sl ((aM t).map iv))∧st.h 2=some (.box [.pv (iv t.root),.pv (.sl (t.cells.map jD))] true false)∧st.h 4=some (.box [.pv (Z (fh t q k))] true false)∧st.h 5=some (.box [.pv (B true)] true false)∧st.h 7=none) (by simp [fh]) ?_
 rintro k st hk ⟨g1,g2,g4,g5,g6,hb2,hb4,hb5,hb7⟩
 obtain ⟨i1,i2,i3⟩:=yh hok k
 have hsu : fh t q (k+1)=km t q (fh t q k):=rfl
 have hstop:=fun h=>t9 (t:=t) (q:=q) (k:=k) h (t.cells.length - k)
 rw [show k+(t.cells.length - k)=t.cells.length by omega] at hstop
 generalize fh t q k=a at *
 generalize hc : t.cells[a]=c at *
 have hci : t.cells[a]?=some c:=by rw [List.getElem?_eq_getElem i1,hc]
 have cl:=B3 c
 cases hlf : dI c with
 |true=>
  rw [hlf] at cl
  have hst:=hstop (by simp [dY,hci,hlf])
  have hre : rC t q=(a : Int):=by simp [rC,hok,hst]
  rw [hre]
  with_reducible repeat' (first|refine Sp.h ?_|((first|refine Wd ?_|refine Ss.h ?_|refine Sc.h (cl) ?_|(refine Sb.h ?_ ?_ ?_<;>(try intro hgd)<;>try exact Xy))<;>simp -implicitDefEqProofs (maxSteps:=2000000) [hP,hN,g1,g2,g4,g5,g6,hb2,hb4,hb5,hb7,i1,hci,hc]<;>try refine Ya ?_)|refine X2 ?_ ?_|(refine Xd ?_ ?_<;>intro hcd<;>try exact Xx))
 |false=>
  rw [hlf] at cl
  have hka : k≤a:=by
   rcases i3 with i3|i3
   ·simp [dY,hci,hlf] at i3
   ·exact i3
  obtain ⟨f1,f2,f3,f4⟩:=r5 hv hci hlf
  have hin:=fg.1 f1
  obtain ⟨j0,_,jx,j1,_⟩:=m9.1 f2
  have jl:=(List.getElem?_eq_some_iff.1 j1).1
  have hbal:=(jE hv (c:=(a : Int)) i1).2.1
  obtain ⟨y1,y2,_⟩:=jE hv (c:=c.low) (by omega)
  have ylt : c.low.toNat < (aM t).length:=by omega
  have y3:=kh y1 ylt
  have jq : c.joint.toNat < q.length:=by omega
  have jb : c.joint.toNat < (aQ t c.low).length:=by omega
  have k3 : 0≤c.low:=by omega
  have k4 : 0≤c.high:=by omega
  have hN' : km t q a=if q[c.joint.toNat]≤(aQ t c.low)[c.joint.toNat].2 then c.low.toNat else c.high.toNat:=by
   simp [km,hci,hlf,List.getElem?_eq_getElem jq,List.getElem?_eq_getElem jb]
  have kn : k < t.cells.length:=by omega
  by_cases hle : q[c.joint.toNat]≤(aQ t c.low)[c.joint.toNat].2
  ·rw [if_pos hle] at hN'
   have hz' : ((c.low.toNat : Nat) : Int)=c.low:=by omega
   with_reducible repeat' (first|refine Sp.h ?_|((first|refine Wd ?_|refine Ss.h ?_|refine Sc.h (cl) ?_|(refine Sb.h ?_ ?_ ?_<;>(try intro hgd)<;>try exact Xy))<;>simp -implicitDefEqProofs (maxSteps:=2000000) [hP,hN,g1,g2,g4,g5,g6,hb2,hb4,hb5,hb7,i1,hci,hc,j0,jq,jb,ylt,y1,y3,k3,k4,hle]<;>try refine Ya ?_)|refine X2 ?_ ?_|(refine Xd ?_ ?_<;>intro hcd<;>try exact Xx))
   all_goals (rw [hsu,hN',hz'];simp [kn])
  ·rw [if_neg hle] at hN'
   have hz' : ((c.high.toNat : Nat) : Int)=c.high:=by omega
   with_reducible repeat' (first|refine Sp.h ?_|((first|refine Wd ?_|refine Ss.h ?_|refine Sc.h (cl) ?_|(refine Sb.h ?_ ?_ ?_<;>(try intro hgd)<;>try exact Xy))<;>simp -implicitDefEqProofs (maxSteps:=2000000) [hP,hN,g1,g2,g4,g5,g6,hb2,hb4,hb5,hb7,i1,hci,hc,j0,jq,jb,ylt,y1,y3,k3,k4,hle]<;>try refine Ya ?_)|refine X2 ?_ ?_|(refine Xd ?_ ?_<;>intro hcd<;>try exact Xx))
   all_goals (rw [hsu,hN',hz'];simp [kn])
end Go.Ab
namespace Go.Ab
open Go.Proofs
end Go.Ab
namespace Go.Ab
open Go.Proofs
end Go.Ab
namespace Go.Ab
open Go.Proofs
theorem DM (xs : List (Int)) (ys : List (Int)) (hl : xs.length≤9223372036854775807) (hm : ys.length≤9223372036854775807) : ab Tryz.prog 87 [.pv (zs xs),.pv (zs ys)] [] [] (.pv (B (rf xs ys))):=by
 refine Dp Tryz.func87 ?_
 intro C hP hN
 simp only [Tryz.f87] at hN ⊢
 by_cases he : xs.length=ys.length
 ·skip
  with_reducible repeat' (first|refine Sp.h ?_|((first|refine Wd ?_|refine Ss.h ?_|(refine Sb.h ?_ ?_ ?_<;>(try intro hgd)<;>try exact Xy))<;>simp -implicitDefEqProofs (maxSteps:=2000000) [hP,hN,he]<;>try refine Ya ?_)|refine X2 ?_ ?_|(refine Xd ?_ ?_<;>intro hcd<;>try exact Xx))
  refine WP.loopN [] xs.length (fun i st=>st.t 0=.pv (zs xs)∧st.t 1=.pv (zs ys)∧st.t 5=.pv (Z i)∧me rQ xs ys i=true) (by simp [me]) ?_
  rintro i st hi ⟨h0,h1,h2,hq⟩
  by_cases hlt : i < xs.length
  ·have hw:=aw hlt hl
   have hlt' : i < ys.length:=by omega
   have hF : rQ xs[i] ys[i]=false→lH rQ xs ys=false:=tw hlt hlt'
   have hS : rQ xs[i] ys[i]=true→me rQ xs ys (i+1)=true:=vd hlt hlt' hq
   with_reducible repeat' (first|refine Sp.h ?_|((first|refine Wd ?_|refine Ss.h ?_|(refine Sb.h ?_ ?_ ?_<;>(try intro hgd)<;>try exact Xy))<;>simp -implicitDefEqProofs (maxSteps:=2000000) [hP,hN,h0,h1,h2,hlt,hlt',hw]<;>try refine Ya ?_)|refine X2 ?_ ?_|(refine Xd ?_ ?_<;>intro hcd<;>try exact Xx))
   all_goals first|(rw [rf,hF (by simp only [rQ]<;>grind)];simp;done)|(rw [hS (by simp only [rQ]<;>grind)];done)
  ·have hlt' : ¬ i < ys.length:=by omega
   with_reducible repeat' (first|refine Sp.h ?_|((first|refine Wd ?_|refine Ss.h ?_|(refine Sb.h ?_ ?_ ?_<;>(try intro hgd)<;>try exact Xy))<;>simp -implicitDefEqProofs (maxSteps:=2000000) [hP,hN,h0,h1,h2,hlt,hlt']<;>try refine Ya ?_)|refine X2 ?_ ?_|(refine Xd ?_ ?_<;>intro hcd<;>try exact Xx))
   all_goals simp [rf,he,ve hlt hq]
 ·skip
  with_reducible repeat' (first|refine Sp.h ?_|((first|refine Wd ?_|refine Ss.h ?_|(refine Sb.h ?_ ?_ ?_<;>(try intro hgd)<;>try exact Xy))<;>simp -implicitDefEqProofs (maxSteps:=2000000) [hP,hN,he]<;>try refine Ya ?_)|refine X2 ?_ ?_|(refine Xd ?_ ?_<;>intro hcd<;>try exact Xx))
  all_goals simp [rf,he]
theorem Ca {α : Type} [DecidableEq α] (xs ys : List α) : rf xs ys=decide (xs=ys):=by
 unfold rf
 by_cases h : xs.length=ys.length
 ·simp [h,Ek h]
 ·have : xs≠ys:=fun e=>h (by rw [e])
  simp [h,this]
abbrev Ec (l : List Nat) : PV:=.sl (l.map vQ)
theorem Cb (l : List Nat) : Ec l=zs (l.map Int.ofNat):=by simp [Ec,zs,vQ,Function.comp_def]
theorem Lv (xs ys : List Nat) (hl : xs.length≤9223372036854775807) (hm : ys.length≤9223372036854775807) : ab Tryz.prog 87 [.pv (Ec xs),.pv (Ec ys)] [] [] (.pv (B (decide (xs=ys)))):=by
 have h:=DM (xs.map Int.ofNat) (ys.map Int.ofNat) (by simpa using hl) (by simpa using hm)
 rw [Ca] at h
 rw [Cb,Cb]
 have e : decide (xs.map Int.ofNat=ys.map Int.ofNat)=decide (xs=ys):=by
  have : (xs.map Int.ofNat=ys.map Int.ofNat)↔xs=ys:=by
   constructor
   ·intro h
    have h2:=congrArg (List.map Int.toNat) h
    simpa [Function.comp_def] using h2
   ·exact fun h=>by rw [h]
  simp [this]
 rw [e] at h
 exact h
def vT : Tr:=⟨[(0,8)],[aE dh]⟩
def nI : Tr:=⟨[(0,8)],[⟨0,1,2,dh⟩,aE dh,aE dh]⟩
theorem Cc : uT [(0,8)]=vT∧dl [(0,8)]=true:=⟨by kernel_rfl,by decide +kernel⟩
theorem yk : bw vT 0 0=nI∧dx vT 0 0=true:=⟨by kernel_rfl,by kernel_rfl⟩
theorem EU : aV nI=true∧rC nI [4]=1∧gO nI [4]=true∧DG nI [4]=[1,2]∧bK nI=[1,2]:=⟨by kernel_rfl,by kernel_rfl,by kernel_rfl,by kernel_rfl,by kernel_rfl⟩
theorem G7 : TSm vT:=⟨by decide,by decide,by
 intro c hc
 simp [vT] at hc;subst hc
 exact ⟨by decide,by decide,by decide⟩⟩
theorem Lw : ab Tryz.prog 21 [] [] [] (.pv (B true)):=by
 have c1 : ab Tryz.prog 16 [.pv (.sl [I 0 8])] [] [] (.pv (.tup [dV vT,B true])):=by
  have:=HC [(0,8)] (by decide)
  rw [Cc.1,Cc.2] at this;exact this
 have c2:=HD vT 0 0 G7
 rw [yk.1,yk.2] at c2
 obtain ⟨e1,e2,e3,e4,e5⟩:=EU
 have c3 : ab Tryz.prog 86 [.pv (dV nI),.pv (.sl [Z 4])] [] [] (.pv (.tup [Z 1,B true])):=by
  have:=Lu nI [4] (by decide) (by decide)
  rw [e2,e3] at this;exact this
 have c4:=Gt nI (by decide)
 rw [e1] at c4
 have c5 : ab Tryz.prog 88 [.pv (dV nI),.pv (.sl [Z 4])] [] [] (.pv (.sl [Z 1,Z 2])):=by
  have:=Ls nI [4] (by decide)
  rw [e4] at this;exact this
 have c6 : ab Tryz.prog 89 [.pv (dV nI)] [] [] (.pv (.sl [Z 1,Z 2])):=by
  have:=Lr nI (by decide)
  rw [e5] at this;exact this
 have c7 : ab Tryz.prog 87 [.pv (.sl [Z 1,Z 2]),.pv (.sl [Z 1,Z 2])] [] [] (.pv (B true)):=by
  have:=Lv [1,2] [1,2] (by decide) (by decide)
  exact this
 generalize nI=T2 at *
 generalize vT=T1 at *
 refine Dp Tryz.func21 ?_
 intro C hP hN
 simp only [Tryz.f21] at hN ⊢
 with_reducible repeat' (first|refine Sp.h ?_|((first|refine Ss.h ?_|refine Sc.h (c1) ?_|refine Sc.h (c2) ?_|refine Sc.h (c3) ?_|refine Sc.h (c4) ?_|refine Sc.h (c5) ?_|refine Sc.h (c6) ?_|refine Sc.h (c7) ?_|(refine Sb.h ?_ ?_ ?_<;>(try intro hgd)<;>try exact Xy))<;>simp -implicitDefEqProofs (maxSteps:=2000000) [hP,hN])|refine X2 ?_ ?_|(refine Xd ?_ ?_<;>intro hcd<;>try exact Xx))
end Go.Ab
namespace Go.Ab
open Go.Proofs
theorem Gr {i : Int} {n : Nat} (hn : 0 < n) (hm : n < 1000000) : ∃ k : Nat,lj i n=(k : Int)∧k < n:=by
 have h:=yz i (k:=(n : Int)) (by omega) (by omega)
 obtain ⟨k,hk⟩:=Int.eq_ofNat_of_zero_le h.1
 exact ⟨k,hk,by omega⟩
theorem vK {t : Tr} (hv : aV t=true) {i : Nat} (h : i < t.cells.length) : eF t (i : Int)=true∧kp t (i : Int)=aQ t (i : Int):=by
 have : eF t (i : Int)=true:=by simp [eF,hv,h]
 exact ⟨this,by simp [kp,this]⟩
end Go.Ab
namespace Go.Ab
open Go.Proofs
structure AltOk (t u : Tr) : Prop where
 root : u.root.length=t.root.length
 cells : u.cells.length≤t.cells.length+1
 vs : (∀ c ∈ t.cells,ua 16 c.v)→∀ c ∈ u.cells,ua 16 c.v
theorem AltOk.set {t : Tr} {k : Nat} {d : Cel} (h : (∀ c ∈ t.cells,ua 16 c.v)→ua 16 d.v) : AltOk t ⟨t.root,t.cells.set k d⟩:=by
 refine ⟨rfl,by simp,fun hv c hc=>?_⟩
 rcases List.mem_or_eq_of_mem_set hc with h'|rfl
 ·exact hv c h'
 ·exact h hv
end Go.Ab
namespace Go.Ab
open Go.Proofs
attribute [local simp] zQ kw
structure Tiny (t : Tr) : Prop where
 r1 : 1≤t.root.length
 r2 : t.root.length≤100
 c1 : 1≤t.cells.length
 c2 : t.cells.length≤100
end Go.Ab
namespace Go.Ab
open Go.Proofs
end Go.Ab
namespace Go.Ab
open Go.Proofs
end Go.Ab
namespace Go.Ab
open Go.Proofs
def xZ (x y : AV) (fb : Option bI) : Option bI:=match wg x y with
 |some (a,b)=>some (.pv (.val (.bool (!(a==b)))),[])
 |none=>fb
@[simp] theorem GG (a b : Bool) (fb : Option bI) : xZ (.pv (.val (.bool a))) (.pv (.val (.bool b))) fb=some (.pv (.val (.bool (!(a==b)))),[]):=rfl
@[simp] theorem Ka {dst : Option Nat} {ty : TypeId} {pos : String} {aft : Array Edge} {g : Option (Nat × Bool)} {ρ : Operand→AV} (x y : Operand) :
 aR Tryz.prog ⟨dst,.binOp .neq 4 x y 4,ty,pos,aft,g⟩ ρ=xZ (ρ x) (ρ y) (ga Tryz.prog ⟨dst,.binOp .neq 4 x y 4,ty,pos,aft,g⟩ ρ):=by
 unfold xZ
 split
 ·rename_i a b h
  unfold wg at h
  split at h
  ·rename_i a' b' hx hy
   injection h with h;injection h with h1 h2;subst h1;subst h2
   refine cW (by simp [Op.operands,hx,hy,dC]) ?_
   unfold execOp
   simp only [(aY hx).2,(aY hy).2]
   have h1 : ag Tryz.prog (eqGuard .neq 4 x y (.bool a') (.bool b'))=some ():=by kernel_rfl
   have h2 : ag Tryz.prog (binOp .neq 4 (.bool a') (.bool b'))=some (.bool (!(a'==b'))):=by
    simp only [binOp,af]
    rw [show ag Tryz.prog (Op.equal 4 (.bool a') (.bool b'))=some (a'==b') from ze 9999 4 a' b' Tryz.underlying4]
    rfl
   simp only [af,h1,h2,Option.bind_some];rfl
  ·cases h
 ·rfl
theorem Dy (n : Nat) : ua n dh:=by simp [ua,dh]
theorem BW {t : Tr} (hv : aV t=true) {k : Nat} {j : Int} (hs : dx t (k : Int) j=true) :
 aM (bw t k j)=aM t++[bu (aQ t (k : Int)) j,bF (aQ t (k : Int)) j]∧(bw t k j).cells.length=t.cells.length+2∧∃ v,bw t (k : Int) j=ik t k j v:=by
 have hs0:=hs
 simp only [dx,Bool.and_eq_true,decide_eq_true_eq,Int.toNat_natCast] at hs
 obtain ⟨⟨⟨⟨⟨h1,h2⟩,h3⟩,h4⟩,h5⟩,h6⟩:=hs
 obtain ⟨L,hL⟩:=Option.isSome_iff_exists.1 hv
 obtain ⟨c,hc,hl,hvv⟩:=qM h4
 have hlt : k < t.cells.length:=by omega
 obtain ⟨b,hb⟩:=(lA hL).pre k hlt
 have hb' : (aM t)[k]?=some b:=by
  have:=go hL
  rw [this] at hb
  simpa using hb
 have hba : aQ t (k : Int)=b:=nd hL hb
 rw [hb'] at h6
 have hsb:=rZ hL hc hl h5 hb h6
 have hT : bw t (k : Int) j=ik t k j c.v:=by simp [bw,hs0,hvv]
 refine ⟨?_,?_,c.v,hT⟩
 ·rw [hT,hba]
  have:=go hsb
  rw [go hL] at this
  have h2 : ((aM t).map some++[some (bu b j),some (bF b j)])=(aM t++[bu b j,bF b j]).map some:=by simp
  rw [h2] at this
  have h3:=congrArg (List.map (fun x : Option Bx=>x.getD [])) this
  simp [Function.comp_def] at h3
  exact h3.symm
 ·rw [hT,pn]
end Go.Ab
namespace Go.Ab
open Go.Proofs
def ya (v : Vd) : Verd:=⟨v.kind,v.ns,v.w.pair,v.w.a,v.w.b⟩
theorem AR {s : Sce} {a b : List Iv} (h : kK a b) {v : Vd} (hc : fV s b v=true) : fV s a v=true:=by
 unfold fV at hc ⊢
 split at hc
 ·rename_i h1;rw [if_pos h1];exact xS h hc
 ·rename_i h1;rw [if_neg h1]
  split at hc
  ·rename_i h2;rw [if_pos h2];exact xT h hc
  ·cases hc
theorem BZ (s : Sce) (b : List Iv) (hs : List Vc) : dD (ya (ip s b hs))=true:=by
 rcases uM s b hs with ⟨w,h1,_⟩|⟨ns,h1,_⟩|⟨ns,h1,_⟩<;>rw [h1]<;>simp [ya,dD,ki]
theorem B0 (s : Sce) (b : List Iv) (hs : List Vc) : (ip s b hs).kind=0∨fV s b (ip s b hs)=true:=by
 rw [AI]
 rcases uM s b hs with ⟨w,h1,_⟩|⟨ns,h1,_⟩|⟨ns,h1,_⟩<;>rw [h1]<;>simp
theorem vL {b : Bx} {j : Int} (h : bB b j=true) : kK (bu b j) b∧kK (bF b j) b:=by
 obtain ⟨x,hx,hv,h3,ea,ez⟩:=sQ h
 have hvb:=(m9.1 h).2.1
 have key : ∀ z : Int × Int,SubI z x→kK (b.set j.toNat z) b:=fun z hz=>⟨by simp,fun k u v hu hv'=>by
  rw [List.getElem?_set] at hu
  by_cases e : j.toNat=k
  ·subst e
   rw [if_pos rfl] at hu
   split at hu
   ·injection hu with hu;subst hu
    rw [hx] at hv';injection hv' with hv';subst hv';exact hz
   ·cases hu
  ·rw [if_neg e,hv'] at hu;injection hu with hu;subst hu
   exact SubI.refl (fX.1 hvb _ (List.mem_of_getElem? hv'))⟩
 have hb:=fF.1 hv
 rw [ea,ez]
 exact ⟨key _ ⟨fF.2 (by omega),hv,by simp only;omega,by simp only;omega⟩,key _ ⟨fF.2 (by omega),hv,by simp only;omega,by simp only;omega⟩⟩
theorem B1 {b : Bx} (hb : dl b=true) : uT b=⟨b,[aE dh]⟩:=by rw [uT,if_pos hb]
end Go.Ab
namespace Go.Ab
open Go.Proofs
def zC (a b : Int) : Int:=if a.tmod b < 0 then wr (wr (a.tdiv b) - 1) else wr (a.tdiv b)
def BP (a b : Int) : Int:=if 0 < a.tmod b then wr (wr (a.tdiv b)+1) else wr (a.tdiv b)
theorem zD (a b : Int) (hb : b≠0) : ab Tryz.prog 289 [.pv (Z a),.pv (Z b)] [] [] (.pv (Z (zC a b))):=by
 refine Dp Tryz.func289 ?_
 intro C hP hN
 simp only [Tryz.f289] at hN ⊢
 with_reducible repeat' (first|refine Sp.h ?_|((first|refine Ss.h ?_|(refine Sb.h ?_ ?_ ?_<;>(try intro hgd)<;>try exact Xy))<;>simp -implicitDefEqProofs (maxSteps:=2000000) [hP,hN,hb])|refine X2 ?_ ?_|(refine Xd ?_ ?_<;>intro hcd<;>try exact Xx))
 all_goals (first|(simp_all [zC];done)|((try simp_all [zC])<;>(try omega)<;>grind))
theorem xU (a b : Int) (hb : b≠0) : ab Tryz.prog 286 [.pv (Z a),.pv (Z b)] [] [] (.pv (Z (BP a b))):=by
 refine Dp Tryz.func286 ?_
 intro C hP hN
 simp only [Tryz.f286] at hN ⊢
 with_reducible repeat' (first|refine Sp.h ?_|((first|refine Ss.h ?_|(refine Sb.h ?_ ?_ ?_<;>(try intro hgd)<;>try exact Xy))<;>simp -implicitDefEqProofs (maxSteps:=2000000) [hP,hN,hb])|refine X2 ?_ ?_|(refine Xd ?_ ?_<;>intro hcd<;>try exact Xx))
 all_goals (first|(simp_all [BP];done)|((try simp_all [BP])<;>(try omega)<;>grind))
theorem oE {a b k : Int} (hb : 0 < b) (h1 : k * b≤a) (h2 : a < (k+1) * b) : a / b=k:=by
 have:=(Int.le_ediv_iff_mul_le hb).2 h1
 have:=(Int.ediv_lt_iff_lt_mul hb).2 h2
 omega
theorem zE {a b B : Int} (hb : 0 < b) (hB : 0≤B) (h1 : -B≤a) (h2 : a≤B) : -B≤a / b∧a / b≤B:=by
 constructor
 ·refine (Int.le_ediv_iff_mul_le hb).2 ?_
  have : B * 1≤B * b:=Int.mul_le_mul_of_nonneg_left (by omega) hB
  rw [Int.neg_mul];omega
 ·have h3 : a / b < B+1:=(Int.ediv_lt_iff_lt_mul hb).2 (by
   have : (B+1) * 1≤(B+1) * b:=Int.mul_le_mul_of_nonneg_left (by omega) (by omega)
   omega)
  omega
theorem oF {a b : Int} (hb : 0 < b) (h1 : -4611686018427387904≤a) (h2 : a≤4611686018427387904) : zC a b=a / b:=by
 have hq:=Int.mul_tdiv_add_tmod a b
 have h3 : -b < a.tmod b:=Int.lt_tmod_of_pos a hb
 have h4 : a.tmod b < b:=Int.tmod_lt_of_pos a hb
 have hbd:=zE (a:=a) (b:=b) (B:=4611686018427387904) hb (by decide) h1 h2
 rw [Int.mul_comm] at hq
 unfold zC
 split
 ·have e : a / b=a.tdiv b - 1:=oE hb (by rw [Int.sub_mul];omega) (by rw [show a.tdiv b - 1+1=a.tdiv b by omega];omega)
  rw [aa (n:=a.tdiv b) (by omega) (by omega),aa (by omega) (by omega),e]
 ·have e : a / b=a.tdiv b:=oE hb (by omega) (by rw [Int.add_mul];omega)
  rw [aa (n:=a.tdiv b) (by omega) (by omega),e]
theorem m8 {a b : Int} (hb : 0 < b) (h1 : -4611686018427387904≤a) (h2 : a≤4611686018427387904) : BP a b=cH a b:=by
 have hq:=Int.mul_tdiv_add_tmod a b
 have h3 : -b < a.tmod b:=Int.lt_tmod_of_pos a hb
 have h4 : a.tmod b < b:=Int.tmod_lt_of_pos a hb
 have hbd:=zE (a:=-a) (b:=b) (B:=4611686018427387904) hb (by decide) (by omega) (by omega)
 rw [Int.mul_comm] at hq
 unfold BP cH
 split
 ·have e : -a / b=-a.tdiv b - 1:=oE hb (by rw [Int.sub_mul,Int.neg_mul];omega) (by rw [show -a.tdiv b - 1+1=-a.tdiv b by omega,Int.neg_mul];omega)
  rw [aa (n:=a.tdiv b) (by omega) (by omega),aa (by omega) (by omega),e];omega
 ·have e : -a / b=-a.tdiv b:=oE hb (by rw [Int.neg_mul];omega) (by rw [Int.add_mul,Int.neg_mul];omega)
  rw [aa (n:=a.tdiv b) (by omega) (by omega),e];omega
theorem F2 (x : Int × Int) : ab Tryz.prog 186 [.pv (aO x)] [] [] (.pv (Z (lI x))):=by
 cases hv : am x.1 x.2 with
 |false=>
  have hr : lI x=0:=by simp [lI,hv]
  rw [hr]
  refine Dp Tryz.func186 ?_
  intro C hP hN
  simp only [Tryz.f186] at hN ⊢
  with_reducible repeat' (first|refine Sp.h ?_|((first|refine Ss.h ?_|refine Sc.h (mL _ _) ?_|(refine Sb.h ?_ ?_ ?_<;>(try intro hgd)<;>try exact Xy))<;>simp -implicitDefEqProofs (maxSteps:=2000000) [hP,hN,hv])|refine X2 ?_ ?_|(refine Xd ?_ ?_<;>intro hcd<;>try exact Xx))
 |true=>
  have hb:=aT.1 hv
  have hr : lI x=zC (wr (x.1+x.2)) 2:=by
   rw [lI,hv]
   simp only [if_true]
   rw [aa (by omega) (by omega),oF (by decide) (by omega) (by omega),Int.fdiv_eq_ediv_of_nonneg _ (by decide)]
  rw [hr]
  refine Dp Tryz.func186 ?_
  intro C hP hN
  simp only [Tryz.f186] at hN ⊢
  with_reducible repeat' (first|refine Sp.h ?_|((first|refine Ss.h ?_|refine Sc.h (mL _ _) ?_|refine Sc.h (zD _ _ (by decide)) ?_|(refine Sb.h ?_ ?_ ?_<;>(try intro hgd)<;>try exact Xy))<;>simp -implicitDefEqProofs (maxSteps:=2000000) [hP,hN,hv])|refine X2 ?_ ?_|(refine Xd ?_ ?_<;>intro hcd<;>try exact Xx))
end Go.Ab
namespace Go.Ab
open Go.Proofs
def AL (x y z u : AV) (fb : Option bI) : Option bI:=match x,y,z,u with
 |.pv (.val (.int .i64 a)),.pv (.val (.int .i64 b)),.pv (.val (.int .i64 c)),.pv (.val (.int .i64 d))=>some (.pv (Z (max a (max b (max c d)))),[])
 |_,_,_,_=>fb
@[simp] theorem G2 (a b c d : Int) (fb : Option bI) : AL (.pv (.val (.int .i64 a))) (.pv (.val (.int .i64 b))) (.pv (.val (.int .i64 c))) (.pv (.val (.int .i64 d))) fb=some (.pv (Z (max a (max b (max c d)))),[]):=rfl
@[simp] theorem Lb {dst : Option Nat} {ty : TypeId} {ts : Array TypeId} {pos : String} {aft : Array Edge} {g : Option (Nat × Bool)} {ρ : Operand→AV} (x y z u : Operand) :
 aR Tryz.prog ⟨dst,.call ⟨.builtin .max,#[x,y,z,u],ts⟩,ty,pos,aft,g⟩ ρ=AL (ρ x) (ρ y) (ρ z) (ρ u) (ga Tryz.prog ⟨dst,.call ⟨.builtin .max,#[x,y,z,u],ts⟩,ty,pos,aft,g⟩ ρ):=by
 unfold AL
 split
 ·rename_i a b c d hx hy hz hu
  refine cW (by simp [Op.operands,Call.operands,hx,hy,hz,hu,dC]) ?_
  unfold execOp
  simp [resolve,invoke,builtin,Builtin.max_,hx,hy,hz,hu,lT,dC,Builtin.max2,af,cF]
  try omega
 ·rfl
def AM (x y z u : AV) (fb : Option bI) : Option bI:=match x,y,z,u with
 |.pv (.val (.int .i64 a)),.pv (.val (.int .i64 b)),.pv (.val (.int .i64 c)),.pv (.val (.int .i64 d))=>some (.pv (Z (min a (min b (min c d)))),[])
 |_,_,_,_=>fb
@[simp] theorem G3 (a b c d : Int) (fb : Option bI) : AM (.pv (.val (.int .i64 a))) (.pv (.val (.int .i64 b))) (.pv (.val (.int .i64 c))) (.pv (.val (.int .i64 d))) fb=some (.pv (Z (min a (min b (min c d)))),[]):=rfl
@[simp] theorem Lc {dst : Option Nat} {ty : TypeId} {ts : Array TypeId} {pos : String} {aft : Array Edge} {g : Option (Nat × Bool)} {ρ : Operand→AV} (x y z u : Operand) :
 aR Tryz.prog ⟨dst,.call ⟨.builtin .min,#[x,y,z,u],ts⟩,ty,pos,aft,g⟩ ρ=AM (ρ x) (ρ y) (ρ z) (ρ u) (ga Tryz.prog ⟨dst,.call ⟨.builtin .min,#[x,y,z,u],ts⟩,ty,pos,aft,g⟩ ρ):=by
 unfold AM
 split
 ·rename_i a b c d hx hy hz hu
  refine cW (by simp [Op.operands,Call.operands,hx,hy,hz,hu,dC]) ?_
  unfold execOp
  simp [resolve,invoke,builtin,Builtin.min_,hx,hy,hz,hu,lT,dC,Builtin.min2,af,cF]
  try omega
 ·rfl
theorem Dr (a : Int) : ab Tryz.prog 430 [.pv (Z a)] [] [] (.pv (Z (dO a))):=by
 refine Dp Tryz.func430 ?_
 intro C hP hN
 simp only [Tryz.f430] at hN ⊢
 with_reducible repeat' (first|refine Sp.h ?_|((first|refine Ss.h ?_|(refine Sb.h ?_ ?_ ?_<;>(try intro hgd)<;>try exact Xy))<;>simp -implicitDefEqProofs (maxSteps:=2000000) [hP,hN])|refine X2 ?_ ?_|(refine Xd ?_ ?_<;>intro hcd<;>try exact Xx))
 all_goals (try simp [dO])<;>(try omega)
theorem D6 (a b : Int) : ab Tryz.prog 444 [.pv (Z a),.pv (Z b)] [] [] (.pv (I (dO a) (dO b))):=by
 have c1:=Dr a
 have c2:=Dr b
 refine Dp Tryz.func444 ?_
 intro C hP hN
 simp only [Tryz.f444] at hN ⊢
 with_reducible repeat' (first|refine Sp.h ?_|((first|refine Ss.h ?_|refine Sc.h (c1) ?_|refine Sc.h (c2) ?_|(refine Sb.h ?_ ?_ ?_<;>(try intro hgd)<;>try exact Xy))<;>simp -implicitDefEqProofs (maxSteps:=2000000) [hP,hN])|refine X2 ?_ ?_|(refine Xd ?_ ?_<;>intro hcd<;>try exact Xx))
 all_goals (try simp [dO])<;>(try omega)
theorem xY (a : Int) : ab Tryz.prog 411 [.pv (Z a)] [] [] (.pv (I (dO a) (dO a))):=by
 have c1:=Dr a
 refine Dp Tryz.func411 ?_
 intro C hP hN
 simp only [Tryz.f411] at hN ⊢
 with_reducible repeat' (first|refine Sp.h ?_|((first|refine Ss.h ?_|refine Sc.h (c1) ?_|(refine Sb.h ?_ ?_ ?_<;>(try intro hgd)<;>try exact Xy))<;>simp -implicitDefEqProofs (maxSteps:=2000000) [hP,hN])|refine X2 ?_ ?_|(refine Xd ?_ ?_<;>intro hcd<;>try exact Xx))
 all_goals (try simp [dO])<;>(try omega)
theorem kL {a b c d : Int} : ab Tryz.prog 428 [.pv (I a b),.pv (I c d)] [] [] (.pv (aO (aA (a,b) (c,d)))):=by
 have v1:=mL a b
 have v2:=mL c d
 cases h1 : am a b<;>cases h2 : am c d<;>rw [h1] at v1<;>rw [h2] at v2
 case true.true=>
  have hr : aA (a,b) (c,d)=(dO (a+c),dO (b+d)):=by simp only [aA,h1,h2,Bool.and_self,if_true]
  rw [hr]
  rw [aT] at h1 h2
  have w1 : IntKind.i64.wrap (a+c)=a+c:=aa (by omega) (by omega)
  have w2 : IntKind.i64.wrap (b+d)=b+d:=aa (by omega) (by omega)
  refine Dp Tryz.func428 ?_
  intro C hP hN
  simp only [Tryz.f428] at hN ⊢
  with_reducible repeat' (first|refine Sp.h ?_|((first|refine Ss.h ?_|refine Sc.h (v1) ?_|refine Sc.h (v2) ?_|refine Sc.h (D6 _ _) ?_|(refine Sb.h ?_ ?_ ?_<;>(try intro hgd)<;>try exact Xy))<;>simp -implicitDefEqProofs (maxSteps:=2000000) [hP,hN,w1,w2])|refine X2 ?_ ?_|(refine Xd ?_ ?_<;>intro hcd<;>try exact Xx))
 all_goals (
  have hr : aA (a,b) (c,d)=(0,0):=by simp [aA,h1,h2]
  rw [hr])
 all_goals
  refine Dp Tryz.func428 ?_
  intro C hP hN
  simp only [Tryz.f428] at hN ⊢
  with_reducible repeat' (first|refine Sp.h ?_|((first|refine Ss.h ?_|refine Sc.h (v1) ?_|refine Sc.h (v2) ?_|(refine Sb.h ?_ ?_ ?_<;>(try intro hgd)<;>try exact Xy))<;>simp -implicitDefEqProofs (maxSteps:=2000000) [hP,hN])|refine X2 ?_ ?_|(refine Xd ?_ ?_<;>intro hcd<;>try exact Xx))
theorem Ds {a b : Int} : ab Tryz.prog 443 [.pv (I a b)] [] [] (.pv (aO (d9 (a,b)))):=by
 have v1:=mL a b
 cases h1 : am a b<;>rw [h1] at v1
 ·have hr : d9 (a,b)=(0,0):=by simp [d9,h1]
  rw [hr]
  refine Dp Tryz.func443 ?_
  intro C hP hN
  simp only [Tryz.f443] at hN ⊢
  with_reducible repeat' (first|refine Sp.h ?_|((first|refine Ss.h ?_|refine Sc.h (v1) ?_|(refine Sb.h ?_ ?_ ?_<;>(try intro hgd)<;>try exact Xy))<;>simp -implicitDefEqProofs (maxSteps:=2000000) [hP,hN])|refine X2 ?_ ?_|(refine Xd ?_ ?_<;>intro hcd<;>try exact Xx))
 ·have hr : d9 (a,b)=(-b,-a):=by simp only [d9,h1,if_true]
  rw [hr]
  rw [aT] at h1
  have w1 : IntKind.i64.wrap (0 - a)=-a:=(aa (n:=0 - a) (by omega) (by omega)).trans (by omega)
  have w2 : IntKind.i64.wrap (0 - b)=-b:=(aa (n:=0 - b) (by omega) (by omega)).trans (by omega)
  have w3 : IntKind.i64.wrap (-a)=-a:=aa (by omega) (by omega)
  have w4 : IntKind.i64.wrap (-b)=-b:=aa (by omega) (by omega)
  refine Dp Tryz.func443 ?_
  intro C hP hN
  simp only [Tryz.f443] at hN ⊢
  with_reducible repeat' (first|refine Sp.h ?_|((first|refine Ss.h ?_|refine Sc.h (v1) ?_|(refine Sb.h ?_ ?_ ?_<;>(try intro hgd)<;>try exact Xy))<;>simp -implicitDefEqProofs (maxSteps:=2000000) [hP,hN,w1,w2,w3,w4])|refine X2 ?_ ?_|(refine Xd ?_ ?_<;>intro hcd<;>try exact Xx))
theorem lO {a b c d : Int} : ab Tryz.prog 429 [.pv (I a b),.pv (I c d)] [] [] (.pv (aO (aj (a,b) (c,d)))):=by
 have v1:=mL a b
 have v2:=mL c d
 cases h1 : am a b<;>cases h2 : am c d<;>rw [h1] at v1<;>rw [h2] at v2
 case true.true=>
  have h1':=aT.1 h1
  have h2':=aT.1 h2
  have p1:=bi (a:=a) (b:=c) 2147483648 2147483648 (by omega) (by omega) (by omega) (by omega)
  have p2:=bi (a:=a) (b:=d) 2147483648 2147483648 (by omega) (by omega) (by omega) (by omega)
  have p3:=bi (a:=b) (b:=c) 2147483648 2147483648 (by omega) (by omega) (by omega) (by omega)
  have p4:=bi (a:=b) (b:=d) 2147483648 2147483648 (by omega) (by omega) (by omega) (by omega)
  have w1 : IntKind.i64.wrap (a * c)=a * c:=aa (by omega) (by omega)
  have w2 : IntKind.i64.wrap (a * d)=a * d:=aa (by omega) (by omega)
  have w3 : IntKind.i64.wrap (b * c)=b * c:=aa (by omega) (by omega)
  have w4 : IntKind.i64.wrap (b * d)=b * d:=aa (by omega) (by omega)
  have cf:=zD (min (a * c) (min (a * d) (min (b * c) (b * d)))) 65536 (by decide)
  have cc:=xU (max (a * c) (max (a * d) (max (b * c) (b * d)))) 65536 (by decide)
  rw [oF (by decide) (by omega) (by omega)] at cf
  rw [m8 (by decide) (by omega) (by omega)] at cc
  have hr : aj (a,b) (c,d)=(dO (min (a * c) (min (a * d) (min (b * c) (b * d))) / 65536),dO (cH (max (a * c) (max (a * d) (max (b * c) (b * d)))) 65536)):=by simp only [aj,h1,h2,Bool.and_self,if_true]
  rw [hr]
  refine Dp Tryz.func429 ?_
  intro C hP hN
  simp only [Tryz.f429] at hN ⊢
  with_reducible repeat' (first|refine Sp.h ?_|((first|refine Wd ?_|refine Ss.h ?_|refine Sc.h (v1) ?_|refine Sc.h (v2) ?_|refine Sc.h (cf) ?_|refine Sc.h (cc) ?_|refine Sc.h (D6 _ _) ?_|(refine Sb.h ?_ ?_ ?_<;>(try intro hgd)<;>try exact Xy))<;>simp -implicitDefEqProofs (maxSteps:=2000000) [hP,hN,w1,w2,w3,w4]<;>try refine Ya ?_)|refine X2 ?_ ?_|(refine Xd ?_ ?_<;>intro hcd<;>try exact Xx))
 all_goals (
  have hr : aj (a,b) (c,d)=(0,0):=by simp [aj,h1,h2]
  rw [hr])
 all_goals
  refine Dp Tryz.func429 ?_
  intro C hP hN
  simp only [Tryz.f429] at hN ⊢
  with_reducible repeat' (first|refine Sp.h ?_|((first|refine Wd ?_|refine Ss.h ?_|refine Sc.h (v1) ?_|refine Sc.h (v2) ?_|(refine Sb.h ?_ ?_ ?_<;>(try intro hgd)<;>try exact Xy))<;>simp -implicitDefEqProofs (maxSteps:=2000000) [hP,hN]<;>try refine Ya ?_)|refine X2 ?_ ?_|(refine Xd ?_ ?_<;>intro hcd<;>try exact Xx))
theorem Dt (a : Int) : ab Tryz.prog 454 [.pv (Z a)] [] [] (.pv (Z (a % 65536))):=by
 have h1 : a.tmod 65536=a - 65536 * a.tdiv 65536:=by have:=Int.mul_tdiv_add_tmod a 65536;omega
 have h2 : -65536 < a.tmod 65536:=Int.lt_tmod_of_pos a (by decide)
 have h3 : a.tmod 65536 < 65536:=Int.tmod_lt_of_pos a (by decide)
 have w1 : IntKind.i64.wrap (a.tmod 65536+65536)=a.tmod 65536+65536:=aa (by omega) (by omega)
 have e : (a.tmod 65536+65536).tmod 65536=a % 65536:=by
  rw [Int.tmod_eq_emod_of_nonneg (by omega)];omega
 refine Dp Tryz.func454 ?_
 intro C hP hN
 simp only [Tryz.f454] at hN ⊢
 with_reducible repeat' (first|refine Sp.h ?_|((first|refine Ss.h ?_|(refine Sb.h ?_ ?_ ?_<;>(try intro hgd)<;>try exact Xy))<;>simp -implicitDefEqProofs (maxSteps:=2000000) [hP,hN,w1,e])|refine X2 ?_ ?_|(refine Xd ?_ ?_<;>intro hcd<;>try exact Xx))
theorem Gb (x : Int) (h0 : 0≤x) (h1 : x≤8192) : ab Tryz.prog 464 [.pv (Z x)] [] [] (.pv (.tup [wj (fun k=>if k=0 then 0 else dq x k),wj (fun k=>if k=0 then 0 else dr x k)])):=by
 have w1 : IntKind.i64.wrap (x * 6746518852)=x * 6746518852:=aa (by omega) (by omega)
 have w2 : IntKind.i64.wrap (x * 6746518853)=x * 6746518853:=aa (by omega) (by omega)
 have c1 : ab Tryz.prog 289 [.pv (Z (x * 6746518852)),.pv (Z 65536)] [] [] (.pv (Z (dq x 1))):=by
  have:=zD (x * 6746518852) 65536 (by decide)
  rw [oF (by decide) (by omega) (by omega)] at this
  exact this
 have c2 : ab Tryz.prog 286 [.pv (Z (x * 6746518853)),.pv (Z 65536)] [] [] (.pv (Z (dr x 1))):=by
  have:=xU (x * 6746518853) 65536 (by decide)
  rw [m8 (by decide) (by omega) (by omega)] at this
  exact this
 have m1 : ∀ j,IntKind.i64.wrap (dq x j * dq x 1)=dq x j * dq x 1:=fun j=>aa (by have:=oA h0 h1 j;omega) (by have:=oA h0 h1 j;omega)
 have m2 : ∀ j,IntKind.i64.wrap (dr x j * dr x 1)=dr x j * dr x 1:=fun j=>aa (by have:=kD h0 h1 j;omega) (by have:=kD h0 h1 j;omega)
 have c3 : ∀ j,ab Tryz.prog 289 [.pv (Z (dq x (j+1) * dq x 1)),.pv (Z 1073741824)] [] [] (.pv (Z (dq x (j+2)))):=fun j=>by
  have:=zD (dq x (j+1) * dq x 1) 1073741824 (by decide)
  have hm:=oA h0 h1 (j+1)
  rw [oF (by decide) (by omega) (by omega)] at this
  exact this
 have c4 : ∀ j,ab Tryz.prog 286 [.pv (Z (dr x (j+1) * dr x 1)),.pv (Z 1073741824)] [] [] (.pv (Z (dr x (j+2)))):=fun j=>by
  have:=xU (dr x (j+1) * dr x 1) 1073741824 (by decide)
  have hm:=kD h0 h1 (j+1)
  rw [m8 (by decide) (by omega) (by omega)] at this
  exact this
 generalize hf : dq x=f at *
 generalize hg : dr x=g at *
 obtain ⟨f',hf'⟩ : ∃ f' : Nat→Int,f'=fun k=>if k=0 then 0 else f k:=⟨_,rfl⟩
 obtain ⟨g',hg'⟩ : ∃ g' : Nat→Int,g'=fun k=>if k=0 then 0 else g k:=⟨_,rfl⟩
 rw [← hf',← hg']
 have z1 : f' 0=0:=by rw [hf'];rfl
 have z2 : g' 0=0:=by rw [hg'];rfl
 have s1 : ∀ k,f (k+1)=f' (k+1):=fun k=>by rw [hf'];simp
 have s2 : ∀ k,g (k+1)=g' (k+1):=fun k=>by rw [hg'];simp
 rw [show f 1=f' 1 from s1 0] at c1 m1 c3
 rw [show g 1=g' 1 from s2 0] at c2 m2 c4
 have n1 : ∀ j,IntKind.i64.wrap (f' (j+1) * f' 1)=f' (j+1) * f' 1:=fun j=>by rw [← s1 j];exact m1 _
 have n2 : ∀ j,IntKind.i64.wrap (g' (j+1) * g' 1)=g' (j+1) * g' 1:=fun j=>by rw [← s2 j];exact m2 _
 have d3 : ∀ j,ab Tryz.prog 289 [.pv (Z (f' (j+1) * f' 1)),.pv (Z 1073741824)] [] [] (.pv (Z (f' (j+2)))):=fun j=>by have:=c3 j;rw [s1 j,s1 (j+1)] at this;exact this
 have d4 : ∀ j,ab Tryz.prog 286 [.pv (Z (g' (j+1) * g' 1)),.pv (Z 1073741824)] [] [] (.pv (Z (g' (j+2)))):=fun j=>by have:=c4 j;rw [s2 j,s2 (j+1)] at this;exact this
 have n10:=n1 0
 have n11:=n1 1
 have n12:=n1 2
 have n13:=n1 3
 have n14:=n1 4
 have n15:=n1 5
 have n16:=n1 6
 have n17:=n1 7
 have n18:=n1 8
 have n20:=n2 0
 have n21:=n2 1
 have n22:=n2 2
 have n23:=n2 3
 have n24:=n2 4
 have n25:=n2 5
 have n26:=n2 6
 have n27:=n2 7
 have n28:=n2 8
 simp only [Nat.reduceAdd] at n10 n11 n12 n13 n14 n15 n16 n17 n18 n20 n21 n22 n23 n24 n25 n26 n27 n28
 clear n1 n2 m1 m2 c3 c4 s1 s2 hf hg hf' hg'
 refine Dp Tryz.func464 ?_
 intro C hP hN
 simp only [Tryz.f464] at hN ⊢
 with_reducible repeat' (first|refine Sp.h ?_|((first|refine Wd ?_|refine Ss.h ?_|refine Sc.h (c1) ?_|refine Sc.h (c2) ?_|(refine Sb.h ?_ ?_ ?_<;>(try intro hgd)<;>try exact Xy))<;>simp -implicitDefEqProofs (maxSteps:=2000000) [hP,hN,w1,w2,z1,z2]<;>try refine Ya ?_)|refine X2 ?_ ?_|(refine Xd ?_ ?_<;>intro hcd<;>try exact Xx))
 refine WP.loopN [] 9 (fun i st=>st.t 2=.ptr 2 0∧st.t 3=.ptr 3 0∧st.t 4=.ptr 4 0∧st.t 5=.ptr 5 0∧st.t 6=.pv (Z (i+2 : Nat))∧st.h 2=some (.box (fL f' 0) true false)∧st.h 3=some (.box (fL f' 0) true false)∧st.h 4=some (.box (fL f' (i+2)) true false)∧st.h 5=some (.box (fL g' (i+2)) true false)) (by simp [fL,z1,z2]) ?_
 rintro i st hi ⟨g2,g3,g4,g5,g6,hb2,hb3,hb4,hb5⟩
 have hc : i=0∨i=1∨i=2∨i=3∨i=4∨i=5∨i=6∨i=7∨i=8∨i=9:=by omega
 rcases hc with rfl|rfl|rfl|rfl|rfl|rfl|rfl|rfl|rfl|rfl
 all_goals (simp only [fL] at hb2 hb3 hb4 hb5;simp at g6 hb2 hb3 hb4 hb5)
 ·skip
  with_reducible repeat' (first|refine Sp.h ?_|((first|refine Wd ?_|refine Ss.h ?_|refine Sc.h (d3 0) ?_|refine Sc.h (d4 0) ?_|(refine Sb.h ?_ ?_ ?_<;>(try intro hgd)<;>try exact Xy))<;>simp -implicitDefEqProofs (maxSteps:=2000000) [hP,hN,g2,g3,g4,g5,g6,hb2,hb3,hb4,hb5,z1,z2,n10,n20,fL]<;>try refine Ya ?_)|refine X2 ?_ ?_|(refine Xd ?_ ?_<;>intro hcd<;>try exact Xx))
 ·skip
  with_reducible repeat' (first|refine Sp.h ?_|((first|refine Wd ?_|refine Ss.h ?_|refine Sc.h (d3 1) ?_|refine Sc.h (d4 1) ?_|(refine Sb.h ?_ ?_ ?_<;>(try intro hgd)<;>try exact Xy))<;>simp -implicitDefEqProofs (maxSteps:=2000000) [hP,hN,g2,g3,g4,g5,g6,hb2,hb3,hb4,hb5,z1,z2,n11,n21,fL]<;>try refine Ya ?_)|refine X2 ?_ ?_|(refine Xd ?_ ?_<;>intro hcd<;>try exact Xx))
 ·skip
  with_reducible repeat' (first|refine Sp.h ?_|((first|refine Wd ?_|refine Ss.h ?_|refine Sc.h (d3 2) ?_|refine Sc.h (d4 2) ?_|(refine Sb.h ?_ ?_ ?_<;>(try intro hgd)<;>try exact Xy))<;>simp -implicitDefEqProofs (maxSteps:=2000000) [hP,hN,g2,g3,g4,g5,g6,hb2,hb3,hb4,hb5,z1,z2,n12,n22,fL]<;>try refine Ya ?_)|refine X2 ?_ ?_|(refine Xd ?_ ?_<;>intro hcd<;>try exact Xx))
 ·skip
  with_reducible repeat' (first|refine Sp.h ?_|((first|refine Wd ?_|refine Ss.h ?_|refine Sc.h (d3 3) ?_|refine Sc.h (d4 3) ?_|(refine Sb.h ?_ ?_ ?_<;>(try intro hgd)<;>try exact Xy))<;>simp -implicitDefEqProofs (maxSteps:=2000000) [hP,hN,g2,g3,g4,g5,g6,hb2,hb3,hb4,hb5,z1,z2,n13,n23,fL]<;>try refine Ya ?_)|refine X2 ?_ ?_|(refine Xd ?_ ?_<;>intro hcd<;>try exact Xx))
 ·skip
  with_reducible repeat' (first|refine Sp.h ?_|((first|refine Wd ?_|refine Ss.h ?_|refine Sc.h (d3 4) ?_|refine Sc.h (d4 4) ?_|(refine Sb.h ?_ ?_ ?_<;>(try intro hgd)<;>try exact Xy))<;>simp -implicitDefEqProofs (maxSteps:=2000000) [hP,hN,g2,g3,g4,g5,g6,hb2,hb3,hb4,hb5,z1,z2,n14,n24,fL]<;>try refine Ya ?_)|refine X2 ?_ ?_|(refine Xd ?_ ?_<;>intro hcd<;>try exact Xx))
 ·skip
  with_reducible repeat' (first|refine Sp.h ?_|((first|refine Wd ?_|refine Ss.h ?_|refine Sc.h (d3 5) ?_|refine Sc.h (d4 5) ?_|(refine Sb.h ?_ ?_ ?_<;>(try intro hgd)<;>try exact Xy))<;>simp -implicitDefEqProofs (maxSteps:=2000000) [hP,hN,g2,g3,g4,g5,g6,hb2,hb3,hb4,hb5,z1,z2,n15,n25,fL]<;>try refine Ya ?_)|refine X2 ?_ ?_|(refine Xd ?_ ?_<;>intro hcd<;>try exact Xx))
 ·skip
  with_reducible repeat' (first|refine Sp.h ?_|((first|refine Wd ?_|refine Ss.h ?_|refine Sc.h (d3 6) ?_|refine Sc.h (d4 6) ?_|(refine Sb.h ?_ ?_ ?_<;>(try intro hgd)<;>try exact Xy))<;>simp -implicitDefEqProofs (maxSteps:=2000000) [hP,hN,g2,g3,g4,g5,g6,hb2,hb3,hb4,hb5,z1,z2,n16,n26,fL]<;>try refine Ya ?_)|refine X2 ?_ ?_|(refine Xd ?_ ?_<;>intro hcd<;>try exact Xx))
 ·skip
  with_reducible repeat' (first|refine Sp.h ?_|((first|refine Wd ?_|refine Ss.h ?_|refine Sc.h (d3 7) ?_|refine Sc.h (d4 7) ?_|(refine Sb.h ?_ ?_ ?_<;>(try intro hgd)<;>try exact Xy))<;>simp -implicitDefEqProofs (maxSteps:=2000000) [hP,hN,g2,g3,g4,g5,g6,hb2,hb3,hb4,hb5,z1,z2,n17,n27,fL]<;>try refine Ya ?_)|refine X2 ?_ ?_|(refine Xd ?_ ?_<;>intro hcd<;>try exact Xx))
 ·skip
  with_reducible repeat' (first|refine Sp.h ?_|((first|refine Wd ?_|refine Ss.h ?_|refine Sc.h (d3 8) ?_|refine Sc.h (d4 8) ?_|(refine Sb.h ?_ ?_ ?_<;>(try intro hgd)<;>try exact Xy))<;>simp -implicitDefEqProofs (maxSteps:=2000000) [hP,hN,g2,g3,g4,g5,g6,hb2,hb3,hb4,hb5,z1,z2,n18,n28,fL]<;>try refine Ya ?_)|refine X2 ?_ ?_|(refine Xd ?_ ?_<;>intro hcd<;>try exact Xx))
 ·skip
  with_reducible repeat' (first|refine Sp.h ?_|((first|refine Wd ?_|refine Ss.h ?_|(refine Sb.h ?_ ?_ ?_<;>(try intro hgd)<;>try exact Xy))<;>simp -implicitDefEqProofs (maxSteps:=2000000) [hP,hN,g2,g3,g4,g5,g6,hb2,hb3,hb4,hb5,z1,z2,fL]<;>try refine Ya ?_)|refine X2 ?_ ?_|(refine Xd ?_ ?_<;>intro hcd<;>try exact Xx))
theorem Gc (lo hi : Int) (h1 : -4611686018427387904≤hi) (h2 : hi≤4611686018427387904) (h3 : -4611686018427387904≤lo) (h4 : lo≤4611686018427387904) : ab Tryz.prog 465 [.pv (Z lo),.pv (Z hi)] [] [] (.pv (aO (j6 lo hi))):=by
 have c1:=zD lo 16384 (by decide)
 have c2:=xU hi 16384 (by decide)
 rw [oF (by decide) h3 h4] at c1
 rw [m8 (by decide) h1 h2] at c2
 have he : j6 lo hi=(max 0 (lo / 16384),min 65536 (cH hi 16384)):=rfl
 rw [he]
 generalize lo / 16384=u at *
 generalize cH hi 16384=v at *
 refine Dp Tryz.func465 ?_
 intro C hP hN
 simp only [Tryz.f465] at hN ⊢
 with_reducible repeat' (first|refine Sp.h ?_|((first|refine Ss.h ?_|refine Sc.h (c1) ?_|refine Sc.h (c2) ?_|(refine Sb.h ?_ ?_ ?_<;>(try intro hgd)<;>try exact Xy))<;>simp -implicitDefEqProofs (maxSteps:=2000000) [hP,hN])|refine X2 ?_ ?_|(refine Xd ?_ ?_<;>intro hcd<;>try exact Xx))
 all_goals (try simp)<;>(try omega)
theorem zG {n d : Int} (hd : 0 < d) : cH n d=au n d:=by
 unfold cH au
 have e:=Int.mul_ediv_add_emod (n+d - 1) d
 have e1:=Int.emod_nonneg (n+d - 1) (show d≠0 by omega)
 have e2:=Int.emod_lt_of_pos (n+d - 1) hd
 have : -n / d=-((n+d - 1) / d):=by
  refine oE hd ?_ ?_
  ·rw [Int.neg_mul,Int.mul_comm];omega
  ·rw [Int.add_mul,Int.neg_mul,Int.mul_comm];omega
 omega
theorem cR {g : Nat→Int} (hg : ∀ j,0≤g j∧g j≤1073741824) (j : Nat) (d : Int) (h0 : 0 < d) : ab Tryz.prog 286 [.pv (Z (g j)),.pv (Z d)] [] [] (.pv (Z (au (g j) d))):=by
 have:=xU (g j) d (by omega)
 have h:=hg j
 rw [m8 h0 (by omega) (by omega),zG h0] at this
 exact this
theorem fR {f : Nat→Int} (hf : ∀ j,0≤f j∧f j≤1073741824) (j : Nat) (d : Int) (h0 : 0 < d) : ab Tryz.prog 289 [.pv (Z (f j)),.pv (Z d)] [] [] (.pv (Z (f j / d))):=by
 have:=zD (f j) d (by omega)
 have h:=hf j
 rw [oF h0 (by omega) (by omega)] at this
 exact this
end Go.Ab
namespace Go.Ab
open Go.Proofs
theorem JR (x : Int) (h0 : 0≤x) (h1 : x≤8192) : ab Tryz.prog 459 [.pv (Z x)] [] [] (.pv (aO (mh x))):=by
 have cp:=Gb x h0 h1
 have hf:=kB h0 h1
 have hg:=kC h0 h1
 have he : mh x=j6 (dL (jv (dq x) (dr x))) (dL (ir (dq x) (dr x))):=rfl
 rw [he]
 generalize dq x=f at *
 generalize dr x=g at *
 simp only [jv,ir,FX,Az]
 have u1:=hf 1
 have q3:=dB (hg 3).1 (hg 3).2 (d:=6) (by decide) (by decide)
 have c3:=cR hg 3 6 (by decide)
 have p5:=mR hf 5 (d:=120) (by decide)
 have e5:=fR hf 5 120 (by decide)
 have q7:=dB (hg 7).1 (hg 7).2 (d:=5040) (by decide) (by decide)
 have c7:=cR hg 7 5040 (by decide)
 have v1:=hg 1
 have p3:=mR hf 3 (d:=6) (by decide)
 have e3:=fR hf 3 6 (by decide)
 have q5:=dB (hg 5).1 (hg 5).2 (d:=120) (by decide) (by decide)
 have c5:=cR hg 5 120 (by decide)
 have p7:=mR hf 7 (d:=5040) (by decide)
 have e7:=fR hf 7 5040 (by decide)
 have q9:=dB (hg 9).1 (hg 9).2 (d:=362880) (by decide) (by decide)
 have c9:=cR hg 9 362880 (by decide)
 have w0 : IntKind.i64.wrap (f 1 - au (g 3) 6)=f 1 - au (g 3) 6:=aa (by omega) (by omega)
 have w1 : IntKind.i64.wrap (f 1 - au (g 3) 6+f 5 / 120)=f 1 - au (g 3) 6+f 5 / 120:=aa (by omega) (by omega)
 have w2 : IntKind.i64.wrap (f 1 - au (g 3) 6+f 5 / 120 - au (g 7) 5040)=f 1 - au (g 3) 6+f 5 / 120 - au (g 7) 5040:=aa (by omega) (by omega)
 have w3 : IntKind.i64.wrap (g 1 - f 3 / 6)=g 1 - f 3 / 6:=aa (by omega) (by omega)
 have w4 : IntKind.i64.wrap (g 1 - f 3 / 6+au (g 5) 120)=g 1 - f 3 / 6+au (g 5) 120:=aa (by omega) (by omega)
 have w5 : IntKind.i64.wrap (g 1 - f 3 / 6+au (g 5) 120 - f 7 / 5040)=g 1 - f 3 / 6+au (g 5) 120 - f 7 / 5040:=aa (by omega) (by omega)
 have w6 : IntKind.i64.wrap (g 1 - f 3 / 6+au (g 5) 120 - f 7 / 5040+au (g 9) 362880)=g 1 - f 3 / 6+au (g 5) 120 - f 7 / 5040+au (g 9) 362880:=aa (by omega) (by omega)
 have ce:=Gc (f 1 - au (g 3) 6+f 5 / 120 - au (g 7) 5040) (g 1 - f 3 / 6+au (g 5) 120 - f 7 / 5040+au (g 9) 362880) (by omega) (by omega) (by omega) (by omega)
 refine Dp Tryz.func459 ?_
 intro C hP hN
 simp only [Tryz.f459] at hN ⊢
 with_reducible repeat' (first|refine Sp.h ?_|((first|refine Wd ?_|refine Ss.h ?_|refine Sc.h (cp) ?_|refine Sc.h (c3) ?_|refine Sc.h (e5) ?_|refine Sc.h (c7) ?_|refine Sc.h (e3) ?_|refine Sc.h (c5) ?_|refine Sc.h (e7) ?_|refine Sc.h (c9) ?_|refine Sc.h (ce) ?_|(refine Sb.h ?_ ?_ ?_<;>(try intro hgd)<;>try exact Xy))<;>simp -implicitDefEqProofs (maxSteps:=2000000) [hP,hN,w0,w1,w2,w3,w4,w5,w6]<;>try refine Ya ?_)|refine X2 ?_ ?_|(refine Xd ?_ ?_<;>intro hcd<;>try exact Xx))
theorem JS (x : Int) (h0 : 0≤x) (h1 : x≤8192) : ab Tryz.prog 460 [.pv (Z x)] [] [] (.pv (aO (o6 x))):=by
 have cp:=Gb x h0 h1
 have hf:=kB h0 h1
 have hg:=kC h0 h1
 have he : o6 x=j6 (dL (lM (dq x) (dr x))) (dL (j7 (dq x) (dr x))):=rfl
 rw [he]
 generalize dq x=f at *
 generalize dr x=g at *
 simp only [lM,j7,Az,FY]
 have q2:=dB (hg 2).1 (hg 2).2 (d:=2) (by decide) (by decide)
 have c2:=cR hg 2 2 (by decide)
 have p4:=mR hf 4 (d:=24) (by decide)
 have e4:=fR hf 4 24 (by decide)
 have q6:=dB (hg 6).1 (hg 6).2 (d:=720) (by decide) (by decide)
 have c6:=cR hg 6 720 (by decide)
 have p8:=mR hf 8 (d:=40320) (by decide)
 have e8:=fR hf 8 40320 (by decide)
 have q10:=dB (hg 10).1 (hg 10).2 (d:=3628800) (by decide) (by decide)
 have c10:=cR hg 10 3628800 (by decide)
 have p2:=mR hf 2 (d:=2) (by decide)
 have e2:=fR hf 2 2 (by decide)
 have q4:=dB (hg 4).1 (hg 4).2 (d:=24) (by decide) (by decide)
 have c4:=cR hg 4 24 (by decide)
 have p6:=mR hf 6 (d:=720) (by decide)
 have e6:=fR hf 6 720 (by decide)
 have q8:=dB (hg 8).1 (hg 8).2 (d:=40320) (by decide) (by decide)
 have c8:=cR hg 8 40320 (by decide)
 have w0 : IntKind.i64.wrap (1073741824 - au (g 2) 2)=1073741824 - au (g 2) 2:=aa (by omega) (by omega)
 have w1 : IntKind.i64.wrap (1073741824 - au (g 2) 2+f 4 / 24)=1073741824 - au (g 2) 2+f 4 / 24:=aa (by omega) (by omega)
 have w2 : IntKind.i64.wrap (1073741824 - au (g 2) 2+f 4 / 24 - au (g 6) 720)=1073741824 - au (g 2) 2+f 4 / 24 - au (g 6) 720:=aa (by omega) (by omega)
 have w3 : IntKind.i64.wrap (1073741824 - au (g 2) 2+f 4 / 24 - au (g 6) 720+f 8 / 40320)=1073741824 - au (g 2) 2+f 4 / 24 - au (g 6) 720+f 8 / 40320:=aa (by omega) (by omega)
 have w4 : IntKind.i64.wrap (1073741824 - au (g 2) 2+f 4 / 24 - au (g 6) 720+f 8 / 40320 - au (g 10) 3628800)=1073741824 - au (g 2) 2+f 4 / 24 - au (g 6) 720+f 8 / 40320 - au (g 10) 3628800:=aa (by omega) (by omega)
 have w5 : IntKind.i64.wrap (1073741824 - f 2 / 2)=1073741824 - f 2 / 2:=aa (by omega) (by omega)
 have w6 : IntKind.i64.wrap (1073741824 - f 2 / 2+au (g 4) 24)=1073741824 - f 2 / 2+au (g 4) 24:=aa (by omega) (by omega)
 have w7 : IntKind.i64.wrap (1073741824 - f 2 / 2+au (g 4) 24 - f 6 / 720)=1073741824 - f 2 / 2+au (g 4) 24 - f 6 / 720:=aa (by omega) (by omega)
 have w8 : IntKind.i64.wrap (1073741824 - f 2 / 2+au (g 4) 24 - f 6 / 720+au (g 8) 40320)=1073741824 - f 2 / 2+au (g 4) 24 - f 6 / 720+au (g 8) 40320:=aa (by omega) (by omega)
 have ce:=Gc (1073741824 - au (g 2) 2+f 4 / 24 - au (g 6) 720+f 8 / 40320 - au (g 10) 3628800) (1073741824 - f 2 / 2+au (g 4) 24 - f 6 / 720+au (g 8) 40320) (by omega) (by omega) (by omega) (by omega)
 refine Dp Tryz.func460 ?_
 intro C hP hN
 simp only [Tryz.f460] at hN ⊢
 with_reducible repeat' (first|refine Sp.h ?_|((first|refine Wd ?_|refine Ss.h ?_|refine Sc.h (cp) ?_|refine Sc.h (c2) ?_|refine Sc.h (e4) ?_|refine Sc.h (c6) ?_|refine Sc.h (e8) ?_|refine Sc.h (c10) ?_|refine Sc.h (e2) ?_|refine Sc.h (c4) ?_|refine Sc.h (e6) ?_|refine Sc.h (c8) ?_|refine Sc.h (ce) ?_|(refine Sb.h ?_ ?_ ?_<;>(try intro hgd)<;>try exact Xy))<;>simp -implicitDefEqProofs (maxSteps:=2000000) [hP,hN,w0,w1,w2,w3,w4,w5,w6,w7,w8]<;>try refine Ya ?_)|refine X2 ?_ ?_|(refine Xd ?_ ?_<;>intro hcd<;>try exact Xx))
theorem Gd (r : Int) (h0 : 0≤r) (h1 : r≤16384) : ab Tryz.prog 455 [.pv (Z r)] [] [] (.pv (aO (aH r))):=by
 by_cases h : r≤8192
 ·have hr : aH r=mh r:=by simp [aH,h]
  rw [hr]
  have c:=JR r h0 h
  refine Dp Tryz.func455 ?_
  intro C hP hN
  simp only [Tryz.f455] at hN ⊢
  with_reducible repeat' (first|refine Sp.h ?_|((first|refine Ss.h ?_|refine Sc.h (c) ?_|(refine Sb.h ?_ ?_ ?_<;>(try intro hgd)<;>try exact Xy))<;>simp -implicitDefEqProofs (maxSteps:=2000000) [hP,hN,h])|refine X2 ?_ ?_|(refine Xd ?_ ?_<;>intro hcd<;>try exact Xx))
 ·have hr : aH r=o6 (16384 - r):=by simp [aH,h]
  rw [hr]
  have c:=JS (16384 - r) (by omega) (by omega)
  have w : IntKind.i64.wrap (16384 - r)=16384 - r:=aa (by omega) (by omega)
  refine Dp Tryz.func455 ?_
  intro C hP hN
  simp only [Tryz.f455] at hN ⊢
  with_reducible repeat' (first|refine Sp.h ?_|((first|refine Ss.h ?_|refine Sc.h (c) ?_|(refine Sb.h ?_ ?_ ?_<;>(try intro hgd)<;>try exact Xy))<;>simp -implicitDefEqProofs (maxSteps:=2000000) [hP,hN,h,w])|refine X2 ?_ ?_|(refine Xd ?_ ?_<;>intro hcd<;>try exact Xx))
theorem Du (a : Int) : ab Tryz.prog 450 [.pv (Z a)] [] [] (.pv (aO (dU a))):=by
 have hm : dU a=jC (a % 65536):=rfl
 have cm:=Dt a
 have m0 : 0≤a % 65536:=Int.emod_nonneg _ (by decide)
 have m1 : a % 65536 < 65536:=Int.emod_lt_of_pos _ (by decide)
 rw [hm]
 generalize a % 65536=m at *
 have e1 : m.tdiv 16384=m / 16384:=Int.tdiv_eq_ediv_of_nonneg m0
 have e2 : m.tmod 16384=m % 16384:=Int.tmod_eq_emod_of_nonneg m0
 have w1 : IntKind.i64.wrap (m / 16384)=m / 16384:=aa (by omega) (by omega)
 have r0 : 0≤m % 16384:=Int.emod_nonneg _ (by decide)
 have r1 : m % 16384 < 16384:=Int.emod_lt_of_pos _ (by decide)
 have ca:=Gd (m % 16384) r0 (by omega)
 have cb:=Gd (16384 - m % 16384) (by omega) (by omega)
 have w2 : IntKind.i64.wrap (16384 - m % 16384)=16384 - m % 16384:=aa (by omega) (by omega)
 have hq : m / 16384=0∨m / 16384=1∨m / 16384=2∨m / 16384=3:=by omega
 unfold jC
 generalize aH (m % 16384)=u at *
 generalize aH (16384 - m % 16384)=v at *
 have cu : ab Tryz.prog 443 [.pv (aO u)] [] [] (.pv (aO (d9 u))):=Ds
 have cv : ab Tryz.prog 443 [.pv (aO v)] [] [] (.pv (aO (d9 v))):=Ds
 rcases hq with hq|hq|hq|hq<;>rw [hq]
 all_goals
  refine Dp Tryz.func450 ?_
  intro C hP hN
  simp only [Tryz.f450] at hN ⊢
  with_reducible repeat' (first|refine Sp.h ?_|((first|refine Ss.h ?_|refine Sc.h (cm) ?_|refine Sc.h (ca) ?_|refine Sc.h (cb) ?_|refine Sc.h (cu) ?_|refine Sc.h (cv) ?_|(refine Sb.h ?_ ?_ ?_<;>(try intro hgd)<;>try exact Xy))<;>simp -implicitDefEqProofs (maxSteps:=2000000) [hP,hN,e1,e2,w1,w2,hq])|refine X2 ?_ ?_|(refine Xd ?_ ?_<;>intro hcd<;>try exact Xx))
theorem Ge (a : Int) : ab Tryz.prog 449 [.pv (Z a)] [] [] (.pv (aO (mS a))):=by
 have cm:=Dt a
 have m0 : 0≤a % 65536:=Int.emod_nonneg _ (by decide)
 have m1 : a % 65536 < 65536:=Int.emod_lt_of_pos _ (by decide)
 have cs:=Du (a % 65536+16384)
 have w : IntKind.i64.wrap (a % 65536+16384)=a % 65536+16384:=aa (by omega) (by omega)
 have hm : mS a=dU (a % 65536+16384):=rfl
 rw [hm]
 refine Dp Tryz.func449 ?_
 intro C hP hN
 simp only [Tryz.f449] at hN ⊢
 with_reducible repeat' (first|refine Sp.h ?_|((first|refine Ss.h ?_|refine Sc.h (cm) ?_|refine Sc.h (cs) ?_|(refine Sb.h ?_ ?_ ?_<;>(try intro hgd)<;>try exact Xy))<;>simp -implicitDefEqProofs (maxSteps:=2000000) [hP,hN,w])|refine X2 ?_ ?_|(refine Xd ?_ ?_<;>intro hcd<;>try exact Xx))
def lx (a : Iv) (t : Int) : Bool:=decide (a.1+(t - a.1) % 65536≤a.2)
theorem Gf {a b : Int} (t : Int) (h1 : -2147483648≤a) (h2 : a≤2147483648) (h3 : -2147483648≤t) (h4 : t≤2147483648) : ab Tryz.prog 453 [.pv (I a b),.pv (Z t)] [] [] (.pv (B (lx (a,b) t))):=by
 have cm:=Dt (t - a)
 have m0 : 0≤(t - a) % 65536:=Int.emod_nonneg _ (by decide)
 have m1 : (t - a) % 65536 < 65536:=Int.emod_lt_of_pos _ (by decide)
 have w1 : IntKind.i64.wrap (t - a)=t - a:=aa (by omega) (by omega)
 have w2 : IntKind.i64.wrap (a+(t - a) % 65536)=a+(t - a) % 65536:=aa (by omega) (by omega)
 refine Dp Tryz.func453 ?_
 intro C hP hN
 simp only [Tryz.f453] at hN ⊢
 with_reducible repeat' (first|refine Sp.h ?_|((first|refine Wd ?_|refine Ss.h ?_|refine Sc.h (cm) ?_|(refine Sb.h ?_ ?_ ?_<;>(try intro hgd)<;>try exact Xy))<;>simp -implicitDefEqProofs (maxSteps:=2000000) [hP,hN,w1,w2]<;>try refine Ya ?_)|refine X2 ?_ ?_|(refine Xd ?_ ?_<;>intro hcd<;>try exact Xx))
 all_goals rfl
theorem vH {a : Iv} {t : Int} (ha : am a.1 a.2=true) : du a t=lx a t:=by
 have m0 : 0≤(t - a.1) % 65536:=Int.emod_nonneg _ (by decide)
 simp only [du,lx,ha,Bool.true_and]
 rw [decide_eq_true (show a.1≤a.1+(t - a.1) % 65536 by omega),Bool.true_and]
theorem Gg {a b : Int} (v : Int→Iv) (t u : Int) (ht : -2147483648≤t) (ht' : t≤2147483648) (hu : -2147483648≤u) (hu' : u≤2147483648) : ab Tryz.prog 448 [.pv (I a b),.pv (aO (v a)),.pv (aO (v b)),.pv (Z t),.pv (Z u)] [] [] (.pv (aO (dQ (a,b) v t u))):=by
 have cv:=mL a b
 cases hv : am a b with
 |false=>
  rw [hv] at cv
  have hr : dQ (a,b) v t u=(0,0):=by simp [dQ,hv]
  rw [hr]
  refine Dp Tryz.func448 ?_
  intro C hP hN
  simp only [Tryz.f448] at hN ⊢
  with_reducible repeat' (first|refine Sp.h ?_|((first|refine Wd ?_|refine Ss.h ?_|refine Sc.h (cv) ?_|(refine Sb.h ?_ ?_ ?_<;>(try intro hgd)<;>try exact Xy))<;>simp -implicitDefEqProofs (maxSteps:=2000000) [hP,hN]<;>try refine Ya ?_)|refine X2 ?_ ?_|(refine Xd ?_ ?_<;>intro hcd<;>try exact Xx))
 |true=>
  rw [hv] at cv
  have hv':=aT.1 hv
  have w : IntKind.i64.wrap (b - a)=b - a:=aa (by omega) (by omega)
  have ct:=Gf (b:=b) t hv'.1 (by omega) ht ht'
  have cu:=Gf (b:=b) u hv'.1 (by omega) hu hu'
  by_cases hw : 65536≤b - a
  ·have hr : dQ (a,b) v t u=(-65536,65536):=by simp only [dQ,hv];rw [if_neg (by simp),if_pos hw]
   rw [hr]
   refine Dp Tryz.func448 ?_
   intro C hP hN
   simp only [Tryz.f448] at hN ⊢
   with_reducible repeat' (first|refine Sp.h ?_|((first|refine Wd ?_|refine Ss.h ?_|refine Sc.h (cv) ?_|(refine Sb.h ?_ ?_ ?_<;>(try intro hgd)<;>try exact Xy))<;>simp -implicitDefEqProofs (maxSteps:=2000000) [hP,hN,w,hw]<;>try refine Ya ?_)|refine X2 ?_ ?_|(refine Xd ?_ ?_<;>intro hcd<;>try exact Xx))
  ·have hr : dQ (a,b) v t u=(if lx (a,b) u then br (if lx (a,b) t then br (br (v a) (v b)) (fU 65536) else br (v a) (v b)) (fU (-65536)) else (if lx (a,b) t then br (br (v a) (v b)) (fU 65536) else br (v a) (v b))):=by
    simp only [dQ,hv];rw [if_neg (by simp),if_neg hw,vH hv,vH hv]
   rw [hr]
   have c1:=Ad (v a).1 (v a).2 (v b).1 (v b).2
   have c2:=xY 65536
   have c3:=xY (-65536)
   have o1 : fU 65536=(dO 65536,dO 65536):=rfl
   have o2 : fU (-65536)=(dO (-65536),dO (-65536)):=rfl
   rw [o1,o2]
   generalize dO 65536=k1 at *
   generalize dO (-65536)=k2 at *
   generalize hH : br (v a) (v b)=H at *
   have c4:=Ad H.1 H.2 k1 k1
   have c5:=Ad H.1 H.2 k2 k2
   have c6:=Ad (br H (k1,k1)).1 (br H (k1,k1)).2 k2 k2
   cases m1 : lx (a,b) t<;>cases m2 : lx (a,b) u<;>rw [m1] at ct<;>rw [m2] at cu<;>simp only [Bool.false_eq_true,if_false,if_true]
   all_goals
    refine Dp Tryz.func448 ?_
    intro C hP hN
    simp only [Tryz.f448] at hN ⊢
    with_reducible repeat' (first|refine Sp.h ?_|((first|refine Wd ?_|refine Ss.h ?_|refine Sc.h (cv) ?_|refine Sc.h (ct) ?_|refine Sc.h (cu) ?_|refine Sc.h (c1) ?_|refine Sc.h (c2) ?_|refine Sc.h (c3) ?_|refine Sc.h (c4) ?_|refine Sc.h (c5) ?_|refine Sc.h (c6) ?_|(refine Sb.h ?_ ?_ ?_<;>(try intro hgd)<;>try exact Xy))<;>simp -implicitDefEqProofs (maxSteps:=2000000) [hP,hN,w,hw]<;>try refine Ya ?_)|refine X2 ?_ ?_|(refine Xd ?_ ?_<;>intro hcd<;>try exact Xx))
theorem JT {a b : Int} : ab Tryz.prog 442 [.pv (I a b)] [] [] (.pv (aO (kE (a,b)))):=by
 have h : kE (a,b)=dQ (a,b) dU 16384 49152:=rfl
 rw [h]
 have c:=Gg (a:=a) (b:=b) dU 16384 49152 (by decide) (by decide) (by decide) (by decide)
 have c1:=Du a
 have c2:=Du b
 generalize dU a=u at *
 generalize dU b=v at *
 refine Dp Tryz.func442 ?_
 intro C hP hN
 simp only [Tryz.f442] at hN ⊢
 with_reducible repeat' (first|refine Sp.h ?_|((first|refine Wd ?_|refine Ss.h ?_|refine Sc.h (c1) ?_|refine Sc.h (c2) ?_|refine Sc.h (c) ?_|(refine Sb.h ?_ ?_ ?_<;>(try intro hgd)<;>try exact Xy))<;>simp -implicitDefEqProofs (maxSteps:=2000000) [hP,hN]<;>try refine Ya ?_)|refine X2 ?_ ?_|(refine Xd ?_ ?_<;>intro hcd<;>try exact Xx))
theorem JU {a b : Int} : ab Tryz.prog 441 [.pv (I a b)] [] [] (.pv (aO (kF (a,b)))):=by
 have h : kF (a,b)=dQ (a,b) mS 0 32768:=rfl
 rw [h]
 have c:=Gg (a:=a) (b:=b) mS 0 32768 (by decide) (by decide) (by decide) (by decide)
 have c1:=Ge a
 have c2:=Ge b
 generalize mS a=u at *
 generalize mS b=v at *
 refine Dp Tryz.func441 ?_
 intro C hP hN
 simp only [Tryz.f441] at hN ⊢
 with_reducible repeat' (first|refine Sp.h ?_|((first|refine Wd ?_|refine Ss.h ?_|refine Sc.h (c1) ?_|refine Sc.h (c2) ?_|refine Sc.h (c) ?_|(refine Sb.h ?_ ?_ ?_<;>(try intro hgd)<;>try exact Xy))<;>simp -implicitDefEqProofs (maxSteps:=2000000) [hP,hN]<;>try refine Ya ?_)|refine X2 ?_ ?_|(refine Xd ?_ ?_<;>intro hcd<;>try exact Xx))
end Go.Ab
