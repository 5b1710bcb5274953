/- The contracts and facts that the laws of this seat need, in one text (AbC, Ab27, Ab37, Ab38, Ab39, DcS, Dc3, DcT, Dc1, Dc2, Dc5, Dc6, DcN, Ab41, DcU, TrH, Dc7, TrS, Ab42, Ab32, Dc13, TrN, TrX). -/
import Derived.Test.YtpiahagjopediaaGreatX6
import Derived.TacticsIn
import Derived.RangeFuncRecord
import Derived.RangeFuncLeaves
import Derived.RangeFuncCalls
import Derived.RangeFuncSeq
import Derived.RecoverIn
set_option linter.all false
set_option maxHeartbeats 16000000
namespace Go.Ab
variable {C:Cx}{F:Fence}{L:Nat->Loc}{M:Nat->Nat->Prop}{N b c d e fz i id j k leaf n sz v:Nat}{P:Program}{Post:AV->Hp->Prop}{Q:Exit->St->Prop}{a:Act}{args caps ys:List PV}{assign body y:Code}{ats:Array TypeId}{cc:Bool}{cs:List AV}{f gop x:Operand}{far far':List Int}{fn:Func}{g gf:FuncId}{h:Hp}{hasF:Nat->Bool}{hn kd ks l old ts:List Nat}{lb:List Value}{nb:Nat->List Nat}{near:List (List Nat)}{next:Act->World->Prop}{o:Oper}{ob:Obj}{ops:Array Oper}{p q:PV}{post pre:List Oper}{res:RV}{rs:List ResultVar}{st:St}{t:Tr}{tch tch':Nat->Nat->Bool}{w w':World}{xs:List Operand}
def oF(ops:Array Oper):Bool:=ops.toList.all λo=>match o.op with|.defer _=>false|_=>true
theorem kj(h:oF ops=true)(ho:o∈ops.toList):∀c,o.op≠.defer c:=by
 intro c hc;have:=List.all_eq_true.1 h o ho;rw[hc]at this;cases this
structure Wide(F:Fence):Prop where
 fn:∀f,F.fn f
 depth:F.depth=none
 calls:∀{n:Nat}{P:Program}{f:FuncId}{args:Array Value}{w:World}{R:Ending->World->Prop},Calls P f args w R->CallsIn F n P f args w R
 rows:∀{n:Nat}{P:Program}{row:String}{args:Array Value}{w:World}{R:Value->World->Prop},Rows P row args w R->RowsIn F n P row args w R
theorem eV:Wide Fence.wide:=⟨λ_=>trivial,rfl,λh=>callsIn_wide.2 h,λh c cs _=>let⟨v,w',r,s⟩:=h c cs;⟨v,w',r,stepsIn_wide.2 s⟩⟩
theorem rX(l:Nat):Wide (Fence.wide.inRound l):=⟨λ_=>trivial,rfl,λh=>(callsIn_wide.2 h).inRound l,λh=>eV.rows h⟩
theorem Ci(hF:Wide F)(hd:∀c,o.op≠.defer c){Q:Exit->Act->World->Prop}
 (h:o.wp P a w next Q):o.wpIn F n P a w next Q:=by
 refine⟨λf _=>hF.fn f,?_⟩;rw[Oper.semAt_eq _ _ _ hd];unfold Oper.wp at h
 cases hx:(execOp a.eval o).run P w with
 |ok nx w'=>
  rw[hx]at h
  cases nx with
  |value v=>exact h
  |skip=>exact h
  |defer d=>exact h
  |enter f args=>exact⟨λhs=>(by rw[hF.depth]at hs;cases hs),hF.calls h⟩
  |row r args=>exact⟨λhs=>(by rw[hF.depth]at hs;cases hs),hF.rows h⟩
  |_=>exact h.elim
 |halt k w'=>
  rw[hx]at h
  cases k with
  |panic v=>exact h
  |_=>exact h.elim
def fI(C:Cx)(L:Nat->Loc)(st:St)(a:Act)(w:World):Prop:=
 MemL C L st.h w∧a.tmps.size=C.N∧∀n,RepA w (ag C L st.h) L st.h (st.t n) (a.tmps.getD n undef)
theorem fI.put(hs:fI C L st a w){d:Option Nat}(hd:bX C.N d=true){v:AV}{W:List (Nat×Blk)}{u:Value}{L':Nat->Loc}
 (hA:aG C L st.h w L' (ai st.h W) w')(hv:RepA w' (ag C L' (ai st.h W)) L' (ai st.h W) v u):fI C L' (st.put d v W) (a.put d u) w':=by
 obtain⟨hm,hN,ht⟩:=hs;refine⟨hA.1,?_,λn=>?_⟩
 .cases d<;>simp[Act.put,hN]
 .have hold:=(ht n).mono hA.2.1 hA.2.2
  cases d with
  |none=>exact hold
  |some d=>
   have hd':d<a.tmps.size:=by rw[hN];simp only[bX,Bool.and_eq_true,decide_eq_true_eq]at hd;exact hd.1
   rw[oW hd'];simp only[St.put,ah];split
   .exact hv
   .exact hold
theorem Dh(st:St)(d:Option Nat)(v:AV)(W:List (Nat×Blk)):(st.put d v W).h=ai st.h W:=by cases d<;>rfl
theorem i9(a:Act)(d:Option Nat)(u:Value):(a.put d u).defers=a.defers:=by cases d<;>rfl
theorem AI(hs:fI C L st a w)(hnd:∀c,o.op≠.defer c)(hd:bX C.N o.dst=true){K:dm->Prop}(e:sX C.P hn o st.ev st.h K){Q:Exit->Act->World->Prop}
 (hnext:∀eff a' w' L',K eff->fI C L' (st.put o.dst eff.1 eff.2) a' w'->aG C L st.h w L' (st.put o.dst eff.1 eff.2).h w'->a'.defers=a.defers->next a' w'):o.wp C.P a w next Q:=by
 have hs':=hs;obtain⟨hm,hN,ht⟩:=hs'
 have hplain:qR C.P hn o st.ev st.h K->o.wp C.P a w next Q:=λe=>
  Ax hm (λ_ _ h=>h) (λd hdd=>⟨rfl,by rw[hdd]at hd;simp only[bX,Bool.and_eq_true,decide_eq_true_eq]at hd;exact hd.2⟩) (λx _=>cD ht x) e (λeff u w' L' hk hA hv=>hnext eff _ _ L' hk (hs.put hd hA hv) (by rw[Dh];exact hA) (i9 _ _ _))
 unfold sX at e;split at e
 .rename_i c hop
  exact absurd hop (hnd c)
 .rename_i op t x y t' hop
  split at e
  .rename_i hc
   simp only[Bool.and_eq_true,Bool.or_eq_true,beq_iff_eq]at hc;obtain⟨⟨⟨c1,c2⟩,c3⟩,c4⟩:=hc;have hy:=vr c1 (cD ht y);obtain⟨ad,n,c,hx⟩:=sI hm (cD ht x) c3
   obtain⟨b,hb⟩:∃b:Bool,(op=.eql∧b=ad.isNone)∨(op=.neq∧b=!ad.isNone):=by
    rcases c4 with c4|c4
    .exact⟨_,.inl ⟨c4,rfl⟩⟩
    .exact⟨_,.inr ⟨c4,rfl⟩⟩
   have hrun:(execOp a.eval o).run C.P w=.ok (.value (.bool b)) w:=by
    obtain⟨dst,op',ty,pos,aft,g⟩:=o;simp only at hop;subst hop;exact fg (yj (oS c2) hx hy hb) w
   have hK:K (.pv (.val (.bool b)),[]):=by cases b with
    |true=>exact e.1
    |false=>exact e.2
   unfold Oper.wp;rw[hrun];exact hnext _ _ _ L hK (hs.put hd (W:=[]) (aG.refl hm) (.pv (.val _))) (by rw[Dh];exact aG.refl hm) (i9 _ _ _)
  .exact hplain e
 .exact hplain e
theorem gw{F:Fence}(hF:Wide F){n:Nat}{C:Cx}{hn:List Nat}{ops:Array Oper}{Q:St->Prop}{Q':Exit->Act->World->Prop}{L0:Nat->Loc}{h0:Hp}{w0:World}{ds:List Deferred}
 (hQ:∀st L a w,fI C L st a w->aG C L0 h0 w0 L st.h w->a.defers=ds->Q st->Q' .normal a w):
 ∀{l:List Oper}{st:St}{L:Nat->Loc}{a:Act}{w:World},(∀o∈l,∀c,o.op≠.defer c)->fI C L st a w->aG C L0 h0 w0 L st.h w->a.defers=ds->cU C.P hn C.N ops Q l st->wpListIn F n C.P ops Q' l a w
 |[],st,L,a,w,_,hs,hA,hdd,e=>hQ st L a w hs hA hdd e
 |o::l,st,L,a,w,hnd,hs,hA,hdd,e=>by
  have hs':=hs;obtain⟨hm,hN,ht⟩:=hs';simp only[cU]at e;obtain⟨hd,e⟩:=e;have hnd':∀o'∈l,∀c,o'.op≠.defer c:=λo' ho'=>hnd o' (List.mem_cons_of_mem _ ho');have ho:=hnd o List.mem_cons_self;unfold wpListIn;split at e
  .rename_i hg
   rw[dB ht (mU hg),if_pos rfl];exact Ci hF ho (AI hs ho hd e (λeff a' w' L' hk hsim hA' hd'=>gw hF hQ hnd' hsim (hA.trans hA') (hd'.trans hdd) hk))
  .rename_i d b want hg
   rw[dB ht (kJ hg)];unfold uJ at e;simp only at e;split at e
   .rename_i hgt
    subst hgt;rw[if_pos (by simp)];exact Ci hF ho (AI hs ho hd e (λeff a' w' L' hk hsim hA' hd'=>gw hF hQ hnd' hsim (hA.trans hA') (hd'.trans hdd) hk))
   .rename_i hgt
    rw[if_neg (by simpa using hgt)];exact⟨λf _=>hF.fn f,gw hF hQ hnd' (hs.put hd (W:=[]) (aG.refl hm) (.pv (.val _))) (by rw[Dh];exact hA) ((i9 _ _ _).trans hdd) e⟩
  .exact e.elim
def af(F:Fence)(C:Cx)(c:Code)(Q:Exit->St->Prop)(st:St):Prop:=
 ∀n L a w,fI C L st a w->c.wpIn F n C.P (λe a' w'=>∃st' L',fI C L' st' a' w'∧aG C L st.h w L' st'.h w'∧a'.defers=a.defers∧Q e st') a w
section
variable {F:Fence} {C:Cx} {Q:Exit->St->Prop} {st:St}
theorem af.region(hF:Wide F)(hnd:oF ops=true)(h:cU C.P hn C.N ops (Q .normal) ops.toList st):af F C (.region id ops false) Q st:=
 λ_ _ _ _ hs=>wpIn_region_list (gw hF (λst' L' _ _ hs' hA hd hq=>⟨st',L',hs',hA,hd,hq⟩) (λ_ ho=>kj hnd ho) hs (aG.refl hs.1) rfl h)
def zS(F:Fence)(C:Cx)(y:Code)(Q:Exit->St->Prop):Exit->St->Prop
 |.normal,st=>af F C y Q st
 |e,st=>Q e st
theorem af.seq{x:Code}(h:af F C x (zS F C y Q) st):af F C (.seq x y) Q st:=by
 intro n L a w hs;refine wpIn_seq (wpIn_mono (h n L a w hs) ?_);rintro e a' w' ⟨st',L',hs',hA,hd,hq⟩
 cases e with
 |normal=>exact wpIn_mono (hq n L' a' w' hs') (λe a2 w2 ⟨st2,L2,hs2,hA2,hd2,hq2⟩=>⟨st2,L2,hs2,hA.trans hA2,hd2.trans hd,hq2⟩)
 |_=>exact⟨st',L',hs',hA,hd,hq⟩
theorem af.skip(h:Q .normal st):af F C .skip Q st:=λ_ L _ _ hs=>wpIn_skip ⟨st,L,hs,aG.refl hs.1,rfl,h⟩
theorem af.ret(h:Q .ret st):af F C .ret Q st:=λ_ L _ _ hs=>wpIn_ret ⟨st,L,hs,aG.refl hs.1,rfl,h⟩
theorem af.exit(h:Q (.exit id) st):af F C (.exit id) Q st:=λ_ L _ _ hs=>wpIn_exit ⟨st,L,hs,aG.refl hs.1,rfl,h⟩
theorem af.cond{c:Operand}{x:Code}{b:Bool}(hc:st.ev c=.pv (.val (.bool b)))(ht:b=true->af F C x Q st)(hf:b=false->af F C y Q st):af F C (.cond c x y) Q st:=by
 intro n L a w hs
 have hc':a.eval c=.bool b:=by
  have:=cD hs.2.2 c;rw[hc]at this
  cases this with
  |pv hr=>exact aJ hr
 exact wpIn_cond_split hc' (λe=>ht e n L a w hs) (λe=>hf e n L a w hs)
theorem af.block{c:Code}(h:af F C c (pR id Q) st):af F C (.block id c) Q st:=by
 intro n L a w hs;refine wpIn_block (wpIn_mono (h n L a w hs) ?_);rintro e a' w' ⟨st',L',hs',hA,hd,hq⟩
 cases e with
 |exit i=>
  simp only[pR,Exit.inBlock]at hq|-;split
  .rename_i e;rw[if_pos e]at hq;exact⟨st',L',hs',hA,hd,hq⟩
  .rename_i e;rw[if_neg e]at hq;exact⟨st',L',hs',hA,hd,hq⟩
 |_=>exact⟨st',L',hs',hA,hd,hq⟩
theorem af.mono{c:Code}{Q':Exit->St->Prop}(h:af F C c Q st)(hq:∀e st,Q e st->Q' e st):af F C c Q' st:=
 λn L a w hs=>wpIn_mono (h n L a w hs) (λe _ _ ⟨st',L',hs',hA,hd,hq'⟩=>⟨st',L',hs',hA,hd,hq e st' hq'⟩)
end
theorem Hh{l o:Nat}{v:Value}(hl:w.heap[l]?=some ob)(hc:ob.isCells=false)(h:w.cell? ⟨b,o,none⟩=some v):b≠l:=by
 intro e;subst e;obtain⟨o',h1,h2⟩:=cells_of_cell h;simp only at h1;rw[hl]at h1;injection h1 with h1;subst h1;rw[hc]at h2;cases h2
theorem If{loc:Loc}{blk:Blk}(hb:db w M L h loc blk)(hl:blk.live loc){l:Nat}(hw:w.heap[l]?=some ob)(hc:ob.isCells=false)(hmp:∀arr c,ob≠.map arr c):loc.b≠l:=by
 intro e;subst e
 cases blk with
 |box cs own fz=>obtain⟨arr,ty,e,_⟩:=hb;rw[hw]at e;injection e with e;subst e;cases hc
 |row e sz xs fz=>obtain⟨_,_,_,_,h5⟩:=hb;obtain⟨_,_,arr,e,_⟩:=h5 hl;rw[hw]at e;injection e with e;subst e;cases hc
 |mp kd n es fz=>obtain⟨arr,c,e,_⟩:=hb;rw[hw]at e;injection e with e;exact hmp _ _ e
theorem MemL.turn(hm:MemL C L h w){l:Nat}(hl:C.w0.heap[l]?=some ob)(hS:¬C.S l)(hc:ob.isCells=false)(hmp:∀arr c,ob≠.map arr c)(ob':Obj):
 MemL {C with w0:=C.w0.putObj l ob'} L h (w.putObj l ob')∧Pres w (ag C L h) (w.putObj l ob') (ag C L h):=by
 have hlt:l<C.w0.heap.size:=(Array.getElem?_eq_some_iff.1 hl).1;have hw:w.heap[l]?=some ob:=(hm.ext.block l hlt hS).trans hl;have hlt':l<w.heap.size:=(Array.getElem?_eq_some_iff.1 hw).1;have hpres:Pres w (ag C L h) (w.putObj l ob') (ag C L h):=⟨λb o v hv hn=>⟨(World.cell?_of_block (World.putObj_heap_other (Hh hw hc hv))).trans hv,hn⟩,λb arr c hv hn=>⟨(World.putObj_heap_other (by rintro rfl;rw[hw]at hv;injection hv with hv;exact hmp _ _ hv)).trans hv,hn⟩⟩;refine⟨⟨⟨hm.ext.os,hm.ext.tape,hm.ext.output,by simpa using hm.ext.size,λb hb hs=>?_⟩,λb o hb=>by simpa using hm.m0 b o hb,λk blk hk=>(hm.bl k blk hk).mono hpres (KC.refl _ _) (λhlv=>World.putObj_heap_other (If (hm.bl k blk hk) hlv hw hc hmp)),hm.sep,λk blk hk=>?_⟩,hpres⟩
 .by_cases e:b=l
  .subst e
   rw[World.putObj_heap_same hlt',World.putObj_heap_same hlt]
  .rw[World.putObj_heap_other e,World.putObj_heap_other e]
   exact hm.ext.block b (by simpa using hb) hs
 .have:=hm.own k blk hk
  cases blk with
  |box cs own fz=>cases own with
   |true=>simpa[dT]using this
   |false=>simpa[dT]using this
  |row e sz xs fz=>simpa[dT]using this
  |mp=>simpa[dT]using this
theorem uR{l:Nat}{o:Obj}(h:w.heap[l]?=some o):w.putObj l o=w:=by
 have:w.heap.setIfInBounds l o=w.heap:=by
  apply Array.ext_getElem?;intro i;rw[Array.getElem?_setIfInBounds];by_cases e:l=i
  .subst e
   rw[if_pos rfl,if_pos (Array.getElem?_eq_some_iff.1 h).1,h]
  .rw[if_neg e]
 show{w with heap:=w.heap.setIfInBounds l o}=w;rw[this]
theorem sK(w:World)(l:Nat)(o o':Obj):(w.putObj l o).putObj l o'=w.putObj l o':=by
 show{w with heap:=(w.heap.setIfInBounds l o).setIfInBounds l o'}={w with heap:=w.heap.setIfInBounds l o'}
 congr 1
 apply Array.ext_getElem?;intro i;simp only[Array.getElem?_setIfInBounds,Array.size_setIfInBounds];by_cases e:l=i
 .subst e;simp
 .simp[e]
theorem vt{tm:Array Value}{u:Value}(hd:d<tm.size)(n:Nat):(tm.setIfInBounds d u).getD n undef=if n=d then u else tm.getD n undef:=by
 simp only[Array.getD_eq_getD_getElem?];by_cases e:n=d
 .subst e;simp[hd]
 .rw[if_neg e,Array.getElem?_setIfInBounds_ne (by omega)]
theorem lp{ps:List PV}(h:jf w M b ps):b<w.heap.size:=by
 obtain⟨arr,ty,e,_⟩:=h;exact(Array.getElem?_eq_some_iff.1 e).1
def Di(P:Program)(gf:FuncId)(caps:List PV)(xs:List (PV×PV)):Prop:=
 bZ P gf=true∧∀(n l:Nat)(lb:List Value)(W:World)(M:Nat->Nat->Prop)(J:Nat->(Nat->Nat->Prop)->World->Prop),
  (∀i M W,J i M W->∀b o,M b o->b<W.heap.size)->(∀i M W W',J i M W->Ext (λ_=>False) W W'->J i M W')->
  (∀m i x M W v1 v2,xs[i]?=some x->J i M W->Rep W M x.1 v1->Rep W M x.2 v2->YieldAt Fence.wide m P l #[v1,v2] W λe W'=>e=.returned (.bool true)∧∃M',J (i+1) M' W'∧Pres W M W' M')->
  J 0 M W->bw W M caps lb->CallsIn Fence.wide n P gf (#[.func (.yield l) #[] #[]]++lb.toArray) W λe W'=>(∃v,e=.returned v)∧∃M',J xs.length M' W'
def iH(ks:List Nat)(hin:Nat->List PV):Hp:=λk=>if ks.contains k=true then some (.box ((hin k).map .pv) false false)else none
def iR(t:Nat->AV)(p q:Nat)(x:PV×PV):Nat->AV:=ah (ah t p (.pv x.1)) q (.pv x.2)
theorem Fo{p q:Nat}(hg:a.eval gop=.func (.func gf) #[] lb.toArray)
 {caps:List PV}{xs:List (PV×PV)}(hit:Di P gf caps xs){M:Nat->Nat->Prop}(hM:∀b o,M b o->b<w.heap.size)(hcap:bw w M caps lb)
 {ks:List Nat}{bs:Nat->Nat}{hin:Nat->List PV}(hbs:∀k∈ks,(∀o,M (bs k) o)∧jf w M (bs k) (hin k))(hinj:∀k∈ks,∀k'∈ks,k≠k'->bs k≠bs k')
 (hN:a.tmps.size=N)(hp:p<N)(hq:q<N){t:Nat->AV}(ht:∀m,(∃k∈ks,t m=.ptr k 0∧a.tmps.getD m undef=.pointer (some ⟨bs k,0,none⟩))∨t m=.undef)
 (I:Nat->Hp->Prop)(h0:I 0 (iH ks hin))(hI:∀i h k,k∈ks->I i h->∃cs,h k=some (.box cs false false))
 (hround:∀(C C':Cx)(l i:Nat)(x:PV×PV)(h:Hp),C.P=P->C.N=N->C'.P=P->C'.N=N->xs[i]?=some x->I i h->
   af (Fence.wide.inRound l) C assign (λe st'=>e=.normal∧af (Fence.wide.inRound l) C' body (λe' st''=>e'=.normal∧I (i+1) st''.h) st') ⟨iR t p q x,h⟩):
 (Code.rangeFunc gop #[p,q] assign body).wpIn Fence.wide n P (λe a' w'=>e=.normal∧∃(C:Cx)(L:Nat->Loc)(h:Hp)(D:Nat),C.P=P∧C.N=N∧C.M0=M∧(∀b,C.S b->∃k∈ks,b=bs k)∧
   MemL C L h w'∧I xs.length h∧(∀k∈ks,(L k).b=bs k)∧Ext (λ_=>False) w C.w0∧C.w0.heap[D]?=some (.deferred (some []))∧¬C.S D∧w.heap.size<=D∧a'={a with defers:={target:=.collected D,args:=#[]}::a.defers}) a w:=by
 refine wpIn_rangeFunc ?_;intro fn _;obtain⟨rec,hrec⟩:∃rec:LoopState->Option Code->Loop,rec=λst pe=>{state:=st,pending:=pe,fn,tmps:=a.tmps,params:=#[p,q],assign,body,defers:=w.heap.size}:=⟨_,rfl⟩;obtain⟨W1,hW1⟩:∃W1,(w.alloc (.deferred (some []))).alloc (.loop (rec .ready none))=W1:=⟨_,rfl⟩
 have hx1:Ext (λ_=>False) w W1:=by rw[<-hW1];exact(Ext.alloc _ _ _).trans (Ext.alloc _ _ _) (λ_ _ h=>h)
 have hs1:W1.heap.size=w.heap.size+2:=by rw[<-hW1];simp
 have hL1:W1.heap[w.heap.size+1]?=some (.loop (rec .ready none)):=by
  rw[<-hW1];have:=World.alloc_heap_new (w.alloc (.deferred (some []))) (.loop (rec .ready none));rwa [World.size_alloc]at this
 have hD1:W1.heap[w.heap.size]?=some (.deferred (some [])):=by
  rw[<-hW1];exact(RowKit.Below.heap_alloc _ _ _ (by simp)).trans (World.alloc_heap_new w _)
 obtain⟨l,hl⟩:∃l,l=w.heap.size+1:=⟨_,rfl⟩;rw[<-hl]at hL1;obtain⟨cx,hcx⟩:∃cx:Obj->Cx,cx=λo=>{P:=P,N:=N,M0:=M,S:=λb=>∃k∈ks,b=bs k,pb:=λk=>if ks.contains k=true then some (bs k)else none,w0:=W1.putObj l o}:=⟨_,rfl⟩
 have hS:∀o b,(cx o).S b->b<w.heap.size:=by
  intro o b hb;rw[hcx]at hb;obtain⟨k,hk,rfl⟩:=hb;exact lp (hbs k hk).2
 have hw0:∀o,(cx o).w0=W1.putObj l o:=λo=>by rw[hcx]
 have hMst:∀o o' L h,ag (cx o) L h=ag (cx o') L h:=λo o' L h=>by rw[hcx];rfl
 have hat:∀(o:Obj),(cx o).w0.heap[l]?=some o:=λo=>by rw[hw0];exact World.putObj_heap_same (Array.getElem?_eq_some_iff.1 hL1).1
 have hnS:∀o,¬(cx o).S l:=λo h=>by have:=hS o l h;omega
 have hturn:∀{o o':Obj}{L:Nat->Loc}{h:Hp}{W:World},o.isCells=false->(∀arr c,o≠.map arr c)->MemL (cx o) L h W->W.heap[l]?=some o∧MemL (cx o') L h (W.putObj l o')∧Pres W (ag (cx o) L h) (W.putObj l o') (ag (cx o') L h):=by
  intro o o' L h W ho hmp hm;have hlt:l<(cx o).w0.heap.size:=(Array.getElem?_eq_some_iff.1 (hat o)).1;obtain⟨h1,h2⟩:=hm.turn (hat o) (hnS o) ho hmp o';refine⟨(hm.ext.block l hlt (hnS o)).trans (hat o),?_,?_⟩
  .have e:({cx o with w0:=(cx o).w0.putObj l o'}:Cx)=cx o':=by rw[hcx];simp only[sK]
   rw[e]at h1;exact h1
  .rw[hMst o' o];exact h2
 have hready:W1.putObj l (.loop (rec .ready none))=W1:=uR hL1
 have hown:∀{o:Obj}{L:Nat->Loc}{h:Hp}{W:World}{i k:Nat},k∈ks->I i h->MemL (cx o) L h W->(L k).b=bs k:=by
  intro o L h W i k hk hi hm;obtain⟨cs,hc⟩:=hI i h k hk hi;have:=(hm.own k _ hc).2.1;rw[hcx]at this
  have hc':ks.contains k=true:=by simpa using hk
  simp only[hc',if_true,Option.some.injEq]at this;exact this.symm
 let L0:Nat->Loc:=λk=>⟨bs k,0,false⟩
 have hkey:∀k blk,iH ks hin k=some blk->k∈ks∧blk=.box ((hin k).map .pv) false false:=by
  intro k blk hk;unfold iH at hk;split at hk
  .rename_i hc;injection hk with hk;exact⟨by simpa using hc,hk.symm⟩
  .cases hk
 have hM1:∀o b o',ag (cx o) L0 (iH ks hin) b o'->M b o':=by
  rintro o b o' (hb|⟨k,blk,hk,_,hb,_⟩)
  .rw[hcx]at hb;exact hb
  .obtain⟨hks,_⟩:=hkey k blk hk
   rw[<-hb];exact(hbs k hks).1 o'
 have hpres1:Pres w M W1 (ag (cx (.loop (rec .ready none))) L0 (iH ks hin)):=Pres.ext hx1 (λ_ _ h=>h.elim) λb o _ h=>hM1 _ b o h
 have hm0:MemL (cx (.loop (rec .ready none))) L0 (iH ks hin) W1:=by
  refine⟨by rw[hw0,hready];exact Ext.refl _ _,?_,?_,?_,?_⟩
  .intro b o hb
   rw[hw0,hready];rw[hcx]at hb;have:=hM b o hb;omega
  .intro k blk hk
   obtain⟨hks,rfl⟩:=hkey k blk hk;obtain⟨arr,ty,e1,e2⟩:=(hbs k hks).2;exact⟨arr,ty,(hx1.block _ (lp (hbs k hks).2) (λh=>h)).trans e1,aB.map_pv (e2.mono hpres1)⟩
  .intro k k' b1 b2 hne hk hk' _ _
   exact hinj k (hkey k b1 hk).1 k' (hkey k' b2 hk').1 hne
  .intro k blk hk
   obtain⟨hks,rfl⟩:=hkey k blk hk
   have hc':ks.contains k=true:=by simpa using hks
   refine⟨rfl,?_,?_,?_,?_⟩
   .rw[hcx];simp only[hc',if_true];rfl
   .rw[hcx];exact⟨k,hks,rfl⟩
   .rw[hw0,hready];have:=lp (hbs k hks).2;show bs k<_;omega
   .intro o;rw[hcx];exact(hbs k hks).1 o
 refine⟨l,[{target:=.collected w.heap.size,args:=#[]}],W1,{target:=.fn (.func gf) lb.toArray,args:=#[.func (.yield l) #[] #[]]},W1,gf,#[.func (.yield l) #[] #[]]++lb.toArray,W1,?_,?_,λ_ _=>trivial,pT hit.1 _ _ _,λh=>(by cases h),?_⟩
 .rw[<-hW1,hrec,hl];exact run_enterLoop_outer _ _ _ _ _
 .simp only[resolve,hg]
  simp[go_sem]
 .refine(hit.2 (n-1) l lb W1 _ (λi M' W=>∃L h,I i h∧MemL (cx (.loop (rec .ready none))) L h W∧M'=ag (cx (.loop (rec .ready none))) L h) ?_ ?_ ?_ ⟨L0,_,h0,hm0,rfl⟩ (hcap.mono hpres1)).mono ?_
  .rintro i M' W ⟨L,h,_,hm,rfl⟩ b o hb
   exact hm.mlt hb
  .rintro i M' W W' ⟨L,h,hi,hm,rfl⟩ hx
   exact⟨L,h,hi,(hm.grow hx).1,rfl⟩
  .
   rintro m i x M' W v1 v2 hxi ⟨L,h,hi,hm,rfl⟩ hr1 hr2;obtain⟨hlW,_,_⟩:=hturn (o':=.loop (rec .ready none)) rfl (by intro _ _ h;cases h) hm;have hy:=run_yield (P:=P) (args:=#[v1,v2]) hlW (by rw[hrec];rfl);rw[hrec]at hy;refine⟨fn,(a.tmps.setIfInBounds p v1).setIfInBounds q v2,assign,body,by simpa using hy,roundIn_of_wpIn trivial ?_⟩
   have hsim:fI (cx (.loop (rec .ready none))) L ⟨iR t p q x,h⟩ {tmps:=(a.tmps.setIfInBounds p v1).setIfInBounds q v2,defers:=[]} W:=by
    refine⟨hm,by rw[hcx];simpa using hN,λk=>?_⟩
    have hq':q<(a.tmps.setIfInBounds p v1).size:=by rw[Array.size_setIfInBounds,hN];exact hq
    have hp':p<a.tmps.size:=by rw[hN];exact hp
    simp only[vt hq',vt hp',iR,ah];split
    .exact .pv hr2
    .split
     .exact .pv hr1
     .rcases ht k with⟨k',hk',e1,e2⟩|e1
      .obtain⟨cs,hc⟩:=hI i h k' hk' hi
       rw[e1,e2,<-hown hk' hi hm];exact .ptr hc
      .rw[e1];exact .undef _
   have hP1:(cx (.loop (rec .ready none))).P=P:=by rw[hcx]
   have hP2:(cx (.loop (rec .busy none))).P=P:=by rw[hcx]
   have hR:=hround (cx (.loop (rec .ready none))) (cx (.loop (rec .busy none))) l i x h hP1 (by rw[hcx]) hP2 (by rw[hcx]) hxi hi m L _ W hsim;rw[hP1]at hR;refine wpIn_mono hR ?_;rintro e a1 w1 ⟨st1,L1,hs1',hA1,_,rfl,hbody⟩;obtain⟨hl1,hmb,hpb⟩:=hturn (o':=.loop (rec .busy none)) rfl (by intro _ _ h;cases h) hs1'.1;refine⟨w1.putObj l (.loop (rec .busy none)),?_,?_⟩
   .have:=run_beginRound (P:=P) hl1 (by rw[hrec])
    rw[hrec]at this|-;exact this
   have hsb:fI (cx (.loop (rec .busy none))) L1 st1 a1 (w1.putObj l (.loop (rec .busy none))):=⟨hmb,by have:=hs1'.2.1;rw[hcx]at this|-;exact this,λk=>(hs1'.2.2 k).mono hpb (KC.refl _ _)⟩;have hB:=hbody m L1 a1 _ hsb;rw[hP2]at hB;refine wpIn_mono hB ?_;rintro e2 a2 w2 ⟨st2,L2,hs2,hA2,_,rfl,hi2⟩;obtain⟨hl2,hmr,hpr⟩:=hturn (o':=.loop (rec .ready none)) rfl (by intro _ _ h;cases h) hs2.1;refine⟨_,_,run_endRound none hl2,rfl,_,⟨L2,st2.h,hi2,?_,rfl⟩,?_⟩
   .have e:(Obj.loop {rec .busy none with state:=if(none:Option Code).isNone=true then .ready else .done,pending:=none})=.loop (rec .ready none):=by rw[hrec];rfl
    rw[e];exact hmr
   .have e:(Obj.loop {rec .busy none with state:=if(none:Option Code).isNone=true then .ready else .done,pending:=none})=.loop (rec .ready none):=by rw[hrec];rfl
    rw[e];exact((hA1.2.1.trans hpb).trans hA2.2.1).trans hpr
  .
   rintro e W2 ⟨⟨v,rfl⟩,M',L,h,hi,hm,_⟩;obtain⟨hl2,hme,_⟩:=hturn (o':=.loop (rec .exhausted none)) rfl (by intro _ _ h;cases h) hm;refine⟨none,W2.putObj l (.loop (rec .exhausted none)),?_,rfl,cx (.loop (rec .exhausted none)),L,h,w.heap.size,by rw[hcx],by rw[hcx],by rw[hcx],?_,hme,hi,λk hk=>hown hk hi hm,?_,?_,?_,Nat.le_refl _,rfl⟩
   .have:=run_endLoop (P:=P) hl2 (by rw[hrec];simp)
    rw[hrec]at this|-;exact this
   .intro b hb
    rw[hcx]at hb;exact hb
   .rw[hw0]
    refine⟨hx1.os,hx1.tape,hx1.output,by simp;omega,λb hb _=>?_⟩;rw[World.putObj_heap_other (by omega)];exact hx1.block b hb (λh=>h)
   .rw[hw0,World.putObj_heap_other (by omega)];exact hD1
   .intro hb
    have:=hS _ _ hb;omega
def uq(P:Program)(g:FuncId):Prop:=bZ P g=true∧∀(n:Nat)(args:Array Value)(w:World),CallsDIn Fence.wide n P g args .returning w λe u' w'=>u'=.returning∧(∃v,e=.returned v)∧w'=w
def wX(P:Program)(ds:List Deferred):Prop:=∀d∈ds,∃g cap,d.target=.fn (.func g) cap∧uq P g
theorem pW{n:Nat}{P:Program}{fn:Func}{tmps:Array Value}{R:Ending->World->Prop}{w:World}{v:Value}:∀{ds:List Deferred},wX P ds->(results fn tmps).run P w=.ok v w->R (.returned v) w->LeavesInM Fence.wide n P fn tmps R ds .returning w
 |[],_,hr,hR=>⟨v,hr,hR⟩
 |d::ds,hq,hr,hR=>by
  obtain⟨g,cap,ht,hg⟩:=hq d (by simp);refine⟨by simp,.inr ⟨λh=>(by cases h),.func g,cap,g,d.args++cap,ht,by rw[ht];exact pT hg.1 _ _ _,λ_ _=>trivial,(hg.2 _ _ w).mono ?_⟩⟩;rintro e u' w' ⟨rfl,⟨v',rfl⟩,rfl⟩;exact pW (λd hd=>hq d (by simp[hd])) hr hR
def Ig(C:Cx)(res:PV):Ending->World->Prop:=λe w'=>∃v,e=.returned v∧Ext (λ_=>False) C.w0 w'∧Rep w' C.M0 res v
theorem Cj(hs:fI C L st a w){res:PV}(hr:gZ C.P fn.results.toList [] (.pv res) st):∃u,(results fn a.tmps).run C.P w=.ok u w∧Rep w C.M0 res u:=by
 obtain⟨r,h1,_,W,hW⟩:=hr;obtain⟨u,hu1,hu2⟩:=lO (C:=C) hs.1 hs.2.2 h1;obtain⟨b1,b2,_⟩:=ll hs.1 (bY.refl _) hu2 hW;exact⟨u,hu1,b2.mono (Pres.sub (λb o h=>.inl h))⟩
def AJ:RV->Bool
 |.pv _=>true
 |.nrow _ _ _=>true
 |_=>false
@[simp] theorem NB:AJ (.pv p)=true:=rfl
@[simp] theorem KW{xs:List PV}:AJ (.nrow e sz xs)=true:=rfl
def GK(C:Cx)(res:RV):Ending->World->Prop:=λe w'=>∃v,e=.returned v∧Ext (λ_=>False) C.w0 w'∧wG C.w0 w' C.M0 res v
theorem AK(hs:fI C L st a w)(hok:AJ res=true)(hr:gZ C.P fn.results.toList [] res st):∃u,(results fn a.tmps).run C.P w=.ok u w∧∀(w0:World)(M:Nat->Nat->Prop),(∀b o,M b o->C.M0 b o)->(∀b,(C.w0.heap.size<=b∨(C.S b∧∀o,¬C.M0 b o))->w0.heap.size<=b)->wG w0 w M res u:=by
 cases res with
 |pv p=>
  obtain⟨u,h1,h2⟩:=Cj hs hr;exact⟨u,h1,λw0 M hM _=>h2.mono (Pres.sub hM)⟩
 |nrow e sz xs=>
  obtain⟨r,h1,_,hml,k,rfl,hk⟩:=hr;obtain⟨u,hu1,hu2⟩:=lO (C:=C) hs.1 hs.2.2 h1;refine⟨u,hu1,λw0 M hM hfr=>⟨hml,L k,?_,λhn=>hfr _ ((hs.1.own _ _ hk).row hn),?_⟩⟩
  .cases hu2 with
   |arr hk2 hn2 hu=>
    rw[hk]at hk2;injection hk2 with hk2;injection hk2 with a1 a2 a3 a4;subst a3;exact hu rfl
  .obtain⟨c1,c2,c3,c4,c5⟩:=hs.1.bl _ _ hk
   refine⟨c1,Nat.zero_le _,c3,c4,λhn=>?_⟩;obtain⟨d1,d2,arr,d3,d4,d5⟩:=c5 hn;refine⟨d1,d2,arr,d3,d4,λi x j p hx hj=>?_⟩;obtain⟨v,hv,hr9⟩:=d5 i x j p hx hj;refine⟨v,hv,hr9.mono (Pres.sub ?_)⟩;rintro b o (h|⟨_,rfl⟩)
   .exact .inl (hM _ _ h)
   .exact .inr ⟨k,_,hk,hn,rfl,by simp[Blk.frz]⟩
 |_=>cases hok
theorem dk{F:Fence}{n:Nat}{P:Program}{ops:Array Oper}{Q:Exit->Act->World->Prop}(l2:List Oper):∀{l1:List Oper}{a:Act}{w:World},
 wpListIn F n P ops (Exit.then (wpListIn F n P ops Q l2) Q) l1 a w->wpListIn F n P ops Q (l1++l2) a w
 |[],a,w,h=>h
 |o::l1,a,w,h=>by
  rw[List.cons_append];unfold wpListIn at h|-;split
  .rename_i hw
   rw[if_pos hw]at h;refine⟨h.1,?_⟩;have h2:=h.2;generalize(o.semAt F.round a.eval).run P w=r at h2|-;unfold Oper.uponIn at h2|-;split<;>simp only at h2|-
   .exact dk l2 h2
   .exact dk l2 h2
   .exact dk l2 h2
   .refine⟨h2.1,h2.2.mono ?_⟩
    intro e w' he
    cases e with
    |returned v=>exact dk l2 he
    |panicked ch=>exact he
    |outgrown=>exact he
   .exact⟨h2.1,h2.2.mono λv w' he=>dk l2 he⟩
   .refine⟨h2.1,h2.2.mono ?_⟩
    intro e w' he
    cases e with
    |returned v=>exact dk l2 he
    |panicked ch=>exact he
    |outgrown=>exact he
   .exact h2
  .rename_i hw
   rw[if_neg hw]at h;exact⟨h.1,dk l2 h.2⟩
def kL(C:Cx)(fn:Func)(res:RV)(c:Code)(st:St):Prop:=
 ∀n L a w,fI C L st a w->wX C.P a.defers->c.wpIn Fence.wide n C.P (bodyPostM Fence.wide n C.P fn (GK C res)) a w
section
variable {C:Cx} {fn:Func} {res:RV} {st:St}
theorem rY{S:Nat->Prop}(hS:∀b,¬S b)(h:Ext S w w'):Ext (λ_=>False) w w':=⟨h.os,h.tape,h.output,h.size,λb hb _=>h.block b hb (hS b)⟩
def Fp(C:Cx)(fn:Func)(res:RV)(y:Code):Exit->St->Prop
 |.normal,st=>kL C fn res y st
 |.ret,st=>AJ res=true∧gZ C.P fn.results.toList [] res st
 |_,_=>False
theorem kL.seq(hCS:∀b,¬C.S b){x:Code}(h:af Fence.wide C x (Fp C fn res y) st):kL C fn res (.seq x y) st:=by
 intro n L a w hs hq;refine wpIn_seq (wpIn_mono (h n L a w hs) ?_);rintro e a' w' ⟨st',L',hs',hA,hd,hq'⟩
 cases e with
 |normal=>exact hq' n L' a' w' hs' (by rw[hd];exact hq)
 |ret=>
  obtain⟨u,h1,h2⟩:=AK hs' hq'.1 hq'.2;exact pW (by rw[hd];exact hq) h1 ⟨u,rfl,rY hCS hs'.1.ext,h2 _ _ (λ_ _ h=>h) (λb h=>h.elim id λh9=>absurd h9.1 (hCS b))⟩
 |exit=>exact hq'.elim
 |goto=>exact hq'.elim
 |panic=>exact hq'.elim
 |outgrown=>exact hq'.elim
theorem Ep{Q:Exit->Act->World->Prop}(h:o.wp P a w next Q):o.wpIn Fence.wide n P a w next Q:=by
 refine⟨λf _=>trivial,?_⟩
 show o.uponIn Fence.wide n P a next Q ((o.semAt none a.eval).run P w)
 rw[Oper.semAt_none];unfold Oper.wp at h
 cases hx:(execOp a.eval o).run P w with
 |ok nx w'=>
  rw[hx]at h
  cases nx with
  |value v=>exact h
  |skip=>exact h
  |defer d=>exact h
  |enter f args=>exact⟨λhs=>(by cases hs),eV.calls h⟩
  |row r args=>exact⟨λhs=>(by cases hs),eV.rows h⟩
  |_=>exact h.elim
 |halt k w'=>
  rw[hx]at h
  cases k with
  |panic v=>exact h
  |_=>exact h.elim
theorem kL.defer{c:Call}(hops:ops.toList=pre++[o])(hnd:∀o∈pre,∀c,o.op≠.defer c)(ho:o.op=.defer c)(hg0:o.guard=none)(hd:o.dst=none)(hf:c.callee=.value f)(h0:c.args.size=0)(hq:uq C.P g)
 (h:cU C.P hn C.N ops (λst'=>(∃first caps,st'.ev f=.fn (.func g) first caps)∧kL C fn res y st') pre st):kL C fn res (.seq (.region id ops false) y) st:=by
 intro n L a w hs hqa;refine wpIn_seq (wpIn_region_list ?_);rw[hops];refine dk _ (gw eV (ds:=a.defers) ?_ hnd hs (aG.refl hs.1) rfl h);intro st1 L1 a1 w1 hs1 _ hd1 hq1;obtain⟨⟨first,caps,hv⟩,hy⟩:=hq1;obtain⟨vs,cs,hval⟩:=Eh (by have:=cD hs1.2.2 f;rw[hv]at this;exact this);show wpListIn Fence.wide n C.P ops _ [o] a1 w1;unfold wpListIn
 have hw:Region.wanted o (yielded ops a1.tmps)=true:=by unfold Region.wanted;rw[hg0]
 rw[if_pos hw];refine Ep (Oper.wp_defer ho hf h0 hval ?_);rw[hd];refine hy n L1 _ w1 ⟨hs1.1,hs1.2.1,hs1.2.2⟩ ?_;intro d hd';rcases List.mem_cons.1 hd' with rfl|hd'
 .exact⟨g,cs,rfl,hq⟩
 .rw[hd1]at hd';exact hqa d hd'
theorem kL.range(hCS:∀b,¬C.S b){x:Code}{p q b0:Nat}{xs:List (PV×PV)}(hit:Di C.P gf caps xs)(hp:p<C.N)(hq:q<C.N)
 {ks:List Nat}{hin:Nat->List PV}{t:Nat->AV}
 (hx:af Fence.wide C x (λe st'=>e=.normal∧st'.ev gop=.pv (.fn (.func gf) [] caps)∧(∀k∈ks,st'.h k=some (.box ((hin k).map .pv) true false))∧∀m,(∃k∈ks,t m=.ptr k 0∧st'.t m=.ptr k 0)∨t m=.undef) st)
 (I:Nat->Hp->Prop)(h0:I 0 (iH ks hin))(hI:∀i h k,k∈ks->I i h->∃cs,h k=some (.box cs false false))
 (hround:∀(C1 C2:Cx)(l i:Nat)(x:PV×PV)(h:Hp),C1.P=C.P->C1.N=C.N->C2.P=C.P->C2.N=C.N->xs[i]?=some x->I i h->
   af (Fence.wide.inRound l) C1 assign (λe st'=>e=.normal∧af (Fence.wide.inRound l) C2 body (λe' st''=>e'=.normal∧I (i+1) st''.h) st') ⟨iR t p q x,h⟩)
 (hnd:oF ops=true){hn:List Nat}(htail:∀h,I xs.length h->cU C.P hn C.N ops (λst'=>AJ res=true∧gZ C.P fn.results.toList [] res st') ops.toList ⟨t,h⟩):
 kL C fn res (.seq (.seq x (.block b0 (.rangeFunc gop #[p,q] assign body))) (.seq (.region id ops false) .ret)) st:=by
 intro n L a w hs hqa;refine wpIn_seq (wpIn_seq (wpIn_mono (hx n L a w hs) ?_));rintro e a1 w1 ⟨st1,L1,hs1,hA1,hd1,rfl,hg,hks,htt⟩;have hgr:=cD hs1.2.2 gop;rw[hg]at hgr
 obtain⟨us,hus,hcap⟩:∃us:List Value,a1.eval gop=.func (.func gf) #[] us.toArray∧bw w1 (ag C L1 st1.h) caps us:=by
  generalize a1.eval gop=u at hgr
  cases hgr with
  |pv hr=>
   cases hr with
   |fn _ _ _ vs us hl hk h1 h2=>
    have:vs=[]:=List.eq_nil_of_length_eq_zero hl.symm;subst this;exact⟨us,rfl,hk,h2⟩
 have hbx:∀k∈ks,(∀o,ag C L1 st1.h (L1 k).b o)∧jf w1 (ag C L1 st1.h) (L1 k).b (hin k):=by
  intro k hk;obtain⟨arr,ty,e1,e2⟩:=hs1.1.bl k _ (hks k hk);exact⟨λo=>.inr ⟨k,_,hks k hk,trivial,rfl,by simp[Blk.frz]⟩,arr,ty,e1,e2.map_pv_inv⟩
 refine wpIn_block (wpIn_mono (Fo (N:=C.N) hus hit (λb o h=>hs1.1.mlt h) hcap hbx (λk hk k' hk' hne=>hs1.1.sep k k' _ _ hne (hks k hk) (hks k' hk') trivial trivial) hs1.2.1 hp hq (t:=t) ?_ I h0 hI hround) ?_)
 .intro m
  rcases htt m with⟨k,hk,e1,e2⟩|e
  .have hr:=hs1.2.2 m
   rw[e2]at hr;generalize hv:a1.tmps.getD m undef=v at hr
   cases hr with
   |ptr _=>exact .inl ⟨k,hk,e1,rfl⟩
  .exact .inr e
 rintro e a2 w2 ⟨rfl,C2,L2,h2,D,hP2,hN2,hM2,hS2,hm2,hi2,hb2,hx2,hD2,hnS2,hDge,rfl⟩;show Code.wpIn Fence.wide n C.P _ _ _ w2
 have hs2:fI C2 L2 ⟨t,h2⟩ {a1 with defers:={target:=.collected D,args:=#[]}::a1.defers} w2:=by
  refine⟨hm2,by rw[hN2];exact hs1.2.1,λm=>?_⟩;show RepA w2 (ag C2 L2 h2) L2 h2 (t m) (a1.tmps.getD m undef);rcases htt m with⟨k,hk,e1,e2⟩|e
  .have hr:=hs1.2.2 m
   rw[e2]at hr;obtain⟨cs,hc⟩:=hI _ h2 k hk hi2
   have hv:a1.tmps.getD m undef=.pointer (some ⟨(L1 k).b,0,none⟩):=by
    generalize a1.tmps.getD m undef=v at hr
    cases hr with
    |ptr _=>rfl
   rw[e1,hv,<-hb2 k hk];exact .ptr hc
  .rw[e];exact .undef _
 refine wpIn_seq (wpIn_region_list ?_);have htl:=htail h2 hi2;rw[<-hP2,<-hN2]at htl;rw[hP2]at htl;have hgo:=λQ' hQ'=>gw (C:=C2) (Q:=λst'=>AJ res=true∧gZ C.P fn.results.toList [] res st') (Q':=Q') (hn:=hn) (ops:=ops) eV (n:=n) hQ' (λ_ ho=>kj hnd ho) hs2 (aG.refl hs2.1) rfl (by rw[hP2];exact htl);rw[hP2]at hgo;refine hgo _ ?_;intro st3 L3 a3 w3 hs3 _ hd3 hr3;refine wpIn_ret ?_;show LeavesInM Fence.wide n C.P fn a3.tmps (GK C res) a3.defers .returning w3;rw[hd3];have hDlt:D<C2.w0.heap.size:=(Array.getElem?_eq_some_iff.1 hD2).1;have hD3:w3.heap[D]?=some (.deferred (some [])):=(hs3.1.ext.block D hDlt hnS2).trans hD2;obtain⟨hm4,hp4⟩:=hs3.1.turn hD2 hnS2 rfl (by intro _ _ h;cases h) (.deferred none);have hs4:fI {C2 with w0:=C2.w0.putObj D (.deferred none)} L3 st3 a3 (w3.putObj D (.deferred none)):=⟨hm4,hs3.2.1,λm=>(hs3.2.2 m).mono hp4 (KC.refl _ _)⟩;obtain⟨u,hu1,hu2⟩:=AK hs4 (fn:=fn) (res:=res) hr3.1 (by show gZ C2.P _ _ _ _;rw[hP2];exact hr3.2)
 have hu1':(results fn a3.tmps).run C.P (w3.putObj D (.deferred none))=.ok u (w3.putObj D (.deferred none)):=by rw[<-hP2];exact hu1
 refine⟨by simp,.inl ⟨D,_,rfl,run_takeDeferred hD3,pW (by rw[hd1];exact hqa) hu1' ⟨u,rfl,?_,?_⟩⟩⟩
 .
  have e1:Ext (λ_=>False) C.w0 w1:=rY hCS hs1.1.ext;have e2:Ext (λ_=>False) C.w0 C2.w0:=e1.trans hx2 (λ_ _ h=>h);have hle:=e1.size;refine⟨?_,?_,?_,?_,?_⟩
  .show w3.os=_;rw[hs3.1.ext.os];exact e2.os
  .show w3.tape=_;rw[hs3.1.ext.tape];exact e2.tape
  .show w3.output=_;rw[hs3.1.ext.output];exact e2.output
  .simp only[World.putObj_size];exact Nat.le_trans e2.size hs3.1.ext.size
  .intro b hb _
   rw[World.putObj_heap_other (by omega)];rw[hs3.1.ext.block b (Nat.lt_of_lt_of_le hb e2.size) ?_]
   .exact e2.block b hb (λh=>h)
   .intro hSb
    obtain⟨k,hk,rfl⟩:=hS2 b hSb;have:=hs1.1.own k _ (hks k hk);rcases this with this|this
    .omega
    .exact hCS _ this.1
 .have e1:Ext (λ_=>False) C.w0 w1:=rY hCS hs1.1.ext
  have e2:Ext (λ_=>False) C.w0 C2.w0:=e1.trans hx2 (λ_ _ h=>h);refine hu2 _ _ (λb o h=>?_) (λb h=>?_)
  .show C2.M0 b o
   rw[hM2];exact .inl h
  .rcases h with h|⟨hSb,_⟩
   .have h9:C2.w0.heap.size<=b:=by simpa only[World.putObj_size]using h
    exact Nat.le_trans e2.size h9
   .obtain⟨k,hk,rfl⟩:=hS2 b hSb
    rcases hs1.1.own k _ (hks k hk)with this|this
    .exact this
    .exact absurd this.1 (hCS _)
end
theorem yq{f:FuncId}{c:Code}(hf:P.funcs[f]?=some fn)(hb:fn.body=some c)(hcall:bZ P f=true)(hlen:args.length<=fn.ntmps)
 (h:∀C:Cx,C.P=P->C.N=fn.ntmps->(∀b,¬C.S b)->kL C fn res c (oY (args.map .pv) [])):aa P f (args.map .pv) [] [] res:=by
 refine⟨hcall,rfl,λw M bs vs hM hbl hnd hbox hal harg=>?_⟩;have hbs:bs=[]:=List.eq_nil_of_length_eq_zero hbl;subst hbs
 let C:Cx:={P:=P,N:=fn.ntmps,M0:=M,S:=λ_=>False,pb:=λ_=>none,w0:=w}
 have hnone:∀k,(oY (args.map .pv) []).h k=none:=by
  intro k;simp only[oY,oX];split
  .rfl
  .simp
 have hal':args.length=vs.length:=by simpa using hal
 have hs:fI C (λ_=>default) (oY (args.map .pv) []) {tmps:=vs.toArray++Array.replicate (fn.ntmps-vs.toArray.size) undef,defers:=[]} w:=by
  refine⟨⟨Ext.refl _ _,hM,λk blk hk=>(by rw[hnone]at hk;cases hk),λk k' b1 b2 _ hk=>(by rw[hnone]at hk;cases hk),λk blk hk=>(by rw[hnone]at hk;cases hk)⟩,?_,λn=>?_⟩
  .show(vs.toArray++Array.replicate (fn.ntmps-vs.toArray.size) undef).size=fn.ntmps
   simp;omega
  .have hMst:∀b o,ag C (λ_=>default) (oY (args.map .pv) []).h b o->M b o:=by
    rintro b o (h|⟨k,blk,hk,_⟩)
    .exact h
    .rw[hnone]at hk;cases hk
   show RepA w _ _ _ (Az (args.map .pv) n) _;simp only[Az];split
   .rename_i p hp
    have hlt:n<vs.length:=by rw[<-hal];exact(List.getElem?_eq_some_iff.1 hp).1
    have hv:=harg n (.pv p) vs[n] hp (List.getElem?_eq_getElem hlt)
    have hget:(vs.toArray++Array.replicate (fn.ntmps-vs.toArray.size) undef).getD n undef=vs[n]:=by
     rw[Array.getD_eq_getD_getElem?,Array.getElem?_append_left (by simpa using hlt)];simp[hlt]
    simp only[hget];have hv':Rep w M p vs[n]:=hv;exact .pv (hv'.mono (Pres.sub hMst))
   .rename_i j hp
    rw[List.getElem?_map]at hp
    cases hq:args[n]? with
    |none=>rw[hq]at hp;cases hp
    |some x=>rw[hq]at hp;cases hp
   .exact .undef _
 refine(callsIn_wide (n:=0)).1 ((callsIn_of_wp_marks hf hb trivial (h C rfl rfl (λ_ h=>h) 0 _ _ w hs (λd hd=>(by simp at hd))) rfl).mono ?_);rintro e w' ⟨v,rfl,hx,hr⟩;exact⟨v,rfl,⟨hx.os,hx.tape,hx.output,hx.size,λb hb _=>hx.block b hb (λh=>h)⟩,λi b ps hb=>(by simp at hb),hr⟩
@[simp] theorem Ih:zS F C y Q .normal st=af F C y Q st:=rfl
@[simp] theorem Kn:zS F C y Q .ret st=Q .ret st:=rfl
@[simp] theorem JQ:zS F C y Q (.exit i) st=Q (.exit i) st:=rfl
@[simp] theorem JI:Fp C fn res y .normal st=kL C fn res y st:=rfl
@[simp] theorem KX:Fp C fn res y .ret st=(AJ res=true∧gZ C.P fn.results.toList [] res st):=rfl
section
variable {F:Fence} {C:Cx} {x y:Code} {Q:Exit->St->Prop} {st:St} {c:Operand}
def qW(F:Fence)(C:Cx)(x y:Code)(Q:Exit->St->Prop)(st:St):AV->Prop
 |.pv (.val (.bool b))=>(b=true->af F C x Q st)∧(b=false->af F C y Q st)
 |_=>False
@[simp] theorem JJ:qW F C x y Q st (.pv (.val (.bool true)))=af F C x Q st:=by simp[qW]
@[simp] theorem Ii:qW F C x y Q st (.pv (.val (.bool false)))=af F C y Q st:=by simp[qW]
theorem av{b:Bool}(h1:b=true->af F C x Q st)(h2:b=false->af F C y Q st):qW F C x y Q st (.pv (.val (.bool b))):=⟨h1,h2⟩
theorem af.cond'(h:qW F C x y Q st (st.ev c)):af F C (.cond c x y) Q st:=by
 cases hv:st.ev c with
 |pv p=>cases p with
  |val v=>cases v with
   |bool b=>rw[hv]at h;exact af.cond hv h.1 h.2
   |_=>rw[hv]at h;exact h.elim
  |_=>rw[hv]at h;exact h.elim
 |_=>rw[hv]at h;exact h.elim
end
def dL(N:Nat)(M:Nat->Nat->Prop)(t:Nat->AV)(a:Act)(w:World):Prop:=a.tmps.size=N∧∀m,t m=.undef∨∃p,t m=.pv p∧Rep w M p (a.tmps.getD m undef)
theorem dL.sim{t:Nat->AV}(h:dL N M t a w)(hM:∀b o,M b o->b<w.heap.size):fI {P:=P,N:=N,M0:=M,S:=λ_=>False,pb:=λ_=>none,w0:=w} (λ_=>default) ⟨t,λ_=>none⟩ a w:=by
 refine⟨⟨Ext.refl _ _,hM,λk blk hk=>(by cases hk),λk k' b1 b2 _ hk=>(by cases hk),λk blk hk=>(by cases hk)⟩,h.1,λm=>?_⟩;rcases h.2 m with e|⟨p,e,hr⟩
 .show RepA w _ _ _ (t m) _
  rw[e];exact .undef _
 .show RepA w _ _ _ (t m) _
  rw[e];refine .pv (hr.mono (Pres.sub ?_));rintro b o (h|⟨k,blk,hk,_⟩)
  .exact h
  .cases hk
def bk(t:Nat->AV):Nat->AV:=λm=>match t m with
 |.pv p=>.pv p
 |_=>.undef
theorem oG(hs:fI C L st a w):dL C.N C.M0 (bk st.t) a w:=by
 refine⟨hs.2.1,λm=>?_⟩;have:=hs.2.2 m;unfold bk;generalize st.t m=v at this
 cases v with
 |pv p=>
  cases this with
  |pv hr=>exact .inr ⟨p,rfl,hr.mono (Pres.sub λb o h=>.inl h)⟩
 |_=>exact .inl rfl
theorem dL.sub{t t':Nat->AV}(h:dL N M t a w)(ht:∀m,t' m=.undef∨t' m=t m):dL N M t' a w:=by
 refine⟨h.1,λm=>?_⟩;rcases ht m with e|e
 .exact .inl e
 .rw[e];exact h.2 m
theorem dL.mono{M':Nat->Nat->Prop}{t:Nat->AV}(h:dL N M t a w)(hp:Pres w M w' M'):dL N M' t a w':=
 ⟨h.1,λm=>(h.2 m).imp id λ⟨p,e,hr⟩=>⟨p,e,hr.mono hp⟩⟩
theorem dL.step{t:Nat->AV}{c:Code}(h:dL N M t a w)(hM:∀b o,M b o->b<w.heap.size)
 (hc:∀C:Cx,C.P=P->C.N=N->af Fence.wide C c Q ⟨t,λ_=>none⟩):c.wpIn Fence.wide n P (λe a' w'=>∃st',Q e st'∧dL N M (bk st'.t) a' w'∧Ext (λ_=>False) w w'∧a'.defers=a.defers) a w:=
 wpIn_mono (hc {P:=P,N:=N,M0:=M,S:=λ_=>False,pb:=λ_=>none,w0:=w} rfl rfl n _ a w (h.sim hM)) λ_ _ _ ⟨st',_,hs',_,hd,hq⟩=>⟨st',hq,oG hs',hs'.1.ext,hd⟩
theorem dL.list{t:Nat->AV}{l:List Oper}{Q:St->Prop}{Q':Exit->Act->World->Prop}(h:dL N M t a w)(hM:∀b o,M b o->b<w.heap.size)(hnd:∀o∈l,∀c,o.op≠.defer c)
 (hc:cU P hn N ops Q l ⟨t,λ_=>none⟩)(hQ:∀st' a' w',Q st'->dL N M (bk st'.t) a' w'->Ext (λ_=>False) w w'->a'.defers=a.defers->Q' .normal a' w'):wpListIn Fence.wide n P ops Q' l a w:=
 gw (C:={P:=P,N:=N,M0:=M,S:=λ_=>False,pb:=λ_=>none,w0:=w}) eV (λst' L' a' w' hs' _ hd hq=>hQ st' a' w' hq (oG hs') hs'.1.ext hd) hnd (h.sim hM) (aG.refl (h.sim (P:=P) hM).1) rfl hc
theorem Dj{l:Nat}{rest:List Oper}{c:Call}{y:Operand}{Q:Exit->Act->World->Prop}{R:Ending->World->Prop}(hw:Region.wanted o (yielded ops a.tmps)=true)(ho:o.op=.call c)(hc:c.callee=.value f)(hargs:c.args=#[x,y])
 (hf:a.eval f=.func (.yield l) #[] #[])(hy:YieldAt Fence.wide (n-1) P l #[a.eval x,a.eval y] w R)
 (hnext:∀e w',R e w'->∃v,e=.returned v∧wpListIn Fence.wide n P ops Q rest (a.put o.dst v) w'):wpListIn Fence.wide n P ops Q (o::rest) a w:=by
 obtain⟨fn,tmps,assign,body,hr,hround⟩:=hy;unfold wpListIn;rw[if_pos hw];refine⟨λ_ _=>trivial,?_⟩;show o.uponIn Fence.wide n P a _ Q ((o.semAt none a.eval).run P w);rw[Oper.semAt_none]
 have hrun:(execOp a.eval o).run P w=.ok (.round l fn tmps assign body) w:=by
  generalize a.eval=ρ at hf hr;unfold execOp;rw[ho];obtain⟨cal,ar,at_⟩:=c;simp only at hc hargs;subst hc;subst hargs;simp[resolve,hf,invoke,go_sem,hr]
 rw[hrun];refine⟨λh=>(by cases h),hround.mono ?_⟩;intro e w' he;obtain⟨v,rfl,h⟩:=hnext e w' he;exact h
def zI(P:Program)(gf:FuncId)(caps:List PV)(xs:List PV):Prop:=
 bZ P gf=true∧∀(n l:Nat)(lb:List Value)(W:World)(M:Nat->Nat->Prop)(J Jx:Nat->(Nat->Nat->Prop)->World->Prop),
  (∀i M W,J i M W->∀b o,M b o->b<W.heap.size)->(∀i M W W',J i M W->Ext (λ_=>False) W W'->J i M W')->
  (∀i M W,Jx i M W->∀b o,M b o->b<W.heap.size)->(∀i M W W',Jx i M W->Ext (λ_=>False) W W'->Jx i M W')->
  (∀m i x M W v1,xs[i]?=some x->J i M W->Rep W M x v1->YieldAt Fence.wide m P l #[v1] W λe W'=>∃(b:Bool)(M':Nat->Nat->Prop),e=.returned (.bool b)∧(if b=true then J (i+1) M' W' else Jx i M' W')∧Pres W M W' M')->
  J 0 M W->bw W M caps lb->CallsIn Fence.wide n P gf (#[.func (.yield l) #[] #[]]++lb.toArray) W λe W'=>(∃v,e=.returned v)∧((∃M',J xs.length M' W')∨∃i M',i<xs.length∧Jx i M' W')
def kS(t:Nat->AV)(p:Nat)(x:PV):Nat->AV:=ah t p (.pv x)
theorem MemL.kill(ks:List Nat)(hm:MemL C L st.h w):MemL C L (st.kill ks).h w∧∀b o,ag C L (st.kill ks).h b o->ag C L st.h b o:=by
 have hkey:∀k blk',(st.kill ks).h k=some blk'->∃blk,st.h k=some blk∧bm ks blk=blk'∧blk'.live (L k)=blk.live (L k)∧∀o,blk'.frz o=blk.frz o:=by
  intro k blk' hk;simp only[St.kill]at hk;split at hk
  .cases hk
  .simp only[Option.map_eq_some_iff]at hk
   obtain⟨blk,h1,rfl⟩:=hk;exact⟨blk,h1,rfl,by cases blk<;>rfl,λo=>by cases blk<;>rfl⟩
 have hM:∀b o,ag C L (st.kill ks).h b o->ag C L st.h b o:=by
  rintro b o (h0|⟨k,blk',hk,hl,hb,hf⟩)
  .exact .inl h0
  .obtain⟨blk,h1,_,h2,h3⟩:=hkey k blk' hk
   exact .inr ⟨k,blk,h1,h2▸hl,hb,h3 o▸hf⟩
 have hp:Pres w (ag C L st.h) w (ag C L (st.kill ks).h):=Pres.sub hM;refine⟨⟨hm.ext,hm.m0,?_,?_,?_⟩,hM⟩
 .intro k blk' hk
  obtain⟨blk,h1,rfl,_,_⟩:=hkey k blk' hk;have:=hm.bl k blk h1
  cases blk with
  |box cs own fz=>
   obtain⟨arr,ty,e1,e2⟩:=this;refine⟨arr,ty,e1,by simpa using e2.1,λi p u hp' hu=>?_⟩;simp only[List.getElem?_map,Option.map_eq_some_iff]at hp';obtain⟨q,hq,rfl⟩:=hp';exact tg hp (e2.2 i q u hq hu)
  |row e sz xs fz=>
   obtain⟨a1,a2,a3,a4,a5⟩:=this;refine⟨a1,a2,a3,a4,λhn=>?_⟩;obtain⟨b1,b2,arr,b3,b4,b5⟩:=a5 hn;exact⟨b1,b2,arr,b3,b4,λi x j p hx hj=>by obtain⟨u,hu,hr⟩:=b5 i x j p hx hj;exact⟨u,hu,hr.mono hp⟩⟩
  |mp kd n es fz=>exact this
 .intro k k' b1 b2 hne hk hk' hl hl'
  obtain⟨c1,d1,_,e1,_⟩:=hkey k b1 hk;obtain⟨c2,d2,_,e2,_⟩:=hkey k' b2 hk';exact hm.sep k k' c1 c2 hne d1 d2 (e1▸hl) (e2▸hl')
 .intro k blk' hk
  obtain⟨blk,h1,rfl,_,_⟩:=hkey k blk' hk;have:=hm.own k blk h1
  cases blk with
  |box cs own fz=>cases own<;>exact this
  |row=>exact this
  |mp=>exact this
def DZ(kd:List Nat)(I:Nat->Hp->Prop)(Ix:Nat->Hp->Prop)(i:Nat):Exit->St->Prop
 |.normal,st=>I (i+1) (st.kill kd).h
 |.ret,st=>Ix i st.h
 |_,_=>False
theorem D0{p:Nat}(hg:a.eval gop=.func (.func gf) #[] lb.toArray)
 {caps:List PV}{xs:List PV}(hit:zI P gf caps xs){M:Nat->Nat->Prop}(hM:∀b o,M b o->b<w.heap.size)(hcap:bw w M caps lb)
 {ks:List Nat}{bs:Nat->Nat}{hin:Nat->List PV}(hbs:∀k∈ks,(∀o,M (bs k) o)∧jf w M (bs k) (hin k))(hinj:∀k∈ks,∀k'∈ks,k≠k'->bs k≠bs k')
 (hN:a.tmps.size=N)(hp:p<N){t:Nat->AV}(ht:∀m,(∃k∈ks,t m=.ptr k 0∧a.tmps.getD m undef=.pointer (some ⟨bs k,0,none⟩))∨(∃q,t m=.pv q∧Rep w M q (a.tmps.getD m undef))∨t m=.undef)
 (I Ix:Nat->Hp->Prop)(h0:I 0 (iH ks hin))(hI:∀i h k,k∈ks->I i h->∃cs,h k=some (.box cs false false))(hIx:∀i h k,k∈ks->Ix i h->∃cs,h k=some (.box cs false false))
 (hround:∀(C C':Cx)(l i:Nat)(x:PV)(h:Hp),C.P=P->C.N=N->C'.P=P->C'.N=N->xs[i]?=some x->I i h->
   af (Fence.wide.inRound l) C assign (λe st'=>e=.normal∧af (Fence.wide.inRound l) C' body (DZ kd I Ix i) st') ⟨kS t p x,h⟩):
 (Code.rangeFunc gop #[p] assign body).wpIn Fence.wide n P (λe a' w'=>∃(C:Cx)(L:Nat->Loc)(h:Hp)(D:Nat),((e=.normal∧I xs.length h)∨(e=.ret∧∃i,i<xs.length∧Ix i h))∧C.P=P∧C.N=N∧C.M0=M∧(∀b,C.S b->∃k∈ks,b=bs k)∧
   MemL C L h w'∧(∀k∈ks,(L k).b=bs k)∧(∀q v,Rep w M q v->Rep w' (ag C L h) q v)∧Ext (λ_=>False) w C.w0∧C.w0.heap[D]?=some (.deferred (some []))∧¬C.S D∧w.heap.size<=D∧a'={a with defers:={target:=.collected D,args:=#[]}::a.defers}) a w:=by
 refine wpIn_rangeFunc ?_;intro fn _;obtain⟨rec,hrec⟩:∃rec:LoopState->Option Code->Loop,rec=λst pe=>{state:=st,pending:=pe,fn,tmps:=a.tmps,params:=#[p],assign,body,defers:=w.heap.size}:=⟨_,rfl⟩;obtain⟨W1,hW1⟩:∃W1,(w.alloc (.deferred (some []))).alloc (.loop (rec .ready none))=W1:=⟨_,rfl⟩
 have hx1:Ext (λ_=>False) w W1:=by rw[<-hW1];exact(Ext.alloc _ _ _).trans (Ext.alloc _ _ _) (λ_ _ h=>h)
 have hs1:W1.heap.size=w.heap.size+2:=by rw[<-hW1];simp
 have hL1:W1.heap[w.heap.size+1]?=some (.loop (rec .ready none)):=by
  rw[<-hW1];have:=World.alloc_heap_new (w.alloc (.deferred (some []))) (.loop (rec .ready none));rwa [World.size_alloc]at this
 have hD1:W1.heap[w.heap.size]?=some (.deferred (some [])):=by
  rw[<-hW1];exact(RowKit.Below.heap_alloc _ _ _ (by simp)).trans (World.alloc_heap_new w _)
 obtain⟨l,hl⟩:∃l,l=w.heap.size+1:=⟨_,rfl⟩;rw[<-hl]at hL1;obtain⟨cx,hcx⟩:∃cx:Obj->Cx,cx=λo=>{P:=P,N:=N,M0:=M,S:=λb=>∃k∈ks,b=bs k,pb:=λk=>if ks.contains k=true then some (bs k)else none,w0:=W1.putObj l o}:=⟨_,rfl⟩
 have hS:∀o b,(cx o).S b->b<w.heap.size:=by
  intro o b hb;rw[hcx]at hb;obtain⟨k,hk,rfl⟩:=hb;exact lp (hbs k hk).2
 have hw0:∀o,(cx o).w0=W1.putObj l o:=λo=>by rw[hcx]
 have hMst:∀o o' L h,ag (cx o) L h=ag (cx o') L h:=λo o' L h=>by rw[hcx];rfl
 have hat:∀(o:Obj),(cx o).w0.heap[l]?=some o:=λo=>by rw[hw0];exact World.putObj_heap_same (Array.getElem?_eq_some_iff.1 hL1).1
 have hnS:∀o,¬(cx o).S l:=λo h=>by have:=hS o l h;omega
 have hturn:∀{o o':Obj}{L:Nat->Loc}{h:Hp}{W:World},o.isCells=false->(∀arr c,o≠.map arr c)->MemL (cx o) L h W->W.heap[l]?=some o∧MemL (cx o') L h (W.putObj l o')∧Pres W (ag (cx o) L h) (W.putObj l o') (ag (cx o') L h):=by
  intro o o' L h W ho hmp hm;have hlt:l<(cx o).w0.heap.size:=(Array.getElem?_eq_some_iff.1 (hat o)).1;obtain⟨h1,h2⟩:=hm.turn (hat o) (hnS o) ho hmp o';refine⟨(hm.ext.block l hlt (hnS o)).trans (hat o),?_,?_⟩
  .have e:({cx o with w0:=(cx o).w0.putObj l o'}:Cx)=cx o':=by rw[hcx];simp only[sK]
   rw[e]at h1;exact h1
  .rw[hMst o' o];exact h2
 have hready:W1.putObj l (.loop (rec .ready none))=W1:=uR hL1
 have hown:∀{K:Nat->Hp->Prop}{o:Obj}{L:Nat->Loc}{h:Hp}{W:World}{i k:Nat},(∀i h k,k∈ks->K i h->∃cs,h k=some (.box cs false false))->k∈ks->K i h->MemL (cx o) L h W->(L k).b=bs k:=by
  intro K o L h W i k hK hk hi hm;obtain⟨cs,hc⟩:=hK i h k hk hi;have:=(hm.own k _ hc).2.1;rw[hcx]at this
  have hc':ks.contains k=true:=by simpa using hk
  simp only[hc',if_true,Option.some.injEq]at this;exact this.symm
 let L0:Nat->Loc:=λk=>⟨bs k,0,false⟩
 have hkey:∀k blk,iH ks hin k=some blk->k∈ks∧blk=.box ((hin k).map .pv) false false:=by
  intro k blk hk;unfold iH at hk;split at hk
  .rename_i hc;injection hk with hk;exact⟨by simpa using hc,hk.symm⟩
  .cases hk
 have hM1:∀o b o',ag (cx o) L0 (iH ks hin) b o'->M b o':=by
  rintro o b o' (hb|⟨k,blk,hk,_,hb,_⟩)
  .rw[hcx]at hb;exact hb
  .obtain⟨hks,_⟩:=hkey k blk hk
   rw[<-hb];exact(hbs k hks).1 o'
 have hpres1:Pres w M W1 (ag (cx (.loop (rec .ready none))) L0 (iH ks hin)):=Pres.ext hx1 (λ_ _ h=>h.elim) λb o _ h=>hM1 _ b o h
 have hm0:MemL (cx (.loop (rec .ready none))) L0 (iH ks hin) W1:=by
  refine⟨by rw[hw0,hready];exact Ext.refl _ _,?_,?_,?_,?_⟩
  .intro b o hb
   rw[hw0,hready];rw[hcx]at hb;have:=hM b o hb;omega
  .intro k blk hk
   obtain⟨hks,rfl⟩:=hkey k blk hk;obtain⟨arr,ty,e1,e2⟩:=(hbs k hks).2;exact⟨arr,ty,(hx1.block _ (lp (hbs k hks).2) (λh=>h)).trans e1,aB.map_pv (e2.mono hpres1)⟩
  .intro k k' b1 b2 hne hk hk' _ _
   exact hinj k (hkey k b1 hk).1 k' (hkey k' b2 hk').1 hne
  .intro k blk hk
   obtain⟨hks,rfl⟩:=hkey k blk hk
   have hc':ks.contains k=true:=by simpa using hks
   refine⟨rfl,?_,?_,?_,?_⟩
   .rw[hcx];simp only[hc',if_true];rfl
   .rw[hcx];exact⟨k,hks,rfl⟩
   .rw[hw0,hready];have:=lp (hbs k hks).2;show bs k<_;omega
   .intro o;rw[hcx];exact(hbs k hks).1 o
 let Jt:(Nat->Hp->Prop)->Obj->Nat->(Nat->Nat->Prop)->World->Prop:=λK o i M' W=>∃L h,K i h∧MemL (cx o) L h W∧M'=ag (cx o) L h∧(∀q v,Rep w M q v->Rep W M' q v)
 refine⟨l,[{target:=.collected w.heap.size,args:=#[]}],W1,{target:=.fn (.func gf) lb.toArray,args:=#[.func (.yield l) #[] #[]]},W1,gf,#[.func (.yield l) #[] #[]]++lb.toArray,W1,?_,?_,λ_ _=>trivial,pT hit.1 _ _ _,λh=>(by cases h),?_⟩
 .rw[<-hW1,hrec,hl];exact run_enterLoop_outer _ _ _ _ _
 .simp only[resolve,hg]
  simp[go_sem]
 .have hbd:∀K o i M' W,Jt K o i M' W->∀b o',M' b o'->b<W.heap.size:=by
   rintro K o i M' W ⟨L,h,_,hm,rfl,_⟩ b o' hb;exact hm.mlt hb
  have hgr:∀K o i M' W W',Jt K o i M' W->Ext (λ_=>False) W W'->Jt K o i M' W':=by
   rintro K o i M' W W' ⟨L,h,hi,hm,rfl,hq⟩ hx;exact⟨L,h,hi,(hm.grow hx).1,rfl,λq v hr=>(hq q v hr).mono (hm.grow hx).2⟩
  refine(hit.2 (n-1) l lb W1 _ (Jt I (.loop (rec .ready none))) (Jt Ix (.loop (rec .done (some .ret)))) (hbd _ _) (hgr _ _) (hbd _ _) (hgr _ _) ?_ ⟨L0,_,h0,hm0,rfl,λq v hr=>hr.mono hpres1⟩ (hcap.mono hpres1)).mono ?_
  .
   rintro m i x M' W v1 hxi ⟨L,h,hi,hm,rfl,hq⟩ hr1;obtain⟨hlW,_,_⟩:=hturn (o':=.loop (rec .ready none)) rfl (by intro _ _ h;cases h) hm;have hy:=run_yield (P:=P) (args:=#[v1]) hlW (by rw[hrec];rfl);rw[hrec]at hy;refine⟨fn,a.tmps.setIfInBounds p v1,assign,body,by simpa using hy,roundIn_of_wpIn trivial ?_⟩
   have hsim:fI (cx (.loop (rec .ready none))) L ⟨kS t p x,h⟩ {tmps:=a.tmps.setIfInBounds p v1,defers:=[]} W:=by
    refine⟨hm,by rw[hcx];simpa using hN,λk=>?_⟩
    have hp':p<a.tmps.size:=by rw[hN];exact hp
    simp only[vt hp',kS,ah];split
    .exact .pv hr1
    .rcases ht k with⟨k',hk',e1,e2⟩|⟨q,e1,e2⟩|e1
     .obtain⟨cs,hc⟩:=hI i h k' hk' hi
      rw[e1,e2,<-hown hI hk' hi hm];exact .ptr hc
     .rw[e1];exact .pv (hq q _ e2)
     .rw[e1];exact .undef _
   have hP1:(cx (.loop (rec .ready none))).P=P:=by rw[hcx]
   have hP2:(cx (.loop (rec .busy none))).P=P:=by rw[hcx]
   have hR:=hround (cx (.loop (rec .ready none))) (cx (.loop (rec .busy none))) l i x h hP1 (by rw[hcx]) hP2 (by rw[hcx]) hxi hi m L _ W hsim;rw[hP1]at hR;refine wpIn_mono hR ?_;rintro e a1 w1 ⟨st1,L1,hs1',hA1,_,rfl,hbody⟩;obtain⟨hl1,hmb,hpb⟩:=hturn (o':=.loop (rec .busy none)) rfl (by intro _ _ h;cases h) hs1'.1;refine⟨w1.putObj l (.loop (rec .busy none)),?_,?_⟩
   .have:=run_beginRound (P:=P) hl1 (by rw[hrec])
    rw[hrec]at this|-;exact this
   have hsb:fI (cx (.loop (rec .busy none))) L1 st1 a1 (w1.putObj l (.loop (rec .busy none))):=⟨hmb,by have:=hs1'.2.1;rw[hcx]at this|-;exact this,λk=>(hs1'.2.2 k).mono hpb (KC.refl _ _)⟩;have hB:=hbody m L1 a1 _ hsb;rw[hP2]at hB;refine wpIn_mono hB ?_;rintro e2 a2 w2 ⟨st2,L2,hs2,hA2,_,hq2⟩
   cases e2 with
   |normal=>
    obtain⟨hl2,hmr,hpr⟩:=hturn (o':=.loop (rec .ready none)) rfl (by intro _ _ h;cases h) hs2.1
    have e:(Obj.loop {rec .busy none with state:=if(none:Option Code).isNone=true then .ready else .done,pending:=none})=.loop (rec .ready none):=by rw[hrec];rfl
    have hpres:Pres W (ag (cx (.loop (rec .ready none))) L h) (w2.putObj l (.loop (rec .ready none))) (ag (cx (.loop (rec .ready none))) L2 st2.h):=((hA1.2.1.trans hpb).trans hA2.2.1).trans hpr;obtain⟨hmk,hMk⟩:=hmr.kill kd;have hpres:=hpres.trans (Pres.sub hMk);refine⟨_,_,run_endRound none hl2,true,ag (cx (.loop (rec .ready none))) L2 (st2.kill kd).h,rfl,?_,?_⟩
    .rw[if_pos rfl,e]
     exact⟨L2,(st2.kill kd).h,hq2,hmk,rfl,λq v hr=>(hq q v hr).mono hpres⟩
    .rw[e];exact hpres
   |ret=>
    obtain⟨hl2,hmr,hpr⟩:=hturn (o':=.loop (rec .done (some .ret))) rfl (by intro _ _ h;cases h) hs2.1
    have e:(Obj.loop {rec .busy none with state:=if(some Code.ret).isNone=true then .ready else .done,pending:=some .ret})=.loop (rec .done (some .ret)):=by rw[hrec];rfl
    have hpres:Pres W (ag (cx (.loop (rec .ready none))) L h) (w2.putObj l (.loop (rec .done (some .ret)))) (ag (cx (.loop (rec .done (some .ret)))) L2 st2.h):=((hA1.2.1.trans hpb).trans hA2.2.1).trans hpr;refine⟨_,_,run_endRound (some .ret) hl2,false,ag (cx (.loop (rec .done (some .ret)))) L2 st2.h,rfl,?_,?_⟩
    .rw[if_neg (by simp),e]
     exact⟨L2,st2.h,hq2,hmr,rfl,λq v hr=>(hq q v hr).mono hpres⟩
    .rw[e];exact hpres
   |exit=>exact hq2.elim
   |goto=>exact hq2.elim
   |panic=>exact hq2.elim
   |outgrown=>exact hq2.elim
  .
   have hend:∀(K:Nat->Hp->Prop)(o:Obj)(st:LoopState)(pe:Option Code)(i:Nat)(M':Nat->Nat->Prop)(W2:World),o=.loop (rec st pe)->(∀i h k,k∈ks->K i h->∃cs,h k=some (.box cs false false))->Jt K o i M' W2->
    W2.heap[l]?=some o∧∃(C:Cx)(L:Nat->Loc)(h:Hp)(D:Nat),K i h∧C.P=P∧C.N=N∧C.M0=M∧(∀b,C.S b->∃k∈ks,b=bs k)∧
     MemL C L h (W2.putObj l (.loop (rec .exhausted pe)))∧(∀k∈ks,(L k).b=bs k)∧(∀q v,Rep w M q v->Rep (W2.putObj l (.loop (rec .exhausted pe))) (ag C L h) q v)∧Ext (λ_=>False) w C.w0∧C.w0.heap[D]?=some (.deferred (some []))∧¬C.S D∧w.heap.size<=D∧D=w.heap.size:=by
    rintro K o st pe i M' W2 rfl hK ⟨L,h,hi,hm,rfl,hq⟩;obtain⟨hl2,hme,hpe⟩:=hturn (o':=.loop (rec .exhausted pe)) rfl (by intro _ _ h;cases h) hm;refine⟨hl2,cx (.loop (rec .exhausted pe)),L,h,w.heap.size,hi,by rw[hcx],by rw[hcx],by rw[hcx],?_,hme,λk hk=>hown hK hk hi hm,λq v hr=>(hq q v hr).mono hpe,?_,?_,?_,Nat.le_refl _,rfl⟩
    .intro b hb
     rw[hcx]at hb;exact hb
    .rw[hw0]
     refine⟨hx1.os,hx1.tape,hx1.output,by simp;omega,λb hb _=>?_⟩;rw[World.putObj_heap_other (by omega)];exact hx1.block b hb (λh=>h)
    .rw[hw0,World.putObj_heap_other (by omega)];exact hD1
    .intro hb
     have:=hS _ _ hb;omega
   rintro e W2 ⟨⟨v,rfl⟩,⟨M',hj⟩|⟨i,M',hi,hj⟩⟩
   .obtain⟨hl2,C,L,h,D,a1,a2,a3,a4,a5,a6,a7,a7',a8,a9,a10,a11,rfl⟩:=hend I _ _ _ _ _ _ rfl hI hj
    refine⟨none,W2.putObj l (.loop (rec .exhausted none)),?_,C,L,h,_,.inl ⟨rfl,a1⟩,a2,a3,a4,a5,a6,a7,a7',a8,a9,a10,a11,rfl⟩;have:=run_endLoop (P:=P) hl2 (by rw[hrec];simp);rw[hrec]at this|-;exact this
   .obtain⟨hl2,C,L,h,D,a1,a2,a3,a4,a5,a6,a7,a7',a8,a9,a10,a11,rfl⟩:=hend Ix _ _ _ _ _ _ rfl hIx hj
    refine⟨some .ret,W2.putObj l (.loop (rec .exhausted (some .ret))),?_,wpIn_ret ⟨C,L,h,_,.inr ⟨rfl,i,hi,a1⟩,a2,a3,a4,a5,a6,a7,a7',a8,a9,a10,a11,rfl⟩⟩;have:=run_endLoop (P:=P) hl2 (by rw[hrec];simp);rw[hrec]at this|-;exact this
theorem uH{C2:Cx}{res:PV}{st1 st3:St}{a1 a3:Act}{w1 w3:World}{L1 L3:Nat->Loc}{D:Nat}{bs:Nat->Nat}{hin:Nat->List PV}(hCS:∀b,¬C.S b)(hs1:fI C L1 st1 a1 w1)(hks:∀k∈ks,st1.h k=some (.box ((hin k).map .pv) true false))(hbs:∀k∈ks,bs k=(L1 k).b)
 (hqa:wX C.P a1.defers)(hP2:C2.P=C.P)(hM2:C2.M0=ag C L1 st1.h)(hS2:∀b,C2.S b->∃k∈ks,b=bs k)(hx2:Ext (λ_=>False) w1 C2.w0)(hD2:C2.w0.heap[D]?=some (.deferred (some [])))(hnS2:¬C2.S D)(hDge:w1.heap.size<=D)
 (hs3:fI C2 L3 st3 a3 w3)(hd3:a3.defers={target:=.collected D,args:=#[]}::a1.defers)(hr3:gZ C.P fn.results.toList [] (.pv res) st3):LeavesInM Fence.wide n C.P fn a3.tmps (Ig C res) a3.defers .returning w3:=by
 rw[hd3];have hDlt:D<C2.w0.heap.size:=(Array.getElem?_eq_some_iff.1 hD2).1;have hD3:w3.heap[D]?=some (.deferred (some [])):=(hs3.1.ext.block D hDlt hnS2).trans hD2;obtain⟨hm4,hp4⟩:=hs3.1.turn hD2 hnS2 rfl (by intro _ _ h;cases h) (.deferred none);have hs4:fI {C2 with w0:=C2.w0.putObj D (.deferred none)} L3 st3 a3 (w3.putObj D (.deferred none)):=⟨hm4,hs3.2.1,λm=>(hs3.2.2 m).mono hp4 (KC.refl _ _)⟩;obtain⟨u,hu1,hu2⟩:=Cj hs4 (fn:=fn) (res:=res) (by show gZ C2.P _ _ _ _;rw[hP2];exact hr3)
 have hu1':(results fn a3.tmps).run C.P (w3.putObj D (.deferred none))=.ok u (w3.putObj D (.deferred none)):=by rw[<-hP2];exact hu1
 refine⟨by simp,.inl ⟨D,_,rfl,run_takeDeferred hD3,pW hqa hu1' ⟨u,rfl,?_,?_⟩⟩⟩
 .have e1:Ext (λ_=>False) C.w0 w1:=rY hCS hs1.1.ext
  have e2:Ext (λ_=>False) C.w0 C2.w0:=e1.trans hx2 (λ_ _ h=>h);have hle:=e1.size;refine⟨?_,?_,?_,?_,?_⟩
  .show w3.os=_;rw[hs3.1.ext.os];exact e2.os
  .show w3.tape=_;rw[hs3.1.ext.tape];exact e2.tape
  .show w3.output=_;rw[hs3.1.ext.output];exact e2.output
  .simp only[World.putObj_size];exact Nat.le_trans e2.size hs3.1.ext.size
  .intro b hb _
   rw[World.putObj_heap_other (by omega)];rw[hs3.1.ext.block b (Nat.lt_of_lt_of_le hb e2.size) ?_]
   .exact e2.block b hb (λh=>h)
   .intro hSb
    obtain⟨k,hk,rfl⟩:=hS2 b hSb;rw[hbs k hk]at hb;have:=hs1.1.own k _ (hks k hk);rcases this with this|this
    .omega
    .exact hCS _ this.1
 .refine hu2.mono (Pres.sub ?_)
  intro b o h;show C2.M0 b o;rw[hM2];exact .inl h
theorem kL.rangeS{res:PV}(hCS:∀b,¬C.S b){x:Code}{p b0:Nat}{xs:List PV}(hit:zI C.P gf caps xs)(hp:p<C.N)
 {ks:List Nat}{hin:Nat->List PV}{t:Nat->AV}
 (hx:af Fence.wide C x (λe st'=>e=.normal∧st'.ev gop=.pv (.fn (.func gf) [] caps)∧(∀k∈ks,st'.h k=some (.box ((hin k).map .pv) true false))∧∀m,(∃k∈ks,t m=.ptr k 0∧st'.t m=.ptr k 0)∨(∃q,t m=.pv q∧st'.t m=.pv q)∨t m=.undef) st)
 (I Ix:Nat->Hp->Prop)(h0:I 0 (iH ks hin))(hI:∀i h k,k∈ks->I i h->∃cs,h k=some (.box cs false false))(hIx:∀i h k,k∈ks->Ix i h->∃cs,h k=some (.box cs false false))
 (hround:∀(C1 C2:Cx)(l i:Nat)(x:PV)(h:Hp),C1.P=C.P->C1.N=C.N->C2.P=C.P->C2.N=C.N->xs[i]?=some x->I i h->
   af (Fence.wide.inRound l) C1 assign (λe st'=>e=.normal∧af (Fence.wide.inRound l) C2 body (DZ kd I Ix i) st') ⟨kS t p x,h⟩)
 (hnd:oF ops=true){hn:List Nat}(htail:∀h,I xs.length h->cU C.P hn C.N ops (λst'=>gZ C.P fn.results.toList [] (.pv res) st') ops.toList ⟨t,h⟩)
 (hstop:∀i h,i<xs.length->Ix i h->gZ C.P fn.results.toList [] (.pv res) ⟨t,h⟩):
 kL C fn (.pv res) (.seq (.seq x (.block b0 (.rangeFunc gop #[p] assign body))) (.seq (.region id ops false) .ret)) st:=by
 intro n L a w hs hqa;refine wpIn_seq (wpIn_seq (wpIn_mono (hx n L a w hs) ?_));rintro e a1 w1 ⟨st1,L1,hs1,hA1,hd1,rfl,hg,hks,htt⟩;have hgr:=cD hs1.2.2 gop;rw[hg]at hgr
 obtain⟨us,hus,hcap⟩:∃us:List Value,a1.eval gop=.func (.func gf) #[] us.toArray∧bw w1 (ag C L1 st1.h) caps us:=by
  generalize a1.eval gop=u at hgr
  cases hgr with
  |pv hr=>
   cases hr with
   |fn _ _ _ vs us hl hk h1 h2=>
    have:vs=[]:=List.eq_nil_of_length_eq_zero hl.symm;subst this;exact⟨us,rfl,hk,h2⟩
 have hbx:∀k∈ks,(∀o,ag C L1 st1.h (L1 k).b o)∧jf w1 (ag C L1 st1.h) (L1 k).b (hin k):=by
  intro k hk;obtain⟨arr,ty,e1,e2⟩:=hs1.1.bl k _ (hks k hk);exact⟨λo=>.inr ⟨k,_,hks k hk,trivial,rfl,by simp[Blk.frz]⟩,arr,ty,e1,e2.map_pv_inv⟩
 have hqa1:wX C.P a1.defers:=by rw[hd1];exact hqa
 refine wpIn_block (wpIn_mono (D0 (N:=C.N) hus hit (λb o h=>hs1.1.mlt h) hcap hbx (λk hk k' hk' hne=>hs1.1.sep k k' _ _ hne (hks k hk) (hks k' hk') trivial trivial) hs1.2.1 hp (t:=t) ?_ I Ix h0 hI hIx hround) ?_)
 .intro m
  rcases htt m with⟨k,hk,e1,e2⟩|⟨q,e1,e2⟩|e
  .have hr:=hs1.2.2 m
   rw[e2]at hr;generalize hv:a1.tmps.getD m undef=v at hr
   cases hr with
   |ptr _=>exact .inl ⟨k,hk,e1,rfl⟩
  .have hr:=hs1.2.2 m
   rw[e2]at hr
   cases hr with
   |pv hr=>exact .inr (.inl ⟨q,e1,hr⟩)
  .exact .inr (.inr e)
 rintro e a2 w2 ⟨C2,L2,h2,D,hend,hP2,hN2,hM2,hS2,hm2,hb2,hq2,hx2,hD2,hnS2,hDge,rfl⟩
 have hbox:∀k∈ks,∃cs,h2 k=some (.box cs false false):=by
  intro k hk;rcases hend with⟨_,hi⟩|⟨_,i,_,hi⟩
  .exact hI _ h2 k hk hi
  .exact hIx _ h2 k hk hi
 have hs2:fI C2 L2 ⟨t,h2⟩ {a1 with defers:={target:=.collected D,args:=#[]}::a1.defers} w2:=by
  refine⟨hm2,by rw[hN2];exact hs1.2.1,λm=>?_⟩;show RepA w2 (ag C2 L2 h2) L2 h2 (t m) (a1.tmps.getD m undef);rcases htt m with⟨k,hk,e1,e2⟩|⟨q,e1,e2⟩|e
  .have hr:=hs1.2.2 m
   rw[e2]at hr;obtain⟨cs,hc⟩:=hbox k hk
   have hv:a1.tmps.getD m undef=.pointer (some ⟨(L1 k).b,0,none⟩):=by
    generalize a1.tmps.getD m undef=v at hr
    cases hr with
    |ptr _=>rfl
   rw[e1,hv,<-hb2 k hk];exact .ptr hc
  .have hr:=hs1.2.2 m
   rw[e2]at hr;rw[e1]
   cases hr with
   |pv hr=>exact .pv (hq2 q _ hr)
  .rw[e];exact .undef _
 rcases hend with⟨rfl,hi2⟩|⟨rfl,i,hilt,hi2⟩
 .show Code.wpIn Fence.wide n C.P _ _ _ w2
  refine wpIn_seq (wpIn_region_list ?_);have htl:=htail h2 hi2;rw[<-hP2,<-hN2]at htl;rw[hP2]at htl;have hgo:=λQ' hQ'=>gw (C:=C2) (Q:=λst'=>gZ C.P fn.results.toList [] (.pv res) st') (Q':=Q') (hn:=hn) (ops:=ops) eV (n:=n) hQ' (λ_ ho=>kj hnd ho) hs2 (aG.refl hs2.1) rfl (by rw[hP2];exact htl);rw[hP2]at hgo;refine hgo _ ?_;intro st3 L3 a3 w3 hs3 _ hd3 hr3;refine wpIn_ret ?_;exact uH hCS hs1 hks (λ_ _=>rfl) hqa1 hP2 hM2 hS2 hx2 hD2 hnS2 hDge hs3 hd3 hr3
 .show LeavesInM Fence.wide n C.P fn a1.tmps (Ig C res) ({target:=.collected D,args:=#[]}::a1.defers) .returning w2
  exact uH (a3:={a1 with defers:={target:=.collected D,args:=#[]}::a1.defers}) hCS hs1 hks (λ_ _=>rfl) hqa1 hP2 hM2 hS2 hx2 hD2 hnS2 hDge hs2 rfl (hstop i h2 hilt hi2)
theorem CV(h:Hp)(ks:List Nat)(k:Nat)(b:Blk):rekey h ks k b k=some b:=if_pos rfl
section
variable {C:Cx} {L:Nat->Loc} {h1 h:Hp} {w:World}
theorem MemL.loosen(hm:MemL C L h w)(ks:List Nat)(f:Nat->Bool):
 MemL C L (λq=>if f q=true then(h q).map (bm ks)else h q) w∧KC L h L (λq=>if f q=true then(h q).map (bm ks)else h q)∧
  Pres w (ag C L h) w (ag C L (λq=>if f q=true then(h q).map (bm ks)else h q)):=by
 let h2:Hp:=λq=>if f q=true then(h q).map (bm ks)else h q
 have get:∀{q b},h2 q=some b->∃b0,h q=some b0∧(b=b0∨b=bm ks b0):=by
  intro q b hq;simp only[h2]at hq;split at hq
  .simp only[Option.map_eq_some_iff]at hq
   obtain⟨b0,e1,rfl⟩:=hq;exact⟨b0,e1,.inr rfl⟩
  .exact⟨b,hq,.inl rfl⟩
 have lv:∀{b b0:Blk}{l:Loc},(b=b0∨b=bm ks b0)->b.live l=b0.live l:=by
  rintro b b0 l (rfl|rfl)
  .rfl
  .exact rv _ _
 have fr:∀{b b0:Blk}{o:Nat},(b=b0∨b=bm ks b0)->b.frz o=b0.frz o:=by
  rintro b b0 o (rfl|rfl)
  .rfl
  .exact yN _ _
 have hM:∀b o,ag C L h2 b o->ag C L h b o:=by
  rintro b o (h0|⟨q,b1,hq,hl,hb,hf⟩)
  .exact .inl h0
  .obtain⟨b0,e1,e2⟩:=get hq
   rw[lv e2]at hl;rw[fr e2]at hf;exact .inr ⟨q,b0,e1,hl,hb,hf⟩
 have hp:Pres w (ag C L h) w (ag C L h2):=Pres.sub hM
 have hkc:KC L h L h2:=by
  intro q b hq;simp only[h2];split
  .exact⟨bm ks b,by rw[hq];rfl,tf _ _ _⟩
  .exact⟨b,hq,bW _ _⟩
 refine⟨⟨hm.ext,hm.m0,?_,?_,?_⟩,hkc,hp⟩
 .intro q b hq
  obtain⟨b0,e1,e2⟩:=get hq;have hb:=(hm.bl q b0 e1).mono hp hkc (λ_=>rfl);rcases e2 with rfl|rfl
  .exact hb
  .cases b0 with
   |box cs own fz=>
    obtain⟨arr,ty,a1,a2,a3⟩:=hb;refine⟨arr,ty,a1,by simpa using a2,λi p u hp' hu=>?_⟩;simp only[List.getElem?_map,Option.map_eq_some_iff]at hp';obtain⟨z,hz,rfl⟩:=hp';unfold aq;split
    .exact .undef _
    .exact a3 i z u hz hu
   |row=>exact hb
   |mp=>exact hb
 .intro q q' b1 b2 hne hq hq' hl hl'
  obtain⟨c1,e1,e2⟩:=get hq;obtain⟨c2,d1,d2⟩:=get hq';rw[lv e2]at hl;rw[lv d2]at hl';exact hm.sep q q' c1 c2 hne e1 d1 hl hl'
 .intro q b hq
  obtain⟨b0,e1,e2⟩:=get hq;rcases e2 with rfl|rfl
  .exact hm.own q _ e1
  .exact yP (hm.own q b0 e1)
end
theorem wt(w:World)(t ty e ty9:TypeId)(i:TypeInfo)(ht:P.underlying t=some (.slice e))(hi:P.info? e=some i)(g n cap:Nat)(cur:Array Value)(hg:w.heap[g]?=some (.cells cur ty9 (0,0)))
 (a:Addr)(m c:Nat)(news:List Value)(hl:news.length=m*i.size)(hnews:∀j u,news[j]?=some u->w.cell? (a.add j)=some u)(h1:∀u∈news,u.oneCell'=true)(hroom:n+m<=cap)(hfit:n*i.size+news.length<=cur.size):
 (Builtin.append_ #[t,t] ty #[.slice (some ⟨g,0,none⟩) n cap,.slice (some a) m c]).run P w=.ok (.slice (some ⟨g,0,none⟩) (n+m) cap) (w.setRow g (cur.toList.take (n*i.size)++news++cur.toList.drop (n*i.size+news.length)).toArray):=by
 have q1:=run_firstCells_some (P:=P) w i.size m a m c news hl hnews;have q2:=run_storeCells_at P g (n*i.size) ty9 news 0 cur w hg (by simpa using hfit) h1;rw[Nat.add_zero]at q2;simp[Builtin.append_,run_underlying ht,sizeOf,typeInfo,hi,Builtin.lenOf,hroom,q1,Addr.add_lit,q2]
section
variable {C:Cx} {Q:Exit->St->Prop} {st:St}
def Gw(C:Cx)(hn:List Nat)(ops:Array Oper)(Q:St->Prop)(t:TypeId)(s x:Operand)(d:Nat)(post:List Oper)(st:St):Prop:=
 ∃k n r A z et eb ti ys,st.ev s=.ext (.barr k n (n+r))∧st.h k=some (.box (A++List.replicate r (.pv (.val z))) true false)∧A.length=n∧(∀y∈A,aQ [k] y=false)∧
  eU st.h (st.ev x)=some ys∧ys.all (lI 1)=true∧(∀y∈ys,y.cells=[y])∧0<ys.length∧ak C.P t=some ti∧ti.kind=.slice et 1 eb (some z)∧z.cells=#[z]∧(n+ys.length)*eb<=140737488355328∧n+ys.length<=9223372036854775807∧k<2000000∧d<C.N∧d<2000000∧
  ∀r',cU C.P hn C.N ops Q post (St.put ⟨λm=>aq [k] (st.t m),rekey st.h [k] k (.box (A++ys.map .pv++List.replicate r' (.pv (.val z))) true false)⟩ (some d) (.ext (.barr k (n+ys.length) (n+ys.length+r'))) [])
theorem WP.appB{t:TypeId}{s:Operand}(hops:ops.toList=pre++o::post)(hop:o.op=.call {callee:=.builtin .append,args:=#[s,x],argTypes:=#[t,t]})(hd:o.dst=some d)(hg:o.guard=none)
 (hq:cU C.P hn C.N ops (Gw C hn ops (Q .normal) t s x d post) pre st):WP C (.region id ops false) Q st:=by
 intro a w hs;refine wp_region_list ?_;rw[hops];refine gt (λst1 a1 w1 hs1 hq1=>?_) hs hq;obtain⟨k,n,r,A,z,et,eb,ti,ys,hse,hk,hA,hdead,hys,hok,hone0,hy0,hti,hkd,hzc,hbytes,h63,hk2,hdN,hd2,hrest⟩:=hq1;obtain⟨L,hm,hN,hdf,ht⟩:=hs1;refine wpList_step (λK hK=>?_);rw[jl hg,if_pos rfl];obtain⟨hund,jt,hj,hjs,rfl,hjz⟩:=di hti hkd;have hsr:=cD ht s;rw[hse]at hsr
 have hsv:∀u,RepA w1 (ag C L st1.h) L st1.h (.ext (.barr k n (n+r))) u->u=.slice (some ⟨(L k).b,0,none⟩) n (n+r):=by
  intro u hu
  cases hu with
  |ext hx=>cases hx with
   |barr _ _=>rfl
 have hsv:=hsv _ hsr;obtain⟨Ad,c,hxv,hA0,hAd⟩:=mV hm (λ_ _ h=>h) (cD ht x) hys hok;obtain⟨b,o9,rfl,news,n1,n2,n3,n4⟩:=hAd hy0;rw[Nat.mul_one]at n1
 have hcell:∀j u,news[j]?=some u->w1.cell? ((⟨b,o9,none⟩:Addr).add j)=some u:=λj u hu=>by rw[dR];exact n2 j u hu
 obtain⟨arr,ty,ha,hl,hr⟩:=hm.bl k _ hk;have hsz9:arr.toList.length=arr.size:=Array.length_toList
 have hlen:arr.size=n+r:=by
  rw[<-Array.length_toList,<-hl];simp[hA]
 have hone:∀(i:Nat) y,ys[i]?=some y->y.cells=[y]:=λi y hy=>hone0 y (List.mem_of_getElem? hy)
 have hnew:∀(i:Nat) y,ys[i]?=some y->∃v,news[i]?=some v∧Rep w1 (ag C L st1.h) y v:=by
  intro i y hy;obtain⟨v,h1,h2⟩:=n4 i y 0 y hy (by rw[hone i y hy];rfl);rw[Nat.mul_one,Nat.add_zero]at h1;exact⟨v,h1,h2⟩
 have body:∀{w':World}{M':Nat->Nat->Prop}{L':Nat->Loc}{h':Hp}{rest:List Value}{r':Nat},Pres w1 (ag C L st1.h) w' M'->(∀(i:Nat) y u,A[i]?=some y->RepA w1 (ag C L st1.h) L st1.h y u->RepA w' M' L' h' y u)->
  rest=List.replicate r' z->aB w' M' L' h' (A++ys.map .pv++List.replicate r' (.pv (.val z))) (arr.toList.take n++news++rest):=by
  intro w' M' L' h' rest r' hp hAA hrest;subst hrest;refine aB.append (aB.append ⟨?_,?_⟩ ⟨by simp[n1],?_⟩) ⟨by simp,?_⟩
  .simp[hA];omega
  .intro i p u hp' hu
   have hi:i<n:=by rw[<-hA];exact(List.getElem?_eq_some_iff.1 hp').1
   rw[List.getElem?_take,if_pos hi]at hu;exact hAA i p u hp' (hr i p u (by rw[List.getElem?_append_left (by omega)];exact hp') hu)
  .intro i p u hp' hu
   simp only[List.getElem?_map,Option.map_eq_some_iff]at hp';obtain⟨y,hy,rfl⟩:=hp';obtain⟨v,h1,h2⟩:=hnew i y hy;rw[h1]at hu;injection hu with hu;subst hu;exact .pv (h2.mono hp)
  .intro i p u hp' hu
   have hi:i<r':=by simpa using(List.getElem?_eq_some_iff.1 hp').1
   rw[List.getElem?_replicate,if_pos hi]at hp' hu;injection hp' with hp';injection hu with hu;subst hp';subst hu;exact .pv (.val _)
 have hex:∀{v:Value}{w':World},(Builtin.append_ #[t,t] o.type #[a1.eval s,a1.eval x]).run C.P w1=.ok v w'->(execOp a1.eval o).run C.P w1=.ok (.value v) w':=by
  intro v w' h9;obtain⟨dst,op,ty9,pos,after,guard⟩:=o;simp only at hop h9;subst hop;have hx9:execOp a1.eval ⟨dst,.call ⟨.builtin .append,#[s,x],#[t,t]⟩,ty9,pos,after,guard⟩=builtin .append #[t,t] ty9 ((#[s,x]:Array Operand).map λ|.const _=>true|_=>false) ((#[s,x]:Array Operand).map a1.eval):=rfl;rw[hx9];simp[builtin,h9]
 have key:∃r' L' w',(execOp a1.eval o).run C.P w1=.ok (.value (.slice (some ⟨(L' k).b,0,none⟩) (n+ys.length) (n+ys.length+r'))) w'∧
  MemL C L' (rekey st1.h [k] k (.box (A++ys.map .pv++List.replicate r' (.pv (.val z))) true false)) w'∧
  (∀{y:AV}{u:Value},RepA w1 (ag C L st1.h) L st1.h y u->RepA w' (ag C L' (rekey st1.h [k] k (.box (A++ys.map .pv++List.replicate r' (.pv (.val z))) true false))) L' (rekey st1.h [k] k (.box (A++ys.map .pv++List.replicate r' (.pv (.val z))) true false)) (aq [k] y) u):=by
  by_cases hroom:n+ys.length<=n+r
  .have hrun:=wt (P:=C.P) w1 t o.type et ty jt hund hj (L k).b n (n+r) arr ha ⟨b,o9,none⟩ ys.length c news (by rw[n1,hjs,Nat.mul_one]) hcell n3 hroom (by rw[hjs,hlen];omega)
   obtain⟨r',hr'⟩:∃r',n+r=n+ys.length+r':=⟨r-ys.length,by omega⟩;rw[hjs,Nat.mul_one,n1]at hrun
   have hdrop:arr.toList.drop (n+ys.length)=List.replicate r' z:=by
    apply List.ext_getElem?;intro i;rw[List.getElem?_drop,List.getElem?_replicate];by_cases hi:i<r'
    .rw[if_pos hi]
     have hlt:n+ys.length+i<arr.toList.length:=by omega
     have hg:arr.toList[n+ys.length+i]?=some arr.toList[n+ys.length+i]:=List.getElem?_eq_getElem hlt
     have hc:(A++List.replicate r (AV.pv (PV.val z)))[n+ys.length+i]?=some (.pv (.val z)):=by
      rw[List.getElem?_append_right (by omega),List.getElem?_replicate,if_pos (by omega)]
     have:=hr _ _ _ hc hg
     cases this with
     |pv h9=>rw[hg,aJ h9]
    .rw[if_neg hi]
     exact List.getElem?_eq_none (by omega)
   rw[hdrop]at hrun
   have hw:∀b',b'<w1.heap.size->((Blk.box (A++List.replicate r (.pv (.val z))) true false).live (L k)->b'≠(L k).b)->(w1.setRow (L k).b (arr.toList.take n++news++List.replicate r' z).toArray).heap[b']?=w1.heap[b']?:=
    λb' _ hb=>setRow_other w1 _ b' _ (hb trivial)
   have hpr:∀o v,(Blk.box (A++List.replicate r (.pv (.val z))) true false).live (L k)->(Blk.box (A++List.replicate r (.pv (.val z))) true false).frz o->w1.cell? ⟨(L k).b,o,none⟩=some v->
    (w1.setRow (L k).b (arr.toList.take n++news++List.replicate r' z).toArray).cell? ⟨(L k).b,o,none⟩=some v:=by
    intro q v _ hf _;simp[Blk.frz]at hf
   have hcp:dg (.box (A++List.replicate r (.pv (.val z))) true false) (L k) (.box (A++ys.map .pv++List.replicate r' (.pv (.val z))) true false) (L k):=rfl;have hpk:=hm.touch_pk (blk':=.box (A++ys.map .pv++List.replicate r' (.pv (.val z))) true false) hk hw hpr (λo hf=>hf) hcp Iff.rfl
   obtain⟨hm1,hp1,hc1⟩:=hm.touch (blk':=.box (A++ys.map .pv++List.replicate r' (.pv (.val z))) true false) hk hw (by simp) rfl rfl rfl hpr (λo hf=>hf) hcp Iff.rfl (by have h9:=hm.own k _ hk;exact h9) (by
    refine⟨_,ty,setRow_heap w1 _ arr _ ty _ ha,?_⟩;rw[List.toList_toArray]
    exact body hpk.1 (λi y u _ h9=>h9.mono hpk.1 hpk.2) rfl)
   obtain⟨hm2,hc2,hp2⟩:=hm1.loosen [k] (λq=>q !=k)
   have he:(λq=>if(q !=k)=true then(ah st1.h k (some (Blk.box (A++ys.map .pv++List.replicate r' (.pv (.val z))) true false)) q).map (bm [k])else ah st1.h k (some (Blk.box (A++ys.map .pv++List.replicate r' (.pv (.val z))) true false)) q)=rekey st1.h [k] k (.box (A++ys.map .pv++List.replicate r' (.pv (.val z))) true false):=by
    funext q
    by_cases e:q=k
    .subst e;simp[rekey,ah]
    .simp[rekey,ah,e]
   rw[he]at hm2 hc2 hp2;refine⟨r',L,_,hex (by rw[hsv,hxv,hr'];rw[hr']at hrun;exact hrun),hm2,λ{y u} h9=>?_⟩;have h8:=(h9.mono hp1 hc1).mono hp2 hc2;unfold aq;split
   .exact .undef _
   .exact h8
  .have hrun:=run_append_grow (P:=C.P) w1 t o.type et jt z hund hj hjz ⟨(L k).b,0,none⟩ n (n+r) (arr.toList.take n) (by rw[hjs,Nat.mul_one,List.length_take,Array.length_toList];omega)
    (λq u hu=>by
      rw[dR,dI ha,Nat.zero_add];rw[List.getElem?_take]at hu;split at hu
      .simpa using hu
      .cases hu)
    ⟨b,o9,none⟩ ys.length c news (by rw[n1,hjs,Nat.mul_one]) hcell (by omega) (by omega) (growslice_fits (by omega) hbytes)
   have hge:=grownCap_ge w1 (n+ys.length) (n+r) et;obtain⟨r',hr'⟩:∃r',grownCap w1 (n+ys.length) (n+r) et=n+ys.length+r':=⟨grownCap w1 (n+ys.length) (n+r) et-(n+ys.length),by omega⟩
   have hzz:(Builtin.zeroCells z.cells r').toList=List.replicate r' z:=by
    rw[hzc];simp[Builtin.zeroCells,Nat.mod_one,List.map_const']
   rw[hr',Nat.add_sub_cancel_left]at hrun;have hx':Ext (λ_=>False) w1 (w1.drew.alloc (.cells ((arr.toList.take n).toArray++news.toArray++Builtin.zeroCells z.cells r') et)):=(Ext.drew _ w1).trans (Ext.alloc _ _ _) (λ_ _ h=>h);obtain⟨hm0,hsub0⟩:=MemL.kill (st:=st1) [k] hm
   have hnk:(st1.kill [k]).h k=none:=by simp[St.kill]
   have hkc0:KC L (st1.kill [k]).h (ah L k ⟨w1.heap.size,0,false⟩) (ah (st1.kill [k]).h k (some (.box (A++ys.map .pv++List.replicate r' (.pv (.val z))) true false))):=KC.new hnk;have hpn:=(Pres.sub (w:=w1) hsub0).trans (mE (q:=True) (M:=ag C L (st1.kill [k]).h) hx' (λ_=>Nat.le_refl _))
   obtain⟨hm1,hp1,hc1⟩:=hm0.newKey (d:=k) hnk hk2 (l:=⟨w1.heap.size,0,false⟩) (blk:=.box (A++ys.map .pv++List.replicate r' (.pv (.val z))) true false) hx' (λ_=>Nat.le_refl _) (by intro cs' fz' e;injection e with _ e2;cases e2) (by
    refine⟨_,et,gU _ _,?_⟩;rw[Array.toList_append,Array.toList_append,hzz];refine body hpn (λi y u hy h9=>?_) rfl;have h8:=nW (ks:=[k]) hpn h9;rw[show aq [k] y=y by unfold aq;rw[if_neg (by rw[hdead y (List.mem_of_getElem? hy)];decide)]]at h8
    exact h8.mono (Pres.refl _ _) hkc0)
   have he:ah (st1.kill [k]).h k (some (Blk.box (A++ys.map .pv++List.replicate r' (.pv (.val z))) true false))=rekey st1.h [k] k (.box (A++ys.map .pv++List.replicate r' (.pv (.val z))) true false):=by
    funext q
    by_cases e:q=k
    .subst e;simp[rekey,ah]
    .simp[rekey,ah,e,St.kill]
   rw[he]at hm1 hp1 hc1;refine⟨r',ah L k ⟨w1.heap.size,0,false⟩,_,hex (by rw[hsv,hxv,aF];exact hrun),hm1,λ{y u} h9=>?_⟩;have h8:RepA w1 (ag C L (st1.kill [k]).h) L (st1.kill [k]).h (aq [k] y) u:=nW (Pres.sub hsub0) h9;exact h8.mono hp1 hc1
 obtain⟨r',L',w',hrun,hm',ht'⟩:=key;unfold Oper.wp;rw[hrun];refine hK _ _ ?_;refine gF (λst' a' w' hs' hq'=>⟨st',hs',hq'⟩) (st:=St.put ⟨λm=>aq [k] (st1.t m),rekey st1.h [k] k (.box (A++ys.map .pv++List.replicate r' (.pv (.val z))) true false)⟩ (some d) (.ext (.barr k (n+ys.length) (n+ys.length+r'))) []) ?_ (hrest r');rw[hd];exact eO.put (st:=⟨λm=>aq [k] (st1.t m),rekey st1.h [k] k (.box (A++ys.map .pv++List.replicate r' (.pv (.val z))) true false)⟩) hm' hN hdf (λm=>ht' (ht m)) (d:=some d) (by simp[bX,hdN,hd2]) (W:=[]) (aG.refl hm') (.ext (.barr (Nat.le_add_right _ _) (CV _ _ _ _)))
end
theorem WP.toSuf{c:Code}(s:Nat){xs:List PV}(hk:st.h k=some (.row e sz xs fz))(ht:st.t s=.arr k xs.length)
 (h:WP C c Q ⟨ah st.t s (.ext (.suf k 0 xs.length xs.length)),st.h⟩):WP C c Q st:=by
 intro a w hs;obtain⟨L,hm,hN,hdf,htm⟩:=hs;refine h a w ⟨L,hm,hN,hdf,λn=>?_⟩;show RepA w (ag C L st.h) L st.h (ah st.t s (.ext (.suf k 0 xs.length xs.length)) n) _;unfold ah;split
 .rename_i e1
  subst e1;have hr:=htm n;rw[ht]at hr
  cases hr with
  |arr hk2 hn2 hu=>
   rw[hk]at hk2;injection hk2 with hk2;injection hk2 with a1 a2 a3 a4;subst a3
   have hsl:∃A m c,(L k).slice xs.length=.slice A m c:=by
    unfold Loc.slice;split
    .exact⟨_,_,_,rfl⟩
    .exact⟨_,_,_,rfl⟩
   have hu9:=hu rfl;refine .ext (.suf (by rw[hu9];exact hsl) hk (by omega) (Nat.le_refl _) (λ_=>?_));rw[hu9];unfold Loc.slice;rcases lk hm hk with⟨g1,g2⟩|⟨g1,_⟩
   .rw[g1]
    exact⟨none,0,by simp[g2],.inr ⟨by simp[g2],rfl,λ_=>⟨rfl,rfl⟩⟩⟩
   .rw[g1]
    exact⟨_,_,rfl,.inl ⟨rfl,by simp,by omega⟩⟩
 .exact htm n
section
variable {C:Cx} {Q:Exit->St->Prop} {st:St}
def HX(C:Cx)(hn:List Nat)(ops:Array Oper)(Q:St->Prop)(t:TypeId)(x y:Operand)(d:Nat)(post:List Oper)(st:St):Prop:=
 ∃k e sz n m o kk fz xs ti e' b z,st.ev x=.ext (.suf k o n (o+n))∧st.ev y=.pv (.val (.int kk (m:Nat)))∧st.h k=some (.row e sz xs fz)∧xs.length=o+n∧m<=n∧ak C.P t=some ti∧ti.kind=.slice e' sz b z∧d<C.N∧d<2000000∧
  cU C.P hn C.N ops Q post (st.put (some d) (.ext (.suf k (o+m) (n-m) (o+n))) [])
theorem WP.suf{hn:List Nat}{id:Nat}{ops:Array Oper}{pre post:List Oper}{o:Oper}{t:TypeId}{x y:Operand}{d:Nat}(hops:ops.toList=pre++o::post)(hop:o.op=.slice t x (some y) none none)(hd:o.dst=some d)(hg:o.guard=none)
 (hq:cU C.P hn C.N ops (HX C hn ops (Q .normal) t x y d post) pre st):WP C (.region id ops false) Q st:=by
 intro a w hs;refine wp_region_list ?_;rw[hops];refine gt (λst1 a1 w1 hs1 hq1=>?_) hs hq;obtain⟨k,e,sz,n,m,q,kk,fz,xs,ti,e',b',z',hxe,hye,hk,hlen,hmn,hti,hkd,hdN,hd2,hrest⟩:=hq1;obtain⟨L,hm,hN,hdf,ht⟩:=hs1;refine wpList_step (λK hK=>?_);rw[jl hg,if_pos rfl];have hxr:=cD ht x;rw[hxe]at hxr
 have hxv:∀u,RepA w1 (ag C L st1.h) L st1.h (.ext (.suf k q n (q+n))) u->∃A c,u=.slice A n c∧(((L k).isNil=false∧A=some ⟨(L k).b,q*sz,none⟩∧c+q=(L k).cap)∨(n=0∧c=0∧(q=0->(L k).isNil=true∧A=none))):=by
  intro u hu
  cases hu with
  |ext hx=>cases hx with
   |suf _ hk2 hn2 ht2 hu=>
    rw[hk]at hk2;injection hk2 with hk2;injection hk2 with _ a2 a3 _;subst a2;subst a3;exact hu hlen
 obtain⟨A,c,hxs,hAc⟩:=hxv _ hxr;have hyr:=cD ht y;rw[hye]at hyr
 have hyv:a1.eval y=.int kk (m:Nat):=by
  cases hyr with
  |pv hr=>exact aJ hr
 obtain⟨hund,jt,hj,hjs,_,_⟩:=di hti hkd
 have hcap:n<=c:=by
  rcases hAc with⟨g1,g2,g3⟩|⟨g1,g2,_⟩
  .rcases lk hm hk with⟨h9,_⟩|⟨_,h10,_⟩
   .rw[g1]at h9;cases h9
   .omega
  .omega
 have hrun:∃A2 c2,(execOp a1.eval o).run C.P w1=.ok (.value (.slice A2 (n-m) c2)) w1∧(((L k).isNil=false∧A2=some ⟨(L k).b,(q+m)*sz,none⟩∧c2+(q+m)=(L k).cap)∨(n-m=0∧c2=0∧(q+m=0->(L k).isNil=true∧A2=none))):=by
  have hb1:(0:Int)<=(m:Int)∧(m:Int)<=(n:Int):=by omega
  have key:(Instr.sliceBounds true n c (some (.int kk (m:Nat))) none none).run C.P w1=.ok (m,n,c) w1:=by
   simp[Instr.sliceBounds,Instr.sliceBound,asIntOf,hb1,hcap]
   try (intro h9;omega)
  have h2:(Instr.sliceAt t (a1.eval x) (some (a1.eval y)) none none).run C.P w1=.ok (.slice (if c=m then A else A.map λp=>p.add (m*sz)) (n-m) (c-m)) w1:=by
   rw[hxs,hyv];simp only[Instr.sliceAt,Sem.run_bind,cy hund,Result.andThen_ok,Instr.slice,key,fm hj,Sem.run_pure,hjs]
  refine⟨if c=m then A else A.map λp=>p.add (m*sz),c-m,by unfold execOp;rw[hop];simp[h2],?_⟩;rcases hAc with⟨g1,rfl,g3⟩|⟨g1,g2,g3⟩
  .by_cases e9:c=m
   .by_cases e8:m=0
    .left
     rw[if_pos e9];subst e8;exact⟨g1,by simp,by omega⟩
    .right
     exact⟨by omega,by omega,λh9=>by omega⟩
   .left
    rw[if_neg e9];refine⟨g1,?_,by omega⟩;simp only[Option.map_some,dR,Nat.add_mul]
  .right
   have hm0:m=0:=by omega
   subst hm0;rw[if_pos g2];exact⟨by omega,by omega,λh9=>g3 (by omega)⟩
 obtain⟨A2,c2,hrun,hA2⟩:=hrun;unfold Oper.wp;rw[hrun];refine hK _ _ ?_;refine gF (λst' a' w' hs' hq'=>⟨st',hs',hq'⟩) (st:=st1.put (some d) (.ext (.suf k (q+m) (n-m) (q+n))) []) ?_ hrest;rw[hd];refine eO.put hm hN hdf ht (d:=some d) (by simp[bX,hdN,hd2]) (W:=[]) (aG.refl hm) (.ext (.suf (xs:=xs) ⟨_,_,_,rfl⟩ hk (by omega) (by omega) (λ_=>⟨A2,c2,rfl,hA2⟩)))
theorem wu(w:World)(t ty e ty9:TypeId)(i:TypeInfo)(ht:P.underlying t=some (.slice e))(hi:P.info? e=some i)(g off n cap:Nat)(cur:Array Value)(hg:w.heap[g]?=some (.cells cur ty9 (0,0)))
 (a:Addr)(m c:Nat)(news:List Value)(hl:news.length=m*i.size)(hnews:∀j u,news[j]?=some u->w.cell? (a.add j)=some u)(h1:∀u∈news,u.oneCell'=true)(hroom:n+m<=cap)(hfit:off+n*i.size+news.length<=cur.size):
 (Builtin.append_ #[t,t] ty #[.slice (some ⟨g,off,none⟩) n cap,.slice (some a) m c]).run P w=.ok (.slice (some ⟨g,off,none⟩) (n+m) cap) (w.setRow g (cur.toList.take (off+n*i.size)++news++cur.toList.drop (off+n*i.size+news.length)).toArray):=by
 have q1:=run_firstCells_some (P:=P) w i.size m a m c news hl hnews;have q2:=run_storeCells_at P g (off+n*i.size) ty9 news 0 cur w hg (by simpa using hfit) h1;rw[Nat.add_zero]at q2;simp[Builtin.append_,run_underlying ht,sizeOf,typeInfo,hi,Builtin.lenOf,hroom,q1,Addr.add_lit,q2]
def Gx(C:Cx)(hn:List Nat)(ops:Array Oper)(Q:St->Prop)(t:TypeId)(s x:Operand)(d:Nat)(post:List Oper)(st:St):Prop:=
 ∃k o n et sz xs ys ti eb z,st.ev s=.ext (.suf k o n (o+n))∧st.h k=some (.row et sz xs 0)∧xs.length=o+n∧eU st.h (st.ev x)=some ys∧ys.all (lI sz)=true∧0<ys.length∧ak C.P t=some ti∧ti.kind=.slice et sz eb (some z)∧0<sz∧z.cells.size=sz∧
  (n+ys.length)*eb<=140737488355328∧n+ys.length<=9223372036854775807∧k<2000000∧d<C.N∧d<2000000∧
  ∀o' xs',xs'.length=o'+(n+ys.length)->xs'.drop o'=xs.drop o++ys->cU C.P hn C.N ops Q post (St.put ⟨λm=>aq [k] (st.t m),rekey st.h [k] k (.row et sz xs' 0)⟩ (some d) (.ext (.suf k o' (n+ys.length) (o'+(n+ys.length)))) [])
theorem WP.appS{t:TypeId}{s:Operand}(hops:ops.toList=pre++o::post)(hop:o.op=.call {callee:=.builtin .append,args:=#[s,x],argTypes:=#[t,t]})(hd:o.dst=some d)(hg:o.guard=none)
 (hq:cU C.P hn C.N ops (Gx C hn ops (Q .normal) t s x d post) pre st):WP C (.region id ops false) Q st:=by
 intro a w hs;refine wp_region_list ?_;rw[hops];refine gt (λst1 a1 w1 hs1 hq1=>?_) hs hq;obtain⟨k,q,n,et,sz,xs,ys,ti,eb,z,hse,hk,hlen,hys,hok,hy0,hti,hkd,hsz,hzs,hbytes,h63,hk2,hdN,hd2,hrest⟩:=hq1;obtain⟨L,hm,hN,hdf,ht⟩:=hs1;refine wpList_step (λK hK=>?_);rw[jl hg,if_pos rfl];obtain⟨hund,jt,hj,rfl,rfl,hjz⟩:=di hti hkd
 have hyl:∀y∈ys,y.cells.length=jt.size:=by
  intro y hy;have:=List.all_eq_true.1 hok y hy;simp[lI]at this;exact this.1
 have hsr:=cD ht s;rw[hse]at hsr
 have hsv:∀u,RepA w1 (ag C L st1.h) L st1.h (.ext (.suf k q n (q+n))) u->∃A c,u=.slice A n c∧(((L k).isNil=false∧A=some ⟨(L k).b,q*jt.size,none⟩∧c+q=(L k).cap)∨(n=0∧c=0∧(q=0->(L k).isNil=true∧A=none))):=by
  intro u hu
  cases hu with
  |ext hx=>cases hx with
   |suf _ hk9 hn2 ht2 hu=>
    rw[hk]at hk9;injection hk9 with hk9;injection hk9 with _ a2 a3 _;subst a3;rw[a2];exact hu hlen
 obtain⟨B,cap,hsx,hBc⟩:=hsv _ hsr;obtain⟨Ad,c,hxv,hA0,hAd⟩:=mV hm (λ_ _ h=>h) (cD ht x) hys hok;obtain⟨b,o9,rfl,news,n1,n2,n3,n4⟩:=hAd hy0
 have hcell:∀j u,news[j]?=some u->w1.cell? ((⟨b,o9,none⟩:Addr).add j)=some u:=λj u hu=>by rw[dR];exact n2 j u hu
 have hex:∀{v:Value}{w':World},(Builtin.append_ #[t,t] o.type #[a1.eval s,a1.eval x]).run C.P w1=.ok v w'->(execOp a1.eval o).run C.P w1=.ok (.value v) w':=by
  intro v w' h9;obtain⟨dst,op,ty9,pos,after,guard⟩:=o;simp only at hop h9;subst hop;have hx9:execOp a1.eval ⟨dst,.call ⟨.builtin .append,#[s,x],#[t,t]⟩,ty9,pos,after,guard⟩=builtin .append #[t,t] ty9 ((#[s,x]:Array Operand).map λ|.const _=>true|_=>false) ((#[s,x]:Array Operand).map a1.eval):=rfl;rw[hx9];simp[builtin,h9]
 obtain⟨g1,g2,g3,g4,g5⟩:=hm.bl k _ hk
 have key:∃q' xs' L' w' v,xs'.length=q'+(n+ys.length)∧xs'.drop q'=xs.drop q++ys∧(execOp a1.eval o).run C.P w1=.ok (.value v) w'∧
  MemL C L' (rekey st1.h [k] k (.row et jt.size xs' 0)) w'∧RepA w' (ag C L' (rekey st1.h [k] k (.row et jt.size xs' 0))) L' (rekey st1.h [k] k (.row et jt.size xs' 0)) (.ext (.suf k q' (n+ys.length) (q'+(n+ys.length)))) v∧
  (∀{y:AV}{u:Value},RepA w1 (ag C L st1.h) L st1.h y u->RepA w' (ag C L' (rekey st1.h [k] k (.row et jt.size xs' 0))) L' (rekey st1.h [k] k (.row et jt.size xs' 0)) (aq [k] y) u):=by
  have grow:∀(olds:List Value),olds.length=n*jt.size->(∀(i:Nat) y(j:Nat) p,(xs.drop q)[i]?=some y->y.cells[j]?=some p->∃u,olds[i*jt.size+j]?=some u∧Rep w1 (ag C L st1.h) p u)->
   (Builtin.append_ #[t,t] o.type #[a1.eval s,a1.eval x]).run C.P w1=.ok (.slice (some ⟨w1.heap.size,0,none⟩) (n+ys.length) (grownCap w1 (n+ys.length) cap et)) (w1.drew.alloc (.cells (olds.toArray++news.toArray++Builtin.zeroCells z.cells (grownCap w1 (n+ys.length) cap et-(n+ys.length))) et))->
   ∃q' xs' L' w' v,xs'.length=q'+(n+ys.length)∧xs'.drop q'=xs.drop q++ys∧(execOp a1.eval o).run C.P w1=.ok (.value v) w'∧
    MemL C L' (rekey st1.h [k] k (.row et jt.size xs' 0)) w'∧RepA w' (ag C L' (rekey st1.h [k] k (.row et jt.size xs' 0))) L' (rekey st1.h [k] k (.row et jt.size xs' 0)) (.ext (.suf k q' (n+ys.length) (q'+(n+ys.length)))) v∧
    (∀{y:AV}{u:Value},RepA w1 (ag C L st1.h) L st1.h y u->RepA w' (ag C L' (rekey st1.h [k] k (.row et jt.size xs' 0))) L' (rekey st1.h [k] k (.row et jt.size xs' 0)) (aq [k] y) u):=by
   intro olds holen hold hrun;have hge:=grownCap_ge w1 (n+ys.length) cap et;have hcap:=grownCap_le_maxLen w1 (n+ys.length) cap et (by simp only[maxLen];omega);have hx':Ext (λ_=>False) w1 (w1.drew.alloc (.cells (olds.toArray++news.toArray++Builtin.zeroCells z.cells (grownCap w1 (n+ys.length) cap et-(n+ys.length))) et)):=(Ext.drew _ w1).trans (Ext.alloc _ _ _) (λ_ _ h=>h);obtain⟨hm0,hsub0⟩:=MemL.kill (st:=st1) [k] hm
   have hnk:(st1.kill [k]).h k=none:=by simp[St.kill]
   have hpn:=(Pres.sub (w:=w1) hsub0).trans (mE (q:=True) (M:=ag C L (st1.kill [k]).h) hx' (λ_=>Nat.le_refl _))
   have hdl:(xs.drop q).length=n:=by rw[List.length_drop];omega
   have hcells:=vq (xs:=xs.drop q) (by rw[holen,hdl]) (λy hy=>g3 y (List.mem_of_mem_drop hy)) hyl hold n4
   obtain⟨hm1,hp1,hc1⟩:=hm0.newKey (d:=k) hnk hk2 (l:=⟨w1.heap.size,grownCap w1 (n+ys.length) cap et,false⟩) (blk:=.row et jt.size (xs.drop q++ys) 0) hx' (λ_=>Nat.le_refl _) (by intro cs' fz' e;cases e) (by
    refine⟨hsz,Nat.zero_le _,?_,(λh=>by cases h),λ_=>⟨by simp only[List.length_append,hdl];exact hge,hcap,_,gU _ _,?_,?_⟩⟩
    .intro y hy
     rcases List.mem_append.1 hy with h'|h'
     .exact g3 y (List.mem_of_mem_drop h')
     .exact hyl y h'
    .simp only[Array.size_append,List.size_toArray,holen,n1,size_zeroCells,hzs]
     rw[<-Nat.add_mul,<-Nat.add_mul];congr 1;omega
    .intro i y j p hxi hxj
     obtain⟨u,hu,hr,hlt⟩:=hcells i y j p hxi hxj;refine⟨u,?_,hr.mono (hpn.trans (Pres.sub (λb o h9=>Or.elim h9 Or.inl λh8=>Or.inr ⟨trivial,h8.2⟩)))⟩;have hul:=(List.getElem?_eq_some_iff.1 hu).1
     have hul2:i*jt.size+j<(olds.toArray++news.toArray).size:=by simp only[Array.size_append,List.size_toArray];simp only[List.length_append]at hul;exact hul
     rw[Array.getElem?_append_left hul2,<-Array.getElem?_toList,Array.toList_append]
     exact hu)
   have he:ah (st1.kill [k]).h k (some (Blk.row et jt.size (xs.drop q++ys) 0))=rekey st1.h [k] k (.row et jt.size (xs.drop q++ys) 0):=by
    funext m
    by_cases e:m=k
    .subst e;simp[rekey,ah]
    .simp[rekey,ah,e,St.kill]
   rw[he]at hm1 hp1 hc1;refine⟨0,xs.drop q++ys,_,_,_,by simp only[List.length_append,hdl];omega,by simp,hex hrun,hm1,?_,λ{y u} h9=>?_⟩
   .refine .ext (.suf (xs:=xs.drop q++ys) (e:=et) (sz:=jt.size) (fz:=0) ⟨_,_,_,rfl⟩ (by simp[rekey]) (by omega) (by simp only[List.length_append,hdl];omega) (λ_=>⟨_,_,rfl,.inl ?_⟩))
    rw[aF];exact⟨rfl,by simp,by simp⟩
   .have h8:RepA w1 (ag C L (st1.kill [k]).h) L (st1.kill [k]).h (aq [k] y) u:=nW (Pres.sub hsub0) h9
    exact h8.mono hp1 hc1
  rcases hBc with⟨e1,rfl,e3⟩|⟨rfl,rfl,_⟩
  .obtain⟨a1',a2,arr,a3,a4,a5⟩:=g5 e1
   have hsz9:arr.toList.length=arr.size:=Array.length_toList
   have hmulq:q*jt.size+n*jt.size=xs.length*jt.size:=by rw[hlen,Nat.add_mul]
   have hsize:xs.length*jt.size<=arr.size:=by rw[a4];exact Nat.mul_le_mul_right _ a1'
   by_cases hroom:n+ys.length<=cap
   .have hfit:q*jt.size+n*jt.size+news.length<=arr.size:=by
     rw[a4,n1,<-Nat.add_mul,<-Nat.add_mul];exact Nat.mul_le_mul_right _ (by omega)
    have hrun:=wu (P:=C.P) w1 t o.type et et jt hund hj (L k).b (q*jt.size) n cap arr a3 ⟨b,o9,none⟩ ys.length c news n1 hcell n3 hroom hfit;rw[hmulq]at hrun hfit
    have holen:(arr.toList.take (xs.length*jt.size)).length=xs.length*jt.size:=by rw[List.length_take];omega
    have hold:∀(i:Nat) y(j:Nat) p,xs[i]?=some y->y.cells[j]?=some p->∃u,(arr.toList.take (xs.length*jt.size))[i*jt.size+j]?=some u∧Rep w1 (ag C L st1.h) p u:=by
     intro i y j p hxi hxj;obtain⟨u,hu,hr⟩:=a5 i y j p hxi hxj;refine⟨u,?_,hr⟩
     have hjs:j<jt.size:=by rw[<-g3 y (List.mem_of_getElem? hxi)];exact(List.getElem?_eq_some_iff.1 hxj).1
     have hil:i<xs.length:=(List.getElem?_eq_some_iff.1 hxi).1;have:(i+1)*jt.size<=xs.length*jt.size:=Nat.mul_le_mul_right _ (by omega);rw[Nat.add_mul]at this;rw[List.getElem?_take,if_pos (by omega)];simpa using hu
    have hcells:=vq holen g3 hyl hold n4
    have hw:∀b',b'<w1.heap.size->((Blk.row et jt.size xs 0).live (L k)->b'≠(L k).b)->(w1.setRow (L k).b (arr.toList.take (xs.length*jt.size)++news++arr.toList.drop (xs.length*jt.size+news.length)).toArray).heap[b']?=w1.heap[b']?:=
     λb' _ hb=>setRow_other w1 _ b' _ (hb e1)
    have hpr:∀o v,(Blk.row et jt.size xs 0).live (L k)->(Blk.row et jt.size xs 0).frz o->w1.cell? ⟨(L k).b,o,none⟩=some v->
     (w1.setRow (L k).b (arr.toList.take (xs.length*jt.size)++news++arr.toList.drop (xs.length*jt.size+news.length)).toArray).cell? ⟨(L k).b,o,none⟩=some v:=by
     intro m v _ hf _;simp[Blk.frz]at hf
    have hcp:dg (.row et jt.size xs 0) (L k) (.row et jt.size (xs++ys) 0) (L k):=⟨rfl,rfl,by simp,λ_=>rfl⟩;have hpk:=hm.touch_pk (blk':=.row et jt.size (xs++ys) 0) hk hw hpr (λo hf=>hf) hcp Iff.rfl
    obtain⟨hm1,hp1,hc1⟩:=hm.touch (blk':=.row et jt.size (xs++ys) 0) hk hw (by simp) rfl rfl rfl hpr (λo hf=>hf) hcp Iff.rfl (by have h9:=hm.own k _ hk;exact h9) (by
     refine⟨g1,Nat.zero_le _,?_,(λhn=>by rw[e1]at hn;cases hn),λ_=>⟨by simp;omega,a2,_,setRow_heap w1 _ arr _ _ _ a3,?_,?_⟩⟩
     .intro y hy
      rcases List.mem_append.1 hy with h'|h'
      .exact g3 y h'
      .exact hyl y h'
     .simp only[List.size_toArray,List.length_append,List.length_take,List.length_drop];omega
     .intro i y j p hxi hxj
      obtain⟨u,hu,hr,hlt⟩:=hcells i y j p hxi hxj;refine⟨u,?_,hr.mono hpk.1⟩;rw[List.getElem?_toArray,List.getElem?_append_left (List.getElem?_eq_some_iff.1 hu).1]
      exact hu)
    obtain⟨hm2,hc2,hp2⟩:=hm1.loosen [k] (λm=>m !=k)
    have he:(λm=>if(m !=k)=true then(ah st1.h k (some (Blk.row et jt.size (xs++ys) 0)) m).map (bm [k])else ah st1.h k (some (Blk.row et jt.size (xs++ys) 0)) m)=rekey st1.h [k] k (.row et jt.size (xs++ys) 0):=by
     funext m
     by_cases e:m=k
     .subst e;simp[rekey,ah]
     .simp[rekey,ah,e]
    rw[he]at hm2 hc2 hp2;refine⟨q,xs++ys,L,_,_,by simp;omega,by rw[List.drop_append_of_le_length (by omega)],hex (by rw[hsx,hxv];exact hrun),hm2,?_,λ{y u} h9=>?_⟩
    .exact .ext (.suf (xs:=xs++ys) (e:=et) (sz:=jt.size) (fz:=0) ⟨_,_,_,rfl⟩ (by simp[rekey]) (by omega) (by simp;omega) (λ_=>⟨_,_,rfl,.inl ⟨e1,rfl,e3⟩⟩))
    .have h8:=(h9.mono hp1 hc1).mono hp2 hc2
     unfold aq;split
     .exact .undef _
     .exact h8
   .refine grow ((arr.toList.drop (q*jt.size)).take (n*jt.size)) (by rw[List.length_take,List.length_drop];omega) ?_ ?_
    .intro i y j p hxi hxj
     rw[List.getElem?_drop]at hxi;obtain⟨u,hu,hr⟩:=a5 (q+i) y j p hxi hxj;refine⟨u,?_,hr⟩
     have hjs:j<jt.size:=by rw[<-g3 y (List.mem_of_getElem? hxi)];exact(List.getElem?_eq_some_iff.1 hxj).1
     have hil:q+i<xs.length:=(List.getElem?_eq_some_iff.1 hxi).1;have:(i+1)*jt.size<=n*jt.size:=Nat.mul_le_mul_right _ (by omega);rw[Nat.add_mul]at this;rw[List.getElem?_take,if_pos (by omega),List.getElem?_drop,<-Nat.add_assoc,<-Nat.add_mul];simpa using hu
    .rw[hsx,hxv]
     exact run_append_grow (P:=C.P) w1 t o.type et jt z hund hj hjz ⟨(L k).b,q*jt.size,none⟩ n cap _ (by rw[List.length_take,List.length_drop];omega)
      (λm u hu=>by
        rw[dR,dI a3];rw[List.getElem?_take]at hu;split at hu
        .rw[List.getElem?_drop]at hu;simpa using hu
        .cases hu)
      ⟨b,o9,none⟩ ys.length c news n1 hcell (by omega) (by omega) (growslice_fits (by omega) hbytes)
  .have hd0:xs.drop q=[]:=List.eq_nil_of_length_eq_zero (by rw[List.length_drop];omega)
   refine grow [] (by simp) (λi y j p hxi _=>by rw[hd0]at hxi;simp at hxi) ?_;rw[hsx,hxv]
   cases B with
   |none=>
    have:=run_append_nil (P:=C.P) w1 t o.type et jt z hund hj hjz ⟨b,o9,none⟩ ys.length c news n1 hcell (by omega) (by omega) (by rw[Nat.zero_add]at hbytes;omega);rw[Nat.zero_add];simpa using this
   |some B=>
    exact run_append_grow (P:=C.P) w1 t o.type et jt z hund hj hjz B 0 0 [] (by simp) (λm u hu=>by simp at hu) ⟨b,o9,none⟩ ys.length c news n1 hcell (by omega) (by omega) (growslice_fits (by omega) hbytes)
 obtain⟨q',xs',L',w',v,hx1,hx2,hrun,hm',hv,ht'⟩:=key;unfold Oper.wp;rw[hrun];refine hK _ _ ?_;refine gF (λst' a' w' hs' hq'=>⟨st',hs',hq'⟩) (st:=St.put ⟨λm=>aq [k] (st1.t m),rekey st1.h [k] k (.row et jt.size xs' 0)⟩ (some d) (.ext (.suf k q' (n+ys.length) (q'+(n+ys.length)))) []) ?_ (hrest q' xs' hx1 hx2);rw[hd];exact eO.put (st:=⟨λm=>aq [k] (st1.t m),rekey st1.h [k] k (.row et jt.size xs' 0)⟩) hm' hN hdf (λm=>ht' (ht m)) (d:=some d) (by simp[bX,hdN,hd2]) (W:=[]) (aG.refl hm') hv
end
theorem B8{f:FuncId}{c:Code}(hf:P.funcs[f]?=some fn){args:List AV}{h0:Hp}(hlook:LookH h0)(h:∀C:Cx,C.P=P->C.N=fn.ntmps->WP C c (CT P fn.results.toList h0 Post) (pO args h0))
 (hb:fn.body=some c:=by rfl)(hcall:bZ P f=true:=by kernel_rfl)(hlen:args.length<=fn.ntmps:=by exact of_decide_eq_true (by kernel_rfl)):kC P f args h0 Post:=G8 hf hb hcall hlen hlook h
theorem qL{h0 H:Hp}{r:AV}(h1:kK P st rs=some r)(ho:nR r=true)(hH:∀k,inK k=true->st.h k=H k)(hL:LookH H)(hp:Post r H)
 (hpin:∀k cs f,h0 k=some (.box cs false f)->∃cs',H k=some (.box cs' false false)):vh P rs h0 Post st:=by
 have e:nG st.h=H:=by
  funext k
  unfold nG;split
  .rename_i hi;exact hH k hi
  .rename_i hi
   cases hk:H k with
   |none=>rfl
   |some b=>exact absurd (hL.keys k b hk) hi
 refine⟨r,h1,ho,by rw[e];exact hL,by rw[e];exact hp,λk cs f hk=>?_⟩;obtain⟨cs',h2⟩:=hpin k cs f hk;exact⟨cs',by rw[hH k (hL.keys k _ h2)];exact h2⟩
def iX:Hp:=λ_=>none
theorem vi:LookH iX:=⟨λk b h=>(by cases h),λk b o h=>(by cases h),λk b h=>(by cases h),λk cs o f h=>(by cases h)⟩
theorem WP.takeAt(n:Nat)(ho:ops.toList[n]?=some o)(hop:o.op=.call {callee:=.value f,args:=xs.toArray,argTypes:=ats})(hg:o.guard=none)
 (hq:cU C.P hn C.N ops (nX C (cU C.P hn C.N ops (Q .normal) (ops.toList.drop (n+1))) f xs o.dst) (ops.toList.take n) st):WP C (.region id ops false) Q st:=by
 refine WP.take (pre:=ops.toList.take n) (post:=ops.toList.drop (n+1)) (o:=o) ?_ hop hg hq;have hlt:=(List.getElem?_eq_some_iff.1 ho).1;have he:=(List.getElem?_eq_some_iff.1 ho).2;rw[<-he,List.getElem_cons_drop,List.take_append_drop]
theorem WP.appBAt(n:Nat){t:TypeId}{s:Operand}(ho:ops.toList[n]?=some o)(hop:o.op=.call {callee:=.builtin .append,args:=#[s,x],argTypes:=#[t,t]})(hd:o.dst=some d)(hg:o.guard=none)
 (hq:cU C.P hn C.N ops (Gw C hn ops (Q .normal) t s x d (ops.toList.drop (n+1))) (ops.toList.take n) st):WP C (.region id ops false) Q st:=by
 refine WP.appB (pre:=ops.toList.take n) (post:=ops.toList.drop (n+1)) (o:=o) ?_ hop hd hg hq;have hlt:=(List.getElem?_eq_some_iff.1 ho).1;have he:=(List.getElem?_eq_some_iff.1 ho).2;rw[<-he,List.getElem_cons_drop,List.take_append_drop]
theorem WP.sufAt(n:Nat){t:TypeId}{y:Operand}(ho:ops.toList[n]?=some o)(hop:o.op=.slice t x (some y) none none)(hd:o.dst=some d)(hg:o.guard=none)
 (hq:cU C.P hn C.N ops (HX C hn ops (Q .normal) t x y d (ops.toList.drop (n+1))) (ops.toList.take n) st):WP C (.region id ops false) Q st:=by
 refine WP.suf (pre:=ops.toList.take n) (post:=ops.toList.drop (n+1)) (o:=o) ?_ hop hd hg hq;have hlt:=(List.getElem?_eq_some_iff.1 ho).1;have he:=(List.getElem?_eq_some_iff.1 ho).2;rw[<-he,List.getElem_cons_drop,List.take_append_drop]
theorem WP.appSAt(n:Nat){t:TypeId}{s:Operand}(ho:ops.toList[n]?=some o)(hop:o.op=.call {callee:=.builtin .append,args:=#[s,x],argTypes:=#[t,t]})(hd:o.dst=some d)(hg:o.guard=none)
 (hq:cU C.P hn C.N ops (Gx C hn ops (Q .normal) t s x d (ops.toList.drop (n+1))) (ops.toList.take n) st):WP C (.region id ops false) Q st:=by
 refine WP.appS (pre:=ops.toList.take n) (post:=ops.toList.drop (n+1)) (o:=o) ?_ hop hd hg hq;have hlt:=(List.getElem?_eq_some_iff.1 ho).1;have he:=(List.getElem?_eq_some_iff.1 ho).2;rw[<-he,List.getElem_cons_drop,List.take_append_drop]
def Ac(x:Nat):Nat:=match Nat.ble 300 x with
 |true=>300
 |false=>x
theorem sR(x:Nat):∀l:List Nat,l.contains x=true->(l.map Ac).contains (Ac x)=true
 |[],h=>h
 |a::l,h=>by
  rw[List.contains_cons,Bool.or_eq_true,beq_iff_eq]at h;rw[List.map_cons,List.contains_cons,Bool.or_eq_true,beq_iff_eq];rcases h with h|h
  .exact .inl (by rw[h])
  .exact .inr (sR x l h)
theorem Ae{a b:List Nat}(h:AD (a.map Ac) (b.map Ac)=true):AD a b=true:=by
 unfold AD at *;rw[List.all_eq_true]at *;intro x hx;have:=h (Ac x) (List.mem_map_of_mem hx);rw[Bool.not_eq_true']at *;rw[<-Bool.not_eq_true];intro h9;rw[sR x b h9]at this;cases this
def Fd(acc:lQ):lQ:=acc.map λx=>(x.1.map Ac,x.2.map Ac)
theorem D3{acc:lQ}(h:iw ts (Fd acc)=true):iw ts acc=true:=by
 unfold iw Fd at *;rw[List.length_map]at h;rw[List.all_eq_true]at *;intro j hj;have h1:=h j hj;rw[List.all_eq_true]at *;intro i hi;have h2:=h1 i hi;rw[List.getElem?_map,List.getElem?_map]at h2
 cases ha:acc[i]? with
 |none=>rfl
 |some a=>cases hb:acc[j]? with
  |none=>rfl
  |some b=>
   rw[ha,hb]at h2;simp only[Option.map_some,Bool.or_eq_true,Bool.and_eq_true]at h2|-;exact h2.imp (λh=>⟨Ae h.1,Ae h.2⟩) id
theorem Yc{acc:lQ}{b:Prop}(h:b)(k:iw ts (Fd acc)=true:=by kernel_rfl):iw ts acc=true∧b:=⟨D3 k,h⟩
theorem nY{x:AV}(h:i<cs.length):cs.take i++x::cs.drop (i+1)=cs.set i x:=by
 rw[List.set_eq_take_append_cons_drop,if_pos h]
open Go.Proofs
abbrev pd(l:List Nat):PV:=.sl (l.map λn:Nat=>Z (n:Int))
structure Spc where
 root:Bx
 cells:List Cel
 bx:List Bx
 near:List (List Nat)
 jn:List Int
 cc:Bool:=false
variable {s:Spc}
abbrev Oc(s:Spc):PV:=.agg [iv s.root,.sl (s.cells.map aW),.sl (s.bx.map iv),.sl (s.near.map pd),.sl (s.jn.map Z)]
abbrev hZ(s:Spc):PV:=.rptr (Oc s) 0
def ae(s:Spc)(v:Nat):List Nat:=(s.near[v]?).getD []
def bo(s:Spc)(i:Nat):Cel:=(s.cells[i]?).getD (aP bn)
def iB(s:Spc)(i:Nat):Int:=(s.jn[i]?).getD 0
def aZ(s:Spc)(f:Int->Int->Bool)(i:Nat):Bool:=decide ((bo s i).low=-1)&&f (bo s i).v.kind (iB s i)
def fE(s:Spc)(i:Nat):Bx:=(s.bx[i]?).getD []
def fZ(near:List (List Nat)):List AV:=(List.range near.length).map λv=>.arr (v+300) ((near[v]?).getD []).length
abbrev cL:AV:=.pv (.val (.slice none 0 0))
def jW(s:Spc):AV:=match s.cc with
 |true=>.pv (.sl (s.cells.map aW))
 |false=>.arr 291 s.cells.length
theorem p8(h:s.cc=false):jW s=.arr 291 s.cells.length:=by unfold jW;rw[h]
theorem JY(h:s.cc=true):jW s=.pv (.sl (s.cells.map aW)):=by unfold jW;rw[h]
theorem IM(s:Spc):nR (jW s)=true:=by unfold jW;split<;>rfl
theorem A5(h:ks.contains 291=false):aQ ks (jW s)=false:=by
 unfold jW;split
 .rfl
 .simpa[aQ,ax]using h
def aM(own:Bool)(s:Spc)(c:Nat):Hp:=λk=>
 if k=290 then some (.box [.pv (iv s.root),jW s,.arr 292 s.bx.length,.ext (.barr 293 s.near.length (s.near.length+c)),.arr 294 s.jn.length] own false)
 else if k=291 then(match s.cc with
  |true=>none
  |false=>some (.row 91 8 (s.cells.map aW) 0))
 else if k=292 then some (.row 22 1 (s.bx.map iv) 0)
 else if k=293 then some (.box (fZ s.near++List.replicate c cL) true false)
 else if k=294 then some (.row 3 1 (s.jn.map Z) 0)
 else if 300<=k∧k<300+s.near.length then some (.row 3 1 ((ae s (k-300)).map λn:Nat=>Z (n:Int)) 0)
 else none
theorem bL(near:List (List Nat)):(fZ near).length=near.length:=by simp[fZ]
theorem jX(h:v<near.length):(fZ near)[v]?=some (.arr (v+300) ((near[v]?).getD []).length):=by simp[fZ,h]
theorem lx(own:Bool)(s:Spc)(c:Nat):aM own s c 290=some (.box [.pv (iv s.root),jW s,.arr 292 s.bx.length,.ext (.barr 293 s.near.length (s.near.length+c)),.arr 294 s.jn.length] own false):=rfl
theorem oI(own:Bool)(s:Spc)(c:Nat)(h:s.cc=false):aM own s c 291=some (.row 91 8 (s.cells.map aW) 0):=by
 unfold aM;rw[if_neg (by omega),if_pos rfl,h]
theorem oJ(own:Bool)(s:Spc)(c:Nat):aM own s c 292=some (.row 22 1 (s.bx.map iv) 0):=rfl
theorem mL(own:Bool)(s:Spc)(c:Nat):aM own s c 293=some (.box (fZ s.near++List.replicate c cL) true false):=rfl
theorem rf(own:Bool)(s:Spc)(c:Nat):aM own s c 294=some (.row 3 1 (s.jn.map Z) 0):=rfl
theorem kp{own:Bool}(h:v<s.near.length):aM own s c (v+300)=some (.row 3 1 ((ae s v).map λn:Nat=>Z (n:Int)) 0):=by
 unfold aM;rw[if_neg (by omega),if_neg (by omega),if_neg (by omega),if_neg (by omega),if_neg (by omega),if_pos (by omega),Nat.add_sub_cancel]
theorem EJ{own:Bool}(h:295<=k):aM own s c k=none∨∃xs,aM own s c k=some (.row 3 1 xs 0):=by
 unfold aM;rw[if_neg (by omega),if_neg (by omega),if_neg (by omega),if_neg (by omega),if_neg (by omega)];split
 .exact .inr ⟨_,rfl⟩
 .exact .inl rfl
theorem lg{own:Bool}(h:s.near.length<=4096):LookH (aM own s c):=by
 have cases:∀{k b},aM own s c k=some b->(k=290∧b=.box [.pv (iv s.root),jW s,.arr 292 s.bx.length,.ext (.barr 293 s.near.length (s.near.length+c)),.arr 294 s.jn.length] own false)∨(k=293∧b=.box (fZ s.near++List.replicate c cL) true false)∨(290<=k∧k<1000000∧∃e sz xs,b=.row e sz xs 0):=by
  intro k b hk;unfold aM at hk;split at hk
  .rename_i e;injection hk with hk;exact .inl ⟨e,hk.symm⟩
  .split at hk
   .split at hk
    .cases hk
    .injection hk with hk;exact .inr (.inr ⟨by omega,by omega,_,_,_,hk.symm⟩)
   .split at hk
    .injection hk with hk;exact .inr (.inr ⟨by omega,by omega,_,_,_,hk.symm⟩)
    .split at hk
     .rename_i e;injection hk with hk;exact .inr (.inl ⟨e,hk.symm⟩)
     .split at hk
      .injection hk with hk;exact .inr (.inr ⟨by omega,by omega,_,_,_,hk.symm⟩)
      .split at hk
       .injection hk with hk;exact .inr (.inr ⟨by omega,by omega,_,_,_,hk.symm⟩)
       .cases hk
 have hin:∀k,290<=k->k<1000000->inK k=true:=λk h1 h2=>by simp[inK,h1,h2]
 refine⟨λk b hk=>?_,λk b o hk=>?_,λk b hk=>?_,λk cs o f hk=>?_⟩
 .rcases cases hk with⟨rfl,_⟩|⟨rfl,_⟩|⟨h1,h2,_⟩
  .rfl
  .rfl
  .exact hin k h1 h2
 .rcases cases hk with⟨_,rfl⟩|⟨_,rfl⟩|⟨_,_,e,sz,xs,rfl⟩
  .simp[Blk.frz]
  .simp[Blk.frz]
  .simp[Blk.frz]
 .rcases cases hk with⟨_,rfl⟩|⟨_,rfl⟩|⟨_,_,e,sz,xs,rfl⟩<;>rfl
 .rcases cases hk with⟨_,e⟩|⟨_,e⟩|⟨_,_,e,sz,xs,h9⟩
  .injection e with e;subst e
   intro x hx;simp only[List.mem_cons,List.not_mem_nil,or_false]at hx
   rcases hx with rfl|rfl|rfl|rfl|rfl<;>first|exact IM s|rfl
  .injection e with e;subst e
   intro x hx;rcases List.mem_append.1 hx with hx|hx
   .simp only[fZ,List.mem_map,List.mem_range]at hx
    obtain⟨v,hv,rfl⟩:=hx;exact hin (v+300) (by omega) (by omega)
   .rw[(List.mem_replicate.1 hx).2];rfl
  .cases h9
theorem Cy{f:Bool}(h:aM false s c k=some (.box cs false f)):k=290:=by
 unfold aM at h;split at h
 .assumption
 .exfalso
  repeat' split at h
  all_goals cases h
theorem vJ{r:AV}{s':Spc}{c':Nat}(h1:kK P st rs=some r)(ho:nR r=true)(hl:s'.near.length<=4096)(hp:Post r (aM false s' c'))(hH:∀k,inK k=true->st.h k=aM false s' c' k):vh P rs (aM false s c) Post st:=
 qL h1 ho hH (lg hl) hp λk cs f hk=>by rw[Cy hk];exact⟨_,rfl⟩
theorem zj{own:Bool}{nr:List (List Nat)}(hl:nr.length=s.near.length)(h1:k≠293)(h2:∀v,k=v+300->v<s.near.length->nr[v]?=s.near[v]?):aM own {s with near:=nr} c k=aM own s c k:=by
 unfold aM;simp only[hl];by_cases e:300<=k∧k<300+s.near.length
 .have h3:=h2 (k-300) (by omega) (by omega)
  have h4:ae {s with near:=nr} (k-300)=ae s (k-300):=by simp only[ae,h3]
  simp only[if_neg h1,h4];rfl
 .simp only[if_neg h1,if_neg e]
  rfl
theorem fy{α:Type}{l:List α}{x:α}(h:l[i]?=some x)(hi:i<l.length):l[i]'hi=x:=(List.getElem?_eq_some_iff.1 h).2
def dP(s:Spc)(a b:Nat):Spc:=if eo (fE s a) (fE s b)then{s with near:=(s.near.set a (ae s a++[b])).set b (ae s b++[a])}else s
theorem FI{a:Nat}{x y:List Nat}(hab:a≠b):fZ ((near.set a x).set b y)=((fZ near).set a (.arr (a+300) x.length)).set b (.arr (b+300) y.length):=by
 apply List.ext_getElem?;intro v;simp only[fZ,List.length_set];by_cases hv:v<near.length
 .by_cases e2:b=v
  .subst e2
   simp[List.getElem?_set,hv]
  .by_cases e1:a=v
   .subst e1
    simp[List.getElem?_set,hv,e2]
   .simp[List.getElem?_set,hv,e1,e2]
 .rw[List.getElem?_eq_none (by simp;omega),List.getElem?_eq_none (by simp;omega)]
theorem N1(s:Spc)(c a b:Nat)(hn:s.near.length<=4096)(ha:a<s.near.length)(hb:b<s.near.length)(hab:a≠b)(hbx:s.bx.length=s.near.length)(hbl:∀x∈s.bx,x.length<=9223372036854775807)(hnl:∀v,(ae s v).length<=4096):
 kC Tryz.prog 76 [.ptr 290 0,.pv (Z a),.pv (Z b)] (aM false s c) (λ_ h'=>h'=aM false (dP s a b) c):=by
 have hba:s.bx[a]?=some (fE s a):=by simp[fE,List.getElem?_eq_getElem (by omega:a<s.bx.length)]
 have hbb:s.bx[b]?=some (fE s b):=by simp[fE,List.getElem?_eq_getElem (by omega:b<s.bx.length)]
 have ct:=Lh (fE s a) (fE s b) (hbl _ (List.mem_of_getElem? hba))
 have hbal:a<s.bx.length:=by omega
 have hbbl:b<s.bx.length:=by omega
 have hba':=fy hba hbal;have hbb':=fy hbb hbbl;have h290:=lx false s c;have h292:=oJ false s c;have h293:=mL false s c;refine B8 Tryz.func76 (lg (by omega)) ?_;intro C hP hN;simp only[Tryz.f76]at hN|-
 cases ht:eo (fE s a) (fE s b)with
 |false=>
  rw[ht]at ct
  have hm:dP s a b=s:=by simp[dP,ht]
  rw[hm];generalize hH:aM false s c=H at *
  with_reducible repeat' (first|refine Sp.h ?_|((first|refine Wd ?_|refine Ss.h ?_|refine Sc.h (ct) ?_|(refine Sb.h ?_ ?_ ?_<;>(try intro hgd)<;>try exact Xy))<;>simp -implicitDefEqProofs (maxSteps:=2000000) [hP,hN,pO,h290,h292,hbal,hbbl,hba,hbb,hba',hbb']<;>try refine Ya ?_)|refine X2 ?_ ?_|(refine Xd ?_ ?_<;>intro hcd<;>try exact Xx))
  subst hH;exact vJ (s':=s) (c':=c) rfl rfl hn rfl (λ_ _=>rfl)
 |true=>
  rw[ht]at ct
  have hm:dP s a b={s with near:=(s.near.set a (ae s a++[b])).set b (ae s b++[a])}:=by simp[dP,ht]
  rw[hm];have hra:=kp (own:=false) (s:=s) (c:=c) ha;have hrb:=kp (own:=false) (s:=s) (c:=c) hb;obtain⟨cs,hcs⟩:∃cs,cs=fZ s.near++List.replicate c cL:=⟨_,rfl⟩
  have hcl:cs.length=s.near.length+c:=by rw[hcs];simp[bL]
  have ca:cs[a]?=some (.arr (a+300) (ae s a).length):=by rw[hcs,List.getElem?_append_left (by rw[bL];exact ha),jX ha];rfl
  have cb:cs[b]?=some (.arr (b+300) (ae s b).length):=by rw[hcs,List.getElem?_append_left (by rw[bL];exact hb),jX hb];rfl
  have ca':∀h,cs[a]'h=.arr (a+300) (ae s a).length:=λh=>fy ca h;have cb':∀h,cs[b]'h=.arr (b+300) (ae s b).length:=λh=>fy cb h;have sa:∀x,cs.take a++x::cs.drop (a+1)=cs.set a x:=λx=>nY (by omega);have sb:∀x y,(cs.set a x).take b++y::(cs.set a x).drop (b+1)=(cs.set a x).set b y:=λx y=>nY (by simp;omega)
  have ha1:a+1<=s.near.length+c:=by omega
  have hb1:b+1<=s.near.length+c:=by omega
  have hac:a<s.near.length+c:=by omega
  have hbc:b<s.near.length+c:=by omega
  have hba9:¬b=a:=λe=>hab e.symm;have la:=hnl a;have lb:=hnl b;rw[<-hcs]at h293;generalize hH:aM false s c=H at *
  with_reducible repeat' (first|refine Sp.h ?_|((first|refine Wd ?_|refine Ss.h ?_|refine Sc.h (ct) ?_|(refine Sb.h ?_ ?_ ?_<;>(try intro hgd)<;>try exact Xy))<;>simp -implicitDefEqProofs (maxSteps:=2000000) [hP,hN,pO,h290,h292,h293,hbal,hbbl,hba,hbb,hba',hbb',hra,hrb,hcl,ca,cb,ca',cb',sa,sb,ha,hb,ha1,hb1,hac,hbc,hab,hba9,show¬a+300=290 by omega,show¬b+300=290 by omega,show¬a+300=293 by omega,show¬b+300=293 by omega,show¬293=a+300 by omega,show¬293=b+300 by omega,show¬290=a+300 by omega,show¬290=b+300 by omega,show a+300<2000000 by omega,show b+300<2000000 by omega,show((ae s a).length+1)*8<=140737488355328 by omega,show((ae s b).length+1)*8<=140737488355328 by omega,show(ae s a).length+1<=9223372036854775807 by omega,show(ae s b).length+1<=9223372036854775807 by omega]<;>try refine Yc ?_)|refine X2 ?_ ?_|(refine Xd ?_ ?_<;>intro hcd<;>try exact Xx))
  subst hH;refine vJ (s':={s with near:=(s.near.set a (ae s a++[b])).set b (ae s b++[a])}) (c':=c) rfl rfl (by simp only[List.length_set];exact hn) rfl (λk hk=>?_);by_cases e1:k=293
  .subst e1
   rw[mL];simp only[FI hab];simp[ah,hcs,List.set_append_left,bL,ha,hb,show¬293=a+300 by omega,show¬293=b+300 by omega]
  .by_cases e2:k=b+300
   .subst e2
    rw[kp (by simp only[List.length_set];exact hb)];simp[ah,ae,List.getElem?_set,hb]
   .by_cases e3:k=a+300
    .subst e3
     rw[kp (by simp only[List.length_set];exact ha)];simp[ah,ae,List.getElem?_set,ha,hba9,hab]
    .rw[zj (by simp) e1 (λv hv hlt=>by rw[List.getElem?_set,if_neg (by omega),List.getElem?_set,if_neg (by omega)])]
     simp[ah,e1,e2,e3]
def ga(s:Spc)(leaf:Nat)(joint:Int):Spc:=
 {root:=s.root,cells:=s.cells.set leaf ⟨joint,s.cells.length,s.cells.length+1,bn⟩++[aP bn,aP bn],bx:=s.bx++[cF (fE s leaf) joint,cG (fE s leaf) joint],near:=s.near.set leaf []++[[],[]],jn:=s.jn++[-1,-1]}
def gW(s:Spc)(k leaf:Nat):Spc:={s with near:=s.near.set k ((ae s k).erase leaf)}
def eD(low leaf:Nat)(s:Spc)(k:Nat):Spc:=dP (dP (gW s k leaf) low k) (low+1) k
def fu(s:Spc)(leaf:Nat)(joint:Int):Spc:=dP ((ae s leaf).foldl (eD s.cells.length leaf) (ga s leaf joint)) s.cells.length (s.cells.length+1)
theorem ly{a:Nat}(hab:a≠b)(ha:a<s.near.length)(hb:b<s.near.length):ae (dP s a b) v=if eo (fE s a) (fE s b)=true∧(v=a∨v=b)then ae s v++[if v=a then b else a]else ae s v:=by
 unfold dP
 cases ht:eo (fE s a) (fE s b)with
 |false=>simp
 |true=>
  by_cases h1:v=b
  .subst h1
   simp[ae,List.getElem?_set,hb,show¬v=a from λe=>hab e.symm]
  .by_cases h2:v=a
   .subst h2
    simp[ae,List.getElem?_set,ha,h1,show¬b=v from λe=>h1 e.symm]
   .simp[ae,List.getElem?_set,h1,h2,show¬b=v from λe=>h1 e.symm,show¬a=v from λe=>h2 e.symm]
theorem gG(s:Spc)(a b:Nat):(dP s a b).near.length=s.near.length∧(dP s a b).bx=s.bx∧(dP s a b).cells=s.cells∧(dP s a b).jn=s.jn∧(dP s a b).root=s.root:=by
 unfold dP;split<;>simp
theorem vK(hk:k<s.near.length):ae (gW s k leaf) v=if v=k then(ae s k).erase leaf else ae s v:=by
 unfold gW;by_cases h:v=k
 .subst h;simp[ae,List.getElem?_set,hk]
 .simp[ae,List.getElem?_set,h,show¬k=v from λe=>h e.symm]
theorem zk(low leaf:Nat)(s:Spc)(k:Nat):(eD low leaf s k).near.length=s.near.length∧(eD low leaf s k).bx=s.bx∧(eD low leaf s k).cells=s.cells∧(eD low leaf s k).jn=s.jn∧(eD low leaf s k).root=s.root:=by
 unfold eD;obtain⟨a1,a2,a3,a4,a5⟩:=gG (dP (gW s k leaf) low k) (low+1) k;obtain⟨b1,b2,b3,b4,b5⟩:=gG (gW s k leaf) low k;rw[a1,a2,a3,a4,a5,b1,b2,b3,b4,b5];simp[gW]
theorem EK{low:Nat}(hl:low+1<s.near.length)(hk:k<low)(hv:v≠k)(hv1:v≠low)(hv2:v≠low+1):ae (eD low leaf s k) v=ae s v:=by
 obtain⟨b1,_⟩:=gG (gW s k leaf) low k
 have hd:(gW s k leaf).near.length=s.near.length:=by simp[gW]
 unfold eD;rw[ly (by omega) (by omega) (by omega),if_neg (by omega),ly (by omega) (by omega) (by omega),if_neg (by omega),vK (by omega),if_neg hv]
theorem FQ{low:Nat}(hl:low+1<s.near.length)(hk:k<low):(ae (eD low leaf s k) v).length<=(ae s v).length+(if v=k then 2 else if v=low∨v=low+1 then 1 else 0):=by
 obtain⟨b1,_⟩:=gG (gW s k leaf) low k
 have hd:(gW s k leaf).near.length=s.near.length:=by simp[gW]
 have he:((ae s k).erase leaf).length<=(ae s k).length:=List.length_erase_le;unfold eD;rw[ly (by omega) (by omega) (by omega),ly (by omega) (by omega) (by omega),vK (by omega)];by_cases h:v=k
 .subst h
  simp only[if_true];split<;>split<;>simp<;>omega
 .rw[if_neg h,if_neg h]
  by_cases e1:v=low
  .subst e1
   rw[if_neg (by omega)];split<;>simp
  .by_cases e2:v=low+1
   .subst e2
    rw[if_neg (c:=eo (fE (gW s k leaf) low) (fE (gW s k leaf) k)=true∧(low+1=low∨low+1=k)) (by omega)];split<;>simp
   .rw[if_neg (by omega),if_neg (by omega)]
    simp[e1,e2]
theorem uz(s:Spc)(a b:Nat):(dP s a b).cc=s.cc:=by unfold dP;split<;>rfl
theorem Cz(low leaf:Nat)(s:Spc)(k:Nat):(eD low leaf s k).cc=s.cc:=by unfold eD;rw[uz,uz];rfl
structure LpI(s0:Spc)(n leaf:Nat)(old:List Nat)(i:Nat)(s:Spc):Prop where
 nl:s.near.length=n+2
 bx:s.bx=s0.bx
 cells:s.cells=s0.cells
 jn:s.jn=s0.jn
 root:s.root=s0.root
 cc:s.cc=s0.cc
 low:∀k,k<n->k∉old.take i->ae s k=ae s0 k
 len:∀v,(ae s v).length<=(ae s0 v).length+2+(if v<n then 0 else i)
theorem LpI.step{s0:Spc}(h:LpI s0 n leaf old i s)(hnd:old.Nodup)(hk:old[i]?=some k)(hkn:k<n):LpI s0 n leaf old (i+1) (eD n leaf s k):=by
 obtain⟨a1,a2,a3,a4,a5⟩:=zk n leaf s k
 have ht:old.take (i+1)=old.take i++[k]:=by rw[List.take_add_one,hk];rfl
 have hni:k∉old.take i:=by
  have:=(List.take_sublist (i+1) old).nodup hnd;rw[ht,List.nodup_append]at this;intro hm;exact this.2.2 k hm k (by simp) rfl
 refine⟨a1.trans h.nl,a2.trans h.bx,a3.trans h.cells,a4.trans h.jn,a5.trans h.root,(Cz n leaf s k).trans h.cc,λv hv hm=>?_,λv=>?_⟩
 .rw[ht]at hm
  simp only[List.mem_append,List.mem_singleton,not_or]at hm;rw[EK (by rw[h.nl];omega) hkn hm.2 (by omega) (by omega),h.low v hv hm.1]
 .have h1:=FQ (leaf:=leaf) (v:=v) (s:=s) (by rw[h.nl];omega) hkn
  have h2:=h.len v;by_cases e:v=k
  .subst e
   rw[if_pos rfl]at h1;rw[h.low v hkn hni]at h1;rw[if_pos hkn];omega
  .rw[if_neg e]at h1
   split at h1
   .rw[if_neg (by omega)]at h2|-
    omega
   .split at h2
    .rw[if_pos (by assumption)];omega
    .rw[if_neg (by assumption)];omega
theorem pf{joint:Int}(hl:leaf<s.near.length):ae (ga s leaf joint) v=if v=leaf then[]else ae s v:=by
 unfold ga ae;simp only;by_cases h:v<s.near.length
 .rw[List.getElem?_append_left (by simpa using h),List.getElem?_set]
  by_cases e:v=leaf
  .subst e;simp[hl]
  .simp[e,show¬leaf=v from λe2=>e e2.symm]
 .rw[List.getElem?_append_right (by simpa using(by omega:s.near.length<=v)),if_neg (by omega),List.getElem?_eq_none (l:=s.near) (by omega)]
  simp only[List.length_set]
  match v-s.near.length with
  |0=>rfl
  |1=>rfl
  |m+2=>simp
theorem LpI.zero{joint:Int}(hn:s.near.length=n):LpI (ga s leaf joint) n leaf old 0 (ga s leaf joint):=
 ⟨by simp[ga,hn],rfl,rfl,rfl,rfl,rfl,λ_ _ _=>rfl,λ_=>by omega⟩
section
variable {n:Nat} {may has:Nat->Bool} {tch:Nat->Nat->Bool}
inductive Vis(may:Nat->Bool)(k:Nat)(s:BS):List Nat->BS->Prop
 |nil:Vis may k s [] s
 |hit {c s1 i} (h:Vis may k s c s1) (h0:am s1.far i=0) (hm:may i=true):Vis may k s (c++[i]) (lB s1 k i)
 |miss {c s1 i} (h:Vis may k s c s1) (h0:am s1.far i=0->may i=false):Vis may k s (c++[i]) s1
structure VI(n:Nat)(may has:Nat->Bool)(tch:Nat->Nat->Bool)(s:BS)(k:Nat)(c:List Nat)(s1:BS):Prop where
 inv:BInv2 n may has tch s1
 le:s.q.length<=s1.q.length
 qs:∀a,a<s.q.length->bB s1 a=bB s a
 keep:∀i,1<=am s.far i->am s1.far i=am s.far i
 inq:∀i,1<=am s1.far i->i∈s1.q
 qn:∀a,s.q.length<=a->a<s1.q.length->am s1.far (bB s1 a)=am s.far (bB s k)+1
 vis:∀i∈c,may i=true->1<=am s1.far i
theorem Cq{s:BS}{l:List Int}{a:Nat}(h:a<s.q.length):bB ⟨l,s.q++[i]⟩ a=bB s a:=by
 unfold bB;rw[List.getElem?_append_left h]
theorem Hv{s:BS}{l:List Int}:bB ⟨l,s.q++[i]⟩ s.q.length=i:=by
 unfold bB;rw[List.getElem?_append_right (Nat.le_refl _)];simp
theorem yt{s s1:BS}{c:List Nat}(hs:BInv2 n may has tch s)(hk:k<s.q.length)(hq:∀i,1<=am s.far i->i∈s.q)(h:Vis may k s c s1)(hc:∀i∈c,i<n∧tch i (bB s k)=true):VI n may has tch s k c s1:=by
 induction h with
 |nil=>exact⟨hs,Nat.le_refl _,λ_ _=>rfl,λ_ _=>rfl,hq,λa h1 h2=>by omega,λi hi=>by cases hi⟩
 |@hit c s1 i h h0 hm ih=>
  have I:=ih λj hj=>hc j (List.mem_append_left _ hj);obtain⟨hi,ht⟩:=hc i (by simp);have hqk:=I.qs k hk
  have hkm:bB s k∈s.q:=by
   unfold bB;rw[List.getElem?_eq_getElem hk];exact List.getElem_mem _
  have hfk:=(hs.mem _ hkm)
  have hfe:am s1.far (bB s1 k)=am s.far (bB s k):=by rw[hqk];exact I.keep _ hfk.2
  have hil:i<s1.far.length:=by rw[I.inv.len];exact hi
  have hset:∀j,am (lB s1 k i).far j=if j=i then am s.far (bB s k)+1 else am s1.far j:=λj=>by
   simp only[lB];rw[kz hil,hfe]
  have hne:∀j,1<=am s1.far j->j≠i:=λj hj e=>by rw[e,h0]at hj;omega
  have hkm1:bB s1 k∈s1.q:=by
   unfold bB;rw[List.getElem?_eq_getElem (Nat.lt_of_lt_of_le hk I.le)];exact List.getElem_mem _
  refine⟨?_,?_,?_,?_,?_,?_,?_⟩
  .refine I.inv.put hi h0 (by rw[hfe];omega) hm (by have:=I.inv.top (bB s1 k);omega) (.inr ⟨bB s1 k,(I.inv.mem _ hkm1).1,by omega,(I.inv.mem _ hkm1).2,by rw[hqk];exact ht⟩)
  .simp only[lB,List.length_append,List.length_singleton];have:=I.le;omega
  .intro a ha
   have:=I.le;rw[<-I.qs a ha];exact Cq (by omega)
  .intro j hj
   have:=I.keep j hj;rw[hset,if_neg (hne j (by omega)),this]
  .intro j hj
   rw[hset]at hj;simp only[lB,List.mem_append,List.mem_singleton];split at hj
   .rename_i e;exact .inr e
   .exact .inl (I.inq j hj)
  .intro a ha hal
   simp only[lB,List.length_append,List.length_singleton]at hal;by_cases e:a<s1.q.length
   .have e1:bB (lB s1 k i) a=bB s1 a:=Cq e
    have hm1:bB s1 a∈s1.q:=by
     unfold bB;rw[List.getElem?_eq_getElem e];exact List.getElem_mem _
    rw[e1,hset,if_neg (hne _ (I.inv.mem _ hm1).2)];exact I.qn a ha e
   .have:a=s1.q.length:=by omega
    subst this;rw[show bB (lB s1 k i) s1.q.length=i from Hv,hset,if_pos rfl]
  .intro j hj hmj
   rw[hset];split
   .omega
   .rename_i e
    rcases List.mem_append.1 hj with hj|hj
    .exact I.vis j hj hmj
    .exact absurd (List.mem_singleton.1 hj) e
 |@miss c s1 i h h0 ih=>
  have I:=ih λj hj=>hc j (List.mem_append_left _ hj);refine⟨I.inv,I.le,I.qs,I.keep,I.inq,I.qn,λj hj hmj=>?_⟩;rcases List.mem_append.1 hj with hj|hj
  .exact I.vis j hj hmj
  .rw[List.mem_singleton.1 hj]at hmj|-
   have h1:=I.inv.nn i;by_cases e:am s1.far i=0
   .rw[h0 e]at hmj;cases hmj
   .omega
structure BO(n:Nat)(may has:Nat->Bool)(tch:Nat->Nat->Bool)(s:BS)(k:Nat):Prop where
 inv:BInv2 n may has tch s
 inq:∀i,1<=am s.far i->i∈s.q
 mono:∀a b,a<=b->b<s.q.length->am s.far (bB s a)<=am s.far (bB s b)
 top:∀b,b<s.q.length->k<s.q.length->am s.far (bB s b)<=am s.far (bB s k)+1
 start:∀i,i<n->may i=true->has i=true->am s.far i=1
 done:∀a,a<k->a<s.q.length->∀i,i<n->may i=true->tch i (bB s a)=true->1<=am s.far i∧am s.far i<=am s.far (bB s a)+1
theorem IH{s:BS}(h:i∈s.q):∃a,a<s.q.length∧bB s a=i:=by
 obtain⟨a,ha⟩:=List.getElem?_of_mem h;exact⟨a,(List.getElem?_eq_some_iff.1 ha).1,by simp[bB,ha]⟩
theorem r6{s:BS}{a:Nat}(h:a<s.q.length):bB s a∈s.q:=by
 unfold bB;rw[List.getElem?_eq_getElem h];exact List.getElem_mem _
theorem BO.step{s s1:BS}{c:List Nat}(H:BO n may has tch s k)(hk:k<s.q.length)(h:Vis may k s c s1)(hc:∀i∈c,i<n∧tch i (bB s k)=true)(hall:∀i,i<n->may i=true->tch i (bB s k)=true->i∈c∨i=bB s k):BO n may has tch s1 (k+1):=by
 have I:=yt H.inv hk H.inq h hc;have hle:=I.le
 have far1:∀a,a<s.q.length->am s1.far (bB s1 a)=am s.far (bB s a):=λa ha=>by
  rw[I.qs a ha];exact I.keep _ (H.inv.mem _ (r6 ha)).2
 have up:∀b,b<s1.q.length->am s1.far (bB s1 b)<=am s.far (bB s k)+1:=by
  intro b hb;by_cases e:b<s.q.length
  .rw[far1 b e];exact H.top b e hk
  .rw[I.qn b (by omega) hb];omega
 have mono:∀a b,a<=b->b<s1.q.length->am s1.far (bB s1 a)<=am s1.far (bB s1 b):=by
  intro a b hab hb;by_cases e:b<s.q.length
  .rw[far1 b e,far1 a (by omega)];exact H.mono a b hab e
  .rw[I.qn b (by omega) hb];exact up a (by omega)
 refine⟨I.inv,I.inq,mono,?_,?_,?_⟩
 .intro b hb hk1
  have h1:=mono k (k+1) (by omega) hk1;rw[far1 k hk]at h1;have:=up b hb;omega
 .intro i hi hm hh
  have h1:=H.start i hi hm hh;rw[I.keep i (by omega)];exact h1
 .intro a ha hal i hi hm ht
  by_cases e:a<k
  .have hal':a<s.q.length:=by omega
   rw[I.qs a hal']at ht;obtain⟨h1,h2⟩:=H.done a e hal' i hi hm ht;rw[I.keep i h1,far1 a hal'];exact⟨h1,h2⟩
  .have e:a=k:=by omega
   subst e;rw[I.qs a hk]at ht;rw[far1 a hk];rcases hall i hi hm ht with h3|h3
   .have h4:=I.vis i h3 hm
    obtain⟨b,hb,hbi⟩:=IH (I.inq i h4);have:=up b hb;rw[hbi]at this;exact⟨h4,this⟩
   .have h4:=(H.inv.mem _ (r6 hk)).2
    rw[h3,I.keep _ h4];exact⟨h4,by omega⟩
theorem BO.stay{s:BS}(H:BO n may has tch s k)(hk:¬k<s.q.length):BO n may has tch s (k+1):=
 ⟨H.inv,H.inq,H.mono,λb _ h=>by omega,H.start,λa ha hal=>H.done a (by omega) hal⟩
theorem Ex:∀i,i<=n->(∀j,1<=am (bI n may has i).far j->j∈(bI n may has i).q∧am (bI n may has i).far j=1)∧∀j,j<i->may j=true->has j=true->am (bI n may has i).far j=1
 |0,_=>by
  refine⟨λj hj=>?_,λj hj=>by omega⟩
  have hz:am (List.replicate n (0:Int)) j=0:=by simp only[am,List.getElem?_replicate];split<;>rfl
  simp only[bI,hz]at hj;omega
 |i+1,hi=>by
  obtain⟨h1,h2⟩:=Ex i (by omega);have hinv:=(pL (n:=n) (may:=may) (has:=has) (tch:=λ_ _=>true) i (by omega)).1
  have hil:i<(bI n may has i).far.length:=by rw[hinv.len];omega
  simp only[bI];split
  .rename_i hc
   simp only[Bool.and_eq_true]at hc;refine⟨λj hj=>?_,λj hj hm hh=>?_⟩
   .rw[kz hil]at hj|-
    split
    .rename_i e;exact⟨by simp[e],rfl⟩
    .rename_i e
     rw[if_neg e]at hj;exact⟨List.mem_append_left _ (h1 j hj).1,(h1 j hj).2⟩
   .rw[kz hil]
    split
    .rfl
    .exact h2 j (by omega) hm hh
  .rename_i hc
   refine⟨h1,λj hj hm hh=>?_⟩;by_cases e:j=i
   .subst e;rw[hm,hh]at hc;exact absurd rfl hc
   .exact h2 j (by omega) hm hh
theorem BO.init:BO n may has tch (bI n may has n) 0:=by
 obtain⟨h1,h2⟩:=Ex (n:=n) (may:=may) (has:=has) n (Nat.le_refl _);have hinv:=(pL (n:=n) (may:=may) (has:=has) (tch:=tch) n (Nat.le_refl _)).1;have one:∀a,a<(bI n may has n).q.length->am (bI n may has n).far (bB (bI n may has n) a)=1:=λa ha=>(h1 _ (hinv.mem _ (r6 ha)).2).2;refine⟨hinv,λi hi=>(h1 i hi).1,λa b hab hb=>?_,λb hb h0=>?_,λi hi hm hh=>h2 i hi hm hh,λa ha=>by omega⟩
 .rw[one a (by omega),one b hb];omega
 .rw[one b hb,one 0 h0];omega
structure FarOk(n:Nat)(may has:Nat->Bool)(tch:Nat->Nat->Bool)(far:List Int):Prop where
 len:far.length=n
 nn:∀i,0<=am far i
 rng:∀i,1<=am far i->i<n∧may i=true
 start:∀i,i<n->may i=true->has i=true->am far i=1
 back:∀i,1<=am far i->(am far i=1∧has i=true)∨∃p,p<n∧am far p=am far i-1∧1<=am far p∧tch i p=true
 clo:∀p i,1<=am far p->i<n->may i=true->tch i p=true->1<=am far i∧am far i<=am far p+1
theorem BO.fin{s:BS}(H:BO n may has tch s k)(hk:s.q.length<=k):FarOk n may has tch s.far:=by
 refine⟨H.inv.len,H.inv.nn,λi hi=>⟨?_,H.inv.may' i hi⟩,H.start,H.inv.back,λp i hp hi hm ht=>?_⟩
 .exact(H.inv.mem i (H.inq i hi)).1
 .obtain⟨a,ha,rfl⟩:=IH (H.inq p hp)
  exact H.done a (by omega) ha i hi hm ht
theorem AT(h:FarOk n may has tch far)(h':FarOk n may has tch' far')(ht:∀i p,i<n->may i=true->p<n->may p=true->i≠p->tch i p=true->tch' i p=true):∀(m:Nat) i,(m:Int)=am far i->1<=am far i->1<=am far' i∧am far' i<=am far i:=by
 intro m
 induction m using Nat.strongRecOn with
 |_ m ih=>
  intro i hm hi;obtain⟨r1,r2⟩:=h.rng i hi;rcases h.back i hi with⟨e,hh⟩|⟨p,p1,p2,p3,p4⟩
  .have:=h'.start i r1 r2 hh
   omega
  .obtain⟨q1,q2⟩:=ih (m-1) (by omega) p (by omega) p3
   have hp:=h.rng p p3
   have hne:i≠p:=λe=>by rw[e]at p2;omega
   obtain⟨c1,c2⟩:=h'.clo p i q1 r1 r2 (ht i p r1 r2 hp.1 hp.2 hne p4);exact⟨c1,by omega⟩
theorem Dr(h:FarOk n may has tch far)(h':FarOk n may has tch' far')(ht:∀i p,i<n->may i=true->p<n->may p=true->i≠p->(tch i p=true↔tch' i p=true)):far=far':=by
 have e:∀i,am far i=am far' i:=by
  intro i;have a:=h.nn i;have b:=h'.nn i;by_cases h1:1<=am far i
  .have q1:=AT h h' (λi p a b c d e=>(ht i p a b c d e).1) (am far i).toNat i (by omega) h1
   have q2:=AT h' h (λi p a b c d e=>(ht i p a b c d e).2) (am far' i).toNat i (by omega) q1.1;omega
  .by_cases h2:1<=am far' i
   .have q2:=AT h' h (λi p a b c d e=>(ht i p a b c d e).2) (am far' i).toNat i (by omega) h2
    omega
   .omega
 apply List.ext_getElem?;intro i;by_cases hi:i<n
 .have h1:i<far.length:=by rw[h.len];exact hi
  have h2:i<far'.length:=by rw[h'.len];exact hi
  have:=e i;simp only[am,List.getElem?_eq_getElem h1,List.getElem?_eq_getElem h2,Option.getD_some]at this;rw[List.getElem?_eq_getElem h1,List.getElem?_eq_getElem h2,this]
 .rw[List.getElem?_eq_none (by rw[h.len];omega),List.getElem?_eq_none (by rw[h'.len];omega)]
theorem Ey{s:BS}{k:Nat}(hs:BInv2 n may has tch s)(hk:k<s.q.length):∀i,i<=n->Vis may k s ((List.range i).filter λj=>tch j (bB s k)) (bJ may tch s k i)
 |0,_=>.nil
 |i+1,hi=>by
  have ih:=Ey hs hk i (by omega);have hq:=(xR hs hk i (by omega)).2.2;rw[List.range_succ,List.filter_append];simp only[bJ]
  cases ht:tch i (bB s k)with
  |true=>
   rw[show List.filter (λj=>tch j (bB s k)) [i]=[i] by simp[ht]];split
   .rename_i hc
    simp only[vd,Bool.and_eq_true,beq_iff_eq]at hc;exact .hit ih hc.1.1 hc.1.2
   .rename_i hc
    refine .miss ih λh0=>?_;rw[<-Bool.not_eq_true];intro hm;exact hc (by simp[vd,h0,hm,hq,ht])
  |false=>
   rw[show List.filter (λj=>tch j (bB s k)) [i]=[] by simp[ht],List.append_nil];rw[if_neg (by simp[vd,hq,ht])];exact ih
theorem Ez:∀k,BO n may has tch (bK n may has tch k) k
 |0=>BO.init
 |k+1=>by
  have ih:=Ez k;simp only[bK];split
  .rename_i hk
   refine ih.step hk (Ey ih.inv hk n (Nat.le_refl _)) (λi hi=>?_) (λi hi hm ht=>.inl ?_)
   .simp only[List.mem_filter,List.mem_range]at hi;exact hi
   .simp only[List.mem_filter,List.mem_range];exact⟨hi,ht⟩
  .rename_i hk;exact ih.stay hk
theorem rc:FarOk n may has tch (bK n may has tch n).far:=(Ez n).fin (mt n).le
variable (n may has)
def gT(s:BS)(k:Nat)(l:List Nat):Nat->BS
 |0=>s
 |j+1=>match l[j]? with
  |some i=>if(am (gT s k l j).far i==0)&&may i then lB (gT s k l j) k i else gT s k l j
  |none=>gT s k l j
def gK(nb:Nat->List Nat):Nat->BS
 |0=>bI n may has n
 |k+1=>if k<(gK nb k).q.length then gT may (gK nb k) k (nb (bB (gK nb k) k)) (nb (bB (gK nb k) k)).length else gK nb k
variable {n may has}
theorem xi{s:BS}{k:Nat}{l:List Nat}:∀j,j<=l.length->Vis may k s (l.take j) (gT may s k l j)
 |0,_=>.nil
 |j+1,hj=>by
  have ih:=xi (s:=s) (k:=k) (l:=l) j (by omega);have hl:l[j]?=some l[j]:=List.getElem?_eq_getElem (by omega);rw[List.take_succ_eq_append_getElem (by omega)];simp only[gT,hl];split
  .rename_i hc
   simp only[Bool.and_eq_true,beq_iff_eq]at hc;exact .hit ih hc.1 hc.2
  .rename_i hc
   refine .miss ih λh0=>?_;rw[<-Bool.not_eq_true];intro hm;exact hc (by simp[h0,hm])
def tB(nb:Nat->List Nat)(i p:Nat):Bool:=(nb p).contains i
theorem xj{nb:Nat->List Nat}(hnb:∀p i,i∈nb p->i<n):∀k,BO n may has (tB nb) (gK n may has nb k) k
 |0=>BO.init
 |k+1=>by
  have ih:=xj hnb k;simp only[gK];split
  .rename_i hk
   have hv:=xi (may:=may) (s:=gK n may has nb k) (k:=k) (l:=nb (bB (gK n may has nb k) k)) _ (Nat.le_refl _);rw[List.take_length]at hv;refine ih.step hk hv (λi hi=>⟨hnb _ i hi,?_⟩) (λi hi hm ht=>.inl ?_)
   .simpa[tB]using hi
   .simpa[tB]using ht
  .rename_i hk;exact ih.stay hk
theorem EA(hnb:∀p i,i∈nb p->i<n)(h:∀i p,i<n->may i=true->p<n->may p=true->i≠p->(i∈nb p↔tch i p=true))(hk:(gK n may has nb k).q.length<=k):(gK n may has nb k).far=(bK n may has tch n).far:=
 Dr ((xj hnb k).fin hk) rc λi p a b c d e=>by rw[<-h i p a b c d e];simp[tB]
def nP(far:List Int)(m:Int)(l:List Nat):Nat->Int
 |0=>-1
 |j+1=>match l[j]? with
  |some k=>if(am far k==m)&&(nP far m l j==-1||decide ((k:Int)<nP far m l j))then(k:Int)else nP far m l j
  |none=>nP far m l j
theorem AU{far:List Int}{m:Int}{l:List Nat}:∀j,j<=l.length->-1<=nP far m l j∧(0<=nP far m l j->am far (nP far m l j).toNat=m∧(nP far m l j).toNat∈l)∧∀k∈l.take j,am far k=m->0<=nP far m l j∧nP far m l j<=(k:Int)
 |0,_=>by simp[nP]
 |j+1,hj=>by
  obtain⟨h1,h2,h3⟩:=AU (far:=far) (m:=m) (l:=l) j (by omega);have hl:l[j]?=some l[j]:=List.getElem?_eq_getElem (by omega);rw[List.take_succ_eq_append_getElem (by omega)];simp only[nP,hl];split
  .rename_i hc
   simp only[Bool.and_eq_true,Bool.or_eq_true,beq_iff_eq,decide_eq_true_eq]at hc;refine⟨by omega,λ_=>⟨by rw[Int.toNat_natCast];exact hc.1,by rw[Int.toNat_natCast];exact List.getElem_mem _⟩,λk hk hf=>⟨by omega,?_⟩⟩;rcases List.mem_append.1 hk with hk|hk
   .have:=h3 k hk hf
    omega
   .rw[List.mem_singleton.1 hk];omega
  .rename_i hc
   refine⟨h1,h2,λk hk hf=>?_⟩;rcases List.mem_append.1 hk with hk|hk
   .exact h3 k hk hf
   .rw[List.mem_singleton.1 hk]at hf|-
    simp only[Bool.and_eq_true,Bool.or_eq_true,beq_iff_eq,decide_eq_true_eq,not_and,not_or]at hc;have:=hc hf;omega
theorem AW{far:List Int}{a:Nat}:∀m,m<=n->∀i,i<n->n-m<=i->nC far tch a i=true->0<=nS n far tch a m∧nS n far tch a m<=(i:Int)
 |0,_,i,h1,h2,_=>by omega
 |m+1,hm,i,h1,h2,h3=>by
  simp only[nS];split
  .exact⟨by omega,by omega⟩
  .rename_i hc
   by_cases e:i=n-1-m
   .rw[e]at h3;exact absurd h3 hc
   .exact AW m (by omega) i h1 (by omega) h3
theorem JT{a:Nat}(hl:∀i∈l,i<n)(h:∀i,i<n->am far i=am far a-1->(i∈l↔tch i a=true)):nP far (am far a-1) l l.length=nS n far tch a n:=by
 obtain⟨p1,p2,p3⟩:=AU (far:=far) (m:=am far a-1) (l:=l) l.length (Nat.le_refl _);rw[List.take_length]at p3;have q:=BJ (n:=n) (tch:=tch) (far:=far) (at_:=a) n (Nat.le_refl _);have q3:=λi=>AW (tch:=tch) (far:=far) (a:=a) n (Nat.le_refl _) i;by_cases e1:0<=nP far (am far a-1) l l.length
 .obtain⟨r1,r2⟩:=p2 e1
  have hi:=hl _ r2
  have hn:nC far tch a (nP far (am far a-1) l l.length).toNat=true:=by
   simp only[nC,Bool.and_eq_true,beq_iff_eq];exact⟨r1,(h _ hi r1).1 r2⟩
  obtain⟨s1,s2⟩:=q3 _ hi (by omega) hn;obtain⟨t1,t2⟩:=q.1 s1;simp only[nC,Bool.and_eq_true,beq_iff_eq]at t2;have:=p3 _ ((h _ t1 t2.1).2 t2.2) t2.1;omega
 .by_cases e2:0<=nS n far tch a n
  .obtain⟨t1,t2⟩:=q.1 e2
   simp only[nC,Bool.and_eq_true,beq_iff_eq]at t2;have:=p3 _ ((h _ t1 t2.1).2 t2.2) t2.1;omega
  .have:=q.2.2
   omega
def eQ(far:List Int)(nb:Nat->List Nat)(a:Nat):Nat->Nat
 |0=>a
 |r+1=>(nP far (am far a-1-r) (nb (eQ far nb a r)) (nb (eQ far nb a r)).length).toNat
def jE(n:Nat)(far:List Int)(nb:Nat->List Nat)(hasF:Nat->Bool):List Nat×Bool:=
 if 0<=aS far hasF n then((List.range (am far (aS far hasF n).toNat).toNat).map (eQ far nb (aS far hasF n).toNat),true)else([],false)
theorem AY(hF:far=(bK n may has tch n).far)(hsym:∀i j,i<n->j<n->tch i j=tch j i)(hnb:∀p i,i∈nb p->i<n)(h:∀i p,i<n->may i=true->p<n->may p=true->i≠p->(i∈nb p↔tch i p=true)){a:Nat}(hl:a<n)(ha:0<am far a):
 ∀r:Nat,(r:Int)<am far a->eQ far nb a r=pS n far tch a r∧eQ far nb a r<n∧am far (eQ far nb a r)=am far a-r∧((r:Int)+1<am far a->0<=nP far (am far a-1-r) (nb (eQ far nb a r)) (nb (eQ far nb a r)).length):=by
 subst hF;have hI:=mt (n:=n) (may:=may) (has:=has) (tch:=tch) n;have hO:=rc (n:=n) (may:=may) (has:=has) (tch:=tch);generalize bK n may has tch n=s at *
 have next:∀r:Nat,(r:Int)+1<am s.far a->nP s.far (am s.far a-1-r) (nb (pS n s.far tch a r)) (nb (pS n s.far tch a r)).length=nS n s.far tch (pS n s.far tch a r) n:=by
  intro r hr;obtain⟨i1,i2⟩:=uE hI hsym hl ha r (by omega);rw[show am s.far a-1-r=am s.far (pS n s.far tch a r)-1 by omega];have hp:=hO.rng (pS n s.far tch a r) (by omega);refine JT (λi hi=>hnb _ i hi) λi hi hf=>?_;have hm:=hO.rng i (by omega);exact h i _ hi hm.2 hp.1 hp.2 (λe=>by rw[e]at hf;omega)
 have main:∀r:Nat,(r:Int)<am s.far a->eQ s.far nb a r=pS n s.far tch a r:=by
  intro r
  induction r with
  |zero=>exact λ_=>rfl
  |succ r ih=>
   intro hr;have e:=ih (by omega);simp only[eQ,pS,zB];rw[e,next r (by omega)]
 intro r hr;obtain⟨i1,i2⟩:=uE hI hsym hl ha r hr;rw[main r hr];refine⟨rfl,i1,i2,λhr1=>?_⟩;rw[next r hr1];have:=(xS hI hsym i1 (by omega)).1;omega
theorem AZ(hsym:∀i j,i<n->j<n->tch i j=tch j i)(hnb:∀p i,i∈nb p->i<n)(h:∀i p,i<n->may i=true->p<n->may p=true->i≠p->(i∈nb p↔tch i p=true)):
 jE n (bK n may has tch n).far nb hasF=(dQ n may has hasF tch,bU n may has hasF tch):=by
 have ha:=ru (hasF:=hasF) (far:=(bK n may has tch n).far) n;unfold jE dQ bU kA;by_cases h0:0<=aS (bK n may has tch n).far hasF n
 .obtain⟨a1,_⟩:=ha.2.2 h0
  simp only[h0,decide_true,if_true];refine Prod.ext ?_ rfl;refine List.map_congr_left λr hr=>?_;have hr:=List.mem_range.1 hr;exact(AY rfl hsym hnb h (by omega) a1 r (by omega)).1
 .simp only[h0,decide_false,Bool.false_eq_true,if_false]
end
theorem GR(s:Spc)(i:Nat)(hi:i<s.cells.length):aa Tryz.prog 83 [.pv (hZ s),.pv (Z i)] [] [] (.pv (Z (bo s i).v.kind)):=by
 have hc:s.cells[i]?=some s.cells[i]:=List.getElem?_eq_getElem hi
 have he:bo s i=s.cells[i]:=by simp[bo,hc]
 rw[he];generalize hce:s.cells[i]=c at *;refine Dp Tryz.func83 ?_;intro C hP hN;simp only[Tryz.f83]at hN|-;exact Gy
structure SpcOk(s:Spc)(m:Nat):Prop where
 n:m<=2048
 c:s.cells.length=m
 b:s.bx.length=m
 r:s.near.length=m
 j:s.jn.length=m
 bl:∀b∈s.bx,b.length<=9223372036854775807
 lf:∀p i,i∈ae s p->i<m∧(bo s i).low=-1
 nl:∀p,(ae s p).length<=4096
theorem Hz(s:Spc)(p q:List Int)(g:FuncId):aa Tryz.prog 48 [.pv (hZ s),.pv (zs p),.pv (zs q),.pv (.val (.func (.func g) #[] #[]))] [] [] (.pv (.agg [hZ s,zs p,zs q,.val (.func (.func g) #[] #[])])):=by
 refine Dp Tryz.func48 ?_;intro C hP hN;simp only[Tryz.f48]at hN|-;exact Gy
set_option maxRecDepth 10000 in
theorem FG(s:Spc)(n:Nat)(p q:List Int)(g:FuncId)(f:Int->Int->Bool)(tch:Nat->Nat->Bool)(hs:SpcOk s n)(hq9:q.length<=9223372036854775807)(hmay:∀k j:Int,aa Tryz.prog g [.pv (Z k),.pv (Z j)] [] [] (.pv (B (f k j))))(hcov:∀i p,i<n->aZ s f i=true->p<n->aZ s f p=true->i≠p->(i∈ae s p↔tch i p=true)):aa Tryz.prog 102 [.pv (.agg [hZ s,zs p,zs q,.val (.func (.func g) #[] #[])])] [] [] (.pv (.sl ((bK n (aZ s f) (aw s.bx q) tch n).far.map Z))):=by
 have hb:∀i,i<n->s.bx[i]?=some (ff s.bx i):=λi hi=>by
  have:i<s.bx.length:=by rw[hs.b];exact hi
  simp[ff,List.getElem?_eq_getElem this]
 have ck:=λ(i:Nat)(hi:i<s.cells.length)=>GR s i hi;have cH:=λ(i:Nat)(hi:i<n)=>Cn (ff s.bx i) q (hs.bl _ (List.mem_of_getElem? (hb i hi)));have cH':∀i,i<n->aa Tryz.prog 47 [.pv (iv (ff s.bx i)),.pv (zs q)] [] [] (.pv (B (aw s.bx q i))):=cH;have hgk:=λ{k:Nat}(hk:(gK n (aZ s f) (aw s.bx q) (ae s) k).q.length<=k)=>EA (λp i hi=>(hs.lf p i hi).1) hcov hk;have hord:=xj (n:=n) (may:=aZ s f) (has:=aw s.bx q) (nb:=ae s) (λp i hi=>(hs.lf p i hi).1);have hbl:=hs.b;have hcl:=hs.c;have hjl:=hs.j;have hnl:=hs.r;have hn:=hs.n;have hlf:=hs.lf;have hnlb:=hs.nl;have hmd:∀i,aZ s f i=(decide ((bo s i).low=-1)&&f (bo s i).v.kind (iB s i)):=λi=>rfl
 have hcg:∀i,i<n->s.cells[i]?=some (bo s i):=λi hi=>by
  have:i<s.cells.length:=by omega
  simp[bo,List.getElem?_eq_getElem this]
 have hjg:∀i,i<n->s.jn[i]?=some (iB s i):=λi hi=>by
  have:i<s.jn.length:=by omega
  simp[iB,List.getElem?_eq_getElem this]
 clear cH hcov;generalize hhas:aw s.bx q=has at *;generalize hmm:aZ s f=may at *;refine Dp Tryz.func102 ?_;intro C hP hN;simp only[Tryz.f102]at hN|-;refine Ko [4] (gA hbl (gA (show(8:Int)*n<=281474976710656 by omega) (gA (show(n:Int)<=281474976710656 by omega) (show(n:Int)<=9223372036854775807 by omega)))) ?_;refine WP.loopN [6] n (λi st=>st.t 1=.ptr 1 0∧st.t 3=.arr 16 n∧st.t 4=.arr 4 (bI n may has i).q.length∧st.t 22=.pv (.sl (s.cells.map aW))∧st.t 23=.pv (Z n)∧st.t 24=.pv (Z i)∧st.h 1=some (.box [.pv (hZ s),.pv (zs p),.pv (zs q),.pv (.val (.func (.func g) #[] #[]))] true false)∧st.h 4=some (.row 3 1 ((bI n may has i).q.map zN) 0)∧st.h 16=some (.row 3 1 ((bI n may has i).far.map Z) 0)∧st.h 6=none) (by simp[bI,hcl]) ?_;rintro i st hi ⟨g1,g3,g4,g22,g23,g24,b1,b4,b16,b6⟩;obtain⟨hI,hIz⟩:=pL (n:=n) (may:=may) (has:=has) (tch:=tch) i hi;have hle:=hI.le;have hfl:=hI.len;by_cases hlt:i<n
 .have hw:=au hlt (by omega)
  have hic:i<s.cells.length:=by omega
  have hci:=hcg i hlt;have hci':=aT hci hic
  have hij:i<s.jn.length:=by omega
  have hji:=hjg i hlt;have hji':=aT hji hij
  have hib:i<s.bx.length:=by omega
  have hbi:=hb i hlt;have hbi':=aT hbi hib
  have hsu:bI n may has (i+1)=if may i&&has i then⟨(bI n may has i).far.set i 1,(bI n may has i).q++[i]⟩else bI n may has i:=rfl
  have c1:=ck i hic;have c2:=hmay (bo s i).v.kind (iB s i);have c3:=cH' i hlt;have hm9:=hmd i;generalize bI n may has i=S at *;generalize bo s i=c at *;generalize iB s i=jj at *;by_cases hlo:c.low=-1
  .have hlo':(c.low==-1)=true:=by simp[hlo]
   rw[decide_eq_true hlo,Bool.true_and]at hm9
   cases hf:f c.v.kind jj with
   |false=>
    rw[hf]at c2 hm9;rw[hm9,Bool.false_and,if_neg (by simp)]at hsu;exact Gy
    all_goals simp[hsu]
   |true=>
    rw[hf]at c2 hm9
    cases hh:has i with
    |false=>
     rw[hh]at c3;rw[hm9,hh,if_neg (by simp)]at hsu;exact Gy
     all_goals simp[hsu]
    |true=>
     rw[hh]at c3;rw[hm9,hh,if_pos (by simp)]at hsu
     with_reducible repeat' (first|refine Sp.h ?_|((first|refine Wd ?_|refine Ss.h ?_|refine Sc.h (c1) ?_|refine Sc.h (c2) ?_|refine Sc.h (c3) ?_|(refine Sb.h ?_ ?_ ?_<;>(try intro hgd)<;>try exact Xy))<;>simp -implicitDefEqProofs (maxSteps:=2000000) [hP,hN,g1,g3,g4,g22,g23,g24,b1,b4,b16,b6,hlt,hw,hic,hci,hci',hij,hji,hji',hib,hbi,hbi',hlo,hlo',hfl,show(S.q.length+1)*8<=140737488355328 by omega,show S.q.length+1<=9223372036854775807 by omega]<;>try refine Ya ?_)|refine X2 ?_ ?_|(refine Xd ?_ ?_<;>intro hcd<;>try exact Xx))
     all_goals simp[hsu,List.map_set]
  .have hlo':(c.low==-1)=false:=by simp[hlo]
   rw[decide_eq_false hlo,Bool.false_and]at hm9;rw[hm9,Bool.false_and,if_neg (by simp)]at hsu;exact Gy
   all_goals simp[hsu]
 have hi':i=n:=by omega
 subst hi';clear hIz hI;refine Gz ?_;refine WP.toSuf 4 (k:=4) (e:=3) (sz:=1) (fz:=0) (xs:=(bI i may has i).q.map zN) (by simp[b4]) (by simp[g4]) ?_
 refine WP.loopN [] i (λk st=>∃o xs,st.t 1=.ptr 1 0∧st.t 3=.arr 16 i∧st.t 4=.ext (.suf 4 o ((gK i may has (ae s) k).q.length-k) (o+((gK i may has (ae s) k).q.length-k)))∧xs.length=o+((gK i may has (ae s) k).q.length-k)∧xs.drop o=((gK i may has (ae s) k).q.drop k).map zN∧k<=(gK i may has (ae s) k).q.length∧st.h 1=some (.box [.pv (hZ s),.pv (zs p),.pv (zs q),.pv (.val (.func (.func g) #[] #[]))] true false)∧st.h 4=some (.row 3 1 xs 0)∧st.h 16=some (.row 3 1 ((gK i may has (ae s) k).far.map Z) 0)) (by
  refine⟨0,(bI i may has i).q.map zN,?_⟩
  simp[gK,g1,g3,b1,b4,b16,ah]) ?_
 clear g1 g3 g4 g22 g23 g24 b1 b4 b16 b6 st hi hlt;rintro k st hk ⟨o,xs,g1,g3,g4,hxl,hxd,hkq,b1,b4,b16⟩;have hO:=hord k;have hI:=hO.inv;have hle:=hI.le;have hfl:=hI.len;have hfin:=hgk (k:=k);by_cases hlt:k<(gK i may has (ae s) k).q.length
 .have hsk:gK i may has (ae s) (k+1)=gT may (gK i may has (ae s) k) k (ae s (bB (gK i may has (ae s) k) k)) (ae s (bB (gK i may has (ae s) k) k)).length:=by simp only[gK];rw[if_pos hlt]
  rw[hsk];clear hfin hsk;generalize gK i may has (ae s) k=S at *;have hQm:=hI.mem _ (r6 hlt);generalize hQ:bB S k=Q at *
  have hqk:S.q[k]?=some Q:=by
   have:S.q[k]?=some (bB S k):=by simp[bB,List.getElem?_eq_getElem hlt]
   rw[this,hQ]
  have hx0:xs[o]?=some (zN Q):=by
   have h9:=congrArg (λl:List PV=>l[0]?) hxd;simp only[List.getElem?_drop,List.getElem?_map,Nat.add_zero]at h9;rw[h9,hqk];rfl
  have hol:o<xs.length:=(List.getElem?_eq_some_iff.1 hx0).1;have hx0':=aT hx0 hol
  have hQn:Q<s.near.length:=by omega
  have hnQ:s.near[Q]?=some (ae s Q):=by simp[ae,List.getElem?_eq_getElem hQn]
  have hnQ':=aT hnQ hQn
  have hpos:0<S.q.length-k:=by omega
  with_reducible repeat' (first|refine Sp.h ?_|((with_unfolding_all refine WP.sufAt (hn:=[]) (d:=77) 1 rfl rfl rfl rfl ?_);simp -implicitDefEqProofs (maxSteps:=2000000) [hP,hN,g1,g3,g4,hxl,b1,b4,b16,hpos,hx0,hol,hx0'])|((first|refine Wd ?_|refine Ss.h ?_|(refine Sb.h ?_ ?_ ?_<;>(try intro hgd)<;>try exact Xy))<;>simp -implicitDefEqProofs (maxSteps:=2000000) [hP,hN,g1,g3,g4,hxl,b1,b4,b16,hpos,hx0,hol,hx0']<;>try refine Ya ?_)|refine X2 ?_ ?_|(refine Xd ?_ ?_<;>intro hcd<;>try exact Xx))
  refine⟨4,3,1,S.q.length-k,1,o,.i64,0,xs,_,3,8,_,by simp[St.ev,g4],by simp[St.ev],by simp[b4],hxl,by omega,by rw[hP];exact DY,rfl,by omega,by omega,?_⟩;simp -implicitDefEqProofs (maxSteps:=2000000) [hP,hN];refine Gz ?_
  have hxd1:xs.drop (o+1)=(S.q.drop (k+1)).map zN:=by
   have h9:=congrArg (List.drop 1) hxd;rw[List.drop_drop,<-List.map_drop,List.drop_drop]at h9;exact h9
  have hlQ:∀x∈ae s Q,x<i∧tB (ae s) x (bB S k)=true∧(bo s x).low=-1:=λx hx=>⟨(hlf Q x hx).1,by rw[hQ];simp[tB,hx],(hlf Q x hx).2⟩;clear hnQ hnQ' hx0 hx0' hqk;have hll:=hnlb Q;generalize ae s Q=l at *
  refine WP.loopN [] l.length (λj st=>∃o xs,st.t 1=.ptr 1 0∧st.t 3=.arr 16 i∧st.t 7=.pv (Z Q)∧st.t 85=.pv (pd l)∧st.t 86=.pv (Z l.length)∧st.t 87=.pv (Z j)∧st.t 4=.ext (.suf 4 o ((gT may S k l j).q.length-(k+1)) (o+((gT may S k l j).q.length-(k+1))))∧xs.length=o+((gT may S k l j).q.length-(k+1))∧xs.drop o=((gT may S k l j).q.drop (k+1)).map zN∧st.h 1=some (.box [.pv (hZ s),.pv (zs p),.pv (zs q),.pv (.val (.func (.func g) #[] #[]))] true false)∧st.h 4=some (.row 3 1 xs 0)∧st.h 16=some (.row 3 1 ((gT may S k l j).far.map Z) 0)) (by
   refine⟨o+1,xs,?_⟩
   have e1:S.q.length-k-1=S.q.length-(k+1):=by omega
   have e2:o+(S.q.length-k)=o+1+(S.q.length-(k+1)):=by omega
   simp only[gT];rw[<-e2,<-e1]
   simp[ah,g1,g3,b1,b4,b16,hxl,hxd1]) ?_
  clear g1 g3 g4 b1 b4 b16 hxl hxd hxd1 hol hpos st;clear o xs;rintro j st hj ⟨o,xs,g1,g3,g7,g85,g86,g87,g4,hxl,hxd,b1,b4,b16⟩;have V:=yt hI hlt hO.inq (xi (may:=may) (s:=S) (k:=k) (l:=l) j hj) (λx hx=>⟨(hlQ x (List.mem_of_mem_take hx)).1,(hlQ x (List.mem_of_mem_take hx)).2.1⟩);have hTl:=V.inv.le;have hTf:=V.inv.len;have hTq:=V.qs k hlt;have hTk:=V.le;have hVn:=V.inv.nn;have hVt:=V.inv.top;have hVm:=V.inv.mem _ (r6 (Nat.lt_of_lt_of_le hlt V.le));rw[hTq,hQ]at hVm;rw[hQ]at hTq;by_cases hjl:j<l.length
  .have hwj:=au hjl (by omega)
   have hx:l[j]?=some l[j]:=List.getElem?_eq_getElem hjl
   have hsu:gT may S k l (j+1)=if(am (gT may S k l j).far l[j]==0)&&may l[j]then lB (gT may S k l j) k l[j]else gT may S k l j:=by simp only[gT,hx]
   obtain⟨hxn,_,hxlo⟩:=hlQ _ (List.getElem_mem hjl);clear V;generalize gT may S k l j=T at *;generalize hxe:l[j]=x at *
   have hxc:x<s.cells.length:=by omega
   have hci:=hcg x hxn;have hci':=aT hci hxc
   have hxj:x<s.jn.length:=by omega
   have hji:=hjg x hxn;have hji':=aT hji hxj;have c1:=ck x hxc;have c2:=hmay (bo s x).v.kind (iB s x);have hm9:=hmd x;rw[decide_eq_true hxlo,Bool.true_and]at hm9
   have hxf:x<T.far.length:=by omega
   have hfx:T.far[x]?=some (am T.far x):=by simp[am,List.getElem?_eq_getElem hxf]
   have hfx':=aT hfx hxf
   have hQf:Q<T.far.length:=by omega
   have hfQ:T.far[Q]?=some (am T.far Q):=by simp[am,List.getElem?_eq_getElem hQf]
   have hfQ':=aT hfQ hQf
   have hbj:lB T k x=⟨T.far.set x (am T.far Q+1),T.q++[x]⟩:=by simp only[lB,hTq]
   have htQ:=hVt Q;have hnQ:=hVn Q;have hwQ:IntKind.i64.wrap (am T.far Q+1)=am T.far Q+1:=ab;rw[hbj]at hsu;generalize bo s x=cc at *;generalize iB s x=jj at *;generalize am T.far Q=fQ at *;by_cases hf0:am T.far x=0
   .have hf0':(am T.far x==0)=true:=by simp[hf0]
    rw[hf0',Bool.true_and]at hsu
    cases hmx:f cc.v.kind jj with
    |false=>
     rw[hmx]at c2 hm9;rw[hm9,if_neg (by simp)]at hsu;rw[hsu];exact Gy
     all_goals simp[hxl,hxd,hjl]
    |true=>
     rw[hmx]at c2 hm9;rw[hm9,if_pos rfl]at hsu;rw[hsu]
     with_reducible repeat' (first|refine Sp.h ?_|((with_unfolding_all refine WP.appSAt (hn:=[]) (d:=124) 3 rfl rfl rfl rfl ?_);simp -implicitDefEqProofs (maxSteps:=2000000) [hP,hN,g1,g3,g7,g85,g86,g87,g4,hxl,b1,b4,b16,hjl,hwj,hx,hxe,hxc,hci,hci',hxj,hji,hji',hxf,hfx,hfx',hTf,hxn,hVm.1,hf0,hf0',hQf,hfQ,hfQ',hwQ])|((first|refine Wd ?_|refine Ss.h ?_|refine Sc.h (c1) ?_|refine Sc.h (c2) ?_|(refine Sb.h ?_ ?_ ?_<;>(try intro hgd)<;>try exact Xy))<;>simp -implicitDefEqProofs (maxSteps:=2000000) [hP,hN,g1,g3,g7,g85,g86,g87,g4,hxl,b1,b4,b16,hjl,hwj,hx,hxe,hxc,hci,hci',hxj,hji,hji',hxf,hfx,hfx',hTf,hxn,hVm.1,hf0,hf0',hQf,hfQ,hfQ',hwQ]<;>try refine Ya ?_)|refine X2 ?_ ?_|(refine Xd ?_ ?_<;>intro hcd<;>try exact Xx))
     refine⟨4,o,T.q.length-(k+1),3,1,xs,[zN x],_,8,.int .i64 0,by simp[St.ev,g4],by simp[b4],hxl,by simp[St.ev],by simp[lI,i8],by simp,by rw[hP];exact DY,rfl,by omega,rfl,by simp;omega,by simp;omega,by omega,by omega,by omega,?_⟩;intro o' xs' e1 e2;simp -implicitDefEqProofs (maxSteps:=2000000) [hP,hN];refine Gz ?_
     have hkT:k+1<=T.q.length:=by omega
     simp only[List.length_singleton]at e1;refine⟨o',⟨rfl,by omega,by omega⟩,by omega,?_⟩;rw[e2,hxd,List.drop_append_of_le_length (by simpa using hkT),List.map_drop]
   .have hf0':(am T.far x==0)=false:=by simp[hf0]
    rw[hf0',Bool.false_and,if_neg (by simp)]at hsu;rw[hsu];exact Gy
    all_goals simp[hxl,hxd,hjl]
  .have hjn:j=l.length:=by omega
   subst hjn;refine Gz ?_;exact⟨by omega,xs,hxl,by rw[hxd,List.map_drop],by omega,rfl⟩
 .have hF:=hfin (by omega)
  have hz:(gK i may has (ae s) k).q.length-k=0:=by omega
  rw[hF]at b16;rw[hz]at g4 hxl;refine Gz ?_;exact rc.len
theorem xl{α:Type}(f:Nat->α)(r:Nat):(List.range r).map f++[f r]=(List.range (r+1)).map f:=by
 rw[List.range_succ,List.map_append];rfl
set_option maxRecDepth 10000 in
theorem II(s:Spc)(n:Nat)(p q:List Int)(g:FuncId)(f:Int->Int->Bool)(tch:Nat->Nat->Bool)(hs:SpcOk s n)(hp9:p.length<=9223372036854775807)(hq9:q.length<=9223372036854775807)(hmay:∀k j:Int,aa Tryz.prog g [.pv (Z k),.pv (Z j)] [] [] (.pv (B (f k j))))(hsym:∀i j,i<n->j<n->tch i j=tch j i)(hcov:∀i p,i<n->aZ s f i=true->p<n->aZ s f p=true->i≠p->(i∈ae s p↔tch i p=true)):aa Tryz.prog 50 [.pv (.agg [hZ s,zs p,zs q,.val (.func (.func g) #[] #[])])] [] [] (.pv (.tup [pd (dQ n (aZ s f) (aw s.bx q) (aw s.bx p) tch),B (bU n (aZ s f) (aw s.bx q) (aw s.bx p) tch)])):=by
 have cl:=FG s n p q g f tch hs hq9 hmay hcov
 have hb:∀i,i<n->s.bx[i]?=some (ff s.bx i):=λi hi=>by
  have:i<s.bx.length:=by rw[hs.b];exact hi
  simp[ff,List.getElem?_eq_getElem this]
 have cH:=λ(i:Nat)(hi:i<n)=>Cn (ff s.bx i) p (hs.bl _ (List.mem_of_getElem? (hb i hi)));have cH':∀i,i<n->aa Tryz.prog 47 [.pv (iv (ff s.bx i)),.pv (zs p)] [] [] (.pv (B (aw s.bx p i))):=cH;clear cH;have hE:=AZ (n:=n) (may:=aZ s f) (has:=aw s.bx q) (hasF:=aw s.bx p) hsym (λp i hi=>(hs.lf p i hi).1) hcov;have hPA:=λ{a:Nat}=>AY (n:=n) (may:=aZ s f) (has:=aw s.bx q) (a:=a) rfl hsym (λp i hi=>(hs.lf p i hi).1) hcov;have hF:=rc (n:=n) (may:=aZ s f) (has:=aw s.bx q) (tch:=tch);have hbl:=hs.b;have hnl:=hs.r;have hn:=hs.n;have hlf:=hs.lf;have hnlb:=hs.nl;have hT:=(mt (n:=n) (may:=aZ s f) (has:=aw s.bx q) (tch:=tch) n).top;have hQl:=(mt (n:=n) (may:=aZ s f) (has:=aw s.bx q) (tch:=tch) n).le;rw[show dQ n (aZ s f) (aw s.bx q) (aw s.bx p) tch=(jE n (bK n (aZ s f) (aw s.bx q) tch n).far (ae s) (aw s.bx p)).1 by rw[hE],show bU n (aZ s f) (aw s.bx q) (aw s.bx p) tch=(jE n (bK n (aZ s f) (aw s.bx q) tch n).far (ae s) (aw s.bx p)).2 by rw[hE]];clear hE hcov
 have htop:∀i,am (bK n (aZ s f) (aw s.bx q) tch n).far i<=n:=λi=>by have:=hT i;omega
 clear hT hQl;generalize(bK n (aZ s f) (aw s.bx q) tch n).far=F at *;generalize aw s.bx p=hasF at *;have hFl:=hF.len;have hFn:=hF.nn
 have hfg:∀i,i<n->F[i]?=some (am F i):=λi hi=>by simp[am,List.getElem?_eq_getElem (by omega:i<F.length)]
 refine Dp Tryz.func50 ?_;intro C hP hN;simp only[Tryz.f50]at hN|-;refine Gz ?_;refine WP.loopN [] n (λi st=>st.t 1=.ptr 1 0∧st.t 4=.pv (.sl (F.map Z))∧st.t 5=.pv (Z (aS F hasF i))∧st.t 15=.pv (.sl (F.map Z))∧st.t 16=.pv (Z n)∧st.t 17=.pv (Z i)∧st.h 1=some (.box [.pv (hZ s),.pv (zs p),.pv (zs q),.pv (.val (.func (.func g) #[] #[]))] true false)∧st.h 54=none) (by simp[aS,hFl]) ?_;rintro i st hi ⟨g1,g4,g5,g15,g16,g17,b1,b54⟩;have hA:=ru (hasF:=hasF) (far:=F) i;by_cases hlt:i<n
 .have hw:=au hlt (by omega)
  have hif:i<F.length:=by omega
  have hfi:=hfg i hlt;have hfi':=aT hfi hif
  have hib:i<s.bx.length:=by omega
  have hbi:=hb i hlt;have hbi':=aT hbi hib;have c3:=cH' i hlt
  have hsu:aS F hasF (i+1)=if decide (0<am F i)&&hasF i&&(decide (aS F hasF i<0)||decide (am F i<am F (aS F hasF i).toNat))then(i:Int)else aS F hasF i:=rfl
  rw[hsu];clear hsu;by_cases h0:0<am F i
  .rw[decide_eq_true h0,Bool.true_and]
   by_cases ha:aS F hasF i<0
   .have ha1:aS F hasF i=-1:=by omega
    rw[ha1];rw[ha1]at g5
    cases hh:hasF i with
    |false=>
     rw[hh]at c3;exact Gy
     all_goals simp
    |true=>
     rw[hh]at c3;exact Gy
     all_goals simp
   .obtain⟨a,hae⟩:=Int.eq_ofNat_of_zero_le (by omega:0<=aS F hasF i)
    rw[hae]at hA g5|-
    have han:a<n:=by omega
    have haf:a<F.length:=by omega
    have hfa:=hfg a han;have hfa':=aT hfa haf;rw[Int.toNat_natCast];by_cases hl2:am F i<am F a
    .cases hh:hasF i with
     |false=>
      rw[hh]at c3;exact Gy
      all_goals simp
     |true=>
      rw[hh]at c3;exact Gy
      all_goals (first|(simp[hl2];done)|(intros;omega))
    .skip
     refine Gz ?_
     all_goals (first|(simp[hl2];done)|(intros;omega))
  .rw[decide_eq_false h0]
   exact Gy
   all_goals simp
 have hin:i=n:=by omega
 subst hin;by_cases h0:0<=aS F hasF i
 case neg=>
  have ha1:aS F hasF i=-1:=by omega
  have hres:jE i F (ae s) hasF=([],false):=by simp[jE,ha1]
  rw[hres];rw[ha1]at g5;exact Gy
 obtain⟨a,hae⟩:=Int.eq_ofNat_of_zero_le h0;obtain⟨ha0,_⟩:=hA.2.2 h0
 have hres:jE i F (ae s) hasF=((List.range (am F a).toNat).map (eQ F (ae s) a),true):=by simp[jE,hae]
 rw[hres];rw[hae]at g5 hA ha0;rw[Int.toNat_natCast]at ha0
 have han:a<i:=by omega
 have hPa:=hPA han ha0
 have haf:a<F.length:=by omega
 have hfa:=hfg a han;have hfa':=aT hfa haf;have hta:=htop a;have hw1:IntKind.i64.wrap (am F a-1)=am F a-1:=ab;clear hPA h0 hres
 with_reducible repeat' (first|refine Sp.h ?_|((first|refine Wh [54] ?_|refine Wi [54] ?_|refine Ss.h ?_|(refine Sb.h ?_ ?_ ?_<;>(try intro hgd)<;>try exact Xy))<;>simp -implicitDefEqProofs (maxSteps:=2000000) [hP,hN,g1,g4,g5,g15,g16,g17,b1,b54,hlt,haf,hfa,hfa',hw1]<;>try refine Ya ?_)|refine X2 ?_ ?_|(refine Xd ?_ ?_<;>intro hcd<;>try exact Xx))
 refine WP.loopN [] (am F a).toNat (λr st=>st.t 1=.ptr 1 0∧st.t 4=.pv (.sl (F.map Z))∧st.t 5=.pv (Z (eQ F (ae s) a r:Int))∧st.t 8=.arr 54 (r+1)∧st.t 9=.pv (Z (am F a-1-r))∧st.h 1=some (.box [.pv (hZ s),.pv (zs p),.pv (zs q),.pv (.val (.func (.func g) #[] #[]))] true false)∧st.h 54=some (.row 3 1 ((List.range (r+1)).map λm=>Z (eQ F (ae s) a m:Int)) 0)∧(r:Int)<am F a) (by simp[eQ,g1,g4,g5,b1,ha0]) ?_;clear g1 g4 g5 g15 g16 g17 b1 b54 hlt st hi;rintro r st hr ⟨g1,g4,g5,g8,g9,b1,b54,hra⟩;obtain⟨_,hpn,hpf,hpz⟩:=hPa r hra;by_cases hlt:0<am F a-1-r
 .have hz:=hpz (by omega)
  have hsu:eQ F (ae s) a (r+1)=(nP F (am F a-1-r) (ae s (eQ F (ae s) a r)) (ae s (eQ F (ae s) a r)).length).toNat:=rfl
  have hps:s.near[eQ F (ae s) a r]?=some (ae s (eQ F (ae s) a r)):=by simp[ae,List.getElem?_eq_getElem (by omega:eQ F (ae s) a r<s.near.length)]
  have hpl:eQ F (ae s) a r<s.near.length:=by omega
  have hps':=aT hps hpl;have hll:=hnlb (eQ F (ae s) a r);have hlQ:∀x∈ae s (eQ F (ae s) a r),x<i:=λx hx=>(hlf _ x hx).1;have hrs:=xl (λm=>Z (eQ F (ae s) a m:Int)) (r+1)
  with_reducible repeat' (first|refine Sp.h ?_|((first|refine Wd ?_|refine Ss.h ?_|(refine Sb.h ?_ ?_ ?_<;>(try intro hgd)<;>try exact Xy))<;>simp -implicitDefEqProofs (maxSteps:=2000000) [hP,hN,g1,g4,g5,g8,g9,b1,b54,hlt,hps,hpl,hps',hnl]<;>try refine Ya ?_)|refine X2 ?_ ?_|(refine Xd ?_ ?_<;>intro hcd<;>try exact Xx))
  clear hps hps' hPa hpz;generalize hl9:ae s (eQ F (ae s) a r)=l at *;obtain⟨m,hm9⟩:∃m,m=am F a-1-r:=⟨_,rfl⟩;rw[<-hm9]at hz hsu g9 hlt;refine WP.loopN [] l.length (λj st=>st.t 1=.ptr 1 0∧st.t 4=.pv (.sl (F.map Z))∧st.t 8=.arr 54 (r+1)∧st.t 9=.pv (Z m)∧st.t 10=.pv (Z (nP F m l j))∧st.t 71=.pv (pd l)∧st.t 72=.pv (Z l.length)∧st.t 73=.pv (Z j)∧st.h 1=some (.box [.pv (hZ s),.pv (zs p),.pv (zs q),.pv (.val (.func (.func g) #[] #[]))] true false)∧st.h 54=some (.row 3 1 ((List.range (r+1)).map λm=>Z (eQ F (ae s) a m:Int)) 0)) (by simp[nP,g1,g4,g8,g9,b1,b54]) ?_;clear g1 g4 g5 g8 g9 b1 b54 st;rintro j st hj ⟨g1,g4,g8,g9,g10,g71,g72,g73,b1,b54⟩;by_cases hjl:j<l.length
  .have hwj:=au hjl (by omega)
   have hx:l[j]?=some l[j]:=List.getElem?_eq_getElem hjl;have hxn:=hlQ _ (List.getElem_mem hjl)
   have hs2:nP F m l (j+1)=if(am F l[j]==m)&&(nP F m l j==-1||decide ((l[j]:Int)<nP F m l j))then(l[j]:Int)else nP F m l j:=by simp only[nP,hx]
   rw[hs2];clear hs2;generalize hxe:l[j]=x at *
   have hxf:x<F.length:=by omega
   have hfx:=hfg x hxn;have hfx':=aT hfx hxf;generalize nP F m l j=y at *;by_cases h1:am F x=m
   .by_cases h2:y=-1
    .subst h2
     exact GS (gA g1 (gA g4 (gA g8 (gA g9 (gA g10 (gA g71 (gA g72 (gA g73 (gA b1 (gA b54 (gA hjl (gA hwj (gA hx (gA hxe (gA hxf (gA hfx (gA hfx' h1)))))))))))))))))
     all_goals simp[h1]
    .by_cases h3:(x:Int)<y
     .skip
      exact GS (gA g1 (gA g4 (gA g8 (gA g9 (gA g10 (gA g71 (gA g72 (gA g73 (gA b1 (gA b54 (gA hjl (gA hwj (gA hx (gA hxe (gA hxf (gA hfx (gA hfx' (gA h1 (gA h2 h3)))))))))))))))))))
      all_goals simp[h1,h2,h3]
     .skip
      exact GS (gA g1 (gA g4 (gA g8 (gA g9 (gA g10 (gA g71 (gA g72 (gA g73 (gA b1 (gA b54 (gA hjl (gA hwj (gA hx (gA hxe (gA hxf (gA hfx (gA hfx' (gA h1 (gA h2 h3)))))))))))))))))))
      all_goals simp[h1,h2,h3]
   .skip
    exact GS (gA g1 (gA g4 (gA g8 (gA g9 (gA g10 (gA g71 (gA g72 (gA g73 (gA b1 (gA b54 (gA hjl (gA hwj (gA hx (gA hxe (gA hxf (gA hfx (gA hfx' h1)))))))))))))))))
    all_goals simp[h1]
  .have hjn:j=l.length:=by omega
   subst hjn;obtain⟨Y,hY⟩:=Int.eq_ofNat_of_zero_le hz;rw[hY,Int.toNat_natCast]at hsu;rw[hY]at g10;rw[hsu]at hrs;have hw9:IntKind.i64.wrap (m-1)=m-1:=ab;refine GT (gA g1 (gA g4 (gA g8 (gA g9 (gA g10 (gA g71 (gA g72 (gA g73 (gA b1 (gA b54 (gA hjl (gA hw9 (gA hsu (gA (show(r+1+1)*8<=140737488355328 by omega) (show r+1+1<=9223372036854775807 by omega))))))))))))))) ?_;exact⟨hra,by omega,hrs,by omega⟩
 .skip
  refine GT (gA g1 (gA g4 (gA g5 (gA g8 (gA g9 (gA b1 (gA b54 hlt))))))) ?_;rw[show(am F a).toNat=r+1 by omega];rfl
def qB(k _:Int):Bool:=k==1
def mK(k _:Int):Bool:=k !=2
def qC(k j:Int):Bool:=k==1||(k==0&&j != -1)
def vE(k j:Int):Bool:=k==1||(k==0&&j==-1)
theorem N3(k j:Int):aa Tryz.prog 79 [.pv (Z k),.pv (Z j)] [] [] (.pv (B (qB k j))):=by
 refine Dp Tryz.func79 ?_;intro C hP hN;simp only[Tryz.f79]at hN|-;refine Gz ?_
 all_goals (first|(simp_all[qB];done)|((try simp_all[qB])<;>(try omega)<;>grind))
theorem N4(k j:Int):aa Tryz.prog 80 [.pv (Z k),.pv (Z j)] [] [] (.pv (B (mK k j))):=by
 refine Dp Tryz.func80 ?_;intro C hP hN;simp only[Tryz.f80]at hN|-;refine Gz ?_
 all_goals (first|(simp_all[mK];done)|((try simp_all[mK])<;>(try omega)<;>grind))
theorem N5(k j:Int):aa Tryz.prog 81 [.pv (Z k),.pv (Z j)] [] [] (.pv (B (qC k j))):=by
 unfold qC;by_cases h1:k=1
 .have h1':(k==1)=true:=by simp[h1]
  refine Dp Tryz.func81 ?_;intro C hP hN;simp only[Tryz.f81]at hN|-;exact Gy
  all_goals simp[h1]
 .have h1':(k==1)=false:=by simp[h1]
  by_cases h0:k=0
  .have h0':(k==0)=true:=by simp[h0]
   refine Dp Tryz.func81 ?_;intro C hP hN;simp only[Tryz.f81]at hN|-;exact Gy
   all_goals simp[h1',h0']
  .have h0':(k==0)=false:=by simp[h0]
   refine Dp Tryz.func81 ?_;intro C hP hN;simp only[Tryz.f81]at hN|-;exact Gy
   all_goals simp[h1',h0']
theorem N6(k j:Int):aa Tryz.prog 82 [.pv (Z k),.pv (Z j)] [] [] (.pv (B (vE k j))):=by
 unfold vE;by_cases h1:k=1
 .have h1':(k==1)=true:=by simp[h1]
  refine Dp Tryz.func82 ?_;intro C hP hN;simp only[Tryz.f82]at hN|-;exact Gy
  all_goals simp[h1]
 .have h1':(k==1)=false:=by simp[h1]
  by_cases h0:k=0
  .have h0':(k==0)=true:=by simp[h0]
   refine Dp Tryz.func82 ?_;intro C hP hN;simp only[Tryz.f82]at hN|-;exact Gy
   all_goals simp[h1',h0']
  .have h0':(k==0)=false:=by simp[h0]
   refine Dp Tryz.func82 ?_;intro C hP hN;simp only[Tryz.f82]at hN|-;exact Gy
   all_goals simp[h1',h0']
structure SpcC(s:Spc)(n:Nat)(tch:Nat->Nat->Bool):Prop where
 ok:SpcOk s n
 sym:∀i j,i<n->j<n->tch i j=tch j i
 cov:∀i p,i<n->(bo s i).low=-1->p<n->(bo s p).low=-1->i≠p->(i∈ae s p↔tch i p=true)
theorem SpcC.cv(h:SpcC s n tch)(f:Int->Int->Bool):∀i p,i<n->aZ s f i=true->p<n->aZ s f p=true->i≠p->(i∈ae s p↔tch i p=true):=by
 intro i p hi hm hp hmp hne;simp only[aZ,Bool.and_eq_true,decide_eq_true_eq]at hm hmp;exact h.cov i p hi hm.1 hp hmp.1 hne
theorem N7{g:PV}{a b c:List PV}:∀(i j:Nat),([.pv g,.bx 0,.bx 1,.bx 2]:List Arg)[i]?=some (.bx j)->j< [a,b,c].length
 |0,j,h=>by simp at h
 |1,j,h=>by simp at h;subst h;simp
 |2,j,h=>by simp at h;subst h;simp
 |3,j,h=>by simp at h;subst h;simp
 |i+4,j,h=>by simp at h
theorem GU(s:Spc)(n:Nat)(p q:List Int)(g:FuncId)(f:Int->Int->Bool)(tch:Nat->Nat->Bool)(hs:SpcC s n tch)(hp9:p.length<=9223372036854775807)(hq9:q.length<=9223372036854775807)(hmay:∀k j:Int,aa Tryz.prog g [.pv (Z k),.pv (Z j)] [] [] (.pv (B (f k j)))):
 aa Tryz.prog 78 [.pv (.val (.func (.func g) #[] #[])),.bx 0,.bx 1,.bx 2] [[hZ s],[zs p],[zs q]] [[hZ s],[zs p],[zs q]] (.pv (.tup [pd (dQ n (aZ s f) (aw s.bx q) (aw s.bx p) tch),B (bU n (aZ s f) (aw s.bx q) (aw s.bx p) tch)])):=by
 have c1:=Hz s p q g;have c2:=II s n p q g f tch hs.ok hp9 hq9 hmay hs.sym (hs.cv f);generalize dQ n (aZ s f) (aw s.bx q) (aw s.bx p) tch=L at *;generalize bU n (aZ s f) (aw s.bx q) (aw s.bx p) tch=O at *;refine qU Tryz.func78 rfl (by kernel_rfl) (by simp[Tryz.f78]) rfl (by exact N7) ?_;intro C hP hN;simp only[Tryz.f78]at hN|-;refine Gz ?_;exact λi ps h=>⟨ps,h,rfl⟩
def zg(s:Spc)(k:Nat):Bool:=decide ((bo s k).v.kind=0)&&decide (iB s k≠-1)
def nu(s:Spc)(c:List Nat):Int×Int×Int:=match c.find? (zg s)with
 |some k=>((k:Int),iB s k,3)
 |none=>(-1,-1,0)
def rd(s:Spc)(n:Nat)(p q:List Int)(tch:Nat->Nat->Bool):Int×Int×Int:=
 if bU n (aZ s qB) (aw s.bx q) (aw s.bx p) tch=true then(-1,-1,1)
 else if bU n (aZ s mK) (aw s.bx q) (aw s.bx p) tch=false then(-1,-1,2)
 else if bU n (aZ s qC) (aw s.bx q) (aw s.bx p) tch=true then nu s (dQ n (aZ s qC) (aw s.bx q) (aw s.bx p) tch)
 else if bU n (aZ s vE) (aw s.bx q) (aw s.bx p) tch=true then(-1,-1,5)
 else nu s (dQ n (aZ s mK) (aw s.bx q) (aw s.bx p) tch)
def pc(s:Spc)(c:List Nat)(i:Nat):Prop:=∀j x,j<i->c[j]?=some x->zg s x=false
theorem pc.step{c:List Nat}(h:pc s c i)(hk:c[i]?=some k)(hp:zg s k=false):pc s c (i+1):=by
 intro j x hj hx;by_cases e:j=i
 .subst e;rw[hk]at hx;injection hx with hx;subst hx;exact hp
 .exact h j x (by omega) hx
theorem Cr{c:List Nat}(h:pc s c c.length):nu s c=(-1,-1,0):=by
 have:c.find? (zg s)=none:=by
  rw[List.find?_eq_none];intro x hx;obtain⟨j,hj⟩:=List.getElem?_of_mem hx;rw[h j x (List.getElem?_eq_some_iff.1 hj).1 hj];simp
 rw[nu,this]
theorem A1{c:List Nat}(h:pc s c i)(hk:c[i]?=some k)(hp:zg s k=true):nu s c=((k:Int),iB s k,3):=by
 have:c.find? (zg s)=some k:=by
  obtain⟨hi,rfl⟩:=List.getElem?_eq_some_iff.1 hk;rw[List.find?_eq_some_iff_getElem];refine⟨hp,i,hi,rfl,λj hj=>?_⟩;have:=h j _ hj (List.getElem?_eq_getElem (by omega));rw[this];rfl
 rw[nu,this]
theorem Cs{may has:Nat->Bool}(hsym:∀i j,i<n->j<n->tch i j=tch j i):(dQ n may has hasF tch).length<=n∧∀k∈dQ n may has hasF tch,k<n:=by
 cases h:bU n may has hasF tch with
 |true=>
  obtain⟨_,b2,b3,_⟩:=xT hsym h;refine⟨b2,λk hk=>?_⟩;obtain⟨j,hj⟩:=List.getElem?_of_mem hk;exact(b3 j k hj).1
 |false=>simp[dQ,h]
theorem N8(s:Spc)(n:Nat)(p q:List Int)(tch:Nat->Nat->Bool)(hs:SpcC s n tch)(hp9:p.length<=9223372036854775807)(hq9:q.length<=9223372036854775807):aa Tryz.prog 36 [.pv (hZ s),.pv (zs p),.pv (zs q)] [] [] (.pv (.tup [Z (rd s n p q tch).1,Z (rd s n p q tch).2.1,Z (rd s n p q tch).2.2])):=by
 have b0:=GU s n p q 79 qB tch hs hp9 hq9 N3;have b3:=GU s n p q 80 mK tch hs hp9 hq9 N4;have b1:=GU s n p q 81 qC tch hs hp9 hq9 N5;have b2:=GU s n p q 82 vE tch hs hp9 hq9 N6;have m1:=Cs (n:=n) (may:=aZ s qC) (has:=aw s.bx q) (hasF:=aw s.bx p) hs.sym;have m3:=Cs (n:=n) (may:=aZ s mK) (has:=aw s.bx q) (hasF:=aw s.bx p) hs.sym
 have hG:rd s n p q tch=if bU n (aZ s qB) (aw s.bx q) (aw s.bx p) tch=true then(-1,-1,1)else if bU n (aZ s mK) (aw s.bx q) (aw s.bx p) tch=false then(-1,-1,2)else if bU n (aZ s qC) (aw s.bx q) (aw s.bx p) tch=true then nu s (dQ n (aZ s qC) (aw s.bx q) (aw s.bx p) tch)else if bU n (aZ s vE) (aw s.bx q) (aw s.bx p) tch=true then(-1,-1,5)else nu s (dQ n (aZ s mK) (aw s.bx q) (aw s.bx p) tch):=rfl
 have hcl:=hs.ok.c;have hjl:=hs.ok.j;have hn:=hs.ok.n;rw[hG];clear hG hs;generalize dQ n (aZ s qB) (aw s.bx q) (aw s.bx p) tch=C0 at *;generalize dQ n (aZ s qC) (aw s.bx q) (aw s.bx p) tch=C1 at *;generalize dQ n (aZ s vE) (aw s.bx q) (aw s.bx p) tch=C2 at *;generalize dQ n (aZ s mK) (aw s.bx q) (aw s.bx p) tch=C3 at *;generalize bU n (aZ s qB) (aw s.bx q) (aw s.bx p) tch=O0 at *;generalize bU n (aZ s qC) (aw s.bx q) (aw s.bx p) tch=O1 at *;generalize bU n (aZ s vE) (aw s.bx q) (aw s.bx p) tch=O2 at *;generalize bU n (aZ s mK) (aw s.bx q) (aw s.bx p) tch=O3 at *
 cases O0 with
 |true=>
  simp only[if_true];refine Dp Tryz.func36 ?_;intro C hP hN;simp only[Tryz.f36]at hN|-;exact Gy
 |false=>
 simp only[Bool.false_eq_true,if_false]
 cases O3 with
 |false=>
  simp only[if_true];refine Dp Tryz.func36 ?_;intro C hP hN;simp only[Tryz.f36]at hN|-;exact Gy
 |true=>
 simp only[Bool.true_eq_false,if_false]
 cases O1 with
 |true=>
  simp only[if_true];obtain⟨hlen,hmem⟩:=m1;refine Dp Tryz.func36 ?_;intro C hP hN;simp only[Tryz.f36]at hN|-;refine Gz ?_;refine WP.loopN [] (C1).length (λi st=>st.t 3=.ptr 3 0∧st.h 3=some (.box [.pv (hZ s)] true false)∧st.t 47=.pv (pd (C1))∧st.t 48=.pv (Z (C1).length)∧st.t 49=.pv (Z i)∧pc s (C1) i) ?_ ?_
  .simp
   exact λj x hj=>by omega
  rintro i st hi ⟨g3,b3,g47,g48,g49,hq0⟩;by_cases hlt:i<(C1).length
  .have hlt':(i:Int)<((C1).length:Int):=by omega
   have hwr:=au hlt (by omega);generalize hke:(C1)[i]=k at *
   have hk:(C1)[i]?=some k:=by rw[List.getElem?_eq_getElem hlt,hke]
   have hkn:=hmem k (List.mem_of_getElem? hk)
   have hkc:k<s.cells.length:=by omega
   have hkj:k<s.jn.length:=by omega
   have hji:s.jn[k]?=some (iB s k):=by simp[iB,List.getElem?_eq_getElem hkj]
   have hji':∀h,s.jn[k]'h=iB s k:=λh=>aT hji h;have ck:=GR s k hkc;have hkd:zg s k=(decide ((bo s k).v.kind=0)&&decide (iB s k≠-1)):=rfl;have hyes:=A1 hq0 hk;generalize(bo s k).v.kind=kd at *;generalize iB s k=jj at *;by_cases h0:kd=0
   .have h0':(kd==0)=true:=by simp[h0]
    by_cases h1:jj=-1
    .have h1':(jj != -1)=false:=by simp[h1]
     have hst:pc s (C1) (i+1):=pc.step hq0 hk (by rw[hkd];simp[h1]);exact Gy
     all_goals exact hst
    .have h1':(jj != -1)=true:=by simp[h1]
     rw[hyes (by rw[hkd];simp[h0,h1])];exact Gy
   .have h0':(kd==0)=false:=by simp[h0]
    have hst:pc s (C1) (i+1):=pc.step hq0 hk (by rw[hkd];simp[h0]);exact Gy
    all_goals exact hst
  .have hin:i=(C1).length:=by omega
   subst hin;rw[Cr hq0];exact Gy
 |false=>
 simp only[Bool.false_eq_true,if_false]
 cases O2 with
 |true=>
  simp only[if_true];refine Dp Tryz.func36 ?_;intro C hP hN;simp only[Tryz.f36]at hN|-;exact Gy
 |false=>
  simp only[Bool.false_eq_true,if_false];obtain⟨hlen,hmem⟩:=m3;refine Dp Tryz.func36 ?_;intro C hP hN;simp only[Tryz.f36]at hN|-;refine Gz ?_;refine WP.loopN [] (C3).length (λi st=>st.t 3=.ptr 3 0∧st.h 3=some (.box [.pv (hZ s)] true false)∧st.t 47=.pv (pd (C3))∧st.t 48=.pv (Z (C3).length)∧st.t 49=.pv (Z i)∧pc s (C3) i) ?_ ?_
  .simp
   exact λj x hj=>by omega
  rintro i st hi ⟨g3,b3,g47,g48,g49,hq0⟩;by_cases hlt:i<(C3).length
  .have hlt':(i:Int)<((C3).length:Int):=by omega
   have hwr:=au hlt (by omega);generalize hke:(C3)[i]=k at *
   have hk:(C3)[i]?=some k:=by rw[List.getElem?_eq_getElem hlt,hke]
   have hkn:=hmem k (List.mem_of_getElem? hk)
   have hkc:k<s.cells.length:=by omega
   have hkj:k<s.jn.length:=by omega
   have hji:s.jn[k]?=some (iB s k):=by simp[iB,List.getElem?_eq_getElem hkj]
   have hji':∀h,s.jn[k]'h=iB s k:=λh=>aT hji h;have ck:=GR s k hkc;have hkd:zg s k=(decide ((bo s k).v.kind=0)&&decide (iB s k≠-1)):=rfl;have hyes:=A1 hq0 hk;generalize(bo s k).v.kind=kd at *;generalize iB s k=jj at *;by_cases h0:kd=0
   .have h0':(kd==0)=true:=by simp[h0]
    by_cases h1:jj=-1
    .have h1':(jj != -1)=false:=by simp[h1]
     have hst:pc s (C3) (i+1):=pc.step hq0 hk (by rw[hkd];simp[h1]);exact Gy
     all_goals exact hst
    .have h1':(jj != -1)=true:=by simp[h1]
     rw[hyes (by rw[hkd];simp[h0,h1])];exact Gy
   .have h0':(kd==0)=false:=by simp[h0]
    have hst:pc s (C3) (i+1):=pc.step hq0 hk (by rw[hkd];simp[h0]);exact Gy
    all_goals exact hst
  .have hin:i=(C3).length:=by omega
   subst hin;rw[Cr hq0];exact Gy
def vG(k j a:Nat):Nat:=if a<k then(if a<j then k+1 else k)else if a=k then j else 0
def ft(t:Tr)(l:List Nat)(k j v:Nat):List Nat:=if v∈l then(l.take (vG k j (l.idxOf v))).filter (λu=>decide (u≠v)&&eA (ao t) u v)else[]
def cQ(cc:Bool)(t:Tr)(l:List Nat)(k j:Nat):Spc:={root:=t.root,cells:=t.cells,bx:=ao t,near:=(List.range t.cells.length).map (ft t l k j),jn:=List.replicate t.cells.length (-1),cc:=cc}
theorem ny(h:v<t.cells.length):ae (cQ cc t l k j) v=ft t l k j v:=by simp[ae,cQ,h]
theorem xp(hd:l.Nodup):∀{k:Nat}(h:k<l.length),l.idxOf l[k]=k:=by
 induction l with
 |nil=>intro k h;simp at h
 |cons a l ih=>
  intro k h;have hd':=List.nodup_cons.1 hd
  cases k with
  |zero=>rw[List.getElem_cons_zero,List.idxOf_cons_self]
  |succ k=>
   have hk:k<l.length:=by simpa using h
   have hne:¬a=l[k]:=λe=>hd'.1 (by rw[e];exact List.getElem_mem _);have e:=ih hd'.2 hk;rw[List.getElem_cons_succ,List.idxOf_cons,e,beq_false_of_ne hne];rfl
theorem A4(h:v∈l):l[l.idxOf v]?=some v∧l.idxOf v<l.length:=by
 have:=List.idxOf_lt_length_of_mem h;refine⟨?_,this⟩;rw[List.getElem?_eq_getElem this,List.getElem_idxOf]
theorem EF:(cQ cc t l 0 0).near=List.replicate t.cells.length []:=by
 have:ft t l 0 0=λ_=>[]:=by funext v;unfold ft vG;simp
 unfold cQ;rw[this];simp only[List.map_const',List.length_range]
theorem EG(hd:l.Nodup)(hk:k<l.length):cQ cc t l k k=cQ cc t l (k+1) 0:=by
 have:ft t l k k=ft t l (k+1) 0:=by
  funext v
  unfold ft;split
  .rename_i hm
   obtain⟨h1,h2⟩:=A4 hm;generalize l.idxOf v=a at *;unfold vG;by_cases e1:a<k
   .rw[if_pos e1,if_pos e1,if_pos (by omega),if_neg (by omega)]
   .rw[if_neg e1]
    by_cases e2:a=k
    .subst e2
     rw[if_pos rfl,if_pos (by omega),if_neg (by omega),List.take_add_one,h1];simp
    .rw[if_neg e2,if_neg (by omega)]
     split<;>simp
  .rfl
 unfold cQ;rw[this]
theorem EH(hv:ay t=true)(hd:l.Nodup)(hl:∀v∈l,v<t.cells.length)(hk:k<l.length)(hj:j<k):dP (cQ cc t l k j) l[k] l[j]=cQ cc t l k (j+1):=by
 have hjl:j<l.length:=by omega
 have ik:=xp hd hk;have ij:=xp hd hjl;have mk:l[k]∈l:=List.getElem_mem _;have mj:l[j]∈l:=List.getElem_mem _;have nk:=hl _ mk;have nj:=hl _ mj
 have hne:l[k]≠l[j]:=λe=>by
  have:=ij;rw[<-e,ik]at this;omega
 have hsy:=xL hv l[j] l[k] nj nk;have gk:l[k]?=some l[k]:=List.getElem?_eq_getElem hk;have gj:l[j]?=some l[j]:=List.getElem?_eq_getElem hjl;have ht:eo (fE (cQ cc t l k j) l[k]) (fE (cQ cc t l k j) l[j])=eA (ao t) l[k] l[j]:=rfl;generalize hA:l[k]=A at *;generalize hB:l[j]=B at *
 have fj:ft t l k (j+1) B=ft t l k j B++(if eA (ao t) A B=true then[A]else[]):=by
  unfold ft;rw[if_pos mj,if_pos mj,ij];unfold vG;rw[if_pos hj,if_pos hj,if_pos (by omega),if_neg (by omega),List.take_add_one,gk,List.filter_append]
  congr 1
  cases h:eA (ao t) A B<;>simp[h,hne]
 have fk:ft t l k (j+1) A=ft t l k j A++(if eA (ao t) A B=true then[B]else[]):=by
  unfold ft;rw[if_pos mk,if_pos mk,ik];unfold vG;rw[if_neg (by omega),if_pos rfl,if_neg (by omega),if_pos rfl,List.take_add_one,gj,List.filter_append]
  congr 1
  cases h:eA (ao t) A B with
  |true=>rw[h]at hsy;simp[hsy,Ne.symm hne]
  |false=>rw[h]at hsy;simp[hsy]
 have fo:∀v,v≠A->v≠B->ft t l k (j+1) v=ft t l k j v:=by
  intro v h1 h2;unfold ft;split
  .rename_i hm
   obtain⟨g1,g2⟩:=A4 hm
   have n1:l.idxOf v≠k:=λe=>by rw[e,gk]at g1;injection g1 with g1;exact h1 g1.symm
   have n2:l.idxOf v≠j:=λe=>by rw[e,gj]at g1;injection g1 with g1;exact h2 g1.symm
   generalize l.idxOf v=a at *;unfold vG;by_cases e1:a<k
   .rw[if_pos e1,if_pos e1]
    by_cases e2:a<j
    .rw[if_pos e2,if_pos (by omega)]
    .rw[if_neg e2,if_neg (by omega)]
   .rw[if_neg e1,if_neg e1,if_neg n1,if_neg n1]
  .rfl
 have hnear:(dP (cQ cc t l k j) A B).near=(cQ cc t l k (j+1)).near:=by
  apply List.ext_getElem?;intro v;by_cases hvl:v<t.cells.length
  .have hlen:(dP (cQ cc t l k j) A B).near.length=t.cells.length:=by rw[(gG _ _ _).1];simp[cQ]
   have e1:∀s:Spc,v<s.near.length->s.near[v]?=some (ae s v):=λs h=>by simp[ae,List.getElem?_eq_getElem h]
   rw[e1 _ (by omega),e1 _ (by simp[cQ,hvl]),ly hne (by simp[cQ,nk]) (by simp[cQ,nj]),ht,ny hvl,ny hvl]
   congr 1
   by_cases e2:v=A
   .subst e2
    rw[fk];cases eA (ao t) v B<;>simp
   .by_cases e3:v=B
    .subst e3
     rw[fj];cases eA (ao t) A v<;>simp[e2]
    .rw[fo v e2 e3]
     simp[e2,e3]
  .rw[List.getElem?_eq_none (by rw[(gG _ _ _).1];simp[cQ];omega),List.getElem?_eq_none (by simp[cQ];omega)]
 obtain⟨_,b2,b3,b4,b5⟩:=gG (cQ cc t l k j) A B;have b6:=uz (cQ cc t l k j) A B;generalize hm:dP (cQ cc t l k j) A B=m at *;cases m;simp only at hnear b2 b3 b4 b5 b6;subst hnear;subst b2;subst b3;subst b4;subst b5;subst b6;rfl
def iF(cc:Bool)(t:Tr):Spc:=cQ cc t (aD t) (aD t).length 0
theorem EI(t:Tr):(aD t).Nodup:=by
 unfold aD;split
 .exact List.Pairwise.filter _ List.nodup_range
 .exact List.nodup_nil
theorem tC(h:v∈aD t):v<t.cells.length∧dZ t v=true:=by
 obtain⟨_,c,hc,hl⟩:=qI.1 h;exact⟨(List.getElem?_eq_some_iff.1 hc).1,by unfold dZ;rw[hc];exact hl⟩
theorem zi(hv:ay t=true)(h:dZ t v=true):v∈aD t:=by
 obtain⟨c,hc,hl,_⟩:=tT h;exact qI.2 ⟨hv,c,hc,hl⟩
theorem FO(hv:ay t=true)(h:dZ t v=true):ae (iF cc t) v=(aD t).filter (λu=>decide (u≠v)&&eA (ao t) u v):=by
 have hm:=zi hv h;unfold iF;rw[ny (tC hm).1];unfold ft vG;rw[if_pos hm,if_pos (A4 hm).2,if_neg (by omega),List.take_length]
theorem Ct:(ae (cQ cc t l k j) v).length<=l.length:=by
 by_cases h:v<t.cells.length
 .rw[ny h]
  unfold ft;split
  .refine Nat.le_trans (List.length_filter_le _ _) ?_
   rw[List.length_take];omega
  .simp
 .simp[ae,cQ,List.getElem?_eq_none,Nat.le_of_not_lt h]
theorem FP{u:Nat}(h:u∈ae (cQ cc t l k j) v):u∈l:=by
 by_cases hv:v<t.cells.length
 .rw[ny hv]at h
  unfold ft at h;split at h
  .exact List.mem_of_mem_take ((List.mem_filter.1 h).1)
  .cases h
 .simp[ae,cQ,List.getElem?_eq_none,Nat.le_of_not_lt hv]at h
theorem xq(hv:ay t=true):(aD t).length<=t.cells.length:=by
 unfold aD;rw[if_pos hv];exact m9 t _
theorem Cu{c:Cel}(h:s.cells[i]?=some c):bo s i=c:=by simp[bo,h]
theorem JW{jn:List Int}(hv:ay t=true)(hj:jn.length=t.cells.length):SpcC {iF cc t with jn:=jn} t.cells.length (eA (ao t)):=by
 obtain⟨z1,z2,z3,z4,z5⟩:=bG.1 (dz hv);have hcl:∀{i:Nat}{c:Cel},t.cells[i]?=some c->bo {iF cc t with jn:=jn} i=c:=λh=>Cu h
 have hlow:∀{i:Nat},i<t.cells.length->((bo {iF cc t with jn:=jn} i).low=-1↔dZ t i=true):=by
  intro i hi;have hc:t.cells[i]?=some t.cells[i]:=List.getElem?_eq_getElem hi;rw[hcl hc]
  have hl:dZ t i=cO t.cells[i]:=by unfold dZ;rw[hc]
  rw[hl,<-BA hv hc];simp
 have hnr:∀v,ae {iF cc t with jn:=jn} v=ae (iF cc t) v:=λ_=>rfl;refine⟨⟨z2,rfl,eN hv,by simp[iF,cQ],hj,λb hb=>?_,λp i hi=>?_,λp=>?_⟩,xL hv,λi p hi hil hp hpl hne=>?_⟩
 .obtain⟨j,hj⟩:=List.getElem?_of_mem hb
  have:=(gJ hj).1;omega
 .rw[hnr]at hi
  have:=tC (FP hi);exact⟨this.1,(hlow this.1).2 this.2⟩
 .rw[hnr]
  have:=Ct (cc:=cc) (t:=t) (l:=aD t) (k:=(aD t).length) (j:=0) (v:=p);have:=xq hv;unfold iF;omega
 .rw[hnr,FO hv ((hlow hp).1 hpl),List.mem_filter]
  have:=zi hv ((hlow hi).1 hil);simp[this,hne]
def k9{α β:Type}(f:α->Option β):List α->Option (List β)
 |[]=>some []
 |x::r=>match f x,k9 f r with
  |some y,some ys=>some (y::ys)
  |_,_=>none
theorem rA{α β:Type}{f:α->Option β}:∀{l:List α}{r:List β},k9 f l=some r->l.length=r.length∧∀(i:Nat) y,r[i]?=some y->∃x,l[i]?=some x∧f x=some y
 |[],r,h=>by simp only[k9]at h;injection h with h;subst h;exact⟨rfl,λi y hy=>by simp at hy⟩
 |x::l,r,h=>by
  simp only[k9]at h;split at h
  .rename_i y ys h1 h2
   injection h with h;subst h;obtain⟨g1,g2⟩:=rA h2;refine⟨by simp[g1],λi z hz=>?_⟩
   cases i with
   |zero=>simp at hz;subst hz;exact⟨x,rfl,h1⟩
   |succ i=>simpa using g2 i z (by simpa using hz)
  .cases h
theorem B9{α β:Type}{f:α->Option β}:∀{l:List α}{r:List β},l.length=r.length->(∀(i:Nat) x y,l[i]?=some x->r[i]?=some y->f x=some y)->k9 f l=some r
 |[],[],_,_=>rfl
 |[],_::_,h,_=>by simp at h
 |_::_,[],h,_=>by simp at h
 |x::l,y::r,h,hh=>by
  have h1:=hh 0 x y rfl rfl;have h2:=B9 (f:=f) (l:=l) (r:=r) (by simpa using h) (λi a b ha hb=>hh (i+1) a b (by simpa using ha) (by simpa using hb));simp only[k9,h1,h2]
def HY:PV->Bool
 |.sl _=>true
 |_=>false
def fS(h:Hp):Nat->AV->Option PV
 |_,.pv p=>some p
 |0,_=>none
 |_+1,.arr k n=>if inK k=true then match h k with
  |some (.row _ _ xs _)=>if xs.length=n then some (.sl xs)else none
  |_=>none else none
 |d+1,.ext (.barr k n _)=>if inK k=true then match h k with
  |some (.box cs _ _)=>match k9 (fS h d) (cs.take n)with
   |some ps=>if ps.length=n∧ps.all HY=true then some (.sl ps)else none
   |none=>none
  |_=>none else none
 |d+1,.ptr k off=>if inK k=true then match h k with
  |some (.box cs _ _)=>match k9 (fS h d) cs with
   |some ps=>some (.rptr (.agg ps) off)
   |none=>none
  |_=>none else none
 |_+1,_=>none
def mC(h:Hp):Hp:=λk=>if inK k=true then none else h k
def KJ:Blk->Bool
 |.box _ o _=>o
 |.row _ _ _ _=>true
 |.mp _ _ _ _=>false
def nd(h:Hp):Prop:=∀k blk,inK k=true->h k=some blk->KJ blk=true
section
variable {C:Cx} {L:Nat->Loc} {h:Hp} {w:World}
theorem yR{b:Blk}(e:mC h k=some b):inK k=false∧h k=some b:=by
 unfold mC at e;split at e
 .cases e
 .rename_i hi;exact⟨by simpa using hi,e⟩
theorem rB{o:Nat}(h9:ag C L (mC h) b o):ag C L h b o:=by
 rcases h9 with h9|⟨k,blk,hk,hl,hb,hf⟩
 .exact .inl h9
 .exact .inr ⟨k,blk,(yR hk).2,hl,hb,hf⟩
theorem vj(hm:MemL C L h w)(hl:nd h){blk:Blk}(hi:inK k=true)(hk:h k=some blk)(hv:blk.live (L k))(o:Nat):¬ag C L (mC h) (L k).b o:=by
 rintro(h9|⟨k',b',h1,h2,h3,_⟩)
 .have hm0:=hm.m0 _ _ h9
  have ho:=hm.own k _ hk
  have h8:C.w0.heap.size<=(L k).b∨(C.S (L k).b∧∀o,¬C.M0 (L k).b o):=by
   have hb:=hl k blk hi hk
   cases blk with
   |box cs own f=>
    have hb:own=true:=hb;subst hb;exact ho
   |row e sz xs f=>exact ho.row hv
   |mp=>cases hb
  rcases h8 with h8|h8
  .omega
  .exact h8.2 o h9
 .obtain⟨i1,g1⟩:=yR h1
  exact hm.sep k' k b' blk (λe=>by rw[e,hi]at i1;cases i1) g1 hk h2 hv h3
theorem G9(hm:MemL C L h w)(hl:nd h){xs:List PV}(hi:inK k=true)(hk:h k=some (.row e sz xs fz)):Rep w (ag C L (mC h)) (.sl xs) ((L k).slice xs.length):=by
 obtain⟨g1,g2,g3,g4,g5⟩:=hm.bl k _ hk
 cases hn:(L k).isNil with
 |true=>
  have:=g4 hn;subst this;simp only[Loc.slice,hn,if_true];exact .sl0 _ _
 |false=>
  obtain⟨a1,a2,arr,a3,a4,a5⟩:=g5 hn;simp only[Loc.slice,hn,Bool.false_eq_true,if_false];refine .sl xs (L k).b 0 (L k).cap sz (λi j=>(arr[i*sz+j]?).getD default) a1 (λi x hx=>g3 x (List.mem_of_getElem? hx)) (λi x j p hx hj=>?_) (λi x j p hx hj=>?_)
  .obtain⟨u,hu,_⟩:=a5 i x j p hx hj
   refine⟨?_,vj hm hl hi hk hn _⟩;rw[dI a3,Nat.zero_add,hu];rfl
  .obtain⟨u,hu,hr⟩:=a5 i x j p hx hj
   rw[hu];exact hr.mono (Pres.sub λ_ _=>rB)
theorem Ca(hm:MemL C L h w)(hl:nd h):∀(d:Nat){x:AV}{p:PV}{u:Value},fS h d x=some p->RepA w (ag C L h) L h x u->Rep w (ag C L (mC h)) p u:=by
 have base:∀{q p:PV}{u:Value},some q=some p->RepA w (ag C L h) L h (.pv q) u->Rep w (ag C L (mC h)) p u:=by
  intro q p u e hr;injection e with e;subst e
  cases hr with
  |pv hr=>exact hr.mono (Pres.sub λ_ _=>rB)
 intro d
 induction d with
 |zero=>
  intro x p u hc hr
  cases x with
  |pv q=>exact base (by simpa only[fS]using hc) hr
  |_=>simp[fS]at hc
 |succ d ih=>
  intro x p u hc hr
  cases x with
  |pv q=>exact base (by simpa only[fS]using hc) hr
  |arr k n=>
   simp only[fS]at hc;split at hc
   .rename_i hi
    split at hc
    .rename_i e sz xs fz hk
     split at hc
     .rename_i hn
      injection hc with hc;subst hc
      cases hr with
      |arr hk2 hn2 hu=>
       rw[hk]at hk2;injection hk2 with hk2;injection hk2 with _ _ a3 _;subst a3;rw[hu hn,<-hn];exact G9 hm hl hi hk
     .cases hc
    .cases hc
   .cases hc
  |ptr k off=>
   simp only[fS]at hc;split at hc
   .rename_i hi
    split at hc
    .rename_i cs own fz hk
     split at hc
     .rename_i ps hps
      injection hc with hc;subst hc;obtain⟨m1,m2⟩:=rA hps
      cases hr with
      |ptr hk2=>
       obtain⟨arr,ty,a3,a4⟩:=hm.bl k _ hk;have hn:=vj hm hl hi hk trivial
       have hel:∀(j:Nat) q,ps[j]?=some q->∃v,arr[j]?=some v∧Rep w (ag C L (mC h)) q v:=by
        intro j q hq;obtain⟨x,hx,hcx⟩:=m2 j q hq
        have hjl:j<arr.toList.length:=by rw[<-a4.1];exact(List.getElem?_eq_some_iff.1 hx).1
        have hv:arr.toList[j]?=some (arr.toList[j]):=List.getElem?_eq_getElem hjl;exact⟨arr.toList[j],by rw[<-Array.getElem?_toList];exact hv,ih hcx (a4.2 j x _ hx hv)⟩
       have:=Rep.rptr (w:=w) (M:=ag C L (mC h)) (.agg ps) (L k).b 0 off (λj=>(arr[j]?).getD default) (λj q hq=>?_) (λj q hq=>?_)
       .rw[Nat.zero_add]at this;exact this
       .obtain⟨v,hv,_⟩:=hel j q hq
        refine⟨?_,hn _⟩;rw[Nat.zero_add,dI a3,hv];rfl
       .obtain⟨v,hv,hr⟩:=hel j q hq
        rw[hv];exact hr
     .cases hc
    .cases hc
   .cases hc
  |ext x=>
   cases x with
   |barr k n c=>
    simp only[fS]at hc;split at hc
    .rename_i hi
     split at hc
     .rename_i cs own fz hk
      split at hc
      .rename_i ps hps
       split at hc
       .rename_i hal
        injection hc with hc;subst hc;obtain⟨hpl,hal⟩:=hal;obtain⟨m1,m2⟩:=rA hps
        have hone:∀q∈ps,q.cells=[q]:=by
         intro q hq;have:=List.all_eq_true.1 hal q hq
         cases q<;>first|rfl|cases this
        cases hr with
        |ext hx'=>
         cases hx' with
         |barr hnc hk2=>
          obtain⟨arr,ty,a3,a4⟩:=hm.bl k _ hk;have hn:=vj hm hl hi hk trivial
          have hel:∀(j:Nat) q,ps[j]?=some q->∃v,arr[j]?=some v∧Rep w (ag C L (mC h)) q v:=by
           intro j q hq;obtain⟨x,hx,hcx⟩:=m2 j q hq
           have hx:cs[j]?=some x:=by
            rw[List.getElem?_take]at hx;split at hx
            .exact hx
            .cases hx
           have hjl:j<arr.toList.length:=by rw[<-a4.1];exact(List.getElem?_eq_some_iff.1 hx).1
           have hv:arr.toList[j]?=some (arr.toList[j]):=List.getElem?_eq_getElem hjl;exact⟨arr.toList[j],by rw[<-Array.getElem?_toList];exact hv,ih hcx (a4.2 j x _ hx hv)⟩
          rw[<-hpl]
          have aux:∀{i j:Nat}{q r:PV},ps[i]?=some q->q.cells[j]?=some r->j=0∧r=q:=by
           intro i j q r hq hr;rw[hone q (List.mem_of_getElem? hq)]at hr
           cases j with
           |zero=>simp at hr;exact⟨rfl,hr.symm⟩
           |succ j=>simp at hr
          refine .sl ps (L k).b 0 c 1 (λi _=>(arr[i]?).getD default) (by omega) (λi q hq=>by rw[hone q (List.mem_of_getElem? hq)];rfl) (λi q j r hq hr=>?_) (λi q j r hq hr=>?_)
          .obtain⟨rfl,rfl⟩:=aux hq hr
           obtain⟨v,hv,_⟩:=hel i _ hq;refine⟨?_,hn _⟩;rw[show 0+(i*1+0)=i by omega,dI a3,hv];rfl
          .obtain⟨rfl,rfl⟩:=aux hq hr
           obtain⟨v,hv,hr⟩:=hel i _ hq;rw[hv];exact hr
       .cases hc
      .cases hc
     .cases hc
    .cases hc
   |_=>simp[fS]at hc
  |_=>simp[fS]at hc
def GA(C:Cx)(Q:St->Prop)(f:Operand)(xs:List Operand)(d:Option Nat)(st:St):Prop:=
 ∃g ps res,bC (st.ev f)=some (g,[],[])∧nd st.h∧k9 (fS st.h 3) (xs.map st.ev)=some ps∧aa C.P g (ps.map .pv) [] [] (.pv res)∧oD res=true∧bX C.N d=true∧Q (st.put d (.pv res) [])
theorem WP.lend(hops:ops.toList=pre++o::post)(hop:o.op=.call {callee:=.value f,args:=xs.toArray,argTypes:=ats})(hg:o.guard=none)
 (hq:cU C.P hn C.N ops (GA C (cU C.P hn C.N ops (Q .normal) post) f xs o.dst) pre st):WP C (.region id ops false) Q st:=by
 intro a w hs;refine wp_region_list ?_;rw[hops];refine gt (λst1 a1 w1 hs1 hq1=>?_) hs hq;obtain⟨g,ps,res,hce,hlo,hps,⟨hcall,_,hD⟩,hml,hdN,hQ⟩:=hq1;obtain⟨L,hm,hN,hdf,ht⟩:=hs1;refine wpList_step (λK hK=>?_);rw[jl hg,if_pos rfl];obtain⟨vs,us,hfv,hv1,hv2⟩:=gO (cD ht f) hce;have hvs:=hv1.nil_inv;have hus:=hv2.nil_inv;subst hvs;subst hus;obtain⟨m1,m2⟩:=rA hps
 have hcalls:=hD w1 (ag C L (mC st1.h)) [] (xs.map a1.eval) (λb o h9=>hm.mlt (rB h9)) rfl List.nodup_nil (λi b ps h9=>by simp at h9) (by simp only[List.length_map]at m1|-;omega) (by
  intro i x v hx hv;simp only[List.getElem?_map,Option.map_eq_some_iff]at hx hv;obtain⟨p,hp,rfl⟩:=hx;obtain⟨y,hy,rfl⟩:=hv;obtain⟨z,hz,hc⟩:=m2 i p hp;simp only[List.getElem?_map,Option.map_eq_some_iff]at hz;obtain⟨y',hy',rfl⟩:=hz;rw[hy]at hy';injection hy' with hy';subst hy'
  exact Ca hm hlo 3 hc (cD ht y))
 have hrun:(execOp a1.eval o).run C.P w1=.ok (.enter g (xs.map a1.eval).toArray) w1:=by
  unfold bZ at hcall
  cases hfn:C.P.funcs[g]? with
  |none=>rw[hfn]at hcall;cases hcall
  |some fn=>
   rw[hfn]at hcall;simp only[Bool.and_eq_true,Bool.not_eq_true',beq_eq_false_iff_ne,ne_eq]at hcall
   have hb:fn.body.isNone=false:=by cases hbb:fn.body<;>simp_all
   unfold execOp;rw[hop];simp only[resolve,hfv,Deferred.ofValue,pure_bind,Sem.run_bind,Result.andThen_ok,invoke,callFunc,program,Sem.run,hfn];simp[hcall.2,hb]
 unfold Oper.wp;rw[hrun];simp only[Oper.upon];refine hcalls.mono ?_;rintro ee w' ⟨v,rfl,hx,_,hr⟩;have hx':Ext (λ_=>False) w1 w':=⟨hx.os,hx.tape,hx.output,hx.size,λb' hb' _=>hx.block b' hb' (by simp)⟩;obtain⟨g1,g2⟩:=hm.grow hx';refine hK _ _ ?_;exact gF (λst' a' w' hs' hq'=>⟨st',hs',hq'⟩) (eO.put hm hN hdf ht hdN (W:=[]) ⟨g1,g2,KC.refl _ _⟩ (.pv (mW hml hr))) hQ
theorem WP.lendAt(n:Nat)(ho:ops.toList[n]?=some o)(hop:o.op=.call {callee:=.value f,args:=xs.toArray,argTypes:=ats})(hg:o.guard=none)
 (hq:cU C.P hn C.N ops (GA C (cU C.P hn C.N ops (Q .normal) (ops.toList.drop (n+1))) f xs o.dst) (ops.toList.take n) st):WP C (.region id ops false) Q st:=by
 refine WP.lend (pre:=ops.toList.take n) (post:=ops.toList.drop (n+1)) (o:=o) ?_ hop hg hq;have hlt:=(List.getElem?_eq_some_iff.1 ho).1;have he:=(List.getElem?_eq_some_iff.1 ho).2;rw[<-he,List.getElem_cons_drop,List.take_append_drop]
end
theorem WP.of_st{c:Code}{P:St->Prop}(h:P st∧∀st,P st->WP C c Q st):WP C c Q st:=h.2 st h.1
theorem CA{own:Bool}(hl:s.near.length<=4096)(hH:∀k,inK k=true->h k=aM own s c k):fh h=aM false s c:=by
 funext k
 unfold fh;by_cases hk:inK k=true
 .rw[if_pos hk,hH k hk]
  split
  .rename_i e;subst e;rfl
  .rename_i e;unfold aM;rw[if_neg e,if_neg e]
 .rw[if_neg hk]
  cases hh:aM false s c k with
  |none=>rfl
  |some b=>exact absurd ((lg hl).keys k b hh) hk
theorem FR{own:Bool}{f:Bool}(h:aM own s c k=some (.box cs false f)):k=290:=by
 cases own with
 |false=>exact Cy h
 |true=>
  unfold aM at h;split at h
  .assumption
  .exfalso
   repeat' split at h
   all_goals first|(injection h with h;injection h;done)|cases h
theorem A6{own:Bool}(hl:s.near.length<=4096)(hH:∀k,inK k=true->h k=aM own s c k):InOk h:=by
 have hL:LookH (aM own s c):=lg hl
 exact⟨λk b o hk hb=>hL.nf k b o (by rw[<-hH k hk];exact hb),λk b hk hb=>hL.nm k b (by rw[<-hH k hk];exact hb),λk cs o f hk hb=>hL.cl k cs o f (by rw[<-hH k hk];exact hb),λk cs f hk hb=>FR (own:=own) (s:=s) (c:=c) (by rw[<-hH k hk];exact hb),λb hb=>by
  rw[hH 290 rfl]at hb
  exact⟨_,_,_,(Option.some.inj hb).symm⟩⟩
theorem A7{own:Bool}{s':Spc}{c':Nat}(hH:∀k,inK k=true->h k=aM own s c k)(hk:inK k=true):dX h (aM false s' c') k=aM own s' c' k:=by
 unfold dX;rw[if_pos hk];split
 .rename_i e;subst e
  have:jA h 290=own:=by simp only[jA,hH 290 rfl];rfl
  rw[this];rfl
 .rename_i e;unfold aM;rw[if_neg e,if_neg e]
theorem fJ(own:Bool)(s:Spc)(c k:Nat):(aM own s c k).map (bm [])=aM own s c k:=by
 have hid:(fZ s.near++List.replicate c cL).map (aq [])=fZ s.near++List.replicate c cL:=by
  refine(List.map_congr_left (g:=id) λx hx=>?_).trans (List.map_id _);rcases List.mem_append.1 hx with hx|hx
  .simp only[fZ,List.mem_map,List.mem_range]at hx
   obtain⟨v,hv,rfl⟩:=hx;simp[aq,aQ,ax]
  .rw[(List.mem_replicate.1 hx).2]
   simp[aq,aQ,ax]
 have hce:aq [] (jW s)=jW s:=by unfold aq;rw[A5 rfl];rfl
 unfold aM;split
 .show some (Blk.box _ own false)=_
  simp only[List.map_cons,List.map_nil,hce];simp[aq,aQ,ax]
 .split
  .split<;>rfl
  .split
   .rfl
   .split
    .simp only[Option.map_some,bm,hid]
    .split
     .rfl
     .split<;>rfl
theorem EL{own:Bool}(hk:k≠293)(hd:295<=d):(aM own s c k).map (bm [d])=aM own s c k:=by
 have hce:aQ [d] (jW s)=false:=A5 (by simp;omega);unfold aM;rw[if_neg hk];split
 .have h1:∀x,aQ [d] x=false->aq [d] x=x:=λx h=>by unfold aq;rw[h];rfl
  show some (Blk.box [aq [d] _,aq [d] _,aq [d] _,aq [d] _,aq [d] _] own false)=_;rw[h1 (.pv _) rfl,h1 _ hce,h1 (.arr 292 _) (by simp[aQ,ax];omega),h1 (.ext _) (by simp[aQ,ax,XV.key];omega),h1 (.arr 294 _) (by simp[aQ,ax];omega)]
 .repeat' split
  all_goals rfl
theorem CB{own:Bool}(hn:s.near.length<=4096)(hH:∀k,inK k=true->h k=aM own s c k):fS h 3 (.ptr 290 0)=some (hZ s):=by
 have e0:=(hH 290 rfl).trans (lx own s c);have e2:=(hH 292 rfl).trans (oJ own s c);have e3:=(hH 293 rfl).trans (mL own s c);have e4:=(hH 294 rfl).trans (rf own s c)
 have c2:fS h 2 (jW s)=some (.sl (s.cells.map aW)):=by
  cases hc:s.cc with
  |true=>rw[JY hc];rfl
  |false=>
   have e1:=(hH 291 rfl).trans (oI own s c hc);rw[p8 hc];simp[fS,inK,e1]
 have c3:fS h 2 (.arr 292 s.bx.length)=some (.sl (s.bx.map iv)):=by simp[fS,inK,e2]
 have c5:fS h 2 (.arr 294 s.jn.length)=some (.sl (s.jn.map Z)):=by simp[fS,inK,e4]
 have c4:fS h 2 (.ext (.barr 293 s.near.length (s.near.length+c)))=some (.sl (s.near.map pd)):=by
  have ht:(fZ s.near++List.replicate c cL).take s.near.length=fZ s.near:=by
   rw[List.take_append_of_le_length (by rw[bL];omega),List.take_of_length_le (by rw[bL];omega)]
  have hm:k9 (fS h 1) (fZ s.near)=some (s.near.map pd):=by
   refine B9 (by simp[bL]) λi x y hx hy=>?_
   have hi:i<s.near.length:=by
    have:=(List.getElem?_eq_some_iff.1 hx).1
    rwa [bL]at this
   rw[jX hi]at hx;injection hx with hx;subst hx;simp only[List.getElem?_map,Option.map_eq_some_iff]at hy;obtain⟨z,hz,rfl⟩:=hy
   have hk:inK (i+300)=true:=by simp[inK];omega
   have er:=(hH (i+300) hk).trans (kp hi);simp[fS,hk,er,ae,hz]
  simp only[fS,inK,e3];rw[ht,hm];simp[HY]
 have hmm:k9 (fS h 2) [.pv (iv s.root),jW s,.arr 292 s.bx.length,.ext (.barr 293 s.near.length (s.near.length+c)),.arr 294 s.jn.length]=some [iv s.root,.sl (s.cells.map aW),.sl (s.bx.map iv),.sl (s.near.map pd),.sl (s.jn.map Z)]:=by
  simp only[k9,c2,c3,c4,c5];rfl
 show(if inK 290=true then _ else _)=_;rw[if_pos (show inK 290=true from rfl),e0];simp only[hmm]
theorem A8(hH:∀k,inK k=true->h k=aM true s c k):nd h:=by
 intro k blk hk hb;rw[hH k hk]at hb;unfold aM at hb
 repeat' split at hb
 all_goals first|(cases hb;rfl)|cases hb
theorem se{Q:St->Prop}{d:Option Nat}{own:Bool}{a:Nat}(hP:C.P=Tryz.prog)(hcal:bC (st.ev f)=some (76,[],[]))(hargs:xs.map st.ev=[.ptr 290 0,.pv (Z a),.pv (Z b)])(hH:∀k,inK k=true->st.h k=aM own s c k)
 (hn:s.near.length<=4096)(ha:a<s.near.length)(hb:b<s.near.length)(hab:a≠b)(hbx:s.bx.length=s.near.length)(hbl:∀x∈s.bx,x.length<=9223372036854775807)(hnl:∀v,(ae s v).length<=4096)(hd:bX C.N d=true)
 (h:∀r h',(∀k,inK k=true->h' k=aM own (dP s a b) c k)->(∀k,inK k=false->h' k=(st.h k).map fR)->Q (St.put ⟨λn=>dO (st.t n),h'⟩ d r [])):nX C Q f xs d st:=by
 refine⟨_,λ_ h'=>h'=aM false (dP s a b) c,hcal,A6 hn hH,?_,by rw[hargs];rfl,hd,λr h' hL ho hp=>?_⟩
 .rw[hargs,CA hn hH,hP]
  exact N1 s c a b hn ha hb hab hbx hbl hnl
 .have hp:h'=_:=hp
  subst hp;exact h r _ (λk hk=>A7 hH hk) (λk hk=>by unfold dX;rw[if_neg (by rw[hk];decide)])
theorem A9(hH:∀k,inK k=true->h k=none):fh h=iX:=by
 funext k
 unfold fh;by_cases hk:inK k=true
 .rw[if_pos hk,hH k hk];split<;>rfl
 .rw[if_neg hk];rfl
theorem zl(hH:∀k,inK k=true->h k=none):InOk h:=
 ⟨λk b o hk hb=>(by rw[hH k hk]at hb;cases hb),λk b hk hb=>(by rw[hH k hk]at hb;cases hb),λk cs o f hk hb=>(by rw[hH k hk]at hb;cases hb),λk cs f hk hb=>(by rw[hH k hk]at hb;cases hb),λb hb=>(by rw[hH 290 rfl]at hb;cases hb)⟩
theorem HC{Q:St->Prop}{d:Option Nat}{args:List AV}(hcal:bC (st.ev f)=some (g,[],[]))(hargs:xs.map st.ev=args)(hok:args.all nR=true)(hH:∀k,inK k=true->st.h k=none)
 (hD:kC C.P g args iX (λr h'=>r=.ptr 290 0∧h'=aM true s 0))(hd:bX C.N d=true)
 (h:∀h',(∀k,inK k=true->h' k=aM true s 0 k)->(∀k,inK k=false->h' k=(st.h k).map fR)->Q (St.put ⟨λn=>dO (st.t n),h'⟩ d (.ptr 290 0) [])):nX C Q f xs d st:=by
 refine⟨_,λr h'=>r=.ptr 290 0∧h'=aM true s 0,hcal,zl hH,?_,by rw[hargs];exact hok,hd,λr h' hL ho hp=>?_⟩
 .rw[hargs,A9 hH];exact hD
 .obtain⟨rfl,rfl⟩:=hp
  refine h _ (λk hk=>?_) (λk hk=>by unfold dX;rw[if_neg (by rw[hk];decide)]);unfold dX;rw[if_pos hk];split
  .rename_i e;subst e
   have:jA st.h 290=true:=by simp only[jA,hH 290 rfl]
   rw[this];rfl
  .rfl
abbrev kR(n:Nat):PV:=Z (n:Int)
def eG(t:Tr):List (PV×PV):=(aD t).map λi=>(kR i,iv (dU t (i:Int)))
def sA(a:Act):Nat:=match a.tmps.getD 14 undef with
 |.int _ v=>v.toNat
 |_=>0
def tL(l:Nat)(t:Tr)(i:Nat):Nat->AV:=λm=>if m=0 then .pv (.val (.func (.yield l) #[] #[]))else if m=1 then .pv (.rptr (da t) 0)else if m=12 then .pv (.sl ((ao t).map iv))else if m=13 then .pv (Z (ao t).length)else if m=14 then .pv (Z i)else .undef
def em(l:Nat)(t:Tr)(i:Nat)(st:St):Prop:=st.t 0=.pv (.val (.func (.yield l) #[] #[]))∧st.t 1=.pv (.rptr (da t) 0)∧st.t 12=.pv (.sl ((ao t).map iv))∧st.t 13=.pv (Z (ao t).length)∧st.t 14=.pv (Z i)
def tX(l:Nat)(t:Tr)(i:Nat)(x y:Nat)(p q:PV):Nat->AV:=λm=>if m=x then .pv p else if m=y then .pv q else tL l t i m
theorem tV{l:Nat}(h:dL 33 M (bk st.t) a w)(hk:em l t i st):dL 33 M (tL l t i) a w:=h.sub (λm=>by
 obtain⟨k0,k1,k12,k13,k14⟩:=hk;unfold tL;by_cases m0:m=0
 .subst m0;right;simp[bk,k0]
 by_cases m1:m=1
 .subst m1;right;simp[bk,k1]
 by_cases m12:m=12
 .subst m12;right;simp[bk,k12]
 by_cases m13:m=13
 .subst m13;right;simp[bk,k13]
 by_cases m14:m=14
 .subst m14;right;simp[bk,k14]
 .left;simp[m0,m1,m12,m13,m14])
theorem sB{l:Nat}{x y:Nat}(h:dL 33 M (bk st.t) a w)(hk:em l t i st)(hx:st.t x=.pv p)(hy:st.t y=.pv q):dL 33 M (tX l t i x y p q) a w:=by
 have h2:=tV h hk;refine⟨h.1,λm=>?_⟩;unfold tX;split
 .rename_i e;subst e
  have:=h.2 m;simp only[bk,hx]at this;exact this
 .split
  .rename_i e;subst e
   have:=h.2 m;simp only[bk,hy]at this;exact this
  .exact h2.2 m
theorem Ke{l:Nat}{x y:Nat}{tt:Nat->AV}(h:dL 33 M tt a w)(k0:tt 0=.pv (.val (.func (.yield l) #[] #[])))(k1:tt 1=.pv (.rptr (da t) 0))(k12:tt 12=.pv (.sl ((ao t).map iv)))(k13:tt 13=.pv (Z (ao t).length))(k14:tt 14=.pv (Z i))(hx:tt x=.pv p)(hy:tt y=.pv q):dL 33 M (tX l t i x y p q) a w:=h.sub (λm=>by
 unfold tX tL;by_cases mx:m=x
 .subst mx;right;simp[hx]
 by_cases my:m=y
 .subst my;right;simp[mx,hy]
 by_cases m0:m=0
 .subst m0;right;simp[k0,mx,my]
 by_cases m1:m=1
 .subst m1;right;simp[k1,mx,my]
 by_cases m12:m=12
 .subst m12;right;simp[k12,mx,my]
 by_cases m13:m=13
 .subst m13;right;simp[k13,mx,my]
 by_cases m14:m=14
 .subst m14;right;simp[k14,mx,my]
 .left;simp[m0,m1,m12,m13,m14,mx,my])
theorem vf{t:Tr}{i:Nat}(hlf:dZ t i=true):∀{n:Nat},i<n->(cT t n)[(cT t i).length]?=some i
 |0,h=>by omega
 |n+1,h=>by
  rw[pK];by_cases e:i=n
  .subst e
   rw[if_pos hlf];simp
  .have ih:=vf hlf (n:=n) (by omega)
   have hlt:=(List.getElem?_eq_some_iff.1 ih).1;split
   .rw[List.getElem?_append_left hlt];exact ih
   .exact ih
theorem dL.put{t:Nat->AV}(h:dL N M t a w)(hd:d<N){v:Value}(hv:Rep w M p v):dL N M (ah t d (.pv p)) (a.put (some d) v) w:=by
 have hd':d<a.tmps.size:=by rw[h.1];exact hd
 refine⟨by simpa[Act.put]using h.1,λm=>?_⟩;rw[oW hd'];simp only[ah];split
 .exact .inr ⟨p,rfl,hv⟩
 .exact h.2 m
theorem HW(h:fn.results=#[])(tmps:Array Value)(P:Program)(w:World):(results fn tmps).run P w=.ok (.tuple #[]) w:=by
 unfold results;rw[h];simp[go_sem]
theorem mQ{t:Nat->AV}(h:dL N M t a w){m:Nat}{v:Value}(e:t m=.pv (.val v)):a.tmps.getD m undef=v:=by
 rcases h.2 m with e'|⟨p,e',hr⟩
 .rw[e]at e';cases e'
 .rw[e]at e';injection e' with e';subst e'
  exact aJ hr
theorem BK{t:Nat->AV}(h:dL N M t a w){m:Nat}(e:t m=.pv p):Rep w M p (a.tmps.getD m undef):=by
 rcases h.2 m with e'|⟨p',e',hr⟩
 .rw[e]at e';cases e'
 .rw[e]at e';injection e' with e';subst e'
  exact hr
set_option maxRecDepth 100000 in
theorem JB(t:Tr)(hl:t.cells.length<=9223372036854775807):Di Tryz.prog 164 [.rptr (da t) 0] (eG t):=by
 refine⟨by kernel_rfl,λn l lb W M J hJb hJg hY h0 hcap=>?_⟩
 obtain⟨v1,rfl⟩:∃v,lb=[v]:=by
  have:=hcap.1
  cases lb with
  |nil=>simp at this
  |cons v r=>cases r with
   |nil=>exact⟨v,rfl⟩
   |cons=>simp at this
 have hrep1:Rep W M (.rptr (da t) 0) v1:=hcap.2 0 _ _ rfl rfl;have hF:=eV;have cb:=Jo t hl;refine callsIn_of_wp_marks Tryz.func164 rfl trivial ?_ rfl
 have H0:dL 33 M (λm=>if m=0 then .pv (.val (.func (.yield l) #[] #[]))else if m=1 then .pv (.rptr (da t) 0)else .undef) {tmps:=((#[Value.func (.yield l) #[] #[]]:Array Value)++[v1].toArray)++Array.replicate (Tryz.f164.ntmps-((#[Value.func (.yield l) #[] #[]]:Array Value)++[v1].toArray).size) undef,defers:=[]} W:=by
  refine⟨by rw[Tryz.ntmps164];simp,λm=>?_⟩;by_cases m0:m=0
  .subst m0;exact .inr ⟨_,rfl,by simp;exact .val _⟩
  .by_cases m1:m=1
   .subst m1;exact .inr ⟨_,rfl,by simpa using hrep1⟩
   .left;simp[m0,m1]
 refine wpIn_seq (wpIn_mono (H0.step (hJb 0 M W h0) (Q:=λe st'=>e=.normal∧st'.t 0=.pv (.val (.func (.yield l) #[] #[]))∧st'.t 1=.pv (.rptr (da t) 0)∧st'.t 3=.pv (.sl ((ao t).map iv))) (λC hP hN=>?_)) ?_)
 .skip
  repeat' (first
   |with_reducible refine af.seq ?_
   |(with_reducible ((first|refine af.region hF (hn:=[]) (by kernel_rfl) ?_|refine bh (cb) ?_|refine af.cond' ?_);simp -implicitDefEqProofs (maxSteps:=2000000) [hP,hN]))
   |(with_reducible refine aO (by simp) (λhgd=>?_) (λhgd=>?_)<;>first|(exfalso;simp at hgd;done)|(exfalso;simp at hgd;omega)|simp -implicitDefEqProofs (maxSteps:=2000000) [hP,hN])
   |with_reducible refine aE ?_ ?_
   |(with_reducible refine av (λhcd=>?_) (λhcd=>?_)<;>(try (exfalso;clear hP hN;simp_all;done))<;>(try (exfalso;simp at *;omega)))
   |with_reducible refine af.block ?_
   |(with_reducible ((first|refine af.skip ?_|refine af.exit ?_|refine af.ret ?_);simp)))
 rintro e a1 w1 ⟨st1,⟨rfl,g0,g1,g3⟩,H1,hx1,hd1⟩;have hJ1:=hJg 0 M W w1 h0 hx1
 have H1':dL 33 M (λm=>if m=0 then .pv (.val (.func (.yield l) #[] #[]))else if m=1 then .pv (.rptr (da t) 0)else if m=3 then .pv (.sl ((ao t).map iv))else .undef) a1 w1:=H1.sub (λm=>by
  by_cases m0:m=0
  .subst m0;right;simp[bk,g0]
  .by_cases m1:m=1
   .subst m1;right;simp[bk,g1]
   .by_cases m3:m=3
    .subst m3;right;simp[bk,g3]
    .left;simp[m0,m1,m3])
 show Code.wpIn Fence.wide n Tryz.prog _ _ a1 w1;refine wpIn_seq (wpIn_mono (H1'.step (hJb 0 M w1 hJ1) (Q:=λe st'=>e=.normal∧st'.t 0=.pv (.val (.func (.yield l) #[] #[]))∧st'.t 1=.pv (.rptr (da t) 0)∧st'.t 12=.pv (.sl ((ao t).map iv))∧st'.t 13=.pv (Z (ao t).length)∧st'.t 14=.pv (Z 0)) (λC hP hN=>?_)) ?_)
 .skip
  repeat' (first
   |with_reducible refine af.seq ?_
   |(with_reducible ((first|refine af.region hF (hn:=[]) (by kernel_rfl) ?_|refine af.cond' ?_);simp -implicitDefEqProofs (maxSteps:=2000000) [hP,hN]))
   |(with_reducible refine aO (by simp) (λhgd=>?_) (λhgd=>?_)<;>first|(exfalso;simp at hgd;done)|(exfalso;simp at hgd;omega)|simp -implicitDefEqProofs (maxSteps:=2000000) [hP,hN])
   |with_reducible refine aE ?_ ?_
   |(with_reducible refine av (λhcd=>?_) (λhcd=>?_)<;>(try (exfalso;clear hP hN;simp_all;done))<;>(try (exfalso;simp at *;omega)))
   |with_reducible refine af.block ?_
   |(with_reducible ((first|refine af.skip ?_|refine af.exit ?_|refine af.ret ?_);simp)))
 rintro e a2 w2 ⟨st2,⟨rfl,k0,k1,k12,k13,k14⟩,H2,hx2,hd2⟩;have hJ2:=hJg 0 M w1 w2 hJ1 hx2
 have H2':dL 33 M (tL l t 0) a2 w2:=H2.sub (λm=>by
  unfold tL;by_cases m0:m=0
  .subst m0;right;simp[bk,k0]
  by_cases m1:m=1
  .subst m1;right;simp[bk,k1]
  by_cases m12:m=12
  .subst m12;right;simp[bk,k12]
  by_cases m13:m=13
  .subst m13;right;simp[bk,k13]
  by_cases m14:m=14
  .subst m14;right;simp[bk,k14]
  .left;simp[m0,m1,m12,m13,m14])
 have hdd:a2.defers=[]:=by rw[hd2,hd1]
 clear H1 H1' H2 H0 g0 g1 g3 k0 k1 k12 k13 k14 hx1 hx2 hd1 hd2 hJ1 h0;show Code.wpIn Fence.wide n Tryz.prog _ _ a2 w2;refine wpIn_block (wpIn_loop (λa w=>∃i M',i<=(ao t).length∧J (cT t i).length M' w∧dL 33 M' (tL l t i) a w∧a.defers=[]) (λa _=>(ao t).length-sA a) ⟨0,M,Nat.zero_le _,by simpa[cT]using hJ2,H2',hdd⟩ ?_);clear hJ2 H2' hdd a2 w2 st2 a1 w1 st1;rintro a w ⟨i,M',hi,hJ,hH,hdd⟩
 have hidx:sA a=i:=by simp[sA,mQ hH (m:=14) (v:=.int .i64 i) (by simp[tL])]
 have hM':=hJb _ _ _ hJ;by_cases hlt:i<(ao t).length
 .have hv:ay t=true:=by
   cases h:ay t with
   |true=>rfl
   |false=>
    have:ao t=[]:=by
     simp only[ay]at h;simp[ao,Option.isSome_eq_false_iff.1 h |> Option.isNone_iff_eq_none.1]
    rw[this]at hlt;simp at hlt
  have hbl:=eN hv
  have hic:i<t.cells.length:=by omega
  have hz:=bG.1 (dz hv);generalize hc:t.cells[i]=c at *
  have hci:t.cells[i]?=some c:=by rw[List.getElem?_eq_getElem hic,hc]
  obtain⟨hbx,hbxl,_⟩:=wi hv (c:=(i:Int)) hic;have hbx1:(ao t)[i]?=some (dU t i):=hbx;have hbx2:=aT hbx1 hlt;have hwi:IntKind.i64.wrap ((i:Int)+1)=(i:Int)+1:=ab;have cl:=Gg c;have hstep:=pK t i
  have hlfN:dZ t i=cO c:=by simp[dZ,hci]
  rw[hlfN]at hstep;refine wpIn_seq (wpIn_mono (hH.step hM' (Q:=λe st'=>e=.normal∧em l t i st'∧st'.t 15=.pv (.val (.bool true))) (λC hP hN=>?_)) ?_)
  .skip
   repeat' (first
    |with_reducible refine af.seq ?_
    |(with_reducible ((first|refine af.region hF (hn:=[]) (by kernel_rfl) ?_|refine af.cond' ?_);simp -implicitDefEqProofs (maxSteps:=2000000) [hP,hN,tL,em,hlt]))
    |(with_reducible refine aO (by simp[tL,em,hlt]) (λhgd=>?_) (λhgd=>?_)<;>first|(exfalso;simp at hgd;done)|(exfalso;simp at hgd;omega)|simp -implicitDefEqProofs (maxSteps:=2000000) [hP,hN,tL,em,hlt])
    |with_reducible refine aE ?_ ?_
    |(with_reducible refine av (λhcd=>?_) (λhcd=>?_)<;>(try (exfalso;clear hP hN;simp_all;done))<;>(try (exfalso;simp at *;omega)))
    |with_reducible refine af.block ?_
    |(with_reducible ((first|refine af.skip ?_|refine af.exit ?_|refine af.ret ?_);simp[tL,em,hlt])))
  rintro e a1 w1 ⟨st1,⟨rfl,hk1,h15⟩,H1,hx1,hd1⟩;have hJ1:=hJg _ _ _ _ hJ hx1;have e15:a1.eval (.tmp 15)=.bool true:=mQ H1 (m:=15) (by simp[bk,h15]);have K1:=tV H1 hk1;show Code.wpIn Fence.wide n Tryz.prog _ _ a1 w1;refine wpIn_seq (wpIn_cond_true e15 (wpIn_skip ?_));show Code.wpIn Fence.wide n Tryz.prog _ _ a1 w1;refine wpIn_seq (wpIn_block ?_);refine wpIn_seq (wpIn_mono (K1.step (hJb _ _ _ hJ1) (Q:=λe st'=>e=.normal∧em l t i st'∧st'.t 5=.pv (Z i)∧st'.t 6=.pv (iv (dU t i))) (λC hP hN=>?_)) ?_)
  .skip
   repeat' (first
    |with_reducible refine af.seq ?_
    |(with_reducible ((first|refine af.region hF (hn:=[]) (by kernel_rfl) ?_|refine af.cond' ?_);simp -implicitDefEqProofs (maxSteps:=2000000) [hP,hN,tL,em,hlt,hbx1,hbx2]))
    |(with_reducible refine aO (by simp[tL,em,hlt,hbx1,hbx2]) (λhgd=>?_) (λhgd=>?_)<;>first|(exfalso;simp at hgd;done)|(exfalso;simp at hgd;omega)|simp -implicitDefEqProofs (maxSteps:=2000000) [hP,hN,tL,em,hlt,hbx1,hbx2])
    |with_reducible refine aE ?_ ?_
    |(with_reducible refine av (λhcd=>?_) (λhcd=>?_)<;>(try (exfalso;clear hP hN;simp_all;done))<;>(try (exfalso;simp at *;omega)))
    |with_reducible refine af.block ?_
    |(with_reducible ((first|refine af.skip ?_|refine af.exit ?_|refine af.ret ?_);simp[tL,em,hlt,hbx1,hbx2])))
  rintro e a2 w2 ⟨st2,⟨rfl,hk2,h5,h6⟩,H2,hx2,hd2⟩;have hJ2:=hJg _ _ _ _ hJ1 hx2;have K2:=sB H2 hk2 h5 h6;have hM2:=hJb _ _ _ hJ2;show Code.wpIn Fence.wide n Tryz.prog _ _ a2 w2;refine wpIn_seq (wpIn_mono (Q:=λe a3 w3=>e=.normal∧∃M3,J (cT t (i+1)).length M3 w3∧dL 33 M3 (tX l t i 31 31 (B false) (B false)) a3 w3∧a3.defers=[]) ?_ ?_)
  .cases hlf:cO c with
   |false=>
    rw[hlf]at cl hstep;rw[if_neg (by simp)]at hstep;refine wpIn_mono (K2.step hM2 (Q:=λe st'=>e=.normal∧em l t i st'∧st'.t 31=.pv (.val (.bool false))) (λC hP hN=>?_)) ?_
    .skip
     repeat' (first
      |with_reducible refine af.seq ?_
      |(with_reducible ((first|refine af.region hF (hn:=[]) (by kernel_rfl) ?_|refine bh (cl) ?_|refine af.cond' ?_);simp -implicitDefEqProofs (maxSteps:=2000000) [hP,hN,tX,tL,em,hic,hci,hc]))
      |(with_reducible refine aO (by simp[tX,tL,em,hic,hci,hc]) (λhgd=>?_) (λhgd=>?_)<;>first|(exfalso;simp at hgd;done)|(exfalso;simp at hgd;omega)|simp -implicitDefEqProofs (maxSteps:=2000000) [hP,hN,tX,tL,em,hic,hci,hc])
      |with_reducible refine aE ?_ ?_
      |(with_reducible refine av (λhcd=>?_) (λhcd=>?_)<;>(try (exfalso;clear hP hN;simp_all;done))<;>(try (exfalso;simp at *;omega)))
      |with_reducible refine af.block ?_
      |(with_reducible ((first|refine af.skip ?_|refine af.exit ?_|refine af.ret ?_);simp[tX,tL,em,hic,hci,hc])))
    rintro e a3 w3 ⟨st3,⟨rfl,hk3,h31⟩,H3,hx3,hd3⟩;exact⟨rfl,M',by rw[hstep];exact hJg _ _ _ _ hJ2 hx3,sB H3 hk3 h31 h31,by rw[hd3,hd2,hd1];exact hdd⟩
   |true=>
    rw[hlf]at cl hstep hlfN;rw[if_pos rfl]at hstep;refine wpIn_region_list ?_;rw[<-List.take_append_drop 10 (Array.toList _)];refine dk _ ?_;refine K2.list hM2 (hn:=[]) (Q:=λst'=>em l t i st'∧st'.t 25=.pv (.val (.bool true))∧st'.t 26=.pv (.val (.func (.yield l) #[] #[]))∧st'.t 27=.pv (Z i)∧st'.t 28=.pv (iv (dU t i))) (λo ho=>kj (by kernel_rfl) (List.mem_of_mem_take ho)) ?_ ?_
    .simp -implicitDefEqProofs [tX,tL,em,hic,hci,hc]
     refine bh cl ?_;simp -implicitDefEqProofs [tX,tL,em,hic,hci,hc]
    intro st3 a3 w3 ⟨hk3,h25,h26,h27,h28⟩ H3 hx3 hd3;have hJ3:=hJg _ _ _ _ hJ2 hx3;have hM3:=hJb _ _ _ hJ3
    have hxs:(eG t)[(cT t i).length]?=some (kR i,iv (dU t (i:Int))):=by
     have hL:aD t=cT t t.cells.length:=by simp[aD,hv]
     simp[eG,hL,vf hlfN hic]
    have hy:=hY (n-1) _ _ M' w3 _ _ hxs hJ3 (BK H3 (m:=27) (by simp[bk,h27])) (BK H3 (m:=28) (by simp[bk,h28]));refine Dj ?_ rfl rfl rfl (mQ H3 (m:=26) (by simp[bk,h26])) hy ?_
    .exact dB (H3.sim (P:=Tryz.prog) hM3).2.2 (by simp[en,bk,h25])
    rintro e w4 ⟨rfl,M4,hJ4,hp4⟩;refine⟨_,rfl,?_⟩;obtain⟨y0,y1,y12,y13,y14⟩:=hk3;have H5:=(H3.mono hp4).put (d:=29) (by decide) (p:=B true) (.val (.bool true));have K5:dL 33 M4 (tX l t i 25 29 (B true) (B true)) (a3.put (some 29) (.bool true)) w4:=Ke H5 (by simp[ah,bk,y0]) (by simp[ah,bk,y1]) (by simp[ah,bk,y12]) (by simp[ah,bk,y13]) (by simp[ah,bk,y14]) (by simp[ah,bk,h25]) (by simp[ah]);refine K5.list (hJb _ _ _ hJ4) (hn:=[]) (Q:=λst'=>em l t i st'∧st'.t 31=.pv (.val (.bool false))) (λo ho c' hc'=>by simp at ho;rcases ho with rfl|rfl<;>cases hc') ?_ ?_
    .simp -implicitDefEqProofs [tX,tL,em]
    intro st6 a6 w6 ⟨hk6,h31⟩ H6 hx6 hd6;refine⟨rfl,M4,?_,sB H6 hk6 h31 h31,?_⟩
    .have:(cT t (i+1)).length=(cT t i).length+1:=by rw[hstep];simp
     rw[this];exact hJg _ _ _ _ hJ4 hx6
    .rw[hd6,i9,hd3,hd2,hd1];exact hdd
  rintro e a3 w3 ⟨rfl,M3,hJ3,H3,hd3⟩;show Code.wpIn Fence.wide n Tryz.prog _ _ a3 w3;refine wpIn_cond_false (mQ H3 (m:=31) (by simp[tX])) (wpIn_skip ?_);show Code.wpIn Fence.wide n Tryz.prog _ _ a3 w3;refine wpIn_mono (H3.step (hJb _ _ _ hJ3) (Q:=λe st'=>e=.normal∧em l t (i+1) st') (λC hP hN=>?_)) ?_
  .skip
   repeat' (first
    |with_reducible refine af.seq ?_
    |(with_reducible ((first|refine af.region hF (hn:=[]) (by kernel_rfl) ?_|refine af.cond' ?_);simp -implicitDefEqProofs (maxSteps:=2000000) [hP,hN,tX,tL,em,hwi]))
    |(with_reducible refine aO (by simp[tX,tL,em,hwi]) (λhgd=>?_) (λhgd=>?_)<;>first|(exfalso;simp at hgd;done)|(exfalso;simp at hgd;omega)|simp -implicitDefEqProofs (maxSteps:=2000000) [hP,hN,tX,tL,em,hwi])
    |with_reducible refine aE ?_ ?_
    |(with_reducible refine av (λhcd=>?_) (λhcd=>?_)<;>(try (exfalso;clear hP hN;simp_all;done))<;>(try (exfalso;simp at *;omega)))
    |with_reducible refine af.block ?_
    |(with_reducible ((first|refine af.skip ?_|refine af.exit ?_|refine af.ret ?_);simp[tX,tL,em,hwi])))
  rintro e a4 w4 ⟨st4,⟨rfl,hk4⟩,H4,hx4,hd4⟩;have K4:=tV H4 hk4;refine⟨⟨i+1,M3,by omega,hJg _ _ _ _ hJ3 hx4,K4,by rw[hd4];exact hd3⟩,?_⟩
  have hidx4:sA a4=i+1:=by
   simp only[sA,mQ K4 (m:=14) (v:=.int .i64 ((i+1:Nat):Int)) (by simp[tL])];omega
  show(ao t).length-sA a4<(ao t).length-sA a;omega
 .have hin:i=(ao t).length:=by omega
  refine wpIn_seq (wpIn_mono (hH.step hM' (Q:=λe st'=>e=.normal∧st'.t 15=.pv (.val (.bool false))) (λC hP hN=>?_)) ?_)
  .skip
   repeat' (first
    |with_reducible refine af.seq ?_
    |(with_reducible ((first|refine af.region hF (hn:=[]) (by kernel_rfl) ?_|refine af.cond' ?_);simp -implicitDefEqProofs (maxSteps:=2000000) [hP,hN,tL,hlt]))
    |(with_reducible refine aO (by simp[tL,hlt]) (λhgd=>?_) (λhgd=>?_)<;>first|(exfalso;simp at hgd;done)|(exfalso;simp at hgd;omega)|simp -implicitDefEqProofs (maxSteps:=2000000) [hP,hN,tL,hlt])
    |with_reducible refine aE ?_ ?_
    |(with_reducible refine av (λhcd=>?_) (λhcd=>?_)<;>(try (exfalso;clear hP hN;simp_all;done))<;>(try (exfalso;simp at *;omega)))
    |with_reducible refine af.block ?_
    |(with_reducible ((first|refine af.skip ?_|refine af.exit ?_|refine af.ret ?_);simp[tL,hlt])))
  rintro e a1 w1 ⟨st1,⟨rfl,h15⟩,H1,hx1,hd1⟩;have hJ1:=hJg _ _ _ _ hJ hx1;have e15:a1.eval (.tmp 15)=.bool false:=mQ H1 (m:=15) (by simp[bk,h15]);show Code.wpIn Fence.wide n Tryz.prog _ _ a1 w1;refine wpIn_seq (wpIn_cond_false e15 (wpIn_exit ?_));show LeavesInM Fence.wide n Tryz.prog Tryz.f164 a1.tmps _ a1.defers .returning w1;rw[hd1,hdd];refine⟨_,HW Tryz.results164 _ _ _,⟨_,rfl⟩,M',?_⟩
  have hlen:(eG t).length=(cT t i).length:=by
   cases hv:ay t with
   |true=>
    have:=eN hv;rw[hin,this];simp[eG,aD,hv]
   |false=>
    have:ao t=[]:=by
     simp only[ay]at hv;simp[ao,Option.isSome_eq_false_iff.1 hv |> Option.isNone_iff_eq_none.1]
    rw[hin,this];simp[eG,aD,hv,cT]
  rw[hlen];exact hJ1
set_option maxRecDepth 100000 in
theorem xU:uq Tryz.prog 128:=by
 refine⟨by kernel_rfl,λn args w=>?_⟩;refine callsDIn_of_wpSIn Tryz.func128 rfl trivial λc₀ cs hu=>?_;apply wpSIn_seq;apply wpSIn_region
 have hk:∀k,k<Tryz.f128.ntmps->k<args.size+(Tryz.f128.ntmps-args.size):=by intro k h;omega
 rw[Tryz.ntmps128]at hk;have h0:=hk 0 (by decide);have h1:=hk 1 (by decide);have h2:=hk 2 (by decide);simp[wpOpsSIn,go_sem,recoverD,hu,Tryz.ntmps128,Exit.thenS,h0,h1,h2];refine wpSIn_cond (t:=false) (by simp[Act.eval,h0,h1,h2]) ?_;simp only[Bool.false_eq_true,if_false];refine wpSIn_of_wpIn rfl (wpIn_skip ?_);cases c₀
 simp_all[bodyPostS,results,Tryz.results128]
theorem JC(t:Tr):aa Tryz.prog 129 [.pv (da t)] [] [] (.pv (.fn (.func 164) [] [.rptr (da t) 0])):=by
 refine Dp Tryz.func129 ?_;intro C hP hN;simp only[Tryz.f129]at hN|-;exact Gy
def LI(kb kr:Nat)(acc:List Nat)(h:Hp):Prop:=(acc=[]∧h kb=some (.box [.pv (.val (.slice none 0 0))] false false)∧h kr=none)∨(acc≠[]∧h kb=some (.box [.arr kr acc.length] false false)∧h kr=some (.row 3 1 (acc.map kR) 0))
theorem zC{x:PV×PV}(h:(eG t)[i]?=some x):∃e,(aD t)[i]?=some e∧x=(kR e,iv (dU t (e:Int))):=by
 rw[eG,List.getElem?_map,Option.map_eq_some_iff]at h;obtain⟨e,h1,h2⟩:=h;exact⟨e,h1,h2.symm⟩
theorem BL(h:l[i]?=some e):l.take (i+1)=l.take i++[e]:=by
 obtain⟨h1,h2⟩:=List.getElem?_eq_some_iff.1 h;rw[List.take_succ_eq_append_getElem h1,h2]
theorem tW(t:Tr):(aD t).length<=2048:=by
 cases hv:ay t with
 |false=>simp[aD,hv]
 |true=>
  have:=bG.1 (dz hv);have:=m9 t t.cells.length;simp[aD,hv];omega
set_option maxRecDepth 100000 in
theorem OV(t:Tr)(hl:t.cells.length<=9223372036854775807):aa Tryz.prog 75 [.pv (da t)] [] [] (.pv (.sl ((aD t).map kR))):=by
 refine yq (args:=[da t]) Tryz.func75 rfl (by kernel_rfl) (by simp[Tryz.f75]) ?_;intro C hP hN hCS;simp only[Tryz.f75]at hN|-;have hF:=eV;refine kL.seq hCS ?_
 repeat' (first
  |with_reducible refine af.seq ?_
  |(with_reducible ((first|refine af.region hF (hn:=[]) (by kernel_rfl) ?_|refine af.cond' ?_);simp -implicitDefEqProofs (maxSteps:=2000000) [hP,hN]))
  |(with_reducible refine aO (by simp) (λhgd=>?_) (λhgd=>?_)<;>first|(exfalso;simp at hgd;done)|(exfalso;simp at hgd;omega)|simp -implicitDefEqProofs (maxSteps:=2000000) [hP,hN])
  |with_reducible refine aE ?_ ?_
  |(with_reducible refine av (λhcd=>?_) (λhcd=>?_)<;>(try (exfalso;clear hP hN;simp_all;done))<;>(try (exfalso;simp at *;omega)))
  |with_reducible refine af.block ?_
  |(with_reducible ((first|refine af.skip ?_|refine af.exit ?_|refine af.ret ?_);simp)))
 refine kL.defer (pre:=[_]) (hn:=[]) (g:=128) rfl (λo ho c' hc'=>by simp at ho;subst ho;cases hc') rfl rfl rfl rfl rfl (by rw[hP];exact xU) ?_;simp -implicitDefEqProofs [hP,hN];refine kL.range hCS (gf:=164) (caps:=[.rptr (da t) 0]) (xs:=eG t) (by rw[hP];exact JB t hl) (by rw[hN];decide) (by rw[hN];decide) (ks:=[2]) (hin:=λ_=>[.val (.slice none 0 0)]) (t:=λm=>if m=2 then .ptr 2 0 else .undef) ?_ (λi h=>LI 2 12 ((aD t).take i) h) ?_ ?_ ?_ (by kernel_rfl) (hn:=[]) ?_
 .skip
  repeat' (first
   |with_reducible refine af.seq ?_
   |(with_reducible ((first|refine af.region hF (hn:=[]) (by kernel_rfl) ?_|refine bh (JC t) ?_|refine af.cond' ?_);simp -implicitDefEqProofs (maxSteps:=2000000) [hP,hN]))
   |(with_reducible refine aO (by simp) (λhgd=>?_) (λhgd=>?_)<;>first|(exfalso;simp at hgd;done)|(exfalso;simp at hgd;omega)|simp -implicitDefEqProofs (maxSteps:=2000000) [hP,hN])
   |with_reducible refine aE ?_ ?_
   |(with_reducible refine av (λhcd=>?_) (λhcd=>?_)<;>(try (exfalso;clear hP hN;simp_all;done))<;>(try (exfalso;simp at *;omega)))
   |with_reducible refine af.block ?_
   |(with_reducible ((first|refine af.skip ?_|refine af.exit ?_|refine af.ret ?_);simp)))
  all_goals (intro m;by_cases hm:m=2<;>simp[hm])
 .left;simp[iH]
 .intro i h k hk hi
  simp at hk;subst hk;rcases hi with⟨_,h2,_⟩|⟨_,h2,_⟩
  .exact⟨_,h2⟩
  .exact⟨_,h2⟩
 .intro C1 C2 l i x h hP1 hN1 hP2 hN2 hx hI
  obtain⟨e,he,rfl⟩:=zC hx;have hac:=BL he;have hsm:=tW t
  have hlen:((aD t).take i).length<=2048:=by rw[List.length_take];omega
  rw[hac];generalize(aD t).take i=acc at *;have hF:=rX l;have hP0:=hP;have hN0:=hN;clear hP hN;have hP:=hP1.trans hP0;have hN:=hN1.trans hN0;have hPb:=hP2.trans hP0;have hNb:=hN2.trans hN0
  have hA:(acc.length+1)*8<=140737488355328:=by omega
  have hA':acc.length+1<=9223372036854775807:=by omega
  rcases hI with⟨rfl,q2,q12⟩|⟨hne,q2,q12⟩
  .skip
   repeat' (first
    |with_reducible refine af.seq ?_
    |(with_reducible ((first|refine af.region hF (hn:=[]) (by kernel_rfl) ?_|refine af.cond' ?_);simp -implicitDefEqProofs (maxSteps:=2000000) [hP,hN,hPb,hNb,iR,q2,q12]))
    |(with_reducible refine aO (by simp[hPb,hNb,iR,q2,q12]) (λhgd=>?_) (λhgd=>?_)<;>first|(exfalso;simp at hgd;done)|(exfalso;simp at hgd;omega)|simp -implicitDefEqProofs (maxSteps:=2000000) [hP,hN,hPb,hNb,iR,q2,q12])
    |with_reducible refine aE ?_ ?_
    |(with_reducible refine av (λhcd=>?_) (λhcd=>?_)<;>(try (exfalso;clear hP hN;simp_all;done))<;>(try (exfalso;simp at *;omega)))
    |with_reducible refine af.block ?_
    |(with_reducible ((first|refine af.skip ?_|refine af.exit ?_|refine af.ret ?_);simp[hPb,hNb,iR,q2,q12])))
   all_goals exact .inr ⟨by simp,by simp[ah],by simp[ah]⟩
  .skip
   repeat' (first
    |with_reducible refine af.seq ?_
    |(with_reducible ((first|refine af.region hF (hn:=[]) (by kernel_rfl) ?_|refine af.cond' ?_);simp -implicitDefEqProofs (maxSteps:=2000000) [hP,hN,hPb,hNb,iR,q2,q12,hA,hA']))
    |(with_reducible refine aO (by simp[hPb,hNb,iR,q2,q12,hA,hA']) (λhgd=>?_) (λhgd=>?_)<;>first|(exfalso;simp at hgd;done)|(exfalso;simp at hgd;omega)|simp -implicitDefEqProofs (maxSteps:=2000000) [hP,hN,hPb,hNb,iR,q2,q12,hA,hA'])
    |with_reducible refine aE ?_ ?_
    |(with_reducible refine av (λhcd=>?_) (λhcd=>?_)<;>(try (exfalso;clear hP hN;simp_all;done))<;>(try (exfalso;simp at *;omega)))
    |with_reducible refine af.block ?_
    |(with_reducible ((first|refine af.skip ?_|refine af.exit ?_|refine af.ret ?_);simp[hPb,hNb,iR,q2,q12,hA,hA'])))
   all_goals exact .inr ⟨by simp,by simp[ah],by simp[ah]⟩
 .intro h hI
  have hall:(aD t).take (eG t).length=aD t:=List.take_of_length_le (by simp[eG]);rw[hall]at hI;rcases hI with⟨e,q2,q12⟩|⟨hne,q2,q12⟩
  .rw[e]
   simp -implicitDefEqProofs [hP,hN,q2,q12]
  .simp -implicitDefEqProofs [hP,hN,q2,q12]
theorem FM{x y:PV}(h:i<n):(List.replicate i x++List.replicate (n-i) y).set i x=List.replicate (i+1) x++List.replicate (n-(i+1)) y:=by
 rw[List.set_append_right _ _ (by simp),List.length_replicate,Nat.sub_self,show n-i=(n-(i+1))+1 by omega,List.replicate_succ,List.set_cons_zero,List.replicate_succ',List.append_assoc];rfl
def zh(t:Tr)(h:Hp)(x a b c:Nat):Prop:=h x=some (.box [.pv (iv t.root),.pv (.sl (t.cells.map aW)),.arr a t.cells.length,.ext (.barr b t.cells.length t.cells.length),.arr c t.cells.length] true false)∧h a=some (.row 22 1 ((ao t).map iv) 0)∧h b=some (.box (List.replicate t.cells.length cL) true false)∧h c=some (.row 3 1 (List.replicate t.cells.length (Z (-1))) 0)∧∀k,290<=k->k≠x->k≠a->k≠b->k≠c->h k=none
theorem xm{k' q:Nat}(hq:k'≠q):aL d k' h (rk d k' q)=(h q).map (bN d k'):=by
 unfold aL rk;by_cases e:q=d
 .subst e;simp
 .rw[if_neg e,if_neg (λe2=>hq e2.symm),if_neg e]
theorem lw{b:Blk}(e:h k=some b)(hb:∀cs f,b≠.box cs false f):∀cs f,h k≠some (.box cs false f):=by
 intro cs f h2;rw[e]at h2;injection h2 with h2;exact hb cs f h2
theorem xn{x a k':Nat}(H:zh t h x a b c)(hd:d=x∨d=a∨d=b∨d=c)(h1:k'≠x)(h2:k'≠a)(h3:k'≠b)(h4:k'≠c):zh t (aL d k' h) (rk d k' x) (rk d k' a) (rk d k' b) (rk d k' c):=by
 obtain⟨e1,e2,e3,e4,e5⟩:=H;refine⟨?_,?_,?_,?_,λk hk n1 n2 n3 n4=>?_⟩
 .rw[xm h1,e1];rfl
 .rw[xm h2,e2];rfl
 .rw[xm h3,e3];simp[bN,aY,aN]
 .rw[xm h4,e4];rfl
 .have hk':k≠k':=by
   intro e;subst e;rcases hd with rfl|rfl|rfl|rfl
   .exact n1 (by simp[rk])
   .exact n2 (by simp[rk])
   .exact n3 (by simp[rk])
   .exact n4 (by simp[rk])
  unfold aL;rw[if_neg hk'];by_cases e:k=d
  .rw[if_pos e]
  .rw[if_neg e]
   have ne:∀y,k≠rk d k' y->k≠y:=λy hy e2=>hy (by rw[<-e2,rk,if_neg e]);rw[e5 k hk (ne _ n1) (ne _ n2) (ne _ n3) (ne _ n4)];rfl
theorem N9(t:Tr)(hv:ay t=true):kC Tryz.prog 34 [.pv (da t)] iX (λr h'=>r=.ptr 290 0∧h'=aM true (iF true t) 0):=by
 obtain⟨z1,z2,z3,z4,z5⟩:=bG.1 (dz hv);have hin:=v8 z1;have cl:=OV t (by omega);have hcl:=t.cells.length;refine B8 Tryz.func34 vi ?_;intro C hP hN;simp only[Tryz.f34]at hN|-
 with_reducible repeat' (first|refine Sp.h ?_|((first|refine Wh [1000019] ?_|refine Wi [1000019] ?_|refine Ss.h ?_|(refine Sb.h ?_ ?_ ?_<;>(try intro hgd)<;>try exact Xy))<;>simp -implicitDefEqProofs (maxSteps:=2000000) [hP,hN,pO,iX,hin,show(24:Int)*t.cells.length<=281474976710656 by omega,show(8:Int)*t.cells.length<=281474976710656 by omega,show(t.cells.length:Int)<=9223372036854775807 by omega,show(t.cells.length:Int)<=281474976710656 by omega,show 0<t.cells.length by omega]<;>try refine Yc ?_)|refine X2 ?_ ?_|(refine Xd ?_ ?_<;>intro hcd<;>try exact Xx))
 obtain⟨n,hn⟩:∃n,t.cells.length=n:=⟨_,rfl⟩;have hloop:∀L:OL,BInv t t.cells.length L->cK t=some L:=λL h=>qm h (by omega);refine WP.loopN [6] t.cells.length (λi st=>∃L,BInv t i L∧st.t 1=.ptr 1 0∧st.t 4=.ptr 23 0∧st.t 32=.pv (.sl (t.cells.map aW))∧st.t 33=.pv (Z t.cells.length)∧st.t 34=.pv (Z i)∧st.h 6=none∧st.h 1=some (.box [.pv (iv t.root),.pv (.sl (t.cells.map aW))] true false)∧st.h 17=some (.row 22 1 (L.map nQ) 0)∧st.h 19=some (.box (List.replicate t.cells.length cL) true false)∧st.h 21=some (.row 3 1 (List.replicate i (Z (-1))++List.replicate (t.cells.length-i) (Z 0)) 0)∧st.h 23=some (.box [.pv (iv t.root),.pv (.sl (t.cells.map aW)),.arr 17 t.cells.length,.ext (.barr 19 t.cells.length t.cells.length),.arr 21 t.cells.length] true false)∧∀k,290<=k->st.h k=none) ?_ ?_
 .refine⟨iJ t,tR (dz hv),?_⟩
  simp[St.kill,aq,bm,aQ,ax,iX,ah,XV.key];intro k h1 h2;simp[h2,show¬k=1 by omega,show¬k=17 by omega,show¬k=19 by omega,show¬k=21 by omega,show¬k=23 by omega]
 rintro i st hi ⟨L,hB,g1,g4,g32,g33,g34,b6,b1,b17,b19,b21,b23,bhi⟩;have hLl:=hB.bok.len;by_cases hlt:i<t.cells.length
 .have hw:=au hlt (by omega)
  generalize hc:t.cells[i]=c at *
  have hci:t.cells[i]?=some c:=by rw[List.getElem?_eq_getElem hlt,hc]
  have hlL:i<L.length:=by omega
  have hf:=FM (x:=Z (-1)) (y:=Z 0) hlt
  have hfl:(List.replicate i (Z (-1))++List.replicate (t.cells.length-i) (Z 0)).length=t.cells.length:=by simp;omega
  obtain⟨L',hs⟩:∃L',eM t.cells.length i c L=some L':=by
   cases h:eM t.cells.length i c L with
   |some L'=>exact⟨L',rfl⟩
   |none=>
    have:=tS hB hlt (by rw[hc];exact h);rw[ay,this]at hv;cases hv
  have hnx:=nD hB hlt (by rw[hc];exact hs);obtain⟨b,hx,hcase⟩:=gC hs;have hx':=aT hx hlL;obtain⟨hbl,hbv⟩:=hB.bok.ok i b hx;rcases hcase with⟨hlf,_,rfl⟩|⟨hlf,hin',hh,ha,hz,rfl⟩
  .have hlow:(c.low != -1)=false:=by simp[cO]at hlf;simp[hlf]
   generalize hR:List.replicate i (Z (-1))++List.replicate (t.cells.length-i) (Z 0)=R at *
   with_reducible repeat' (first|refine Sp.h ?_|((first|refine Wd ?_|refine Ss.h ?_|(refine Sb.h ?_ ?_ ?_<;>(try intro hgd)<;>try exact Xy))<;>simp -implicitDefEqProofs (maxSteps:=2000000) [hP,hN,g1,g4,g32,g33,g34,b6,b1,b17,b19,b21,b23,hlt,hw,hx,hx',cY,cZ,hci,hc,hLl,hlow,hf,hfl,aW]<;>try refine Yc ?_)|refine X2 ?_ ?_|(refine Xd ?_ ?_<;>intro hcd<;>try exact Xx))
   all_goals exact⟨_,hnx,rfl,λk h1 h2=>by simp[h2,show¬k=21 by omega,bhi k h1]⟩
  .obtain⟨i1,i2,i3,i4,i5,i6⟩:=fN.1 hin'
   have hlow:(c.low != -1)=true:=by simp;omega
   have ch:=Ir b c.joint (by omega);rw[hh]at ch
   have k1:c.low.toNat<t.cells.length:=by omega
   have k2:c.high.toNat<t.cells.length:=by omega
   have k3:0<=c.low:=by omega
   have k4:0<=c.high:=by omega
   have k5:c.low.toNat<L.length:=by omega
   have k6:c.high.toNat<L.length:=by omega
   have j2:¬(t.cells.length:Int)<=c.low:=by omega
   have j4:¬(t.cells.length:Int)<=c.high:=by omega
   generalize hR:List.replicate i (Z (-1))++List.replicate (t.cells.length-i) (Z 0)=R at *
   with_reducible repeat' (first|refine Sp.h ?_|((first|refine Wd ?_|refine Ss.h ?_|refine Sc.h (ch) ?_|(refine Sb.h ?_ ?_ ?_<;>(try intro hgd)<;>try exact Xy))<;>simp -implicitDefEqProofs (maxSteps:=2000000) [hP,hN,g1,g4,g32,g33,g34,b6,b1,b17,b19,b21,b23,hlt,hw,hx,hx',cY,cZ,hci,hc,hLl,hlow,hf,hfl,aW,k1,k2,k3,k4,j2,j4]<;>try refine Yc ?_)|refine X2 ?_ ?_|(refine Xd ?_ ?_<;>intro hcd<;>try exact Xx))
   all_goals exact⟨_,hnx,set_row,λk h1 h2=>by simp[h2,show¬k=17 by omega,show¬k=21 by omega,bhi k h1]⟩
 .have hdn:=qm hB hlt
  have hmap:=wg hdn
  have hin':i=t.cells.length:=by omega
  subst hin';rw[hmap]at b17;rw[Nat.sub_self,List.replicate_zero,List.append_nil]at b21;have hnd:=EI t;have hlt':=λv(h:v∈aD t)=>(tC h).1;have hll:=xq hv;generalize hl:aD t=l at *
  with_reducible repeat' (first|refine Sp.h ?_|((first|refine Wd ?_|refine Ss.h ?_|refine Sc.h (cl) ?_|(refine Sb.h ?_ ?_ ?_<;>(try intro hgd)<;>try exact Xy))<;>simp -implicitDefEqProofs (maxSteps:=2000000) [hP,hN,g1,g4,g32,g33,g34,b6,b1,b17,b19,b21,b23,hlt]<;>try refine Yc ?_)|refine X2 ?_ ?_|(refine Xd ?_ ?_<;>intro hcd<;>try exact Xx))
  refine WP.of_st (P:=λst=>st.t 4=.ptr 23 0∧st.t 7=.pv (.sl (l.map kR))∧st.t 79=.pv (.sl (l.map kR))∧st.t 80=.pv (Z l.length)∧st.t 81=.pv (Z 0)∧zh t st.h 23 17 19 21) ⟨⟨by simp[g4,ah],by simp[ah],by simp[ah],by simp[ah],by simp[ah],b23,b17,b19,b21,λk h1 _ _ _ _=>bhi k h1⟩,?_⟩;clear g1 g4 g32 g33 g34 b6 b1 b17 b19 b21 b23 bhi st;rintro st ⟨g4,g7,g79,g80,g81,H⟩;refine WP.ren 23 290 (by omega) (H.2.2.2.2 290 (by omega) (by omega) (by omega) (by omega) (by omega)) (by omega) (lw H.1 (by intro cs f e;cases e)) ?_;have H1:zh t (aL 23 290 st.h) 290 17 19 21:=xn H (by simp) (by omega) (by omega) (by omega) (by omega);refine WP.ren 17 292 (by omega) (H1.2.2.2.2 292 (by omega) (by omega) (by omega) (by omega) (by omega)) (by omega) (lw H1.2.1 (by intro cs f e;cases e)) ?_;have H2:zh t (aL 17 292 (aL 23 290 st.h)) 290 292 19 21:=xn H1 (by simp) (by omega) (by omega) (by omega) (by omega);refine WP.ren 19 293 (by omega) (H2.2.2.2.2 293 (by omega) (by omega) (by omega) (by omega) (by omega)) (by omega) (lw H2.2.2.1 (by intro cs f e;cases e)) ?_;have H3:zh t (aL 19 293 (aL 17 292 (aL 23 290 st.h))) 290 292 293 21:=xn H2 (by simp) (by omega) (by omega) (by omega) (by omega);refine WP.ren 21 294 (by omega) (H3.2.2.2.2 294 (by omega) (by omega) (by omega) (by omega) (by omega)) (by omega) (lw H3.2.2.2.1 (by intro cs f e;cases e)) ?_;have H4:zh t (aL 21 294 (aL 19 293 (aL 17 292 (aL 23 290 st.h)))) 290 292 293 294:=xn H3 (by simp) (by omega) (by omega) (by omega) (by omega);refine WP.of_st (P:=λst=>st.t 4=.ptr 290 0∧st.t 7=.pv (.sl (l.map kR))∧st.t 79=.pv (.sl (l.map kR))∧st.t 80=.pv (Z l.length)∧st.t 81=.pv (Z 0)∧zh t st.h 290 292 293 294) ⟨⟨by simp[g4,aY,aN,rk],by simp[g7,aY,aN],by simp[g79,aY,aN],by simp[g80,aY,aN],by simp[g81,aY,aN],H4⟩,?_⟩;clear H H1 H2 H3 H4 g4 g7 g79 g80 g81 st;rintro st ⟨g4,g7,g79,g80,g81,H⟩
  have hn0:(cQ true t l 0 0).near.length=t.cells.length:=by simp[cQ]
  have hr0:∀v,ae (cQ true t l 0 0) v=[]:=λv=>by
   unfold ae;rw[EF,List.getElem?_replicate];split<;>rfl
  refine WP.nilRows (λq=>decide (300<=q)&&decide (q<300+t.cells.length)) 3 293 (cs:=List.replicate t.cells.length cL) (cs':=fZ (cQ true t l 0 0).near) (own:=true) (fb:=false) H.2.2.1 ?_ ?_ ?_ ?_
  .intro q hq
   simp only[Bool.and_eq_true,decide_eq_true_eq]at hq;exact⟨H.2.2.2.2 q (by omega) (by omega) (by omega) (by omega) (by omega),by omega⟩
  .rw[bL,hn0,List.length_replicate]
  .intro i x hx
   have hi:i<t.cells.length:=by
    have:=(List.getElem?_eq_some_iff.1 hx).1
    rwa [bL,hn0]at this
   rw[jX (by omega)]at hx;injection hx with hx;have hz:((cQ true t l 0 0).near[i]?).getD []=[]:=hr0 i;rw[hz]at hx;exact .inr ⟨by rw[List.getElem?_replicate,if_pos hi],i+300,by simp;omega,hx.symm⟩
  refine WP.of_st (P:=λst=>st.t 4=.ptr 290 0∧st.t 7=.pv (.sl (l.map kR))∧st.t 79=.pv (.sl (l.map kR))∧st.t 80=.pv (Z l.length)∧st.t 81=.pv (Z 0)∧∀k,inK k=true->st.h k=aM true (cQ true t l 0 0) 0 k) ⟨⟨g4,g7,g79,g80,g81,λk hk=>?_⟩,?_⟩
  .simp only[inK,Bool.and_eq_true,decide_eq_true_eq]at hk
   unfold aM;simp only;rw[hn0];by_cases e0:k=290
   .subst e0
    rw[if_neg (by simp),if_neg (by omega),if_pos rfl,H.1];simp only[cQ,jW,eN hv,List.length_replicate];rfl
   by_cases e1:k=291
   .subst e1
    rw[if_neg (by simp),if_neg (by omega),if_neg (by omega),if_pos rfl,H.2.2.2.2 291 (by omega) (by omega) (by omega) (by omega) (by omega)];rfl
   by_cases e2:k=292
   .subst e2
    rw[if_neg (by simp),if_neg (by omega),if_neg (by omega),if_neg (by omega),if_pos rfl,H.2.1];rfl
   by_cases e3:k=293
   .subst e3
    rw[if_neg (by simp),if_pos rfl,if_neg (by omega),if_neg (by omega),if_neg (by omega),if_pos rfl];simp
   by_cases e4:k=294
   .subst e4
    rw[if_neg (by simp),if_neg (by omega),if_neg (by omega),if_neg (by omega),if_neg (by omega),if_neg (by omega),if_pos rfl,H.2.2.2.1];simp[cQ]
   rw[if_neg e0,if_neg e1,if_neg e2,if_neg e3,if_neg e4];by_cases h6:300<=k∧k<300+t.cells.length
   .rw[if_pos (by simp;omega),if_neg e3,if_pos h6,hr0];rfl
   .rw[if_neg (by simp;omega),if_neg e3,if_neg h6,H.2.2.2.2 k (by omega) (by omega) (by omega) (by omega) (by omega)]
  clear H g4 g7 g79 g80 g81 st;rintro st ⟨g4,g7,g79,g80,g81,bH⟩;refine WP.loopN [] l.length (λk st=>st.t 4=.ptr 290 0∧st.t 7=.pv (.sl (l.map kR))∧st.t 79=.pv (.sl (l.map kR))∧st.t 80=.pv (Z l.length)∧st.t 81=.pv (Z k)∧∀q,inK q=true->st.h q=aM true (cQ true t l k 0) 0 q) ?_ ?_
  .refine⟨by simp[St.kill,aq,aQ,ax,g4],by simp[St.kill,aq,aQ,ax,g7],by simp[St.kill,aq,aQ,ax,g79],by simp[St.kill,aq,aQ,ax,g80],by simp[St.kill,aq,aQ,ax,g81],λq hq=>?_⟩
   show(st.h q).map (bm [])=_;rw[bH q hq,fJ]
  clear bH g4 g7 g79 g80 g81 st;rintro k st hk ⟨g4,g7,g79,g80,g81,bH⟩;have c290:=(bH 290 rfl).trans (lx true _ 0);by_cases hlt:k<l.length
  .have hw:=au hlt (by omega)
   obtain⟨v,hkv⟩:∃v,l[k]?=some v:=⟨_,List.getElem?_eq_getElem hlt⟩;have hkv':∀h,l[k]'h=v:=λh=>fy hkv h
   have htk:(l.take k).length=k:=by rw[List.length_take];omega
   have hmt:(l.take k).map kR=(l.map kR).take k:=List.map_take
   with_reducible repeat' (first|refine Sp.h ?_|((first|refine Wd ?_|refine Ss.h ?_|(refine Sb.h ?_ ?_ ?_<;>(try intro hgd)<;>try exact Xy))<;>simp -implicitDefEqProofs (maxSteps:=2000000) [hP,hN,g4,g7,g79,g80,g81,c290,hlt,hw,hkv,hkv',htk,hk,lj,lI]<;>try refine Yc ?_)|refine X2 ?_ ?_|(refine Xd ?_ ?_<;>intro hcd<;>try exact Xx))
   have hvn:=hlt' v (List.mem_of_getElem? hkv);have hz:=bG.1 (dz hv)
   have d1:∀j,(cQ true t l k j).near.length=t.cells.length:=λj=>by simp[cQ]
   have d2:∀j,(cQ true t l k j).bx.length=t.cells.length:=λj=>eN hv
   have d3:∀j,∀x∈(cQ true t l k j).bx,x.length<=9223372036854775807:=λj x hx=>by
    obtain⟨a,ha⟩:=List.getElem?_of_mem hx;have:=(gJ ha).1;omega
   have d4:∀j v,(ae (cQ true t l k j) v).length<=4096:=λj v=>Nat.le_trans Ct (by omega);refine WP.loopN [] k (λj st=>st.t 4=.ptr 290 0∧st.t 7=.pv (.sl (l.map kR))∧st.t 79=.pv (.sl (l.map kR))∧st.t 80=.pv (Z l.length)∧st.t 81=.pv (Z k)∧st.t 9=.pv (Z v)∧st.t 88=.pv (.sl ((l.map kR).take k))∧st.t 89=.pv (Z k)∧st.t 90=.pv (Z j)∧∀q,inK q=true->st.h q=aM true (cQ true t l k j) 0 q) ?_ ?_
   .refine⟨by simp[St.kill,aq,aQ,ax,ah,g4],by simp[St.kill,aq,aQ,ax,ah,g7],by simp[St.kill,aq,aQ,ax,ah,g79],by simp[St.kill,aq,aQ,ax,ah,g80],by simp[St.kill,aq,aQ,ax,ah,g81],by simp[St.kill,aq,aQ,ax,ah],by simp[St.kill,aq,aQ,ax,ah],by simp[St.kill,aq,aQ,ax,ah],by simp[St.kill,aq,aQ,ax,ah],λq hq=>?_⟩
    show(st.h q).map (bm [])=_;rw[bH q hq,fJ]
   clear bH g4 g7 g79 g80 g81 c290 st;rintro j st hj ⟨g4,g7,g79,g80,g81,g9,g88,g89,g90,bH⟩;by_cases hjk:j<k
   .have hwj:=au hjk (by omega)
    obtain⟨u,hju⟩:∃u,l[j]?=some u:=⟨_,List.getElem?_eq_getElem (by omega)⟩;have hju':∀h,l[j]'h=u:=λh=>fy hju h
    have hjl:j<l.length:=by omega
    have hun:=hlt' u (List.mem_of_getElem? hju);have hm:=EH (cc:=true) hv hnd hlt' hlt hjk;rw[hkv' hlt,hju' hjl]at hm
    have hvu:v≠u:=λe=>by
     have e1:=xp hnd hlt;have e2:=xp hnd hjl;rw[hkv' hlt]at e1;rw[hju' hjl,<-e,e1]at e2;omega
    have htj:((l.map kR).take k)[j]?=some (kR u):=by rw[List.getElem?_take,if_pos hjk,List.getElem?_map,hju];rfl
    with_reducible repeat' (first|refine Sp.h ?_|((with_unfolding_all refine WP.takeAt (hn:=[]) 3 rfl rfl rfl ?_);simp -implicitDefEqProofs (maxSteps:=2000000) [hP,hN,g4,g7,g79,g80,g81,g9,g88,g89,g90,hjk,hwj,htj,hju,hju',hjl,hlt])|((first|refine Wd ?_|refine Ss.h ?_|(refine Sb.h ?_ ?_ ?_<;>(try intro hgd)<;>try exact Xy))<;>simp -implicitDefEqProofs (maxSteps:=2000000) [hP,hN,g4,g7,g79,g80,g81,g9,g88,g89,g90,hjk,hwj,htj,hju,hju',hjl,hlt]<;>try refine Yc ?_)|refine X2 ?_ ?_|(refine Xd ?_ ?_<;>intro hcd<;>try exact Xx))
    refine se (s:=cQ true t l k j) (c:=0) (a:=v) (b:=u) hP rfl (by simp[St.ev]) bH (by rw[d1];omega) (by rw[d1];omega) (by rw[d1];omega) hvu (by rw[d1,d2]) (d3 j) (d4 j) (by simp[bX,hN]) ?_;intro r9 h9 hh9 ho9;rw[hm]at hh9;simp -implicitDefEqProofs (maxSteps:=2000000) [hP,hN,dO,iV,fa,iC,inK,g4,g7,g79,g80,g81,g9,g88,g89,g90]
    with_reducible repeat' (first|refine Sp.h ?_|((first|refine Wd ?_|refine Ss.h ?_|(refine Sb.h ?_ ?_ ?_<;>(try intro hgd)<;>try exact Xy))<;>simp -implicitDefEqProofs (maxSteps:=2000000) [hP,hN,dO,iV,fa,iC,inK,g4,g7,g79,g80,g81,g9,g88,g89,g90,hwj]<;>try refine Yc ?_)|refine X2 ?_ ?_|(refine Xd ?_ ?_<;>intro hcd<;>try exact Xx))
    exact λq a b=>by rw[hh9 q (by simp[inK,a,b]),fJ]
   .have hjk':j=k:=by omega
    subst hjk';rw[EG hnd hlt]at bH
    with_reducible repeat' (first|refine Sp.h ?_|((first|refine Wd ?_|refine Ss.h ?_|(refine Sb.h ?_ ?_ ?_<;>(try intro hgd)<;>try exact Xy))<;>simp -implicitDefEqProofs (maxSteps:=2000000) [hP,hN,g4,g7,g79,g80,g81,g9,g88,g89,g90,hjk,hw]<;>try refine Yc ?_)|refine X2 ?_ ?_|(refine Xd ?_ ?_<;>intro hcd<;>try exact Xx))
    exact λq hq=>by rw[bH q hq,fJ]
  .have hkl:k=l.length:=by omega
   subst hkl
   with_reducible repeat' (first|refine Sp.h ?_|((first|refine Wd ?_|refine Ss.h ?_|(refine Sb.h ?_ ?_ ?_<;>(try intro hgd)<;>try exact Xy))<;>simp -implicitDefEqProofs (maxSteps:=2000000) [hP,hN,g4,g7,g79,g80,g81,hlt]<;>try refine Yc ?_)|refine X2 ?_ ?_|(refine Xd ?_ ?_<;>intro hcd<;>try exact Xx))
   have hsp:iF true t=cQ true t l l.length 0:=by unfold iF;rw[hl]
   rw[hsp];exact qL (H:=aM true (cQ true t l l.length 0) 0) (r:=.ptr 290 0) rfl rfl bH (lg (by simp[cQ];omega)) ⟨rfl,rfl⟩ (λk cs f hk=>by cases hk)
set_option maxRecDepth 100000 in
theorem OW(t:Tr)(hv9:ay t=true)(hl:t.cells.length<=9223372036854775807):aa Tryz.prog 75 [.pv (da t)] [] [] (.nrow 3 1 ((aD t).map kR)):=by
 refine yq (args:=[da t]) Tryz.func75 rfl (by kernel_rfl) (by simp[Tryz.f75]) ?_;intro C hP hN hCS;simp only[Tryz.f75]at hN|-;have hF:=eV;refine kL.seq hCS ?_
 repeat' (first
  |with_reducible refine af.seq ?_
  |(with_reducible ((first|refine af.region hF (hn:=[]) (by kernel_rfl) ?_|refine af.cond' ?_);simp -implicitDefEqProofs (maxSteps:=2000000) [hP,hN]))
  |(with_reducible refine aO (by simp) (λhgd=>?_) (λhgd=>?_)<;>first|(exfalso;simp at hgd;done)|(exfalso;simp at hgd;omega)|simp -implicitDefEqProofs (maxSteps:=2000000) [hP,hN])
  |with_reducible refine aE ?_ ?_
  |(with_reducible refine av (λhcd=>?_) (λhcd=>?_)<;>(try (exfalso;clear hP hN;simp_all;done))<;>(try (exfalso;simp at *;omega)))
  |with_reducible refine af.block ?_
  |(with_reducible ((first|refine af.skip ?_|refine af.exit ?_|refine af.ret ?_);simp)))
 refine kL.defer (pre:=[_]) (hn:=[]) (g:=128) rfl (λo ho c' hc'=>by simp at ho;subst ho;cases hc') rfl rfl rfl rfl rfl (by rw[hP];exact xU) ?_;simp -implicitDefEqProofs [hP,hN];refine kL.range hCS (gf:=164) (caps:=[.rptr (da t) 0]) (xs:=eG t) (by rw[hP];exact JB t hl) (by rw[hN];decide) (by rw[hN];decide) (ks:=[2]) (hin:=λ_=>[.val (.slice none 0 0)]) (t:=λm=>if m=2 then .ptr 2 0 else .undef) ?_ (λi h=>LI 2 12 ((aD t).take i) h) ?_ ?_ ?_ (by kernel_rfl) (hn:=[]) ?_
 .skip
  repeat' (first
   |with_reducible refine af.seq ?_
   |(with_reducible ((first|refine af.region hF (hn:=[]) (by kernel_rfl) ?_|refine bh (JC t) ?_|refine af.cond' ?_);simp -implicitDefEqProofs (maxSteps:=2000000) [hP,hN]))
   |(with_reducible refine aO (by simp) (λhgd=>?_) (λhgd=>?_)<;>first|(exfalso;simp at hgd;done)|(exfalso;simp at hgd;omega)|simp -implicitDefEqProofs (maxSteps:=2000000) [hP,hN])
   |with_reducible refine aE ?_ ?_
   |(with_reducible refine av (λhcd=>?_) (λhcd=>?_)<;>(try (exfalso;clear hP hN;simp_all;done))<;>(try (exfalso;simp at *;omega)))
   |with_reducible refine af.block ?_
   |(with_reducible ((first|refine af.skip ?_|refine af.exit ?_|refine af.ret ?_);simp)))
  all_goals (intro m;by_cases hm:m=2<;>simp[hm])
 .left;simp[iH]
 .intro i h k hk hi
  simp at hk;subst hk;rcases hi with⟨_,h2,_⟩|⟨_,h2,_⟩
  .exact⟨_,h2⟩
  .exact⟨_,h2⟩
 .intro C1 C2 l i x h hP1 hN1 hP2 hN2 hx hI
  obtain⟨e,he,rfl⟩:=zC hx;have hac:=BL he;have hsm:=tW t
  have hlen:((aD t).take i).length<=2048:=by rw[List.length_take];omega
  rw[hac];generalize(aD t).take i=acc at *;have hF:=rX l;have hP0:=hP;have hN0:=hN;clear hP hN;have hP:=hP1.trans hP0;have hN:=hN1.trans hN0;have hPb:=hP2.trans hP0;have hNb:=hN2.trans hN0
  have hA:(acc.length+1)*8<=140737488355328:=by omega
  have hA':acc.length+1<=9223372036854775807:=by omega
  rcases hI with⟨rfl,q2,q12⟩|⟨hne,q2,q12⟩
  .skip
   repeat' (first
    |with_reducible refine af.seq ?_
    |(with_reducible ((first|refine af.region hF (hn:=[]) (by kernel_rfl) ?_|refine af.cond' ?_);simp -implicitDefEqProofs (maxSteps:=2000000) [hP,hN,hPb,hNb,iR,q2,q12]))
    |(with_reducible refine aO (by simp[hPb,hNb,iR,q2,q12]) (λhgd=>?_) (λhgd=>?_)<;>first|(exfalso;simp at hgd;done)|(exfalso;simp at hgd;omega)|simp -implicitDefEqProofs (maxSteps:=2000000) [hP,hN,hPb,hNb,iR,q2,q12])
    |with_reducible refine aE ?_ ?_
    |(with_reducible refine av (λhcd=>?_) (λhcd=>?_)<;>(try (exfalso;clear hP hN;simp_all;done))<;>(try (exfalso;simp at *;omega)))
    |with_reducible refine af.block ?_
    |(with_reducible ((first|refine af.skip ?_|refine af.exit ?_|refine af.ret ?_);simp[hPb,hNb,iR,q2,q12])))
   all_goals exact .inr ⟨by simp,by simp[ah],by simp[ah]⟩
  .skip
   repeat' (first
    |with_reducible refine af.seq ?_
    |(with_reducible ((first|refine af.region hF (hn:=[]) (by kernel_rfl) ?_|refine af.cond' ?_);simp -implicitDefEqProofs (maxSteps:=2000000) [hP,hN,hPb,hNb,iR,q2,q12,hA,hA']))
    |(with_reducible refine aO (by simp[hPb,hNb,iR,q2,q12,hA,hA']) (λhgd=>?_) (λhgd=>?_)<;>first|(exfalso;simp at hgd;done)|(exfalso;simp at hgd;omega)|simp -implicitDefEqProofs (maxSteps:=2000000) [hP,hN,hPb,hNb,iR,q2,q12,hA,hA'])
    |with_reducible refine aE ?_ ?_
    |(with_reducible refine av (λhcd=>?_) (λhcd=>?_)<;>(try (exfalso;clear hP hN;simp_all;done))<;>(try (exfalso;simp at *;omega)))
    |with_reducible refine af.block ?_
    |(with_reducible ((first|refine af.skip ?_|refine af.exit ?_|refine af.ret ?_);simp[hPb,hNb,iR,q2,q12,hA,hA'])))
   all_goals exact .inr ⟨by simp,by simp[ah],by simp[ah]⟩
 .intro h hI
  have hall:(aD t).take (eG t).length=aD t:=List.take_of_length_le (by simp[eG]);rw[hall]at hI;rcases hI with⟨e,q2,q12⟩|⟨hne,q2,q12⟩
  .have:=qJ hv9
   rw[e]at this;simp at this
  .simp -implicitDefEqProofs [hP,hN,q2,q12]
def eh(e sz:Nat)(ys:List PV):Hp:=λk=>if k=291 then some (.row e sz ys 0)else none
theorem eB{b:Blk}(h:eh e sz ys k=some b):k=291∧b=.row e sz ys 0:=by
 unfold eh at h;split at h
 .rename_i e9;injection h with h;exact⟨e9,h.symm⟩
 .cases h
theorem Fe{ρ:Operand->AV}{hK:Hp}{pre:List PV}(hop:o.op=.call {callee:=.value f,args:=xs.toArray,argTypes:=ats})(hd:o.dst=some d)(hkd:hK d=none)
 (hce:bC (ρ f)=some (g,[],[]))(hargs:xs.map ρ=args.map AV.pv)(hD:kC P g (args.map .pv) iX (λr h'=>r=.tup [.agg (pre.map .pv++[.arr 291 ys.length]),.pv q]∧h'=eh e sz ys)):
 kg P o ρ hK (.tup [.agg (pre.map .pv++[.arr d ys.length]),.pv q]) [(d,.row e sz ys 0)]:=by
 intro C L h w1 a1 hP hm hs hf hρ next Q hnext
 subst hP;obtain⟨hcall,hDD⟩:=hD
 have hdh:h d=none:=by rw[<-(hf d hd).1];exact hkd
 have hops:∀x,x=f∨x∈xs->RepA w1 (ag C L h) L h (ρ x) (a1.eval x):=λx hx=>hρ x (by rw[hop];rcases hx with rfl|hx<;>simp[Op.operands,Call.operands, *]);obtain⟨vs,us,hfv,hv1,hv2⟩:=gO (hops f (.inl rfl)) hce;have hvs:=hv1.nil_inv;have hus:=hv2.nil_inv;subst hvs;subst hus
 have hM0:∀b o,sC (ag C L h) L iX b o->ag C L h b o:=by
  rintro b o (h9|⟨k,blk,hk,_⟩)
  .exact h9
  .cases hk
 have hcalls:=hDD w1 (ag C L h) L (xs.map a1.eval) (λb o h9=>hm.mlt h9) ⟨λk b hk=>(by cases hk),λk k' b b' _ hk=>(by cases hk),λk b hk=>(by cases hk),λk cs f hk=>(by cases hk)⟩ (by
  rw[<-hargs];refine⟨by simp,λi p u hp hu=>?_⟩;have hp0:=hp;rw[hargs,List.getElem?_map,Option.map_eq_some_iff]at hp0;obtain⟨p0,_,rfl⟩:=hp0;simp only[List.getElem?_map,Option.map_eq_some_iff]at hp hu;obtain⟨x,hx,hxe⟩:=hp;obtain⟨y,hy,rfl⟩:=hu;rw[hx]at hy;injection hy with hy;subst hy;have:=hops x (.inr (List.mem_of_getElem? hx));rw[hxe]at this
  cases this with
  |pv hr=>exact .pv (hr.mono (Pres.sub hM0)))
 have hrun:(execOp a1.eval o).run C.P w1=.ok (.enter g (xs.map a1.eval).toArray) w1:=by
  unfold bZ at hcall
  cases hfn:C.P.funcs[g]? with
  |none=>rw[hfn]at hcall;cases hcall
  |some fn=>
   rw[hfn]at hcall;simp only[Bool.and_eq_true,Bool.not_eq_true',beq_eq_false_iff_ne,ne_eq]at hcall
   have hb:fn.body.isNone=false:=by cases hbb:fn.body<;>simp_all
   unfold execOp;rw[hop];simp only[resolve,hfv,Deferred.ofValue,pure_bind,Sem.run_bind,Result.andThen_ok,invoke,callFunc,program,Sem.run,hfn];simp[hcall.2,hb]
 unfold Oper.wp;rw[hrun];simp only[Oper.upon];refine hcalls.mono ?_;rintro ee w' ⟨v,r,L',h',rfl,hx,hlk,htr,hr,hokr,⟨rfl,rfl⟩,_,_,hnew⟩
 have hno:∀b,¬kU iX L b:=by rintro b ⟨k,blk,hk,_⟩;cases hk
 have hnt:∀b,¬io iX L b:=by rintro b ⟨k,blk,hk,_⟩;cases hk
 have hxF:Ext (λ_=>False) w1 w':=⟨hx.os,hx.tape,hx.output,hx.size,λb' hb' _=>hx.block b' hb' (hno b')⟩
 have hk9:eh e sz ys 291=some (.row e sz ys 0):=by simp[eh]
 have hb:=htr.bl 291 _ hk9;have hb1:(L' 291).isNil=false->w1.heap.size<=(L' 291).b:=λhn=>(hnew 291 _ hk9 rfl hn).elim id λh9=>absurd h9 (hnt _)
 have hsub0:∀b o,(ag C L h b o∨((L' 291).isNil=false∧b=(L' 291).b))->sC (ag C L h) L' (eh e sz ys) b o:=by
  rintro b o (h9|⟨hn,rfl⟩)
  .exact .inl h9
  .exact .inr ⟨291,_,hk9,hn,rfl,by simp[Blk.frz]⟩
 have hb3:db w' (λb' o=>ag C L h b' o∨((L' 291).isNil=false∧b'=(L' 291).b)) (λ_=>default) (λ_=>none) (L' 291) (.row e sz ys 0):=by
  obtain⟨c1,c2,c3,c4,c5⟩:=hb;refine⟨c1,c2,c3,c4,λhn=>?_⟩;obtain⟨d1,d2,arr,d3,d4,d5⟩:=c5 hn;refine⟨d1,d2,arr,d3,d4,λi x j p hx9 hj=>?_⟩;obtain⟨u,hu,hr9⟩:=d5 i x j p hx9 hj;exact⟨u,hu,hr9.mono (Pres.sub hsub0)⟩
 generalize hl:L' 291=l at *;have hnk:=jq (e:=e) (sz:=sz) (xs:=ys) hm hxF hdh (hf d hd).2 hb1 hb3
 have hsub:∀b o,ag C (ah L d l) (ah h d (some (.row e sz ys 0))) b o->sC (ag C L h) L' (eh e sz ys) b o:=by
  rintro b o (h0|⟨k,blk,hk,hlv,hkb,hfz⟩)
  .exact .inl (.inl h0)
  .by_cases hkq:k=d
   .subst hkq
    rw[aF]at hk hkb hlv;injection hk with hk;subst hk;exact hsub0 b o (.inr ⟨hlv,hkb.symm⟩)
   .rw[bj hkq]at hk hkb hlv
    exact .inl (.inr ⟨k,blk,hk,hlv,hkb,hfz⟩)
 refine hnext _ _ (ah L d l) (by rw[gu];exact hnk.1) ?_;rw[gu]
 cases hr with
 |tup _ vs hvl hh=>
  refine .tup _ _ (by simpa using hvl) (λi p u hp hu=>?_)
  match i,hp with
  |0,hp=>
   simp only[List.getElem?_cons_zero,Option.some.injEq]at hp;subst hp;have h0:=hh 0 _ u rfl hu
   cases h0 with
   |agg _ us hul hhu=>
    have hlen:us.length=pre.length+1:=by simpa using hul.symm
    refine .agg _ _ (by simpa using hul) (λi p u hp hu=>?_);by_cases hi:i<pre.length
    .rw[List.getElem?_append_left (by simpa using hi),List.getElem?_map,List.getElem?_eq_getElem hi]at hp
     simp only[Option.map_some,Option.some.injEq]at hp;subst hp;have:=hhu i (.pv pre[i]) u (by rw[List.getElem?_append_left (by simpa using hi),List.getElem?_map,List.getElem?_eq_getElem hi];rfl) hu
     cases this with
     |pv hr9=>exact .pv (hr9.mono (Pres.sub hsub))
    .have hil:=(List.getElem?_eq_some_iff.1 hp).1
     have hie:i=pre.length:=by simp at hil;omega
     subst hie;rw[List.getElem?_append_right (by simp)]at hp;simp only[List.length_map,Nat.sub_self,List.getElem?_cons_zero,Option.some.injEq]at hp;subst hp;have:=hhu pre.length (.arr 291 ys.length) u (by rw[List.getElem?_append_right (by simp)];simp) hu
     cases this with
     |arr hk2 hn2 hu2=>
      rw[hk9]at hk2;injection hk2 with hk2;injection hk2 with a1 a2 a3 a4;subst a3;rw[hu2 rfl,hl];exact hnk.2
  |1,hp=>
   simp only[List.getElem?_cons_succ,List.getElem?_cons_zero,Option.some.injEq]at hp;subst hp;have h0:=hh 1 (.pv q) u rfl hu
   cases h0 with
   |pv hr9=>exact .pv (hr9.mono (Pres.sub hsub))
  |i+2,hp=>simp at hp
theorem D5{pre:List PV}(hop:o.op=.call {callee:=.value f,args:=xs.toArray,argTypes:=ats})(hd:o.dst=some d)(hg:o.guard=none)(hdd:bX N o.dst=true)(hkd:st.h d=none)
 (hce:bC (st.ev f)=some (g,[],[]))(hargs:xs.map st.ev=args.map AV.pv)(hD:kC P g (args.map .pv) iX (λr h'=>r=.tup [.agg (pre.map .pv++[.arr 291 ys.length]),.pv q]∧h'=eh e sz ys)):
 lR P hn N ops o st ⟨o.dst,.tup [.agg (pre.map .pv++[.arr d ys.length]),.pv q],[(d,.row e sz ys 0)],[d]⟩:=by
 refine⟨hdd,rfl,.inl ⟨by simp[en,hg],λd9 hd9=>by rw[hd]at hd9;injection hd9 with hd9;simp[hd9],?_,by simp⟩⟩;exact Fe hop hd (by simp[bu,hkd]) hce hargs hD
theorem D6{c:Code}(d k':Nat){xs:List PV}(hd:st.h d=some (.row e sz xs fz))(hk':st.h k'=none)(hne:d≠k')(hlt:k'<2000000)(h:WP C c Q ⟨λn=>aY d k' (st.t n),aL d k' st.h⟩):WP C c Q st:=
 WP.ren d k' hne hk' hlt (by rw[hd];intro cs f e9;cases e9) h
theorem WP.freeze{c:Code}(s:Nat){xs:List PV}(hk:st.h k=some (.row e sz xs fz))(ht:st.t s=.arr k xs.length)(h:WP C c Q ⟨ah st.t s (.pv (.sl xs)),ah st.h k (some (.row e sz xs xs.length))⟩):WP C c Q st:=by
 intro a w hs;obtain⟨L,hm,hN,hdf,htm⟩:=hs;obtain⟨hA,hR⟩:=wI hm hk;refine h a w ⟨L,hA.1,hN,hdf,λn=>?_⟩;have hold:=(htm n).mono hA.2.1 hA.2.2;show RepA w _ L _ (ah st.t s (.pv (.sl xs)) n) _;by_cases hn:n=s
 .subst hn
  rw[aF];have hv:=htm n;rw[ht]at hv
  cases hv with
  |arr hk2 hn2 hu=>
   rw[hk]at hk2;injection hk2 with hk2;injection hk2 with _ _ a3 _;subst a3;rw[hu rfl];exact .pv hR
 .rw[bj hn];exact hold
abbrev lZ(r:Bx)(v:Verd):Tr:=⟨r,[aP v]⟩
def xk(r:Bx)(v:Verd):Spc:={root:=r,cells:=[aP v],bx:=[r],near:=[[]],jn:=[-1]}
theorem Hx{r:Bx}{v:Verd}(hv:ay (lZ r v)=true):aD (lZ r v)=[0]:=by
 unfold aD;rw[if_pos hv];rfl
theorem zf:LookH (eh e sz ys):=
 ⟨λk b hb=>by obtain⟨rfl,_⟩:=eB hb;rfl,λk b o hb=>by obtain⟨_,rfl⟩:=eB hb;simp[Blk.frz],λk b hb=>by obtain⟨_,rfl⟩:=eB hb;rfl,λk cs o f hb=>by obtain⟨_,h9⟩:=eB hb;cases h9⟩
set_option maxRecDepth 10000 in
theorem JU(r:Bx)(v:Verd)(hv:ay (lZ r v)=true):kC Tryz.prog 34 [.agg [.pv (iv r),.arr 291 1]] (eh 91 8 [aW (aP v)]) (λr' h'=>r'=.ptr 290 0∧h'=aM true (xk r v) 0):=by
 have cl:aa Tryz.prog 75 [.pv (.agg [iv r,.sl [aW ⟨-1,-1,-1,v⟩]])] [] [] (.nrow 3 1 [Z 0]):=by
  have:=OW (lZ r v) hv (by simp);rw[Hx hv]at this;exact this
 have hr9:eh 91 8 [aW (aP v)] 291=some (.row 91 8 [aW (aP v)] 0):=by simp[eh]
 have hrn:∀k,k≠291->eh 91 8 [aW (aP v)] k=none:=λk h=>by simp[eh,h]
 refine B8 Tryz.func34 zf ?_;intro C hP hN;simp only[Tryz.f34]at hN|-;generalize hRR:eh 91 8 [aW (aP v)]=RR at *
 with_reducible repeat' (first|refine Sp.h ?_|((first|refine Wh [1000019] ?_|refine Wi [1000019] ?_|refine Ss.h ?_|(refine Sb.h ?_ ?_ ?_<;>(try intro hgd)<;>try exact Xy))<;>simp -implicitDefEqProofs (maxSteps:=2000000) [hP,hN,pO,hr9,hrn,aP]<;>try refine Yc ?_)|refine X2 ?_ ?_|(refine Xd ?_ ?_<;>intro hcd<;>try exact Xx))
 refine WP.loopN [6] 1 (λi st=>st.t 1=.ptr 1 0∧st.t 4=.ptr 23 0∧st.t 32=.arr 291 1∧st.t 33=.pv (Z 1)∧st.t 34=.pv (Z i)∧st.h 6=none∧st.h 78=none∧st.h 1=some (.box [.pv (iv r),.arr 291 1] true false)∧st.h 291=some (.row 91 8 [aW (aP v)] 0)∧st.h 17=some (.row 22 1 [iv r] 0)∧st.h 19=some (.box [cL] true false)∧st.h 21=some (.row 3 1 [if i=0 then Z 0 else Z (-1)] 0)∧st.h 23=some (.box [.pv (iv r),.arr 291 1,.arr 17 1,.ext (.barr 19 1 1),.arr 21 1] true false)∧∀k,290<=k->k≠291->st.h k=none) ?_ ?_
 .simp[St.kill,aq,bm,aQ,ax,ah,XV.key,hr9,hrn]
  exact λk h1 h2 h3=>by simp[h2,h3,show¬k=1 by omega,show¬k=17 by omega,show¬k=19 by omega,show¬k=21 by omega,show¬k=23 by omega,hrn k h2]
 rintro i st hi ⟨g1,g4,g32,g33,g34,b6,b78,b1,b291,b17,b19,b21,b23,bhi⟩;by_cases hlt:i<1
 .have hi0:i=0:=by omega
  subst hi0;simp only[if_true]at b21
  with_reducible repeat' (first|refine Sp.h ?_|((first|refine Wd ?_|refine Ss.h ?_|(refine Sb.h ?_ ?_ ?_<;>(try intro hgd)<;>try exact Xy))<;>simp -implicitDefEqProofs (maxSteps:=2000000) [hP,hN,g1,g4,g32,g33,g34,b6,b78,b1,b291,b17,b19,b21,b23,aP]<;>try refine Yc ?_)|refine X2 ?_ ?_|(refine Xd ?_ ?_<;>intro hcd<;>try exact Xx))
  exact⟨ab (by omega) (by omega),λk h1 h2 h3=>by simp[h2,h3,show¬k=21 by omega,bhi k h1 h2]⟩
 .have hi1:i=1:=by omega
  subst hi1;simp only[Nat.one_ne_zero,if_false]at b21
  with_reducible repeat' (first|refine Sp.h ?_|((first|refine Wd ?_|refine Ss.h ?_|refine Sc.h (cl) ?_|(refine Sb.h ?_ ?_ ?_<;>(try intro hgd)<;>try exact Xy))<;>simp -implicitDefEqProofs (maxSteps:=2000000) [hP,hN,g1,g4,g32,g33,g34,b6,b78,b1,b291,b17,b19,b21,b23,aP]<;>try refine Yc ?_)|refine X2 ?_ ?_|(refine Xd ?_ ?_<;>intro hcd<;>try exact Xx))
  refine WP.freeze 7 (k:=78) (e:=3) (sz:=1) (fz:=0) (xs:=[Z 0]) (by simp[ah]) (by simp[ah]) ?_;refine WP.freeze 79 (k:=78) (e:=3) (sz:=1) (fz:=1) (xs:=[Z 0]) (by simp[ah]) (by simp[ah]) ?_;refine WP.of_st (P:=λst=>st.t 4=.ptr 23 0∧st.t 7=.pv (.sl [Z 0])∧st.t 79=.pv (.sl [Z 0])∧st.t 80=.pv (Z 1)∧st.t 81=.pv (Z 0)∧st.h 23=some (.box [.pv (iv r),.arr 291 1,.arr 17 1,.ext (.barr 19 1 1),.arr 21 1] true false)∧st.h 17=some (.row 22 1 [iv r] 0)∧st.h 19=some (.box [cL] true false)∧st.h 21=some (.row 3 1 [Z (-1)] 0)∧st.h 291=some (.row 91 8 [aW (aP v)] 0)∧∀k,290<=k->k≠291->k≠23->k≠17->k≠19->k≠21->st.h k=none) ⟨⟨by simp[g4,ah],by simp[ah],by simp[ah],by simp[ah],by simp[ah],by simp[ah,b23],by simp[ah,b17],by simp[ah,b19],by simp[ah,b21],by simp[ah,b291],λk h1 h2 _ _ _ _=>by simp[ah,show¬k=78 by omega,bhi k h1 h2]⟩,?_⟩;clear g1 g4 g32 g33 g34 b6 b78 b1 b291 b17 b19 b21 b23 bhi st;rintro st ⟨g4,g7,g79,g80,g81,bx,ba,bb,bc,b291,bhi⟩;refine WP.ren 23 290 (by omega) (bhi 290 (by omega) (by omega) (by omega) (by omega) (by omega) (by omega)) (by omega) (lw bx (by intro cs f e;cases e)) ?_;refine WP.of_st (P:=λst=>st.t 4=.ptr 290 0∧st.t 7=.pv (.sl [Z 0])∧st.t 79=.pv (.sl [Z 0])∧st.t 80=.pv (Z 1)∧st.t 81=.pv (Z 0)∧st.h 290=some (.box [.pv (iv r),.arr 291 1,.arr 17 1,.ext (.barr 19 1 1),.arr 21 1] true false)∧st.h 17=some (.row 22 1 [iv r] 0)∧st.h 19=some (.box [cL] true false)∧st.h 21=some (.row 3 1 [Z (-1)] 0)∧st.h 291=some (.row 91 8 [aW (aP v)] 0)∧∀k,290<=k->k≠291->k≠290->k≠17->k≠19->k≠21->st.h k=none) ⟨⟨by simp[aY,aN,rk,g4],by simp[aY,aN,g7],by simp[aY,aN,g79],by simp[aY,aN,g80],by simp[aY,aN,g81],by simp[aL,bN,aY,aN,gR,rk,g4,bx,ba,bb,bc,b291],by simp[aL,bN,aY,aN,gR,rk,g4,bx,ba,bb,bc,b291],by simp[aL,bN,aY,aN,gR,rk,g4,bx,ba,bb,bc,b291],by simp[aL,bN,aY,aN,gR,rk,g4,bx,ba,bb,bc,b291],by simp[aL,bN,aY,aN,gR,rk,g4,bx,ba,bb,bc,b291],λk h1 h2 n1 n2 n3 n4=>?_⟩,?_⟩
  .by_cases e:k=23
   .simp[aL,e]
   .simp[aL,e,n1,bhi k h1 h2 e n2 n3 n4]
  clear g4 g7 g79 g80 g81 bx ba bb bc b291 bhi st;rintro st ⟨g4,g7,g79,g80,g81,bx,ba,bb,bc,b291,bhi⟩;refine WP.ren 17 292 (by omega) (bhi 292 (by omega) (by omega) (by omega) (by omega) (by omega) (by omega)) (by omega) (lw ba (by intro cs f e;cases e)) ?_;refine WP.of_st (P:=λst=>st.t 4=.ptr 290 0∧st.t 7=.pv (.sl [Z 0])∧st.t 79=.pv (.sl [Z 0])∧st.t 80=.pv (Z 1)∧st.t 81=.pv (Z 0)∧st.h 290=some (.box [.pv (iv r),.arr 291 1,.arr 292 1,.ext (.barr 19 1 1),.arr 21 1] true false)∧st.h 292=some (.row 22 1 [iv r] 0)∧st.h 19=some (.box [cL] true false)∧st.h 21=some (.row 3 1 [Z (-1)] 0)∧st.h 291=some (.row 91 8 [aW (aP v)] 0)∧∀k,290<=k->k≠291->k≠290->k≠292->k≠19->k≠21->st.h k=none) ⟨⟨by simp[aY,aN,rk,g4],by simp[aY,aN,g7],by simp[aY,aN,g79],by simp[aY,aN,g80],by simp[aY,aN,g81],by simp[aL,bN,aY,aN,gR,rk,g4,bx,ba,bb,bc,b291],by simp[aL,bN,aY,aN,gR,rk,g4,bx,ba,bb,bc,b291],by simp[aL,bN,aY,aN,gR,rk,g4,bx,ba,bb,bc,b291],by simp[aL,bN,aY,aN,gR,rk,g4,bx,ba,bb,bc,b291],by simp[aL,bN,aY,aN,gR,rk,g4,bx,ba,bb,bc,b291],λk h1 h2 n1 n2 n3 n4=>?_⟩,?_⟩
  .by_cases e:k=17
   .simp[aL,e]
   .simp[aL,e,n2,bhi k h1 h2 n1 e n3 n4]
  clear g4 g7 g79 g80 g81 bx ba bb bc b291 bhi st;rintro st ⟨g4,g7,g79,g80,g81,bx,ba,bb,bc,b291,bhi⟩;refine WP.ren 19 293 (by omega) (bhi 293 (by omega) (by omega) (by omega) (by omega) (by omega) (by omega)) (by omega) (lw bb (by intro cs f e;cases e)) ?_;refine WP.of_st (P:=λst=>st.t 4=.ptr 290 0∧st.t 7=.pv (.sl [Z 0])∧st.t 79=.pv (.sl [Z 0])∧st.t 80=.pv (Z 1)∧st.t 81=.pv (Z 0)∧st.h 290=some (.box [.pv (iv r),.arr 291 1,.arr 292 1,.ext (.barr 293 1 1),.arr 21 1] true false)∧st.h 292=some (.row 22 1 [iv r] 0)∧st.h 293=some (.box [cL] true false)∧st.h 21=some (.row 3 1 [Z (-1)] 0)∧st.h 291=some (.row 91 8 [aW (aP v)] 0)∧∀k,290<=k->k≠291->k≠290->k≠292->k≠293->k≠21->st.h k=none) ⟨⟨by simp[aY,aN,rk,g4],by simp[aY,aN,g7],by simp[aY,aN,g79],by simp[aY,aN,g80],by simp[aY,aN,g81],by simp[aL,bN,aY,aN,gR,rk,g4,bx,ba,bb,bc,b291],by simp[aL,bN,aY,aN,gR,rk,g4,bx,ba,bb,bc,b291],by simp[aL,bN,aY,aN,gR,rk,g4,bx,ba,bb,bc,b291],by simp[aL,bN,aY,aN,gR,rk,g4,bx,ba,bb,bc,b291],by simp[aL,bN,aY,aN,gR,rk,g4,bx,ba,bb,bc,b291],λk h1 h2 n1 n2 n3 n4=>?_⟩,?_⟩
  .by_cases e:k=19
   .simp[aL,e]
   .simp[aL,e,n3,bhi k h1 h2 n1 n2 e n4]
  clear g4 g7 g79 g80 g81 bx ba bb bc b291 bhi st;rintro st ⟨g4,g7,g79,g80,g81,bx,ba,bb,bc,b291,bhi⟩;refine WP.ren 21 294 (by omega) (bhi 294 (by omega) (by omega) (by omega) (by omega) (by omega) (by omega)) (by omega) (lw bc (by intro cs f e;cases e)) ?_;refine WP.of_st (P:=λst=>st.t 4=.ptr 290 0∧st.t 7=.pv (.sl [Z 0])∧st.t 79=.pv (.sl [Z 0])∧st.t 80=.pv (Z 1)∧st.t 81=.pv (Z 0)∧st.h 290=some (.box [.pv (iv r),.arr 291 1,.arr 292 1,.ext (.barr 293 1 1),.arr 294 1] true false)∧st.h 292=some (.row 22 1 [iv r] 0)∧st.h 293=some (.box [cL] true false)∧st.h 294=some (.row 3 1 [Z (-1)] 0)∧st.h 291=some (.row 91 8 [aW (aP v)] 0)∧∀k,290<=k->k≠291->k≠290->k≠292->k≠293->k≠294->st.h k=none) ⟨⟨by simp[aY,aN,rk,g4],by simp[aY,aN,g7],by simp[aY,aN,g79],by simp[aY,aN,g80],by simp[aY,aN,g81],by simp[aL,bN,aY,aN,gR,rk,g4,bx,ba,bb,bc,b291],by simp[aL,bN,aY,aN,gR,rk,g4,bx,ba,bb,bc,b291],by simp[aL,bN,aY,aN,gR,rk,g4,bx,ba,bb,bc,b291],by simp[aL,bN,aY,aN,gR,rk,g4,bx,ba,bb,bc,b291],by simp[aL,bN,aY,aN,gR,rk,g4,bx,ba,bb,bc,b291],λk h1 h2 n1 n2 n3 n4=>?_⟩,?_⟩
  .by_cases e:k=21
   .simp[aL,e]
   .simp[aL,e,n4,bhi k h1 h2 n1 n2 n3 e]
  clear g4 g7 g79 g80 g81 bx ba bb bc b291 bhi st;rintro st ⟨g4,g7,g79,g80,g81,bx,ba,bb,bc,b291,bhi⟩;refine WP.nilRows (λq=>decide (q=300)) 3 293 (cs:=[cL]) (cs':=[.arr 300 0]) (own:=true) (fb:=false) bb ?_ rfl ?_ ?_
  .intro q hq
   simp only[decide_eq_true_eq]at hq;exact⟨bhi q (by omega) (by omega) (by omega) (by omega) (by omega) (by omega),by omega⟩
  .intro i x hx
   cases i with
   |zero=>simp at hx;exact .inr ⟨rfl,300,by simp,hx.symm⟩
   |succ i=>simp at hx
  refine WP.of_st (P:=λst=>st.t 4=.ptr 290 0∧st.t 7=.pv (.sl [Z 0])∧st.t 79=.pv (.sl [Z 0])∧st.t 80=.pv (Z 1)∧st.t 81=.pv (Z 0)∧∀k,inK k=true->st.h k=aM true (xk r v) 0 k) ⟨⟨g4,g7,g79,g80,g81,λk hk=>?_⟩,?_⟩
  .simp only[inK,Bool.and_eq_true,decide_eq_true_eq]at hk
   simp only;by_cases e0:k=290
   .subst e0;simp[bx];rfl
   by_cases e1:k=291
   .subst e1;simp[b291];rfl
   by_cases e2:k=292
   .subst e2;simp[ba];rfl
   by_cases e3:k=293
   .subst e3;simp;rfl
   by_cases e4:k=294
   .subst e4;simp[bc];rfl
   by_cases e5:k=300
   .subst e5;simp;rfl
   unfold aM;rw[if_neg e0,if_neg e1,if_neg e2,if_neg e3,if_neg e4,if_neg (c:=300<=k∧k<300+(xk r v).near.length) (by simp[xk];omega)];simp[e3,e5,bhi k (by omega) e1 e0 e2 e3 e4]
  clear g4 g7 g79 g80 g81 bx ba bb bc b291 bhi st;rintro st ⟨g4,g7,g79,g80,g81,bH⟩;refine WP.loopN [] 1 (λk st=>st.t 4=.ptr 290 0∧st.t 7=.pv (.sl [Z 0])∧st.t 79=.pv (.sl [Z 0])∧st.t 80=.pv (Z 1)∧st.t 81=.pv (Z k)∧∀q,inK q=true->st.h q=aM true (xk r v) 0 q) ?_ ?_
  .refine⟨by simp[St.kill,aq,aQ,ax,g4],by simp[St.kill,aq,aQ,ax,g7],by simp[St.kill,aq,aQ,ax,g79],by simp[St.kill,aq,aQ,ax,g80],by simp[St.kill,aq,aQ,ax,g81],λq hq=>?_⟩
   show(st.h q).map (bm [])=_;rw[bH q hq,fJ]
  clear g4 g7 g79 g80 g81 bH st;rintro k st hk ⟨g4,g7,g79,g80,g81,bH⟩;by_cases hlk:k<1
  .have hk0:k=0:=by omega
   subst hk0
   with_reducible repeat' (first|refine Sp.h ?_|((first|refine Wd ?_|refine Ss.h ?_|(refine Sb.h ?_ ?_ ?_<;>(try intro hgd)<;>try exact Xy))<;>simp -implicitDefEqProofs (maxSteps:=2000000) [hP,hN,g4,g7,g79,g80,g81,lj,lI]<;>try refine Yc ?_)|refine X2 ?_ ?_|(refine Xd ?_ ?_<;>intro hcd<;>try exact Xx))
   refine WP.loopN [] 0 (λj st=>st.t 4=.ptr 290 0∧st.t 7=.pv (.sl [Z 0])∧st.t 79=.pv (.sl [Z 0])∧st.t 80=.pv (Z 1)∧st.t 81=.pv (Z 0)∧st.t 88=.pv (.sl [])∧st.t 89=.pv (Z 0)∧st.t 90=.pv (Z j)∧∀q,inK q=true->st.h q=aM true (xk r v) 0 q) ?_ ?_
   .refine⟨by simp[St.kill,aq,aQ,ax,ah,g4],by simp[St.kill,aq,aQ,ax,ah,g7],by simp[St.kill,aq,aQ,ax,ah,g79],by simp[St.kill,aq,aQ,ax,ah,g80],by simp[St.kill,aq,aQ,ax,ah,g81],by simp[St.kill,aq,aQ,ax,ah],by simp[St.kill,aq,aQ,ax,ah],by simp[St.kill,aq,aQ,ax,ah],λq hq=>?_⟩
    show(st.h q).map (bm [])=_;rw[bH q hq,fJ]
   clear g4 g7 g79 g80 g81 bH st;rintro j st hj ⟨g4,g7,g79,g80,g81,g88,g89,g90,bH⟩
   have hj0:j=0:=by omega
   subst hj0
   with_reducible repeat' (first|refine Sp.h ?_|((first|refine Wd ?_|refine Ss.h ?_|(refine Sb.h ?_ ?_ ?_<;>(try intro hgd)<;>try exact Xy))<;>simp -implicitDefEqProofs (maxSteps:=2000000) [hP,hN,g4,g7,g79,g80,g81,g88,g89,g90]<;>try refine Yc ?_)|refine X2 ?_ ?_|(refine Xd ?_ ?_<;>intro hcd<;>try exact Xx))
   all_goals exact⟨ab (by omega) (by omega),λq hq=>by rw[bH q hq,fJ]⟩
  .have hk1:k=1:=by omega
   subst hk1
   with_reducible repeat' (first|refine Sp.h ?_|((first|refine Wd ?_|refine Ss.h ?_|(refine Sb.h ?_ ?_ ?_<;>(try intro hgd)<;>try exact Xy))<;>simp -implicitDefEqProofs (maxSteps:=2000000) [hP,hN,g4,g7,g79,g80,g81]<;>try refine Yc ?_)|refine X2 ?_ ?_|(refine Xd ?_ ?_<;>intro hcd<;>try exact Xx))
   exact qL (H:=aM true (xk r v) 0) (r:=.ptr 290 0) rfl rfl bH (lg (by simp[xk])) ⟨rfl,rfl⟩ (λk cs f hk=>by
    subst hRR
    obtain⟨_,h9⟩:=eB hk;cases h9)
theorem Gn{L:OL}(h:cK t=some L){b:Bx}(hb:L[i]?=some (some b)):dU t (i:Int)=b:=by
 rw[mo h]at hb;rw[List.getElem?_map,Option.map_eq_some_iff]at hb;obtain⟨x,h1,h2⟩:=hb;injection h2 with h2;subst h2;simp[dU,h1]
theorem Gp(hv:ay t=true):dU t 0=t.root:=by
 obtain⟨L,hL⟩:=Option.isSome_iff_exists.1 hv;have hP:=j9 (P:=λ_ M=>M[0]?=some (some t.root)) hL (by simp[iJ]) (λk d M M' _ hp hm=>xM hm hp);exact Gn hL hP
def je(a b:Bx):Prop:=∃(j:Nat)(x y:Int×Int),a[j]?=some x∧b[j]?=some y∧(x.2<=y.1∨y.2<=x.1)
theorem je.symm{a b:Bx}(h:je a b):je b a:=by
 obtain⟨j,x,y,h1,h2,h3⟩:=h;exact⟨j,y,x,h2,h1,h3.symm⟩
def iK(t:Tr)(i:Int):Bool:=ay t&&decide (0<=i)&&decide (i<t.cells.length)
def fP(t:Tr)(i:Int):Bx:=if iK t i then dU t i else[]
theorem wj{i:Int}(h:iK t i=false):fP t i=[]:=by simp[fP,h]
theorem OX(t:Tr)(i:Int)(hl:t.cells.length<=9223372036854775807):aa Tryz.prog 70 [.pv (da t),.pv (Z i)] [] [] (.pv (.tup [iv (fP t i),B (iK t i)])):=by
 have cb:=Jo t hl
 cases hv:ay t with
 |false=>
  have hno:iK t i=false:=by simp[iK,hv]
  rw[wj hno,hno];rw[hv]at cb;refine Dp Tryz.func70 ?_;intro C hP hN;simp only[Tryz.f70]at hN|-;exact GS trivial
 |true=>
  rw[hv]at cb;have hbl:=eN hv;have hz:=bG.1 (dz hv);by_cases h1:i<0
  .have hno:iK t i=false:=by
    have:decide (0<=i)=false:=by simp;omega
    simp only[iK,this,Bool.and_false,Bool.false_and]
   rw[wj hno,hno];refine Dp Tryz.func70 ?_;intro C hP hN;simp only[Tryz.f70]at hN|-;exact GS h1
  .obtain⟨k,rfl⟩:=Int.eq_ofNat_of_zero_le (show 0<=i by omega)
   by_cases h2:t.cells.length<=k
   .have hno:iK t k=false:=by
     have:decide ((k:Int)<t.cells.length)=false:=by simp;omega
     simp only[iK,this,Bool.and_false,Bool.false_and]
    rw[wj hno,hno];refine Dp Tryz.func70 ?_;intro C hP hN;simp only[Tryz.f70]at hN|-;exact GS (gA h1 (gA h2 hbl))
   .have hlt:k<t.cells.length:=by omega
    have hlt':k<(ao t).length:=by omega
    obtain⟨hb1,hb2,_⟩:=wi hv (c:=(k:Int)) hlt;have hb1':(ao t)[k]?=some (dU t k):=hb1;have hb3:=aT hb1' hlt'
    have hyes:iK t k=true:=by simp[iK,hv,hlt]
    have hbo:fP t k=dU t k:=by simp[fP,hyes]
    rw[hbo,hyes];have cc:=JA (dU t k) (by omega);refine Dp Tryz.func70 ?_;intro C hP hN;simp only[Tryz.f70]at hN|-;exact GS (gA h1 (gA h2 (gA hbl (gA hlt (gA hlt' (gA hb1' hb3))))))
theorem OY(v:Verd):aa Tryz.prog 66 [.pv (k7 v)] [] [] (.pv (aW (aP v))):=by
 refine Dp Tryz.func66 ?_;intro C hP hN;simp only[Tryz.f66]at hN|-;refine GT trivial ?_
 all_goals simp[aP]
theorem M8(xs:List (Int×Int×Int))(hl:xs.length<=16777216):aa Tryz.prog 159 [.pv (.sl (xs.map aR))] [] [] (.pv (.sl (xs.map aR))):=by
 by_cases hx:xs=[]
 .subst hx
  refine Dp Tryz.func159 ?_;intro C hP hN;simp only[Tryz.f159]at hN|-;exact Ij [5] trivial
 .have hne:xs.isEmpty=false:=by simp[hx]
  refine Dp Tryz.func159 ?_;intro C hP hN;simp only[Tryz.f159]at hN|-;exact Ij [5] (gA hx (gA hne (gA (show xs.length*24<=140737488355328 by omega) (show xs.length<=9223372036854775807 by omega))))
theorem Gq(xs:List Cel)(hl:xs.length<=16777216)(hx:xs≠[]):aa Tryz.prog 157 [.pv (.sl (xs.map aW))] [] [] (.row 91 8 (xs.map aW)):=by
 have hne:xs.isEmpty=false:=by simp[hx]
 refine Dp Tryz.func157 ?_;intro C hP hN;simp only[Tryz.f157]at hN|-;exact Ij [5] (gA hx (gA hne (gA (show xs.length*112<=140737488355328 by omega) (show xs.length<=9223372036854775807 by omega))))
def CQ(n:Nat)(v:Verd):Prop:=v.nor.length<=n∧v.left.length<=n∧v.right.length<=n
theorem JD(v:Verd)(hv:CQ 16777216 v):aa Tryz.prog 124 [.pv (k7 v)] [] [] (.pv (k7 v)):=by
 have c1:=M8 v.nor hv.1;have c2:=Jz v.left hv.2.1;have c3:=Jz v.right hv.2.2;refine Dp Tryz.func124 ?_;intro C hP hN;simp only[Tryz.f124]at hN|-;exact GS trivial
theorem OZ(r:List (Int×Int))(hl:r.length<=16777216):aa Tryz.prog 31 [.pv (iv r)] [] [] (.pv (.tup [da (qK r),B (dt r)])):=by
 have cc:=JA r hl;have cl:aa Tryz.prog 66 [.pv (.agg [Z 0,.sl [],Z 0,.sl [],.sl []])] [] [] (.pv (.agg [Z (-1),Z (-1),Z (-1),Z 0,.sl [],Z 0,.sl [],.sl []])):=OY bn
 have cv:aa Tryz.prog 46 [.pv (.agg [iv r,.sl [.agg [Z (-1),Z (-1),Z (-1),Z 0,.sl [],Z 0,.sl [],.sl []]]])] [] [] (.pv (B (dt r))):=by
  have:=Jw ⟨r,[aP bn]⟩ (by simp);rw[qt]at this;exact this
 cases h:dt r with
 |true=>
  rw[h]at cv;refine Dp Tryz.func31 ?_;intro C hP hN;simp only[Tryz.f31]at hN|-;refine GT trivial ?_
  all_goals simp[qK,h,aP,bn]
 |false=>
  rw[h]at cv;refine Dp Tryz.func31 ?_;intro C hP hN;simp only[Tryz.f31]at hN|-;refine GT trivial ?_
  all_goals simp[qK,h]
structure TSm(t:Tr):Prop where
 root:t.root.length<=16777216
 cells:t.cells.length<=16777216
 vs:∀c∈t.cells,CQ 16777216 c.v
set_option maxRecDepth 10000 in
theorem Gr(t:Tr)(ht:TSm t)(hne:t.cells≠[]):aa Tryz.prog 121 [.pv (da t)] [] [] (.srow [iv t.root] 91 8 (t.cells.map aW)):=by
 have c1:=Gq t.cells ht.cells hne;have c2:=JA t.root ht.root;have hl:=ht.cells;refine Dp Tryz.func121 ?_;intro C hP hN;simp only[Tryz.f121]at hN|-;refine GT trivial ?_;refine WP.loopN [5] t.cells.length (λi st=>st.t 1=.ptr 1 0∧st.t 2=.ptr 2 0∧st.t 3=.arr 8 t.cells.length∧st.t 9=.arr 8 t.cells.length∧st.t 10=.pv (Z t.cells.length)∧st.t 11=.pv (Z i)∧st.h 1=some (.box [.pv (iv t.root),.pv (.sl (t.cells.map aW))] true false)∧st.h 2=some (.box [.pv (.val (.slice none 0 0)),.pv (.val (.slice none 0 0))] true false)∧st.h 5=none∧st.h 8=some (.row 91 8 (t.cells.map aW) 0)) (by simp) ?_;rintro i st hi ⟨g1,g2,g3,g9,g10,g11,hb1,hb2,hb5,hb8⟩;by_cases hlt:i<t.cells.length
 .have hw:=au hlt (by omega)
  generalize hc:t.cells[i]=c at *
  have hci:t.cells[i]?=some c:=by rw[List.getElem?_eq_getElem hlt,hc]
  have cv:=JD c.v (ht.vs c (List.mem_of_getElem? hci))
  have hset:(t.cells.map aW).set i (aW c)=t.cells.map aW:=by
   apply List.ext_getElem?;intro j;rw[List.getElem?_set];by_cases e:i=j
   .subst e;simp[hlt,hc]
   .rw[if_neg e]
  with_reducible repeat' (first|refine Sp.h ?_|((first|refine Ss.h ?_|refine Sc.h (cv) ?_|(refine Sb.h ?_ ?_ ?_<;>(try intro hgd)<;>try exact Xy))<;>simp -implicitDefEqProofs (maxSteps:=2000000) [hP,hN,g1,g2,g3,g9,g10,g11,hb1,hb2,hb5,hb8,hlt,hw,hci,hc])|refine X2 ?_ ?_|(refine Xd ?_ ?_<;>intro hcd<;>try exact Xx))
  all_goals exact hset
 .skip
  with_reducible repeat' (first|refine Sp.h ?_|((first|refine Ss.h ?_|refine Sc.h (c2) ?_|(refine Sb.h ?_ ?_ ?_<;>(try intro hgd)<;>try exact Xy))<;>simp -implicitDefEqProofs (maxSteps:=2000000) [hP,hN,g1,g2,g3,g9,g10,g11,hb1,hb2,hb5,hb8,hlt])|refine X2 ?_ ?_|(refine Xd ?_ ?_<;>intro hcd<;>try exact Xx))
  all_goals exact⟨8,⟨rfl,rfl⟩,hb8⟩
end Go.Ab
