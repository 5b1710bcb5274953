/- The contracts and facts that the laws of this seat need, in one text (AbC, Ab27, Ab37, Ab38, Ab39, AbH, AbQ, TrA, Tr3). -/
import Derived.Test.YtdbgcnplnhmjgaaGreatS5
import Derived.TacticsIn
import Derived.RangeFuncRecord
import Derived.RangeFuncLeaves
import Derived.RangeFuncCalls
import Derived.RangeFuncSeq
import Derived.RecoverIn
set_option linter.all false
set_option maxRecDepth 10000
set_option maxHeartbeats 16000000
namespace Go.Ab
variable {C:Cx}{F:Fence}{M:Nat->Nat->Prop}{N d i id j l n p:Nat}{P:Program}{Post:AV->Hp->Prop}{Q:Exit->St->Prop}{a:Act}{assign body y:Code}{caps xs:List PV}{f gop s x:Operand}{far:List Int}{fn:Func}{g gf:FuncId}{hn kd ts:List Nat}{lb:List Value}{next:Act->World->Prop}{o:Oper}{ob:Obj}{ops:Array Oper}{post pre:List Oper}{r:List (Int×Int)}{res:RV}{st:St}{v:Int}{w w':World}{α:Type}
def rH(ops:Array Oper):Bool:=ops.toList.all λo=>match o.op with|.defer _=>false|_=>true
theorem mm(h:rH ops=true)(ho:o∈ops.toList):∀c,o.op≠.defer c:=by
 intro c hc;have:=Ij.1 h o ho;rw[hc]at this;cases this
structure Wide(F:Fence):Prop where
 fn:∀f,F.fn f
 depth:F.depth=none
 calls:∀{n:Nat}{P:Program}{f:FuncId}{args:Array Value}{w:World}{R:Ending->World->Prop},Calls P f args w R->CallsIn F n P f args w R
 rows:∀{n:Nat}{P:Program}{row:String}{args:Array Value}{w:World}{R:Value->World->Prop},Rows P row args w R->RowsIn F n P row args w R
theorem gZ:Wide Fence.wide:=⟨λ_=>trivial,rfl,λh=>callsIn_wide.2 h,λh c cs _=>let⟨v,w',r,s⟩:=h c cs;⟨v,w',r,stepsIn_wide.2 s⟩⟩
theorem Aq(l:Nat):Wide (Fence.wide.inRound l):=⟨λ_=>trivial,rfl,λh=>(callsIn_wide.2 h).inRound l,λh=>gZ.rows h⟩
theorem Fc(hF:Wide F)(hd:∀c,o.op≠.defer c){Q:Exit->Act->World->Prop}
 (h:o.wp P a w next Q):o.wpIn F n P a w next Q:=by
 refine⟨λf _=>hF.fn f,?_⟩;rw[Oper.semAt_eq _ _ _ hd];unfold Oper.wp at h
 cases hx:(execOp a.eval o).run P w with
 |ok nx w'=>
  rw[hx]at h
  cases nx with
  |value v=>exact h
  |skip=>exact h
  |defer d=>exact h
  |enter f args=>exact⟨λhs=>(by rw[hF.depth]at hs;cases hs),hF.calls h⟩
  |row r args=>exact⟨λhs=>(by rw[hF.depth]at hs;cases hs),hF.rows h⟩
  |_=>exact h.elim
 |halt k w'=>
  rw[hx]at h
  cases k with
  |panic v=>exact h
  |_=>exact h.elim
def ir(C:Cx)(L:Nat->Loc)(st:St)(a:Act)(w:World):Prop:=
 MemL C L st.h w∧a.tmps.size=C.N∧∀n,RepA w (af C L st.h) L st.h (st.t n) (a.tmps.getD n undef)
theorem ir.put{L:Nat->Loc}(hs:ir C L st a w){d:Option Nat}(hd:dD C.N d=true){v:AV}{W:List (Nat×Blk)}{u:Value}{L':Nat->Loc}
 (hA:aP C L st.h w L' (am st.h W) w')(hv:RepA w' (af C L' (am st.h W)) L' (am st.h W) v u):ir C L' (st.put d v W) (a.put d u) w':=by
 obtain⟨hm,hN,ht⟩:=hs;refine⟨hA.1,?_,λn=>?_⟩
 .cases d<;>simp[Act.put,hN]
 .have hold:=(ht n).mono hA.2.1 hA.2.2
  cases d with
  |none=>exact hold
  |some d=>
   have hd':d<a.tmps.size:=by rw[hN];simp only[dD,An,HX]at hd;exact hd.1
   rw[UX hd'];simp only[St.put,ai];split
   .exact hv
   .exact hold
theorem Gm(st:St)(d:Option Nat)(v:AV)(W:List (Nat×Blk)):(st.put d v W).h=am st.h W:=by cases d<;>rfl
theorem kT(a:Act)(d:Option Nat)(u:Value):(a.put d u).defers=a.defers:=by cases d<;>rfl
theorem Dk{L:Nat->Loc}(hs:ir C L st a w)(hnd:∀c,o.op≠.defer c)(hd:dD C.N o.dst=true){K:dl->Prop}(e:wy C.P hn o st.ev st.h K){Q:Exit->Act->World->Prop}
 (hnext:∀eff a' w' L',K eff->ir C L' (st.put o.dst eff.1 eff.2) a' w'->aP C L st.h w L' (st.put o.dst eff.1 eff.2).h w'->a'.defers=a.defers->next a' w'):o.wp C.P a w next Q:=by
 have hs':=hs;obtain⟨hm,hN,ht⟩:=hs'
 have hplain:t7 C.P hn o st.ev st.h K->o.wp C.P a w next Q:=λe=>
  C9 hm (λ_ _ h=>h) (λd hdd=>⟨rfl,by rw[hdd]at hd;simp only[dD,An,HX]at hd;exact hd.2⟩) (λx _=>dx ht x) e (λeff u w' L' hk hA hv=>hnext eff _ _ L' hk (hs.put hd hA hv) (by rw[Gm];exact hA) (kT _ _ _))
 unfold wy at e;split at e
 .rename_i c hop
  exact absurd hop (hnd c)
 .rename_i op t x y t' hop
  split at e
  .rename_i hc
   simp only[An,Nv,Nj]at hc;obtain⟨⟨⟨c1,c2⟩,c3⟩,c4⟩:=hc;have hy:=zb c1 (dx ht y);obtain⟨ad,n,c,hx⟩:=vZ hm (dx ht x) c3
   obtain⟨b,hb⟩:∃b:Bool,(op=.eql∧b=ad.isNone)∨(op=.neq∧b=!ad.isNone):=by
    rcases c4 with c4|c4
    .exact⟨_,.inl ⟨c4,rfl⟩⟩
    .exact⟨_,.inr ⟨c4,rfl⟩⟩
   have hrun:(execOp a.eval o).run C.P w=.ok (.value (.bool b)) w:=by
    obtain⟨dst,op',ty,pos,aft,g⟩:=o;simp only at hop;subst hop;exact mR (A6 (rY c2) hx hy hb) w
   have hK:K (.pv (.val (.bool b)),[]):=by cases b with
    |true=>exact e.1
    |false=>exact e.2
   unfold Oper.wp;rw[hrun];exact hnext _ _ _ L hK (hs.put hd (W:=[]) (aP.refl hm) (.pv (.val _))) (by rw[Gm];exact aP.refl hm) (kT _ _ _)
  .exact hplain e
 .exact hplain e
theorem je{F:Fence}(hF:Wide F){n:Nat}{C:Cx}{hn:List Nat}{ops:Array Oper}{Q:St->Prop}{Q':Exit->Act->World->Prop}{L0:Nat->Loc}{h0:Hp}{w0:World}{ds:List Deferred}
 (hQ:∀st L a w,ir C L st a w->aP C L0 h0 w0 L st.h w->a.defers=ds->Q st->Q' .normal a w):
 ∀{l:List Oper}{st:St}{L:Nat->Loc}{a:Act}{w:World},(∀o∈l,∀c,o.op≠.defer c)->ir C L st a w->aP C L0 h0 w0 L st.h w->a.defers=ds->dX C.P hn C.N ops Q l st->wpListIn F n C.P ops Q' l a w
 |[],st,L,a,w,_,hs,hA,hdd,e=>hQ st L a w hs hA hdd e
 |o::l,st,L,a,w,hnd,hs,hA,hdd,e=>by
  have hs':=hs;obtain⟨hm,hN,ht⟩:=hs';simp only[dX]at e;obtain⟨hd,e⟩:=e;have hnd':∀o'∈l,∀c,o'.op≠.defer c:=λo' ho'=>hnd o' (VK _ ho');have ho:=hnd o List.mem_cons_self;unfold wpListIn;split at e
  .rename_i hg
   rw[eX ht (pR hg),IR rfl];exact Fc hF ho (Dk hs ho hd e (λeff a' w' L' hk hsim hA' hd'=>je hF hQ hnd' hsim (hA.trans hA') (hd'.trans hdd) hk))
  .rename_i d b want hg
   rw[eX ht (mQ hg)];unfold yr at e;simp only at e;split at e
   .rename_i hgt
    subst hgt;rw[IR (by simp)];exact Fc hF ho (Dk hs ho hd e (λeff a' w' L' hk hsim hA' hd'=>je hF hQ hnd' hsim (hA.trans hA') (hd'.trans hdd) hk))
   .rename_i hgt
    rw[Ik (by simpa using hgt)];exact⟨λf _=>hF.fn f,je hF hQ hnd' (hs.put hd (W:=[]) (aP.refl hm) (.pv (.val _))) (by rw[Gm];exact hA) ((kT _ _ _).trans hdd) e⟩
  .exact e.elim
def ag(F:Fence)(C:Cx)(c:Code)(Q:Exit->St->Prop)(st:St):Prop:=
 ∀n L a w,ir C L st a w->c.wpIn F n C.P (λe a' w'=>∃st' L',ir C L' st' a' w'∧aP C L st.h w L' st'.h w'∧a'.defers=a.defers∧Q e st') a w
section
variable {F:Fence} {C:Cx} {Q:Exit->St->Prop} {st:St}
theorem ag.region(hF:Wide F)(hnd:rH ops=true)(h:dX C.P hn C.N ops (Q .normal) ops.toList st):ag F C (.region id ops false) Q st:=
 λ_ _ _ _ hs=>wpIn_region_list (je hF (λst' L' _ _ hs' hA hd hq=>⟨st',L',hs',hA,hd,hq⟩) (λ_ ho=>mm hnd ho) hs (aP.refl hs.1) rfl h)
def Cz(F:Fence)(C:Cx)(y:Code)(Q:Exit->St->Prop):Exit->St->Prop
 |.normal,st=>ag F C y Q st
 |e,st=>Q e st
theorem ag.seq{x:Code}(h:ag F C x (Cz F C y Q) st):ag F C (.seq x y) Q st:=by
 intro n L a w hs;refine wpIn_seq (wpIn_mono (h n L a w hs) ?_);rintro e a' w' ⟨st',L',hs',hA,hd,hq⟩
 cases e with
 |normal=>exact wpIn_mono (hq n L' a' w' hs') (λe a2 w2 ⟨st2,L2,hs2,hA2,hd2,hq2⟩=>⟨st2,L2,hs2,hA.trans hA2,hd2.trans hd,hq2⟩)
 |_=>exact⟨st',L',hs',hA,hd,hq⟩
theorem ag.skip(h:Q .normal st):ag F C .skip Q st:=λ_ L _ _ hs=>wpIn_skip ⟨st,L,hs,aP.refl hs.1,rfl,h⟩
theorem ag.ret(h:Q .ret st):ag F C .ret Q st:=λ_ L _ _ hs=>wpIn_ret ⟨st,L,hs,aP.refl hs.1,rfl,h⟩
theorem ag.exit(h:Q (.exit id) st):ag F C (.exit id) Q st:=λ_ L _ _ hs=>wpIn_exit ⟨st,L,hs,aP.refl hs.1,rfl,h⟩
theorem ag.cond{c:Operand}{x:Code}{b:Bool}(hc:st.ev c=.pv (.val (.bool b)))(ht:b=true->ag F C x Q st)(hf:b=false->ag F C y Q st):ag F C (.cond c x y) Q st:=by
 intro n L a w hs
 have hc':a.eval c=.bool b:=by
  have:=dx hs.2.2 c;rw[hc]at this
  cases this with
  |pv hr=>exact aY hr
 exact wpIn_cond_split hc' (λe=>ht e n L a w hs) (λe=>hf e n L a w hs)
theorem ag.block{c:Code}(h:ag F C c (sP id Q) st):ag F C (.block id c) Q st:=by
 intro n L a w hs;refine wpIn_block (wpIn_mono (h n L a w hs) ?_);rintro e a' w' ⟨st',L',hs',hA,hd,hq⟩
 cases e with
 |exit i=>
  simp only[sP,Exit.inBlock]at hq|-;split
  .rename_i e;rw[IR e]at hq;exact⟨st',L',hs',hA,hd,hq⟩
  .rename_i e;rw[Ik e]at hq;exact⟨st',L',hs',hA,hd,hq⟩
 |_=>exact⟨st',L',hs',hA,hd,hq⟩
theorem ag.mono{c:Code}{Q':Exit->St->Prop}(h:ag F C c Q st)(hq:∀e st,Q e st->Q' e st):ag F C c Q' st:=
 λn L a w hs=>wpIn_mono (h n L a w hs) (λe _ _ ⟨st',L',hs',hA,hd,hq'⟩=>⟨st',L',hs',hA,hd,hq e st' hq'⟩)
end
theorem LR{b o:Nat}{v:Value}(hl:w.heap[l]?=some ob)(hc:ob.isCells=false)(h:w.cell? ⟨b,o,none⟩=some v):b≠l:=by
 intro e;subst e;obtain⟨o',h1,h2⟩:=cells_of_cell h;simp only at h1;rw[hl]at h1;injection h1 with h1;subst h1;rw[hc]at h2;cases h2
theorem MY{L:Nat->Loc}{h:Hp}{loc:Loc}{blk:Blk}(hb:dW w M L h loc blk)(hl:blk.live loc)(hw:w.heap[l]?=some ob)(hc:ob.isCells=false)(hmp:∀arr c,ob≠.map arr c):loc.b≠l:=by
 intro e;subst e
 cases blk with
 |box cs own fz=>obtain⟨arr,ty,e,_⟩:=hb;rw[hw]at e;injection e with e;subst e;cases hc
 |row e sz xs fz=>obtain⟨_,_,_,_,h5⟩:=hb;obtain⟨_,_,arr,e,_⟩:=h5 hl;rw[hw]at e;injection e with e;subst e;cases hc
 |mp kd n es fz=>obtain⟨arr,c,e,_⟩:=hb;rw[hw]at e;injection e with e;exact hmp _ _ e
theorem MemL.turn{L:Nat->Loc}{h:Hp}(hm:MemL C L h w)(hl:C.w0.heap[l]?=some ob)(hS:¬C.S l)(hc:ob.isCells=false)(hmp:∀arr c,ob≠.map arr c)(ob':Obj):
 MemL {C with w0:=C.w0.putObj l ob'} L h (w.putObj l ob')∧Pres w (af C L h) (w.putObj l ob') (af C L h):=by
 have hlt:l<C.w0.heap.size:=(LU.1 hl).1;have hw:w.heap[l]?=some ob:=(hm.ext.block l hlt hS).trans hl;have hlt':l<w.heap.size:=(LU.1 hw).1;have hpres:Pres w (af C L h) (w.putObj l ob') (af C L h):=⟨λb o v hv hn=>⟨(World.cell?_of_block (World.putObj_heap_other (LR hw hc hv))).trans hv,hn⟩,λb arr c hv hn=>⟨(World.putObj_heap_other (by rintro rfl;rw[hw]at hv;injection hv with hv;exact hmp _ _ hv)).trans hv,hn⟩⟩;refine⟨⟨⟨hm.ext.os,hm.ext.tape,hm.ext.output,by simpa using hm.ext.size,λb hb hs=>?_⟩,λb o hb=>by simpa using hm.m0 b o hb,λk blk hk=>(hm.bl k blk hk).mono hpres (KC.refl _ _) (λhlv=>World.putObj_heap_other (MY (hm.bl k blk hk) hlv hw hc hmp)),hm.sep,λk blk hk=>?_⟩,hpres⟩
 .by_cases e:b=l
  .subst e
   rw[World.putObj_heap_same hlt',World.putObj_heap_same hlt]
  .rw[World.putObj_heap_other e,World.putObj_heap_other e]
   exact hm.ext.block b (by simpa using hb) hs
 .have:=hm.own k blk hk
  cases blk with
  |box cs own fz=>cases own with
   |true=>simpa[fC]using this
   |false=>simpa[fC]using this
  |row e sz xs fz=>simpa[fC]using this
  |mp=>simpa[fC]using this
theorem yz{o:Obj}(h:w.heap[l]?=some o):w.putObj l o=w:=by
 have:w.heap.setIfInBounds l o=w.heap:=by
  apply Array.ext_getElem?;intro i;rw[Array.getElem?_setIfInBounds];by_cases e:l=i
  .subst e
   rw[IR rfl,IR (LU.1 h).1,h]
  .rw[Ik e]
 show{w with heap:=w.heap.setIfInBounds l o}=w;rw[this]
theorem v9(w:World)(l:Nat)(o o':Obj):(w.putObj l o).putObj l o'=w.putObj l o':=by
 show{w with heap:=(w.heap.setIfInBounds l o).setIfInBounds l o'}={w with heap:=w.heap.setIfInBounds l o'}
 congr 1
 apply Array.ext_getElem?;intro i;simp only[Array.getElem?_setIfInBounds,Array.size_setIfInBounds];by_cases e:l=i
 .subst e;simp
 .simp[e]
theorem ze{tm:Array Value}{u:Value}(hd:d<tm.size)(n:Nat):(tm.setIfInBounds d u).getD n undef=if n=d then u else tm.getD n undef:=by
 simp only[IV];by_cases e:n=d
 .subst e;simp[hd]
 .rw[Ik e,NE (by omega)]
theorem nR{b:Nat}{ps:List PV}(h:ln w M b ps):b<w.heap.size:=by
 obtain⟨arr,ty,e,_⟩:=h;exact(LU.1 e).1
def Gn(P:Program)(gf:FuncId)(caps:List PV)(xs:List (PV×PV)):Prop:=
 dw P gf=true∧∀(n l:Nat)(lb:List Value)(W:World)(M:Nat->Nat->Prop)(J:Nat->(Nat->Nat->Prop)->World->Prop),
  (∀i M W,J i M W->∀b o,M b o->b<W.heap.size)->(∀i M W W',J i M W->Ext (λ_=>False) W W'->J i M W')->
  (∀m i x M W v1 v2,xs[i]?=some x->J i M W->Rep W M x.1 v1->Rep W M x.2 v2->YieldAt Fence.wide m P l #[v1,v2] W λe W'=>e=.returned (.bool true)∧∃M',J (i+1) M' W'∧Pres W M W' M')->
  J 0 M W->cO W M caps lb->CallsIn Fence.wide n P gf (#[.func (.yield l) #[] #[]]++lb.toArray) W λe W'=>(∃v,e=.returned v)∧∃M',J xs.length M' W'
def kU(ks:List Nat)(hin:Nat->List PV):Hp:=λk=>if ks.contains k=true then some (.box ((hin k).map .pv) false false)else none
def qL(t:Nat->AV)(p q:Nat)(x:PV×PV):Nat->AV:=ai (ai t p (.pv x.1)) q (.pv x.2)
theorem Jm{q:Nat}(hg:a.eval gop=.func (.func gf) #[] lb.toArray)
 {caps:List PV}{xs:List (PV×PV)}(hit:Gn P gf caps xs){M:Nat->Nat->Prop}(hM:∀b o,M b o->b<w.heap.size)(hcap:cO w M caps lb)
 {ks:List Nat}{bs:Nat->Nat}{hin:Nat->List PV}(hbs:∀k∈ks,(∀o,M (bs k) o)∧ln w M (bs k) (hin k))(hinj:∀k∈ks,∀k'∈ks,k≠k'->bs k≠bs k')
 (hN:a.tmps.size=N)(hp:p<N)(hq:q<N){t:Nat->AV}(ht:∀m,(∃k∈ks,t m=.ptr k 0∧a.tmps.getD m undef=.pointer (some ⟨bs k,0,none⟩))∨t m=.undef)
 (I:Nat->Hp->Prop)(h0:I 0 (kU ks hin))(hI:∀i h k,k∈ks->I i h->∃cs,h k=some (.box cs false false))
 (hround:∀(C C':Cx)(l i:Nat)(x:PV×PV)(h:Hp),C.P=P->C.N=N->C'.P=P->C'.N=N->xs[i]?=some x->I i h->
   ag (Fence.wide.inRound l) C assign (λe st'=>e=.normal∧ag (Fence.wide.inRound l) C' body (λe' st''=>e'=.normal∧I (i+1) st''.h) st') ⟨qL t p q x,h⟩):
 (Code.rangeFunc gop #[p,q] assign body).wpIn Fence.wide n P (λe a' w'=>e=.normal∧∃(C:Cx)(L:Nat->Loc)(h:Hp)(D:Nat),C.P=P∧C.N=N∧C.M0=M∧(∀b,C.S b->∃k∈ks,b=bs k)∧
   MemL C L h w'∧I xs.length h∧(∀k∈ks,(L k).b=bs k)∧Ext (λ_=>False) w C.w0∧C.w0.heap[D]?=some (.deferred (some []))∧¬C.S D∧w.heap.size<=D∧a'={a with defers:={target:=.collected D,args:=#[]}::a.defers}) a w:=by
 refine wpIn_rangeFunc ?_;intro fn _;obtain⟨rec,hrec⟩:∃rec:LoopState->Option Code->Loop,rec=λst pe=>{state:=st,pending:=pe,fn,tmps:=a.tmps,params:=#[p,q],assign,body,defers:=w.heap.size}:=⟨_,rfl⟩;obtain⟨W1,hW1⟩:∃W1,(w.alloc (.deferred (some []))).alloc (.loop (rec .ready none))=W1:=⟨_,rfl⟩
 have hx1:Ext (λ_=>False) w W1:=by rw[<-hW1];exact(Ext.alloc _ _ _).trans (Ext.alloc _ _ _) (λ_ _ h=>h)
 have hs1:W1.heap.size=w.heap.size+2:=by rw[<-hW1];simp
 have hL1:W1.heap[w.heap.size+1]?=some (.loop (rec .ready none)):=by
  rw[<-hW1];have:=World.alloc_heap_new (w.alloc (.deferred (some []))) (.loop (rec .ready none));rwa [World.size_alloc]at this
 have hD1:W1.heap[w.heap.size]?=some (.deferred (some [])):=by
  rw[<-hW1];exact(RowKit.Below.heap_alloc _ _ _ (by simp)).trans (World.alloc_heap_new w _)
 obtain⟨l,hl⟩:∃l,l=w.heap.size+1:=⟨_,rfl⟩;rw[<-hl]at hL1;obtain⟨cx,hcx⟩:∃cx:Obj->Cx,cx=λo=>{P:=P,N:=N,M0:=M,S:=λb=>∃k∈ks,b=bs k,pb:=λk=>if ks.contains k=true then some (bs k)else none,w0:=W1.putObj l o}:=⟨_,rfl⟩
 have hS:∀o b,(cx o).S b->b<w.heap.size:=by
  intro o b hb;rw[hcx]at hb;obtain⟨k,hk,rfl⟩:=hb;exact nR (hbs k hk).2
 have hw0:∀o,(cx o).w0=W1.putObj l o:=λo=>by rw[hcx]
 have hMst:∀o o' L h,af (cx o) L h=af (cx o') L h:=λo o' L h=>by rw[hcx];rfl
 have hat:∀(o:Obj),(cx o).w0.heap[l]?=some o:=λo=>by rw[hw0];exact World.putObj_heap_same (LU.1 hL1).1
 have hnS:∀o,¬(cx o).S l:=λo h=>by have:=hS o l h;omega
 have hturn:∀{o o':Obj}{L:Nat->Loc}{h:Hp}{W:World},o.isCells=false->(∀arr c,o≠.map arr c)->MemL (cx o) L h W->W.heap[l]?=some o∧MemL (cx o') L h (W.putObj l o')∧Pres W (af (cx o) L h) (W.putObj l o') (af (cx o') L h):=by
  intro o o' L h W ho hmp hm;have hlt:l<(cx o).w0.heap.size:=(LU.1 (hat o)).1;obtain⟨h1,h2⟩:=hm.turn (hat o) (hnS o) ho hmp o';refine⟨(hm.ext.block l hlt (hnS o)).trans (hat o),?_,?_⟩
  .have e:({cx o with w0:=(cx o).w0.putObj l o'}:Cx)=cx o':=by rw[hcx];simp only[v9]
   rw[e]at h1;exact h1
  .rw[hMst o' o];exact h2
 have hready:W1.putObj l (.loop (rec .ready none))=W1:=yz hL1
 have hown:∀{o:Obj}{L:Nat->Loc}{h:Hp}{W:World}{i k:Nat},k∈ks->I i h->MemL (cx o) L h W->(L k).b=bs k:=by
  intro o L h W i k hk hi hm;obtain⟨cs,hc⟩:=hI i h k hk hi;have:=(hm.own k _ hc).2.1;rw[hcx]at this
  have hc':ks.contains k=true:=by simpa using hk
  simp only[hc',J4,IL]at this;exact this.symm
 let L0:Nat->Loc:=λk=>⟨bs k,0,false⟩
 have hkey:∀k blk,kU ks hin k=some blk->k∈ks∧blk=.box ((hin k).map .pv) false false:=by
  intro k blk hk;unfold kU at hk;split at hk
  .rename_i hc;injection hk with hk;exact⟨by simpa using hc,hk.symm⟩
  .cases hk
 have hM1:∀o b o',af (cx o) L0 (kU ks hin) b o'->M b o':=by
  rintro o b o' (hb|⟨k,blk,hk,_,hb,_⟩)
  .rw[hcx]at hb;exact hb
  .obtain⟨hks,_⟩:=hkey k blk hk
   rw[<-hb];exact(hbs k hks).1 o'
 have hpres1:Pres w M W1 (af (cx (.loop (rec .ready none))) L0 (kU ks hin)):=Pres.ext hx1 (λ_ _ h=>h.elim) λb o _ h=>hM1 _ b o h
 have hm0:MemL (cx (.loop (rec .ready none))) L0 (kU ks hin) W1:=by
  refine⟨by rw[hw0,hready];exact Ext.refl _ _,?_,?_,?_,?_⟩
  .intro b o hb
   rw[hw0,hready];rw[hcx]at hb;have:=hM b o hb;omega
  .intro k blk hk
   obtain⟨hks,rfl⟩:=hkey k blk hk;obtain⟨arr,ty,e1,e2⟩:=(hbs k hks).2;exact⟨arr,ty,(hx1.block _ (nR (hbs k hks).2) (λh=>h)).trans e1,aK.map_pv (e2.mono hpres1)⟩
  .intro k k' b1 b2 hne hk hk' _ _
   exact hinj k (hkey k b1 hk).1 k' (hkey k' b2 hk').1 hne
  .intro k blk hk
   obtain⟨hks,rfl⟩:=hkey k blk hk
   have hc':ks.contains k=true:=by simpa using hks
   refine⟨rfl,?_,?_,?_,?_⟩
   .rw[hcx];simp only[hc',J4];rfl
   .rw[hcx];exact⟨k,hks,rfl⟩
   .rw[hw0,hready];have:=nR (hbs k hks).2;show bs k<_;omega
   .intro o;rw[hcx];exact(hbs k hks).1 o
 refine⟨l,[{target:=.collected w.heap.size,args:=#[]}],W1,{target:=.fn (.func gf) lb.toArray,args:=#[.func (.yield l) #[] #[]]},W1,gf,#[.func (.yield l) #[] #[]]++lb.toArray,W1,?_,?_,λ_ _=>trivial,sQ hit.1 _ _ _,λh=>(by cases h),?_⟩
 .rw[<-hW1,hrec,hl];exact run_enterLoop_outer _ _ _ _ _
 .simp only[resolve,hg]
  simp[go_sem]
 .refine(hit.2 (n-1) l lb W1 _ (λi M' W=>∃L h,I i h∧MemL (cx (.loop (rec .ready none))) L h W∧M'=af (cx (.loop (rec .ready none))) L h) ?_ ?_ ?_ ⟨L0,_,h0,hm0,rfl⟩ (hcap.mono hpres1)).mono ?_
  .rintro i M' W ⟨L,h,_,hm,rfl⟩ b o hb
   exact hm.mlt hb
  .rintro i M' W W' ⟨L,h,hi,hm,rfl⟩ hx
   exact⟨L,h,hi,(hm.grow hx).1,rfl⟩
  .
   rintro m i x M' W v1 v2 hxi ⟨L,h,hi,hm,rfl⟩ hr1 hr2;obtain⟨hlW,_,_⟩:=hturn (o':=.loop (rec .ready none)) rfl (by intro _ _ h;cases h) hm;have hy:=run_yield (P:=P) (args:=#[v1,v2]) hlW (by rw[hrec];rfl);rw[hrec]at hy;refine⟨fn,(a.tmps.setIfInBounds p v1).setIfInBounds q v2,assign,body,by simpa using hy,roundIn_of_wpIn trivial ?_⟩
   have hsim:ir (cx (.loop (rec .ready none))) L ⟨qL t p q x,h⟩ {tmps:=(a.tmps.setIfInBounds p v1).setIfInBounds q v2,defers:=[]} W:=by
    refine⟨hm,by rw[hcx];simpa using hN,λk=>?_⟩
    have hq':q<(a.tmps.setIfInBounds p v1).size:=by rw[Array.size_setIfInBounds,hN];exact hq
    have hp':p<a.tmps.size:=by rw[hN];exact hp
    simp only[ze hq',ze hp',qL,ai];split
    .exact .pv hr2
    .split
     .exact .pv hr1
     .rcases ht k with⟨k',hk',e1,e2⟩|e1
      .obtain⟨cs,hc⟩:=hI i h k' hk' hi
       rw[e1,e2,<-hown hk' hi hm];exact .ptr hc
      .rw[e1];exact .undef _
   have hP1:(cx (.loop (rec .ready none))).P=P:=by rw[hcx]
   have hP2:(cx (.loop (rec .busy none))).P=P:=by rw[hcx]
   have hR:=hround (cx (.loop (rec .ready none))) (cx (.loop (rec .busy none))) l i x h hP1 (by rw[hcx]) hP2 (by rw[hcx]) hxi hi m L _ W hsim;rw[hP1]at hR;refine wpIn_mono hR ?_;rintro e a1 w1 ⟨st1,L1,hs1',hA1,_,rfl,hbody⟩;obtain⟨hl1,hmb,hpb⟩:=hturn (o':=.loop (rec .busy none)) rfl (by intro _ _ h;cases h) hs1'.1;refine⟨w1.putObj l (.loop (rec .busy none)),?_,?_⟩
   .have:=run_beginRound (P:=P) hl1 (by rw[hrec])
    rw[hrec]at this|-;exact this
   have hsb:ir (cx (.loop (rec .busy none))) L1 st1 a1 (w1.putObj l (.loop (rec .busy none))):=⟨hmb,by have:=hs1'.2.1;rw[hcx]at this|-;exact this,λk=>(hs1'.2.2 k).mono hpb (KC.refl _ _)⟩;have hB:=hbody m L1 a1 _ hsb;rw[hP2]at hB;refine wpIn_mono hB ?_;rintro e2 a2 w2 ⟨st2,L2,hs2,hA2,_,rfl,hi2⟩;obtain⟨hl2,hmr,hpr⟩:=hturn (o':=.loop (rec .ready none)) rfl (by intro _ _ h;cases h) hs2.1;refine⟨_,_,run_endRound none hl2,rfl,_,⟨L2,st2.h,hi2,?_,rfl⟩,?_⟩
   .have e:(Obj.loop {rec .busy none with state:=if(none:Option Code).isNone=true then .ready else .done,pending:=none})=.loop (rec .ready none):=by rw[hrec];rfl
    rw[e];exact hmr
   .have e:(Obj.loop {rec .busy none with state:=if(none:Option Code).isNone=true then .ready else .done,pending:=none})=.loop (rec .ready none):=by rw[hrec];rfl
    rw[e];exact((hA1.2.1.trans hpb).trans hA2.2.1).trans hpr
  .
   rintro e W2 ⟨⟨v,rfl⟩,M',L,h,hi,hm,_⟩;obtain⟨hl2,hme,_⟩:=hturn (o':=.loop (rec .exhausted none)) rfl (by intro _ _ h;cases h) hm;refine⟨none,W2.putObj l (.loop (rec .exhausted none)),?_,rfl,cx (.loop (rec .exhausted none)),L,h,w.heap.size,by rw[hcx],by rw[hcx],by rw[hcx],?_,hme,hi,λk hk=>hown hk hi hm,?_,?_,?_,IX _,rfl⟩
   .have:=run_endLoop (P:=P) hl2 (by rw[hrec];simp)
    rw[hrec]at this|-;exact this
   .intro b hb
    rw[hcx]at hb;exact hb
   .rw[hw0]
    refine⟨hx1.os,hx1.tape,hx1.output,by simp;omega,λb hb _=>?_⟩;rw[World.putObj_heap_other (by omega)];exact hx1.block b hb (λh=>h)
   .rw[hw0,World.putObj_heap_other (by omega)];exact hD1
   .intro hb
    have:=hS _ _ hb;omega
def xT(P:Program)(g:FuncId):Prop:=dw P g=true∧∀(n:Nat)(args:Array Value)(w:World),CallsDIn Fence.wide n P g args .returning w λe u' w'=>u'=.returning∧(∃v,e=.returned v)∧w'=w
def Ar(P:Program)(ds:List Deferred):Prop:=∀d∈ds,∃g cap,d.target=.fn (.func g) cap∧xT P g
theorem sT{n:Nat}{P:Program}{fn:Func}{tmps:Array Value}{R:Ending->World->Prop}{w:World}{v:Value}:∀{ds:List Deferred},Ar P ds->(results fn tmps).run P w=.ok v w->R (.returned v) w->LeavesInM Fence.wide n P fn tmps R ds .returning w
 |[],_,hr,hR=>⟨v,hr,hR⟩
 |d::ds,hq,hr,hR=>by
  obtain⟨g,cap,ht,hg⟩:=hq d (by simp);refine⟨by simp,.inr ⟨λh=>(by cases h),.func g,cap,g,d.args++cap,ht,by rw[ht];exact sQ hg.1 _ _ _,λ_ _=>trivial,(hg.2 _ _ w).mono ?_⟩⟩;rintro e u' w' ⟨rfl,⟨v',rfl⟩,rfl⟩;exact sT (λd hd=>hq d (by simp[hd])) hr hR
def MZ(C:Cx)(res:PV):Ending->World->Prop:=λe w'=>∃v,e=.returned v∧Ext (λ_=>False) C.w0 w'∧Rep w' C.M0 res v
theorem Fd{L:Nat->Loc}(hs:ir C L st a w){res:PV}(hr:jF C.P fn.results.toList [] (.pv res) st):∃u,(results fn a.tmps).run C.P w=.ok u w∧Rep w C.M0 res u:=by
 obtain⟨r,h1,_,W,hW⟩:=hr;obtain⟨u,hu1,hu2⟩:=om (C:=C) hs.1 hs.2.2 h1;obtain⟨b1,b2,_⟩:=nN hs.1 (dr.refl _) hu2 hW;exact⟨u,hu1,b2.mono (Pres.sub (λb o h=>.inl h))⟩
def Dl:RV->Bool
 |.pv _=>true
 |.nrow _ _ _=>true
 |_=>false
@[simp] theorem TU{p:PV}:Dl (.pv p)=true:=rfl
@[simp] theorem QD{e sz:Nat}:Dl (.nrow e sz xs)=true:=rfl
def La(C:Cx)(res:RV):Ending->World->Prop:=λe w'=>∃v,e=.returned v∧Ext (λ_=>False) C.w0 w'∧z8 C.w0 w' C.M0 res v
theorem Dm{L:Nat->Loc}(hs:ir C L st a w)(hok:Dl res=true)(hr:jF C.P fn.results.toList [] res st):∃u,(results fn a.tmps).run C.P w=.ok u w∧∀(w0:World)(M:Nat->Nat->Prop),(∀b o,M b o->C.M0 b o)->(∀b,(C.w0.heap.size<=b∨(C.S b∧∀o,¬C.M0 b o))->w0.heap.size<=b)->z8 w0 w M res u:=by
 cases res with
 |pv p=>
  obtain⟨u,h1,h2⟩:=Fd hs hr;exact⟨u,h1,λw0 M hM _=>h2.mono (Pres.sub hM)⟩
 |nrow e sz xs=>
  obtain⟨r,h1,_,hml,k,rfl,hk⟩:=hr;obtain⟨u,hu1,hu2⟩:=om (C:=C) hs.1 hs.2.2 h1;refine⟨u,hu1,λw0 M hM hfr=>⟨hml,L k,?_,λhn=>hfr _ ((hs.1.own _ _ hk).row hn),?_⟩⟩
  .cases hu2 with
   |arr hk2 hn2 hu=>
    rw[hk]at hk2;injection hk2 with hk2;injection hk2 with a1 a2 a3 a4;subst a3;exact hu rfl
  .obtain⟨c1,c2,c3,c4,c5⟩:=hs.1.bl _ _ hk
   refine⟨c1,Ng _,c3,c4,λhn=>?_⟩;obtain⟨d1,d2,arr,d3,d4,d5⟩:=c5 hn;refine⟨d1,d2,arr,d3,d4,λi x j p hx hj=>?_⟩;obtain⟨v,hv,hr9⟩:=d5 i x j p hx hj;refine⟨v,hv,hr9.mono (Pres.sub ?_)⟩;rintro b o (h|⟨_,rfl⟩)
   .exact .inl (hM _ _ h)
   .exact .inr ⟨k,_,hk,hn,rfl,by simp[Blk.frz]⟩
 |_=>cases hok
theorem eo{F:Fence}{n:Nat}{P:Program}{ops:Array Oper}{Q:Exit->Act->World->Prop}(l2:List Oper):∀{l1:List Oper}{a:Act}{w:World},
 wpListIn F n P ops (Exit.then (wpListIn F n P ops Q l2) Q) l1 a w->wpListIn F n P ops Q (l1++l2) a w
 |[],a,w,h=>h
 |o::l1,a,w,h=>by
  rw[List.cons_append];unfold wpListIn at h|-;split
  .rename_i hw
   rw[IR hw]at h;refine⟨h.1,?_⟩;have h2:=h.2;generalize(o.semAt F.round a.eval).run P w=r at h2|-;unfold Oper.uponIn at h2|-;split<;>simp only at h2|-
   .exact eo l2 h2
   .exact eo l2 h2
   .exact eo l2 h2
   .refine⟨h2.1,h2.2.mono ?_⟩
    intro e w' he
    cases e with
    |returned v=>exact eo l2 he
    |panicked ch=>exact he
    |outgrown=>exact he
   .exact⟨h2.1,h2.2.mono λv w' he=>eo l2 he⟩
   .refine⟨h2.1,h2.2.mono ?_⟩
    intro e w' he
    cases e with
    |returned v=>exact eo l2 he
    |panicked ch=>exact he
    |outgrown=>exact he
   .exact h2
  .rename_i hw
   rw[Ik hw]at h;exact⟨h.1,eo l2 h.2⟩
def oV(C:Cx)(fn:Func)(res:RV)(c:Code)(st:St):Prop:=
 ∀n L a w,ir C L st a w->Ar C.P a.defers->c.wpIn Fence.wide n C.P (bodyPostM Fence.wide n C.P fn (La C res)) a w
section
variable {C:Cx} {fn:Func} {res:RV} {st:St}
theorem uY{S:Nat->Prop}(hS:∀b,¬S b)(h:Ext S w w'):Ext (λ_=>False) w w':=⟨h.os,h.tape,h.output,h.size,λb hb _=>h.block b hb (hS b)⟩
def Jn(C:Cx)(fn:Func)(res:RV)(y:Code):Exit->St->Prop
 |.normal,st=>oV C fn res y st
 |.ret,st=>Dl res=true∧jF C.P fn.results.toList [] res st
 |_,_=>False
theorem oV.seq(hCS:∀b,¬C.S b){x:Code}(h:ag Fence.wide C x (Jn C fn res y) st):oV C fn res (.seq x y) st:=by
 intro n L a w hs hq;refine wpIn_seq (wpIn_mono (h n L a w hs) ?_);rintro e a' w' ⟨st',L',hs',hA,hd,hq'⟩
 cases e with
 |normal=>exact hq' n L' a' w' hs' (by rw[hd];exact hq)
 |ret=>
  obtain⟨u,h1,h2⟩:=Dm hs' hq'.1 hq'.2;exact sT (by rw[hd];exact hq) h1 ⟨u,rfl,uY hCS hs'.1.ext,h2 _ _ (λ_ _ h=>h) (λb h=>h.elim id λh9=>absurd h9.1 (hCS b))⟩
 |exit=>exact hq'.elim
 |goto=>exact hq'.elim
 |panic=>exact hq'.elim
 |outgrown=>exact hq'.elim
theorem HJ{Q:Exit->Act->World->Prop}(h:o.wp P a w next Q):o.wpIn Fence.wide n P a w next Q:=by
 refine⟨λf _=>trivial,?_⟩
 show o.uponIn Fence.wide n P a next Q ((o.semAt none a.eval).run P w)
 rw[Oper.semAt_none];unfold Oper.wp at h
 cases hx:(execOp a.eval o).run P w with
 |ok nx w'=>
  rw[hx]at h
  cases nx with
  |value v=>exact h
  |skip=>exact h
  |defer d=>exact h
  |enter f args=>exact⟨λhs=>(by cases hs),gZ.calls h⟩
  |row r args=>exact⟨λhs=>(by cases hs),gZ.rows h⟩
  |_=>exact h.elim
 |halt k w'=>
  rw[hx]at h
  cases k with
  |panic v=>exact h
  |_=>exact h.elim
theorem oV.defer{c:Call}(hops:ops.toList=pre++[o])(hnd:∀o∈pre,∀c,o.op≠.defer c)(ho:o.op=.defer c)(hg0:o.guard=none)(hd:o.dst=none)(hf:c.callee=.value f)(h0:c.args.size=0)(hq:xT C.P g)
 (h:dX C.P hn C.N ops (λst'=>(∃first caps,st'.ev f=.fn (.func g) first caps)∧oV C fn res y st') pre st):oV C fn res (.seq (.region id ops false) y) st:=by
 intro n L a w hs hqa;refine wpIn_seq (wpIn_region_list ?_);rw[hops];refine eo _ (je gZ (ds:=a.defers) ?_ hnd hs (aP.refl hs.1) rfl h);intro st1 L1 a1 w1 hs1 _ hd1 hq1;obtain⟨⟨first,caps,hv⟩,hy⟩:=hq1;obtain⟨vs,cs,hval⟩:=HB (by have:=dx hs1.2.2 f;rw[hv]at this;exact this);show wpListIn Fence.wide n C.P ops _ [o] a1 w1;unfold wpListIn
 have hw:Region.wanted o (yielded ops a1.tmps)=true:=by unfold Region.wanted;rw[hg0]
 rw[IR hw];refine HJ (Oper.wp_defer ho hf h0 hval ?_);rw[hd];refine hy n L1 _ w1 ⟨hs1.1,hs1.2.1,hs1.2.2⟩ ?_;intro d hd';rcases KM.1 hd' with rfl|hd'
 .exact⟨g,cs,rfl,hq⟩
 .rw[hd1]at hd';exact hqa d hd'
theorem oV.range(hCS:∀b,¬C.S b){x:Code}{q b0:Nat}{xs:List (PV×PV)}(hit:Gn C.P gf caps xs)(hp:p<C.N)(hq:q<C.N)
 {ks:List Nat}{hin:Nat->List PV}{t:Nat->AV}
 (hx:ag Fence.wide C x (λe st'=>e=.normal∧st'.ev gop=.pv (.fn (.func gf) [] caps)∧(∀k∈ks,st'.h k=some (.box ((hin k).map .pv) true false))∧∀m,(∃k∈ks,t m=.ptr k 0∧st'.t m=.ptr k 0)∨t m=.undef) st)
 (I:Nat->Hp->Prop)(h0:I 0 (kU ks hin))(hI:∀i h k,k∈ks->I i h->∃cs,h k=some (.box cs false false))
 (hround:∀(C1 C2:Cx)(l i:Nat)(x:PV×PV)(h:Hp),C1.P=C.P->C1.N=C.N->C2.P=C.P->C2.N=C.N->xs[i]?=some x->I i h->
   ag (Fence.wide.inRound l) C1 assign (λe st'=>e=.normal∧ag (Fence.wide.inRound l) C2 body (λe' st''=>e'=.normal∧I (i+1) st''.h) st') ⟨qL t p q x,h⟩)
 (hnd:rH ops=true){hn:List Nat}(htail:∀h,I xs.length h->dX C.P hn C.N ops (λst'=>Dl res=true∧jF C.P fn.results.toList [] res st') ops.toList ⟨t,h⟩):
 oV C fn res (.seq (.seq x (.block b0 (.rangeFunc gop #[p,q] assign body))) (.seq (.region id ops false) .ret)) st:=by
 intro n L a w hs hqa;refine wpIn_seq (wpIn_seq (wpIn_mono (hx n L a w hs) ?_));rintro e a1 w1 ⟨st1,L1,hs1,hA1,hd1,rfl,hg,hks,htt⟩;have hgr:=dx hs1.2.2 gop;rw[hg]at hgr
 obtain⟨us,hus,hcap⟩:∃us:List Value,a1.eval gop=.func (.func gf) #[] us.toArray∧cO w1 (af C L1 st1.h) caps us:=by
  generalize a1.eval gop=u at hgr
  cases hgr with
  |pv hr=>
   cases hr with
   |fn _ _ _ vs us hl hk h1 h2=>
    have:vs=[]:=LC hl.symm;subst this;exact⟨us,rfl,hk,h2⟩
 have hbx:∀k∈ks,(∀o,af C L1 st1.h (L1 k).b o)∧ln w1 (af C L1 st1.h) (L1 k).b (hin k):=by
  intro k hk;obtain⟨arr,ty,e1,e2⟩:=hs1.1.bl k _ (hks k hk);exact⟨λo=>.inr ⟨k,_,hks k hk,trivial,rfl,by simp[Blk.frz]⟩,arr,ty,e1,e2.map_pv_inv⟩
 refine wpIn_block (wpIn_mono (Jm (N:=C.N) hus hit (λb o h=>hs1.1.mlt h) hcap hbx (λk hk k' hk' hne=>hs1.1.sep k k' _ _ hne (hks k hk) (hks k' hk') trivial trivial) hs1.2.1 hp hq (t:=t) ?_ I h0 hI hround) ?_)
 .intro m
  rcases htt m with⟨k,hk,e1,e2⟩|e
  .have hr:=hs1.2.2 m
   rw[e2]at hr;generalize hv:a1.tmps.getD m undef=v at hr
   cases hr with
   |ptr _=>exact .inl ⟨k,hk,e1,rfl⟩
  .exact .inr e
 rintro e a2 w2 ⟨rfl,C2,L2,h2,D,hP2,hN2,hM2,hS2,hm2,hi2,hb2,hx2,hD2,hnS2,hDge,rfl⟩;show Code.wpIn Fence.wide n C.P _ _ _ w2
 have hs2:ir C2 L2 ⟨t,h2⟩ {a1 with defers:={target:=.collected D,args:=#[]}::a1.defers} w2:=by
  refine⟨hm2,by rw[hN2];exact hs1.2.1,λm=>?_⟩;show RepA w2 (af C2 L2 h2) L2 h2 (t m) (a1.tmps.getD m undef);rcases htt m with⟨k,hk,e1,e2⟩|e
  .have hr:=hs1.2.2 m
   rw[e2]at hr;obtain⟨cs,hc⟩:=hI _ h2 k hk hi2
   have hv:a1.tmps.getD m undef=.pointer (some ⟨(L1 k).b,0,none⟩):=by
    generalize a1.tmps.getD m undef=v at hr
    cases hr with
    |ptr _=>rfl
   rw[e1,hv,<-hb2 k hk];exact .ptr hc
  .rw[e];exact .undef _
 refine wpIn_seq (wpIn_region_list ?_);have htl:=htail h2 hi2;rw[<-hP2,<-hN2]at htl;rw[hP2]at htl;have hgo:=λQ' hQ'=>je (C:=C2) (Q:=λst'=>Dl res=true∧jF C.P fn.results.toList [] res st') (Q':=Q') (hn:=hn) (ops:=ops) gZ (n:=n) hQ' (λ_ ho=>mm hnd ho) hs2 (aP.refl hs2.1) rfl (by rw[hP2];exact htl);rw[hP2]at hgo;refine hgo _ ?_;intro st3 L3 a3 w3 hs3 _ hd3 hr3;refine wpIn_ret ?_;show LeavesInM Fence.wide n C.P fn a3.tmps (La C res) a3.defers .returning w3;rw[hd3];have hDlt:D<C2.w0.heap.size:=(LU.1 hD2).1;have hD3:w3.heap[D]?=some (.deferred (some [])):=(hs3.1.ext.block D hDlt hnS2).trans hD2;obtain⟨hm4,hp4⟩:=hs3.1.turn hD2 hnS2 rfl (by intro _ _ h;cases h) (.deferred none);have hs4:ir {C2 with w0:=C2.w0.putObj D (.deferred none)} L3 st3 a3 (w3.putObj D (.deferred none)):=⟨hm4,hs3.2.1,λm=>(hs3.2.2 m).mono hp4 (KC.refl _ _)⟩;obtain⟨u,hu1,hu2⟩:=Dm hs4 (fn:=fn) (res:=res) hr3.1 (by show jF C2.P _ _ _ _;rw[hP2];exact hr3.2)
 have hu1':(results fn a3.tmps).run C.P (w3.putObj D (.deferred none))=.ok u (w3.putObj D (.deferred none)):=by rw[<-hP2];exact hu1
 refine⟨by simp,.inl ⟨D,_,rfl,run_takeDeferred hD3,sT (by rw[hd1];exact hqa) hu1' ⟨u,rfl,?_,?_⟩⟩⟩
 .
  have e1:Ext (λ_=>False) C.w0 w1:=uY hCS hs1.1.ext;have e2:Ext (λ_=>False) C.w0 C2.w0:=e1.trans hx2 (λ_ _ h=>h);have hle:=e1.size;refine⟨?_,?_,?_,?_,?_⟩
  .show w3.os=_;rw[hs3.1.ext.os];exact e2.os
  .show w3.tape=_;rw[hs3.1.ext.tape];exact e2.tape
  .show w3.output=_;rw[hs3.1.ext.output];exact e2.output
  .simp only[World.putObj_size];exact SN e2.size hs3.1.ext.size
  .intro b hb _
   rw[World.putObj_heap_other (by omega)];rw[hs3.1.ext.block b (Ny hb e2.size) ?_]
   .exact e2.block b hb (λh=>h)
   .intro hSb
    obtain⟨k,hk,rfl⟩:=hS2 b hSb;have:=hs1.1.own k _ (hks k hk);rcases this with this|this
    .omega
    .exact hCS _ this.1
 .have e1:Ext (λ_=>False) C.w0 w1:=uY hCS hs1.1.ext
  have e2:Ext (λ_=>False) C.w0 C2.w0:=e1.trans hx2 (λ_ _ h=>h);refine hu2 _ _ (λb o h=>?_) (λb h=>?_)
  .show C2.M0 b o
   rw[hM2];exact .inl h
  .rcases h with h|⟨hSb,_⟩
   .have h9:C2.w0.heap.size<=b:=by simpa only[World.putObj_size]using h
    exact SN e2.size h9
   .obtain⟨k,hk,rfl⟩:=hS2 b hSb
    rcases hs1.1.own k _ (hks k hk)with this|this
    .exact this
    .exact absurd this.1 (hCS _)
end
theorem Fe{f:FuncId}{c:Code}(hf:P.funcs[f]?=some fn)(hb:fn.body=some c)(hcall:dw P f=true){args:List PV}(hlen:args.length<=fn.ntmps)
 (h:∀C:Cx,C.P=P->C.N=fn.ntmps->(∀b,¬C.S b)->oV C fn res c (r6 (args.map .pv) [])):ab P f (args.map .pv) [] [] res:=by
 refine⟨hcall,rfl,λw M bs vs hM hbl hnd hbox hal harg=>?_⟩;have hbs:bs=[]:=LC hbl;subst hbs
 let C:Cx:={P:=P,N:=fn.ntmps,M0:=M,S:=λ_=>False,pb:=λ_=>none,w0:=w}
 have hnone:∀k,(r6 (args.map .pv) []).h k=none:=by
  intro k;simp only[r6,uT];split
  .rfl
  .simp
 have hal':args.length=vs.length:=by simpa using hal
 have hs:ir C (λ_=>default) (r6 (args.map .pv) []) {tmps:=vs.toArray++Array.replicate (fn.ntmps-vs.toArray.size) undef,defers:=[]} w:=by
  refine⟨⟨Ext.refl _ _,hM,λk blk hk=>(by rw[hnone]at hk;cases hk),λk k' b1 b2 _ hk=>(by rw[hnone]at hk;cases hk),λk blk hk=>(by rw[hnone]at hk;cases hk)⟩,?_,λn=>?_⟩
  .show(vs.toArray++Array.replicate (fn.ntmps-vs.toArray.size) undef).size=fn.ntmps
   simp;omega
  .have hMst:∀b o,af C (λ_=>default) (r6 (args.map .pv) []).h b o->M b o:=by
    rintro b o (h|⟨k,blk,hk,_⟩)
    .exact h
    .rw[hnone]at hk;cases hk
   show RepA w _ _ _ (Db (args.map .pv) n) _;simp only[Db];split
   .rename_i p hp
    have hlt:n<vs.length:=by rw[<-hal];exact(th.1 hp).1
    have hv:=harg n (.pv p) vs[n] hp (an hlt)
    have hget:(vs.toArray++Array.replicate (fn.ntmps-vs.toArray.size) undef).getD n undef=vs[n]:=by
     rw[IV,Mj (by simpa using hlt)];simp[hlt]
    simp only[hget];have hv':Rep w M p vs[n]:=hv;exact .pv (hv'.mono (Pres.sub hMst))
   .rename_i j hp
    rw[Is]at hp
    cases hq:args[n]? with
    |none=>rw[hq]at hp;cases hp
    |some x=>rw[hq]at hp;cases hp
   .exact .undef _
 refine(callsIn_wide (n:=0)).1 ((callsIn_of_wp_marks hf hb trivial (h C rfl rfl (λ_ h=>h) 0 _ _ w hs (λd hd=>(by simp at hd))) rfl).mono ?_);rintro e w' ⟨v,rfl,hx,hr⟩;exact⟨v,rfl,⟨hx.os,hx.tape,hx.output,hx.size,λb hb _=>hx.block b hb (λh=>h)⟩,λi b ps hb=>(by simp at hb),hr⟩
@[simp] theorem M5:Cz F C y Q .normal st=ag F C y Q st:=rfl
@[simp] theorem PX:Cz F C y Q .ret st=Q .ret st:=rfl
@[simp] theorem Pf:Cz F C y Q (.exit i) st=Q (.exit i) st:=rfl
@[simp] theorem O4:Jn C fn res y .normal st=oV C fn res y st:=rfl
@[simp] theorem QE:Jn C fn res y .ret st=(Dl res=true∧jF C.P fn.results.toList [] res st):=rfl
section
variable {F:Fence} {C:Cx} {x y:Code} {Q:Exit->St->Prop} {st:St} {c:Operand}
def ub(F:Fence)(C:Cx)(x y:Code)(Q:Exit->St->Prop)(st:St):AV->Prop
 |.pv (.val (.bool b))=>(b=true->ag F C x Q st)∧(b=false->ag F C y Q st)
 |_=>False
@[simp] theorem O5:ub F C x y Q st (.pv (.val (.bool true)))=ag F C x Q st:=by simp[ub]
@[simp] theorem M6:ub F C x y Q st (.pv (.val (.bool false)))=ag F C y Q st:=by simp[ub]
theorem aI{b:Bool}(h1:b=true->ag F C x Q st)(h2:b=false->ag F C y Q st):ub F C x y Q st (.pv (.val (.bool b))):=⟨h1,h2⟩
theorem ag.cond'(h:ub F C x y Q st (st.ev c)):ag F C (.cond c x y) Q st:=by
 cases hv:st.ev c with
 |pv p=>cases p with
  |val v=>cases v with
   |bool b=>rw[hv]at h;exact ag.cond hv h.1 h.2
   |_=>rw[hv]at h;exact h.elim
  |_=>rw[hv]at h;exact h.elim
 |_=>rw[hv]at h;exact h.elim
end
def fw(N:Nat)(M:Nat->Nat->Prop)(t:Nat->AV)(a:Act)(w:World):Prop:=a.tmps.size=N∧∀m,t m=.undef∨∃p,t m=.pv p∧Rep w M p (a.tmps.getD m undef)
theorem fw.sim{t:Nat->AV}(h:fw N M t a w)(hM:∀b o,M b o->b<w.heap.size):ir {P:=P,N:=N,M0:=M,S:=λ_=>False,pb:=λ_=>none,w0:=w} (λ_=>default) ⟨t,λ_=>none⟩ a w:=by
 refine⟨⟨Ext.refl _ _,hM,λk blk hk=>(by cases hk),λk k' b1 b2 _ hk=>(by cases hk),λk blk hk=>(by cases hk)⟩,h.1,λm=>?_⟩;rcases h.2 m with e|⟨p,e,hr⟩
 .show RepA w _ _ _ (t m) _
  rw[e];exact .undef _
 .show RepA w _ _ _ (t m) _
  rw[e];refine .pv (hr.mono (Pres.sub ?_));rintro b o (h|⟨k,blk,hk,_⟩)
  .exact h
  .cases hk
def bV(t:Nat->AV):Nat->AV:=λm=>match t m with
 |.pv p=>.pv p
 |_=>.undef
theorem rI{L:Nat->Loc}(hs:ir C L st a w):fw C.N C.M0 (bV st.t) a w:=by
 refine⟨hs.2.1,λm=>?_⟩;have:=hs.2.2 m;unfold bV;generalize st.t m=v at this
 cases v with
 |pv p=>
  cases this with
  |pv hr=>exact .inr ⟨p,rfl,hr.mono (Pres.sub λb o h=>.inl h)⟩
 |_=>exact .inl rfl
theorem fw.sub{t t':Nat->AV}(h:fw N M t a w)(ht:∀m,t' m=.undef∨t' m=t m):fw N M t' a w:=by
 refine⟨h.1,λm=>?_⟩;rcases ht m with e|e
 .exact .inl e
 .rw[e];exact h.2 m
theorem fw.mono{M':Nat->Nat->Prop}{t:Nat->AV}(h:fw N M t a w)(hp:Pres w M w' M'):fw N M' t a w':=
 ⟨h.1,λm=>(h.2 m).imp id λ⟨p,e,hr⟩=>⟨p,e,hr.mono hp⟩⟩
theorem fw.step{t:Nat->AV}{c:Code}(h:fw N M t a w)(hM:∀b o,M b o->b<w.heap.size)
 (hc:∀C:Cx,C.P=P->C.N=N->ag Fence.wide C c Q ⟨t,λ_=>none⟩):c.wpIn Fence.wide n P (λe a' w'=>∃st',Q e st'∧fw N M (bV st'.t) a' w'∧Ext (λ_=>False) w w'∧a'.defers=a.defers) a w:=
 wpIn_mono (hc {P:=P,N:=N,M0:=M,S:=λ_=>False,pb:=λ_=>none,w0:=w} rfl rfl n _ a w (h.sim hM)) λ_ _ _ ⟨st',_,hs',_,hd,hq⟩=>⟨st',hq,rI hs',hs'.1.ext,hd⟩
theorem fw.list{t:Nat->AV}{l:List Oper}{Q:St->Prop}{Q':Exit->Act->World->Prop}(h:fw N M t a w)(hM:∀b o,M b o->b<w.heap.size)(hnd:∀o∈l,∀c,o.op≠.defer c)
 (hc:dX P hn N ops Q l ⟨t,λ_=>none⟩)(hQ:∀st' a' w',Q st'->fw N M (bV st'.t) a' w'->Ext (λ_=>False) w w'->a'.defers=a.defers->Q' .normal a' w'):wpListIn Fence.wide n P ops Q' l a w:=
 je (C:={P:=P,N:=N,M0:=M,S:=λ_=>False,pb:=λ_=>none,w0:=w}) gZ (λst' L' a' w' hs' _ hd hq=>hQ st' a' w' hq (rI hs') hs'.1.ext hd) hnd (h.sim hM) (aP.refl (h.sim (P:=P) hM).1) rfl hc
theorem Gp{rest:List Oper}{c:Call}{y:Operand}{Q:Exit->Act->World->Prop}{R:Ending->World->Prop}(hw:Region.wanted o (yielded ops a.tmps)=true)(ho:o.op=.call c)(hc:c.callee=.value f)(hargs:c.args=#[x,y])
 (hf:a.eval f=.func (.yield l) #[] #[])(hy:YieldAt Fence.wide (n-1) P l #[a.eval x,a.eval y] w R)
 (hnext:∀e w',R e w'->∃v,e=.returned v∧wpListIn Fence.wide n P ops Q rest (a.put o.dst v) w'):wpListIn Fence.wide n P ops Q (o::rest) a w:=by
 obtain⟨fn,tmps,assign,body,hr,hround⟩:=hy;unfold wpListIn;rw[IR hw];refine⟨λ_ _=>trivial,?_⟩;show o.uponIn Fence.wide n P a _ Q ((o.semAt none a.eval).run P w);rw[Oper.semAt_none]
 have hrun:(execOp a.eval o).run P w=.ok (.round l fn tmps assign body) w:=by
  generalize a.eval=ρ at hf hr;unfold execOp;rw[ho];obtain⟨cal,ar,at_⟩:=c;simp only at hc hargs;subst hc;subst hargs;simp[resolve,hf,invoke,go_sem,hr]
 rw[hrun];refine⟨λh=>(by cases h),hround.mono ?_⟩;intro e w' he;obtain⟨v,rfl,h⟩:=hnext e w' he;exact h
def Ct(P:Program)(gf:FuncId)(caps:List PV)(xs:List PV):Prop:=
 dw P gf=true∧∀(n l:Nat)(lb:List Value)(W:World)(M:Nat->Nat->Prop)(J Jx:Nat->(Nat->Nat->Prop)->World->Prop),
  (∀i M W,J i M W->∀b o,M b o->b<W.heap.size)->(∀i M W W',J i M W->Ext (λ_=>False) W W'->J i M W')->
  (∀i M W,Jx i M W->∀b o,M b o->b<W.heap.size)->(∀i M W W',Jx i M W->Ext (λ_=>False) W W'->Jx i M W')->
  (∀m i x M W v1,xs[i]?=some x->J i M W->Rep W M x v1->YieldAt Fence.wide m P l #[v1] W λe W'=>∃(b:Bool)(M':Nat->Nat->Prop),e=.returned (.bool b)∧(if b=true then J (i+1) M' W' else Jx i M' W')∧Pres W M W' M')->
  J 0 M W->cO W M caps lb->CallsIn Fence.wide n P gf (#[.func (.yield l) #[] #[]]++lb.toArray) W λe W'=>(∃v,e=.returned v)∧((∃M',J xs.length M' W')∨∃i M',i<xs.length∧Jx i M' W')
def m9(t:Nat->AV)(p:Nat)(x:PV):Nat->AV:=ai t p (.pv x)
theorem MemL.kill{L:Nat->Loc}(ks:List Nat)(hm:MemL C L st.h w):MemL C L (st.kill ks).h w∧∀b o,af C L (st.kill ks).h b o->af C L st.h b o:=by
 have hkey:∀k blk',(st.kill ks).h k=some blk'->∃blk,st.h k=some blk∧bQ ks blk=blk'∧blk'.live (L k)=blk.live (L k)∧∀o,blk'.frz o=blk.frz o:=by
  intro k blk' hk;simp only[St.kill]at hk;split at hk
  .cases hk
  .simp only[Ii]at hk
   obtain⟨blk,h1,rfl⟩:=hk;exact⟨blk,h1,rfl,by cases blk<;>rfl,λo=>by cases blk<;>rfl⟩
 have hM:∀b o,af C L (st.kill ks).h b o->af C L st.h b o:=by
  rintro b o (h0|⟨k,blk',hk,hl,hb,hf⟩)
  .exact .inl h0
  .obtain⟨blk,h1,_,h2,h3⟩:=hkey k blk' hk
   exact .inr ⟨k,blk,h1,h2▸hl,hb,h3 o▸hf⟩
 have hp:Pres w (af C L st.h) w (af C L (st.kill ks).h):=Pres.sub hM;refine⟨⟨hm.ext,hm.m0,?_,?_,?_⟩,hM⟩
 .intro k blk' hk
  obtain⟨blk,h1,rfl,_,_⟩:=hkey k blk' hk;have:=hm.bl k blk h1
  cases blk with
  |box cs own fz=>
   obtain⟨arr,ty,e1,e2⟩:=this;refine⟨arr,ty,e1,by simpa using e2.1,λi p u hp' hu=>?_⟩;simp only[Is,Ii]at hp';obtain⟨q,hq,rfl⟩:=hp';exact wH hp (e2.2 i q u hq hu)
  |row e sz xs fz=>
   obtain⟨a1,a2,a3,a4,a5⟩:=this;refine⟨a1,a2,a3,a4,λhn=>?_⟩;obtain⟨b1,b2,arr,b3,b4,b5⟩:=a5 hn;exact⟨b1,b2,arr,b3,b4,λi x j p hx hj=>by obtain⟨u,hu,hr⟩:=b5 i x j p hx hj;exact⟨u,hu,hr.mono hp⟩⟩
  |mp kd n es fz=>exact this
 .intro k k' b1 b2 hne hk hk' hl hl'
  obtain⟨c1,d1,_,e1,_⟩:=hkey k b1 hk;obtain⟨c2,d2,_,e2,_⟩:=hkey k' b2 hk';exact hm.sep k k' c1 c2 hne d1 d2 (e1▸hl) (e2▸hl')
 .intro k blk' hk
  obtain⟨blk,h1,rfl,_,_⟩:=hkey k blk' hk;have:=hm.own k blk h1
  cases blk with
  |box cs own fz=>cases own<;>exact this
  |row=>exact this
  |mp=>exact this
def Hi(kd:List Nat)(I:Nat->Hp->Prop)(Ix:Nat->Hp->Prop)(i:Nat):Exit->St->Prop
 |.normal,st=>I (i+1) (st.kill kd).h
 |.ret,st=>Ix i st.h
 |_,_=>False
theorem Hj(hg:a.eval gop=.func (.func gf) #[] lb.toArray)
 {caps:List PV}{xs:List PV}(hit:Ct P gf caps xs){M:Nat->Nat->Prop}(hM:∀b o,M b o->b<w.heap.size)(hcap:cO w M caps lb)
 {ks:List Nat}{bs:Nat->Nat}{hin:Nat->List PV}(hbs:∀k∈ks,(∀o,M (bs k) o)∧ln w M (bs k) (hin k))(hinj:∀k∈ks,∀k'∈ks,k≠k'->bs k≠bs k')
 (hN:a.tmps.size=N)(hp:p<N){t:Nat->AV}(ht:∀m,(∃k∈ks,t m=.ptr k 0∧a.tmps.getD m undef=.pointer (some ⟨bs k,0,none⟩))∨(∃q,t m=.pv q∧Rep w M q (a.tmps.getD m undef))∨t m=.undef)
 (I Ix:Nat->Hp->Prop)(h0:I 0 (kU ks hin))(hI:∀i h k,k∈ks->I i h->∃cs,h k=some (.box cs false false))(hIx:∀i h k,k∈ks->Ix i h->∃cs,h k=some (.box cs false false))
 (hround:∀(C C':Cx)(l i:Nat)(x:PV)(h:Hp),C.P=P->C.N=N->C'.P=P->C'.N=N->xs[i]?=some x->I i h->
   ag (Fence.wide.inRound l) C assign (λe st'=>e=.normal∧ag (Fence.wide.inRound l) C' body (Hi kd I Ix i) st') ⟨m9 t p x,h⟩):
 (Code.rangeFunc gop #[p] assign body).wpIn Fence.wide n P (λe a' w'=>∃(C:Cx)(L:Nat->Loc)(h:Hp)(D:Nat),((e=.normal∧I xs.length h)∨(e=.ret∧∃i,i<xs.length∧Ix i h))∧C.P=P∧C.N=N∧C.M0=M∧(∀b,C.S b->∃k∈ks,b=bs k)∧
   MemL C L h w'∧(∀k∈ks,(L k).b=bs k)∧(∀q v,Rep w M q v->Rep w' (af C L h) q v)∧Ext (λ_=>False) w C.w0∧C.w0.heap[D]?=some (.deferred (some []))∧¬C.S D∧w.heap.size<=D∧a'={a with defers:={target:=.collected D,args:=#[]}::a.defers}) a w:=by
 refine wpIn_rangeFunc ?_;intro fn _;obtain⟨rec,hrec⟩:∃rec:LoopState->Option Code->Loop,rec=λst pe=>{state:=st,pending:=pe,fn,tmps:=a.tmps,params:=#[p],assign,body,defers:=w.heap.size}:=⟨_,rfl⟩;obtain⟨W1,hW1⟩:∃W1,(w.alloc (.deferred (some []))).alloc (.loop (rec .ready none))=W1:=⟨_,rfl⟩
 have hx1:Ext (λ_=>False) w W1:=by rw[<-hW1];exact(Ext.alloc _ _ _).trans (Ext.alloc _ _ _) (λ_ _ h=>h)
 have hs1:W1.heap.size=w.heap.size+2:=by rw[<-hW1];simp
 have hL1:W1.heap[w.heap.size+1]?=some (.loop (rec .ready none)):=by
  rw[<-hW1];have:=World.alloc_heap_new (w.alloc (.deferred (some []))) (.loop (rec .ready none));rwa [World.size_alloc]at this
 have hD1:W1.heap[w.heap.size]?=some (.deferred (some [])):=by
  rw[<-hW1];exact(RowKit.Below.heap_alloc _ _ _ (by simp)).trans (World.alloc_heap_new w _)
 obtain⟨l,hl⟩:∃l,l=w.heap.size+1:=⟨_,rfl⟩;rw[<-hl]at hL1;obtain⟨cx,hcx⟩:∃cx:Obj->Cx,cx=λo=>{P:=P,N:=N,M0:=M,S:=λb=>∃k∈ks,b=bs k,pb:=λk=>if ks.contains k=true then some (bs k)else none,w0:=W1.putObj l o}:=⟨_,rfl⟩
 have hS:∀o b,(cx o).S b->b<w.heap.size:=by
  intro o b hb;rw[hcx]at hb;obtain⟨k,hk,rfl⟩:=hb;exact nR (hbs k hk).2
 have hw0:∀o,(cx o).w0=W1.putObj l o:=λo=>by rw[hcx]
 have hMst:∀o o' L h,af (cx o) L h=af (cx o') L h:=λo o' L h=>by rw[hcx];rfl
 have hat:∀(o:Obj),(cx o).w0.heap[l]?=some o:=λo=>by rw[hw0];exact World.putObj_heap_same (LU.1 hL1).1
 have hnS:∀o,¬(cx o).S l:=λo h=>by have:=hS o l h;omega
 have hturn:∀{o o':Obj}{L:Nat->Loc}{h:Hp}{W:World},o.isCells=false->(∀arr c,o≠.map arr c)->MemL (cx o) L h W->W.heap[l]?=some o∧MemL (cx o') L h (W.putObj l o')∧Pres W (af (cx o) L h) (W.putObj l o') (af (cx o') L h):=by
  intro o o' L h W ho hmp hm;have hlt:l<(cx o).w0.heap.size:=(LU.1 (hat o)).1;obtain⟨h1,h2⟩:=hm.turn (hat o) (hnS o) ho hmp o';refine⟨(hm.ext.block l hlt (hnS o)).trans (hat o),?_,?_⟩
  .have e:({cx o with w0:=(cx o).w0.putObj l o'}:Cx)=cx o':=by rw[hcx];simp only[v9]
   rw[e]at h1;exact h1
  .rw[hMst o' o];exact h2
 have hready:W1.putObj l (.loop (rec .ready none))=W1:=yz hL1
 have hown:∀{K:Nat->Hp->Prop}{o:Obj}{L:Nat->Loc}{h:Hp}{W:World}{i k:Nat},(∀i h k,k∈ks->K i h->∃cs,h k=some (.box cs false false))->k∈ks->K i h->MemL (cx o) L h W->(L k).b=bs k:=by
  intro K o L h W i k hK hk hi hm;obtain⟨cs,hc⟩:=hK i h k hk hi;have:=(hm.own k _ hc).2.1;rw[hcx]at this
  have hc':ks.contains k=true:=by simpa using hk
  simp only[hc',J4,IL]at this;exact this.symm
 let L0:Nat->Loc:=λk=>⟨bs k,0,false⟩
 have hkey:∀k blk,kU ks hin k=some blk->k∈ks∧blk=.box ((hin k).map .pv) false false:=by
  intro k blk hk;unfold kU at hk;split at hk
  .rename_i hc;injection hk with hk;exact⟨by simpa using hc,hk.symm⟩
  .cases hk
 have hM1:∀o b o',af (cx o) L0 (kU ks hin) b o'->M b o':=by
  rintro o b o' (hb|⟨k,blk,hk,_,hb,_⟩)
  .rw[hcx]at hb;exact hb
  .obtain⟨hks,_⟩:=hkey k blk hk
   rw[<-hb];exact(hbs k hks).1 o'
 have hpres1:Pres w M W1 (af (cx (.loop (rec .ready none))) L0 (kU ks hin)):=Pres.ext hx1 (λ_ _ h=>h.elim) λb o _ h=>hM1 _ b o h
 have hm0:MemL (cx (.loop (rec .ready none))) L0 (kU ks hin) W1:=by
  refine⟨by rw[hw0,hready];exact Ext.refl _ _,?_,?_,?_,?_⟩
  .intro b o hb
   rw[hw0,hready];rw[hcx]at hb;have:=hM b o hb;omega
  .intro k blk hk
   obtain⟨hks,rfl⟩:=hkey k blk hk;obtain⟨arr,ty,e1,e2⟩:=(hbs k hks).2;exact⟨arr,ty,(hx1.block _ (nR (hbs k hks).2) (λh=>h)).trans e1,aK.map_pv (e2.mono hpres1)⟩
  .intro k k' b1 b2 hne hk hk' _ _
   exact hinj k (hkey k b1 hk).1 k' (hkey k' b2 hk').1 hne
  .intro k blk hk
   obtain⟨hks,rfl⟩:=hkey k blk hk
   have hc':ks.contains k=true:=by simpa using hks
   refine⟨rfl,?_,?_,?_,?_⟩
   .rw[hcx];simp only[hc',J4];rfl
   .rw[hcx];exact⟨k,hks,rfl⟩
   .rw[hw0,hready];have:=nR (hbs k hks).2;show bs k<_;omega
   .intro o;rw[hcx];exact(hbs k hks).1 o
 let Jt:(Nat->Hp->Prop)->Obj->Nat->(Nat->Nat->Prop)->World->Prop:=λK o i M' W=>∃L h,K i h∧MemL (cx o) L h W∧M'=af (cx o) L h∧(∀q v,Rep w M q v->Rep W M' q v)
 refine⟨l,[{target:=.collected w.heap.size,args:=#[]}],W1,{target:=.fn (.func gf) lb.toArray,args:=#[.func (.yield l) #[] #[]]},W1,gf,#[.func (.yield l) #[] #[]]++lb.toArray,W1,?_,?_,λ_ _=>trivial,sQ hit.1 _ _ _,λh=>(by cases h),?_⟩
 .rw[<-hW1,hrec,hl];exact run_enterLoop_outer _ _ _ _ _
 .simp only[resolve,hg]
  simp[go_sem]
 .have hbd:∀K o i M' W,Jt K o i M' W->∀b o',M' b o'->b<W.heap.size:=by
   rintro K o i M' W ⟨L,h,_,hm,rfl,_⟩ b o' hb;exact hm.mlt hb
  have hgr:∀K o i M' W W',Jt K o i M' W->Ext (λ_=>False) W W'->Jt K o i M' W':=by
   rintro K o i M' W W' ⟨L,h,hi,hm,rfl,hq⟩ hx;exact⟨L,h,hi,(hm.grow hx).1,rfl,λq v hr=>(hq q v hr).mono (hm.grow hx).2⟩
  refine(hit.2 (n-1) l lb W1 _ (Jt I (.loop (rec .ready none))) (Jt Ix (.loop (rec .done (some .ret)))) (hbd _ _) (hgr _ _) (hbd _ _) (hgr _ _) ?_ ⟨L0,_,h0,hm0,rfl,λq v hr=>hr.mono hpres1⟩ (hcap.mono hpres1)).mono ?_
  .
   rintro m i x M' W v1 hxi ⟨L,h,hi,hm,rfl,hq⟩ hr1;obtain⟨hlW,_,_⟩:=hturn (o':=.loop (rec .ready none)) rfl (by intro _ _ h;cases h) hm;have hy:=run_yield (P:=P) (args:=#[v1]) hlW (by rw[hrec];rfl);rw[hrec]at hy;refine⟨fn,a.tmps.setIfInBounds p v1,assign,body,by simpa using hy,roundIn_of_wpIn trivial ?_⟩
   have hsim:ir (cx (.loop (rec .ready none))) L ⟨m9 t p x,h⟩ {tmps:=a.tmps.setIfInBounds p v1,defers:=[]} W:=by
    refine⟨hm,by rw[hcx];simpa using hN,λk=>?_⟩
    have hp':p<a.tmps.size:=by rw[hN];exact hp
    simp only[ze hp',m9,ai];split
    .exact .pv hr1
    .rcases ht k with⟨k',hk',e1,e2⟩|⟨q,e1,e2⟩|e1
     .obtain⟨cs,hc⟩:=hI i h k' hk' hi
      rw[e1,e2,<-hown hI hk' hi hm];exact .ptr hc
     .rw[e1];exact .pv (hq q _ e2)
     .rw[e1];exact .undef _
   have hP1:(cx (.loop (rec .ready none))).P=P:=by rw[hcx]
   have hP2:(cx (.loop (rec .busy none))).P=P:=by rw[hcx]
   have hR:=hround (cx (.loop (rec .ready none))) (cx (.loop (rec .busy none))) l i x h hP1 (by rw[hcx]) hP2 (by rw[hcx]) hxi hi m L _ W hsim;rw[hP1]at hR;refine wpIn_mono hR ?_;rintro e a1 w1 ⟨st1,L1,hs1',hA1,_,rfl,hbody⟩;obtain⟨hl1,hmb,hpb⟩:=hturn (o':=.loop (rec .busy none)) rfl (by intro _ _ h;cases h) hs1'.1;refine⟨w1.putObj l (.loop (rec .busy none)),?_,?_⟩
   .have:=run_beginRound (P:=P) hl1 (by rw[hrec])
    rw[hrec]at this|-;exact this
   have hsb:ir (cx (.loop (rec .busy none))) L1 st1 a1 (w1.putObj l (.loop (rec .busy none))):=⟨hmb,by have:=hs1'.2.1;rw[hcx]at this|-;exact this,λk=>(hs1'.2.2 k).mono hpb (KC.refl _ _)⟩;have hB:=hbody m L1 a1 _ hsb;rw[hP2]at hB;refine wpIn_mono hB ?_;rintro e2 a2 w2 ⟨st2,L2,hs2,hA2,_,hq2⟩
   cases e2 with
   |normal=>
    obtain⟨hl2,hmr,hpr⟩:=hturn (o':=.loop (rec .ready none)) rfl (by intro _ _ h;cases h) hs2.1
    have e:(Obj.loop {rec .busy none with state:=if(none:Option Code).isNone=true then .ready else .done,pending:=none})=.loop (rec .ready none):=by rw[hrec];rfl
    have hpres:Pres W (af (cx (.loop (rec .ready none))) L h) (w2.putObj l (.loop (rec .ready none))) (af (cx (.loop (rec .ready none))) L2 st2.h):=((hA1.2.1.trans hpb).trans hA2.2.1).trans hpr;obtain⟨hmk,hMk⟩:=hmr.kill kd;have hpres:=hpres.trans (Pres.sub hMk);refine⟨_,_,run_endRound none hl2,true,af (cx (.loop (rec .ready none))) L2 (st2.kill kd).h,rfl,?_,?_⟩
    .rw[IR rfl,e]
     exact⟨L2,(st2.kill kd).h,hq2,hmk,rfl,λq v hr=>(hq q v hr).mono hpres⟩
    .rw[e];exact hpres
   |ret=>
    obtain⟨hl2,hmr,hpr⟩:=hturn (o':=.loop (rec .done (some .ret))) rfl (by intro _ _ h;cases h) hs2.1
    have e:(Obj.loop {rec .busy none with state:=if(some Code.ret).isNone=true then .ready else .done,pending:=some .ret})=.loop (rec .done (some .ret)):=by rw[hrec];rfl
    have hpres:Pres W (af (cx (.loop (rec .ready none))) L h) (w2.putObj l (.loop (rec .done (some .ret)))) (af (cx (.loop (rec .done (some .ret)))) L2 st2.h):=((hA1.2.1.trans hpb).trans hA2.2.1).trans hpr;refine⟨_,_,run_endRound (some .ret) hl2,false,af (cx (.loop (rec .done (some .ret)))) L2 st2.h,rfl,?_,?_⟩
    .rw[Ik (by simp),e]
     exact⟨L2,st2.h,hq2,hmr,rfl,λq v hr=>(hq q v hr).mono hpres⟩
    .rw[e];exact hpres
   |exit=>exact hq2.elim
   |goto=>exact hq2.elim
   |panic=>exact hq2.elim
   |outgrown=>exact hq2.elim
  .
   have hend:∀(K:Nat->Hp->Prop)(o:Obj)(st:LoopState)(pe:Option Code)(i:Nat)(M':Nat->Nat->Prop)(W2:World),o=.loop (rec st pe)->(∀i h k,k∈ks->K i h->∃cs,h k=some (.box cs false false))->Jt K o i M' W2->
    W2.heap[l]?=some o∧∃(C:Cx)(L:Nat->Loc)(h:Hp)(D:Nat),K i h∧C.P=P∧C.N=N∧C.M0=M∧(∀b,C.S b->∃k∈ks,b=bs k)∧
     MemL C L h (W2.putObj l (.loop (rec .exhausted pe)))∧(∀k∈ks,(L k).b=bs k)∧(∀q v,Rep w M q v->Rep (W2.putObj l (.loop (rec .exhausted pe))) (af C L h) q v)∧Ext (λ_=>False) w C.w0∧C.w0.heap[D]?=some (.deferred (some []))∧¬C.S D∧w.heap.size<=D∧D=w.heap.size:=by
    rintro K o st pe i M' W2 rfl hK ⟨L,h,hi,hm,rfl,hq⟩;obtain⟨hl2,hme,hpe⟩:=hturn (o':=.loop (rec .exhausted pe)) rfl (by intro _ _ h;cases h) hm;refine⟨hl2,cx (.loop (rec .exhausted pe)),L,h,w.heap.size,hi,by rw[hcx],by rw[hcx],by rw[hcx],?_,hme,λk hk=>hown hK hk hi hm,λq v hr=>(hq q v hr).mono hpe,?_,?_,?_,IX _,rfl⟩
    .intro b hb
     rw[hcx]at hb;exact hb
    .rw[hw0]
     refine⟨hx1.os,hx1.tape,hx1.output,by simp;omega,λb hb _=>?_⟩;rw[World.putObj_heap_other (by omega)];exact hx1.block b hb (λh=>h)
    .rw[hw0,World.putObj_heap_other (by omega)];exact hD1
    .intro hb
     have:=hS _ _ hb;omega
   rintro e W2 ⟨⟨v,rfl⟩,⟨M',hj⟩|⟨i,M',hi,hj⟩⟩
   .obtain⟨hl2,C,L,h,D,a1,a2,a3,a4,a5,a6,a7,a7',a8,a9,a10,a11,rfl⟩:=hend I _ _ _ _ _ _ rfl hI hj
    refine⟨none,W2.putObj l (.loop (rec .exhausted none)),?_,C,L,h,_,.inl ⟨rfl,a1⟩,a2,a3,a4,a5,a6,a7,a7',a8,a9,a10,a11,rfl⟩;have:=run_endLoop (P:=P) hl2 (by rw[hrec];simp);rw[hrec]at this|-;exact this
   .obtain⟨hl2,C,L,h,D,a1,a2,a3,a4,a5,a6,a7,a7',a8,a9,a10,a11,rfl⟩:=hend Ix _ _ _ _ _ _ rfl hIx hj
    refine⟨some .ret,W2.putObj l (.loop (rec .exhausted (some .ret))),?_,wpIn_ret ⟨C,L,h,_,.inr ⟨rfl,i,hi,a1⟩,a2,a3,a4,a5,a6,a7,a7',a8,a9,a10,a11,rfl⟩⟩;have:=run_endLoop (P:=P) hl2 (by rw[hrec];simp);rw[hrec]at this|-;exact this
theorem yp{C2:Cx}{res:PV}{st1 st3:St}{a1 a3:Act}{w1 w3:World}{L1 L3:Nat->Loc}{D:Nat}{ks:List Nat}{bs:Nat->Nat}{hin:Nat->List PV}(hCS:∀b,¬C.S b)(hs1:ir C L1 st1 a1 w1)(hks:∀k∈ks,st1.h k=some (.box ((hin k).map .pv) true false))(hbs:∀k∈ks,bs k=(L1 k).b)
 (hqa:Ar C.P a1.defers)(hP2:C2.P=C.P)(hM2:C2.M0=af C L1 st1.h)(hS2:∀b,C2.S b->∃k∈ks,b=bs k)(hx2:Ext (λ_=>False) w1 C2.w0)(hD2:C2.w0.heap[D]?=some (.deferred (some [])))(hnS2:¬C2.S D)(hDge:w1.heap.size<=D)
 (hs3:ir C2 L3 st3 a3 w3)(hd3:a3.defers={target:=.collected D,args:=#[]}::a1.defers)(hr3:jF C.P fn.results.toList [] (.pv res) st3):LeavesInM Fence.wide n C.P fn a3.tmps (MZ C res) a3.defers .returning w3:=by
 rw[hd3];have hDlt:D<C2.w0.heap.size:=(LU.1 hD2).1;have hD3:w3.heap[D]?=some (.deferred (some [])):=(hs3.1.ext.block D hDlt hnS2).trans hD2;obtain⟨hm4,hp4⟩:=hs3.1.turn hD2 hnS2 rfl (by intro _ _ h;cases h) (.deferred none);have hs4:ir {C2 with w0:=C2.w0.putObj D (.deferred none)} L3 st3 a3 (w3.putObj D (.deferred none)):=⟨hm4,hs3.2.1,λm=>(hs3.2.2 m).mono hp4 (KC.refl _ _)⟩;obtain⟨u,hu1,hu2⟩:=Fd hs4 (fn:=fn) (res:=res) (by show jF C2.P _ _ _ _;rw[hP2];exact hr3)
 have hu1':(results fn a3.tmps).run C.P (w3.putObj D (.deferred none))=.ok u (w3.putObj D (.deferred none)):=by rw[<-hP2];exact hu1
 refine⟨by simp,.inl ⟨D,_,rfl,run_takeDeferred hD3,sT hqa hu1' ⟨u,rfl,?_,?_⟩⟩⟩
 .have e1:Ext (λ_=>False) C.w0 w1:=uY hCS hs1.1.ext
  have e2:Ext (λ_=>False) C.w0 C2.w0:=e1.trans hx2 (λ_ _ h=>h);have hle:=e1.size;refine⟨?_,?_,?_,?_,?_⟩
  .show w3.os=_;rw[hs3.1.ext.os];exact e2.os
  .show w3.tape=_;rw[hs3.1.ext.tape];exact e2.tape
  .show w3.output=_;rw[hs3.1.ext.output];exact e2.output
  .simp only[World.putObj_size];exact SN e2.size hs3.1.ext.size
  .intro b hb _
   rw[World.putObj_heap_other (by omega)];rw[hs3.1.ext.block b (Ny hb e2.size) ?_]
   .exact e2.block b hb (λh=>h)
   .intro hSb
    obtain⟨k,hk,rfl⟩:=hS2 b hSb;rw[hbs k hk]at hb;have:=hs1.1.own k _ (hks k hk);rcases this with this|this
    .omega
    .exact hCS _ this.1
 .refine hu2.mono (Pres.sub ?_)
  intro b o h;show C2.M0 b o;rw[hM2];exact .inl h
theorem oV.rangeS{res:PV}(hCS:∀b,¬C.S b){x:Code}{b0:Nat}(hit:Ct C.P gf caps xs)(hp:p<C.N)
 {ks:List Nat}{hin:Nat->List PV}{t:Nat->AV}
 (hx:ag Fence.wide C x (λe st'=>e=.normal∧st'.ev gop=.pv (.fn (.func gf) [] caps)∧(∀k∈ks,st'.h k=some (.box ((hin k).map .pv) true false))∧∀m,(∃k∈ks,t m=.ptr k 0∧st'.t m=.ptr k 0)∨(∃q,t m=.pv q∧st'.t m=.pv q)∨t m=.undef) st)
 (I Ix:Nat->Hp->Prop)(h0:I 0 (kU ks hin))(hI:∀i h k,k∈ks->I i h->∃cs,h k=some (.box cs false false))(hIx:∀i h k,k∈ks->Ix i h->∃cs,h k=some (.box cs false false))
 (hround:∀(C1 C2:Cx)(l i:Nat)(x:PV)(h:Hp),C1.P=C.P->C1.N=C.N->C2.P=C.P->C2.N=C.N->xs[i]?=some x->I i h->
   ag (Fence.wide.inRound l) C1 assign (λe st'=>e=.normal∧ag (Fence.wide.inRound l) C2 body (Hi kd I Ix i) st') ⟨m9 t p x,h⟩)
 (hnd:rH ops=true){hn:List Nat}(htail:∀h,I xs.length h->dX C.P hn C.N ops (λst'=>jF C.P fn.results.toList [] (.pv res) st') ops.toList ⟨t,h⟩)
 (hstop:∀i h,i<xs.length->Ix i h->jF C.P fn.results.toList [] (.pv res) ⟨t,h⟩):
 oV C fn (.pv res) (.seq (.seq x (.block b0 (.rangeFunc gop #[p] assign body))) (.seq (.region id ops false) .ret)) st:=by
 intro n L a w hs hqa;refine wpIn_seq (wpIn_seq (wpIn_mono (hx n L a w hs) ?_));rintro e a1 w1 ⟨st1,L1,hs1,hA1,hd1,rfl,hg,hks,htt⟩;have hgr:=dx hs1.2.2 gop;rw[hg]at hgr
 obtain⟨us,hus,hcap⟩:∃us:List Value,a1.eval gop=.func (.func gf) #[] us.toArray∧cO w1 (af C L1 st1.h) caps us:=by
  generalize a1.eval gop=u at hgr
  cases hgr with
  |pv hr=>
   cases hr with
   |fn _ _ _ vs us hl hk h1 h2=>
    have:vs=[]:=LC hl.symm;subst this;exact⟨us,rfl,hk,h2⟩
 have hbx:∀k∈ks,(∀o,af C L1 st1.h (L1 k).b o)∧ln w1 (af C L1 st1.h) (L1 k).b (hin k):=by
  intro k hk;obtain⟨arr,ty,e1,e2⟩:=hs1.1.bl k _ (hks k hk);exact⟨λo=>.inr ⟨k,_,hks k hk,trivial,rfl,by simp[Blk.frz]⟩,arr,ty,e1,e2.map_pv_inv⟩
 have hqa1:Ar C.P a1.defers:=by rw[hd1];exact hqa
 refine wpIn_block (wpIn_mono (Hj (N:=C.N) hus hit (λb o h=>hs1.1.mlt h) hcap hbx (λk hk k' hk' hne=>hs1.1.sep k k' _ _ hne (hks k hk) (hks k' hk') trivial trivial) hs1.2.1 hp (t:=t) ?_ I Ix h0 hI hIx hround) ?_)
 .intro m
  rcases htt m with⟨k,hk,e1,e2⟩|⟨q,e1,e2⟩|e
  .have hr:=hs1.2.2 m
   rw[e2]at hr;generalize hv:a1.tmps.getD m undef=v at hr
   cases hr with
   |ptr _=>exact .inl ⟨k,hk,e1,rfl⟩
  .have hr:=hs1.2.2 m
   rw[e2]at hr
   cases hr with
   |pv hr=>exact .inr (.inl ⟨q,e1,hr⟩)
  .exact .inr (.inr e)
 rintro e a2 w2 ⟨C2,L2,h2,D,hend,hP2,hN2,hM2,hS2,hm2,hb2,hq2,hx2,hD2,hnS2,hDge,rfl⟩
 have hbox:∀k∈ks,∃cs,h2 k=some (.box cs false false):=by
  intro k hk;rcases hend with⟨_,hi⟩|⟨_,i,_,hi⟩
  .exact hI _ h2 k hk hi
  .exact hIx _ h2 k hk hi
 have hs2:ir C2 L2 ⟨t,h2⟩ {a1 with defers:={target:=.collected D,args:=#[]}::a1.defers} w2:=by
  refine⟨hm2,by rw[hN2];exact hs1.2.1,λm=>?_⟩;show RepA w2 (af C2 L2 h2) L2 h2 (t m) (a1.tmps.getD m undef);rcases htt m with⟨k,hk,e1,e2⟩|⟨q,e1,e2⟩|e
  .have hr:=hs1.2.2 m
   rw[e2]at hr;obtain⟨cs,hc⟩:=hbox k hk
   have hv:a1.tmps.getD m undef=.pointer (some ⟨(L1 k).b,0,none⟩):=by
    generalize a1.tmps.getD m undef=v at hr
    cases hr with
    |ptr _=>rfl
   rw[e1,hv,<-hb2 k hk];exact .ptr hc
  .have hr:=hs1.2.2 m
   rw[e2]at hr;rw[e1]
   cases hr with
   |pv hr=>exact .pv (hq2 q _ hr)
  .rw[e];exact .undef _
 rcases hend with⟨rfl,hi2⟩|⟨rfl,i,hilt,hi2⟩
 .show Code.wpIn Fence.wide n C.P _ _ _ w2
  refine wpIn_seq (wpIn_region_list ?_);have htl:=htail h2 hi2;rw[<-hP2,<-hN2]at htl;rw[hP2]at htl;have hgo:=λQ' hQ'=>je (C:=C2) (Q:=λst'=>jF C.P fn.results.toList [] (.pv res) st') (Q':=Q') (hn:=hn) (ops:=ops) gZ (n:=n) hQ' (λ_ ho=>mm hnd ho) hs2 (aP.refl hs2.1) rfl (by rw[hP2];exact htl);rw[hP2]at hgo;refine hgo _ ?_;intro st3 L3 a3 w3 hs3 _ hd3 hr3;refine wpIn_ret ?_;exact yp hCS hs1 hks (λ_ _=>rfl) hqa1 hP2 hM2 hS2 hx2 hD2 hnS2 hDge hs3 hd3 hr3
 .show LeavesInM Fence.wide n C.P fn a1.tmps (MZ C res) ({target:=.collected D,args:=#[]}::a1.defers) .returning w2
  exact yp (a3:={a1 with defers:={target:=.collected D,args:=#[]}::a1.defers}) hCS hs1 hks (λ_ _=>rfl) hqa1 hP2 hM2 hS2 hx2 hD2 hnS2 hDge hs2 rfl (hstop i h2 hilt hi2)
theorem F7(h:Hp)(ks:List Nat)(k:Nat)(b:Blk):rekey h ks k b k=some b:=IR rfl
section
variable {C:Cx} {L:Nat->Loc} {h1 h:Hp} {w:World}
theorem MemL.loosen(hm:MemL C L h w)(ks:List Nat)(f:Nat->Bool):
 MemL C L (λq=>if f q=true then(h q).map (bQ ks)else h q) w∧KC L h L (λq=>if f q=true then(h q).map (bQ ks)else h q)∧
  Pres w (af C L h) w (af C L (λq=>if f q=true then(h q).map (bQ ks)else h q)):=by
 let h2:Hp:=λq=>if f q=true then(h q).map (bQ ks)else h q
 have get:∀{q b},h2 q=some b->∃b0,h q=some b0∧(b=b0∨b=bQ ks b0):=by
  grind [Option.map_eq_some_iff]
 have lv:∀{b b0:Blk}{l:Loc},(b=b0∨b=bQ ks b0)->b.live l=b0.live l:=by
  grind [uC]
 have fr:∀{b b0:Blk}{o:Nat},(b=b0∨b=bQ ks b0)->b.frz o=b0.frz o:=by
  grind [BB]
 have hM:∀b o,af C L h2 b o->af C L h b o:=by
  rintro b o (h0|⟨q,b1,hq,hl,hb,hf⟩)
  .exact .inl h0
  .obtain⟨b0,e1,e2⟩:=get hq
   rw[lv e2]at hl;rw[fr e2]at hf;exact .inr ⟨q,b0,e1,hl,hb,hf⟩
 have hp:Pres w (af C L h) w (af C L h2):=Pres.sub hM
 have hkc:KC L h L h2:=by
  intro q b hq
  grind [bQ,wG,dq]
 refine⟨⟨hm.ext,hm.m0,?_,?_,?_⟩,hkc,hp⟩
 .intro q b hq
  obtain⟨b0,e1,e2⟩:=get hq;have hb:=(hm.bl q b0 e1).mono hp hkc (λ_=>rfl);rcases e2 with rfl|rfl
  .exact hb
  .cases b0 with
   |box cs own fz=>
    obtain⟨arr,ty,a1,a2,a3⟩:=hb;refine⟨arr,ty,a1,by simpa using a2,λi p u hp' hu=>?_⟩;simp only[Is,Ii]at hp';obtain⟨z,hz,rfl⟩:=hp';unfold aC;split
    .exact .undef _
    grind
   |row=>exact hb
   |mp=>exact hb
 .intro q q' b1 b2 hne hq hq' hl hl'
  obtain⟨c1,e1,e2⟩:=get hq;obtain⟨c2,d1,d2⟩:=get hq';rw[lv e2]at hl;rw[lv d2]at hl';exact hm.sep q q' c1 c2 hne e1 d1 hl hl'
 .intro q b hq
  obtain⟨b0,e1,e2⟩:=get hq;rcases e2 with rfl|rfl
  .exact hm.own q _ e1
  .exact BC (hm.own q b0 e1)
end
theorem zQ(w:World)(t ty e ty9:TypeId)(i:TypeInfo)(ht:P.underlying t=some (.slice e))(hi:P.info? e=some i)(g n cap:Nat)(cur:Array Value)(hg:w.heap[g]?=some (.cells cur ty9 (0,0)))
 (a:Addr)(m c:Nat)(news:List Value)(hl:news.length=m*i.size)(hnews:∀j u,news[j]?=some u->w.cell? (a.add j)=some u)(h1:∀u∈news,u.oneCell'=true)(hroom:n+m<=cap)(hfit:n*i.size+news.length<=cur.size):
 (Builtin.append_ #[t,t] ty #[.slice (some ⟨g,0,none⟩) n cap,.slice (some a) m c]).run P w=.ok (.slice (some ⟨g,0,none⟩) (n+m) cap) (w.setRow g (cur.toList.take (n*i.size)++news++cur.toList.drop (n*i.size+news.length)).toArray):=by
 have q1:=run_firstCells_some (P:=P) w i.size m a m c news hl hnews;have q2:=run_storeCells_at P g (n*i.size) ty9 news 0 cur w hg (by simpa using hfit) h1;rw[U2]at q2;simp[Builtin.append_,run_underlying ht,sizeOf,typeInfo,hi,Builtin.lenOf,hroom,q1,Addr.add_lit,q2]
section
variable {C:Cx} {Q:Exit->St->Prop} {st:St}
def KU(C:Cx)(hn:List Nat)(ops:Array Oper)(Q:St->Prop)(t:TypeId)(s x:Operand)(d:Nat)(post:List Oper)(st:St):Prop:=
 ∃k n r A z et eb ti ys,st.ev s=.ext (.barr k n (n+r))∧st.h k=some (.box (A++List.replicate r (.pv (.val z))) true false)∧A.length=n∧(∀y∈A,bL [k] y=false)∧
  gt st.h (st.ev x)=some ys∧ys.all (qR 1)=true∧(∀y∈ys,y.cells=[y])∧0<ys.length∧ao C.P t=some ti∧ti.kind=.slice et 1 eb (some z)∧z.cells=#[z]∧(n+ys.length)*eb<=140737488355328∧n+ys.length<=9223372036854775807∧k<2000000∧d<C.N∧d<2000000∧
  ∀r',dX C.P hn C.N ops Q post (St.put ⟨λm=>aC [k] (st.t m),rekey st.h [k] k (.box (A++ys.map .pv++List.replicate r' (.pv (.val z))) true false)⟩ (some d) (.ext (.barr k (n+ys.length) (n+ys.length+r'))) [])
theorem WP.appB{t:TypeId}(hops:ops.toList=pre++o::post)(hop:o.op=.call {callee:=.builtin .append,args:=#[s,x],argTypes:=#[t,t]})(hd:o.dst=some d)(hg:o.guard=none)
 (hq:dX C.P hn C.N ops (KU C hn ops (Q .normal) t s x d post) pre st):WP C (.region id ops false) Q st:=by
 intro a w hs;refine wp_region_list ?_;rw[hops];refine ja (λst1 a1 w1 hs1 hq1=>?_) hs hq;obtain⟨k,n,r,A,z,et,eb,ti,ys,hse,hk,hA,hdead,hys,hok,hone0,hy0,hti,hkd,hzc,hbytes,h63,hk2,hdN,hd2,hrest⟩:=hq1;obtain⟨L,hm,hN,hdf,ht⟩:=hs1;refine wpList_step (λK hK=>?_);rw[lq hg,IR rfl];obtain⟨hund,jt,hj,hjs,rfl,hjz⟩:=ej hti hkd;have hsr:=dx ht s;rw[hse]at hsr
 have hsv:∀u,RepA w1 (af C L st1.h) L st1.h (.ext (.barr k n (n+r))) u->u=.slice (some ⟨(L k).b,0,none⟩) n (n+r):=by
  intro u hu
  cases hu with
  |ext hx=>cases hx with
   |barr _ _=>rfl
 have hsv:=hsv _ hsr;obtain⟨Ad,c,hxv,hA0,hAd⟩:=pT hm (λ_ _ h=>h) (dx ht x) hys hok;obtain⟨b,o9,rfl,news,n1,n2,n3,n4⟩:=hAd hy0;rw[SJ]at n1
 have hcell:∀j u,news[j]?=some u->w1.cell? ((⟨b,o9,none⟩:Addr).add j)=some u:=λj u hu=>by rw[fy];exact n2 j u hu
 obtain⟨arr,ty,ha,hl,hr⟩:=hm.bl k _ hk;have hsz9:arr.toList.length=arr.size:=On
 have hlen:arr.size=n+r:=by
  grind
 have hone:∀(i:Nat) y,ys[i]?=some y->y.cells=[y]:=λi y hy=>hone0 y (HW hy)
 have hnew:∀(i:Nat) y,ys[i]?=some y->∃v,news[i]?=some v∧Rep w1 (af C L st1.h) y v:=by
  intro i y hy;obtain⟨v,h1,h2⟩:=n4 i y 0 y hy (by rw[hone i y hy];rfl)
  grind
 have body:∀{w':World}{M':Nat->Nat->Prop}{L':Nat->Loc}{h':Hp}{rest:List Value}{r':Nat},Pres w1 (af C L st1.h) w' M'->(∀(i:Nat) y u,A[i]?=some y->RepA w1 (af C L st1.h) L st1.h y u->RepA w' M' L' h' y u)->
  rest=List.replicate r' z->aK w' M' L' h' (A++ys.map .pv++List.replicate r' (.pv (.val z))) (arr.toList.take n++news++rest):=by
  intro w' M' L' h' rest r' hp hAA hrest;subst hrest;refine aK.append (aK.append ⟨?_,?_⟩ ⟨by simp[n1],?_⟩) ⟨by simp,?_⟩
  .simp[hA];omega
  .intro i p u hp' hu
   have hi:i<n:=by rw[<-hA];exact(th.1 hp').1
   rw[KN,IR hi]at hu;exact hAA i p u hp' (hr i p u (by rw[Iz (by omega)];exact hp') hu)
  .intro i p u hp' hu
   simp only[Is,Ii]at hp';obtain⟨y,hy,rfl⟩:=hp';obtain⟨v,h1,h2⟩:=hnew i y hy;rw[h1]at hu;injection hu with hu;subst hu;exact .pv (h2.mono hp)
  .intro i p u hp' hu
   have hi:i<r':=by simpa using(th.1 hp').1
   rw[Lc,IR hi]at hp' hu;injection hp' with hp';injection hu with hu;subst hp';subst hu;exact .pv (.val _)
 have hex:∀{v:Value}{w':World},(Builtin.append_ #[t,t] o.type #[a1.eval s,a1.eval x]).run C.P w1=.ok v w'->(execOp a1.eval o).run C.P w1=.ok (.value v) w':=by
  intro v w' h9;obtain⟨dst,op,ty9,pos,after,guard⟩:=o;simp only at hop h9;subst hop;have hx9:execOp a1.eval ⟨dst,.call ⟨.builtin .append,#[s,x],#[t,t]⟩,ty9,pos,after,guard⟩=builtin .append #[t,t] ty9 ((#[s,x]:Array Operand).map λ|.const _=>true|_=>false) ((#[s,x]:Array Operand).map a1.eval):=rfl;rw[hx9];simp[builtin,h9]
 have key:∃r' L' w',(execOp a1.eval o).run C.P w1=.ok (.value (.slice (some ⟨(L' k).b,0,none⟩) (n+ys.length) (n+ys.length+r'))) w'∧
  MemL C L' (rekey st1.h [k] k (.box (A++ys.map .pv++List.replicate r' (.pv (.val z))) true false)) w'∧
  (∀{y:AV}{u:Value},RepA w1 (af C L st1.h) L st1.h y u->RepA w' (af C L' (rekey st1.h [k] k (.box (A++ys.map .pv++List.replicate r' (.pv (.val z))) true false))) L' (rekey st1.h [k] k (.box (A++ys.map .pv++List.replicate r' (.pv (.val z))) true false)) (aC [k] y) u):=by
  by_cases hroom:n+ys.length<=n+r
  .have hrun:=zQ (P:=C.P) w1 t o.type et ty jt hund hj (L k).b n (n+r) arr ha ⟨b,o9,none⟩ ys.length c news (by rw[n1,hjs,SJ]) hcell n3 hroom (by rw[hjs,hlen];omega)
   obtain⟨r',hr'⟩:∃r',n+r=n+ys.length+r':=⟨r-ys.length,by omega⟩;rw[hjs,SJ,n1]at hrun
   have hdrop:arr.toList.drop (n+ys.length)=List.replicate r' z:=by
    apply My;intro i;rw[NG,Lc];by_cases hi:i<r'
    .rw[IR hi]
     have hlt:n+ys.length+i<arr.toList.length:=by omega
     have hg:arr.toList[n+ys.length+i]?=some arr.toList[n+ys.length+i]:=an hlt
     have hc:(A++List.replicate r (AV.pv (PV.val z)))[n+ys.length+i]?=some (.pv (.val z)):=by
      rw[IN (by omega),Lc,IR (by omega)]
     have:=hr _ _ _ hc hg
     cases this with
     |pv h9=>rw[hg,aY h9]
    .rw[Ik hi]
     exact Jr (by omega)
   rw[hdrop]at hrun
   have hw:∀b',b'<w1.heap.size->((Blk.box (A++List.replicate r (.pv (.val z))) true false).live (L k)->b'≠(L k).b)->(w1.setRow (L k).b (arr.toList.take n++news++List.replicate r' z).toArray).heap[b']?=w1.heap[b']?:=
    λb' _ hb=>setRow_other w1 _ b' _ (hb trivial)
   have hpr:∀o v,(Blk.box (A++List.replicate r (.pv (.val z))) true false).live (L k)->(Blk.box (A++List.replicate r (.pv (.val z))) true false).frz o->w1.cell? ⟨(L k).b,o,none⟩=some v->
    (w1.setRow (L k).b (arr.toList.take n++news++List.replicate r' z).toArray).cell? ⟨(L k).b,o,none⟩=some v:=by
    intro q v _ hf _;simp[Blk.frz]at hf
   have hcp:eF (.box (A++List.replicate r (.pv (.val z))) true false) (L k) (.box (A++ys.map .pv++List.replicate r' (.pv (.val z))) true false) (L k):=rfl;have hpk:=hm.touch_pk (blk':=.box (A++ys.map .pv++List.replicate r' (.pv (.val z))) true false) hk hw hpr (λo hf=>hf) hcp Pp
   obtain⟨hm1,hp1,hc1⟩:=hm.touch (blk':=.box (A++ys.map .pv++List.replicate r' (.pv (.val z))) true false) hk hw (by simp) rfl rfl rfl hpr (λo hf=>hf) hcp Pp (by have h9:=hm.own k _ hk;exact h9) (by
    refine⟨_,ty,setRow_heap w1 _ arr _ ty _ ha,?_⟩;rw[List.toList_toArray]
    exact body hpk.1 (λi y u _ h9=>h9.mono hpk.1 hpk.2) rfl)
   obtain⟨hm2,hc2,hp2⟩:=hm1.loosen [k] (λq=>q !=k)
   have he:(λq=>if(q !=k)=true then(ai st1.h k (some (Blk.box (A++ys.map .pv++List.replicate r' (.pv (.val z))) true false)) q).map (bQ [k])else ai st1.h k (some (Blk.box (A++ys.map .pv++List.replicate r' (.pv (.val z))) true false)) q)=rekey st1.h [k] k (.box (A++ys.map .pv++List.replicate r' (.pv (.val z))) true false):=by
    funext q
    by_cases e:q=k
    .subst e;simp[rekey,ai]
    .simp[rekey,ai,e]
   rw[he]at hm2 hc2 hp2;refine⟨r',L,_,hex (by rw[hsv,hxv,hr'];rw[hr']at hrun;exact hrun),hm2,λ{y u} h9=>?_⟩;have h8:=(h9.mono hp1 hc1).mono hp2 hc2;unfold aC;split
   .exact .undef _
   .exact h8
  .have hrun:=run_append_grow (P:=C.P) w1 t o.type et jt z hund hj hjz ⟨(L k).b,0,none⟩ n (n+r) (arr.toList.take n) (by rw[hjs,SJ,MD,On];omega)
    (λq u hu=>by
      rw[fy,fl ha,NU];rw[KN]at hu;split at hu
      .simpa using hu
      .cases hu)
    ⟨b,o9,none⟩ ys.length c news (by rw[n1,hjs,SJ]) hcell (by omega) (by omega) (growslice_fits (by omega) hbytes)
   have hge:=grownCap_ge w1 (n+ys.length) (n+r) et;obtain⟨r',hr'⟩:∃r',grownCap w1 (n+ys.length) (n+r) et=n+ys.length+r':=⟨grownCap w1 (n+ys.length) (n+r) et-(n+ys.length),by omega⟩
   have hzz:(Builtin.zeroCells z.cells r').toList=List.replicate r' z:=by
    rw[hzc];simp[Builtin.zeroCells,Nat.mod_one,List.map_const']
   rw[hr',Nat.add_sub_cancel_left]at hrun;have hx':Ext (λ_=>False) w1 (w1.drew.alloc (.cells ((arr.toList.take n).toArray++news.toArray++Builtin.zeroCells z.cells r') et)):=(Ext.drew _ w1).trans (Ext.alloc _ _ _) (λ_ _ h=>h);obtain⟨hm0,hsub0⟩:=MemL.kill (st:=st1) [k] hm
   have hnk:(st1.kill [k]).h k=none:=by simp[St.kill]
   have hkc0:KC L (st1.kill [k]).h (ai L k ⟨w1.heap.size,0,false⟩) (ai (st1.kill [k]).h k (some (.box (A++ys.map .pv++List.replicate r' (.pv (.val z))) true false))):=KC.new hnk;have hpn:=(Pres.sub (w:=w1) hsub0).trans (oZ (q:=True) (M:=af C L (st1.kill [k]).h) hx' (λ_=>IX _))
   obtain⟨hm1,hp1,hc1⟩:=hm0.newKey (d:=k) hnk hk2 (l:=⟨w1.heap.size,0,false⟩) (blk:=.box (A++ys.map .pv++List.replicate r' (.pv (.val z))) true false) hx' (λ_=>IX _) (by intro cs' fz' e;injection e with _ e2;cases e2) (by
    refine⟨_,et,kf _ _,?_⟩;rw[VP,VP,hzz];refine body hpn (λi y u hy h9=>?_) rfl;have h8:=qY (ks:=[k]) hpn h9;rw[show aC [k] y=y by unfold aC;rw[Ik (by rw[hdead y (HW hy)];decide)]]at h8
    exact h8.mono (Pres.refl _ _) hkc0)
   have he:ai (st1.kill [k]).h k (some (Blk.box (A++ys.map .pv++List.replicate r' (.pv (.val z))) true false))=rekey st1.h [k] k (.box (A++ys.map .pv++List.replicate r' (.pv (.val z))) true false):=by
    funext q
    by_cases e:q=k
    .subst e;simp[rekey,ai]
    .simp[rekey,ai,e,St.kill]
   rw[he]at hm1 hp1 hc1;refine⟨r',ai L k ⟨w1.heap.size,0,false⟩,_,hex (by rw[hsv,hxv,aN];exact hrun),hm1,λ{y u} h9=>?_⟩;have h8:RepA w1 (af C L (st1.kill [k]).h) L (st1.kill [k]).h (aC [k] y) u:=qY (Pres.sub hsub0) h9;exact h8.mono hp1 hc1
 obtain⟨r',L',w',hrun,hm',ht'⟩:=key;unfold Oper.wp;rw[hrun];refine hK _ _ ?_;refine jp (λst' a' w' hs' hq'=>⟨st',hs',hq'⟩) (st:=St.put ⟨λm=>aC [k] (st1.t m),rekey st1.h [k] k (.box (A++ys.map .pv++List.replicate r' (.pv (.val z))) true false)⟩ (some d) (.ext (.barr k (n+ys.length) (n+ys.length+r'))) []) ?_ (hrest r');rw[hd];exact gP.put (st:=⟨λm=>aC [k] (st1.t m),rekey st1.h [k] k (.box (A++ys.map .pv++List.replicate r' (.pv (.val z))) true false)⟩) hm' hN hdf (λm=>ht' (ht m)) (d:=some d) (by simp[dD,hdN,hd2]) (W:=[]) (aP.refl hm') (.ext (.barr (Nat.le_add_right _ _) (F7 _ _ _ _)))
end
theorem WP.toSuf{c:Code}(s:Nat){k e sz fz:Nat}(hk:st.h k=some (.row e sz xs fz))(ht:st.t s=.arr k xs.length)
 (h:WP C c Q ⟨ai st.t s (.ext (.suf k 0 xs.length xs.length)),st.h⟩):WP C c Q st:=by
 intro a w hs;obtain⟨L,hm,hN,hdf,htm⟩:=hs;refine h a w ⟨L,hm,hN,hdf,λn=>?_⟩;show RepA w (af C L st.h) L st.h (ai st.t s (.ext (.suf k 0 xs.length xs.length)) n) _;unfold ai;split
 .rename_i e1
  subst e1;have hr:=htm n;rw[ht]at hr
  cases hr with
  |arr hk2 hn2 hu=>
   rw[hk]at hk2;injection hk2 with hk2;injection hk2 with a1 a2 a3 a4;subst a3
   have hsl:∃A m c,(L k).slice xs.length=.slice A m c:=by
    unfold Loc.slice;split
    all_goals exact⟨_,_,_,rfl⟩
   have hu9:=hu rfl;refine .ext (.suf (by rw[hu9];exact hsl) hk (by omega) (IX _) (λ_=>?_));rw[hu9];unfold Loc.slice;rcases nM hm hk with⟨g1,g2⟩|⟨g1,_⟩
   all_goals grind
 .exact htm n
section
variable {C:Cx} {Q:Exit->St->Prop} {st:St}
def MM(C:Cx)(hn:List Nat)(ops:Array Oper)(Q:St->Prop)(t:TypeId)(x y:Operand)(d:Nat)(post:List Oper)(st:St):Prop:=
 ∃k e sz n m o kk fz xs ti e' b z,st.ev x=.ext (.suf k o n (o+n))∧st.ev y=.pv (.val (.int kk (m:Nat)))∧st.h k=some (.row e sz xs fz)∧xs.length=o+n∧m<=n∧ao C.P t=some ti∧ti.kind=.slice e' sz b z∧d<C.N∧d<2000000∧
  dX C.P hn C.N ops Q post (st.put (some d) (.ext (.suf k (o+m) (n-m) (o+n))) [])
theorem WP.suf{hn:List Nat}{id:Nat}{ops:Array Oper}{pre post:List Oper}{o:Oper}{t:TypeId}{x y:Operand}{d:Nat}(hops:ops.toList=pre++o::post)(hop:o.op=.slice t x (some y) none none)(hd:o.dst=some d)(hg:o.guard=none)
 (hq:dX C.P hn C.N ops (MM C hn ops (Q .normal) t x y d post) pre st):WP C (.region id ops false) Q st:=by
 intro a w hs;refine wp_region_list ?_;rw[hops];refine ja (λst1 a1 w1 hs1 hq1=>?_) hs hq;obtain⟨k,e,sz,n,m,q,kk,fz,xs,ti,e',b',z',hxe,hye,hk,hlen,hmn,hti,hkd,hdN,hd2,hrest⟩:=hq1;obtain⟨L,hm,hN,hdf,ht⟩:=hs1;refine wpList_step (λK hK=>?_);rw[lq hg,IR rfl];have hxr:=dx ht x;rw[hxe]at hxr
 have hxv:∀u,RepA w1 (af C L st1.h) L st1.h (.ext (.suf k q n (q+n))) u->∃A c,u=.slice A n c∧(((L k).isNil=false∧A=some ⟨(L k).b,q*sz,none⟩∧c+q=(L k).cap)∨(n=0∧c=0∧(q=0->(L k).isNil=true∧A=none))):=by
  intro u hu
  cases hu with
  |ext hx=>cases hx with
   |suf _ hk2 hn2 ht2 hu=>
    rw[hk]at hk2;injection hk2 with hk2;injection hk2 with _ a2 a3 _;subst a2;subst a3;exact hu hlen
 obtain⟨A,c,hxs,hAc⟩:=hxv _ hxr;have hyr:=dx ht y;rw[hye]at hyr
 have hyv:a1.eval y=.int kk (m:Nat):=by
  cases hyr with
  |pv hr=>exact aY hr
 obtain⟨hund,jt,hj,hjs,_,_⟩:=ej hti hkd
 have hcap:n<=c:=by
  rcases hAc with⟨g1,g2,g3⟩|⟨g1,g2,_⟩
  .rcases nM hm hk with⟨h9,_⟩|⟨_,h10,_⟩
   all_goals grind
  .omega
 have hrun:∃A2 c2,(execOp a1.eval o).run C.P w1=.ok (.value (.slice A2 (n-m) c2)) w1∧(((L k).isNil=false∧A2=some ⟨(L k).b,(q+m)*sz,none⟩∧c2+(q+m)=(L k).cap)∨(n-m=0∧c2=0∧(q+m=0->(L k).isNil=true∧A2=none))):=by
  have hb1:(0:Int)<=(m:Int)∧(m:Int)<=(n:Int):=by omega
  have key:(Instr.sliceBounds true n c (some (.int kk (m:Nat))) none none).run C.P w1=.ok (m,n,c) w1:=by
   simp[Instr.sliceBounds,Instr.sliceBound,asIntOf,hb1,hcap];omega
  have h2:(Instr.sliceAt t (a1.eval x) (some (a1.eval y)) none none).run C.P w1=.ok (.slice (if c=m then A else A.map λp=>p.add (m*sz)) (n-m) (c-m)) w1:=by
   rw[hxs,hyv];simp only[Instr.sliceAt,Sem.run_bind,dR hund,Result.andThen_ok,Instr.slice,key,gO hj,Sem.run_pure,hjs]
  refine⟨if c=m then A else A.map λp=>p.add (m*sz),c-m,by unfold execOp;rw[hop];simp[h2],?_⟩
  grind [fy,Nat.add_mul]
 obtain⟨A2,c2,hrun,hA2⟩:=hrun;unfold Oper.wp;rw[hrun];refine hK _ _ ?_;refine jp (λst' a' w' hs' hq'=>⟨st',hs',hq'⟩) (st:=st1.put (some d) (.ext (.suf k (q+m) (n-m) (q+n))) []) ?_ hrest;rw[hd];refine gP.put hm hN hdf ht (d:=some d) (by simp[dD,hdN,hd2]) (W:=[]) (aP.refl hm) (.ext (.suf (xs:=xs) ⟨_,_,_,rfl⟩ hk (by omega) (by omega) (λ_=>⟨A2,c2,rfl,hA2⟩)))
theorem zR(w:World)(t ty e ty9:TypeId)(i:TypeInfo)(ht:P.underlying t=some (.slice e))(hi:P.info? e=some i)(g off n cap:Nat)(cur:Array Value)(hg:w.heap[g]?=some (.cells cur ty9 (0,0)))
 (a:Addr)(m c:Nat)(news:List Value)(hl:news.length=m*i.size)(hnews:∀j u,news[j]?=some u->w.cell? (a.add j)=some u)(h1:∀u∈news,u.oneCell'=true)(hroom:n+m<=cap)(hfit:off+n*i.size+news.length<=cur.size):
 (Builtin.append_ #[t,t] ty #[.slice (some ⟨g,off,none⟩) n cap,.slice (some a) m c]).run P w=.ok (.slice (some ⟨g,off,none⟩) (n+m) cap) (w.setRow g (cur.toList.take (off+n*i.size)++news++cur.toList.drop (off+n*i.size+news.length)).toArray):=by
 have q1:=run_firstCells_some (P:=P) w i.size m a m c news hl hnews;have q2:=run_storeCells_at P g (off+n*i.size) ty9 news 0 cur w hg (by simpa using hfit) h1;rw[U2]at q2;simp[Builtin.append_,run_underlying ht,sizeOf,typeInfo,hi,Builtin.lenOf,hroom,q1,Addr.add_lit,q2]
def KV(C:Cx)(hn:List Nat)(ops:Array Oper)(Q:St->Prop)(t:TypeId)(s x:Operand)(d:Nat)(post:List Oper)(st:St):Prop:=
 ∃k o n et sz xs ys ti eb z,st.ev s=.ext (.suf k o n (o+n))∧st.h k=some (.row et sz xs 0)∧xs.length=o+n∧gt st.h (st.ev x)=some ys∧ys.all (qR sz)=true∧0<ys.length∧ao C.P t=some ti∧ti.kind=.slice et sz eb (some z)∧0<sz∧z.cells.size=sz∧
  (n+ys.length)*eb<=140737488355328∧n+ys.length<=9223372036854775807∧k<2000000∧d<C.N∧d<2000000∧
  ∀o' xs',xs'.length=o'+(n+ys.length)->xs'.drop o'=xs.drop o++ys->dX C.P hn C.N ops Q post (St.put ⟨λm=>aC [k] (st.t m),rekey st.h [k] k (.row et sz xs' 0)⟩ (some d) (.ext (.suf k o' (n+ys.length) (o'+(n+ys.length)))) [])
theorem WP.appS{t:TypeId}(hops:ops.toList=pre++o::post)(hop:o.op=.call {callee:=.builtin .append,args:=#[s,x],argTypes:=#[t,t]})(hd:o.dst=some d)(hg:o.guard=none)
 (hq:dX C.P hn C.N ops (KV C hn ops (Q .normal) t s x d post) pre st):WP C (.region id ops false) Q st:=by
 intro a w hs;refine wp_region_list ?_;rw[hops];refine ja (λst1 a1 w1 hs1 hq1=>?_) hs hq;obtain⟨k,q,n,et,sz,xs,ys,ti,eb,z,hse,hk,hlen,hys,hok,hy0,hti,hkd,hsz,hzs,hbytes,h63,hk2,hdN,hd2,hrest⟩:=hq1;obtain⟨L,hm,hN,hdf,ht⟩:=hs1;refine wpList_step (λK hK=>?_);rw[lq hg,IR rfl];obtain⟨hund,jt,hj,rfl,rfl,hjz⟩:=ej hti hkd
 have hyl:∀y∈ys,y.cells.length=jt.size:=by
  simp_all
 have hsr:=dx ht s;rw[hse]at hsr
 have hsv:∀u,RepA w1 (af C L st1.h) L st1.h (.ext (.suf k q n (q+n))) u->∃A c,u=.slice A n c∧(((L k).isNil=false∧A=some ⟨(L k).b,q*jt.size,none⟩∧c+q=(L k).cap)∨(n=0∧c=0∧(q=0->(L k).isNil=true∧A=none))):=by
  intro u hu
  cases hu with
  |ext hx=>cases hx with
   |suf _ hk9 hn2 ht2 hu=>
    rw[hk]at hk9;injection hk9 with hk9;injection hk9 with _ a2 a3 _;subst a3;rw[a2];exact hu hlen
 obtain⟨B,cap,hsx,hBc⟩:=hsv _ hsr;obtain⟨Ad,c,hxv,hA0,hAd⟩:=pT hm (λ_ _ h=>h) (dx ht x) hys hok;obtain⟨b,o9,rfl,news,n1,n2,n3,n4⟩:=hAd hy0
 have hcell:∀j u,news[j]?=some u->w1.cell? ((⟨b,o9,none⟩:Addr).add j)=some u:=λj u hu=>by rw[fy];exact n2 j u hu
 have hex:∀{v:Value}{w':World},(Builtin.append_ #[t,t] o.type #[a1.eval s,a1.eval x]).run C.P w1=.ok v w'->(execOp a1.eval o).run C.P w1=.ok (.value v) w':=by
  intro v w' h9;obtain⟨dst,op,ty9,pos,after,guard⟩:=o;simp only at hop h9;subst hop;have hx9:execOp a1.eval ⟨dst,.call ⟨.builtin .append,#[s,x],#[t,t]⟩,ty9,pos,after,guard⟩=builtin .append #[t,t] ty9 ((#[s,x]:Array Operand).map λ|.const _=>true|_=>false) ((#[s,x]:Array Operand).map a1.eval):=rfl;rw[hx9];simp[builtin,h9]
 obtain⟨g1,g2,g3,g4,g5⟩:=hm.bl k _ hk
 have key:∃q' xs' L' w' v,xs'.length=q'+(n+ys.length)∧xs'.drop q'=xs.drop q++ys∧(execOp a1.eval o).run C.P w1=.ok (.value v) w'∧
  MemL C L' (rekey st1.h [k] k (.row et jt.size xs' 0)) w'∧RepA w' (af C L' (rekey st1.h [k] k (.row et jt.size xs' 0))) L' (rekey st1.h [k] k (.row et jt.size xs' 0)) (.ext (.suf k q' (n+ys.length) (q'+(n+ys.length)))) v∧
  (∀{y:AV}{u:Value},RepA w1 (af C L st1.h) L st1.h y u->RepA w' (af C L' (rekey st1.h [k] k (.row et jt.size xs' 0))) L' (rekey st1.h [k] k (.row et jt.size xs' 0)) (aC [k] y) u):=by
  have grow:∀(olds:List Value),olds.length=n*jt.size->(∀(i:Nat) y(j:Nat) p,(xs.drop q)[i]?=some y->y.cells[j]?=some p->∃u,olds[i*jt.size+j]?=some u∧Rep w1 (af C L st1.h) p u)->
   (Builtin.append_ #[t,t] o.type #[a1.eval s,a1.eval x]).run C.P w1=.ok (.slice (some ⟨w1.heap.size,0,none⟩) (n+ys.length) (grownCap w1 (n+ys.length) cap et)) (w1.drew.alloc (.cells (olds.toArray++news.toArray++Builtin.zeroCells z.cells (grownCap w1 (n+ys.length) cap et-(n+ys.length))) et))->
   ∃q' xs' L' w' v,xs'.length=q'+(n+ys.length)∧xs'.drop q'=xs.drop q++ys∧(execOp a1.eval o).run C.P w1=.ok (.value v) w'∧
    MemL C L' (rekey st1.h [k] k (.row et jt.size xs' 0)) w'∧RepA w' (af C L' (rekey st1.h [k] k (.row et jt.size xs' 0))) L' (rekey st1.h [k] k (.row et jt.size xs' 0)) (.ext (.suf k q' (n+ys.length) (q'+(n+ys.length)))) v∧
    (∀{y:AV}{u:Value},RepA w1 (af C L st1.h) L st1.h y u->RepA w' (af C L' (rekey st1.h [k] k (.row et jt.size xs' 0))) L' (rekey st1.h [k] k (.row et jt.size xs' 0)) (aC [k] y) u):=by
   intro olds holen hold hrun;have hge:=grownCap_ge w1 (n+ys.length) cap et;have hcap:=grownCap_le_maxLen w1 (n+ys.length) cap et (by simp only[maxLen];omega);have hx':Ext (λ_=>False) w1 (w1.drew.alloc (.cells (olds.toArray++news.toArray++Builtin.zeroCells z.cells (grownCap w1 (n+ys.length) cap et-(n+ys.length))) et)):=(Ext.drew _ w1).trans (Ext.alloc _ _ _) (λ_ _ h=>h);obtain⟨hm0,hsub0⟩:=MemL.kill (st:=st1) [k] hm
   have hnk:(st1.kill [k]).h k=none:=by simp[St.kill]
   have hpn:=(Pres.sub (w:=w1) hsub0).trans (oZ (q:=True) (M:=af C L (st1.kill [k]).h) hx' (λ_=>IX _))
   have hdl:(xs.drop q).length=n:=by rw[Q7];omega
   have hcells:=za (xs:=xs.drop q) (by rw[holen,hdl]) (λy hy=>g3 y (List.mem_of_mem_drop hy)) hyl hold n4
   obtain⟨hm1,hp1,hc1⟩:=hm0.newKey (d:=k) hnk hk2 (l:=⟨w1.heap.size,grownCap w1 (n+ys.length) cap et,false⟩) (blk:=.row et jt.size (xs.drop q++ys) 0) hx' (λ_=>IX _) (by intro cs' fz' e;cases e) (by
    refine⟨hsz,Ng _,?_,(λh=>by cases h),λ_=>⟨by simp only[Kk,hdl];exact hge,hcap,_,kf _ _,?_,?_⟩⟩
    .intro y hy
     rcases JS.1 hy with h'|h'
     .exact g3 y (List.mem_of_mem_drop h')
     .exact hyl y h'
    .simp only[Ti,Qg,holen,n1,size_zeroCells,hzs]
     rw[<-MB,<-MB];congr 1;omega
    .intro i y j p hxi hxj
     obtain⟨u,hu,hr,hlt⟩:=hcells i y j p hxi hxj;refine⟨u,?_,hr.mono (hpn.trans (Pres.sub (λb o h9=>Or.elim h9 Or.inl λh8=>Or.inr ⟨trivial,h8.2⟩)))⟩;have hul:=(th.1 hu).1
     have hul2:i*jt.size+j<(olds.toArray++news.toArray).size:=by simp only[Ti,Qg];simp only[Kk]at hul;exact hul
     rw[Mj hul2,<-M7,VP]
     exact hu)
   have he:ai (st1.kill [k]).h k (some (Blk.row et jt.size (xs.drop q++ys) 0))=rekey st1.h [k] k (.row et jt.size (xs.drop q++ys) 0):=by
    funext m
    by_cases e:m=k
    .subst e;simp[rekey,ai]
    .simp[rekey,ai,e,St.kill]
   rw[he]at hm1 hp1 hc1;refine⟨0,xs.drop q++ys,_,_,_,by simp only[Kk,hdl];omega,by simp,hex hrun,hm1,?_,λ{y u} h9=>?_⟩
   .refine .ext (.suf (xs:=xs.drop q++ys) (e:=et) (sz:=jt.size) (fz:=0) ⟨_,_,_,rfl⟩ (by simp[rekey]) (by omega) (by simp only[Kk,hdl];omega) (λ_=>⟨_,_,rfl,.inl ?_⟩))
    rw[aN];exact⟨rfl,by simp,by simp⟩
   .have h8:RepA w1 (af C L (st1.kill [k]).h) L (st1.kill [k]).h (aC [k] y) u:=qY (Pres.sub hsub0) h9
    exact h8.mono hp1 hc1
  rcases hBc with⟨e1,rfl,e3⟩|⟨rfl,rfl,_⟩
  .obtain⟨a1',a2,arr,a3,a4,a5⟩:=g5 e1
   have hsz9:arr.toList.length=arr.size:=On
   have hmulq:q*jt.size+n*jt.size=xs.length*jt.size:=by rw[hlen,MB]
   have hsize:xs.length*jt.size<=arr.size:=by rw[a4];exact Kz _ a1'
   by_cases hroom:n+ys.length<=cap
   .have hfit:q*jt.size+n*jt.size+news.length<=arr.size:=by
     rw[a4,n1,<-MB,<-MB];exact Kz _ (by omega)
    have hrun:=zR (P:=C.P) w1 t o.type et et jt hund hj (L k).b (q*jt.size) n cap arr a3 ⟨b,o9,none⟩ ys.length c news n1 hcell n3 hroom hfit;rw[hmulq]at hrun hfit
    have holen:(arr.toList.take (xs.length*jt.size)).length=xs.length*jt.size:=by rw[MD];omega
    have hold:∀(i:Nat) y(j:Nat) p,xs[i]?=some y->y.cells[j]?=some p->∃u,(arr.toList.take (xs.length*jt.size))[i*jt.size+j]?=some u∧Rep w1 (af C L st1.h) p u:=by
     intro i y j p hxi hxj;obtain⟨u,hu,hr⟩:=a5 i y j p hxi hxj;refine⟨u,?_,hr⟩
     have hjs:j<jt.size:=by rw[<-g3 y (HW hxi)];exact(th.1 hxj).1
     have hil:i<xs.length:=(th.1 hxi).1;have:(i+1)*jt.size<=xs.length*jt.size:=Kz _ (by omega);rw[MB]at this;rw[KN,IR (by omega)];simpa using hu
    have hcells:=za holen g3 hyl hold n4
    have hw:∀b',b'<w1.heap.size->((Blk.row et jt.size xs 0).live (L k)->b'≠(L k).b)->(w1.setRow (L k).b (arr.toList.take (xs.length*jt.size)++news++arr.toList.drop (xs.length*jt.size+news.length)).toArray).heap[b']?=w1.heap[b']?:=
     λb' _ hb=>setRow_other w1 _ b' _ (hb e1)
    have hpr:∀o v,(Blk.row et jt.size xs 0).live (L k)->(Blk.row et jt.size xs 0).frz o->w1.cell? ⟨(L k).b,o,none⟩=some v->
     (w1.setRow (L k).b (arr.toList.take (xs.length*jt.size)++news++arr.toList.drop (xs.length*jt.size+news.length)).toArray).cell? ⟨(L k).b,o,none⟩=some v:=by
     intro m v _ hf _;simp[Blk.frz]at hf
    have hcp:eF (.row et jt.size xs 0) (L k) (.row et jt.size (xs++ys) 0) (L k):=⟨rfl,rfl,by simp,λ_=>rfl⟩;have hpk:=hm.touch_pk (blk':=.row et jt.size (xs++ys) 0) hk hw hpr (λo hf=>hf) hcp Pp
    obtain⟨hm1,hp1,hc1⟩:=hm.touch (blk':=.row et jt.size (xs++ys) 0) hk hw (by simp) rfl rfl rfl hpr (λo hf=>hf) hcp Pp (by have h9:=hm.own k _ hk;exact h9) (by
     refine⟨g1,Ng _,?_,(λhn=>by rw[e1]at hn;cases hn),λ_=>⟨by simp;omega,a2,_,setRow_heap w1 _ arr _ _ _ a3,?_,?_⟩⟩
     .intro y hy
      rcases JS.1 hy with h'|h'
      .exact g3 y h'
      .exact hyl y h'
     .simp only[Qg,Kk,MD,Q7];omega
     .intro i y j p hxi hxj
      obtain⟨u,hu,hr,hlt⟩:=hcells i y j p hxi hxj;refine⟨u,?_,hr.mono hpk.1⟩;rw[Pm,Iz (th.1 hu).1]
      exact hu)
    obtain⟨hm2,hc2,hp2⟩:=hm1.loosen [k] (λm=>m !=k)
    have he:(λm=>if(m !=k)=true then(ai st1.h k (some (Blk.row et jt.size (xs++ys) 0)) m).map (bQ [k])else ai st1.h k (some (Blk.row et jt.size (xs++ys) 0)) m)=rekey st1.h [k] k (.row et jt.size (xs++ys) 0):=by
     funext m
     by_cases e:m=k
     .subst e;simp[rekey,ai]
     .simp[rekey,ai,e]
    rw[he]at hm2 hc2 hp2;refine⟨q,xs++ys,L,_,_,by simp;omega,by rw[VL (by omega)],hex (by rw[hsx,hxv];exact hrun),hm2,?_,λ{y u} h9=>?_⟩
    .exact .ext (.suf (xs:=xs++ys) (e:=et) (sz:=jt.size) (fz:=0) ⟨_,_,_,rfl⟩ (by simp[rekey]) (by omega) (by simp;omega) (λ_=>⟨_,_,rfl,.inl ⟨e1,rfl,e3⟩⟩))
    .have h8:=(h9.mono hp1 hc1).mono hp2 hc2
     unfold aC;split
     .exact .undef _
     .exact h8
   .refine grow ((arr.toList.drop (q*jt.size)).take (n*jt.size)) (by rw[MD,Q7];omega) ?_ ?_
    .intro i y j p hxi hxj
     rw[NG]at hxi;obtain⟨u,hu,hr⟩:=a5 (q+i) y j p hxi hxj;refine⟨u,?_,hr⟩
     have hjs:j<jt.size:=by rw[<-g3 y (HW hxi)];exact(th.1 hxj).1
     have hil:q+i<xs.length:=(th.1 hxi).1;have:(i+1)*jt.size<=n*jt.size:=Kz _ (by omega);rw[MB]at this;rw[KN,IR (by omega),NG,<-QN,<-MB];simpa using hu
    .rw[hsx,hxv]
     exact run_append_grow (P:=C.P) w1 t o.type et jt z hund hj hjz ⟨(L k).b,q*jt.size,none⟩ n cap _ (by rw[MD,Q7];omega)
      (λm u hu=>by
        rw[fy,fl a3];rw[KN]at hu;split at hu
        .rw[NG]at hu;simpa using hu
        .cases hu)
      ⟨b,o9,none⟩ ys.length c news n1 hcell (by omega) (by omega) (growslice_fits (by omega) hbytes)
  .have hd0:xs.drop q=[]:=LC (by rw[Q7];omega)
   refine grow [] (by simp) (λi y j p hxi _=>by rw[hd0]at hxi;simp at hxi) ?_;rw[hsx,hxv]
   cases B with
   |none=>
    have:=run_append_nil (P:=C.P) w1 t o.type et jt z hund hj hjz ⟨b,o9,none⟩ ys.length c news n1 hcell (by omega) (by omega) (by rw[NU]at hbytes;omega);rw[NU];simpa using this
   |some B=>
    exact run_append_grow (P:=C.P) w1 t o.type et jt z hund hj hjz B 0 0 [] (by simp) (λm u hu=>by simp at hu) ⟨b,o9,none⟩ ys.length c news n1 hcell (by omega) (by omega) (growslice_fits (by omega) hbytes)
 obtain⟨q',xs',L',w',v,hx1,hx2,hrun,hm',hv,ht'⟩:=key;unfold Oper.wp;rw[hrun];refine hK _ _ ?_;refine jp (λst' a' w' hs' hq'=>⟨st',hs',hq'⟩) (st:=St.put ⟨λm=>aC [k] (st1.t m),rekey st1.h [k] k (.row et jt.size xs' 0)⟩ (some d) (.ext (.suf k q' (n+ys.length) (q'+(n+ys.length)))) []) ?_ (hrest q' xs' hx1 hx2);rw[hd];exact gP.put (st:=⟨λm=>aC [k] (st1.t m),rekey st1.h [k] k (.row et jt.size xs' 0)⟩) hm' hN hdf (λm=>ht' (ht m)) (d:=some d) (by simp[dD,hdN,hd2]) (W:=[]) (aP.refl hm') hv
end
theorem Hm{f:FuncId}{c:Code}(hf:P.funcs[f]?=some fn){args:List AV}{h0:Hp}(hlook:LookH h0)(h:∀C:Cx,C.P=P->C.N=fn.ntmps->WP C c (F5 P fn.results.toList h0 Post) (tV args h0))
 (hb:fn.body=some c:=by rfl)(hcall:dw P f=true:=by kernel_rfl)(hlen:args.length<=fn.ntmps:=by exact of_decide_eq_true (by kernel_rfl)):n9 P f args h0 Post:=LG hf hb hcall hlen hlook h
theorem xx{rs:List ResultVar}{h0 H:Hp}{r:AV}(h1:mS P st rs=some r)(ho:rS r=true)(hH:∀k,inK k=true->st.h k=H k)(hL:LookH H)(hp:Post r H)
 (hpin:∀k cs f,h0 k=some (.box cs false f)->∃cs',H k=some (.box cs' false false)):yX P rs h0 Post st:=by
 have e:qF st.h=H:=by
  funext k
  unfold qF;split
  .rename_i hi;exact hH k hi
  .rename_i hi
   cases hk:H k with
   |none=>rfl
   |some b=>exact absurd (hL.keys k b hk) hi
 refine⟨r,h1,ho,by rw[e];exact hL,by rw[e];exact hp,λk cs f hk=>?_⟩;obtain⟨cs',h2⟩:=hpin k cs f hk;exact⟨cs',by rw[hH k (hL.keys k _ h2)];exact h2⟩
def mG:Hp:=λ_=>none
theorem CM:LookH mG:=⟨λk b h=>(by cases h),λk b o h=>(by cases h),λk b h=>(by cases h),λk cs o f h=>(by cases h)⟩
theorem WP.takeAt(n:Nat){xs:List Operand}{ats:Array TypeId}(ho:ops.toList[n]?=some o)(hop:o.op=.call {callee:=.value f,args:=xs.toArray,argTypes:=ats})(hg:o.guard=none)
 (hq:dX C.P hn C.N ops (uF C (dX C.P hn C.N ops (Q .normal) (ops.toList.drop (n+1))) f xs o.dst) (ops.toList.take n) st):WP C (.region id ops false) Q st:=by
 refine WP.take (pre:=ops.toList.take n) (post:=ops.toList.drop (n+1)) (o:=o) ?_ hop hg hq;have hlt:=(th.1 ho).1;have he:=(th.1 ho).2;rw[<-he,PZ,NI]
theorem WP.appBAt(n:Nat){t:TypeId}(ho:ops.toList[n]?=some o)(hop:o.op=.call {callee:=.builtin .append,args:=#[s,x],argTypes:=#[t,t]})(hd:o.dst=some d)(hg:o.guard=none)
 (hq:dX C.P hn C.N ops (KU C hn ops (Q .normal) t s x d (ops.toList.drop (n+1))) (ops.toList.take n) st):WP C (.region id ops false) Q st:=by
 refine WP.appB (pre:=ops.toList.take n) (post:=ops.toList.drop (n+1)) (o:=o) ?_ hop hd hg hq;have hlt:=(th.1 ho).1;have he:=(th.1 ho).2;rw[<-he,PZ,NI]
theorem WP.sufAt(n:Nat){t:TypeId}{y:Operand}(ho:ops.toList[n]?=some o)(hop:o.op=.slice t x (some y) none none)(hd:o.dst=some d)(hg:o.guard=none)
 (hq:dX C.P hn C.N ops (MM C hn ops (Q .normal) t x y d (ops.toList.drop (n+1))) (ops.toList.take n) st):WP C (.region id ops false) Q st:=by
 refine WP.suf (pre:=ops.toList.take n) (post:=ops.toList.drop (n+1)) (o:=o) ?_ hop hd hg hq;have hlt:=(th.1 ho).1;have he:=(th.1 ho).2;rw[<-he,PZ,NI]
theorem WP.appSAt(n:Nat){t:TypeId}(ho:ops.toList[n]?=some o)(hop:o.op=.call {callee:=.builtin .append,args:=#[s,x],argTypes:=#[t,t]})(hd:o.dst=some d)(hg:o.guard=none)
 (hq:dX C.P hn C.N ops (KV C hn ops (Q .normal) t s x d (ops.toList.drop (n+1))) (ops.toList.take n) st):WP C (.region id ops false) Q st:=by
 refine WP.appS (pre:=ops.toList.take n) (post:=ops.toList.drop (n+1)) (o:=o) ?_ hop hd hg hq;have hlt:=(th.1 ho).1;have he:=(th.1 ho).2;rw[<-he,PZ,NI]
def CN(x:Nat):Nat:=match Nat.ble 300 x with
 |true=>300
 |false=>x
theorem wq(x:Nat):∀l:List Nat,l.contains x=true->(l.map CN).contains (CN x)=true
 |[],h=>h
 |a::l,h=>by
  rw[List.contains_cons,Nv,Nj]at h;rw[Ot,List.contains_cons,Nv,Nj];rcases h with h|h
  .exact .inl (by rw[h])
  .exact .inr (wq x l h)
theorem CO{a b:List Nat}(h:Df (a.map CN) (b.map CN)=true):Df a b=true:=by
 unfold Df at *;rw[Ij]at *;intro x hx;have:=h (CN x) (List.mem_map_of_mem hx);rw[Mp]at *;rw[<-Bool.not_eq_true];intro h9;rw[wq x b h9]at this;cases this
def I9(acc:oq):oq:=acc.map λx=>(x.1.map CN,x.2.map CN)
theorem Hn{acc:oq}(h:jV ts (I9 acc)=true):jV ts acc=true:=by
 unfold jV I9 at *;rw[Lf]at h;rw[Ij]at *;intro j hj;have h1:=h j hj;rw[Ij]at *;intro i hi;have h2:=h1 i hi;rw[Is,Is]at h2
 cases ha:acc[i]? with
 |none=>rfl
 |some a=>cases hb:acc[j]? with
  |none=>rfl
  |some b=>
   rw[ha,hb]at h2;simp only[MG,Nv,An]at h2|-;exact h2.imp (λh=>⟨CO h.1,CO h.2⟩) id
theorem Yc{acc:oq}{b:Prop}(h:b)(k:jV ts (I9 acc)=true:=by kernel_rfl):jV ts acc=true∧b:=⟨Hn k,h⟩
theorem qZ{cs:List AV}{x:AV}(h:i<cs.length):cs.take i++x::cs.drop (i+1)=cs.set i x:=by
 rw[List.set_eq_take_append_cons_drop,IR h]
theorem HK{S G H:Prop}(s:S)(x:H)(h:S->Hid H->G:=by
 intro hS hG0
 with_reducible repeat' (first|refine Sp.h ?_|((first|refine Wd ?_|refine Ss.h ?_|refine Sc.h (by first|assumption|apply_assumption) ?_|(refine Sb.h ?_ ?_ ?_<;>(try intro hgd)<;>try exact Xy))<;>simp -implicitDefEqProofs (maxSteps:=2000000) [hP,hN,hS]<;>try refine Yc ?_)|refine X2 ?_ ?_|(refine Xd ?_ ?_<;>intro hcd<;>try exact Xx))
 exact hG0.h):G:=h s ⟨x⟩
theorem qk{m:Nat}(_:m=n)(a:Array Value):∀k,k<n->k<a.size+(n-a.size):=by intro k h;omega
theorem Lb(h:fJ P g:=by
 refine⟨by kernel_rfl,λargs w=>?_⟩;refine callsD_of_wpS hf rfl λc₀ cs hu=>?_;apply wpS_seq;apply wpS_region;have hk:=qk nt args;have h0:=hk 0 (by decide);have h1:=hk 1 (by decide);have h2:=hk 2 (by decide);simp[wpOpsS,go_sem,recoverD,hu,nt,Exit.thenS,h0,h1,h2];refine wpS_cond (t:=false) (by simp[Act.eval,h0,h1,h2]) ?_;simp only[IA,JE];refine wpS_of_wp (wp_skip ?_);cases c₀
 simp_all[bodyPostS,results,rs]):fJ P g:=h
theorem BN(h:fJ P g:=by
 refine⟨by kernel_rfl,λargs w=>?_⟩;refine callsD_of_wpS hf rfl λc₀ cs hu=>?_;apply wpS_seq;apply wpS_region;have hk:=qk nt args;have h0:=hk 0 (by decide);have h1:=hk 1 (by decide);have h2:=hk 2 (by decide);have h3:=hk 3 (by decide);simp[wpOpsS,go_sem,recoverD,hu,nt,Exit.thenS,h0,h1,h2,h3];refine wpS_cond (t:=false) (by simp[Act.eval,h0,h1,h2,h3]) ?_;simp only[IA,JE];refine wpS_of_wp (wp_skip ?_);cases c₀
 simp_all[bodyPostS,results,rs]):fJ P g:=h
open Go.Proofs
structure Verd where
 kind:Int
 nor:List (Int×Int×Int)
 pair:Int
 left:List Int
 right:List Int
structure Cel where
 joint:Int
 low:Int
 high:Int
 v:Verd
structure Tr where
 root:List (Int×Int)
 cells:List Cel
variable {c:Cel}{t:Tr}
abbrev au(v:Int×Int×Int):PV:=.val (.agg #[.int .i64 v.1,.int .i64 v.2.1,.int .i64 v.2.2])
abbrev aU(l:List (Int×Int×Int)):PV:=.sl (l.map au)
abbrev Hc(p:Int)(l r:List Int):PV:=.agg [Z p,zs l,zs r]
abbrev nu(v:Verd):PV:=.agg [Z v.kind,aU v.nor,Z v.pair,zs v.left,zs v.right]
abbrev bD(c:Cel):PV:=.agg [Z c.joint,Z c.low,Z c.high,Z c.v.kind,aU c.v.nor,Z c.v.pair,zs c.v.left,zs c.v.right]
abbrev fe(t:Tr):PV:=.agg [iv t.root,.sl (t.cells.map bD)]
def dZ(c:Cel):Bool:=c.joint==-1&&c.low==-1&&c.high==-1
def kI(p:Int)(l r:List Int):Bool:=p==0&&(l.length:Int)==0&&(r.length:Int)==0
def ff(v:Verd):Bool:=if v.kind=0∨v.kind=1 then kI v.pair v.left v.right else if v.kind=2 then((v.nor.length:Int)==0)else false
def oS(v:Verd):Bool:=v.kind==0&&((v.nor.length:Int)==0)&&kI v.pair v.left v.right
theorem Ex(l:List α):((l.length:Int)==0)=decide (l.length=0):=by
 by_cases h:l.length=0
 .simp[h]
 .have:((l.length:Int)==0)=false:=by simp;intro h';exact h (by rw[h'];rfl)
  rw[this];simp[h]
theorem KH(c:Cel):ab Tryz.prog 132 [.pv (bD c)] [] [] (.pv (B (dZ c))):=by
 refine Dp Tryz.func132 ?_;intro C hP hN;simp only[Tryz.f132]at hN|-
 with_reducible repeat' (first|refine Sp.h ?_|((first|refine Ss.h ?_|(refine Sb.h ?_ ?_ ?_<;>(try intro hgd)<;>try exact Xy))<;>simp -implicitDefEqProofs [hP,hN])|refine X2 ?_ ?_|(refine Xd ?_ ?_<;>intro hcd<;>try exact Xx))
 all_goals (simp_all[dZ])
theorem LE(c:Cel):ab Tryz.prog 40 [.pv (bD c)] [] [] (.pv (B (dZ c))):=by
 refine Dp Tryz.func40 ?_;intro C hP hN;simp only[Tryz.f40]at hN|-
 with_reducible repeat' (first|refine Sp.h ?_|((first|refine Ss.h ?_|(refine Sb.h ?_ ?_ ?_<;>(try intro hgd)<;>try exact Xy))<;>simp -implicitDefEqProofs [hP,hN])|refine X2 ?_ ?_|(refine Xd ?_ ?_<;>intro hcd<;>try exact Xx))
 all_goals (simp_all[dZ])
theorem OP(p:Int)(l r:List Int):ab Tryz.prog 178 [.pv (Hc p l r)] [] [] (.pv (B (kI p l r))):=by
 refine Dp Tryz.func178 ?_;intro C hP hN;simp only[Tryz.f178]at hN|-
 with_reducible repeat' (first|refine Sp.h ?_|((first|refine Ss.h ?_|(refine Sb.h ?_ ?_ ?_<;>(try intro hgd)<;>try exact Xy))<;>simp -implicitDefEqProofs [hP,hN])|refine X2 ?_ ?_|(refine Xd ?_ ?_<;>intro hcd<;>try exact Xx))
 all_goals (simp_all[kI])
theorem Qk(p:Int)(l r:List Int):ab Tryz.prog 45 [.pv (Hc p l r)] [] [] (.pv (B (kI p l r))):=by
 refine Dp Tryz.func45 ?_;intro C hP hN;simp only[Tryz.f45]at hN|-
 with_reducible repeat' (first|refine Sp.h ?_|((first|refine Ss.h ?_|(refine Sb.h ?_ ?_ ?_<;>(try intro hgd)<;>try exact Xy))<;>simp -implicitDefEqProofs [hP,hN])|refine X2 ?_ ?_|(refine Xd ?_ ?_<;>intro hcd<;>try exact Xx))
 all_goals (simp_all[kI])
theorem OQ(v:Verd):ab Tryz.prog 133 [.pv (nu v)] [] [] (.pv (B (ff v))):=by
 have ce:=OP v.pair v.left v.right;have h0:=Ex v.nor;generalize hE:kI v.pair v.left v.right=E at ce;refine Dp Tryz.func133 ?_;intro C hP hN;simp only[Tryz.f133]at hN|-
 with_reducible repeat' (first|refine Sp.h ?_|((first|refine Ss.h ?_|refine Sc.h (ce) ?_|(refine Sb.h ?_ ?_ ?_<;>(try intro hgd)<;>try exact Xy))<;>simp -implicitDefEqProofs [hP,hN])|refine X2 ?_ ?_|(refine Xd ?_ ?_<;>intro hcd<;>try exact Xx))
 all_goals (simp_all[ff])
theorem Ql(v:Verd):ab Tryz.prog 41 [.pv (nu v)] [] [] (.pv (B (ff v))):=by
 have ce:=Qk v.pair v.left v.right;have h0:=Ex v.nor;generalize hE:kI v.pair v.left v.right=E at ce;refine Dp Tryz.func41 ?_;intro C hP hN;simp only[Tryz.f41]at hN|-
 with_reducible repeat' (first|refine Sp.h ?_|((first|refine Ss.h ?_|refine Sc.h (ce) ?_|(refine Sb.h ?_ ?_ ?_<;>(try intro hgd)<;>try exact Xy))<;>simp -implicitDefEqProofs [hP,hN])|refine X2 ?_ ?_|(refine Xd ?_ ?_<;>intro hcd<;>try exact Xx))
 all_goals (simp_all[ff])
theorem Tf(v:Verd):ab Tryz.prog 175 [.pv (nu v)] [] [] (.pv (B (oS v))):=by
 have ce:=OP v.pair v.left v.right;generalize hE:kI v.pair v.left v.right=E at ce;refine Dp Tryz.func175 ?_;intro C hP hN;simp only[Tryz.f175]at hN|-
 with_reducible repeat' (first|refine Sp.h ?_|((first|refine Ss.h ?_|refine Sc.h (ce) ?_|(refine Sb.h ?_ ?_ ?_<;>(try intro hgd)<;>try exact Xy))<;>simp -implicitDefEqProofs [hP,hN])|refine X2 ?_ ?_|(refine Xd ?_ ?_<;>intro hcd<;>try exact Xx))
 all_goals (simp_all[oS])
theorem U0(v:Verd):ab Tryz.prog 42 [.pv (nu v)] [] [] (.pv (B (oS v))):=by
 have ce:=Qk v.pair v.left v.right;generalize hE:kI v.pair v.left v.right=E at ce;refine Dp Tryz.func42 ?_;intro C hP hN;simp only[Tryz.f42]at hN|-
 with_reducible repeat' (first|refine Sp.h ?_|((first|refine Ss.h ?_|refine Sc.h (ce) ?_|(refine Sb.h ?_ ?_ ?_<;>(try intro hgd)<;>try exact Xy))<;>simp -implicitDefEqProofs [hP,hN])|refine X2 ?_ ?_|(refine Xd ?_ ?_<;>intro hcd<;>try exact Xx))
 all_goals (simp_all[oS])
def dG(r:List (Int×Int)):Bool:=decide (1<=r.length)&&decide (r.length<=10)&&bo vI r
theorem Tg(r:List (Int×Int)):ab Tryz.prog 174 [.pv (iv r)] [] [] (.pv (B (dG r))):=by
 by_cases h1:r.length<1
 .have hr:dG r=false:=by simp[dG];omega
  have h1':(r.length:Int)<1:=by omega
  rw[hr];refine Dp Tryz.func174 ?_;intro C hP hN;simp only[Tryz.f174]at hN|-;exact GS (gA h1' h1)
 have h1':¬(r.length:Int)<1:=by omega
 by_cases h2:10<r.length
 .have hr:dG r=false:=by simp[dG];omega
  have h2':(10:Int)<r.length:=by omega
  rw[hr];refine Dp Tryz.func174 ?_;intro C hP hN;simp only[Tryz.f174]at hN|-;exact GS (gA h1' (gA h1 (gA h2 h2')))
 have h2':¬(10:Int)<r.length:=by omega
 have hr:dG r=bo vI r:=by
  unfold dG
  have a1:decide (1<=r.length)=true:=by simp;omega
  have a2:decide (r.length<=10)=true:=by simp;omega
  rw[a1,a2];simp
 rw[hr];refine Dp Tryz.func174 ?_;intro C hP hN;simp only[Tryz.f174]at hN|-;refine GT (gA h1' (gA h1 (gA h2 h2'))) ?_;refine WP.loopN [4] r.length (λi st=>st.t 13=.pv (iv r)∧st.t 14=.pv (Z r.length)∧st.t 15=.pv (Z i)∧st.h 4=none∧bo vI (r.take i)=true) (by simp[bo]) ?_;rintro i st hi ⟨g13,g14,g15,hb,hq⟩;by_cases hlt:i<r.length
 .have hw:=al hlt (by omega)
  have hF:vI r[i]=false->bo vI r=false:=wP hlt;have hS:vI r[i]=true->bo vI (r.take (i+1))=true:=u0 hlt hq
  with_reducible repeat' (first|refine Sp.h ?_|((first|refine Ss.h ?_|refine Sc.h (kg _ _) ?_|(refine Sb.h ?_ ?_ ?_<;>(try intro hgd)<;>try exact Xy))<;>simp -implicitDefEqProofs [hP,hN,g13,g14,g15,hb,hlt,hw])|refine X2 ?_ ?_|(refine Xd ?_ ?_<;>intro hcd<;>try exact Xx))
  all_goals first|(rw[hF (by simpa using hcd)];done)|(simp[hF (by simpa using hcd)];done)|(simpa using hS (by simpa using hcd))
 .skip
  refine GT (gA g13 (gA g14 (gA g15 (gA hb hlt)))) ?_
  all_goals simp[u7 hlt hq]
theorem fB{p:α->Bool}{xs:List α}:bo p xs=true↔∀x∈xs,p x=true:=Ij
abbrev Bx:=List (Int×Int)
variable {b:Bx}
abbrev OL:=List (Option Bx)
variable {L L':OL}
def sK:Option Bx->PV
 |none=>.val (.slice none 0 0)
 |some b=>iv b
def lp(n i:Nat)(c:Cel):Bool:=decide ((i:Int)<c.low)&&decide (c.low<n)&&decide ((i:Int)<c.high)&&decide (c.high<n)&&decide (c.low≠c.high)&&oS c.v
def gE(n i:Nat)(c:Cel)(L:OL):Option OL:=
 match L[i]? with
 |some (some b)=>
  if dZ c then(if ff c.v then some L else none)
  else if lp n i c then
   if bE b c.joint then
    match L[c.low.toNat]?,L[c.high.toNat]? with
    |some none,some none=>some ((L.set c.low.toNat (some (bg b c.joint))).set c.high.toNat (some (bh b c.joint)))
    |_,_=>none
   else none
  else none
 |_=>none
def mN(n:Nat):List Cel->Nat->OL->Option OL
 |[],_,L=>some L
 |c::cs,i,L=>match gE n i c L with
  |some L'=>mN n cs (i+1) L'
  |none=>none
def kc(t:Tr):OL:=some t.root::List.replicate (t.cells.length-1) none
def ip(t:Tr):Bool:=decide (1<=t.cells.length)&&decide (t.cells.length<=2048)&&dG t.root
def dH(t:Tr):Option OL:=if ip t then mN t.cells.length t.cells 0 (kc t)else none
def aX(t:Tr):Bool:=(dH t).isSome
def aj(t:Tr):List Bx:=match dH t with
 |some L=>L.map λx=>x.getD []
 |none=>[]
theorem ji(h:gE n i c L=some L'):∃b,L[i]?=some (some b)∧
 ((dZ c=true∧ff c.v=true∧L'=L)∨
  (dZ c=false∧lp n i c=true∧bE b c.joint=true∧L[c.low.toNat]?=some none∧L[c.high.toNat]?=some none∧
    L'=(L.set c.low.toNat (some (bg b c.joint))).set c.high.toNat (some (bh b c.joint)))):=by
 unfold gE at h;split at h
 .rename_i b hb
  refine⟨b,hb,?_⟩;split at h
  .rename_i hl
   split at h
   .rename_i hf
    injection h with h;exact .inl ⟨hl,hf,h.symm⟩
   .cases h
  .rename_i hl
   split at h
   .rename_i hi
    split at h
    .rename_i hh
     split at h
     .rename_i h1 h2
      injection h with h;exact .inr ⟨by simpa using hl,hi,hh,h1,h2,h.symm⟩
     .cases h
    .cases h
   .cases h
 .cases h
theorem jk:lp n i c=true↔(i:Int)<c.low∧c.low<n∧(i:Int)<c.high∧c.high<n∧c.low≠c.high∧oS c.v=true:=by
 simp[lp,and_assoc]
theorem Ey{n:Nat}{P:Nat->OL->Prop}:∀(cs:List Cel)(i:Nat)(L L':OL),mN n cs i L=some L'->P i L->
 (∀k c L L',cs[k]?=some c->P (i+k) L->gE n (i+k) c L=some L'->P (i+k+1) L')->P (i+cs.length) L'
 |[],i,L,L',h,h0,_=>by simp[mN]at h;subst h;exact h0
 |c::cs,i,L,L',h,h0,hs=>by
  simp only[mN]at h;split at h
  .rename_i L1 h1
   have h2:=hs 0 c L L1 rfl h0 h1
   have:=Ey cs (i+1) L1 L' h h2 (λk d M M' hk hp hm=>by
    have e:i+1+k=i+(k+1):=by omega
    rw[e]at hp hm|-
    exact hs (k+1) d M M' (by simpa using hk) hp hm)
   have e:i+(c::cs).length=i+1+cs.length:=by simp;omega
   rw[e];exact this
  .cases h
theorem kQ{P:Nat->OL->Prop}(h:dH t=some L)(h0:P 0 (kc t))
 (hs:∀i c L L',t.cells[i]?=some c->P i L->gE t.cells.length i c L=some L'->P (i+1) L'):P t.cells.length L:=by
 unfold dH at h;split at h
 .have:=Ey t.cells 0 _ _ h h0 (λk c M M' hk hp hm=>by
   rw[NU]at hp hm|-;exact hs k c M M' hk hp hm)
  simpa using this
 .cases h
theorem lA(h:dH t=some L):ip t=true:=by
 unfold dH at h;split at h
 .assumption
 .cases h
theorem ey:ip t=true↔1<=t.cells.length∧t.cells.length<=2048∧1<=t.root.length∧t.root.length<=10∧bo vI t.root=true:=by
 simp[ip,dG,and_assoc]
structure BOk(t:Tr)(i:Nat)(L:OL):Prop where
 len:L.length=t.cells.length
 pre:∀j,j<i->∃b,L[j]?=some (some b)
 ok:∀(j:Nat) b,L[j]?=some (some b)->b.length=t.root.length∧bo vI b=true
theorem xn{j:Int}(h:bE b j=true):(bg b j).length=b.length∧(bh b j).length=b.length:=by
 unfold bg bh;rw[h];simp only[J4];unfold bE at h;split<;>simp_all
theorem fq{lo hi:Int}:ay lo hi=true↔-2147483648<=lo∧lo<=hi∧hi<=2147483648:=by
 simp[ay,and_assoc]
theorem F1{x:Int×Int}(h:ay x.1 x.2=true):jL x=(x.1+x.2)/2:=by
 unfold jL;have h':=fq.1 h;rw[h,IR rfl,show wr (x.1+x.2)=x.1+x.2 from aa (by omega) (by omega),Int.fdiv_eq_ediv];simp
theorem mc{j:Int}:bE b j=true↔0<=j∧bo vI b=true∧∃x,b[j.toNat]?=some x∧2<=x.2-x.1:=by
 unfold bE;constructor
 .intro h
  simp only[An,HX]at h;obtain⟨⟨h1,h2⟩,h3⟩:=h;refine⟨h1,h2,?_⟩;split at h3
  .rename_i x hx
   refine⟨x,hx,?_⟩;have hv:=fq.1 (fB.1 h2 _ (HW hx));rw[HX,dO,IR (fB.1 h2 _ (HW hx)),show wr (x.2-x.1)=x.2-x.1 from aa (by omega) (by omega)]at h3;exact h3
  .cases h3
 .rintro⟨h1,h2,x,hx,h3⟩
  have hv:=fq.1 (fB.1 h2 _ (HW hx))
  have hw:dO x=x.2-x.1:=by
   rw[dO,IR (fB.1 h2 _ (HW hx))];exact aa (by omega) (by omega)
  simp[h1,h2,hx,hw,h3]
theorem zF{j:Int}(h:bE b j=true):∃x,b[j.toNat]?=some x∧ay x.1 x.2=true∧2<=x.2-x.1∧bg b j=b.set j.toNat (x.1,(x.1+x.2)/2)∧bh b j=b.set j.toNat ((x.1+x.2)/2,x.2):=by
 obtain⟨_,h2,x,hx,h3⟩:=mc.1 h;have hv:ay x.1 x.2=true:=fB.1 h2 _ (HW hx);refine⟨x,hx,hv,h3,?_,?_⟩
 .simp[bg,h,hx,F1 hv]
 .simp[bh,h,hx,F1 hv]
theorem tT{j:Int}(h:bE b j=true):bo vI (bg b j)=true∧bo vI (bh b j)=true:=by
 obtain⟨x,hx,hv,h3,ea,ez⟩:=zF h;have h2:=(mc.1 h).2.1;have hv':=fq.1 hv;rw[ea,ez];constructor<;>refine fB.2 λy hy=>?_
 .rcases ML hy with h|rfl
  .exact fB.1 h2 _ h
  .exact fq.2 ⟨by omega,by simp only;omega,by simp only;omega⟩
 .rcases ML hy with h|rfl
  .exact fB.1 h2 _ h
  .exact fq.2 ⟨by simp only;omega,by simp only;omega,by omega⟩
theorem vO(h:ip t=true):BOk t 0 (kc t):=by
 obtain⟨h1,h2,h3,h4,h5⟩:=ey.1 h;refine⟨by simp[kc];omega,λj hj=>by omega,λj b hb=>?_⟩
 cases j with
 |zero=>simp[kc]at hb;subst hb;exact⟨rfl,h5⟩
 |succ j=>simp[kc,Lc]at hb
theorem KI{a z:Nat}{x y:Option Bx}(hne:a≠z)(ha:a<L.length)(hz:z<L.length):((L.set a x).set z y)[j]?=if j=z then some y else if j=a then some x else L[j]?:=by
 rw[I0];by_cases h1:z=j
 .subst h1;simp[hz]
 .rw[Ik h1,Ik (λh=>h1 h.symm),I0]
  by_cases h2:a=j
  .subst h2;simp[ha]
  .rw[Ik h2,Ik (λh=>h2 h.symm)]
theorem zG{x y:Option Bx}(hl:L.length=t.cells.length)(hi:lp t.cells.length i c=true):((L.set c.low.toNat x).set c.high.toNat y)[j]?=if j=c.high.toNat then some y else if j=c.low.toNat then some x else L[j]?:=by
 obtain⟨h1,h2,h3,h4,h5,_⟩:=jk.1 hi;exact KI (by omega) (by omega) (by omega)
theorem vP(h:BOk t i L)(hs:gE t.cells.length i c L=some L'):BOk t (i+1) L':=by
 obtain⟨b,hb,⟨_,_,rfl⟩|⟨_,hi,hh,hlo,hhi,rfl⟩⟩:=ji hs
 .refine⟨h.len,λj hj=>?_,h.ok⟩
  by_cases e:j=i
  .subst e;exact⟨b,hb⟩
  .exact h.pre j (by omega)
 .have hbo:=h.ok i b hb
  refine⟨by simpa using h.len,λj hj=>?_,λj d hd=>?_⟩
  .rw[zG h.len hi]
   split
   .exact⟨_,rfl⟩
   .split
    .exact⟨_,rfl⟩
    .by_cases e:j=i
     .subst e;exact⟨b,hb⟩
     .exact h.pre j (by omega)
  .rw[zG h.len hi]at hd
   split at hd
   .injection hd with hd;injection hd with hd;subst hd
    exact⟨by rw[(xn hh).2];exact hbo.1,(tT hh).2⟩
   .split at hd
    .injection hd with hd;injection hd with hd;subst hd
     exact⟨by rw[(xn hh).1];exact hbo.1,(tT hh).1⟩
    .exact h.ok j d hd
structure BInv(t:Tr)(i:Nat)(L:OL):Prop where
 bok:BOk t i L
 run:mN t.cells.length (t.cells.drop i) i L=dH t
theorem Cj(h:ip t=true):BInv t 0 (kc t):=⟨vO h,by simp[dH,h]⟩
theorem tB(h:BInv t i L)(hlt:i<t.cells.length)(hs:gE t.cells.length i t.cells[i] L=some L'):BInv t (i+1) L':=by
 refine⟨vP h.bok hs,?_⟩;rw[<-h.run,VY hlt];simp only[mN,hs]
theorem Ck(h:BInv t i L)(hlt:i<t.cells.length)(hs:gE t.cells.length i t.cells[i] L=none):dH t=none:=by
 rw[<-h.run,VY hlt];simp only[mN,hs]
theorem Cl(h:BInv t i L)(hlt:¬i<t.cells.length):dH t=some L:=by
 rw[<-h.run,VB (by omega)];rfl
theorem qB(h:dH t=some L):BOk t t.cells.length L:=
 kQ h (vO (lA h)) (λ_ _ _ _ _ hp hm=>vP hp hm)
theorem ke(h:dH t=some L):L=(aj t).map some:=by
 have ok:=qB h;rw[aj,h];simp only[List.map_map];apply My;intro j;by_cases hj:j<L.length
 .obtain⟨b,hb⟩:=ok.pre j (by rw[<-ok.len];exact hj)
  simp[hb]
 .simp[Jr (by omega:L.length<=j)]
theorem Ez(h:dH t=some L):L.map sK=(aj t).map iv:=by
 rw[ke h];simp[sK,Function.comp_def]
theorem fI(h:aX t=true):(aj t).length=t.cells.length:=by
 obtain⟨L,hL⟩:=Le.1 h;have:=(qB hL).len;rw[ke hL]at this;simpa using this
theorem kR(hb:(aj t)[j]?=some b):b.length=t.root.length∧bo vI b=true:=by
 cases hL:dH t with
 |none=>simp[aj,hL]at hb
 |some L=>
  have:=(qB hL).ok j b;rw[ke hL]at this;exact this (by simp[hb])
theorem jm(h:aX t=true):ip t=true:=by
 obtain⟨L,hL⟩:=Le.1 h;exact lA hL
theorem tC(h:dH t=none):aX t=false∧aj t=[]:=by simp[aX,aj,h]
theorem kS{t:Tr}(hb:L[i]?=some (some b))(hl:dZ c=true):gE n i c L=if ff c.v then some L else none:=by
 simp[gE,hb,hl]
theorem rz(hb:L[i]?=some (some b))(hl:dZ c=false)(hi:lp n i c=true)(hh:bE b c.joint=true)(h1:L[c.low.toNat]?=some none)(h2:L[c.high.toNat]?=some none):gE n i c L=some ((L.set c.low.toNat (some (bg b c.joint))).set c.high.toNat (some (bh b c.joint))):=by
 simp[gE,hb,hl,hi,hh,h1,h2]
theorem md(hb:L[i]?=some (some b))(hl:dZ c=false)(h:lp n i c=false∨bE b c.joint=false∨(∃d,L[c.low.toNat]?=some (some d))∨(∃d,L[c.high.toNat]?=some (some d))):gE n i c L=none:=by
 unfold gE;rw[hb];simp only[hl,IA,JE];split
 .rename_i hi
  split
  .rename_i hh
   rcases h with h|h|⟨d,h⟩|⟨d,h⟩
   .rw[hi]at h;cases h
   .rw[hh]at h;cases h
   .rw[h]
   .rw[h];split
    .rename_i e1 e2;cases e2
    .rfl
  .rfl
 .rfl
def br:Verd:=⟨0,[],0,[],[]⟩
def aH(v:Verd):Cel:=⟨-1,-1,-1,v⟩
theorem zH(h:dZ c=true):c=aH c.v:=by
 cases c;simp[dZ]at h;simp[aH,h]
theorem ll(v:Verd):dZ (aH v)=true:=by simp[dZ,aH]
theorem Hd:oS br=true:=by simp[oS,br,kI]
theorem He:ff br=true:=by simp[ff,br,kI]
theorem AO(h:gE n i c L=some L')(hb:L[j]?=some (some b)):L'[j]?=some (some b):=by
 obtain⟨d,hd,⟨_,_,rfl⟩|⟨_,hi,hh,hlo,hhi,rfl⟩⟩:=ji h
 .exact hb
 .have h1:c.low.toNat≠j:=by intro e;rw[e,hb]at hlo;cases hlo
  have h2:c.high.toNat≠j:=by intro e;rw[e,hb]at hhi;cases hhi
  rw[I0,Ik h2,I0,Ik h1];exact hb
theorem Cm{k:Nat}{S:OL}(hl:L.length=n)(hk:S.length=k)(h:gE n i c L=some L'):gE (n+k) i c (L++S)=some (L'++S):=by
 obtain⟨d,hd,⟨h1,h2,rfl⟩|⟨h1,hi,hh,hlo,hhi,rfl⟩⟩:=ji h
 .have hlt:i<L'.length:=(th.1 hd).1
  have:(L'++S)[i]?=some (some d):=by rw[Iz hlt];exact hd
  simp[gE,this,h1,h2]
 .have hlt:i<L.length:=(th.1 hd).1
  have l1:c.low.toNat<L.length:=(th.1 hlo).1;have l2:c.high.toNat<L.length:=(th.1 hhi).1
  have e1:(L++S)[i]?=some (some d):=by rw[Iz hlt];exact hd
  have e2:(L++S)[c.low.toNat]?=some none:=by rw[Iz l1];exact hlo
  have e3:(L++S)[c.high.toNat]?=some none:=by rw[Iz l2];exact hhi
  have hi':lp (n+k) i c=true:=by
   obtain⟨a1,a2,a3,a4,a5,a6⟩:=jk.1 hi;exact jk.2 ⟨a1,by omega,a3,by omega,a5,a6⟩
  rw[rz e1 h1 hi' hh e2 e3,Tm _ _ l1,Tm _ _ (by simpa using l2)]
def gc(t:Tr)(i:Nat)(j:Int)(v:Verd):Tr:=⟨t.root,t.cells.set i ⟨j,t.cells.length,t.cells.length+1,br⟩++[aH v,aH v]⟩
theorem mC(t:Tr)(i:Nat)(j:Int)(v:Verd):(gc t i j v).cells.length=t.cells.length+2:=by simp[gc]
theorem qC{cs:List Cel}(hc:cs[i]?=some c)(h:gE n i c L=some L'):mN n (cs.drop i) i L=mN n (cs.drop (i+1)) (i+1) L':=by
 obtain⟨hlt,hc⟩:=th.1 hc;rw[VY hlt,hc];simp only[mN,h]
theorem IY(h:dH t=some L)(hc:t.cells[i]?=some c)(hl:dZ c=true):ff c.v=true:=by
 have hp:=kQ (P:=λk _=>i<k->ff c.v=true) h (by intro h;omega) (λk d M M' hk hp hm hi=>by
  by_cases e:k=i
  .subst e
   rw[hc]at hk;injection hk with hk;subst hk;obtain⟨b,hb,⟨_,h2,_⟩|⟨h1,_⟩⟩:=ji hm
   .exact h2
   .rw[hl]at h1;cases h1
  .exact hp (by omega))
 exact hp (th.1 hc).1
theorem yS(h:dH t=some L){j:Int}(hc:t.cells[i]?=some c)(hl:dZ c=true)(hn:t.cells.length+2<=2048)(hb:L[i]?=some (some b))(hh:bE b j=true):
 dH (gc t i j c.v)=some (L++[some (bg b j),some (bh b j)]):=by
 have hsz:=lA h;obtain⟨z1,z2,z3,z4,z5⟩:=ey.1 hsz;have hilt:i<t.cells.length:=(th.1 hc).1;have hlen:=mC t i j c.v;have hf:=IY h hc hl;generalize hT:gc t i j c.v=T at *
 have hTr:T.root=t.root:=by rw[<-hT];rfl
 have hTc:∀k,k≠i->k<t.cells.length->T.cells[k]?=t.cells[k]?:=by
  intro k hk hlt;rw[<-hT];simp only[gc];rw[Iz (by simpa using hlt),I0,Ik (λe=>hk e.symm)]
 have hTi:T.cells[i]?=some ⟨j,t.cells.length,t.cells.length+1,br⟩:=by
  rw[<-hT];simp only[gc];rw[Iz (by simpa using hilt),I0,IR rfl,IR hilt]
 have hTs:ip T=true:=ey.2 ⟨by omega,by omega,by rw[hTr];omega,by rw[hTr];omega,by rw[hTr];exact z5⟩
 have hP:=kQ (P:=λk M=>BOk t k M∧if k<=i then mN (t.cells.length+2) (T.cells.drop k) k (M++[none,none])=dH T
  else∃d,M[i]?=some (some d)∧(bE d j=true->mN (t.cells.length+2) (T.cells.drop k) k (M++[some (bg d j),some (bh d j)])=dH T)) h (by
  refine⟨vO hsz,?_⟩;simp only[Ng,J4];rw[dH,IR hTs,hlen,VT]
  congr 1
  simp only[kc,hTr,hlen,List.cons_append]
  rw[show t.cells.length+2-1=(t.cells.length-1)+2 by omega,<-List.replicate_append_replicate];rfl) (by
  intro k e M M' hk hp hm;obtain⟨hbo,hp⟩:=hp;refine⟨vP hbo hm,?_⟩;have hklt:k<t.cells.length:=(th.1 hk).1;rcases Tc k i with hki|hki|hki
  .rw[IR (by omega)]at hp|-
   rw[<-hp];exact(qC (by rw[hTc k (by omega) hklt];exact hk) (Cm (k:=2) (S:=[none,none]) hbo.len rfl hm)).symm
  .subst hki
   rw[hc]at hk;injection hk with hk;subst hk;rw[IR (IX _)]at hp;rw[Ik (by omega)];obtain⟨d,hd,⟨_,_,rfl⟩|⟨h1,_⟩⟩:=ji hm
   .refine⟨d,hd,λhok=>?_⟩
    rw[<-hp];refine(qC hTi ?_).symm
    have e1:(M'++[none,none])[k]?=some (some d):=by rw[Iz (by rw[hbo.len];exact hilt)];exact hd
    have hi':lp (t.cells.length+2) k ⟨j,t.cells.length,t.cells.length+1,br⟩=true:=jk.2 ⟨by simp only;omega,by simp only;omega,by simp only;omega,by simp only;omega,by simp only;omega,Hd⟩
    have t1:((t.cells.length:Int)).toNat=M'.length:=by rw[hbo.len];omega
    have t2:((t.cells.length:Int)+1).toNat=M'.length+1:=by rw[hbo.len];omega
    rw[rz e1 (by simp[dZ]) hi' hok (by simp only;rw[t1];simp) (by simp only;rw[t2];simp)];simp only[t1,t2]
    congr 1
    rw[P3 _ _ (by omega),P3 _ _ (by omega)];simp
   .rw[hl]at h1;cases h1
  .rw[Ik (by omega)]at hp|-
   obtain⟨d,hd,hp⟩:=hp;refine⟨d,AO hm hd,λhok=>?_⟩;rw[<-hp hok]
   exact(qC (by rw[hTc k (by omega) hklt];exact hk) (Cm (k:=2) (S:=[some (bg d j),some (bh d j)]) hbo.len rfl hm)).symm)
 obtain⟨hbo,hP⟩:=hP;rw[Ik (by omega)]at hP;obtain⟨d,hd,hP⟩:=hP;rw[hb]at hd;injection hd with hd;injection hd with hd;subst hd;rw[<-hP hh]
 have hdrop:T.cells.drop t.cells.length=[aH c.v,aH c.v]:=by
  rw[<-hT];simp only[gc];rw[VL (by simp),VB (by simp)];rfl
 rw[hdrop]
 have e1:(L++[some (bg b j),some (bh b j)])[t.cells.length]?=some (some (bg b j)):=by rw[<-hbo.len];simp
 have e2:(L++[some (bg b j),some (bh b j)])[t.cells.length+1]?=some (some (bh b j)):=by rw[<-hbo.len];simp
 simp only[mN];rw[kS (t:=t) e1 (ll _),IR (show ff (aH c.v).v=true from hf)];simp only;rw[kS (t:=t) e2 (ll _),IR (show ff (aH c.v).v=true from hf)]
def dv(t:Tr)(i:Nat)(v:Verd):Tr:=⟨t.root,t.cells.set i (aH v)⟩
theorem EA(h:dH t=some L){v:Verd}(hc:t.cells[i]?=some c)(hl:dZ c=true)(hf:ff v=true):dH (dv t i v)=some L:=by
 have hsz:=lA h;have hilt:i<t.cells.length:=(th.1 hc).1
 have hlen:(dv t i v).cells.length=t.cells.length:=by simp[dv]
 generalize hT:dv t i v=T at *
 have hTr:T.root=t.root:=by rw[<-hT];rfl
 have hTs:ip T=true:=by
  obtain⟨z1,z2,z3,z4,z5⟩:=ey.1 hsz;exact ey.2 ⟨by omega,by omega,by rw[hTr];omega,by rw[hTr];omega,by rw[hTr];exact z5⟩
 have hP:=kQ (P:=λk M=>mN t.cells.length (T.cells.drop k) k M=dH T) h (by
  rw[dH,IR hTs,hlen,VT]
  congr 1
  simp only[kc,hTr,hlen]) (by
  intro k e M M' hk hp hm;rw[<-hp];by_cases hki:k=i
  .subst hki
   rw[hc]at hk;injection hk with hk;subst hk;obtain⟨d,hd,⟨_,_,rfl⟩|⟨h1,_⟩⟩:=ji hm
   .refine(qC (c:=aH v) (by rw[<-hT];simp[dv,hilt]) ?_).symm
    rw[kS (t:=t) hd (ll _),IR (show ff (aH v).v=true from hf)]
   .rw[hl]at h1;cases h1
  .refine(qC ?_ hm).symm
   rw[<-hT];simp only[dv]
   rw[I0,Ik (λe=>hki e.symm)];exact hk)
 rw[<-hP,VB (by omega)];rfl
theorem IZ(h:dH t=some L):∃c,t.cells[t.cells.length-1]?=some c∧dZ c=true:=by
 obtain⟨z1,z2,z3,z4,z5⟩:=ey.1 (lA h)
 have hlt:t.cells.length-1<t.cells.length:=by omega
 refine⟨t.cells[t.cells.length-1],an hlt,?_⟩
 have hp:=kQ (P:=λk _=>k=t.cells.length->dZ t.cells[t.cells.length-1]=true) h (by omega) (λk d M M' hk hp hm hi=>by
  obtain⟨b,hb,⟨h2,_,_⟩|⟨_,h1,_⟩⟩:=ji hm
  .have e:t.cells.length-1=k:=by omega
   have:=an hlt;rw[show t.cells[t.cells.length-1]?=t.cells[k]? by rw[e],hk]at this;injection this with this;rw[<-this];exact h2
  .have:=jk.1 h1
   omega)
 exact hp rfl
def eE(t:Tr)(i:Nat):Bool:=match t.cells[i]? with
 |some c=>dZ c
 |none=>false
def fY(t:Tr)(n:Nat):List Nat:=(List.range n).filter (eE t)
def fL(t:Tr):List Nat:=if aX t then fY t t.cells.length else[]
theorem xp(t:Tr)(n:Nat):fY t (n+1)=if eE t n then fY t n++[n]else fY t n:=by
 simp only[fY,PK,SO];cases h:eE t n<;>simp[h]
theorem EY(t:Tr)(n:Nat):(fY t n).length<=n:=by
 have:=VG (eE t) (List.range n);simpa[fY]using this
theorem EZ:i∈fL t↔aX t=true∧∃c,t.cells[i]?=some c∧dZ c=true:=by
 unfold fL
 cases hv:aX t with
 |false=>simp
 |true=>
  simp only[J4,true_and,fY,Ol,Mx,eE];constructor
  .rintro⟨h1,h2⟩
   rw[an h1]at h2;exact⟨_,an h1,h2⟩
  .rintro⟨c,hc,hl⟩
   refine⟨(th.1 hc).1,by rw[hc];exact hl⟩
theorem E0(h:aX t=true):0<(fL t).length:=by
 obtain⟨L,hL⟩:=Le.1 h;obtain⟨c,hc,hl⟩:=IZ hL;exact List.length_pos_of_mem (EZ.2 ⟨h,c,hc,hl⟩)
def dI(t:Tr)(i j:Int):Bool:=aX t&&decide (0<=i)&&decide (i<t.cells.length)&&eE t i.toNat&&decide (t.cells.length+2<=2048)&&bE ((aj t)[i.toNat]?.getD []) j
def eM(t:Tr)(i:Nat):Verd:=match t.cells[i]? with
 |some c=>c.v
 |none=>br
def db(t:Tr)(i j:Int):Tr:=if dI t i j then gc t i.toNat j (eM t i.toNat)else t
def dc(t:Tr)(i:Int)(v:Verd):Bool:=aX t&&decide (0<=i)&&decide (i<t.cells.length)&&eE t i.toNat&&decide ((eM t i.toNat).kind=0)&&ff v
def cJ(t:Tr)(i:Int)(v:Verd):Tr:=if dc t i v then dv t i.toNat v else t
theorem xq(h:eE t i=true):∃c,t.cells[i]?=some c∧dZ c=true∧eM t i=c.v:=by
 unfold eE at h;split at h
 .rename_i c hc
  exact⟨c,hc,h,by simp[eM,hc]⟩
 .cases h
theorem yT(h:aX t=true)(i j:Int):aX (db t i j)=true∧(db t i j).root=t.root∧(db t i j).cells.length<=t.cells.length+2:=by
 unfold db;split
 .rename_i hs
  simp only[dI,An,HX]at hs;obtain⟨⟨⟨⟨⟨h1,h2⟩,h3⟩,h4⟩,h5⟩,h6⟩:=hs;obtain⟨L,hL⟩:=Le.1 h;obtain⟨c,hc,hl,hv⟩:=xq h4
  have hlt:i.toNat<t.cells.length:=by omega
  obtain⟨b,hb⟩:=(qB hL).pre i.toNat hlt
  have hb':(aj t)[i.toNat]?=some b:=by
   have:=ke hL;rw[this]at hb;simpa using hb
  rw[hb']at h6;have:=yS hL hc hl h5 hb h6;rw[hv];exact⟨by rw[aX,this];rfl,rfl,by rw[mC];exact IX _⟩
 .exact⟨h,rfl,by omega⟩
theorem oT(h:aX t=true)(i:Int)(v:Verd):aX (cJ t i v)=true∧(cJ t i v).root=t.root∧(cJ t i v).cells.length=t.cells.length∧aj (cJ t i v)=aj t:=by
 unfold cJ;split
 .rename_i hs
  simp only[dc,An,HX]at hs;obtain⟨⟨⟨⟨⟨h1,h2⟩,h3⟩,h4⟩,h5⟩,h6⟩:=hs;obtain⟨L,hL⟩:=Le.1 h;obtain⟨c,hc,hl,hv⟩:=xq h4;have:=EA hL hc hl h6;exact⟨by rw[aX,this];rfl,rfl,by simp[dv],by simp[aj,this,hL]⟩
 .exact⟨h,rfl,rfl,rfl⟩
def iw(r:List (Int×Int)):Tr:=if dG r then⟨r,[aH br]⟩else⟨[],[]⟩
theorem I3(h:dG r=true):dH ⟨r,[aH br]⟩=some [some r]:=by
 have hs:ip ⟨r,[aH br]⟩=true:=by simp[ip,h]
 rw[dH,IR hs];simp only[kc,NR,T1,List.replicate,mN];rw[kS (t:=⟨r,[]⟩) (b:=r) rfl (ll _),IR (show ff (aH br).v=true from He)]
theorem MH(h:dG r=false):dH ⟨r,[aH br]⟩=none:=by
 have hs:ip ⟨r,[aH br]⟩=false:=by simp[ip,h]
 rw[dH,Ik (by simp[hs])]
theorem qD(r:List (Int×Int)):aX ⟨r,[aH br]⟩=dG r:=by
 cases h:dG r with
 |true=>rw[aX,I3 h];rfl
 |false=>rw[aX,MH h];rfl
theorem EB{β:Type}{f:α->β->Bool}{xs:List α}{ys:List β}:dV f xs ys=true↔∀(i:Nat) x y,xs[i]?=some x->ys[i]?=some y->f x y=true:=by
 unfold dV;rw[Ij];constructor
 .intro h i x y hx hy
  have:(List.zipWith f xs ys)[i]?=some (f x y):=by simp[List.getElem?_zipWith,hx,hy]
  exact h _ (HW this)
 .intro h z hz
  obtain⟨i,hi⟩:=LV hz;rw[List.getElem?_zipWith]at hi
  cases hx:xs[i]? with
  |none=>simp[hx]at hi
  |some x=>
   cases hy:ys[i]? with
   |none=>simp[hx,hy]at hi
   |some y=>
    simp[hx,hy]at hi;rw[<-hi];exact h i x y hx hy
theorem MI{c:List Int}(hv:bo vI b=true):lU b c=true↔b.length=c.length∧∀(i:Nat) x y,b[i]?=some x->c[i]?=some y->x.1<=y∧y<=x.2:=by
 simp only[lU,An,HX,EB];constructor
 .rintro⟨h1,h2⟩
  refine⟨h1,λi x y hx hy=>?_⟩;have:=h2 i x y hx hy;simp only[nD,An,HX]at this;exact⟨this.1.2,this.2⟩
 .rintro⟨h1,h2⟩
  refine⟨h1,λi x y hx hy=>?_⟩;simp only[nD,An,HX];exact⟨⟨fB.1 hv _ (HW hx),(h2 i x y hx hy).1⟩,(h2 i x y hx hy).2⟩
theorem n6{a:Bx}(ha:bo vI a=true)(hb:bo vI b=true):bp a b=true↔a.length=b.length∧∀(i:Nat) x y,a[i]?=some x->b[i]?=some y->x.1<=y.2∧y.1<=x.2:=by
 simp only[bp,An,HX,EB];constructor
 .rintro⟨h1,h2⟩
  refine⟨h1,λi x y hx hy=>?_⟩;have:=h2 i x y hx hy;simp only[iF,An,HX]at this;omega
 .rintro⟨h1,h2⟩
  refine⟨h1,λi x y hx hy=>?_⟩;have vx:ay x.1 x.2=true:=fB.1 ha _ (HW hx);have vy:ay y.1 y.2=true:=fB.1 hb _ (HW hy);simp only[iF,vx,vy,An,HX,true_and];have:=h2 i x y hx hy;have:=fq.1 vx;have:=fq.1 vy;omega
def bj(t:Tr)(c:Int):Bx:=(aj t)[c.toNat]?.getD []
theorem iZ(hv:aX t=true){c:Int}(h:c.toNat<t.cells.length):(aj t)[c.toNat]?=some (bj t c)∧(bj t c).length=t.root.length∧bo vI (bj t c)=true:=by
 have hl:c.toNat<(aj t).length:=by rw[fI hv];exact h
 have e:(aj t)[c.toNat]?=some (bj t c):=by simp[bj,an hl]
 exact⟨e,kR e⟩
def EC(t:Tr)(chain:List Int)(j:Nat):Bool:=match chain[j]? with
 |some c=>decide (0<=c)&&decide (c<t.cells.length)&&eE t c.toNat&& !((chain.take j).contains c)&&(decide (j=0)||bp (bj t (chain[j-1]?.getD 0)) (bj t c))
 |none=>false
theorem Hf{chain:List Int}{c:Int}(hc:chain[j]?=some c):EC t chain j=true↔0<=c∧c<t.cells.length∧eE t c.toNat=true∧c∉chain.take j∧(j=0∨bp (bj t (chain[j-1]?.getD 0)) (bj t c)=true):=by
 simp[EC,hc,and_assoc]
structure ChOk(t:Tr)(chain p q:List Int):Prop where
 valid:aX t=true
 hp:lU t.root p=true
 hq:lU t.root q=true
 ne:chain≠[]
 all:∀j,j<chain.length->EC t chain j=true
namespace ChOk
variable {t:Tr} {chain p q:List Int}
theorem get(h:ChOk t chain p q)(hj:j<chain.length):0<=chain[j]∧chain[j]<t.cells.length∧eE t chain[j].toNat=true∧chain[j]∉chain.take j∧(j=0∨bp (bj t (chain[j-1]?.getD 0)) (bj t chain[j])=true):=
 (Hf (an hj)).1 (h.all j hj)
theorem box(h:ChOk t chain p q)(hj:j<chain.length):(aj t)[chain[j].toNat]?=some (bj t chain[j])∧(bj t chain[j]).length=t.root.length∧bo vI (bj t chain[j])=true:=by
 have:=h.get hj;exact iZ h.valid (by omega)
theorem touch(h:ChOk t chain p q)(hj:j+1<chain.length):bp (bj t chain[j]) (bj t chain[j+1])=true:=by
 have:=(h.get hj).2.2.2.2;rcases this with e|e
 .omega
 .rw[Nat.add_sub_cancel,an (by omega)]at e;exact e
end ChOk
structure BS where
 far:List Int
 q:List Nat
section
variable (n:Nat) (may has hasF:Nat->Bool) (tch:Nat->Nat->Bool)
def av(far:List Int)(i:Nat):Int:=far[i]?.getD 0
def bI:Nat->BS
 |0=>⟨List.replicate n 0,[]⟩
 |i+1=>if may i&&has i then⟨(bI i).far.set i 1,(bI i).q++[i]⟩else bI i
def df(s:BS)(k:Nat):Nat:=s.q[k]?.getD 0
def yU(s:BS)(k i:Nat):Bool:=(av s.far i==0)&&may i&&tch i (df s k)
def qE(s:BS)(k i:Nat):BS:=⟨s.far.set i (av s.far (df s k)+1),s.q++[i]⟩
def bJ(s:BS)(k:Nat):Nat->BS
 |0=>s
 |i+1=>if yU may tch (bJ s k i) k i then qE (bJ s k i) k i else bJ s k i
def bK:Nat->BS
 |0=>bI n may has n
 |k+1=>if k<(bK k).q.length then bJ may tch (bK k) k n else bK k
structure BInv2(s:BS):Prop where
 len:s.far.length=n
 cnt:s.far.countP (λx=>x !=0)=s.q.length
 mem:∀j∈s.q,j<n∧1<=av s.far j
 nn:∀i,0<=av s.far i
 top:∀i,av s.far i<=s.q.length
 may':∀i,1<=av s.far i->may i=true
 back:∀i,1<=av s.far i->(av s.far i=1∧has i=true)∨∃p,p<n∧av s.far p=av s.far i-1∧1<=av s.far p∧tch i p=true
variable {n may has hasF tch}
theorem mD(hi:i<far.length):av (far.set i v) j=if j=i then v else av far j:=by
 unfold av;rw[I0];by_cases h:i=j
 .subst h;simp[hi]
 .rw[Ik h,Ik (λe=>h e.symm)]
theorem BInv2.le{s:BS}(h:BInv2 n may has tch s):s.q.length<=n:=by
 rw[<-h.cnt,<-h.len];exact List.countP_le_length
theorem MJ(hi:i<far.length)(h0:av far i=0)(hv:v≠0):(far.set i v).countP (λx=>x !=0)=far.countP (λx=>x !=0)+1:=by
 have h0':far[i]=0:=by simpa[av,an hi]using h0
 rw[List.countP_set hi];simp[h0',hv]
theorem BInv2.put{s:BS}(h:BInv2 n may has tch s)(hi:i<n)(h0:av s.far i=0)(hv:1<=v)(hm:may i=true)(ht:v<=s.q.length+1)
 (hb:(v=1∧has i=true)∨∃p,p<n∧av s.far p=v-1∧1<=av s.far p∧tch i p=true):BInv2 n may has tch ⟨s.far.set i v,s.q++[i]⟩:=by
 have hil:i<s.far.length:=by rw[h.len];exact hi
 refine⟨by simpa using h.len,?_,?_,?_,?_,?_,?_⟩
 .simp only[Kk,NR];rw[MJ hil h0 (by omega),h.cnt]
 .intro j hj
  simp only[JS,LZ]at hj;simp only[mD hil];rcases hj with hj|rfl
  .refine⟨(h.mem j hj).1,?_⟩
   split
   .exact hv
   .exact(h.mem j hj).2
  .exact⟨hi,by simp[hv]⟩
 .intro j;simp only[mD hil];split
  .omega
  .exact h.nn j
 .intro j;simp only[mD hil,Kk,NR]
  have:=h.top j;split<;>omega
 .intro j;simp only[mD hil];split
  .rename_i e;rw[e];exact λ_=>hm
  .exact h.may' j
 .have hpn:∀p,1<=av s.far p->p≠i:=λp hp e=>by rw[e,h0]at hp;omega
  intro j;simp only[mD hil];split
  .rename_i e;rw[e];intro _
   rcases hb with hb|⟨p,p1,p2,p3,p4⟩
   .exact .inl hb
   .exact .inr ⟨p,p1,by rw[Ik (hpn p p3)];exact p2,by rw[Ik (hpn p p3)];exact p3,p4⟩
  .intro hj
   rcases h.back j hj with hb|⟨p,p1,p2,p3,p4⟩
   .exact .inl hb
   .exact .inr ⟨p,p1,by rw[Ik (hpn p p3)];exact p2,by rw[Ik (hpn p p3)];exact p3,p4⟩
theorem uB:∀i,i<=n->BInv2 n may has tch (bI n may has i)∧∀j,i<=j->av (bI n may has i).far j=0
 |0,_=>by
  have hz:∀j,av (List.replicate n (0:Int)) j=0:=λj=>by simp only[av,Lc];split<;>rfl
  refine⟨⟨by simp[bI],by simp[bI,List.countP_replicate],by simp[bI],λj=>by simp only[bI,hz];omega,λj=>by simp only[bI,hz];simp,λj hj=>by simp only[bI,hz]at hj;omega,λj hj=>by simp only[bI,hz]at hj;omega⟩,λj _=>by simp only[bI,hz]⟩
 |i+1,hi=>by
  obtain⟨ih,iz⟩:=uB i (by omega);simp only[bI];split
  .rename_i hc
   simp only[An]at hc;refine⟨ih.put (by omega) (iz i (IX _)) (by omega) hc.1 (by omega) (.inl ⟨rfl,hc.2⟩),λj hj=>?_⟩;simp only[mD (show i<(bI n may has i).far.length by rw[ih.len];omega)];rw[Ik (by omega)];exact iz j (by omega)
  .exact⟨ih,λj hj=>iz j (by omega)⟩
theorem AP{s:BS}{k:Nat}(hs:BInv2 n may has tch s)(hk:k<s.q.length):∀i,i<=n->BInv2 n may has tch (bJ may tch s k i)∧s.q.length<=(bJ may tch s k i).q.length∧df (bJ may tch s k i) k=df s k
 |0,_=>⟨hs,IX _,rfl⟩
 |i+1,hi=>by
  obtain⟨ih,il,iq⟩:=AP hs hk i (by omega);simp only[bJ];split
  .rename_i hc
   simp only[yU,An,Nj]at hc
   have hmem:df (bJ may tch s k i) k∈(bJ may tch s k i).q:=by
    unfold df;rw[an (by omega:k<(bJ may tch s k i).q.length)];exact Ky _
   have hq:=ih.mem _ hmem;refine⟨ih.put (by omega) hc.1.1 (by omega) hc.1.2 (by have:=ih.top (df (bJ may tch s k i) k);omega) (.inr ⟨_,hq.1,by omega,hq.2,hc.2⟩),by simp only[qE,Kk,NR];omega,?_⟩;rw[<-iq];simp only[qE,df];rw[Iz (by omega)]
  .exact⟨ih,il,iq⟩
theorem sL:∀k,BInv2 n may has tch (bK n may has tch k)
 |0=>(uB n (IX _)).1
 |k+1=>by
  have ih:=sL k;simp only[bK];split
  .rename_i hk
   exact(AP ih hk n (IX _)).1
  .exact ih
def aS(far:List Int)(hasF:Nat->Bool):Nat->Int
 |0=>-1
 |i+1=>if decide (0<av far i)&&hasF i&&(decide (aS far hasF i<0)||decide (av far i<av far (aS far hasF i).toNat))then(i:Int)else aS far hasF i
theorem xr{far:List Int}:∀i,-1<=aS far hasF i∧aS far hasF i<i∧(0<=aS far hasF i->0<av far (aS far hasF i).toNat∧hasF (aS far hasF i).toNat=true)
 |0=>by simp[aS]
 |i+1=>by
  have ih:=xr (far:=far) i;simp only[aS];split
  .rename_i hc
   simp only[An,HX]at hc;refine⟨by omega,by omega,λ_=>?_⟩;rw[JY];exact⟨hc.1.1,hc.1.2⟩
  .exact⟨ih.1,by omega,ih.2.2⟩
def nC(far:List Int)(tch:Nat->Nat->Bool)(at_ i:Nat):Bool:=(av far i==av far at_-1)&&tch i at_
def nS(n:Nat)(far:List Int)(tch:Nat->Nat->Bool)(at_:Nat):Nat->Int
 |0=>-1
 |m+1=>if nC far tch at_ (n-1-m)then((n-1-m:Nat):Int)else nS n far tch at_ m
theorem ED{far:List Int}{at_:Nat}:∀m,m<=n->(0<=nS n far tch at_ m->(nS n far tch at_ m).toNat<n∧nC far tch at_ (nS n far tch at_ m).toNat=true)∧(∀i,i<n->n-m<=i->nC far tch at_ i=true->0<=nS n far tch at_ m)∧-1<=nS n far tch at_ m
 |0,_=>by simp[nS];omega
 |m+1,hm=>by
  have ih:=ED (far:=far) (at_:=at_) m (by omega);simp only[nS];split
  .rename_i hc
   refine⟨λ_=>?_,λ_ _ _ _=>by omega,by omega⟩;rw[JY];exact⟨by omega,hc⟩
  .rename_i hc
   refine⟨ih.1,λi h1 h2 h3=>?_,ih.2.2⟩;by_cases e:i=n-1-m
   .rw[e]at h3;exact absurd h3 hc
   .exact ih.2.1 i h1 (by omega) h3
def Cn(n:Nat)(far:List Int)(tch:Nat->Nat->Bool)(at_:Nat):Nat:=(nS n far tch at_ n).toNat
theorem AQ{s:BS}(h:BInv2 n may has tch s)(hsym:∀i j,i<n->j<n->tch i j=tch j i){a:Nat}(hl:a<n)(ha:1<av s.far a):nS n s.far tch a n=(Cn n s.far tch a:Int)∧Cn n s.far tch a<n∧av s.far (Cn n s.far tch a)=av s.far a-1∧tch (Cn n s.far tch a) a=true:=by
 have hr:=ED (n:=n) (tch:=tch) (far:=s.far) (at_:=a) n (IX _);rcases h.back a (by omega)with⟨e,_⟩|⟨p,p1,p2,p3,p4⟩
 .omega
 .have hp:nC s.far tch a p=true:=by
   simp only[nC,p2,beq_self_eq_true,KA];rw[hsym p a p1 hl];exact p4
  have h0:=hr.2.1 p p1 (by omega) hp;obtain⟨h1,h2⟩:=hr.1 h0;simp only[nC,An,Nj]at h2;exact⟨by unfold Cn;omega,h1,h2.1,h2.2⟩
def pS(n:Nat)(far:List Int)(tch:Nat->Nat->Bool)(a:Nat):Nat->Nat
 |0=>a
 |r+1=>Cn n far tch (pS n far tch a r)
theorem yk{s:BS}(h:BInv2 n may has tch s)(hsym:∀i j,i<n->j<n->tch i j=tch j i){a:Nat}(hl:a<n)(ha:0<av s.far a):∀r:Nat,(r:Int)<av s.far a->pS n s.far tch a r<n∧av s.far (pS n s.far tch a r)=av s.far a-r
 |0,_=>⟨hl,by simp[pS]⟩
 |r+1,hr=>by
  obtain⟨i1,i2⟩:=yk h hsym hl ha r (by omega);have:=AQ h hsym i1 (by omega);simp only[pS];exact⟨this.2.1,by rw[this.2.2.1,i2];omega⟩
theorem KJ{s:BS}(h:BInv2 n may has tch s)(hsym:∀i j,i<n->j<n->tch i j=tch j i){a:Nat}(hl:a<n)(ha:0<av s.far a){r:Nat}(hr:(r:Int)+1<av s.far a):tch (pS n s.far tch a (r+1)) (pS n s.far tch a r)=true:=by
 obtain⟨i1,i2⟩:=yk h hsym hl ha r (by omega);exact(AQ h hsym i1 (by omega)).2.2.2
end
def mE(n:Nat)(may has hasF:Nat->Bool)(tch:Nat->Nat->Bool):Int:=aS (bK n may has tch n).far hasF n
def dz(n:Nat)(may has hasF:Nat->Bool)(tch:Nat->Nat->Bool):Bool:=decide (0<=mE n may has hasF tch)
def eV(n:Nat)(may has hasF:Nat->Bool)(tch:Nat->Nat->Bool):List Nat:=if dz n may has hasF tch then(List.range (av (bK n may has tch n).far (mE n may has hasF tch).toNat).toNat).map (pS n (bK n may has tch n).far tch (mE n may has hasF tch).toNat)else[]
theorem rA{may has hasF:Nat->Bool}{tch:Nat->Nat->Bool}(hsym:∀i j,i<n->j<n->tch i j=tch j i)(h:dz n may has hasF tch=true):
 let l:=eV n may has hasF tch
 0<l.length∧l.length<=n∧(∀(r:Nat) x,l[r]?=some x->x<n∧may x=true∧x∉l.take r)∧(∀(r:Nat) x y,l[r]?=some x->l[r+1]?=some y->tch x y=true)∧
  (∀x,l[0]?=some x->hasF x=true)∧(∀x,l[l.length-1]?=some x->has x=true):=by
 simp only[dz,HX]at h;have hI:=sL (n:=n) (may:=may) (has:=has) (tch:=tch) n;have ha:=xr (hasF:=hasF) (far:=(bK n may has tch n).far) n
 have h':decide (0<=mE n may has hasF tch)=true:=by simpa using h
 simp only[eV,dz,h',J4];unfold mE at h|-;obtain⟨a1,a2,a3⟩:=ha;obtain⟨a4,a5⟩:=a3 h;generalize hA:(aS (bK n may has tch n).far hasF n).toNat=a at *
 have hl:a<n:=by omega
 have htop:=hI.top a;have hle:=hI.le;generalize bK n may has tch n=s at *;have hp:=yk hI hsym hl a4;have ht:=λ{r:Nat}=>KJ (r:=r) hI hsym hl a4
 have hget:∀(r:Nat) x,((List.range (av s.far a).toNat).map (pS n s.far tch a))[r]?=some x->(r:Int)<av s.far a∧x=pS n s.far tch a r:=by
  intro r x hx;rw[Is,Ii]at hx;obtain⟨y,hy,rfl⟩:=hx;obtain⟨h1,h2⟩:=th.1 hy;simp at h1 h2;exact⟨by omega,by rw[h2]⟩
 refine⟨by simp;omega,by simp;omega,?_,?_,?_,?_⟩
 .intro r x hx
  obtain⟨h1,rfl⟩:=hget r x hx;obtain⟨h2,h3⟩:=hp r h1;refine⟨h2,hI.may' _ (by omega),λhm=>?_⟩;obtain⟨q,hq⟩:=LV hm;rw[KN]at hq;split at hq
  .rename_i hqr
   obtain⟨h4,h5⟩:=hget q _ hq;have:=(hp q h4).2;rw[<-h5,h3]at this;omega
  .cases hq
 .intro r x y hx hy
  obtain⟨h1,rfl⟩:=hget r x hx;obtain⟨h2,rfl⟩:=hget (r+1) y hy;rw[hsym _ _ (hp r h1).1 (hp (r+1) h2).1];exact ht (by omega)
 .intro x hx
  obtain⟨h1,rfl⟩:=hget 0 x hx;exact a5
 .intro x hx
  obtain⟨h1,rfl⟩:=hget _ x hx;simp only[Lf,List.length_range]at h1 hx|-;obtain⟨h2,h3⟩:=hp _ h1;rcases hI.back _ (show 1<=av s.far (pS n s.far tch a ((av s.far a).toNat-1)) by omega)with hb|⟨p,p1,p2,p3,p4⟩
  .exact hb.2
  .omega
set_option maxRecDepth 100000 in
@[simp] theorem Th:fJ Tryz.prog 124:=by
 have hf:=Tryz.func124;have nt:=Tryz.ntmps124;have rs:=Tryz.results124;exact Lb
set_option maxRecDepth 100000 in
@[simp] theorem TP:fJ Tryz.prog 67:=by
 have hf:=Tryz.func67;have nt:=Tryz.ntmps67;have rs:=Tryz.results67;exact BN
set_option maxRecDepth 100000 in
@[simp] theorem Tj:fJ Tryz.prog 126:=by
 have hf:=Tryz.func126;have nt:=Tryz.ntmps126;have rs:=Tryz.results126;exact BN
set_option maxRecDepth 100000 in
@[simp] theorem Tk:fJ Tryz.prog 130:=by
 have hf:=Tryz.func130;have nt:=Tryz.ntmps130;have rs:=Tryz.results130;exact BN
theorem Ew(h:1<=t.cells.length):(List.replicate t.cells.length (PV.val (.slice none 0 0))).set 0 (iv t.root)=(kc t).map sK:=by
 obtain⟨n,hn⟩:∃n,t.cells.length=n+1:=⟨t.cells.length-1,by omega⟩;simp[kc,hn,List.replicate_succ,sK]
theorem eK:sK none=.val (.slice none 0 0):=rfl
theorem eL(b:Bx):sK (some b)=iv b:=rfl
theorem bW{L:List α}{x:α}(h:L[i]?=some x)(hl:i<L.length):L[i]=x:=(th.1 h).2
theorem set_row{a z:Nat}{x y:Bx}:((L.map sK).set a (iv x)).set z (iv y)=((L.set a (some x)).set z (some y)).map sK:=by
 simp[QH,sK]
theorem yR(h:lp n i c=false):c.low<=i∨(n:Int)<=c.low∨c.high<=i∨(n:Int)<=c.high∨(c.low==c.high)=true∨oS c.v=false:=by
 cases hz:oS c.v with
 |false=>exact .inr (.inr (.inr (.inr (.inr rfl))))
 |true=>
  have:¬((i:Int)<c.low∧c.low<n∧(i:Int)<c.high∧c.high<n∧c.low≠c.high∧oS c.v=true):=by rw[<-jk,h];simp
  simp only[hz,V4]at this;simp only[Nj];omega
theorem KE(t:Tr)(hl:t.cells.length<=9223372036854775807):ab Tryz.prog 125 [.pv (fe t)] [] [] (.pv (.tup [.sl ((aj t).map iv),B (aX t)])):=by
 have cv:=Tg t.root
 cases hs:ip t with
 |false=>
  have hno:=tC (t:=t) (by simp[dH,hs]);rw[hno.1,hno.2];by_cases h1:t.cells.length<1
  .have h1':(t.cells.length:Int)<1:=by omega
   refine Dp Tryz.func125 ?_;intro C hP hN;simp only[Tryz.f125]at hN|-;exact Gy
  have h1':¬(t.cells.length:Int)<1:=by omega
  by_cases h2:2048<t.cells.length
  .have h2':(2048:Int)<t.cells.length:=by omega
   refine Dp Tryz.func125 ?_;intro C hP hN;simp only[Tryz.f125]at hN|-;exact Gy
  have h2':¬(2048:Int)<t.cells.length:=by omega
  have h3:dG t.root=false:=by
   cases h:dG t.root with
   |false=>rfl
   |true=>simp[ip,h]at hs;omega
  rw[h3]at cv;refine Dp Tryz.func125 ?_;intro C hP hN;simp only[Tryz.f125]at hN|-;exact Gy
 |true=>
  obtain⟨z1,z2,z3,z4,z5⟩:=ey.1 hs
  have h1:¬t.cells.length<1:=by omega
  have h2:¬2048<t.cells.length:=by omega
  have h1':¬(t.cells.length:Int)<1:=by omega
  have h2':¬(2048:Int)<t.cells.length:=by omega
  have h3:dG t.root=true:=by simp only[ip,An]at hs;exact hs.2
  have hin:=Ew z1;rw[h3]at cv;refine Dp Tryz.func125 ?_;intro C hP hN;simp only[Tryz.f125]at hN|-;refine GT (gA h1' (gA h1 (gA h2 (gA h2' (gA hin (gA (show(24:Int)*t.cells.length<=281474976710656 by omega) (gA (show(t.cells.length:Int)<=9223372036854775807 by omega) (show 0<t.cells.length by omega)))))))) ?_;refine WP.loopN [7] t.cells.length (λi st=>∃L,BInv t i L∧st.t 4=.pv (Z t.cells.length)∧st.t 5=.arr 27 t.cells.length∧st.t 33=.pv (.sl (t.cells.map bD))∧st.t 34=.pv (Z t.cells.length)∧st.t 35=.pv (Z i)∧st.h 7=none∧st.h 27=some (.row 39 1 (L.map sK) 0)) (by exact⟨kc t,Cj hs,by simp[hin]⟩) ?_;rintro i st hi ⟨L,hB,g4,g5,g33,g34,g35,hb7,hb27⟩;have hLl:=hB.bok.len;by_cases hlt:i<t.cells.length
  .have hw:=al hlt hl
   have hlL:i<L.length:=by omega
   generalize hc:t.cells[i]=c at *
   have hci:t.cells[i]?=some c:=by rw[an hlt,hc]
   have bad:gE t.cells.length i c L=none->aX t=false∧aj t=[]:=λh=>tC (Ck hB hlt (by rw[hc];exact h));have cl:=KH c;have cf:=OQ c.v;have cz:=Tf c.v
   cases hx:L[i]? with
   |none=>rw[an hlL]at hx;cases hx
   |some x=>
   cases x with
   |none=>
    have hx':=bW hx hlL;obtain⟨e1,e2⟩:=bad (by simp[gE,hx]);rw[e1,e2];exact GS (gA g4 (gA g5 (gA g33 (gA g34 (gA g35 (gA hb7 (gA hb27 (gA hlt (gA hw (gA hx (gA hx' (gA @eK (gA @eL (gA hci (gA hc hLl)))))))))))))))
   |some b=>
   have hx':=bW hx hlL;obtain⟨hbl,hbv⟩:=hB.bok.ok i b hx
   have hb2:b≠[]:=by intro h;rw[h]at hbl;simp at hbl;omega
   have hb1:b.isEmpty=false:=by simp[hb2]
   cases hlf:dZ c with
   |true=>
    rw[hlf]at cl
    cases hf:ff c.v with
    |true=>
     rw[hf]at cf;have hnx:=tB (L':=L) hB hlt (by rw[hc,kS (t:=t) hx hlf,hf];rfl);refine GT (gA g4 (gA g5 (gA g33 (gA g34 (gA g35 (gA hb7 (gA hb27 (gA hlt (gA hw (gA hx (gA hx' (gA @eK (gA @eL (gA hci (gA hc (gA hLl (gA hb1 hb2))))))))))))))))) ?_
     all_goals exact⟨L,hnx,rfl⟩
    |false=>
     rw[hf]at cf;obtain⟨e1,e2⟩:=bad (by rw[kS (t:=t) hx hlf,hf];rfl);rw[e1,e2];exact GS (gA g4 (gA g5 (gA g33 (gA g34 (gA g35 (gA hb7 (gA hb27 (gA hlt (gA hw (gA hx (gA hx' (gA @eK (gA @eL (gA hci (gA hc (gA hLl (gA hb1 hb2)))))))))))))))))
   |false=>
    rw[hlf]at cl
    cases hin':lp t.cells.length i c with
    |false=>
     obtain⟨e1,e2⟩:=bad (md hx hlf (.inl hin'));rw[e1,e2];rcases yR hin' with h|h|h|h|h|h
     all_goals try rw[h]at cz
     all_goals
      exact GS (gA g4 (gA g5 (gA g33 (gA g34 (gA g35 (gA hb7 (gA hb27 (gA hlt (gA hw (gA hx (gA hx' (gA @eK (gA @eL (gA hci (gA hc (gA hLl (gA hb1 (gA hb2 h))))))))))))))))))
    |true=>
     obtain⟨i1,i2,i3,i4,i5,i6⟩:=jk.1 hin';rw[i6]at cz;have ch:=P2 b c.joint (by omega)
     have j1:¬c.low<=i:=by omega
     have j2:¬(t.cells.length:Int)<=c.low:=by omega
     have j3:¬c.high<=i:=by omega
     have j4:¬(t.cells.length:Int)<=c.high:=by omega
     have k1:c.low.toNat<t.cells.length:=by omega
     have k2:c.high.toNat<t.cells.length:=by omega
     have k3:0<=c.low:=by omega
     have k4:0<=c.high:=by omega
     have k5:c.low.toNat<L.length:=by omega
     have k6:c.high.toNat<L.length:=by omega
     cases hh:bE b c.joint with
     |false=>
      obtain⟨e1,e2⟩:=bad (md hx hlf (.inr (.inl hh)));rw[e1,e2];rw[hh]at ch;exact GS (gA g4 (gA g5 (gA g33 (gA g34 (gA g35 (gA hb7 (gA hb27 (gA hlt (gA hw (gA hx (gA hx' (gA @eK (gA @eL (gA hci (gA hc (gA hLl (gA hb1 (gA hb2 (gA j1 (gA j2 (gA j3 (gA j4 i5))))))))))))))))))))))
     |true=>
     rw[hh]at ch
     cases ha:L[c.low.toNat]? with
     |none=>rw[an k5]at ha;cases ha
     |some xa=>
     have ha':=bW ha k5
     cases xa with
     |some d=>
      obtain⟨e1,e2⟩:=bad (md hx hlf (.inr (.inr (.inl ⟨d,ha⟩))));rw[e1,e2];obtain⟨hdl,_⟩:=hB.bok.ok _ d ha
      have hd2:d≠[]:=by intro h;rw[h]at hdl;simp at hdl;omega
      have hd1:d.isEmpty=false:=by simp[hd2]
      with_reducible repeat' (first|refine Sp.h ?_|((first|refine Wd ?_|refine Ss.h ?_|refine Sc.h (cl) ?_|refine Sc.h (cz) ?_|refine Sc.h (ch) ?_|(refine Sb.h ?_ ?_ ?_<;>(try intro hgd)<;>try exact Xy))<;>simp -implicitDefEqProofs (maxSteps:=2000000) [hP,hN,g4,g5,g33,g34,g35,hb7,hb27,hlt,hw,hx,hx',eK,eL,hci,hc,hLl,hb1,hb2,j1,j2,j3,j4,i5,k1,k2,k3,k4,ha,ha',hd1,hd2]<;>try refine Ya ?_)|refine X2 ?_ ?_|(refine Xd ?_ ?_<;>intro hcd<;>try exact Xx))
     |none=>
     cases hz:L[c.high.toNat]? with
     |none=>rw[an k6]at hz;cases hz
     |some xz=>
     have hz':=bW hz k6
     cases xz with
     |some d=>
      obtain⟨e1,e2⟩:=bad (md hx hlf (.inr (.inr (.inr ⟨d,hz⟩))));rw[e1,e2];obtain⟨hdl,_⟩:=hB.bok.ok _ d hz
      have hd2:d≠[]:=by intro h;rw[h]at hdl;simp at hdl;omega
      have hd1:d.isEmpty=false:=by simp[hd2]
      with_reducible repeat' (first|refine Sp.h ?_|((first|refine Wd ?_|refine Ss.h ?_|refine Sc.h (cl) ?_|refine Sc.h (cz) ?_|refine Sc.h (ch) ?_|(refine Sb.h ?_ ?_ ?_<;>(try intro hgd)<;>try exact Xy))<;>simp -implicitDefEqProofs (maxSteps:=2000000) [hP,hN,g4,g5,g33,g34,g35,hb7,hb27,hlt,hw,hx,hx',eK,eL,hci,hc,hLl,hb1,hb2,j1,j2,j3,j4,i5,k1,k2,k3,k4,ha,ha',hz,hz',hd1,hd2]<;>try refine Ya ?_)|refine X2 ?_ ?_|(refine Xd ?_ ?_<;>intro hcd<;>try exact Xx))
     |none=>
      have hnx:=tB hB hlt (by rw[hc];exact rz hx hlf hin' hh ha hz)
      with_reducible repeat' (first|refine Sp.h ?_|((first|refine Wd ?_|refine Ss.h ?_|refine Sc.h (cl) ?_|refine Sc.h (cz) ?_|refine Sc.h (ch) ?_|(refine Sb.h ?_ ?_ ?_<;>(try intro hgd)<;>try exact Xy))<;>simp -implicitDefEqProofs (maxSteps:=2000000) [hP,hN,g4,g5,g33,g34,g35,hb7,hb27,hlt,hw,hx,hx',eK,eL,hci,hc,hLl,hb1,hb2,j1,j2,j3,j4,i5,k1,k2,k3,k4,ha,ha',hz,hz']<;>try refine Ya ?_)|refine X2 ?_ ?_|(refine Xd ?_ ?_<;>intro hcd<;>try exact Xx))
      all_goals exact⟨_,hnx,set_row⟩
  .have hdn:=Cl hB hlt
   have hmap:=Ez hdn
   have hval:aX t=true:=by simp[aX,hdn]
   rw[hval,<-hmap];exact GS (gA g4 (gA g5 (gA g33 (gA g34 (gA g35 (gA hb7 (gA hb27 (gA hlt hLl))))))))
end Go.Ab
