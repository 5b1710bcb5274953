/- The contracts and facts that the laws of this seat need, in one text (AbC, Ab27, Ab37, Ab38, Ab39, M15, M16, Vm2, AbQ, Vm3, Vm4, Cr1, Cr2, Ab32, Ab33, Cr3, Cr4, AbW, TrA, KV, K1, K2, K2b, K3, K4, K5, K5b, K6, K7, K8). -/
import Derived.Test.YtfpagjchfipjkaaGreatV7
import Derived.TacticsIn
import Derived.RangeFuncRecord
import Derived.RangeFuncLeaves
import Derived.RangeFuncCalls
import Derived.RangeFuncSeq
import Derived.RecoverIn
set_option linter.all false
set_option maxRecDepth 10000
set_option maxHeartbeats 16000000
namespace Go.Ab
open IntKind (i64)
open Go.Proofs.Tryz
variable {C:Cx}{F:Fence}{M:Nat->Nat->Prop}{N i id l n p:Nat}{P:Program}{Post:AV->Hp->Prop}{Q:Exit->St->Prop}{a:Act}{assign body c x y:Code}{ats:Array TypeId}{caps:List PV}{f gop:Operand}{fn:Func}{gf:FuncId}{hn kd ts:List Nat}{lb:List Value}{next:Act->World->Prop}{o:Oper}{ob:Obj}{ops:Array Oper}{res:RV}{st:St}{t:Nat->AV}{w w':World}
def rC(ops:Array Oper):Bool:=ops.toList.all λo=>match o.op with|.defer _=>false|_=>true
theorem nY(h:rC ops=true)(a:o∈ops.toList):∀c,o.op≠.defer c:=by
 intro c hc;have:=L4.1 h o a;rw[hc]at this;cases this
structure Wide(F:Fence):Prop where
 fn:∀f,F.fn f
 depth:F.depth=none
 calls:∀{n:Nat}{P:Program}{f:FuncId}{args:Array Value}{w:World}{R:Ending->World->Prop},Calls P f args w R->CallsIn F n P f args w R
 rows:∀{n:Nat}{P:Program}{row:String}{args:Array Value}{w:World}{R:Value->World->Prop},Rows P row args w R->RowsIn F n P row args w R
theorem iB:Wide Fence.wide:=⟨λ_=>trivial,rfl,λh=>callsIn_wide.2 h,λh c a _=>let⟨v,w',r,s⟩:=h c a;⟨v,w',r,stepsIn_wide.2 s⟩⟩
theorem Iu(l:Nat):Wide (Fence.wide.inRound l):=⟨λ_=>trivial,rfl,λh=>(callsIn_wide.2 h).inRound l,λh=>iB.rows h⟩
theorem G6(hF:Wide F)(hd:∀c,o.op≠.defer c){Q:Exit->Act->World->Prop}
 (h:o.wp P a w next Q):o.wpIn F n P a w next Q:=by
 refine⟨λf _=>hF.fn f,?_⟩;rw[Oper.semAt_eq _ _ _ hd];unfold Oper.wp at h
 cases e:(execOp a.eval o).run P w with
 |ok nx w'=>
  rw[e]at h
  cases nx with
  |value v=>exact h
  |skip=>exact h
  |defer d=>exact h
  |enter f args=>exact⟨λb=>(by rw[hF.depth]at b;cases b),hF.calls h⟩
  |row r args=>exact⟨λb=>(by rw[hF.depth]at b;cases b),hF.rows h⟩
  |_=>exact h.elim
 |halt k w'=>
  rw[e]at h
  cases k with
  |panic v=>exact h
  |_=>exact h.elim
def gt(C:Cx)(L:Nat->Loc)(st:St)(a:Act)(w:World):Prop:=
 MemL C L st.h w/\a.tmps.size=C.N/\∀n,RepA w (ab C L st.h) L st.h (st.t n) (a.tmps.getD n undef)
theorem gt.put{L:Nat->Loc}(hs:gt C L st a w){d:Option Nat}(hd:dJ C.N d=true){v:AV}{W:List (Nat×Blk)}{u:Value}{L':Nat->Loc}
 (c:aF C L st.h w L' (ag st.h W) w')(g:RepA w' (ab C L' (ag st.h W)) L' (ag st.h W) v u):gt C L' (st.put d v W) (a.put d u) w':=by
 obtain⟨i,hN,f⟩:=hs;refine⟨c.1,?_,λn=>?_⟩
 .cases d<;>simp[Act.put,hN]
 .have b:=(f n).mono c.2.1 c.2.2
  cases d with
  |none=>exact b
  |some d=>
   have e:d<a.tmps.size:=by rw[hN];simp only[dJ,up,Is]at hd;exact hd.1
   rw[gZ e];simp only[St.put,av];split
   .exact g
   .exact b
theorem Iw(st:St)(d:Option Nat)(v:AV)(W:List (Nat×Blk)):(st.put d v W).h=ag st.h W:=by cases d<;>rfl
theorem lC(a:Act)(d:Option Nat)(u:Value):(a.put d u).defers=a.defers:=by cases d<;>rfl
theorem EP{L:Nat->Loc}(hs:gt C L st a w)(v:∀c,o.op≠.defer c)(hd:dJ C.N o.dst=true){K:bP->Prop}(e:wH C.P hn o st.ev st.h K){Q:Exit->Act->World->Prop}
 (j:∀f r w' p,K f->gt C p (st.put o.dst f.1 f.2) r w'->aF C L st.h w p (st.put o.dst f.1 f.2).h w'->r.defers=a.defers->next r w'):o.wp C.P a w next Q:=by
 have z:=hs;obtain⟨q,hN,A⟩:=z
 have i:ug C.P hn o st.ev st.h K->o.wp C.P a w next Q:=λe=>
  EC q (λ_ _ h=>h) (λd s=>⟨rfl,by rw[s]at hd;simp only[dJ,up,Is]at hd;exact hd.2⟩) (λx _=>bB A x) e (λf u w' p J D M=>j f _ _ p J (hs.put hd D M) (by rw[Iw];exact D) (lC _ _ _))
 unfold wH at e;split at e
 .rename_i c k
  exact absurd k (v c)
 .rename_i op t x y t' k
  split at e
  .rename_i hc
   simp only[up,ZI,ZH]at hc;obtain⟨⟨⟨c1,F⟩,G⟩,l⟩:=hc;have R:=zR c1 (bB A y);obtain⟨B,n,c,O⟩:=wc q (bB A x) G
   obtain⟨b,hb⟩:∃b:Bool,(op=.eql/\b=B.isNone)\/(op=.neq/\b=!B.isNone):=by
    rcases l with l|l
    .exact⟨_,.inl ⟨l,rfl⟩⟩
    .exact⟨_,.inr ⟨l,rfl⟩⟩
   have m:(execOp a.eval o).run C.P w=.ok (.value (.bool b)) w:=by
    obtain⟨H,S,T,pos,E,g⟩:=o;simp only at k;subst k;exact eJ (B9 (rL F) O R hb) w
   have I:K (.pv (.val (.bool b)),[]):=by cases b with
    |true=>exact e.1
    |false=>exact e.2
   unfold Oper.wp;rw[m];exact j _ _ _ L I (hs.put hd (W:=[]) (aF.refl q) (.pv (.val _))) (by rw[Iw];exact aF.refl q) (lC _ _ _)
  .exact i e
 .exact i e
theorem iw{F:Fence}(hF:Wide F){n:Nat}{C:Cx}{hn:List Nat}{ops:Array Oper}{Q:St->Prop}{Q':Exit->Act->World->Prop}{E:Nat->Loc}{G:Hp}{w0:World}{ds:List Deferred}
 (u:∀st L a w,gt C L st a w->aF C E G w0 L st.h w->a.defers=ds->Q st->Q' .normal a w):
 ∀{l:List Oper}{st:St}{L:Nat->Loc}{a:Act}{w:World},(∀o∈l,∀c,o.op≠.defer c)->gt C L st a w->aF C E G w0 L st.h w->a.defers=ds->cw C.P hn C.N ops Q l st->wpListIn F n C.P ops Q' l a w
 |[],st,L,a,w,_,q,r,g,e=>u st L a w q r g e
 |o::l,st,L,a,w,s,q,r,g,e=>by
  have B:=q;obtain⟨K,hN,H⟩:=B;simp only[cw]at e;obtain⟨hd,e⟩:=e;have i:∀D∈l,∀c,D.op≠.defer c:=λD A=>s D (yA0 _ A);have v:=s o List.mem_cons_self;unfold wpListIn;split at e
  .rename_i y
   rw[dl H (pT y),YY rfl];exact G6 hF v (EP q v hd e (λx J w' I z j k m=>iw hF u i j (r.trans k) (m.trans g) z))
  .rename_i d b want y
   rw[dl H (me y)];unfold ze at e;simp only at e;split at e
   .rename_i p
    subst p;rw[YY (by simp)];exact G6 hF v (EP q v hd e (λx J w' I z j k m=>iw hF u i j (r.trans k) (m.trans g) z))
   .rename_i p
    rw[YR (by simpa using p)];exact⟨λf _=>hF.fn f,iw hF u i (q.put hd (W:=[]) (aF.refl K) (.pv (.val _))) (by rw[Iw];exact r) ((lC _ _ _).trans g) e⟩
  .exact e.elim
def bg(F:Fence)(C:Cx)(c:Code)(Q:Exit->St->Prop)(st:St):Prop:=
 ∀n L a w,gt C L st a w->c.wpIn F n C.P (λe f w'=>∃b d,gt C d b f w'/\aF C L st.h w d b.h w'/\f.defers=a.defers/\Q e b) a w
section
variable {F:Fence} {C:Cx} {Q:Exit->St->Prop} {st:St}
theorem bg.region(hF:Wide F)(a:rC ops=true)(h:cw C.P hn C.N ops (Q .normal) ops.toList st):bg F C (.region id ops false) Q st:=
 λ_ _ _ _ d=>wpIn_region_list (iw hF (λc e _ _ b f hd hq=>⟨c,e,b,f,hd,hq⟩) (λ_ g=>nY a g) d (aF.refl d.1) rfl h)
def D2(F:Fence)(C:Cx)(y:Code)(Q:Exit->St->Prop):Exit->St->Prop
 |.normal,st=>bg F C y Q st
 |e,st=>Q e st
theorem bg.seq(h:bg F C x (D2 F C y Q) st):bg F C (.seq x y) Q st:=by
 intro n L a w p;refine wpIn_seq (wpIn_mono (h n L a w p) ?_);rintro e o w' ⟨i,k,b,l,hd,hq⟩
 cases e with
 |normal=>exact wpIn_mono (hq n k o w' b) (λe a2 w2 ⟨j,m,g,c,d,f⟩=>⟨j,m,g,l.trans c,d.trans hd,f⟩)
 |_=>exact⟨i,k,b,l,hd,hq⟩
theorem bg.skip(h:Q .normal st):bg F C .skip Q st:=λ_ L _ _ a=>wpIn_skip ⟨st,L,a,aF.refl a.1,rfl,h⟩
theorem bg.ret(h:Q .ret st):bg F C .ret Q st:=λ_ L _ _ a=>wpIn_ret ⟨st,L,a,aF.refl a.1,rfl,h⟩
theorem bg.exit(h:Q (.exit id) st):bg F C (.exit id) Q st:=λ_ L _ _ a=>wpIn_exit ⟨st,L,a,aF.refl a.1,rfl,h⟩
theorem bg.cond{c:Operand}{b:Bool}(hc:st.ev c=.pv (.val (.bool b)))(i:b=true->bg F C x Q st)(hf:b=false->bg F C y Q st):bg F C (.cond c x y) Q st:=by
 intro n L a w f
 have d:a.eval c=.bool b:=by
  have:=bB f.2.2 c;rw[hc]at this
  cases this with
  |pv g=>exact aJ g
 exact wpIn_cond_split d (λe=>i e n L a w f) (λe=>hf e n L a w f)
theorem bg.block(h:bg F C c (nQ id Q) st):bg F C (.block id c) Q st:=by
 intro n L a w j;refine wpIn_block (wpIn_mono (h n L a w j) ?_);rintro e k w' ⟨d,f,b,g,hd,hq⟩
 cases e with
 |exit i=>
  simp only[nQ,Exit.inBlock]at hq|-;split
  .rename_i e;rw[YY e]at hq;exact⟨d,f,b,g,hd,hq⟩
  .rename_i e;rw[YR e]at hq;exact⟨d,f,b,g,hd,hq⟩
 |_=>exact⟨d,f,b,g,hd,hq⟩
theorem bg.mono{Q':Exit->St->Prop}(h:bg F C c Q st)(hq:∀e st,Q e st->Q' e st):bg F C c Q' st:=
 λn L a w j=>wpIn_mono (h n L a w j) (λe _ _ ⟨b,g,f,i,hd,d⟩=>⟨b,g,f,i,hd,hq e b d⟩)
end
theorem N7{b o:Nat}{v:Value}(a:w.heap[l]?=some ob)(hc:ob.isCells=false)(h:w.cell? ⟨b,o,none⟩=some v):b≠l:=by
 intro e;subst e;obtain⟨c,h1,h2⟩:=cells_of_cell h;simp only at h1;rw[a]at h1;injection h1 with h1;subst h1;rw[hc]at h2;cases h2
theorem PC{L:Nat->Loc}{h:Hp}{a:Loc}{blk:Blk}(hb:dh w M L h a blk)(i:blk.live a)(f:w.heap[l]?=some ob)(hc:ob.isCells=false)(d:∀arr c,ob≠.map arr c):a.b≠l:=by
 intro e;subst e
 cases blk with
 |box j own g=>obtain⟨arr,m,e,_⟩:=hb;rw[f]at e;injection e with e;subst e;cases hc
 |row e k xs g=>obtain⟨_,_,_,_,h5⟩:=hb;obtain⟨_,_,arr,e,_⟩:=h5 i;rw[f]at e;injection e with e;subst e;cases hc
 |mp kd n es g=>obtain⟨arr,c,e,_⟩:=hb;rw[f]at e;injection e with e;exact d _ _ e
theorem MemL.turn{L:Nat->Loc}{h:Hp}(d:MemL C L h w)(s:C.w0.heap[l]?=some ob)(hS:¬C.S l)(hc:ob.isCells=false)(n:∀arr c,ob≠.map arr c)(g:Obj):
 MemL {C with w0:=C.w0.putObj l g} L h (w.putObj l g)/\Pres w (ab C L h) (w.putObj l g) (ab C L h):=by
 have j:l<C.w0.heap.size:=(Zp.1 s).1;have q:w.heap[l]?=some ob:=(d.ext.block l j hS).trans s;have m:l<w.heap.size:=(Zp.1 q).1;have f:Pres w (ab C L h) (w.putObj l g) (ab C L h):=⟨λb o v i hn=>⟨(World.cell?_of_block (World.putObj_heap_other (N7 q hc i))).trans i,hn⟩,λb arr c i hn=>⟨(World.putObj_heap_other (by rintro rfl;rw[q]at i;injection i with i;exact n _ _ i)).trans i,hn⟩⟩;refine⟨⟨⟨d.ext.os,d.ext.tape,d.ext.output,by simpa using d.ext.size,λb hb x=>?_⟩,λb o hb=>by simpa using d.m0 b o hb,λk a p=>(d.bl k a p).mono f (KC.refl _ _) (λr=>World.putObj_heap_other (PC (d.bl k a p) r q hc n)),d.sep,λk a p=>?_⟩,f⟩
 .by_cases e:b=l
  .subst e
   rw[World.putObj_heap_same m,World.putObj_heap_same j]
  .rw[World.putObj_heap_other e,World.putObj_heap_other e]
   exact d.ext.block b (by simpa using hb) x
 .have:=d.own k a p
  cases a with
  |box y own u=>cases own with
   |true=>simpa[dy]using this
   |false=>simpa[dy]using this
  |row e z xs u=>simpa[dy]using this
  |mp=>simpa[dy]using this
theorem zm{o:Obj}(h:w.heap[l]?=some o):w.putObj l o=w:=by
 have:w.heap.setIfInBounds l o=w.heap:=by
  apply Array.ext_getElem?;intro i;rw[Array.getElem?_setIfInBounds];by_cases e:l=i
  .subst e
   rw[YY rfl,YY (Zp.1 h).1,h]
  .rw[YR e]
 show{w with heap:=w.heap.setIfInBounds l o}=w;rw[this]
theorem wg(w:World)(l:Nat)(o o':Obj):(w.putObj l o).putObj l o'=w.putObj l o':=by
 show{w with heap:=(w.heap.setIfInBounds l o).setIfInBounds l o'}={w with heap:=w.heap.setIfInBounds l o'}
 congr 1
 apply Array.ext_getElem?;intro i;simp only[Array.getElem?_setIfInBounds,Array.size_setIfInBounds];by_cases e:l=i
 .subst e;simp
 .simp[e]
theorem zS{a:Array Value}{d:Nat}{u:Value}(hd:d<a.size)(n:Nat):(a.setIfInBounds d u).getD n undef=if n=d then u else a.getD n undef:=by
 simp only[YZ];by_cases e:n=d
 .subst e;simp[hd]
 .rw[YR e,ZK (by omega)]
theorem ng{b:Nat}{ps:List PV}(h:ko w M b ps):b<w.heap.size:=by
 obtain⟨arr,a,e,_⟩:=h;exact(Zp.1 e).1
def Nk(P:Program)(gf:FuncId)(caps:List PV)(xs:List (PV×PV)):Prop:=
 bR P gf=true/\∀(n l:Nat)(lb:List Value)(W:World)(M:Nat->Nat->Prop)(J:Nat->(Nat->Nat->Prop)->World->Prop),
  (∀i M W,J i M W->∀b o,M b o->b<W.heap.size)->(∀i M W a,J i M W->Ext (λ_=>False) W a->J i M a)->
  (∀m i x M W v1 v2,xs[i]?=some x->J i M W->Rep W M x.1 v1->Rep W M x.2 v2->YieldAt Fence.wide m P l #[v1,v2] W λe a=>e=.returned (.bool true)/\∃c,J (i+1) c a/\Pres W M a c)->
  J 0 M W->bn W M caps lb->CallsIn Fence.wide n P gf (#[.func (.yield l) #[] #[]]++lb.toArray) W λe a=>(∃v,e=.returned v)/\∃c,J xs.length c a
def kA(ks:List Nat)(hin:Nat->List PV):Hp:=λk=>if ks.contains k=true then some (.box ((hin k).map .pv) false false)else none
def Iy(t:Nat->AV)(p q:Nat)(x:PV×PV):Nat->AV:=av (av t p (.pv x.1)) q (.pv x.2)
theorem Lh{q:Nat}(hg:a.eval gop=.func (.func gf) #[] lb.toArray)
 {caps:List PV}{xs:List (PV×PV)}(a6:Nk P gf caps xs){M:Nat->Nat->Prop}(hM:∀b o,M b o->b<w.heap.size)(ak:bn w M caps lb)
 {ks:List Nat}{bs:Nat->Nat}{hin:Nat->List PV}(F:∀k∈ks,(∀o,M (bs k) o)/\ko w M (bs k) (hin k))(ar:∀k∈ks,∀Z∈ks,k≠Z->bs k≠bs Z)
 (hN:a.tmps.size=N)(hp:p<N)(hq:q<N){t:Nat->AV}(ht:∀m,(∃k∈ks,t m=.ptr k 0/\a.tmps.getD m undef=.pointer (some ⟨bs k,0,none⟩))\/t m=.undef)
 (I:Nat->Hp->Prop)(h0:I 0 (kA ks hin))(hI:∀i h k,k∈ks->I i h->∃cs,h k=some (.box cs false false))
 (Q:∀(C C':Cx)(l i:Nat)(x:PV×PV)(h:Hp),C.P=P->C.N=N->C'.P=P->C'.N=N->xs[i]?=some x->I i h->
   bg (Fence.wide.inRound l) C assign (λe cv=>e=.normal/\bg (Fence.wide.inRound l) C' body (λe' b3=>e'=.normal/\I (i+1) b3.h) cv) ⟨Iy t p q x,h⟩):
 (Code.rangeFunc gop #[p,q] assign body).wpIn Fence.wide n P (λe a' w'=>e=.normal/\∃(C:Cx)(L:Nat->Loc)(h:Hp)(D:Nat),C.P=P/\C.N=N/\C.M0=M/\(∀b,C.S b->∃k∈ks,b=bs k)/\
   MemL C L h w'/\I xs.length h/\(∀k∈ks,(L k).b=bs k)/\Ext (λ_=>False) w C.w0/\C.w0.heap[D]?=some (.deferred (some []))/\¬C.S D/\w.heap.size<=D/\a'={a with defers:={target:=.collected D,args:=#[]}::a.defers}) a w:=by
 refine wpIn_rangeFunc ?_;intro fn _;obtain⟨rec,g⟩:∃rec:LoopState->Option Code->Loop,rec=λst pe=>{state:=st,pending:=pe,fn,tmps:=a.tmps,params:=#[p,q],assign,body,defers:=w.heap.size}:=⟨_,rfl⟩;obtain⟨A,J⟩:∃A,(w.alloc (.deferred (some []))).alloc (.loop (rec .ready none))=A:=⟨_,rfl⟩
 have H:Ext (λ_=>False) w A:=by rw[<-J];exact(Ext.alloc _ _ _).trans (Ext.alloc _ _ _) (λ_ _ h=>h)
 have cD:A.heap.size=w.heap.size+2:=by rw[<-J];simp
 have T:A.heap[w.heap.size+1]?=some (.loop (rec .ready none)):=by
  rw[<-J];have:=World.alloc_heap_new (w.alloc (.deferred (some []))) (.loop (rec .ready none));rwa [World.size_alloc]at this
 have b7:A.heap[w.heap.size]?=some (.deferred (some [])):=by
  rw[<-J];exact(RowKit.Below.heap_alloc _ _ _ (by simp)).trans (World.alloc_heap_new w _)
 obtain⟨l,hl⟩:∃l,l=w.heap.size+1:=⟨_,rfl⟩;rw[<-hl]at T;obtain⟨f,d⟩:∃f:Obj->Cx,f=λo=>{P:=P,N:=N,M0:=M,S:=λb=>∃k∈ks,b=bs k,pb:=λk=>if ks.contains k=true then some (bs k)else none,w0:=A.putObj l o}:=⟨_,rfl⟩
 have hS:∀o b,(f o).S b->b<w.heap.size:=by
  intro o b hb;rw[d]at hb;obtain⟨k,j,rfl⟩:=hb;exact ng (F k j).2
 have G:∀o,(f o).w0=A.putObj l o:=λo=>by rw[d]
 have ad:∀o o' L h,ab (f o) L h=ab (f o') L h:=λo o' L h=>by rw[d];rfl
 have U:∀(o:Obj),(f o).w0.heap[l]?=some o:=λo=>by rw[G];exact World.putObj_heap_same (Zp.1 T).1
 have a7:∀o,¬(f o).S l:=λo h=>by have:=hS o l h;omega
 have y:∀{o o':Obj}{L:Nat->Loc}{h:Hp}{W:World},o.isCells=false->(∀arr c,o≠.map arr c)->MemL (f o) L h W->W.heap[l]?=some o/\MemL (f o') L h (W.putObj l o')/\Pres W (ab (f o) L h) (W.putObj l o') (ab (f o') L h):=by
  intro o o' L h W ho ch B;have cc:l<(f o).w0.heap.size:=(Zp.1 (U o)).1;obtain⟨h1,h2⟩:=B.turn (U o) (a7 o) ho ch o';refine⟨(B.ext.block l cc (a7 o)).trans (U o),?_,?_⟩
  .have e:({f o with w0:=(f o).w0.putObj l o'}:Cx)=f o':=by rw[d];simp only[wg]
   rw[e]at h1;exact h1
  .rw[ad o' o];exact h2
 have u:A.putObj l (.loop (rec .ready none))=A:=zm T
 have R:∀{o:Obj}{L:Nat->Loc}{h:Hp}{W:World}{i k:Nat},k∈ks->I i h->MemL (f o) L h W->(L k).b=bs k:=by
  intro o L h W i k j hi B;obtain⟨cs,hc⟩:=hI i h k j hi;have:=(B.own k _ hc).2.1;rw[d]at this
  have X:ks.contains k=true:=by simpa using j
  simp only[X,Za,YV]at this;exact this.symm
 let L0:Nat->Loc:=λk=>⟨bs k,0,false⟩
 have z:∀k r,kA ks hin k=some r->k∈ks/\r=.box ((hin k).map .pv) false false:=by
  intro k r j;unfold kA at j;split at j
  .rename_i hc;injection j with j;exact⟨by simpa using hc,j.symm⟩
  .cases j
 have b8:∀o b o',ab (f o) L0 (kA ks hin) b o'->M b o':=by
  rintro o b o' (hb|⟨k,r,j,_,hb,_⟩)
  .rw[d]at hb;exact hb
  .obtain⟨s,_⟩:=z k r j
   rw[<-hb];exact(F k s).1 o'
 have E:Pres w M A (ab (f (.loop (rec .ready none))) L0 (kA ks hin)):=Pres.ext H (λ_ _ h=>h.elim) λb o _ h=>b8 _ b o h
 have cd:MemL (f (.loop (rec .ready none))) L0 (kA ks hin) A:=by
  refine⟨by rw[G,u];exact Ext.refl _ _,?_,?_,?_,?_⟩
  .intro b o hb
   rw[G,u];rw[d]at hb;have:=hM b o hb;omega
  .intro k r j
   obtain⟨s,rfl⟩:=z k r j;obtain⟨arr,ty,e1,e2⟩:=(F k s).2;exact⟨arr,ty,(H.block _ (ng (F k s).2) (λh=>h)).trans e1,aC.map_pv (e2.mono E)⟩
  .intro k Z b1 b2 ck j O _ _
   exact ar k (z k b1 j).1 Z (z Z b2 O).1 ck
  .intro k r j
   obtain⟨s,rfl⟩:=z k r j
   have X:ks.contains k=true:=by simpa using s
   refine⟨rfl,?_,?_,?_,?_⟩
   .rw[d];simp only[X,Za];rfl
   .rw[d];exact⟨k,s,rfl⟩
   .rw[G,u];have:=ng (F k s).2;show bs k<_;omega
   .intro o;rw[d];exact(F k s).1 o
 refine⟨l,[{target:=.collected w.heap.size,args:=#[]}],A,{target:=.fn (.func gf) lb.toArray,args:=#[.func (.yield l) #[] #[]]},A,gf,#[.func (.yield l) #[] #[]]++lb.toArray,A,?_,?_,λ_ _=>trivial,sW a6.1 _ _ _,λh=>(by cases h),?_⟩
 .rw[<-J,g,hl];exact run_enterLoop_outer _ _ _ _ _
 .simp only[resolve,hg]
  simp[go_sem]
 .refine(a6.2 (n-1) l lb A _ (λi M' W=>∃L h,I i h/\MemL (f (.loop (rec .ready none))) L h W/\M'=ab (f (.loop (rec .ready none))) L h) ?_ ?_ ?_ ⟨L0,_,h0,cd,rfl⟩ (ak.mono E)).mono ?_
  .rintro i M' W ⟨L,h,_,B,rfl⟩ b o hb
   exact B.mlt hb
  .rintro i M' W W' ⟨L,h,hi,B,rfl⟩ hx
   exact⟨L,h,hi,(B.grow hx).1,rfl⟩
  .
   rintro m i x M' W v1 v2 cu ⟨L,h,hi,B,rfl⟩ cp cq;obtain⟨cb,_,_⟩:=y (o':=.loop (rec .ready none)) rfl (by intro _ _ h;cases h) B;have hy:=run_yield (P:=P) (args:=#[v1,v2]) cb (by rw[g];rfl);rw[g]at hy;refine⟨fn,(a.tmps.setIfInBounds p v1).setIfInBounds q v2,assign,body,by simpa using hy,roundIn_of_wpIn trivial ?_⟩
   have bq:gt (f (.loop (rec .ready none))) L ⟨Iy t p q x,h⟩ {tmps:=(a.tmps.setIfInBounds p v1).setIfInBounds q v2,defers:=[]} W:=by
    refine⟨B,by rw[d];simpa using hN,λk=>?_⟩
    have cn:q<(a.tmps.setIfInBounds p v1).size:=by rw[Array.size_setIfInBounds,hN];exact hq
    have cm:p<a.tmps.size:=by rw[hN];exact hp
    simp only[zS cn,zS cm,Iy,av];split
    .exact .pv cq
    .split
     .exact .pv cp
     .rcases ht k with⟨Z,O,e1,e2⟩|e1
      .obtain⟨cs,hc⟩:=hI i h Z O hi
       rw[e1,e2,<-R O hi B];exact .ptr hc
      .rw[e1];exact .undef _
   have ah:(f (.loop (rec .ready none))).P=P:=by rw[d]
   have aj:(f (.loop (rec .busy none))).P=P:=by rw[d]
   have hR:=Q (f (.loop (rec .ready none))) (f (.loop (rec .busy none))) l i x h ah (by rw[d]) aj (by rw[d]) cu hi m L _ W bq;rw[ah]at hR;refine wpIn_mono hR ?_;rintro e a1 w1 ⟨cz,L1,K,b4,_,rfl,V⟩;obtain⟨ca,cf,a8⟩:=y (o':=.loop (rec .busy none)) rfl (by intro _ _ h;cases h) K.1;refine⟨w1.putObj l (.loop (rec .busy none)),?_,?_⟩
   .have:=run_beginRound (P:=P) ca (by rw[g])
    rw[g]at this|-;exact this
   have ct:gt (f (.loop (rec .busy none))) L1 cz a1 (w1.putObj l (.loop (rec .busy none))):=⟨cf,by have:=K.2.1;rw[d]at this|-;exact this,λk=>(K.2.2 k).mono a8 (KC.refl _ _)⟩;have hB:=V m L1 a1 _ ct;rw[aj]at hB;refine wpIn_mono hB ?_;rintro e2 a2 w2 ⟨cB,L2,cr,b5,_,rfl,b9⟩;obtain⟨Y,cj,hpr⟩:=y (o':=.loop (rec .ready none)) rfl (by intro _ _ h;cases h) cr.1;refine⟨_,_,run_endRound none Y,rfl,_,⟨L2,cB.h,b9,?_,rfl⟩,?_⟩
   .have e:(Obj.loop {rec .busy none with state:=if(none:Option Code).isNone=true then .ready else .done,pending:=none})=.loop (rec .ready none):=by rw[g];rfl
    rw[e];exact cj
   .have e:(Obj.loop {rec .busy none with state:=if(none:Option Code).isNone=true then .ready else .done,pending:=none})=.loop (rec .ready none):=by rw[g];rfl
    rw[e];exact((b4.2.1.trans a8).trans b5.2.1).trans hpr
  .
   rintro e W2 ⟨⟨v,rfl⟩,M',L,h,hi,B,_⟩;obtain⟨Y,cg,_⟩:=y (o':=.loop (rec .exhausted none)) rfl (by intro _ _ h;cases h) B;refine⟨none,W2.putObj l (.loop (rec .exhausted none)),?_,rfl,f (.loop (rec .exhausted none)),L,h,w.heap.size,by rw[d],by rw[d],by rw[d],?_,cg,hi,λk j=>R j hi B,?_,?_,?_,Y0 _,rfl⟩
   .have:=run_endLoop (P:=P) Y (by rw[g];simp)
    rw[g]at this|-;exact this
   .intro b hb
    rw[d]at hb;exact hb
   .rw[G]
    refine⟨H.os,H.tape,H.output,by simp;omega,λb hb _=>?_⟩;rw[World.putObj_heap_other (by omega)];exact H.block b hb (λh=>h)
   .rw[G,World.putObj_heap_other (by omega)];exact b7
   .intro hb
    have:=hS _ _ hb;omega
def Ce(P:Program)(g:FuncId):Prop:=bR P g=true/\∀(n:Nat)(args:Array Value)(w:World),CallsDIn Fence.wide n P g args .returning w λe a w'=>a=.returning/\(∃v,e=.returned v)/\w'=w
def AZ(P:Program)(ds:List Deferred):Prop:=∀d∈ds,∃g cap,d.target=.fn (.func g) cap/\Ce P g
theorem sZ{n:Nat}{P:Program}{fn:Func}{tmps:Array Value}{R:Ending->World->Prop}{w:World}{v:Value}:∀{ds:List Deferred},AZ P ds->(results fn tmps).run P w=.ok v w->R (.returned v) w->LeavesInM Fence.wide n P fn tmps R ds .returning w
 |[],_,b,a=>⟨v,b,a⟩
 |d::ds,hq,b,a=>by
  obtain⟨g,cap,f,c⟩:=hq d (by simp);refine⟨by simp,.inr ⟨λh=>(by cases h),.func g,cap,g,d.args++cap,f,by rw[f];exact sW c.1 _ _ _,λ_ _=>trivial,(c.2 _ _ w).mono ?_⟩⟩;rintro e i w' ⟨rfl,⟨j,rfl⟩,rfl⟩;exact sZ (λd hd=>hq d (by simp[hd])) b a
def PD(C:Cx)(res:PV):Ending->World->Prop:=λe w'=>∃v,e=.returned v/\Ext (λ_=>False) C.w0 w'/\Rep w' C.M0 res v
theorem G7{L:Nat->Loc}(hs:gt C L st a w){res:PV}(f:iP C.P fn.results.toList [] (.pv res) st):∃u,(results fn a.tmps).run C.P w=.ok u w/\Rep w C.M0 res u:=by
 obtain⟨r,h1,_,W,e⟩:=f;obtain⟨u,c,d⟩:=nR (C:=C) hs.1 hs.2.2 h1;obtain⟨b1,b2,_⟩:=m9 hs.1 (bH.refl _) d e;exact⟨u,c,b2.mono (Pres.sub (λb o h=>.inl h))⟩
def EQ:RV->Bool
 |.pv _=>true
 |.nrow _ _ _=>true
 |_=>false
@[simp] theorem W5{p:PV}:EQ (.pv p)=true:=rfl
@[simp] theorem TD{e sz:Nat}{xs:List PV}:EQ (.nrow e sz xs)=true:=rfl
def Nl(C:Cx)(res:RV):Ending->World->Prop:=λe w'=>∃v,e=.returned v/\Ext (λ_=>False) C.w0 w'/\AL C.w0 w' C.M0 res v
theorem ER{L:Nat->Loc}(hs:gt C L st a w)(m:EQ res=true)(y:iP C.P fn.results.toList [] res st):∃u,(results fn a.tmps).run C.P w=.ok u w/\∀(w0:World)(M:Nat->Nat->Prop),(∀b o,M b o->C.M0 b o)->(∀b,(C.w0.heap.size<=b\/(C.S b/\∀o,¬C.M0 b o))->w0.heap.size<=b)->AL w0 w M res u:=by
 cases res with
 |pv p=>
  obtain⟨u,h1,h2⟩:=G7 hs y;exact⟨u,h1,λw0 M f _=>h2.mono (Pres.sub f)⟩
 |nrow e J xs=>
  obtain⟨r,h1,_,l,k,rfl,d⟩:=y;obtain⟨u,q,s⟩:=nR (C:=C) hs.1 hs.2.2 h1;refine⟨u,q,λw0 M f g=>⟨l,L k,?_,λhn=>g _ ((hs.1.own _ _ d).row hn),?_⟩⟩
  .cases s with
   |arr c E F=>
    rw[d]at c;injection c with c;injection c with a1 a2 a3 a4;subst a3;exact F rfl
  .obtain⟨c1,I,z,A,B⟩:=hs.1.bl _ _ d
   refine⟨c1,ZG _,z,A,λhn=>?_⟩;obtain⟨d1,d2,arr,d3,d4,d5⟩:=B hn;refine⟨d1,d2,arr,d3,d4,λi x j p H D=>?_⟩;obtain⟨v,G,n⟩:=d5 i x j p H D;refine⟨v,G,n.mono (Pres.sub ?_)⟩;rintro b o (h|⟨_,rfl⟩)
   .exact .inl (f _ _ h)
   .exact .inr ⟨k,_,d,hn,rfl,by simp[Blk.frz]⟩
 |_=>cases m
theorem dF{F:Fence}{n:Nat}{P:Program}{ops:Array Oper}{Q:Exit->Act->World->Prop}(c:List Oper):∀{f:List Oper}{a:Act}{w:World},
 wpListIn F n P ops (Exit.then (wpListIn F n P ops Q c) Q) f a w->wpListIn F n P ops Q (f++c) a w
 |[],a,w,h=>h
 |o::f,a,w,h=>by
  rw[List.cons_append];unfold wpListIn at h|-;split
  .rename_i d
   rw[YY d]at h;refine⟨h.1,?_⟩;have h2:=h.2;generalize(o.semAt F.round a.eval).run P w=r at h2|-;unfold Oper.uponIn at h2|-;split<;>simp only at h2|-
   .exact dF c h2
   .exact dF c h2
   .exact dF c h2
   .refine⟨h2.1,h2.2.mono ?_⟩
    intro e w' b
    cases e with
    |returned v=>exact dF c b
    |panicked g=>exact b
    |outgrown=>exact b
   .exact⟨h2.1,h2.2.mono λv w' b=>dF c b⟩
   .refine⟨h2.1,h2.2.mono ?_⟩
    intro e w' b
    cases e with
    |returned v=>exact dF c b
    |panicked g=>exact b
    |outgrown=>exact b
   .exact h2
  .rename_i d
   rw[YR d]at h;exact⟨h.1,dF c h.2⟩
def rQ(C:Cx)(fn:Func)(res:RV)(c:Code)(st:St):Prop:=
 ∀n L a w,gt C L st a w->AZ C.P a.defers->c.wpIn Fence.wide n C.P (bodyPostM Fence.wide n C.P fn (Nl C res)) a w
section
variable {C:Cx} {fn:Func} {res:RV} {st:St}
theorem vf{S:Nat->Prop}(hS:∀b,¬S b)(h:Ext S w w'):Ext (λ_=>False) w w':=⟨h.os,h.tape,h.output,h.size,λb hb _=>h.block b hb (hS b)⟩
def Li(C:Cx)(fn:Func)(res:RV)(y:Code):Exit->St->Prop
 |.normal,st=>rQ C fn res y st
 |.ret,st=>EQ res=true/\iP C.P fn.results.toList [] res st
 |_,_=>False
theorem rQ.seq(f:∀b,¬C.S b)(h:bg Fence.wide C x (Li C fn res y) st):rQ C fn res (.seq x y) st:=by
 intro n L a w j hq;refine wpIn_seq (wpIn_mono (h n L a w j) ?_);rintro e i w' ⟨k,g,d,l,hd,c⟩
 cases e with
 |normal=>exact c n g i w' d (by rw[hd];exact hq)
 |ret=>
  obtain⟨u,h1,h2⟩:=ER d c.1 c.2;exact sZ (by rw[hd];exact hq) h1 ⟨u,rfl,vf f d.1.ext,h2 _ _ (λ_ _ h=>h) (λb h=>h.elim id λh9=>absurd h9.1 (f b))⟩
 |exit=>exact c.elim
 |goto=>exact c.elim
 |panic=>exact c.elim
 |outgrown=>exact c.elim
theorem JW{Q:Exit->Act->World->Prop}(h:o.wp P a w next Q):o.wpIn Fence.wide n P a w next Q:=by
 refine⟨λf _=>trivial,?_⟩
 show o.uponIn Fence.wide n P a next Q ((o.semAt none a.eval).run P w)
 rw[Oper.semAt_none];unfold Oper.wp at h
 cases c:(execOp a.eval o).run P w with
 |ok nx w'=>
  rw[c]at h
  cases nx with
  |value v=>exact h
  |skip=>exact h
  |defer d=>exact h
  |enter f args=>exact⟨λb=>(by cases b),iB.calls h⟩
  |row r args=>exact⟨λb=>(by cases b),iB.rows h⟩
  |_=>exact h.elim
 |halt k w'=>
  rw[c]at h
  cases k with
  |panic v=>exact h
  |_=>exact h.elim
theorem rQ.defer{pre:List Oper}{c:Call}{g:FuncId}(i:ops.toList=pre++[o])(p:∀o∈pre,∀c,o.op≠.defer c)(z:o.op=.defer c)(m:o.guard=none)(hd:o.dst=none)(hf:c.callee=.value f)(x:c.args.size=0)(hq:Ce C.P g)
 (h:cw C.P hn C.N ops (λk=>(∃first caps,k.ev f=.fn (.func g) first caps)/\rQ C fn res y k) pre st):rQ C fn res (.seq (.region id ops false) y) st:=by
 intro n L a w s r;refine wpIn_seq (wpIn_region_list ?_);rw[i];refine dF _ (iw iB (ds:=a.defers) ?_ p s (aF.refl s.1) rfl h);intro E u a1 w1 e _ l q;obtain⟨⟨first,caps,A⟩,D⟩:=q;obtain⟨F,v,j⟩:=JQ (by have:=bB e.2.2 f;rw[A]at this;exact this);show wpListIn Fence.wide n C.P ops _ [o] a1 w1;unfold wpListIn
 have B:Region.wanted o (yielded ops a1.tmps)=true:=by unfold Region.wanted;rw[m]
 rw[YY B];refine JW (Oper.wp_defer z hf x j ?_);rw[hd];refine D n u _ w1 ⟨e.1,e.2.1,e.2.2⟩ ?_;intro d b;rcases Zi.1 b with rfl|b
 .exact⟨g,v,rfl,hq⟩
 .rw[l]at b;exact r d b
theorem rQ.range(A:∀b,¬C.S b){q b0:Nat}{xs:List (PV×PV)}(b7:Nk C.P gf caps xs)(hp:p<C.N)(hq:q<C.N)
 {ks:List Nat}{hin:Nat->List PV}{t:Nat->AV}
 (hx:bg Fence.wide C x (λe f=>e=.normal/\f.ev gop=.pv (.fn (.func gf) [] caps)/\(∀k∈ks,f.h k=some (.box ((hin k).map .pv) true false))/\∀m,(∃k∈ks,t m=.ptr k 0/\f.t m=.ptr k 0)\/t m=.undef) st)
 (I:Nat->Hp->Prop)(h0:I 0 (kA ks hin))(hI:∀i h k,k∈ks->I i h->∃cs,h k=some (.box cs false false))
 (E:∀(C1 g:Cx)(l i:Nat)(x:PV×PV)(h:Hp),C1.P=C.P->C1.N=C.N->g.P=C.P->g.N=C.N->xs[i]?=some x->I i h->
   bg (Fence.wide.inRound l) C1 assign (λe f=>e=.normal/\bg (Fence.wide.inRound l) g body (λe' a6=>e'=.normal/\I (i+1) a6.h) f) ⟨Iy t p q x,h⟩)
 (cb:rC ops=true){hn:List Nat}(M:∀h,I xs.length h->cw C.P hn C.N ops (λf=>EQ res=true/\iP C.P fn.results.toList [] res f) ops.toList ⟨t,h⟩):
 rQ C fn res (.seq (.seq x (.block b0 (.rangeFunc gop #[p,q] assign body))) (.seq (.region id ops false) .ret)) st:=by
 intro n L a w hs cf;refine wpIn_seq (wpIn_seq (wpIn_mono (hx n L a w hs) ?_));rintro e a1 w1 ⟨R,T,c,cp,b4,rfl,hg,y,aj⟩;have K:=bB c.2.2 gop;rw[hg]at K
 obtain⟨us,ck,X⟩:∃us:List Value,a1.eval gop=.func (.func gf) #[] us.toArray/\bn w1 (ab C T R.h) caps us:=by
  generalize a1.eval gop=u at K
  cases K with
  |pv B=>
   cases B with
   |fn _ _ _ vs us hl j h1 h2=>
    have:vs=[]:=Zn hl.symm;subst this;exact⟨us,rfl,j,h2⟩
 have b3:∀k∈ks,(∀o,ab C T R.h (T k).b o)/\ko w1 (ab C T R.h) (T k).b (hin k):=by
  intro k j;obtain⟨arr,ty,z,r⟩:=c.1.bl k _ (y k j);exact⟨λo=>.inr ⟨k,_,y k j,trivial,rfl,by simp[Blk.frz]⟩,arr,ty,z,r.map_pv_inv⟩
 refine wpIn_block (wpIn_mono (Lh (N:=C.N) ck b7 (λb o h=>c.1.mlt h) X b3 (λk j k' b8 cc=>c.1.sep k k' _ _ cc (y k j) (y k' b8) trivial trivial) c.2.1 hp hq (t:=t) ?_ I h0 hI E) ?_)
 .intro m
  rcases aj m with⟨k,j,z,r⟩|e
  .have B:=c.2.2 m
   rw[r]at B;generalize hv:a1.tmps.getD m undef=v at B
   cases B with
   |ptr _=>exact .inl ⟨k,j,z,rfl⟩
  .exact .inr e
 rintro e a2 w2 ⟨rfl,g,L2,h2,D,s,V,a8,W,b9,Z,b2,ar,H,F,cn,rfl⟩;show Code.wpIn Fence.wide n C.P _ _ _ w2
 have ah:gt g L2 ⟨t,h2⟩ {a1 with defers:={target:=.collected D,args:=#[]}::a1.defers} w2:=by
  refine⟨b9,by rw[V];exact c.2.1,λm=>?_⟩;show RepA w2 (ab g L2 h2) L2 h2 (t m) (a1.tmps.getD m undef);rcases aj m with⟨k,j,z,r⟩|e
  .have B:=c.2.2 m
   rw[r]at B;obtain⟨cs,hc⟩:=hI _ h2 k j Z
   have hv:a1.tmps.getD m undef=.pointer (some ⟨(T k).b,0,none⟩):=by
    generalize a1.tmps.getD m undef=v at B
    cases B with
    |ptr _=>rfl
   rw[z,hv,<-b2 k j];exact .ptr hc
  .rw[e];exact .undef _
 refine wpIn_seq (wpIn_region_list ?_);have O:=M h2 Z;rw[<-s,<-V]at O;rw[s]at O;have Y:=λQ' bq=>iw (C:=g) (Q:=λf=>EQ res=true/\iP C.P fn.results.toList [] res f) (Q':=Q') (hn:=hn) (ops:=ops) iB (n:=n) bq (λ_ ho=>nY cb ho) ah (aF.refl ah.1) rfl (by rw[s];exact O);rw[s]at Y;refine Y _ ?_;intro cm L3 a3 G d _ b5 ad;refine wpIn_ret ?_;show LeavesInM Fence.wide n C.P fn a3.tmps (Nl C res) a3.defers .returning G;rw[b5];have U:D<g.w0.heap.size:=(Zp.1 H).1;have a7:G.heap[D]?=some (.deferred (some [])):=(d.1.ext.block D U F).trans H;obtain⟨ca,cd⟩:=d.1.turn H F rfl (by intro _ _ h;cases h) (.deferred none);have cg:gt {g with w0:=g.w0.putObj D (.deferred none)} L3 cm a3 (G.putObj D (.deferred none)):=⟨ca,d.2.1,λm=>(d.2.2 m).mono cd (KC.refl _ _)⟩;obtain⟨u,ch,cj⟩:=ER cg (fn:=fn) (res:=res) ad.1 (by show iP g.P _ _ _ _;rw[s];exact ad.2)
 have ak:(results fn a3.tmps).run C.P (G.putObj D (.deferred none))=.ok u (G.putObj D (.deferred none)):=by rw[<-s];exact ch
 refine⟨by simp,.inl ⟨D,_,rfl,run_takeDeferred a7,sZ (by rw[b4];exact cf) ak ⟨u,rfl,?_,?_⟩⟩⟩
 .
  have z:Ext (λ_=>False) C.w0 w1:=vf A c.1.ext;have r:Ext (λ_=>False) C.w0 g.w0:=z.trans ar (λ_ _ h=>h);have cq:=z.size;refine⟨?_,?_,?_,?_,?_⟩
  .show G.os=_;rw[d.1.ext.os];exact r.os
  .show G.tape=_;rw[d.1.ext.tape];exact r.tape
  .show G.output=_;rw[d.1.ext.output];exact r.output
  .simp only[World.putObj_size];exact yAs r.size d.1.ext.size
  .intro b hb _
   rw[World.putObj_heap_other (by omega)];rw[d.1.ext.block b (ZJ hb r.size) ?_]
   .exact r.block b hb (λh=>h)
   .intro J
    obtain⟨k,j,rfl⟩:=W b J;have:=c.1.own k _ (y k j);rcases this with this|this
    .omega
    .exact A _ this.1
 .have z:Ext (λ_=>False) C.w0 w1:=vf A c.1.ext
  have r:Ext (λ_=>False) C.w0 g.w0:=z.trans ar (λ_ _ h=>h);refine cj _ _ (λb o h=>?_) (λb h=>?_)
  .show g.M0 b o
   rw[a8];exact .inl h
  .rcases h with h|⟨J,_⟩
   .have h9:g.w0.heap.size<=b:=by simpa only[World.putObj_size]using h
    exact yAs r.size h9
   .obtain⟨k,j,rfl⟩:=W b J
    rcases c.1.own k _ (y k j)with this|this
    .exact this
    .exact absurd this.1 (A _)
end
theorem N8{f:FuncId}(hf:P.funcs[f]?=some fn)(hb:fn.body=some c)(m:bR P f=true){args:List PV}(H:args.length<=fn.ntmps)
 (h:∀C:Cx,C.P=P->C.N=fn.ntmps->(∀b,¬C.S b)->rQ C fn res c (rO (args.map .pv) [])):aS P f (args.map .pv) [] [] res:=by
 refine⟨m,rfl,λw M I l J B K G u y=>?_⟩;have D:I=[]:=Zn B;subst D
 let C:Cx:={P:=P,N:=fn.ntmps,M0:=M,S:=λ_=>False,pb:=λ_=>none,w0:=w}
 have a:∀k,(rO (args.map .pv) []).h k=none:=by
  intro k;simp only[rO,o8];split
  .rfl
  .simp
 have F:args.length=l.length:=by simpa using u
 have O:gt C (λ_=>default) (rO (args.map .pv) []) {tmps:=l.toArray++Array.replicate (fn.ntmps-l.toArray.size) undef,defers:=[]} w:=by
  refine⟨⟨Ext.refl _ _,J,λk r g=>(by rw[a]at g;cases g),λk R b1 b2 _ g=>(by rw[a]at g;cases g),λk r g=>(by rw[a]at g;cases g)⟩,?_,λn=>?_⟩
  .show(l.toArray++Array.replicate (fn.ntmps-l.toArray.size) undef).size=fn.ntmps
   simp;omega
  .have s:∀b o,ab C (λ_=>default) (rO (args.map .pv) []).h b o->M b o:=by
    rintro b o (h|⟨k,r,g,_⟩)
    .exact h
    .rw[a]at g;cases g
   show RepA w _ _ _ (EE (args.map .pv) n) _;simp only[EE];split
   .rename_i p hp
    have q:n<l.length:=by rw[<-u];exact(th.1 hp).1
    have Q:=y n (.pv p) l[n] hp (an q)
    have z:(l.toArray++Array.replicate (fn.ntmps-l.toArray.size) undef).getD n undef=l[n]:=by
     rw[YZ,Zu (by simpa using q)];simp[q]
    simp only[z];have E:Rep w M p l[n]:=Q;exact .pv (E.mono (Pres.sub s))
   .rename_i j hp
    rw[YS]at hp
    cases hq:args[n]? with
    |none=>rw[hq]at hp;cases hp
    |some x=>rw[hq]at hp;cases hp
   .exact .undef _
 refine(callsIn_wide (n:=0)).1 ((callsIn_of_wp_marks hf hb trivial (h C rfl rfl (λ_ h=>h) 0 _ _ w O (λd hd=>(by simp at hd))) rfl).mono ?_);rintro e w' ⟨v,rfl,A,L⟩;exact⟨v,rfl,⟨A.os,A.tape,A.output,A.size,λb hb _=>A.block b hb (λh=>h)⟩,λi b T hb=>(by simp at hb),L⟩
@[simp] theorem PE:D2 F C y Q .normal st=bg F C y Q st:=rfl
@[simp] theorem SS:D2 F C y Q .ret st=Q .ret st:=rfl
@[simp] theorem RS:D2 F C y Q (.exit i) st=Q (.exit i) st:=rfl
@[simp] theorem RI:Li C fn res y .normal st=rQ C fn res y st:=rfl
@[simp] theorem TE:Li C fn res y .ret st=(EQ res=true/\iP C.P fn.results.toList [] res st):=rfl
section
variable {F:Fence} {C:Cx} {x y:Code} {Q:Exit->St->Prop} {st:St} {c:Operand}
def un(F:Fence)(C:Cx)(x y:Code)(Q:Exit->St->Prop)(st:St):AV->Prop
 |.pv (.val (.bool b))=>(b=true->bg F C x Q st)/\(b=false->bg F C y Q st)
 |_=>False
@[simp] theorem RJ:un F C x y Q st (.pv (.val (.bool true)))=bg F C x Q st:=by simp[un]
@[simp] theorem PF:un F C x y Q st (.pv (.val (.bool false)))=bg F C y Q st:=by simp[un]
theorem jJ{b:Bool}(h1:b=true->bg F C x Q st)(h2:b=false->bg F C y Q st):un F C x y Q st (.pv (.val (.bool b))):=⟨h1,h2⟩
theorem bg.cond'(h:un F C x y Q st (st.ev c)):bg F C (.cond c x y) Q st:=by
 cases a:st.ev c with
 |pv p=>cases p with
  |val v=>cases v with
   |bool b=>rw[a]at h;exact bg.cond a h.1 h.2
   |_=>rw[a]at h;exact h.elim
  |_=>rw[a]at h;exact h.elim
 |_=>rw[a]at h;exact h.elim
end
def jq(N:Nat)(M:Nat->Nat->Prop)(t:Nat->AV)(a:Act)(w:World):Prop:=a.tmps.size=N/\∀m,t m=.undef\/∃p,t m=.pv p/\Rep w M p (a.tmps.getD m undef)
theorem jq.sim(h:jq N M t a w)(f:∀b o,M b o->b<w.heap.size):gt {P:=P,N:=N,M0:=M,S:=λ_=>False,pb:=λ_=>none,w0:=w} (λ_=>default) ⟨t,λ_=>none⟩ a w:=by
 refine⟨⟨Ext.refl _ _,f,λk d c=>(by cases c),λk i b1 b2 _ c=>(by cases c),λk d c=>(by cases c)⟩,h.1,λm=>?_⟩;rcases h.2 m with e|⟨p,e,g⟩
 .show RepA w _ _ _ (t m) _
  rw[e];exact .undef _
 .show RepA w _ _ _ (t m) _
  rw[e];refine .pv (g.mono (Pres.sub ?_));rintro b o (h|⟨k,d,c,_⟩)
  .exact h
  .cases c
def cH(t:Nat->AV):Nat->AV:=λm=>match t m with
 |.pv p=>.pv p
 |_=>.undef
theorem rD{L:Nat->Loc}(hs:gt C L st a w):jq C.N C.M0 (cH st.t) a w:=by
 refine⟨hs.2.1,λm=>?_⟩;have:=hs.2.2 m;unfold cH;generalize st.t m=v at this
 cases v with
 |pv p=>
  cases this with
  |pv c=>exact .inr ⟨p,rfl,c.mono (Pres.sub λb o h=>.inl h)⟩
 |_=>exact .inl rfl
theorem jq.sub{t':Nat->AV}(h:jq N M t a w)(b:∀m,t' m=.undef\/t' m=t m):jq N M t' a w:=by
 refine⟨h.1,λm=>?_⟩;rcases b m with e|e
 .exact .inl e
 .rw[e];exact h.2 m
theorem jq.mono{M':Nat->Nat->Prop}(h:jq N M t a w)(hp:Pres w M w' M'):jq N M' t a w':=
 ⟨h.1,λm=>(h.2 m).imp id λ⟨p,e,b⟩=>⟨p,e,b.mono hp⟩⟩
theorem jq.step(h:jq N M t a w)(i:∀b o,M b o->b<w.heap.size)
 (hc:∀C:Cx,C.P=P->C.N=N->bg Fence.wide C c Q ⟨t,λ_=>none⟩):c.wpIn Fence.wide n P (λe g w'=>∃d,Q e d/\jq N M (cH d.t) g w'/\Ext (λ_=>False) w w'/\g.defers=a.defers) a w:=
 wpIn_mono (hc {P:=P,N:=N,M0:=M,S:=λ_=>False,pb:=λ_=>none,w0:=w} rfl rfl n _ a w (h.sim i)) λ_ _ _ ⟨d,_,f,_,hd,hq⟩=>⟨d,hq,rD f,f.1.ext,hd⟩
theorem jq.list{l:List Oper}{Q:St->Prop}{Q':Exit->Act->World->Prop}(h:jq N M t a w)(i:∀b o,M b o->b<w.heap.size)(g:∀o∈l,∀c,o.op≠.defer c)
 (hc:cw P hn N ops Q l ⟨t,λ_=>none⟩)(j:∀d e w',Q d->jq N M (cH d.t) e w'->Ext (λ_=>False) w w'->e.defers=a.defers->Q' .normal e w'):wpListIn Fence.wide n P ops Q' l a w:=
 iw (C:={P:=P,N:=N,M0:=M,S:=λ_=>False,pb:=λ_=>none,w0:=w}) iB (λd k e w' f _ hd hq=>j d e w' hq (rD f) f.1.ext hd) g (h.sim i) (aF.refl (h.sim (P:=P) i).1) rfl hc
def DT(P:Program)(gf:FuncId)(caps:List PV)(xs:List PV):Prop:=
 bR P gf=true/\∀(n l:Nat)(lb:List Value)(W:World)(M:Nat->Nat->Prop)(J d:Nat->(Nat->Nat->Prop)->World->Prop),
  (∀i M W,J i M W->∀b o,M b o->b<W.heap.size)->(∀i M W a,J i M W->Ext (λ_=>False) W a->J i M a)->
  (∀i M W,d i M W->∀b o,M b o->b<W.heap.size)->(∀i M W a,d i M W->Ext (λ_=>False) W a->d i M a)->
  (∀m i x M W v1,xs[i]?=some x->J i M W->Rep W M x v1->YieldAt Fence.wide m P l #[v1] W λe a=>∃(b:Bool)(c:Nat->Nat->Prop),e=.returned (.bool b)/\(if b=true then J (i+1) c a else d i c a)/\Pres W M a c)->
  J 0 M W->bn W M caps lb->CallsIn Fence.wide n P gf (#[.func (.yield l) #[] #[]]++lb.toArray) W λe a=>(∃v,e=.returned v)/\((∃c,J xs.length c a)\/∃i c,i<xs.length/\d i c a)
def mG(t:Nat->AV)(p:Nat)(x:PV):Nat->AV:=av t p (.pv x)
theorem MemL.kill{L:Nat->Loc}(ks:List Nat)(g:MemL C L st.h w):MemL C L (st.kill ks).h w/\∀b o,ab C L (st.kill ks).h b o->ab C L st.h b o:=by
 have d:∀k a,(st.kill ks).h k=some a->∃c,st.h k=some c/\fB ks c=a/\a.live (L k)=c.live (L k)/\∀o,a.frz o=c.frz o:=by
  intro k a f;simp only[St.kill]at f;split at f
  .cases f
  .simp only[II]at f
   obtain⟨c,h1,rfl⟩:=f;exact⟨c,h1,rfl,by cases c<;>rfl,λo=>by cases c<;>rfl⟩
 have D:∀b o,ab C L (st.kill ks).h b o->ab C L st.h b o:=by
  rintro b o (H|⟨k,a,f,y,hb,hf⟩)
  .exact .inl H
  .obtain⟨c,h1,_,h2,h3⟩:=d k a f
   exact .inr ⟨k,c,h1,h2▸y,hb,h3 o▸hf⟩
 have hp:Pres w (ab C L st.h) w (ab C L (st.kill ks).h):=Pres.sub D;refine⟨⟨g.ext,g.m0,?_,?_,?_⟩,D⟩
 .intro k a f
  obtain⟨c,h1,rfl,_,_⟩:=d k a f;have:=g.bl k c h1
  cases c with
  |box G own s=>
   obtain⟨arr,M,r,m⟩:=this;refine⟨arr,M,r,by simpa using m.1,λi p u l B=>?_⟩;simp only[YS,II]at l;obtain⟨q,hq,rfl⟩:=l;exact wR hp (m.2 i q u hq B)
  |row e N xs s=>
   obtain⟨a1,a2,a3,a4,a5⟩:=this;refine⟨a1,a2,a3,a4,λhn=>?_⟩;obtain⟨b1,b2,arr,b3,b4,b5⟩:=a5 hn;exact⟨b1,b2,arr,b3,b4,λi x j p K I=>by obtain⟨u,B,J⟩:=b5 i x j p K I;exact⟨u,B,J.mono hp⟩⟩
  |mp kd n es s=>exact this
 .intro k E b1 b2 A f v y z
  obtain⟨c1,d1,_,r,_⟩:=d k b1 f;obtain⟨F,d2,_,m,_⟩:=d E b2 v;exact g.sep k E c1 F A d1 d2 (r▸y) (m▸z)
 .intro k a f
  obtain⟨c,h1,rfl,_,_⟩:=d k a f;have:=g.own k c h1
  cases c with
  |box G own s=>cases own<;>exact this
  |row=>exact this
  |mp=>exact this
def JB(kd:List Nat)(I:Nat->Hp->Prop)(a:Nat->Hp->Prop)(i:Nat):Exit->St->Prop
 |.normal,st=>I (i+1) (st.kill kd).h
 |.ret,st=>a i st.h
 |_,_=>False
theorem JC(hg:a.eval gop=.func (.func gf) #[] lb.toArray)
 {caps:List PV}{xs:List PV}(cj:DT P gf caps xs){M:Nat->Nat->Prop}(hM:∀b o,M b o->b<w.heap.size)(cf:bn w M caps lb)
 {ks:List Nat}{bs:Nat->Nat}{hin:Nat->List PV}(J:∀k∈ks,(∀o,M (bs k) o)/\ko w M (bs k) (hin k))(ch:∀k∈ks,∀k'∈ks,k≠k'->bs k≠bs k')
 (hN:a.tmps.size=N)(hp:p<N){t:Nat->AV}(ht:∀m,(∃k∈ks,t m=.ptr k 0/\a.tmps.getD m undef=.pointer (some ⟨bs k,0,none⟩))\/(∃q,t m=.pv q/\Rep w M q (a.tmps.getD m undef))\/t m=.undef)
 (I Ix:Nat->Hp->Prop)(h0:I 0 (kA ks hin))(hI:∀i h k,k∈ks->I i h->∃X,h k=some (.box X false false))(cq:∀i h k,k∈ks->Ix i h->∃X,h k=some (.box X false false))
 (ad:∀(C C':Cx)(l i:Nat)(x:PV)(h:Hp),C.P=P->C.N=N->C'.P=P->C'.N=N->xs[i]?=some x->I i h->
   bg (Fence.wide.inRound l) C assign (λe cX=>e=.normal/\bg (Fence.wide.inRound l) C' body (JB kd I Ix i) cX) ⟨mG t p x,h⟩):
 (Code.rangeFunc gop #[p] assign body).wpIn Fence.wide n P (λe a' w'=>∃(C:Cx)(L:Nat->Loc)(h:Hp)(D:Nat),((e=.normal/\I xs.length h)\/(e=.ret/\∃i,i<xs.length/\Ix i h))/\C.P=P/\C.N=N/\C.M0=M/\(∀b,C.S b->∃k∈ks,b=bs k)/\
   MemL C L h w'/\(∀k∈ks,(L k).b=bs k)/\(∀q v,Rep w M q v->Rep w' (ab C L h) q v)/\Ext (λ_=>False) w C.w0/\C.w0.heap[D]?=some (.deferred (some []))/\¬C.S D/\w.heap.size<=D/\a'={a with defers:={target:=.collected D,args:=#[]}::a.defers}) a w:=by
 refine wpIn_rangeFunc ?_;intro fn _;obtain⟨rec,g⟩:∃rec:LoopState->Option Code->Loop,rec=λst pe=>{state:=st,pending:=pe,fn,tmps:=a.tmps,params:=#[p],assign,body,defers:=w.heap.size}:=⟨_,rfl⟩;obtain⟨G,U⟩:∃G,(w.alloc (.deferred (some []))).alloc (.loop (rec .ready none))=G:=⟨_,rfl⟩
 have R:Ext (λ_=>False) w G:=by rw[<-U];exact(Ext.alloc _ _ _).trans (Ext.alloc _ _ _) (λ_ _ h=>h)
 have c2:G.heap.size=w.heap.size+2:=by rw[<-U];simp
 have ar:G.heap[w.heap.size+1]?=some (.loop (rec .ready none)):=by
  rw[<-U];have:=World.alloc_heap_new (w.alloc (.deferred (some []))) (.loop (rec .ready none));rwa [World.size_alloc]at this
 have cp:G.heap[w.heap.size]?=some (.deferred (some [])):=by
  rw[<-U];exact(RowKit.Below.heap_alloc _ _ _ (by simp)).trans (World.alloc_heap_new w _)
 obtain⟨l,hl⟩:∃l,l=w.heap.size+1:=⟨_,rfl⟩;rw[<-hl]at ar;obtain⟨f,d⟩:∃f:Obj->Cx,f=λo=>{P:=P,N:=N,M0:=M,S:=λb=>∃k∈ks,b=bs k,pb:=λk=>if ks.contains k=true then some (bs k)else none,w0:=G.putObj l o}:=⟨_,rfl⟩
 have hS:∀o b,(f o).S b->b<w.heap.size:=by
  intro o b hb;rw[d]at hb;obtain⟨k,s,rfl⟩:=hb;exact ng (J k s).2
 have Q:∀o,(f o).w0=G.putObj l o:=λo=>by rw[d]
 have ca:∀o o' L h,ab (f o) L h=ab (f o') L h:=λo o' L h=>by rw[d];rfl
 have bq:∀(o:Obj),(f o).w0.heap[l]?=some o:=λo=>by rw[Q];exact World.putObj_heap_same (Zp.1 ar).1
 have ck:∀o,¬(f o).S l:=λo h=>by have:=hS o l h;omega
 have r:∀{o o':Obj}{L:Nat->Loc}{h:Hp}{W:World},o.isCells=false->(∀arr c,o≠.map arr c)->MemL (f o) L h W->W.heap[l]?=some o/\MemL (f o') L h (W.putObj l o')/\Pres W (ab (f o) L h) (W.putObj l o') (ab (f o') L h):=by
  intro o o' L h W ho cO H;have cz:l<(f o).w0.heap.size:=(Zp.1 (bq o)).1;obtain⟨h1,h2⟩:=H.turn (bq o) (ck o) ho cO o';refine⟨(H.ext.block l cz (ck o)).trans (bq o),?_,?_⟩
  .have e:({f o with w0:=(f o).w0.putObj l o'}:Cx)=f o':=by rw[d];simp only[wg]
   rw[e]at h1;exact h1
  .rw[ca o' o];exact h2
 have B:G.putObj l (.loop (rec .ready none))=G:=zm ar
 have aj:∀{K:Nat->Hp->Prop}{o:Obj}{L:Nat->Loc}{h:Hp}{W:World}{i k:Nat},(∀i h k,k∈ks->K i h->∃X,h k=some (.box X false false))->k∈ks->K i h->MemL (f o) L h W->(L k).b=bs k:=by
  intro K o L h W i k hK s hi H;obtain⟨X,hc⟩:=hK i h k s hi;have:=(H.own k _ hc).2.1;rw[d]at this
  have b4:ks.contains k=true:=by simpa using s
  simp only[b4,Za,YV]at this;exact this.symm
 let L0:Nat->Loc:=λk=>⟨bs k,0,false⟩
 have E:∀k u,kA ks hin k=some u->k∈ks/\u=.box ((hin k).map .pv) false false:=by
  intro k u s;unfold kA at s;split at s
  .rename_i hc;injection s with s;exact⟨by simpa using hc,s.symm⟩
  .cases s
 have cr:∀o b o',ab (f o) L0 (kA ks hin) b o'->M b o':=by
  rintro o b o' (hb|⟨k,u,s,_,hb,_⟩)
  .rw[d]at hb;exact hb
  .obtain⟨y,_⟩:=E k u s
   rw[<-hb];exact(J k y).1 o'
 have A:Pres w M G (ab (f (.loop (rec .ready none))) L0 (kA ks hin)):=Pres.ext R (λ_ _ h=>h.elim) λb o _ h=>cr _ b o h
 have cB:MemL (f (.loop (rec .ready none))) L0 (kA ks hin) G:=by
  refine⟨by rw[Q,B];exact Ext.refl _ _,?_,?_,?_,?_⟩
  .intro b o hb
   rw[Q,B];rw[d]at hb;have:=hM b o hb;omega
  .intro k u s
   obtain⟨y,rfl⟩:=E k u s;obtain⟨arr,ty,e1,e2⟩:=(J k y).2;exact⟨arr,ty,(R.block _ (ng (J k y).2) (λh=>h)).trans e1,aC.map_pv (e2.mono A)⟩
  .intro k k' b1 b2 cP s Y _ _
   exact ch k (E k b1 s).1 k' (E k' b2 Y).1 cP
  .intro k u s
   obtain⟨y,rfl⟩:=E k u s
   have b4:ks.contains k=true:=by simpa using y
   refine⟨rfl,?_,?_,?_,?_⟩
   .rw[d];simp only[b4,Za];rfl
   .rw[d];exact⟨k,y,rfl⟩
   .rw[Q,B];have:=ng (J k y).2;show bs k<_;omega
   .intro o;rw[d];exact(J k y).1 o
 let Jt:(Nat->Hp->Prop)->Obj->Nat->(Nat->Nat->Prop)->World->Prop:=λK o i F W=>∃L h,K i h/\MemL (f o) L h W/\F=ab (f o) L h/\(∀q v,Rep w M q v->Rep W F q v)
 refine⟨l,[{target:=.collected w.heap.size,args:=#[]}],G,{target:=.fn (.func gf) lb.toArray,args:=#[.func (.yield l) #[] #[]]},G,gf,#[.func (.yield l) #[] #[]]++lb.toArray,G,?_,?_,λ_ _=>trivial,sW cj.1 _ _ _,λh=>(by cases h),?_⟩
 .rw[<-U,g,hl];exact run_enterLoop_outer _ _ _ _ _
 .simp only[resolve,hg]
  simp[go_sem]
 .have cd:∀K o i F W,Jt K o i F W->∀b o',F b o'->b<W.heap.size:=by
   rintro K o i F W ⟨L,h,_,H,rfl,_⟩ b o' hb;exact H.mlt hb
  have cg:∀K o i F W W',Jt K o i F W->Ext (λ_=>False) W W'->Jt K o i F W':=by
   rintro K o i F W W' ⟨L,h,hi,H,rfl,hq⟩ hx;exact⟨L,h,hi,(H.grow hx).1,rfl,λq v Z=>(hq q v Z).mono (H.grow hx).2⟩
  refine(cj.2 (n-1) l lb G _ (Jt I (.loop (rec .ready none))) (Jt Ix (.loop (rec .done (some .ret)))) (cd _ _) (cg _ _) (cd _ _) (cg _ _) ?_ ⟨L0,_,h0,cB,rfl,λq v Z=>Z.mono A⟩ (cf.mono A)).mono ?_
  .
   rintro m i x F W v1 cV ⟨L,h,hi,H,rfl,hq⟩ cT;obtain⟨cv,_,_⟩:=r (o':=.loop (rec .ready none)) rfl (by intro _ _ h;cases h) H;have hy:=run_yield (P:=P) (args:=#[v1]) cv (by rw[g];rfl);rw[g]at hy;refine⟨fn,a.tmps.setIfInBounds p v1,assign,body,by simpa using hy,roundIn_of_wpIn trivial ?_⟩
   have cn:gt (f (.loop (rec .ready none))) L ⟨mG t p x,h⟩ {tmps:=a.tmps.setIfInBounds p v1,defers:=[]} W:=by
    refine⟨H,by rw[d];simpa using hN,λk=>?_⟩
    have cQ:p<a.tmps.size:=by rw[hN];exact hp
    simp only[zS cQ,mG,av];split
    .exact .pv cT
    .rcases ht k with⟨k',Y,e1,e2⟩|⟨q,e1,e2⟩|e1
     .obtain⟨X,hc⟩:=hI i h k' Y hi
      rw[e1,e2,<-aj hI Y hi H];exact .ptr hc
     .rw[e1];exact .pv (hq q _ e2)
     .rw[e1];exact .undef _
   have cb:(f (.loop (rec .ready none))).P=P:=by rw[d]
   have cc:(f (.loop (rec .busy none))).P=P:=by rw[d]
   have hR:=ad (f (.loop (rec .ready none))) (f (.loop (rec .busy none))) l i x h cb (by rw[d]) cc (by rw[d]) cV hi m L _ W cn;rw[cb]at hR;refine wpIn_mono hR ?_;rintro e a1 w1 ⟨c0,L1,V,b8,_,rfl,b3⟩;obtain⟨cu,cD,b7⟩:=r (o':=.loop (rec .busy none)) rfl (by intro _ _ h;cases h) V.1;refine⟨w1.putObj l (.loop (rec .busy none)),?_,?_⟩
   .have:=run_beginRound (P:=P) cu (by rw[g])
    rw[g]at this|-;exact this
   have cU:gt (f (.loop (rec .busy none))) L1 c0 a1 (w1.putObj l (.loop (rec .busy none))):=⟨cD,by have:=V.2.1;rw[d]at this|-;exact this,λk=>(V.2.2 k).mono b7 (KC.refl _ _)⟩;have hB:=b3 m L1 a1 _ cU;rw[cc]at hB;refine wpIn_mono hB ?_;rintro e2 a2 w2 ⟨T,L2,cm,b9,_,O⟩
   cases e2 with
   |normal=>
    obtain⟨z,b5,hpr⟩:=r (o':=.loop (rec .ready none)) rfl (by intro _ _ h;cases h) cm.1
    have e:(Obj.loop {rec .busy none with state:=if(none:Option Code).isNone=true then .ready else .done,pending:=none})=.loop (rec .ready none):=by rw[g];rfl
    have j:Pres W (ab (f (.loop (rec .ready none))) L h) (w2.putObj l (.loop (rec .ready none))) (ab (f (.loop (rec .ready none))) L2 T.h):=((b8.2.1.trans b7).trans b9.2.1).trans hpr;obtain⟨cN,ct⟩:=b5.kill kd;have j:=j.trans (Pres.sub ct);refine⟨_,_,run_endRound none z,true,ab (f (.loop (rec .ready none))) L2 (T.kill kd).h,rfl,?_,?_⟩
    .rw[YY rfl,e]
     exact⟨L2,(T.kill kd).h,O,cN,rfl,λq v Z=>(hq q v Z).mono j⟩
    .rw[e];exact j
   |ret=>
    obtain⟨z,b5,hpr⟩:=r (o':=.loop (rec .done (some .ret))) rfl (by intro _ _ h;cases h) cm.1
    have e:(Obj.loop {rec .busy none with state:=if(some Code.ret).isNone=true then .ready else .done,pending:=some .ret})=.loop (rec .done (some .ret)):=by rw[g];rfl
    have j:Pres W (ab (f (.loop (rec .ready none))) L h) (w2.putObj l (.loop (rec .done (some .ret)))) (ab (f (.loop (rec .done (some .ret)))) L2 T.h):=((b8.2.1.trans b7).trans b9.2.1).trans hpr;refine⟨_,_,run_endRound (some .ret) z,false,ab (f (.loop (rec .done (some .ret)))) L2 T.h,rfl,?_,?_⟩
    .rw[YR (by simp),e]
     exact⟨L2,T.h,O,b5,rfl,λq v Z=>(hq q v Z).mono j⟩
    .rw[e];exact j
   |exit=>exact O.elim
   |goto=>exact O.elim
   |panic=>exact O.elim
   |outgrown=>exact O.elim
  .
   have ah:∀(K:Nat->Hp->Prop)(o:Obj)(st:LoopState)(pe:Option Code)(i:Nat)(F:Nat->Nat->Prop)(W2:World),o=.loop (rec st pe)->(∀i h k,k∈ks->K i h->∃X,h k=some (.box X false false))->Jt K o i F W2->
    W2.heap[l]?=some o/\∃(C:Cx)(L:Nat->Loc)(h:Hp)(D:Nat),K i h/\C.P=P/\C.N=N/\C.M0=M/\(∀b,C.S b->∃k∈ks,b=bs k)/\
     MemL C L h (W2.putObj l (.loop (rec .exhausted pe)))/\(∀k∈ks,(L k).b=bs k)/\(∀q v,Rep w M q v->Rep (W2.putObj l (.loop (rec .exhausted pe))) (ab C L h) q v)/\Ext (λ_=>False) w C.w0/\C.w0.heap[D]?=some (.deferred (some []))/\¬C.S D/\w.heap.size<=D/\D=w.heap.size:=by
    rintro K o st pe i F W2 rfl hK ⟨L,h,hi,H,rfl,hq⟩;obtain⟨z,cM,cS⟩:=r (o':=.loop (rec .exhausted pe)) rfl (by intro _ _ h;cases h) H;refine⟨z,f (.loop (rec .exhausted pe)),L,h,w.heap.size,hi,by rw[d],by rw[d],by rw[d],?_,cM,λk s=>aj hK s hi H,λq v Z=>(hq q v Z).mono cS,?_,?_,?_,Y0 _,rfl⟩
    .intro b hb
     rw[d]at hb;exact hb
    .rw[Q]
     refine⟨R.os,R.tape,R.output,by simp;omega,λb hb _=>?_⟩;rw[World.putObj_heap_other (by omega)];exact R.block b hb (λh=>h)
    .rw[Q,World.putObj_heap_other (by omega)];exact cp
    .intro hb
     have:=hS _ _ hb;omega
   rintro e W2 ⟨⟨v,rfl⟩,⟨F,hj⟩|⟨i,F,hi,hj⟩⟩
   .obtain⟨z,C,L,h,D,a1,a2,a3,a4,a5,a6,a7,ak,a8,a9,a10,a11,rfl⟩:=ah I _ _ _ _ _ _ rfl hI hj
    refine⟨none,W2.putObj l (.loop (rec .exhausted none)),?_,C,L,h,_,.inl ⟨rfl,a1⟩,a2,a3,a4,a5,a6,a7,ak,a8,a9,a10,a11,rfl⟩;have:=run_endLoop (P:=P) z (by rw[g];simp);rw[g]at this|-;exact this
   .obtain⟨z,C,L,h,D,a1,a2,a3,a4,a5,a6,a7,ak,a8,a9,a10,a11,rfl⟩:=ah Ix _ _ _ _ _ _ rfl cq hj
    refine⟨some .ret,W2.putObj l (.loop (rec .exhausted (some .ret))),?_,wpIn_ret ⟨C,L,h,_,.inr ⟨rfl,i,hi,a1⟩,a2,a3,a4,a5,a6,a7,ak,a8,a9,a10,a11,rfl⟩⟩;have:=run_endLoop (P:=P) z (by rw[g];simp);rw[g]at this|-;exact this
theorem zb{c:Cx}{res:PV}{g i:St}{a1 a3:Act}{w1 d:World}{v O:Nat->Loc}{D:Nat}{ks:List Nat}{bs:Nat->Nat}{hin:Nat->List PV}(l:∀b,¬C.S b)(r:gt C v g a1 w1)(F:∀k∈ks,g.h k=some (.box ((hin k).map .pv) true false))(B:∀k∈ks,bs k=(v k).b)
 (I:AZ C.P a1.defers)(q:c.P=C.P)(y:c.M0=ab C v g.h)(z:∀b,c.S b->∃k∈ks,b=bs k)(N:Ext (λ_=>False) w1 c.w0)(f:c.w0.heap[D]?=some (.deferred (some [])))(e:¬c.S D)(R:w1.heap.size<=D)
 (a:gt c O i a3 d)(E:a3.defers={target:=.collected D,args:=#[]}::a1.defers)(J:iP C.P fn.results.toList [] (.pv res) i):LeavesInM Fence.wide n C.P fn a3.tmps (PD C res) a3.defers .returning d:=by
 rw[E];have p:D<c.w0.heap.size:=(Zp.1 f).1;have x:d.heap[D]?=some (.deferred (some [])):=(a.1.ext.block D p e).trans f;obtain⟨G,H⟩:=a.1.turn f e rfl (by intro _ _ h;cases h) (.deferred none);have K:gt {c with w0:=c.w0.putObj D (.deferred none)} O i a3 (d.putObj D (.deferred none)):=⟨G,a.2.1,λm=>(a.2.2 m).mono H (KC.refl _ _)⟩;obtain⟨u,L,M⟩:=G7 K (fn:=fn) (res:=res) (by show iP c.P _ _ _ _;rw[q];exact J)
 have s:(results fn a3.tmps).run C.P (d.putObj D (.deferred none))=.ok u (d.putObj D (.deferred none)):=by rw[<-q];exact L
 refine⟨by simp,.inl ⟨D,_,rfl,run_takeDeferred x,sZ I s ⟨u,rfl,?_,?_⟩⟩⟩
 .have Q:Ext (λ_=>False) C.w0 w1:=vf l r.1.ext
  have j:Ext (λ_=>False) C.w0 c.w0:=Q.trans N (λ_ _ h=>h);have U:=Q.size;refine⟨?_,?_,?_,?_,?_⟩
  .show d.os=_;rw[a.1.ext.os];exact j.os
  .show d.tape=_;rw[a.1.ext.tape];exact j.tape
  .show d.output=_;rw[a.1.ext.output];exact j.output
  .simp only[World.putObj_size];exact yAs j.size a.1.ext.size
  .intro b hb _
   rw[World.putObj_heap_other (by omega)];rw[a.1.ext.block b (ZJ hb j.size) ?_]
   .exact j.block b hb (λh=>h)
   .intro A
    obtain⟨k,T,rfl⟩:=z b A;rw[B k T]at hb;have:=r.1.own k _ (F k T);rcases this with this|this
    .omega
    .exact l _ this.1
 .refine M.mono (Pres.sub ?_)
  intro b o h;show c.M0 b o;rw[y];exact .inl h
theorem rQ.rangeS{res:PV}(W:∀b,¬C.S b){b0:Nat}{xs:List PV}(b7:DT C.P gf caps xs)(hp:p<C.N)
 {ks:List Nat}{hin:Nat->List PV}{t:Nat->AV}
 (hx:bg Fence.wide C x (λe d=>e=.normal/\d.ev gop=.pv (.fn (.func gf) [] caps)/\(∀k∈ks,d.h k=some (.box ((hin k).map .pv) true false))/\∀m,(∃k∈ks,t m=.ptr k 0/\d.t m=.ptr k 0)\/(∃q,t m=.pv q/\d.t m=.pv q)\/t m=.undef) st)
 (I Ix:Nat->Hp->Prop)(h0:I 0 (kA ks hin))(hI:∀i h k,k∈ks->I i h->∃V,h k=some (.box V false false))(Y:∀i h k,k∈ks->Ix i h->∃V,h k=some (.box V false false))
 (z:∀(C1 G:Cx)(l i:Nat)(x:PV)(h:Hp),C1.P=C.P->C1.N=C.N->G.P=C.P->G.N=C.N->xs[i]?=some x->I i h->
   bg (Fence.wide.inRound l) C1 assign (λe d=>e=.normal/\bg (Fence.wide.inRound l) G body (JB kd I Ix i) d) ⟨mG t p x,h⟩)
 (ca:rC ops=true){hn:List Nat}(O:∀h,I xs.length h->cw C.P hn C.N ops (λd=>iP C.P fn.results.toList [] (.pv res) d) ops.toList ⟨t,h⟩)
 (M:∀i h,i<xs.length->Ix i h->iP C.P fn.results.toList [] (.pv res) ⟨t,h⟩):
 rQ C fn (.pv res) (.seq (.seq x (.block b0 (.rangeFunc gop #[p] assign body))) (.seq (.region id ops false) .ret)) st:=by
 intro n L a w hs cd;refine wpIn_seq (wpIn_seq (wpIn_mono (hx n L a w hs) ?_));rintro e a1 w1 ⟨T,U,c,cj,b4,rfl,hg,r,a7⟩;have H:=bB c.2.2 gop;rw[hg]at H
 obtain⟨us,ch,ak⟩:∃us:List Value,a1.eval gop=.func (.func gf) #[] us.toArray/\bn w1 (ab C U T.h) caps us:=by
  generalize a1.eval gop=u at H
  cases H with
  |pv f=>
   cases f with
   |fn _ _ _ vs us hl g h1 h2=>
    have:vs=[]:=Zn hl.symm;subst this;exact⟨us,rfl,g,h2⟩
 have b3:∀k∈ks,(∀o,ab C U T.h (U k).b o)/\ko w1 (ab C U T.h) (U k).b (hin k):=by
  intro k g;obtain⟨arr,ty,s,y⟩:=c.1.bl k _ (r k g);exact⟨λo=>.inr ⟨k,_,r k g,trivial,rfl,by simp[Blk.frz]⟩,arr,ty,s,y.map_pv_inv⟩
 have F:AZ C.P a1.defers:=by rw[b4];exact cd
 refine wpIn_block (wpIn_mono (JC (N:=C.N) ch b7 (λb o h=>c.1.mlt h) ak b3 (λk g k' b8 cb=>c.1.sep k k' _ _ cb (r k g) (r k' b8) trivial trivial) c.2.1 hp (t:=t) ?_ I Ix h0 hI Y z) ?_)
 .intro m
  rcases a7 m with⟨k,g,s,y⟩|⟨q,s,y⟩|e
  .have f:=c.2.2 m
   rw[y]at f;generalize hv:a1.tmps.getD m undef=v at f
   cases f with
   |ptr _=>exact .inl ⟨k,g,s,rfl⟩
  .have f:=c.2.2 m
   rw[y]at f
   cases f with
   |pv f=>exact .inr (.inl ⟨q,s,f⟩)
  .exact .inr (.inr e)
 rintro e a2 w2 ⟨G,L2,h2,D,B,j,ad,Z,ah,b9,b2,cc,a8,X,E,A,rfl⟩
 have aj:∀k∈ks,∃V,h2 k=some (.box V false false):=by
  intro k g;rcases B with⟨_,hi⟩|⟨_,i,_,hi⟩
  .exact hI _ h2 k g hi
  .exact Y _ h2 k g hi
 have K:gt G L2 ⟨t,h2⟩ {a1 with defers:={target:=.collected D,args:=#[]}::a1.defers} w2:=by
  refine⟨b9,by rw[ad];exact c.2.1,λm=>?_⟩;show RepA w2 (ab G L2 h2) L2 h2 (t m) (a1.tmps.getD m undef);rcases a7 m with⟨k,g,s,y⟩|⟨q,s,y⟩|e
  .have f:=c.2.2 m
   rw[y]at f;obtain⟨V,hc⟩:=aj k g
   have hv:a1.tmps.getD m undef=.pointer (some ⟨(U k).b,0,none⟩):=by
    generalize a1.tmps.getD m undef=v at f
    cases f with
    |ptr _=>rfl
   rw[s,hv,<-b2 k g];exact .ptr hc
  .have f:=c.2.2 m
   rw[y]at f;rw[s]
   cases f with
   |pv f=>exact .pv (cc q _ f)
  .rw[e];exact .undef _
 rcases B with⟨rfl,J⟩|⟨rfl,i,a6,J⟩
 .show Code.wpIn Fence.wide n C.P _ _ _ w2
  refine wpIn_seq (wpIn_region_list ?_);have R:=O h2 J;rw[<-j,<-ad]at R;rw[j]at R;have ar:=λQ' bq=>iw (C:=G) (Q:=λd=>iP C.P fn.results.toList [] (.pv res) d) (Q':=Q') (hn:=hn) (ops:=ops) iB (n:=n) bq (λ_ ho=>nY ca ho) K (aF.refl K.1) rfl (by rw[j];exact R);rw[j]at ar;refine ar _ ?_;intro ck L3 a3 w3 cg _ b5 cf;refine wpIn_ret ?_;exact zb W c r (λ_ _=>rfl) F j Z ah a8 X E A cg b5 cf
 .show LeavesInM Fence.wide n C.P fn a1.tmps (PD C res) ({target:=.collected D,args:=#[]}::a1.defers) .returning w2
  exact zb (a3:={a1 with defers:={target:=.collected D,args:=#[]}::a1.defers}) W c r (λ_ _=>rfl) F j Z ah a8 X E A K rfl (M i h2 a6 J)
theorem Nb{f:FuncId}(hf:P.funcs[f]?=some fn){args:List AV}{e:Hp}(b:LookH e)(h:∀C:Cx,C.P=P->C.N=fn.ntmps->WP C c (Ia P fn.results.toList e Post) (Ea args e))
 (hb:fn.body=some c:=by rfl)(a:bR P f=true:=by kernel_rfl)(d:args.length<=fn.ntmps:=by exact of_decide_eq_true (by kernel_rfl)):mR P f args e Post:=NY hf hb a d b h
theorem BT{rs:List ResultVar}{i H:Hp}{r:AV}(h1:mf P st rs=some r)(l:m7 r=true)(j:∀k,inK k=true->st.h k=H k)(hL:LookH H)(hp:Post r H)
 (c:∀k d f,i k=some (.box d false f)->∃a,H k=some (.box a false false)):uL P rs i Post st:=by
 have e:qB st.h=H:=by
  funext k
  unfold qB;split
  .rename_i hi;exact j k hi
  .rename_i hi
   cases g:H k with
   |none=>rfl
   |some b=>exact absurd (hL.keys k b g) hi
 refine⟨r,h1,l,by rw[e];exact hL,by rw[e];exact hp,λk d f g=>?_⟩;obtain⟨a,h2⟩:=c k d f g;exact⟨a,by rw[j k (hL.keys k _ h2)];exact h2⟩
theorem WP.takeAt(n:Nat){xs:List Operand}(b:ops.toList[n]?=some o)(a:o.op=.call {callee:=.value f,args:=xs.toArray,argTypes:=ats})(d:o.guard=none)
 (hq:cw C.P hn C.N ops (DV C (cw C.P hn C.N ops (Q .normal) (ops.toList.drop (n+1))) f xs o.dst) (ops.toList.take n) st):WP C (.region id ops false) Q st:=by
 refine WP.take (pre:=ops.toList.take n) (post:=ops.toList.drop (n+1)) (o:=o) ?_ a d hq;have e:=(th.1 b).1;have c:=(th.1 b).2;rw[<-c,yAf,ZQ]
def Eg(x:Nat):Nat:=match Nat.ble 300 x with
 |true=>300
 |false=>x
theorem ww(x:Nat):∀l:List Nat,l.contains x=true->(l.map Eg).contains (Eg x)=true
 |[],h=>h
 |a::l,h=>by
  rw[List.contains_cons,ZI,ZH]at h;rw[Z0,List.contains_cons,ZI,ZH];rcases h with h|h
  .exact .inl (by rw[h])
  .exact .inr (ww x l h)
theorem Eh{a b:List Nat}(h:EI (a.map Eg) (b.map Eg)=true):EI a b=true:=by
 unfold EI at *;rw[L4]at *;intro x c;have:=h (Eg x) (List.mem_map_of_mem c);rw[Zv]at *;rw[<-Bool.not_eq_true];intro h9;rw[ww x b h9]at this;cases this
def K9(acc:nT):nT:=acc.map λx=>(x.1.map Eg,x.2.map Eg)
theorem JF{acc:nT}(h:gX ts (K9 acc)=true):gX ts acc=true:=by
 unfold gX K9 at *;rw[Zm]at h;rw[L4]at *;intro j c;have h1:=h j c;rw[L4]at *;intro i hi;have h2:=h1 i hi;rw[YS,YS]at h2
 cases ha:acc[i]? with
 |none=>rfl
 |some a=>cases hb:acc[j]? with
  |none=>rfl
  |some b=>
   rw[ha,hb]at h2;simp only[ZD,ZI,up]at h2|-;exact h2.imp (λh=>⟨Eh h.1,Eh h.2⟩) id
theorem Yc{acc:nT}{b:Prop}(h:b)(k:gX ts (K9 acc)=true:=by kernel_rfl):gX ts acc=true/\b:=⟨JF k,h⟩
theorem ir{cs:List AV}{x:AV}(h:i<cs.length):cs.take i++x::cs.drop (i+1)=cs.set i x:=by
 rw[List.set_eq_take_append_cons_drop,YY h]
open Go.Proofs Go.Sort
section
variable {C:Cx} {Q:Exit->St->Prop} {st:St}
theorem WP.sortAt(n:Nat){x:Operand}(b:ops.toList[n]?=some o)(a:o.op=.call {callee:=.value f,args:=#[x],argTypes:=ats})(d:o.guard=none)
 (hq:cw C.P hn C.N ops (Np C (cw C.P hn C.N ops (Q .normal) (ops.toList.drop (n+1))) f x o.dst) (ops.toList.take n) st):WP C (.region id ops false) Q st:=by
 refine WP.sort (pre:=ops.toList.take n) (post:=ops.toList.drop (n+1)) (o:=o) ?_ a d hq;have e:=(th.1 b).1;have c:=(th.1 b).2;rw[<-c,yAf,ZQ]
end
theorem FW{f:Nat->List Int}{h:Hp}:∀(l:List Nat),(∀v∈l,h (v+300)=some (.row 3 1 (fI (f v)) 0))->∃W,eh h (l.map λv=>.arr (v+300) (f v).length)=some (l.map λv=>.sl (fI (f v)),W)
 |[],_=>⟨[],rfl⟩
 |v::l,a=>by
  obtain⟨W,b⟩:=FW l λw c=>a w (by simp[c]);have h1:=a v (by simp)
  have h2:(fI (f v)).length=(f v).length:=by simp
  refine⟨[(v+300,.row 3 1 (fI (f v)) (fI (f v)).length)]++W,?_⟩;simp only[Z0,eh,iX,h1,h2,Za,b]
def c1(i n:Nat):List AV:=(List.range n).map λw=>if w<i then .arr (w+300) 1 else gh
theorem KI(i n:Nat):(c1 i n).length=n:=by simp[c1]
theorem OQ(n:Nat):c1 0 n=List.replicate n gh:=by
 simp[c1,List.map_const']
theorem OR(x:AV):((c1 i n).set i x).set i (.arr (i+300) 1)=c1 (i+1) n:=by
 rw[List.set_set];apply Zx;intro w;rw[Y1];simp only[KI];by_cases a:w<n
 .by_cases e:i=w
  .subst e;simp[c1,a]
  .simp[c1,a,e,show(w<i+1↔w<i) by omega]
 .by_cases e:i=w
  .subst e;simp[c1,a]
  .simp[c1,a,e]
def cF(f:Nat->List Int)(n:Nat):List AV:=(List.range n).map λv=>.arr (v+300) (f v).length
def rF(f:Nat->List Int)(n:Nat)(h:Hp):Prop:=∀v,v<n->h (v+300)=some (.row 3 1 (fI (f v)) 0)
theorem Rl(n:Nat)(es:List aG):c1 n n=cF (λv=>dQ es v 0) n:=by
 unfold c1 cF;refine List.map_congr_left λv a=>?_;rw[YY (Zw.1 a)];rfl
theorem OS(i n:Nat):(c1 i n).map (dL [])=c1 i n:=by
 unfold c1;rw[List.map_map];refine List.map_congr_left λw _=>?_;simp only[Function.comp];split<;>simp[o7,fA]
theorem uG(f:Nat->List Int)(n:Nat):(cF f n).map (dL [])=cF f n:=by
 unfold cF;rw[List.map_map];refine List.map_congr_left λw _=>?_;simp[o7,fA]
theorem Bw(f:Nat->List Int)(n:Nat):(cF f n).length=n:=by simp[cF]
theorem Jd(f:Nat->List Int){v:Nat}(h:v<n):(cF f n)[v]?=some (.arr (v+300) (f v).length):=by simp[cF,h]
theorem uH{f:Nat->List Int}(h:rF f n st.h):rF f n (St.kill [] st).h:=by
 intro v a;have:=h v a;simp only[St.kill,List.contains_nil,YU,Y5,this];rfl
theorem OT{f g:Nat->List Int}{u v:Nat}(i:u<n)(j:v<n)(d:¬u=v)(h1:(g u).length=(f u).length+1)(h2:(g v).length=(f v).length+1)(h3:∀w,w≠u->w≠v->(g w).length=(f w).length):
 ((cF f n).set u (.arr (u+300) ((f u).length+1))).set v (.arr (v+300) ((f v).length+1))=cF g n:=by
 apply Zx;intro w;rw[Y1,Y1];simp only[yAe,Bw];by_cases b:w<n
 .by_cases a:v=w
  .subst a;simp[cF,b,h2]
  .by_cases c:u=w
   .subst c;simp[cF,b,a,h1]
   .simp[cF,b,c,a,h3 w (λe=>c e.symm) (λe=>a e.symm)]
 .rw[YR (by omega),YR (by omega)]
  simp[cF,b]
theorem Th(m:eU)(cx:dt m=true):aT 35 (bp m) (.sl ((List.range m.np.length).map λv=>zs (jl m v))):=by
 have S:=cx;simp only[dt,up,Is]at S;obtain⟨hn,he,b4⟩:=S;obtain⟨n,b3⟩:∃n,n=m.np.length:=⟨_,rfl⟩;rw[<-b3]at hn b4|-
 have q1:((n:Int))*24<=281474976710656:=by omega
 have q2:(24*(n:Int))<=281474976710656:=by omega
 have q3:(n:Int)<=9223372036854775807:=by omega
 refine Dp func35 λC hP hN=>?_
 with_reducible repeat' (first|refine Sp.h ?_|((first|refine Wh [1000011] ?_|refine Wi [1000011] ?_|refine Ss.h ?_|(refine Sb.h ?_ ?_ ?_<;>(try intro hgd)<;>try exact Xy))<;>simp -implicitDefEqProofs (maxSteps:=2000000) [hP,hN,b3.symm,q1,q2,q3]<;>try refine Ya ?_)|refine X2 ?_ ?_|(refine Xd ?_ ?_<;>intro hcd<;>try exact Xx))
 refine WP.loopN [] n (λi st=>st.t 1=.ptr 1 0/\st.h 1=some (.box [.pv (.sl m.np),.pv (iN m.es)] true false)/\st.t 3=.ext (.barr 11 n n)/\st.t 13=.pv (Z n)/\st.t 14=.pv (Z i)/\st.h 11=some (.box (c1 i n) true false)/\(∀w,w<i->st.h (w+300)=some (.row 3 1 [Z w] 0))/\(∀w,i<=w->st.h (w+300)=none)/\st.h 20=none) (by simp[OQ];intro w;simp[o8,show¬w+300=11 by omega,show¬w+300=1 by omega,show¬1000000<=w+300\/True by simp]) ?_;rintro i st hi ⟨g1,b1,g3,D,F,a,hr,V,B⟩;by_cases K:i<n
 .have z:=ae K (by omega)
  obtain⟨cs,b⟩:∃cs,cs=c1 i n:=⟨_,rfl⟩;rw[<-b]at a
  have g:cs.length=n:=by rw[b,KI]
  have Y:cs.take i++AV.arr 20 1::cs.drop (i+1)=cs.set i (.arr 20 1):=ir (by omega);have a8:i+1<=n:=K
  have bq:(i:Int)<(n:Int):=by omega
  with_reducible iterate 10 any_goals (first|refine Sp.h ?_|((first|refine Wh [20] ?_|refine Wi [20] ?_|refine Ss.h ?_|(refine Sb.h ?_ ?_ ?_<;>(try intro hgd)<;>try exact Xy))<;>simp -implicitDefEqProofs (maxSteps:=2000000) [hP,hN,g1,b1,g3,D,F,a,B,K,a8,bq,g,Y]<;>try refine Ya ?_)|refine X2 ?_ ?_|(refine Xd ?_ ?_<;>intro hcd<;>try exact Xx))
  refine WP.rename 11 i 20 (i+300) (blk:=.row 3 1 [Z i] 0) (x:=.arr 20 1) (y:=.arr (i+300) 1) (cs:=cs.set i (.arr 20 1)) (own:=true) (fb:=false) (by simp) (by simp[V i (Y0 _),show¬i+300=11 by omega,show¬i+300=20 by omega]) (by omega) (by simp) (by simp[g,K]) ⟨rfl,rfl⟩ ?_ ?_
  .intro w c hc cj
   rw[Y1,YR (λe=>cj e.symm),b]at hc;simp only[c1,YS,II]at hc;obtain⟨q,hq,rfl⟩:=hc;split<;>simp[o7,fA]
  rw[b,OR]
  with_reducible repeat' (first|refine Sp.h ?_|((first|refine Wd ?_|refine Ss.h ?_|(refine Sb.h ?_ ?_ ?_<;>(try intro hgd)<;>try exact Xy))<;>simp -implicitDefEqProofs (maxSteps:=2000000) [hP,hN,oa,g1,b1,g3,D,F,a,B,z]<;>try refine Ya ?_)|refine X2 ?_ ?_|(refine Xd ?_ ?_<;>intro hcd<;>try exact Xx))
  refine⟨by simp[OS],λw S=>?_,λw S=>?_⟩
  .by_cases e:w=i
   .subst e;exact⟨_,YY rfl,rfl⟩
   .rw[YR e,hr w (by omega)];exact⟨_,rfl,rfl⟩
  .rw[YR (by omega),V w (by omega)];rfl
 .have cd:i=n:=by omega
  subst cd;rw[Rl i m.es]at a;have d:rF (λv=>dQ m.es v 0) i st.h:=λv r=>hr v r;clear hr V;have Y:=jA b4;obtain⟨E,hE⟩:∃E,E=m.es.length:=⟨_,rfl⟩
  with_reducible repeat' (first|refine Sp.h ?_|((first|refine Wd ?_|refine Ss.h ?_|(refine Sb.h ?_ ?_ ?_<;>(try intro hgd)<;>try exact Xy))<;>simp -implicitDefEqProofs (maxSteps:=2000000) [hP,hN,g1,b1,g3,D,F,a,B]<;>try refine Ya ?_)|refine X2 ?_ ?_|(refine Xd ?_ ?_<;>intro hcd<;>try exact Xx))
  refine WP.loopN [] E (λj st=>st.t 1=.ptr 1 0/\st.h 1=some (.box [.pv (.sl m.np),.pv (iN m.es)] true false)/\st.t 3=.ext (.barr 11 i i)/\st.t 25=.pv (Z E)/\st.t 26=.pv (Z j)/\st.h 11=some (.box (cF (λv=>dQ m.es v j) i) true false)/\rF (λv=>dQ m.es v j) i st.h) (by simp[g1,b1,g3,a,hE,uG];exact uH (st:=⟨_,st.h⟩) d) ?_;clear g1 b1 g3 D F a B d;rintro j st hj ⟨g1,b1,g3,G,H,a,d⟩;by_cases U:j<E
  .have z:=ae U (by omega)
   have l:j<m.es.length:=by omega
   have ar:(j:Int)<(E:Int):=by omega
   have ad:m.es[j]?=some m.es[j]:=an l;have cc:=(Y.1 _ (Zd l)).1;generalize hx:m.es[j]=e at *;simp only[t6,up,Is]at cc;obtain⟨u,R⟩:∃u:Nat,e.u=u:=⟨e.u.toNat,by omega⟩;obtain⟨v,r⟩:∃v:Nat,e.v=v:=⟨e.v.toNat,by omega⟩
   have cN:u<v/\v<i:=by omega
   have o:∀w,dQ m.es w (j+1)=dQ m.es w j++sK (some e) w:=λw=>by rw[dQ,ad]
   by_cases A:e.s=1
   .obtain⟨cs,b⟩:∃cs,cs=cF (λv=>dQ m.es v j) i:=⟨_,rfl⟩
    rw[<-b]at a
    have g:cs.length=i:=by rw[b,Bw]
    have cr:u+1<=i:=by omega
    have ct:v+1<=i:=by omega
    have M:u<i:=by omega
    have N:v<i:=by omega
    have P:¬u=v:=by omega
    have b2:¬v=u:=by omega
    have ru:st.h (u+300)=some (.row 3 1 (fI (dQ m.es u j)) 0):=d u M;have rv:st.h (v+300)=some (.row 3 1 (fI (dQ m.es v j)) 0):=d v N
    have cu:cs[u]?=some (.arr (u+300) (dQ m.es u j).length):=by rw[b];exact Jd _ M
    have cv:cs[v]?=some (.arr (v+300) (dQ m.es v j).length):=by rw[b];exact Jd _ N
    have b5:∀h,cs[u]'h=.arr (u+300) (dQ m.es u j).length:=λh=>(th.1 cu).2;have b7:∀h,cs[v]'h=.arr (v+300) (dQ m.es v j).length:=λh=>(th.1 cv).2;have su:∀x,cs.take u++x::cs.drop (u+1)=cs.set u x:=λx=>ir (by omega);have sv:∀x y,(cs.set u x).take v++y::(cs.set u x).drop (v+1)=(cs.set u x).set v y:=λx y=>ir (by simp;omega);have lu:=yS m.es u j;have lv:=yS m.es v j
    have ak:(cs.set u (.arr (u+300) ((dQ m.es u j).length+1))).set v (.arr (v+300) ((dQ m.es v j).length+1))=cF (λv=>dQ m.es v (j+1)) i:=by
     rw[b];exact OT M N P (by rw[o];simp[sK,A,R]) (by rw[o];simp[sK,A,R,r];rw[YR (by omega)];rfl) (λw h1 h2=>by rw[o];simp only[sK,A,R,r,Za];rw[YR (by omega),YR (by omega)];simp)
    have cg:¬u+300=11:=by omega
    have ch:¬v+300=11:=by omega
    have b8:dQ m.es u (j+1)=dQ m.es u j++[e.v]:=by rw[o];simp[sK,A,R]
    have b9:dQ m.es v (j+1)=dQ m.es v j++[e.u]:=by rw[o];simp only[sK,A,R,r,Za];rw[YR (by omega)]
    have ca:∀w,w≠u->w≠v->dQ m.es w (j+1)=dQ m.es w j:=λw h1 h2=>by rw[o];simp only[sK,A,R,r,Za];rw[YR (by omega),YR (by omega)];simp
    generalize cz:dQ m.es u j=zu at *;generalize cB:dQ m.es v j=zv at *
    have cD:(fI zu).length=zu.length:=by simp
    have cM:(fI zv).length=zv.length:=by simp
    with_reducible repeat' (first|refine Sp.h ?_|((first|refine Wd ?_|refine Ss.h ?_|(refine Sb.h ?_ ?_ ?_<;>(try intro hgd)<;>try exact Xy))<;>simp -implicitDefEqProofs (maxSteps:=2000000) [hP,hN,g1,b1,g3,G,H,a,l,ar,z,hx,ad,A,R,r,g,cr,ct,M,N,P,b2,ru,rv,cu,cv,b5,b7,su,sv,cD,cM,cg,ch,show¬11=u+300 by omega,show¬11=v+300 by omega,show u+300<2000000 by omega,show v+300<2000000 by omega,hE.symm,show(zu.length+1)*8<=140737488355328 by omega,show(zv.length+1)*8<=140737488355328 by omega,show zu.length+1<=9223372036854775807 by omega,show zv.length+1<=9223372036854775807 by omega]<;>try refine Yc ?_)|refine X2 ?_ ?_|(refine Xd ?_ ?_<;>intro hcd<;>try exact Xx))
    refine⟨U,by rw[show cs.map (dL [])=cs by rw[b];exact uG _ _];exact ak,uH (st:=⟨_,_⟩) ?_⟩;intro w S;by_cases T:w=v
    .subst T;simp[b9,cB,R]
    .by_cases e2:w=u
     .subst e2;simp[b8,cz,r,T]
     .have:=d w S
      simp[ca w e2 T,T,e2,this]
   .have X:(λw=>dQ m.es w (j+1))=λw=>dQ m.es w j:=by
     funext w;rw[o];simp[sK,A]
    have cq:(e.s==1)=false:=by simp[A]
    rw[X]
    with_reducible repeat' (first|refine Sp.h ?_|((first|refine Wd ?_|refine Ss.h ?_|(refine Sb.h ?_ ?_ ?_<;>(try intro hgd)<;>try exact Xy))<;>simp -implicitDefEqProofs (maxSteps:=2000000) [hP,hN,g1,b1,g3,G,H,a,l,ar,z,hx,ad,A,cq,hE.symm]<;>try refine Ya ?_)|refine X2 ?_ ?_|(refine Xd ?_ ?_<;>intro hcd<;>try exact Xx))
    all_goals exact⟨U,uG _ _,uH (st:=⟨_,st.h⟩) d⟩
  .have l:j=E:=by omega
   subst l
   have l:¬j<m.es.length:=by omega
   with_reducible repeat' (first|refine Sp.h ?_|((first|refine Wd ?_|refine Ss.h ?_|(refine Sb.h ?_ ?_ ?_<;>(try intro hgd)<;>try exact Xy))<;>simp -implicitDefEqProofs (maxSteps:=2000000) [hP,hN,g1,b1,g3,G,H,a,l,hE.symm]<;>try refine Ya ?_)|refine X2 ?_ ?_|(refine Xd ?_ ?_<;>intro hcd<;>try exact Xx))
   refine WP.loopN [] i (λk st=>st.t 3=.ext (.barr 11 i i)/\st.t 78=.pv (Z i)/\st.t 79=.pv (Z k)/\st.h 11=some (.box (cF (λv=>dQ m.es v j) i) true false)/\rF (λv=>if v<k then jl m v else dQ m.es v j) i st.h) (by simp[g3,a,uG];exact uH (st:=⟨_,st.h⟩) d) ?_;clear g1 b1 g3 G H a d;rintro k st hk ⟨g3,I,J,a,d⟩;by_cases p:k<i
   .have z:=ae p (by omega)
    have a6:(k:Int)<(i:Int):=by omega
    obtain⟨cs,b⟩:∃cs,cs=cF (λv=>dQ m.es v j) i:=⟨_,rfl⟩;rw[<-b]at a
    have g:cs.length=i:=by rw[b,Bw]
    have ck:cs[k]?=some (.arr (k+300) (dQ m.es k j).length):=by rw[b];exact Jd _ p
    have ah:∀h,cs[k]'h=.arr (k+300) (dQ m.es k j).length:=λh=>(th.1 ck).2;have O:k+1<=i:=p
    have rk:st.h (k+300)=some (.row 3 1 (fI (dQ m.es k j)) 0):=by have:=d k p;simpa only[Nat.lt_irrefl,Y5]using this
    with_reducible iterate 9 any_goals (first|refine Sp.h ?_|((first|refine Wd ?_|refine Ss.h ?_|(refine Sb.h ?_ ?_ ?_<;>(try intro hgd)<;>try exact Xy))<;>simp -implicitDefEqProofs (maxSteps:=2000000) [hP,hN,g3,I,J,a,p,O,a6,g,ck,ah]<;>try refine Ya ?_)|refine X2 ?_ ?_|(refine Xd ?_ ?_<;>intro hcd<;>try exact Xx))
    refine WP.sortAt (hn:=[]) 4 rfl rfl rfl ?_;simp -implicitDefEqProofs (maxSteps:=2000000) [hP,hN,g3,I,J,a,p,O,a6,g,ck,ah];have a7:=yS m.es k j;refine⟨72,k+300,3,dQ m.es k j,rfl,by rw[hP];exact KV,by simp,rk,by intro h9;rw[h9]at a7;simp at a7,by omega,by simp[hN],?_⟩
    have cm:(dQ m.es k j).mergeSort (λx y=>decide (x<=y))=jl m k:=by rw[jl,<-hE]
    rw[cm];simp -implicitDefEqProofs (maxSteps:=2000000) [hP,hN]
    with_reducible repeat' (first|refine Sp.h ?_|((first|refine Wd ?_|refine Ss.h ?_|(refine Sb.h ?_ ?_ ?_<;>(try intro hgd)<;>try exact Xy))<;>simp -implicitDefEqProofs (maxSteps:=2000000) [hP,hN,g3,I,J,a,z]<;>try refine Ya ?_)|refine X2 ?_ ?_|(refine Xd ?_ ?_<;>intro hcd<;>try exact Xx))
    refine⟨by rw[show cs.map (dL [])=cs by rw[b];exact uG _ _];exact b,uH (st:=⟨_,_⟩) ?_⟩;intro w S;by_cases T:w=k
    .subst T;simp
    .have:=d w S
     simp only at this|-
     rw[show(if w<k+1 then jl m w else dQ m.es w j)=if w<k then jl m w else dQ m.es w j by
      by_cases h9:w<k
      .rw[YY h9,YY (by omega)]
      .rw[YR h9,YR (by omega)]]
     simp[T,this]
   .have cf:k=i:=by omega
    subst cf
    have cb:cF (λv=>dQ m.es v j) k=cF (jl m) k:=by
     unfold cF;refine List.map_congr_left λv _=>?_;simp[jl,<-hE]
    rw[cb]at a
    have cp:rF (jl m) k st.h:=λv r=>by have:=d v r;simpa[r]using this
    obtain⟨W,hW⟩:=FW (f:=jl m) (h:=st.h) (List.range k) (λv r=>cp v (Zw.1 r));obtain⟨cs,b⟩:∃cs,cs=cF (jl m) k:=⟨_,rfl⟩
    have aj:eh st.h cs=some ((List.range k).map (λv=>.sl (fI (jl m v))),W):=by rw[b];exact hW
    rw[<-b]at a
    have g:cs.length=k:=by rw[b,Bw]
    obtain⟨ps,L⟩:∃ps,ps=(List.range k).map (λv=>PV.sl (fI (jl m v))):=⟨_,rfl⟩;rw[<-L]at aj
    have Q:ps.all jp=true:=by rw[L,L4];intro x hx;obtain⟨v,_,rfl⟩:=Zg.1 hx;rfl
    rw[show((List.range k).map λv=>zs (jl m v))=ps from L.symm];have cn:=L4.1 Q
    with_reducible repeat' (first|refine Sp.h ?_|((first|refine Wd ?_|refine Ss.h ?_|(refine Sb.h ?_ ?_ ?_<;>(try intro hgd)<;>try exact Xy))<;>simp -implicitDefEqProofs (maxSteps:=2000000) [hP,hN,g3,I,J,a,aj,g,Q]<;>try refine Ya ?_)|refine X2 ?_ ?_|(refine Xd ?_ ?_<;>intro hcd<;>try exact Xx))
    all_goals (intro x hx;rw[L]at hx;obtain⟨v,_,rfl⟩:=Zg.1 hx;rfl)
end Go.Ab
namespace Go.Ab
open IntKind (i64)
open Go.Proofs.Tryz
open Go.Proofs
variable {P:List (List Int)}{Q:Exit->St->Prop}{a a0 a1 a10 a11 a12 a13 a14 a15 a16 a17 a18 a19 a2 a20 a21 a22 a23 a3 a4 a5 a6 a7 a8 a9 b b0 b1 b2 b3 b4 b5 c d v0 v1 v2 v3 v4 v5:Int}{e:aG}{es:List aG}{f:Nat->Int}{i j k m n:Nat}{js:List J}{ms:List Ms}{st:St}{x:List Int}{α:Type}{ρ:Operand->AV}{p:α->Bool}
theorem tC:∀(es:List (List Int×Value))(a:List Int)(u:Value)(js:List Int),iW (lU es a u) js=if a=js then some u else iW es js
 |[],a,u,js=>by simp[lU,iW]
 |(k,v)::r,a,u,js=>by
  simp only[lU];by_cases h1:k=a
  .subst h1
   rw[YY rfl];by_cases h2:k=js<;>simp[iW,h2]
  .rw[YR h1]
   simp only[iW];rw[tC r a u js];by_cases h2:k=js
   .subst h2
    simp[show¬a=k from λe=>h1 e.symm]
   .simp[h2]
def KJ(b:Bool)(es:List (List Int×Value))(k:List Int):List (List Int×Value):=if b=true then lU es k (.bool true)else es
def cE(plan:List (List Int))(b:Int)(tick:Nat)(es:List (List Int×Value))(c:Mov×Mov):List (List Int×Value):=
 KJ (c.2.a==b&&iU plan c.1 tick) (KJ (c.1.a==b&&iU plan c.2 tick) es [c.1.f,c.1.t]) [c.2.f,c.2.t]
def oM(cs:List (Mov×Mov))(plan:List (List Int))(a:Int)(tick:Nat):Nat->List (List Int×Value)
 |0=>[]
 |i+1=>match cs[i]? with
  |some c=>cE plan a tick (oM cs plan a tick i) c
  |none=>oM cs plan a tick i
theorem HP(cs:List (Mov×Mov))(plan:List (List Int))(b:Int)(tick:Nat)(f d:Int):∀i,iW (oM cs plan b tick i) [f,d]=if(cs.take i).any (Au plan b tick f d)=true then some (.bool true)else none
 |0=>by simp[oM,iW]
 |i+1=>by
  have ih:=HP cs plan b tick f d i;by_cases hi:i<cs.length
  .rw[oM,an hi]
   simp only;generalize hc:cs[i]=c;rw[ZC hi,List.any_append,hc];have hb:Au plan b tick f d c=((c.1.a==b&&(iU plan c.2 tick&&(c.1.f==f&&c.1.t==d)))||(c.2.a==b&&(iU plan c.1 tick&&(c.2.f==f&&c.2.t==d)))):=rfl;generalize(cs.take i).any (Au plan b tick f d)=r at *;simp only[List.any_cons,List.any_nil,Bool.or_false,hb,cE,KJ];cases h1:(c.1.a==b&&iU plan c.2 tick)<;>cases h2:(c.2.a==b&&iU plan c.1 tick)
   .simp only[YU,Y5,ih,<-Bool.and_assoc,h1,h2,Zt,Bool.or_false]
   .simp only[YU,Y5,Za,tC,ih,<-Bool.and_assoc,h1,h2,Zt,Zf,Bool.false_or]
    by_cases h3:c.2.f=f/\c.2.t=d
    .simp[h3.1,h3.2]
    .have:(c.2.f==f&&c.2.t==d)=false:=by simpa using λh=>λg=>h3 ⟨h,g⟩
     rw[this,Bool.or_false,YR (by simpa using λh=>λg=>h3 ⟨h,g⟩)]
   .simp only[YU,Y5,Za,tC,ih,<-Bool.and_assoc,h1,h2,Zt,Zf,Bool.or_false]
    by_cases h3:c.1.f=f/\c.1.t=d
    .simp[h3.1,h3.2]
    .have:(c.1.f==f&&c.1.t==d)=false:=by simpa using λh=>λg=>h3 ⟨h,g⟩
     rw[this,Bool.or_false,YR (by simpa using λh=>λg=>h3 ⟨h,g⟩)]
   .simp only[Za,tC,ih,<-Bool.and_assoc,h1,h2,Zf]
    by_cases h3:c.1.f=f/\c.1.t=d
    .by_cases h4:c.2.f=f/\c.2.t=d
     .simp[h4.1,h4.2]
     .have:(c.2.f==f&&c.2.t==d)=false:=by simpa using λh=>λg=>h4 ⟨h,g⟩
      rw[this,Bool.or_false,YR (by simpa using λh=>λg=>h4 ⟨h,g⟩)];simp[h3.1,h3.2]
    .have h5:(c.1.f==f&&c.1.t==d)=false:=by simpa using λh=>λg=>h3 ⟨h,g⟩
     rw[h5,Bool.false_or];by_cases h4:c.2.f=f/\c.2.t=d
     .simp[h4.1,h4.2]
     .have:(c.2.f==f&&c.2.t==d)=false:=by simpa using λh=>λg=>h4 ⟨h,g⟩
      rw[this,Bool.or_false,YR (by simpa using λh=>λg=>h4 ⟨h,g⟩),YR (by simpa using λh=>λg=>h3 ⟨h,g⟩)]
  .rw[oM,Y2 (by omega)]
   simp only[ih,Zh (show cs.length<=i by omega),Zh (show cs.length<=i+1 by omega)]
theorem OU{plan:List (List Int)}{m:Mov}{tick:Nat}{l:List Int}(c:0<=m.a)(b:plan[m.a.toNat]?=some l):iU plan m tick=(decide (0<l.length)&&(l[tick]?==some m.f&&l[tick+1]?==some m.t)):=by
 unfold iU;rw[b];rfl
theorem Ti(plan:List (List Int))(m:Mov)(tick T:Nat)(r:0<=m.a)(h1:m.a.toNat<plan.length)(hp:∀l∈plan,l=[]\/l.length=T+1)(v:tick<T)(u:T<=64):aS prog 73 [.pv (dN m),.pv (Z tick),.bx 0] [[.sl (plan.map zs)]] [[.sl (plan.map zs)]] (.pv (B (iU plan m tick))):=by
 obtain⟨m1,m2,s⟩:=m;simp only at r h1;obtain⟨k,rfl⟩:∃k:Nat,m1=k:=⟨m1.toNat,by omega⟩;rw[Y9]at h1;have n:plan[k]?=some plan[k]:=an h1;have b:=hp _ (Zd h1);rw[OU (plan:=plan) (m:=⟨k,m2,s⟩) (l:=plan[k]) (by simp) (by simpa using n)];generalize f:plan[k]=l at *;rcases b with g|g
 .subst g
  refine yn func73 rfl (by kernel_rfl) (by simp[f73]) rfl (by intro i j h;rcases i with _|_|_|i<;>simp_all) ?_;intro C hP hN;simp only[f73]at hN|-;exact Gy
 .have w1:(0:Int)<(l.length:Int):=by omega
  have w2:0<l.length:=by omega
  have q:i64.wrap ((tick:Int)+1)=((tick+1:Nat):Int):=by rw[IntKind.wrap_i64];omega
  obtain⟨t1,c⟩:∃t1,t1=tick+1:=⟨_,rfl⟩;rw[<-c]at q|-
  have o:tick<l.length:=by omega
  have p:t1<l.length:=by omega
  have a0:=l7 o;have a1:=l7 p;generalize d:l[tick]=x0 at *;generalize e:l[t1]=x1 at *;rw[a0,a1,Zs w2,Zf];refine yn func73 rfl (by kernel_rfl) (by simp[f73]) rfl (by intro i j h;rcases i with _|_|_|i<;>simp_all) ?_;intro C hP hN;simp only[f73]at hN|-
  with_reducible repeat' (first|refine Sp.h ?_|((first|refine Wd ?_|refine Ss.h ?_|(refine Sb.h ?_ ?_ ?_<;>(try intro hgd)<;>try exact Xy))<;>simp -implicitDefEqProofs (maxSteps:=2000000) [hP,hN,n,f,h1,w1,w2,q,o,p,a0,a1,d,e]<;>try refine Ya ?_)|refine X2 ?_ ?_|(refine Xd ?_ ?_<;>intro hcd<;>try exact Xx))
  all_goals simp_all
abbrev Je(es:List (List Int×Value)):PV:=.mp .i64 2 es
theorem XJ(ms:List PV)(tick:Nat)(f a:Int)(es:List (List Int×Value))(p:Bool)(d:ms[tick]?=some (Je es))(c:iW es [f,a]=if p=true then some (.bool true)else none):mD 74 (Z tick) (Z f) (Z a) (.rptr (.sl ms) 0) (B (!p)):=by
 have e:=(th.1 d).1;have g:=(th.1 d).2;refine Dp func74 λC hP hN=>?_
 cases p with
 |true=>
  have b:iW es [f,a]=some (.bool true):=c;exact Gy
 |false=>
  have b:iW es [f,a]=none:=c;exact Gy
def mC(i n:Nat):List AV:=(List.range n).map λw=>if w<i then .ext (.mp (w+300))else .pv (.val (.map none))
theorem By(i n:Nat):(mC i n).length=n:=by simp[mC]
theorem OV(n:Nat):mC 0 n=List.replicate n (.pv (.val (.map none))):=by
 simp[mC,List.map_const']
theorem OW(x:AV):((mC i n).set i x).set i (.ext (.mp (i+300)))=mC (i+1) n:=by
 rw[List.set_set];apply Zx;intro w;rw[Y1];simp only[By];by_cases a:w<n
 .by_cases e:i=w
  .subst e;simp[mC,a]
  .simp[mC,a,e,show(w<i+1↔w<i) by omega]
 .by_cases e:i=w
  .subst e;simp[mC,a]
  .simp[mC,a,e]
theorem Sz{w:Nat}(h:w<i)(hn:w<n):(mC i n)[w]?=some (.ext (.mp (w+300))):=by simp[mC,hn,h]
theorem HQ(ks:List Nat)(a:∀k∈ks,k<300)(i n:Nat):(mC i n).map (dL ks)=mC i n:=by
 unfold mC;rw[List.map_map];refine List.map_congr_left λw _=>?_
 have:ks.contains (w+300)=false:=by
  rw[<-Bool.not_eq_true];intro h;have:=a _ (List.contains_iff_mem.1 h);omega
 simp only[Function.comp];split<;>simp[o7,fA,this];intro h;have:=a _ h;omega
def mF(g:Nat->List (List Int×Value))(n:Nat)(h:Hp):Prop:=∀v,v<n->h (v+300)=some (.mp .i64 2 (g v) false)
theorem CJ{ks:List Nat}(a:∀k∈ks,k<300){g:Nat->List (List Int×Value)}(h:mF g n st.h):mF g n (St.kill ks st).h:=by
 intro v b;have:=h v b
 have h2:ks.contains (v+300)=false:=by
  rw[<-Bool.not_eq_true];intro h;have:=a _ (List.contains_iff_mem.1 h);omega
 simp only[St.kill,h2,YU,Y5,this];rfl
theorem FX{g:Nat->List (List Int×Value)}{h:Hp}:∀(l:List Nat),(∀v∈l,h (v+300)=some (.mp .i64 2 (g v) false))->sT h (l.map λv=>.ext (.mp (v+300)))=some (l.map λv=>Je (g v))
 |[],_=>rfl
 |v::l,a=>by
  have h1:=a v (by simp);have h2:=FX l λw b=>a w (by simp[b]);simp only[Z0,sT,wD,h1,h2]
def sL(cs:List (Mov×Mov))(plan:List (List Int))(a:Int)(T:Nat):List PV:=(List.range T).map λv=>Je (oM cs plan a v cs.length)
abbrev SB(cs:List (Mov×Mov))(plan:List (List Int))(a:Int)(T:Nat):PV:=.fn (.func 74) [] [.rptr (.sl (sL cs plan a T)) 0]
theorem XK(t:eG)(plan:List (List Int))(b:Int)(T:Nat)(hc:fy t=true)(bq:t.conf.length<=4096)(hp:plan.length=t.maps.length)(ar:∀l∈plan,l=[]\/l.length=T+1)(hT:T<=64):aS prog 36 [.pv (lN t),.pv (.sl (plan.map zs)),.pv (Z b),.pv (Z T)] [] [] (.new (SB t.conf plan b T)):=by
 have U:∀c∈t.conf,(0<=c.1.a/\c.1.a.toNat<plan.length)/\(0<=c.2.a/\c.2.a.toNat<plan.length):=by
  intro c a8;have h:=hc;simp only[fy,up,L4]at h;have:=h.2.2.2.2 c a8;simp only[uI,gw,up,dV]at this;omega
 refine Dp func36 λC hP hN=>?_
 with_reducible repeat' (first|refine Sp.h ?_|((first|refine Wh [1000015] ?_|refine Wi [1000015] ?_|refine Ss.h ?_|(refine Sb.h ?_ ?_ ?_<;>(try intro hgd)<;>try exact Xy))<;>simp -implicitDefEqProofs (maxSteps:=2000000) [hP,hN,show(T:Int)*8<=281474976710656 by omega,show 8*(T:Int)<=281474976710656 by omega,show(T:Int)<=9223372036854775807 by omega]<;>try refine Ya ?_)|refine X2 ?_ ?_|(refine Xd ?_ ?_<;>intro hcd<;>try exact Xx))
 refine WP.loopN [] T (λi st=>st.t 4=.ptr 4 0/\st.h 4=some (.box [.pv (.sl (t.maps.map bp)),.pv (.sl (t.conf.map dG))] true false)/\st.t 2=.pv (Z b)/\st.h 5=some (.box [.pv (.sl (plan.map zs))] true false)/\st.t 9=.ptr 9 0/\st.h 9=some (.box [.ext (.barr 15 T T)] true false)/\st.t 10=.fn (.func 73) [] [.ptr 5 0]/\st.t 18=.pv (Z T)/\st.t 19=.pv (Z i)/\st.h 15=some (.box (mC i T) true false)/\mF (λw=>oM t.conf plan b w t.conf.length) i st.h/\(∀w,i<=w->st.h (w+300)=none)/\st.h 24=none/\st.h 13=none) (by simp[OV,mF];try (intro w;simp[o8])) ?_;rintro i st hi ⟨g4,b4,g2,b5,H,G,o,p,r,d,A,z,n,m⟩;by_cases u:i<T
 .have cc:=ae u (by omega)
  have ah:i+1<=T:=u
  have aj:(i:Int)<(T:Int):=by omega
  obtain⟨cs,B⟩:∃cs,cs=mC i T:=⟨_,rfl⟩;rw[<-B]at d
  have J:cs.length=T:=by rw[B,By]
  have b8:cs.take i++AV.ext (.mp 24)::cs.drop (i+1)=cs.set i (.ext (.mp 24)):=ir (by omega)
  with_reducible iterate 12 any_goals (first|refine Sp.h ?_|((first|refine Wd ?_|refine Ss.h ?_|(refine Sb.h ?_ ?_ ?_<;>(try intro hgd)<;>try exact Xy))<;>simp -implicitDefEqProofs (maxSteps:=2000000) [hP,hN,g4,b4,g2,b5,H,G,o,p,r,d,n,m,u,ah,aj,J,b8]<;>try refine Ya ?_)|refine X2 ?_ ?_|(refine Xd ?_ ?_<;>intro hcd<;>try exact Xx))
  refine WP.rename 15 i 24 (i+300) (blk:=.mp .i64 2 [] false) (x:=.ext (.mp 24)) (y:=.ext (.mp (i+300))) (cs:=cs.set i (.ext (.mp 24))) (own:=true) (fb:=false) (by simp) (by simp[z i (Y0 _)]) (by omega) (by simp) (by simp[J,u]) ⟨rfl,rfl⟩ ?_ ?_
  .intro w c hc b7
   rw[Y1,YR (λe=>b7 e.symm),B]at hc;simp only[mC,YS,II]at hc;obtain⟨q,hq,rfl⟩:=hc;split<;>simp[o7,fA]
  rw[B,OW];obtain⟨f,V⟩:∃f,f=t.conf:=⟨_,rfl⟩;rw[<-V]at U A bq b4|-
  with_reducible iterate 2 any_goals (first|refine Sp.h ?_|((first|refine Wd ?_|refine Ss.h ?_|(refine Sb.h ?_ ?_ ?_<;>(try intro hgd)<;>try exact Xy))<;>simp -implicitDefEqProofs (maxSteps:=2000000) [hP,hN,oa,g4,b4,g2,b5,H,G,o,p,r,d,n,m]<;>try refine Ya ?_)|refine X2 ?_ ?_|(refine Xd ?_ ?_<;>intro hcd<;>try exact Xx))
  refine WP.loopN [13] f.length (λj st=>st.t 4=.ptr 4 0/\st.h 4=some (.box [.pv (.sl (t.maps.map bp)),.pv (.sl (f.map dG))] true false)/\st.t 2=.pv (Z b)/\st.h 5=some (.box [.pv (.sl (plan.map zs))] true false)/\st.t 9=.ptr 9 0/\st.h 9=some (.box [.ext (.barr 15 T T)] true false)/\st.t 10=.fn (.func 73) [] [.ptr 5 0]/\st.t 18=.pv (Z T)/\st.t 19=.pv (Z i)/\st.t 11=.pv (Z i)/\st.t 27=.pv (.sl (f.map dG))/\st.t 28=.pv (Z f.length)/\st.t 29=.pv (Z j)/\st.h 15=some (.box (mC (i+1) T) true false)/\mF (λw=>oM f plan b w f.length) i st.h/\st.h (i+300)=some (.mp .i64 2 (oM f plan b i j) false)/\(∀w,i+1<=w->st.h (w+300)=none)/\st.h 24=none/\st.h 13=none) (by
   simp[oa,g4,b4,g2,b5,H,G,o,p,r,d,n,m,oM];refine⟨HQ _ (by simp) _ _,CJ (by simp) (st:=⟨_,_⟩) ?_,λw N=>by rw[YR (by omega),z w (by omega)];rfl⟩;intro v K
   simp[oa,A v K,show¬v=i by omega]) ?_
  clear g4 b4 g2 b5 H G o p r d n m A z;rintro j st hj ⟨g4,b4,g2,b5,H,G,o,p,r,P,Q,R,S,d,A,L,z,n,m⟩;obtain⟨D,s⟩:∃cs,cs=mC (i+1) T:=⟨_,rfl⟩
  have Y:D.length=T:=by rw[s,By]
  have ck:D[i]?=some (.ext (.mp (i+300))):=by rw[s];exact Sz (by omega) u
  have a7:∀h,D[i]'h=.ext (.mp (i+300)):=λh=>(th.1 ck).2
  have W:∀ks:List Nat,(∀k∈ks,k<300)->D.map (dL ks)=D:=λks hk=>by rw[s];exact HQ ks hk _ _
  have I:=W [] (by simp);have X:=W [13] (by simp);by_cases E:j<f.length
  .have cb:=ae E (by omega)
   have a6:f[j]?=some f[j]:=an E;have F:=U _ (Zd E)
   have hE:oM f plan b i (j+1)=cE plan b i (oM f plan b i j) f[j]:=by rw[oM,a6]
   have O:=Ti plan f[j].2 i T F.2.1 F.2.2 ar u hT;have cB:=Ti plan f[j].1 i T F.1.1 F.1.2 ar u hT;generalize hx:f[j]=c at *;obtain⟨⟨c1,c2,c3⟩,⟨d1,d2,d3⟩⟩:=c;simp only at O cB;simp only[cE]at hE;generalize iU plan ⟨d1,d2,d3⟩ i=mA at *;generalize iU plan ⟨c1,c2,c3⟩ i=mB at *;generalize oM f plan b i (j+1)=cd at *;generalize oM f plan b i j=es at *;rw[<-s]at d|-;cases e1:(c1==b)<;>cases mA<;>cases e3:(d1==b)<;>cases mB
   all_goals
    simp only[e1,e3,KJ,Zf,Zt,YU,Za,Y5]at hE
    skip
    with_reducible repeat' (first|refine Sp.h ?_|((first|refine Wd ?_|refine Ss.h ?_|refine Sc.h (O) ?_|refine Sc.h (cB) ?_|(refine Sb.h ?_ ?_ ?_<;>(try intro hgd)<;>try exact Xy))<;>simp -implicitDefEqProofs (maxSteps:=2000000) [hP,hN,g4,b4,g2,b5,H,G,o,p,r,P,Q,R,S,d,L,n,m,E,cb,hx,a6,e1,e3,Y,ck,a7,u,I,X]<;>try refine Yc ?_)|refine X2 ?_ ?_|(refine Xd ?_ ?_<;>intro hcd<;>try exact Xx))
   all_goals
    refine⟨CJ (by simp) (st:=⟨_,_⟩) ?_,hE.symm,by first|exact z|(intro w N;rw[YR (by omega)];exact z w N)|(intro w N;rw[YR (by omega),YR (by omega)];exact z w N)⟩;intro v K
    have ca:¬v=i:=by omega
    simp[A v K,ca]
  .have b3:j=f.length:=by omega
   rw[b3]at L;rw[<-s]at d|-
   with_reducible repeat' (first|refine Sp.h ?_|((first|refine Wd ?_|refine Ss.h ?_|(refine Sb.h ?_ ?_ ?_<;>(try intro hgd)<;>try exact Xy))<;>simp -implicitDefEqProofs (maxSteps:=2000000) [hP,hN,g4,b4,g2,b5,H,G,o,p,r,P,Q,R,S,d,n,m,E,cc,I]<;>try refine Ya ?_)|refine X2 ?_ ?_|(refine Xd ?_ ?_<;>intro hcd<;>try exact Xx))
   refine⟨CJ (by simp) (st:=⟨_,_⟩) ?_,λw N=>by rw[z w N]⟩;intro v K;by_cases e:v=i
   .subst e;exact L
   .exact A v (by omega)
 .have b2:i=T:=by omega
  subst b2
  have B:mC i i=(List.range i).map λv=>.ext (.mp (v+300)):=by
   unfold mC;refine List.map_congr_left λv K=>?_;rw[YY (Zw.1 K)]
  have hW:=FX (g:=λw=>oM t.conf plan b w t.conf.length) (h:=st.h) (List.range i) (λv K=>A v (Zw.1 K));have M:sL t.conf plan b i=(List.range i).map λv=>Je (oM t.conf plan b v t.conf.length):=rfl;rw[<-M,<-B]at hW;have ad:(mC i i).length=i:=By i i
  have ak:(sL t.conf plan b i).all jp=true:=by rw[M,L4];intro x hx;obtain⟨v,_,rfl⟩:=Zg.1 hx;rfl
  generalize sL t.conf plan b i=ps at *;generalize mC i i=cs at *
  with_reducible repeat' (first|refine Sp.h ?_|((first|refine Wd ?_|refine Ss.h ?_|(refine Sb.h ?_ ?_ ?_<;>(try intro hgd)<;>try exact Xy))<;>simp -implicitDefEqProofs (maxSteps:=2000000) [hP,hN,g4,b4,g2,b5,H,G,o,p,r,d,n,m,hW,ad]<;>try refine Ya ?_)|refine X2 ?_ ?_|(refine Xd ?_ ?_<;>intro hcd<;>try exact Xx))
  all_goals rw[YY (by intro x hx;exact L4.1 ak x hx)]
  all_goals (simp;exact M)
def lw(x:List Int):List Int:=x++List.replicate (10-x.length) 0
theorem MW(h:x.length<=10):(lw x).length=10:=by simp[lw];omega
theorem MX{y:List Int}(h:x.length=y.length)(e:lw x=lw y):x=y:=by
 unfold lw at e;exact(List.append_inj e h).1
def BQ(js:List J)(ms:List Ms)(acc:List (List Int))(x:List Int):List (List Int):=if aX js ms x=true then(if acc.contains x=true then acc else acc++[x])else acc
def j4(js:List J)(ms:List Ms)(P:List (List Int)):List (List Int):=P.foldl (BQ js ms) []
theorem sP(h:P[i]?=some x):j4 js ms (P.take (i+1))=BQ js ms (j4 js ms (P.take i)) x:=by
 obtain⟨hi,a⟩:=th.1 h;unfold j4;rw[ZC hi,yAR,a];rfl
theorem CV(js:List J)(ms:List Ms)(P:List (List Int)):∀i,(j4 js ms (P.take i)).length<=i
 |0=>by simp[j4]
 |i+1=>by
  have ih:=CV js ms P i;by_cases hi:i<P.length
  .rw[sP (an hi)]
   unfold BQ;split
   .split
    .omega
    .simp only[Zb,ZR];omega
   .omega
  .rw[Zh (by omega)]
   rw[Zh (by omega)]at ih;omega
theorem K2(js:List J)(ms:List Ms)(P:List (List Int)):∀i,∀y∈j4 js ms (P.take i),aX js ms y=true
 |0=>by simp[j4]
 |i+1=>by
  have ih:=K2 js ms P i;by_cases hi:i<P.length
  .rw[sP (an hi)]
   unfold BQ;split
   .rename_i h1
    split
    .exact ih
    .intro y a
     rcases Y7.1 a with a|a
     .exact ih y a
     .simp at a;subst a;exact h1
   .exact ih
  .rw[Zh (by omega)]
   rw[Zh (by omega)]at ih;exact ih
def xX(acc:List (List Int)):List (List Int×Value):=acc.map λx=>(lw x,.bool true)
theorem Gp{n:Nat}{x:List Int}(d:x.length=n):∀(acc:List (List Int)),(∀y∈acc,y.length=n)->iW (xX acc) (lw x)=if acc.contains x=true then some (.bool true)else none
 |[],_=>by simp[xX,iW]
 |y::r,h=>by
  have ih:=Gp d r λz f=>h z (by simp[f]);have g:=h y (by simp);simp only[xX,Z0,iW];by_cases e:y=x
  .subst e;simp
  .have a:¬lw y=lw x:=λc=>e (MX (by omega) c)
   rw[YR a]
   have b:(x==y)=false:=by simp;exact λh=>e h.symm
   rw[show iW (List.map (λx=>(lw x,Value.bool true)) r) (lw x)=iW (xX r) (lw x) from rfl,ih,List.contains_cons,b,Bool.false_or]
theorem MY{acc:List (List Int)}(h:iW (xX acc) (lw x)=none):lU (xX acc) (lw x) (.bool true)=xX (acc++[x]):=by
 have:∀(es:List (List Int×Value))(k:List Int),iW es k=none->lU es k (.bool true)=es++[(k,.bool true)]:=by
  intro es k
  induction es with
  |nil=>intro _;rfl
  |cons a r ih=>
   obtain⟨c,v⟩:=a;intro h;simp only[iW]at h;split at h
   .cases h
   .rename_i b
    simp only[lU,YR b,ih h,List.cons_append]
 rw[this _ _ h];simp[xX]
theorem lQ(h:aX js ms x=true):x.length=js.length/\1<=x.length/\x.length<=10:=by
 simp only[aX,up,Is]at h;have:=Iz h.1.1;omega
theorem RD(xs:List Int)(c:xs.length<=16777216)(b:xs≠[]):aT 111 (zs xs) (zs xs):=by
 have a:xs.isEmpty=false:=by simp[b]
 refine Dp func111 λC hP hN=>?_;exact ST [5] (go b a (show xs.length*8<=140737488355328 by omega) (show xs.length<=9223372036854775807 by omega))
theorem Gq:∀K:List Int,jo (K.map λz=>AV.pv (Z z))=some (K.map Z)
 |[]=>rfl
 |z::r=>by simp only[Z0,jo,Gq r,ZD]
theorem DL:∀K:List Int,eg (K.map Z)=some (K.map (Value.int .i64))
 |[]=>rfl
 |z::r=>by simp only[Z0,eg,DL r,ZD]
theorem DM:∀K:List Int,mc .i64 (K.map (Value.int .i64))=some K
 |[]=>rfl
 |z::r=>by simp only[Z0,mc,Za,DM r,ZD]
theorem Yr(js:List J)(ms:List Ms)(P:List (List Int))(Y:js.length<=9223372036854775807)(hm:ms.length<=9223372036854775807)(W:P.length<=1024):aH 66 (eS js ms) (.sl (P.map zs)) (.sl ((j4 js ms P).map zs)):=by
 have V:=λ(x:List Int)=>Lk js ms x Y hm
 have B:j4 js ms (P.take P.length)=j4 js ms P:=by rw[yAE]
 refine Dp func66 λC hP hN=>?_;refine kp [5] trivial ?_;refine WP.loopN [9] P.length (λi st=>st.t 2=.ptr 2 0/\st.h 2=some (.box [.pv (.sl (js.map aQ)),.pv (.sl (ms.map bb))] true false)/\st.t 5=.arr 5 (j4 js ms (P.take i)).length/\st.h 5=some (.row 61 1 ((j4 js ms (P.take i)).map zs) 0)/\st.t 6=.ext (.mp 10)/\st.h 10=some (.mp .i64 10 (xX (j4 js ms (P.take i))) false)/\st.t 11=.pv (.sl (P.map zs))/\st.t 12=.pv (Z P.length)/\st.t 13=.pv (Z i)/\st.h 9=none) (by simp[j4,xX]) ?_;rintro i st hi ⟨g2,b2,g5,b5,m,a,b,c,d,H⟩;have hL:=CV js ms P i;by_cases k:i<P.length
 case neg=>
  have I:i=P.length:=by omega
  subst I;rw[B]at g5 b5 a;exact Gy
 have Q:=ae k (by omega);have G:P[i]?=some P[i]:=an k;have u:=sP (js:=js) (ms:=ms) G;have L:=K2 js ms P i;have c1:=V P[i];generalize v:P[i]=x at *;generalize j4 js ms (P.take i)=acc at *
 have s:((acc.length:Int)==1024)=false:=by simp;omega
 cases g:aX js ms x with
 |false=>
  rw[g]at c1
  have f:j4 js ms (P.take (i+1))=acc:=by rw[u,BQ,YR (by rw[g];decide)]
  exact GS (zAc g2 b2 g5 b5 m a b c d H k Q G v (gA s f))
 |true=>
  rw[g]at c1;obtain⟨x0,x1,U⟩:=lQ g;have p:=MW U;have D:=Gp (x:=x) x0 acc λy hy=>(lQ (L y hy)).1;have O:=λh=>MY (acc:=acc) (x:=x) h
  have n:x.map (λz=>AV.pv (Z z))++(List.replicate (10-x.length) (AV.pv (Z 0)))=(lw x).map λz=>AV.pv (Z z):=by simp[lw]
  have A:(List.replicate 10 (AV.pv (Z 0))).drop x.length=List.replicate (10-x.length) (AV.pv (Z 0)):=by rw[List.drop_replicate]
  generalize lw x=K at *;obtain⟨j,X,M⟩:∃j,prog.info? 2=some j/\j.size=1:=⟨_,rfl,rfl⟩
  with_reducible repeat' (first|refine Sp.h ?_|((with_unfolding_all refine WP.copyArr rfl rfl rfl rfl rfl rfl rfl rfl rfl (by intro h9;cases h9) (by decide) ?_);simp -implicitDefEqProofs (maxSteps:=2000000) [hP,hN,g2,b2,g5,b5,m,a,b,c,d,H,k,G,v,s])|((first|refine Ss.h ?_|refine Sc.h (c1) ?_|(refine Sb.h ?_ ?_ ?_<;>(try intro hgd)<;>try exact Xy))<;>simp -implicitDefEqProofs (maxSteps:=2000000) [hP,hN,g2,b2,g5,b5,m,a,b,c,d,H,k,G,v,s])|refine X2 ?_ ?_|(refine Xd ?_ ?_<;>intro hcd<;>try exact Xx))
  refine⟨by intro e;subst e;simp at x1,10,U,rfl,2,⟨rfl,rfl⟩,rfl,j,X,M,?_⟩
  have q1:(acc.length+1)*24<=140737488355328:=by omega
  have q2:acc.length+1<=9223372036854775807:=by omega
  have cl:=RD x (by omega) (by intro e;subst e;simp at x1);obtain⟨o,l⟩:∃o,o=K.map λz=>AV.pv (Z z):=⟨_,rfl⟩;refine WP.of_st (P:=λst=>st.t 2=.ptr 2 0/\st.h 2=some (.box [.pv (.sl (js.map aQ)),.pv (.sl (ms.map bb))] true false)/\st.t 5=.arr 5 acc.length/\st.h 5=some (.row 61 1 (acc.map zs) 0)/\st.t 6=.ext (.mp 10)/\st.h 10=some (.mp .i64 10 (xX acc) false)/\st.t 11=.pv (.sl (P.map zs))/\st.t 12=.pv (Z P.length)/\st.t 13=.pv (Z i)/\st.t 8=.pv (zs x)/\st.t 9=.ptr 9 0/\st.h 9=some (.box o true false)) ⟨?_,?_⟩
  .refine⟨by simp[g2],by simp[b2],by simp[g5],by simp[b5],by simp[m],by simp[a],by simp[b],by simp[c],by simp[d],by simp,by simp,?_⟩
   rw[l,<-n,<-A];simp
  obtain⟨E,q⟩:∃E,E=K.map Z:=⟨_,rfl⟩;obtain⟨F,r⟩:∃F,F=K.map (Value.int .i64):=⟨_,rfl⟩
  have k1:o.length=10:=by rw[l];simp[p]
  have k2:o.take 10=o:=Zh (by omega)
  have k3:jo o=some E:=by rw[l,q];exact Gq K
  have k4:eg E=some F:=by rw[q,r];exact DL K
  have k5:mc .i64 F=some K:=by rw[r];exact DM K
  clear l q r n A g2 b2 g5 b5 m a b c d H st;rintro st ⟨g2,b2,g5,b5,m,a,b,c,d,S,T,R⟩
  cases hc:acc.contains x with
  |true=>
   rw[YY hc]at D
   have f:j4 js ms (P.take (i+1))=acc:=by rw[u,BQ,YY g,YY hc]
   exact GS (zAc g2 b2 g5 b5 m a b c d S T R Q k1 (s6 k2 k3 k4 k5 p D f))
  |false=>
   rw[YR (by rw[hc];decide)]at D;have N:=O D
   have f:j4 js ms (P.take (i+1))=acc++[x]:=by rw[u,BQ,YY g,YR (by rw[hc];decide)]
   exact GS (zAc g2 b2 g5 b5 m a b c d S T R Q k1 (zAa k2 k3 k4 k5 p D N f q1 q2))
theorem qk(_:m=n)(a:Array Value):∀k,k<n->k<a.size+(n-a.size):=by intro k h;omega
theorem PH{P:Program}{g:FuncId}(h:gW P g:=by
 refine⟨by kernel_rfl,λargs w=>?_⟩;refine callsD_of_wpS hf rfl λc e d=>?_;apply wpS_seq;apply wpS_region;have a:=qk nt args;have b:=a 0 (by decide);have h1:=a 1 (by decide);have h2:=a 2 (by decide);simp[wpOpsS,go_sem,recoverD,d,nt,Exit.thenS,b,h1,h2];refine wpS_cond (t:=false) (by simp[Act.eval,b,h1,h2]) ?_;simp only[YU,Y5];refine wpS_of_wp (wp_skip ?_);cases c
 simp_all[bodyPostS,results,rs]):gW P g:=h
theorem PI{P:Program}{g:FuncId}(h:gW P g:=by
 refine⟨by kernel_rfl,λargs w=>?_⟩;refine callsD_of_wpS hf rfl λc e d=>?_;apply wpS_seq;apply wpS_region;have a:=qk nt args;have b:=a 0 (by decide);have h1:=a 1 (by decide);have h2:=a 2 (by decide);have h3:=a 3 (by decide);simp[wpOpsS,go_sem,recoverD,d,nt,Exit.thenS,b,h1,h2,h3];refine wpS_cond (t:=false) (by simp[Act.eval,b,h1,h2,h3]) ?_;simp only[YU,Y5];refine wpS_of_wp (wp_skip ?_);cases c
 simp_all[bodyPostS,results,rs]):gW P g:=h
def bF(P:List (List Int))(u:Int):List Int:=(P[u.toNat]?).getD []
def jB(js:List J)(ms:List Ms)(P:List (List Int))(e:aG):Bool:=pP P.length e&&(decide (e.u<e.v)&&(decide (e.c=eV js ms (bF P e.u) (bF P e.v))&&((decide (0<=e.s)&&(decide (e.s<=3)&&decide (e.rest.k1=Gn e.s)))&&(decide (e.s≠0)||BP e.rest))))
def DN(js:List J)(ms:List Ms)(P:List (List Int)):Bool:=decide ((j4 js ms P).length=P.length)
def nE(js:List J)(ms:List Ms)(P:List (List Int))(es:List aG):Bool:=decide (aR js ms=0)&&(decide (P.length<=1024)&&(decide (es.length<=8192)&&(DN js ms P&&(sM P.length es&&es.all (jB js ms P)))))
def vU(es:List aG)(i:Nat)(e:aG):Bool:=match i with
 |0=>true
 |i+1=>match es[i]? with
  |some a=>decide (a.u<e.u\/(a.u=e.u/\a.v<e.v))
  |none=>true
theorem MZ{y:aG}(h:es[m]?=some y):vU es (m+1) e=decide (y.u<e.u\/(y.u=e.u/\y.v<e.v)):=by unfold vU;simp only[h]
theorem K3(b:es[i]?=some e)(h:pP n e=true)(d:e.u<e.v):F9 n (jz es i) e=vU es i e:=by
 simp only[pP,gp,up,Is]at h
 cases i with
 |zero=>
  unfold F9 jz vU;simp;omega
 |succ i=>
  have c:=(th.1 b).1;have ha:es[i]?=some es[i]:=an (by omega)
  have a:vU es (i+1) e=decide (es[i].u<e.u\/(es[i].u=e.u/\es[i].v<e.v)):=by unfold vU;simp only[ha]
  rw[DG ha,a];unfold F9;rw[Bool.eq_iff_iff];simp;omega
theorem vV(h:jB js ms P e=true):pP P.length e=true/\e.u<e.v:=by
 simp only[jB,up,Is]at h;exact⟨h.1,h.2.1⟩
def H5(js:List J)(ms:List Ms)(P:List (List Int))(es:List aG)(i:Nat):Prop:=∀j e,j<i->es[j]?=some e->jB js ms P e=true/\vU es j e=true
theorem Pn(h:H5 js ms P es i)(hi:¬i<es.length):(sM P.length es&&es.all (jB js ms P))=true:=by
 rw[up];refine⟨As.2 λj e b a=>?_,L4.2 λe a=>?_⟩
 .obtain⟨h1,h2⟩:=h j e (by omega) a
  obtain⟨h3,h4⟩:=vV h1;rw[K3 a h3 h4];exact h2
 .obtain⟨j,b⟩:=Zq a
  exact(h j e (by have:=(th.1 b).1;omega) b).1
theorem M3(a:es[i]?=some e)(h:(jB js ms P e&&vU es i e)=false):(sM P.length es&&es.all (jB js ms P))=false:=by
 rw[<-Bool.not_eq_true,up];rintro⟨h1,h2⟩;have h3:=L4.1 h2 e (An a);obtain⟨h4,h5⟩:=vV h3;have h6:=As.1 h1 i e (th.1 a).1 a;rw[K3 a h4 h5]at h6;rw[h3,h6]at h;cases h
theorem H6{js:List J}{ms:List Ms}{P:List (List Int)}{k:Nat}(a:k<=P.length)(h:(j4 js ms (P.take k)).length+1<=k):∀d,k+d<=P.length->(j4 js ms (P.take (k+d))).length+1<=k+d
 |0,_=>h
 |d+1,hd=>by
  have ih:=H6 a h d (by omega);rw[show k+(d+1)=k+d+1 by omega,sP (an (show k+d<P.length by omega))];unfold BQ;split
  .split
   .omega
   .simp only[Zb,ZR];omega
  .omega
theorem M4(a:P[i]?=some x)(h:aX js ms x=false\/(j4 js ms (P.take i)).contains x=true):DN js ms P=false:=by
 have hi:=(th.1 a).1
 have h1:(j4 js ms (P.take (i+1))).length+1<=i+1:=by
  rw[sP a];have:=CV js ms P i;unfold BQ;rcases h with h|h
  .rw[YR (by rw[h];decide)];omega
  .split
   .first|omega|(rw[YY h];omega)
   .omega
 have h2:=H6 (show i+1<=P.length by omega) h1 (P.length-(i+1)) (by omega);rw[show i+1+(P.length-(i+1))=P.length by omega,yAE]at h2;unfold DN;exact ZU (by omega)
theorem ro(h:DN js ms P=true):∀x∈P,aX js ms x=true:=by
 intro x a;obtain⟨i,hi⟩:=Zq a
 cases hc:aX js ms x with
 |true=>rfl
 |false=>rw[M4 hi (.inl hc)]at h;cases h
theorem Ys(js:List J)(ms:List Ms)(P:List (List Int))(es:List aG)(e:aG)(K:js.length<=9223372036854775807)(L:ms.length<=9223372036854775807)(I:P.length<=1024)(hp:∀x∈P,x.length<=9223372036854775807):gz 67 (eS js ms) (bp ⟨P.map zs,es⟩) (jy e) (B (jB js ms P e)):=by
 have p:=WD ⟨P.map zs,es⟩ e (by simp;omega);have G:=WE e.s;have A:=WF e.rest;rw[show(⟨P.map zs,es⟩:eU).np.length=P.length by simp]at p
 cases h1:pP P.length e with
 |false=>
  rw[h1]at p;rw[show jB js ms P e=false by unfold jB;rw[h1];rfl];refine Dp func67 λC hP hN=>?_;exact Gy
 |true=>
 rw[h1]at p;by_cases h2:e.u<e.v
 case neg=>
  rw[show jB js ms P e=false by unfold jB;rw[h1];simp[h2]]
  have f:e.v<=e.u:=by omega
  refine Dp func67 λC hP hN=>?_;exact Gy
 have f:¬e.v<=e.u:=by omega
 have k:=h1;simp only[pP,gp,up,Is]at k;obtain⟨u,r⟩:∃u:Nat,e.u=u:=⟨e.u.toNat,by omega⟩;obtain⟨v,y⟩:∃v:Nat,e.v=v:=⟨e.v.toNat,by omega⟩
 have b:u<P.length:=by omega
 have d:v<P.length:=by omega
 have l:bF P e.u=P[u]:=by rw[bF,r,Y9,an b];rfl
 have m:bF P e.v=P[v]:=by rw[bF,y,Y9,an d];rfl
 have M:=T9 js ms P[u] P[v] K L (hp _ (Zd b)) (hp _ (Zd d));have n:P[u]?=some P[u]:=an b;have o:P[v]?=some P[v]:=an d
 have F:jB js ms P e=(decide (e.c=eV js ms P[u] P[v])&&((decide (0<=e.s)&&(decide (e.s<=3)&&decide (e.rest.k1=Gn e.s)))&&(decide (e.s≠0)||BP e.rest))):=by
  unfold jB;rw[h1,l,m,Zs h2,Zf,Zf]
 rw[F];clear F l m h1 k;generalize eV js ms P[u] P[v]=D at *;generalize g:P[u]=O at *;generalize i:P[v]=pv at *;obtain⟨N,ev,E,a,rest⟩:=e;simp only at p G A r y h2 f|-;subst r y;generalize BP rest=Q at *;obtain⟨k1,k2,k3,k4,k5,k6,k7,k8⟩:=rest;simp only at A|-;generalize Gn a=z at *;by_cases h3:E=D
 case neg=>
  have H:(E !=D)=true:=by simp[h3]
  rw[ZU h3,Zt];refine Dp func67 λC hP hN=>?_;exact Gy
 subst h3;rw[Zs rfl,Zf];by_cases h4:a<0
 .rw[ZU (show¬0<=a by omega),Zt,Zt]
  refine Dp func67 λC hP hN=>?_;exact Gy
 rw[Zs (show 0<=a by omega),Zf];by_cases h5:3<a
 .rw[ZU (show¬a<=3 by omega),Zt,Zt]
  refine Dp func67 λC hP hN=>?_;exact Gy
 rw[Zs (show a<=3 by omega),Zf];by_cases h6:k1=z
 case neg=>
  have j:(k1 !=z)=true:=by simp[h6]
  rw[ZU h6,Zt];refine Dp func67 λC hP hN=>?_;exact Gy
 have j:(k1 !=z)=false:=by simp[h6]
 rw[Zs h6,Zf];by_cases h7:a=0
 .subst h7
  refine Dp func67 λC hP hN=>?_;exact GS (s7 f b d n o g i j)
 .have q:(a !=0)=true:=by simp[h7]
  rw[Zs h7];refine Dp func67 λC hP hN=>?_;exact GS (zAa f b d n o g i h4 h5 (gA j q))
set_option maxRecDepth 100000 in
@[simp] theorem WX:gW prog 64:=by
 have hf:=func64;have nt:=ntmps64;have rs:=results64;exact PH
theorem Yt(js:List J)(ms:List Ms)(P:List (List Int))(es:List aG)(z:js.length<=9223372036854775807)(D:ms.length<=9223372036854775807)(X:P.length<=9223372036854775807)(q:es.length<=9223372036854775807)(hp:∀x∈P,x.length<=9223372036854775807):aH 30 (eS js ms) (bp ⟨P.map zs,es⟩) (B (nE js ms P es)):=by
 have N:=Df js ms z D;by_cases h1:aR js ms=0
 case neg=>
  have W:(aR js ms !=0)=true:=by simp[h1]
  rw[show nE js ms P es=false by unfold nE;rw[ZU h1];rfl];refine Dp func30 λC hP hN=>?_;exact Gy
 rw[h1]at N;by_cases h2:1024<P.length
 .have l:(1024:Int)<P.length:=by omega
  rw[show nE js ms P es=false by unfold nE;rw[ZU (show¬P.length<=1024 by omega)];simp];refine Dp func30 λC hP hN=>?_;exact Gy
 have l:¬(1024:Int)<P.length:=by omega
 by_cases h3:8192<es.length
 .have n:(8192:Int)<es.length:=by omega
  rw[show nE js ms P es=false by unfold nE;rw[ZU (show¬es.length<=8192 by omega)];simp];refine Dp func30 λC hP hN=>?_;exact Gy
 have n:¬(8192:Int)<es.length:=by omega
 have cd:=Yr js ms P z D (by omega)
 have I:nE js ms P es=(DN js ms P&&(sM P.length es&&es.all (jB js ms P))):=by
  unfold nE;rw[Zs h1,Zs (show P.length<=1024 by omega),Zs (show es.length<=8192 by omega)];simp
 rw[I];clear I;by_cases h4:(j4 js ms P).length=P.length
 case neg=>
  have o:(((j4 js ms P).length:Int)!=P.length)=true:=by simp;omega
  rw[show DN js ms P=false from ZU h4,Zt];refine Dp func30 λC hP hN=>?_;exact Gy
 rw[show DN js ms P=true from Zs h4,Zf]
 have o:(((j4 js ms P).length:Int)!=P.length)=false:=by simp;omega
 have Q:=λ(e:aG)=>Ys js ms P es e z D (by omega) hp;have O:=Yp;have hS:=λ(i:Nat)(e:aG)(f:es[i]?=some e)=>M3 (js:=js) (ms:=ms) (P:=P) f;have G:=λ(h:H5 js ms P es es.length)=>Pn h (Nat.lt_irrefl _);obtain⟨M,a⟩:∃R,R=(sM P.length es&&es.all (jB js ms P)):=⟨_,rfl⟩;rw[<-a]at G|-;simp only[<-a]at hS;clear a;refine Dp func30 λC hP hN=>?_;refine Gz ?_;refine WP.loopN [6] es.length (λi st=>st.t 2=.ptr 2 0/\st.h 2=some (.box [.pv (.sl (js.map aQ)),.pv (.sl (ms.map bb))] true false)/\st.t 3=.ptr 3 0/\st.h 3=some (.box [.pv (.sl (P.map zs)),.pv (iN es)] true false)/\st.t 4=.ptr 4 0/\st.h 4=some (.box [.pv (B false)] true false)/\st.t 33=.pv (iN es)/\st.t 34=.pv (Z es.length)/\st.t 35=.pv (Z i)/\st.h 6=none/\H5 js ms P es i) (by simp[H5]) ?_;rintro i st hi ⟨g2,b2,g3,b3,g4,b4,S,T,U,n6,hq⟩;by_cases g:i<es.length
 case neg=>
  have r:i=es.length:=by omega
  subst r;rw[G hq];exact Gy
 have hw:=ae g q;have K:es[i]?=some es[i]:=an g;have b:=hS i es[i] K;have c1:=Q es[i]
 have H:jB js ms P es[i]=true->vU es i es[i]=true->H5 js ms P es (i+1):=λh5 h6 j e hj f=>by
  by_cases s:j=i
  .subst s
   have:e=es[j]:=by rw[K]at f;exact(ZB f).symm
   subst this;exact⟨h5,h6⟩
  .exact hq j e (by omega) f
 by_cases V:i=0
 .subst V
  generalize E:es[0]=x at *
  cases h5:jB js ms P x with
  |false=>
   rw[h5]at c1;rw[b (by rw[h5];rfl)];exact Gy
  |true=>
   rw[h5]at c1;have p:H5 js ms P es 1:=H h5 rfl;have ad:i64.wrap 1=1:=hw;exact Gy
 .obtain⟨m,k⟩:∃m,i=m+1:=⟨i-1,by omega⟩
  have A:m<es.length:=by omega
  have F:es[m]?=some es[m]:=an A;have c2:=O es[m] es[i];have c:=MZ (e:=es[i]) F;rw[<-k]at c;have d:=Pm es[m] es[i]
  have ah:i64.wrap ((i:Int)-1)=(m:Int):=by rw[IntKind.wrap_i64];omega
  have Y:0<i:=by omega
  generalize E:es[i]=x at *;generalize L:es[m]=y at *;clear k
  cases h5:jB js ms P x with
  |false=>
   rw[h5]at c1;rw[b (by rw[h5];rfl)];exact Gy
  |true=>
   rw[h5]at c1;by_cases h6:(y.u<x.u\/(y.u=x.u/\y.v<x.v))
   .rw[Zs h6]at c
    have h7:¬0<=CU y x:=by rw[d];exact λh=>h h6
    have p:=H h5 c;exact Gy
   .rw[ZU h6]at c
    have h7:0<=CU y x:=by rw[d];exact h6
    rw[b (by rw[h5,c];rfl)];exact Gy
def Kc:R8:=⟨0,[],0,0,[],0,[],[]⟩
def lX(u v d:Int):aG:=⟨u,v,d,0,Kc⟩
def tg(u v:Int)(e:aG):Bool:=decide (u<e.u)||(decide (e.u=u)&&decide (v<=e.v))
def yz(u v:Int)(e:aG):Bool:=decide (e.u=u)&&decide (e.v=v)
def tS(u v d:Int)(a:List aG×Bool)(e:aG):List aG×Bool:=
 if a.2=false/\tg u v e=true then((if yz u v e=true then a.1 else a.1++[lX u v d])++[e],true)else(a.1++[e],a.2)
def xk(u v d:Int)(es:List aG):List aG×Bool:=es.foldl (tS u v d) ([],false)
def E9(u v d:Int)(es:List aG):List aG:=if(xk u v d es).2=true then(xk u v d es).1 else(xk u v d es).1++[lX u v d]
abbrev Kd(u v d:Int):PV:=.agg [Z u,Z v,Z d,Z 0,Z 0,.sl [],Z 0,Z 0,.sl [],Z 0,.sl [],.sl []]
def sd(u v d:Int)(a:List PV×Bool)(e:aG):List PV×Bool:=
 if a.2=false/\tg u v e=true then((if yz u v e=true then a.1 else a.1++[Kd u v d])++[jy e],true)else(a.1++[jy e],a.2)
def lY(u v d:Int)(es:List aG)(i:Nat):List PV×Bool:=(es.take i).foldl (sd u v d) ([],false)
theorem Ke(h:es[i]?=some e):lY a b d es (i+1)=sd a b d (lY a b d es i) e:=by
 obtain⟨hi,c⟩:=th.1 h;unfold lY;rw[ZC hi,yAR,c];rfl
theorem LK(a b d:Int)(es:List aG):∀i,(lY a b d es i).1.length<=2*es.length:=by
 intro i
 have h:∀(l:List aG)(c:List PV×Bool),(l.foldl (sd a b d) c).1.length<=c.1.length+2*l.length:=by
  intro l
  induction l with
  |nil=>intro c;simp
  |cons e l ih=>
   intro c;refine yAs (ih _) ?_;unfold sd;split
   .split<;>simp<;>omega
   .simp;omega
 refine yAs (h (es.take i) ([],false)) ?_;simp only[ZA,yAI];omega
theorem P8(u v d:Int)(es:List aG)(i:Nat):lY u v d es i=((xk u v d (es.take i)).1.map jy,(xk u v d (es.take i)).2):=by
 have h:∀(l:List aG)(c:List aG×Bool),l.foldl (sd u v d) (c.1.map jy,c.2)=((l.foldl (tS u v d) c).1.map jy,(l.foldl (tS u v d) c).2):=by
  intro l
  induction l with
  |nil=>intro c;rfl
  |cons e l ih=>
   intro c;rw[yAh,yAh,<-ih]
   congr 1
   unfold sd tS;simp only;split
   .split<;>simp[lX,Kc]
   .simp
 exact h (es.take i) ([],false)
theorem Nv(h:n<=2*m)(a:m<=100000):((n+1)*160<=140737488355328/\n+1<=9223372036854775807)/\((n+1+1)*160<=140737488355328/\n+1+1<=9223372036854775807):=by omega
theorem Xf(js:List J)(ms:List Ms)(P:List (List Int))(es:List aG)(u v:Nat)(hu:u<P.length)(hv:v<P.length)(hl:js.length<=9223372036854775807)(hm:ms.length<=9223372036854775807)(hP:P.length<=1024)(N:es.length<=100000)(hp:∀x∈P,x.length<=9223372036854775807):mD 56 (eS js ms) (bp ⟨P.map zs,es⟩) (Z u) (Z v) (iN (E9 (min u v:Nat) (max u v:Nat) (eV js ms (bF P (min u v:Nat)) (bF P (max u v:Nat))) es)):=by
 obtain⟨a,ha⟩:∃a,a=min u v:=⟨_,rfl⟩;obtain⟨b,hb⟩:∃b,b=max u v:=⟨_,rfl⟩;rw[<-ha,<-hb]
 have U:(if v<u then(v:Int)else u)=a:=by split<;>omega
 have V:(if u<v then(v:Int)else u)=b:=by split<;>omega
 have l:a<P.length:=by omega
 have m:b<P.length:=by omega
 have q:P[a]?=some P[a]:=an l;have r:P[b]?=some P[b]:=an m;have cd:=SZ js ms P[a] P[b] hl hm (hp _ (Zd l)) (hp _ (Zd m))
 have O:bF P (a:Int)=P[a]:=by rw[bF,Y9,q];rfl
 have Q:bF P (b:Int)=P[b]:=by rw[bF,Y9,r];rfl
 rw[O,Q];clear O Q ha hb;generalize eV js ms P[a] P[b]=d at *;generalize j:P[a]=pa at *;generalize k:P[b]=pb at *;refine Dp func56 λC hP hN=>?_;refine kp [9] (gA U V) ?_;refine WP.loopN [12] es.length (λi st=>st.t 2=.pv (Z a)/\st.t 3=.pv (Z b)/\st.t 4=.ptr 4 0/\st.h 4=some (.box [.pv (.sl (js.map aQ)),.pv (.sl (ms.map bb))] true false)/\st.t 5=.ptr 5 0/\st.h 5=some (.box [.pv (.sl (P.map zs)),.pv (iN es)] true false)/\st.t 9=.arr 9 (lY a b d es i).1.length/\st.h 9=some (.row 126 12 (lY a b d es i).1 0)/\st.t 10=.pv (B (lY a b d es i).2)/\st.t 11=.pv (Z i)/\st.h 12=none) (by simp[lY]) ?_;rintro i st hi ⟨g2,g3,g4,b4,g5,b5,E,A,f,o,y⟩;have z:=LK a b d es i;by_cases g:i<es.length
 .have M:=ae g (by omega)
  have H:es[i]?=some es[i]:=an g;have p:=Ke (a:=a) (b:=b) (d:=d) H;generalize s:es[i]=e at *;obtain⟨D,ev,L,n,rest⟩:=e;generalize lY a b d es i=Y at *;obtain⟨X,R⟩:=Y;simp only at E A f z;obtain⟨⟨F,G⟩,q3,q4⟩:=Nv z N
  cases R with
  |true=>
   have c:lY a b d es (i+1)=(X++[jy ⟨D,ev,L,n,rest⟩],true):=by rw[p];rfl
   exact GS (zAc g2 g3 g4 b4 g5 b5 E A f o y g M H (go s c F G))
  |false=>
   by_cases k1:(a:Int)<D
   .have k2:¬D=a:=by omega
    have I:(D==(a:Int))=false:=by simp[k2]
    have ad:(D !=(a:Int))=true:=by simp[k2]
    have c:lY a b d es (i+1)=(X++[Kd a b d]++[jy ⟨D,ev,L,n,rest⟩],true):=by rw[p];simp[sd,tg,yz,k1,k2]
    exact GS (zAc g2 g3 g4 b4 g5 b5 E A f o y g M H (zAc s l m q r j k c F G q3 q4 k1 k2 (gA I ad)))
   by_cases k2:D=a
   case neg=>
    have I:(D==(a:Int))=false:=by simp[k2]
    have c:lY a b d es (i+1)=(X++[jy ⟨D,ev,L,n,rest⟩],false):=by rw[p];simp[sd,tg,k1,k2]
    exact GS (zAc g2 g3 g4 b4 g5 b5 E A f o y g M H (zAb s l m q r j k c F G k1 (gA k2 I)))
   subst k2;by_cases k3:(b:Int)<=ev
   case neg=>
    have c:lY a b d es (i+1)=(X++[jy ⟨a,ev,L,n,rest⟩],false):=by rw[p];simp[sd,tg,k3]
    exact GS (zAc g2 g3 g4 b4 g5 b5 E A f o y g M H (zAb s l m q r j k c F G k1 k3))
   by_cases k4:ev=b
   .have K:(ev !=(b:Int))=false:=by simp[k4]
    have c:lY a b d es (i+1)=(X++[jy ⟨a,ev,L,n,rest⟩],true):=by rw[p];simp[sd,tg,yz,k3,k4]
    exact GS (zAc g2 g3 g4 b4 g5 b5 E A f o y g M H (zAb s l m q r j k c F G k1 (gA k3 K)))
   .have K:(ev !=(b:Int))=true:=by simp[k4]
    have c:lY a b d es (i+1)=(X++[Kd a b d]++[jy ⟨a,ev,L,n,rest⟩],true):=by rw[p];simp[sd,tg,yz,k3,k4]
    exact GS (zAc g2 g3 g4 b4 g5 b5 E A f o y g M H (zAc s l m q r j k c F G q3 q4 k1 k3 K))
 .have W:i=es.length:=by omega
  subst W;have S:=P8 a b d es es.length;rw[yAE]at S;rw[S]at E A f z;obtain⟨⟨F,G⟩,-,-⟩:=Nv z N;unfold E9;clear S;generalize xk a b d es=T at *;obtain⟨X,R⟩:=T;simp only at E A f z F G;simp only[Zm]at F G
  cases R with
  |true=>
   rw[YY rfl];exact Gy
  |false=>
   rw[YR (by simp)];rw[show iN ((X,false).1++[lX a b d])=.sl (X.map jy++[Kd a b d]) by simp[lX,Kc]];exact Gy
def Bg(f:Int->Int)(d:Int):Nat->List Int->List Int
 |0,l=>l
 |n+1,l=>if d<f ((l[n]?).getD 0)then Bg f d n ((l.set (n+1) ((l[n]?).getD 0)).set n ((l[n+1]?).getD 0))else l
def Ch(f:Int->Int)(nt:Int)(acc:List Int)(i:Nat):List Int:=if(i:Int)=nt then acc else Bg f (f i) acc.length (acc++[(i:Int)])
def oq(f:Int->Int)(nt:Int)(n:Nat):List Int:=(List.range n).foldl (Ch f nt) []
theorem Hh(f:Int->Int)(d:Int):∀(n:Nat)(l:List Int),(Bg f d n l).length=l.length
 |0,l=>rfl
 |n+1,l=>by
  unfold Bg;split
  .rw[Hh f d n];simp
  .rfl
theorem zZ(f:Int->Int)(nt:Int)(n:Nat):oq f nt (n+1)=Ch f nt (oq f nt n) n:=by
 unfold oq;rw[yAd,yAR];rfl
theorem Ci(f:Int->Int)(nt:Int):∀n,(oq f nt n).length<=n
 |0=>by simp[oq]
 |n+1=>by
  have ih:=Ci f nt n;rw[zZ];unfold Ch;split
  .omega
  .rw[Hh];simp;omega
theorem Hi(f:Int->Int)(d:Int){p:Int->Prop}:∀(n:Nat)(l:List Int),n<l.length->(∀x∈l,p x)->∀x∈Bg f d n l,p x
 |0,l,_,h=>h
 |n+1,l,hn,h=>by
  unfold Bg;split
  .refine Hi f d n _ (by simp;omega) ?_
   intro x a;rcases ZE a with a|rfl
   .rcases ZE a with a|rfl
    .exact h x a
    .rw[an (by omega)];exact h _ (Zd _)
   .rw[an hn];exact h _ (Zd _)
  .exact h
theorem Cj(f:Int->Int)(nt:Int):∀n,∀x∈oq f nt n,0<=x/\x<n
 |0=>by simp[oq]
 |n+1=>by
  intro x b;have ih:=Cj f nt n;rw[zZ,Ch]at b;split at b
  .have:=ih x b;omega
  .refine Hi f (f n) (p:=λx=>0<=x/\x<((n+1:Nat):Int)) _ _ (by simp) ?_ x b
   intro y a;rcases Y7.1 a with a|a
   .have:=ih y a;omega
   .simp at a;omega
def IG(l:List Int)(m:Nat):List Int:=(l.set m ((l[m-1]?).getD 0)).set (m-1) ((l[m]?).getD 0)
def IJ(l:List Int)(m:Nat):Nat->List Int
 |0=>l
 |n+1=>IG (IJ l m n) (m-n)
theorem Fa(l:List Int)(m:Nat):∀n,(IJ l m n).length=l.length
 |0=>rfl
 |n+1=>by unfold IJ IG;simp[Fa l m n]
theorem Xg(js:List J)(ms:List Ms)(P:List (List Int))(q:List Int)(nt:Int)(hl:js.length<=9223372036854775807)(hm:ms.length<=9223372036854775807)(hP:P.length<=1024)(hq:q.length<=9223372036854775807)(hp:∀x∈P,x.length<=9223372036854775807):mD 55 (eS js ms) (.sl (P.map zs)) (zs q) (Z nt) (zs (oq (λi=>eV js ms (bF P i) q) nt P.length)):=by
 have Y:=λ(x:List Int)(p:x∈P)=>SZ js ms x q hl hm (hp x p) hq;obtain⟨f,hf⟩:∃f:Int->Int,f=λi=>eV js ms (bF P i) q:=⟨_,rfl⟩;rw[<-hf];have s0:oq f nt 0=[]:=rfl;have s1:=zZ f nt;have s2:=Ci f nt
 have s3:∀n,n<=P.length->∀x∈oq f nt n,0<=x/\x<P.length:=λn hn x p=>by have:=Cj f nt n x p;omega
 refine Dp func55 λC hP hN=>?_;refine kp [9] trivial ?_;refine WP.loopN [] P.length (λi st=>st.t 1=.pv (.sl (P.map zs))/\st.t 2=.pv (zs q)/\st.t 3=.pv (Z nt)/\st.t 4=.ptr 4 0/\st.h 4=some (.box [.pv (.sl (js.map aQ)),.pv (.sl (ms.map bb))] true false)/\st.t 9=.arr 9 (oq f nt i).length/\st.h 9=some (.row 3 1 (fI (oq f nt i)) 0)/\st.t 10=.pv (Z i)) (by simp[s0]) ?_;rintro i st hi ⟨g1,g2,g3,g4,b4,s,r,c⟩;by_cases j:i<P.length
 case neg=>
  have a6:i=P.length:=by omega
  subst a6;exact Gy
 have V:=ae j (by omega);have t1:=s1 i;have t2:=s2 i;by_cases hn:(i:Int)=nt
 .have t3:oq f nt (i+1)=oq f nt i:=by rw[t1,Ch,YY hn]
  have v:((i:Int)==nt)=true:=by simp[hn]
  exact GS (zAb g1 g2 g3 g4 b4 s r c j V v t3)
 generalize hL:oq f nt i=L at *
 have t3:oq f nt (i+1)=Bg f (f i) L.length (L++[(i:Int)]):=by rw[t1,Ch,YR hn]
 have ah:∀x∈L++[(i:Int)],0<=x/\x<P.length:=by
  intro x p;rcases Y7.1 p with p|p
  .exact s3 i (by omega) x (hL▸p)
  .simp at p;omega
 have v:((i:Int)==nt)=false:=by simp[hn]
 have R:P[i]?=some P[i]:=an j;have c1:=Y P[i] (Zd j)
 have ar:f i=eV js ms P[i] q:=by rw[hf];simp[bF,R]
 rw[<-ar]at c1;generalize bq:oq f nt (i+1)=B at *
 have H:(L++[(i:Int)]).length=L.length+1:=by simp
 generalize ad:L++[(i:Int)]=X at *
 have G:fI L++[Z (i:Int)]=fI X:=by rw[<-ad];simp
 generalize a8:P[i]=x at *;generalize hd:f i=d at *;refine GT (zAc g1 g2 g3 g4 b4 s r c j R a8 v G (show(L.length+1)*8<=140737488355328 by omega) (gA (show L.length+1<=9223372036854775807 by omega) (show L.length<=9223372036854775806 by omega))) ?_;obtain⟨S,hS⟩:∃S,S=IJ X L.length:=⟨_,rfl⟩
 have u0:S 0=X:=by rw[hS];rfl
 have u1:∀n,S (n+1)=IG (S n) (L.length-n):=λn=>by rw[hS];rfl
 have u2:∀n,(S n).length=L.length+1:=λn=>by rw[hS,Fa,H]
 have cq:∀(a:Int),0<=a->a<P.length->∃y,P[a.toNat]?=some y/\gz 96 (eS js ms) (zs y) (zs q) (Z (f a)):=by
  intro a h1 h2;have ha:P[a.toNat]?=some (P[a.toNat]'(by omega)):=an (by omega);refine⟨_,ha,?_⟩
  have e:f a=eV js ms (P[a.toNat]'(by omega)) q:=by rw[hf];simp[bF,ha]
  rw[e];exact Y _ (Zd _)
 clear hS hf Y;refine WP.loopN [] L.length (λn st=>st.t 1=.pv (.sl (P.map zs))/\st.t 2=.pv (zs q)/\st.t 3=.pv (Z nt)/\st.t 4=.ptr 4 0/\st.h 4=some (.box [.pv (.sl (js.map aQ)),.pv (.sl (ms.map bb))] true false)/\st.t 9=.arr 9 (L.length+1)/\st.h 9=some (.row 3 1 (fI (S n)) 0)/\st.t 10=.pv (Z i)/\st.t 11=.pv (Z ((L.length-n:Nat):Int))/\st.t 12=.pv (Z d)/\Bg f d (L.length-n) (S n)=B/\∀x∈S n,0<=x/\x<P.length) (by simp[u0,H,g1,g2,g3,g4,b4,s,r,c];exact⟨t3.symm,ah⟩) ?_;clear g1 g2 g3 g4 b4 s r c st;rintro n st b2 ⟨g1,g2,g3,g4,b4,s,r,c,g,u,o,hM⟩;have v1:=u1 n;have v2:=u2 n;have v3:=u2 (n+1);generalize S (n+1)=S2 at *;generalize S n=l at *;obtain⟨m,hm⟩:∃m,m=L.length-n:=⟨_,rfl⟩;rw[<-hm]at g o v1;by_cases h0:n<L.length
 case neg=>
  have:m=0:=by omega
  subst this;have ak:l=B:=o;subst ak;exact GS (zAb g1 g2 g3 g4 b4 s r c g u V v2)
 obtain⟨m,rfl⟩:∃k,m=k+1:=⟨m-1,by omega⟩;have D:l[m]?=some (l[m]'(by omega)):=an (by omega);have A:l[m+1]?=some (l[m+1]'(by omega)):=an (by omega);have ha:=hM _ (An D);unfold Bg at o;unfold IG at v1;simp only[Nat.add_sub_cancel,D,A,Y8]at o v1;generalize l[m]'(by omega)=a at *;generalize l[m+1]'(by omega)=b at *
 have a7:m=L.length-(n+1):=by omega
 obtain⟨M,aj⟩:∃M,M=m+1:=⟨_,rfl⟩;rw[<-aj]at g o v1 A;obtain⟨a,rfl⟩:∃k:Nat,a=k:=⟨a.toNat,by omega⟩;obtain⟨y,W,c2⟩:=cq a (by omega) (by omega);rw[Y9]at W
 have K:a<P.length:=by omega
 have T:P[a]=y:=(th.1 W).2;generalize f (a:Int)=fa at *
 have Q:i64.wrap ((M:Int)-1)=(m:Int):=by rw[IntKind.wrap_i64];omega
 have N:0<M:=by omega
 have O:m<L.length+1:=by omega
 have I:M<L.length+1:=by omega
 have E:(l[m]'(by omega))=(a:Int):=(th.1 D).2;have F:(l[M]'(by omega))=b:=(th.1 A).2;by_cases h1:d<fa
 .rw[YY h1,<-v1]at o
  refine GT (zAc g1 g2 g3 g4 b4 s r c g u V v2 K W (zAa T Q N O I h1 D A E F)) ?_;refine⟨h0,?_,by omega,?_,?_⟩
  .rw[v1];simp only[yAl]
  .rw[<-a7];exact o
  .rw[v1]
   intro z U;rcases ZE U with U|rfl
   .rcases ZE U with U|rfl
    .exact hM z U
    .exact ha
   .exact hM _ (An A)
 .rw[YR h1]at o
  subst o;exact GS (zAc g1 g2 g3 g4 b4 s r c g u V v2 K W (zAa T Q N O I h1 D A E F))
theorem WP.freeze{C:Cx}{c:Code}(s:Nat){e sz fz:Nat}{xs:List PV}(j:st.h k=some (.row e sz xs fz))(r:st.t s=.arr k xs.length)(h:WP C c Q ⟨av st.t s (.pv (.sl xs)),av st.h k (some (.row e sz xs xs.length))⟩):WP C c Q st:=by
 intro a w q;obtain⟨L,o,hN,i,f⟩:=q;obtain⟨g,m⟩:=uW o j;refine h a w ⟨L,g.1,hN,i,λn=>?_⟩;have d:=(f n).mono g.2.1 g.2.2;show RepA w _ L _ (av st.t s (.pv (.sl xs)) n) _;by_cases hn:n=s
 .subst hn
  rw[aE];have l:=f n;rw[r]at l
  cases l with
  |arr b p u=>
   rw[j]at b;injection b with b;injection b with _ _ a3 _;subst a3;rw[u rfl];exact .pv m
 .rw[bc hn];exact d
theorem Gt{P:Program}{o:Oper}{t t':TypeId}{x y:Operand}{a b c:Bool}(d:o.op=.binOp .neq t x y t')(e:ρ x=.pv (.val (.bool a)))(f:ρ y=.pv (.val (.bool b)))
 (g:P.eqGuardType P.depth t=false)(h:al P (Op.equal t (.bool a) (.bool b))=some c):aV P o ρ=some (.pv (.val (.bool !c)),[]):=by
 refine dW (by rw[d];simp[Op.operands,e,f,eN]) ?_;unfold execOp;rw[d];simp only[(bC e).2,(bC f).2]
 have h1:al P (eqGuard .neq t x y (.bool a) (.bool b))=some ():=by
  unfold eqGuard;simp only[yAo,YU,Y5,af,ja,Y3,g,yBa,Za];rfl
 have h2:al P (binOp .neq t (.bool a) (.bool b))=some (.bool !c):=by
  simp only[binOp,af,h,Y3];rfl
 simp only[af,h1,h2,Y3];rfl
theorem WP.nilsl{C:Cx}{c:Code}(s:Nat)(j:st.t s=.pv (.val (.slice none 0 0)))(h:WP C c Q ⟨av st.t s (.pv (.sl [])),st.h⟩):WP C c Q st:=by
 intro a w i;obtain⟨L,f,hN,d,b⟩:=i;refine h a w ⟨L,f,hN,d,λn=>?_⟩;show RepA w _ L _ (av st.t s (.pv (.sl [])) n) _;by_cases hn:n=s
 .subst hn
  rw[aE];have e:=b n;rw[j]at e
  cases e with
  |pv g=>rw[aJ g];exact .pv (.sl0 none 0)
 .rw[bc hn];exact b n
theorem WP.freezeB{C:Cx}{c:Code}(l j:Nat){e sz fz:Nat}{xs:List PV}{cs:List AV}{own fb:Bool}(hb:st.h l=some (.box cs own fb))(E:cs[j]?=some (.arr k xs.length))(r:st.h k=some (.row e sz xs fz))
 (h:WP C c Q ⟨st.t,av (av st.h k (some (.row e sz xs xs.length))) l (some (.box (cs.set j (.pv (.sl xs))) own fb))⟩):WP C c Q st:=by
 intro a w H;obtain⟨L,x,hN,v,z⟩:=H;obtain⟨f,D⟩:=uW x r
 have y:l≠k:=by intro e;subst e;rw[hb]at r;cases r
 have m:(av st.h k (some (.row e sz xs xs.length))) l=some (.box cs own fb):=by rw[bc y];exact hb
 have I:∀u,RepA w (ab C L st.h) L st.h (.arr k xs.length) u->u=(L k).slice xs.length:=λu g=>by
  cases g with
  |arr b G g=>
   rw[r]at b;injection b with b;injection b with _ _ a3 _;subst a3;exact g rfl
 have s:=x.bl l _ hb;obtain⟨arr,J,hc,F,B⟩:=s;have q:=x.own l _ hb;have d:=MemL.touch_pk (w':=w) f.1 (blk':=.box (cs.set j (.pv (.sl xs))) own fb) m (λ_ _ _=>rfl) (λ_ _ _ _ h=>h) (λo h=>h) rfl Z8;have h3:=MemL.touch (w':=w) f.1 (blk':=.box (cs.set j (.pv (.sl xs))) own fb) m (λ_ _ _=>rfl) (Y0 _) rfl rfl rfl (λ_ _ _ _ h=>h) (λo h=>h) rfl Z8 (by cases own<;>exact q) ⟨arr,J,hc,by simpa using F,λi p u hp g=>?_⟩
 .refine h a w ⟨L,h3.1,hN,v,λn=>?_⟩
  exact((z n).mono f.2.1 f.2.2).mono h3.2.1 h3.2.2
 .rw[Y1]at hp
  by_cases A:j=i
  .subst A
   rw[YY rfl]at hp;split at hp
   .injection hp with hp;subst hp
    have:=I u (B j _ u E g);subst this;exact(RepA.pv D).mono d.1 d.2
   .cases hp
  .rw[YR A]at hp
   exact((B i p u hp g).mono f.2.1 f.2.2).mono d.1 d.2
theorem LN(u v d:Int)(es:List aG):(E9 u v d es).length<=es.length+1:=by
 have h:∀(l:List aG)(a:List aG×Bool),(l.foldl (tS u v d) a).1.length+(if(l.foldl (tS u v d) a).2=true then 0 else 1)<=a.1.length+(if a.2=true then 0 else 1)+l.length:=by
  intro l
  induction l with
  |nil=>intro a;exact Y0 _
  |cons e l ih=>
   intro a;refine yAs (ih _) ?_
   have:(tS u v d a e).1.length+(if(tS u v d a e).2=true then 0 else 1)<=a.1.length+(if a.2=true then 0 else 1)+1:=by
    obtain⟨m,b⟩:=a
    cases b with
    |true=>simp[tS]
    |false=>
     unfold tS;by_cases h1:tg u v e=true
     .by_cases h2:yz u v e=true<;>simp[h1,h2]
     .simp[h1]
   simp only[yAq];omega
 have:=h es ([],false);unfold E9;change (xk u v d es).1.length+_<=_ at this;change _+(if(xk u v d es).2=true then 0 else 1)<=_ at this;split
 .rename_i h;rw[h]at this;simp at this;omega
 .rename_i h;simp only[h]at this;simp at this|-;omega
def Nw(js:List J)(ms:List Ms)(P:List (List Int))(u:Nat)(E:List aG)(v:Int):List aG:=E9 (min u v.toNat:Nat) (max u v.toNat:Nat) (eV js ms (bF P (min u v.toNat:Nat)) (bF P (max u v.toNat:Nat))) E
def ut(js:List J)(ms:List Ms)(P:List (List Int))(u:Nat):List Int:=oq (λi=>eV js ms (bF P i) (bF P u)) u P.length
def tj(js:List J)(ms:List Ms)(P:List (List Int))(u:Nat)(E:List aG)(j:Nat):List aG:=((ut js ms P u).take j).foldl (Nw js ms P u) E
def xm(js:List J)(ms:List Ms)(P:List (List Int))(k:Nat):Nat->List aG
 |0=>[]
 |u+1=>tj js ms P u (xm js ms P k u) k
theorem Fb{u:Nat}{E:List aG}{v:Int}(h:(ut js ms P u)[j]?=some v):tj js ms P u E (j+1)=Nw js ms P u (tj js ms P u E j) v:=by
 obtain⟨hi,a⟩:=th.1 h;unfold tj;rw[ZC hi,yAR,a];rfl
theorem Ck(js:List J)(ms:List Ms)(P:List (List Int))(u:Nat)(E:List aG):∀j,(tj js ms P u E j).length<=E.length+j
 |0=>by simp[tj]
 |j+1=>by
  have ih:=Ck js ms P u E j;by_cases h:j<(ut js ms P u).length
  .rw[Fb (an h)]
   have:=LN (min u ((ut js ms P u)[j]).toNat:Nat) (max u ((ut js ms P u)[j]).toNat:Nat) (eV js ms (bF P (min u ((ut js ms P u)[j]).toNat:Nat)) (bF P (max u ((ut js ms P u)[j]).toNat:Nat))) (tj js ms P u E j);unfold Nw;omega
  .unfold tj at ih|-
   rw[Zh (by omega)]at ih|-;omega
theorem LO{u:Nat}{E:List aG}(h:¬j<(ut js ms P u).length)(a:j<=k):tj js ms P u E j=tj js ms P u E k:=by
 unfold tj;rw[Zh (by omega),Zh (by omega)]
theorem Hj(js:List J)(ms:List Ms)(P:List (List Int))(k:Nat):∀u,(xm js ms P k u).length<=u*k
 |0=>by simp[xm]
 |u+1=>by
  have ih:=Hj js ms P k u;have:=Ck js ms P u (xm js ms P k u) k;unfold xm;rw[Nat.succ_mul];omega
theorem Xh(js:List J)(ms:List Ms)(P:List (List Int))(k:Nat)(M:js.length<=9223372036854775807)(N:ms.length<=9223372036854775807)(h0:aR js ms=0)(b2:0<P.length)(a7:P.length*k<=8192)(F:P.length<=1024)(X:k<=1024)(hp:∀x∈P,x.length<=100)(hin:∀x∈P,aX js ms x=true)(Y:∀(i:Nat) x,P[i]?=some x->K1 (P.take i) x<0):gz 25 (eS js ms) (.sl (P.map zs)) (Z k) (bp ⟨P.map zs,xm js ms P k P.length⟩):=by
 have cc:=rZ js ms M N;rw[h0]at cc
 have c:∀x∈P,x.length<=9223372036854775807:=λx f=>by have:=hp x f;omega
 have ci:=λ(x:List Int)=>PK js ms x M N;have cp:=λ(i:Nat)(x:List Int)(f:x.length<=9223372036854775807)=>Yn (P.take i) x (by rw[ZA];omega) (λy hy=>c y (yAA hy)) f;refine Dp func25 λC hP hN=>?_;refine Gz ?_;refine WP.nilRowsE (λk=>decide (k=52)||decide (k=53)) (λk=>if k=52 then(61,1)else(126,12)) 7 (cs:=[gh,gh]) (cs':=[.arr 52 0,.arr 53 0]) (own:=true) (fb:=false) (by simp) ?_ rfl ?_ ?_
 .intro k X
  rw[ZI,Is,Is]at X;rcases X with rfl|rfl<;>simp
 .intro i x f
  rcases i with _|_|i<;>simp at f<;>subst f<;>simp
 refine WP.freezeB 7 1 (k:=53) (xs:=[]) (cs:=[.arr 52 0,.arr 53 0]) (e:=126) (sz:=12) (fz:=0) (own:=true) (fb:=false) (by simp) (by simp) (by simp) ?_
 refine WP.loopN [50,53] P.length (λi st=>st.t 1=.pv (.sl (P.map zs))/\st.t 2=.pv (Z k)/\st.t 3=.ptr 3 0/\st.h 3=some (.box [.pv (.sl (js.map aQ)),.pv (.sl (ms.map bb))] true false)/\st.t 6=.ptr 6 0/\st.h 6=some (.box [gh,gh] true false)/\st.t 7=.ptr 7 0/\st.t 8=.pv (Z i)/\st.h 50=none/\
  st.h 7=some (.box [.arr 52 i,.pv (.sl [])] true false)/\st.h 52=some (.row 61 1 ((P.map zs).take i) 0)) (by simp) ?_
 rintro i st hi ⟨g1,g2,g3,b3,q,b6,r,g8,L,m,o⟩;by_cases a:i<P.length
 .have hw:=ae a (by omega)
  have f:P[i]?=some P[i]:=an a;have g:=Zd a;have b9:=hp _ g;have c1:=ci P[i];rw[hin _ g]at c1;have c2:=cp i P[i] (c _ g);have hz:=Y i _ f;generalize K1 (P.take i) P[i]=z at *;rw[List.map_take]at c2
  have I:(i:Int)<1024:=by omega
  have A:(P.map zs).take (i+1)=(P.map zs).take i++[zs P[i]]:=by rw[ZC (by simpa using a)];simp
  have ad:((P.map zs).take i).length=i:=by simp;omega
  generalize K:P[i]=x at *;generalize(P.map zs).take (i+1)=T' at *;generalize(P.map zs).take i=T at *;refine GT (zAc g1 g2 g3 b3 q b6 r g8 L m o a f K (s7 hw hz I ad (show x.length*8<=140737488355328 by omega) (show x.length<=9223372036854775807 by omega) (show(i+1)*24<=140737488355328 by omega) (show i+1<=9223372036854775807 by omega))) ?_
  all_goals exact A.symm
 .have s:i=P.length:=by omega
  subst s;have A:(P.map zs).take P.length=P.map zs:=Zh (by simp);rw[A]at o;refine Gz ?_;refine WP.freezeB 7 0 (k:=52) (xs:=P.map zs) (cs:=[.arr 52 P.length,.pv (.sl [])]) (e:=61) (sz:=1) (fz:=0) (own:=true) (fb:=false) (by simp[m]) (by simp) (by simp[o]) ?_;obtain⟨G,B⟩:∃G,G=xm js ms P k:=⟨_,rfl⟩
  have O:G 0=[]:=by rw[B];rfl
  refine WP.loopN [52] P.length (λu st=>st.t 2=.pv (Z k)/\st.t 3=.ptr 3 0/\st.h 3=some (.box [.pv (.sl (js.map aQ)),.pv (.sl (ms.map bb))] true false)/\st.t 6=.ptr 6 0/\st.h 6=some (.box [gh,gh] true false)/\st.t 7=.ptr 7 0/\st.t 9=.pv (Z u)/\st.h 7=some (.box [.pv (.sl (P.map zs)),.pv (iN (G u))] true false)) (by simp[g2,g3,b3,q,b6,r,m,O]) ?_;clear g1 g2 g3 b3 q b6 r g8 L m o a hi st;rintro u st hu ⟨g2,g3,b3,q,b6,r,S,m⟩;have p:=Hj js ms P k
  have Q:∀u,G (u+1)=tj js ms P u (G u) k:=λu=>by rw[B];rfl
  rw[<-B]at p;by_cases a:u<P.length
  case neg=>
   have s:u=P.length:=by omega
   subst s;have:=p P.length;rw[<-B];clear B O Q;generalize G P.length=E at *
   have hE:¬(8192:Int)<E.length:=by omega
   exact Gy
  have hw:=ae a (by omega);have f:P[u]?=some P[u]:=an a;have g:=Zd a;have cb:=Xg js ms P P[u] u M N F (c _ g) c
  have hL:oq (λi=>eV js ms (bF P i) P[u]) u P.length=ut js ms P u:=by
   unfold ut
   have:bF P (u:Int)=P[u]:=by rw[bF,Y9,f];rfl
   rw[this]
  rw[hL]at cb;have U:∀v∈ut js ms P u,0<=v/\v<P.length:=Cj _ _ P.length;have a6:(ut js ms P u).length<=P.length:=Ci _ _ P.length;have hR:=Ck js ms P u (G u);have d:=λj v=>Fb (js:=js) (ms:=ms) (P:=P) (u:=u) (E:=G u) (j:=j) (v:=v);have b:=λj=>LO (js:=js) (ms:=ms) (P:=P) (u:=u) (E:=G u) (j:=j) (k:=k);have hn:=Q u;have ar:=p u
  have ak:u*k+k<=8192:=by
   have:(u+1)*k<=P.length*k:=Ze k a;rw[Nat.succ_mul]at this;omega
  have r0:tj js ms P u (G u) 0=G u:=rfl;have D:=λ(v:Nat)(E:List aG)(hv:v<P.length)(hE:E.length<=100000)=>Xf js ms P E u v a hv M N F hE c;obtain⟨R,H⟩:∃R,R=tj js ms P u (G u):=⟨_,rfl⟩;rw[<-H]at hR d b hn r0;clear H B O Q p;generalize G (u+1)=GN at *;generalize G u=GU at *;generalize ut js ms P u=l at *;clear hL;generalize K:P[u]=x at *;refine Gz ?_;refine WP.loopN [] k (λj st=>st.t 2=.pv (Z k)/\st.t 3=.ptr 3 0/\st.h 3=some (.box [.pv (.sl (js.map aQ)),.pv (.sl (ms.map bb))] true false)/\st.t 6=.ptr 6 0/\st.h 6=some (.box [gh,gh] true false)/\st.t 7=.ptr 7 0/\st.t 9=.pv (Z u)/\st.h 7=some (.box [.pv (.sl (P.map zs)),.pv (iN (R j))] true false)/\st.t 10=.pv (zs l)/\st.t 11=.pv (Z j)/\j<=l.length) (by simp[g2,g3,b3,q,b6,r,S,m,r0]) ?_;clear g2 g3 b3 q b6 r S m st;rintro j st hj ⟨g2,g3,b3,q,b6,r,S,m,ah,aj,bq⟩;by_cases h1:j<l.length
  case neg=>
   have V:=b j h1 hj;rw[V,<-hn]at m;exact Gy
  by_cases h2:j<k
  case neg=>
   have W:j=k:=by omega
   subst W;rw[<-hn]at m;exact Gy
  have b8:=ae h1 (by omega);have hv:l[j]?=some l[j]:=an h1;have b5:=U _ (Zd h1);have hs:=d j _ hv;have a8:=hR j;generalize b4:l[j]=v at *;obtain⟨v,rfl⟩:∃n:Nat,v=n:=⟨v.toNat,by omega⟩;unfold Nw at hs;rw[Y9]at hs;have c1:=D v (R j) (by omega) (by omega);rw[<-hs]at c1;generalize R (j+1)=Rn at *;generalize R j=Rj at *;refine Gz ?_
  all_goals omega
theorem Ub(es:List aG)(e:Nat)(x:aG)(y:PV)(h:jy x=y):(es.map jy).set e y=(es.set e x).map jy:=by
 rw[<-h,yAl]
theorem Xi(np:List PV)(es:List aG)(e u v:Nat)(d:Int)(a:es[e]?=some (lX u v d))(c:es.length<=100000):gz 58 (bp ⟨np,es⟩) (Z e) (Ri Ga) (.tup [bp ⟨np,es.set e (vR u v d)⟩,B true]):=by
 obtain⟨hi,b⟩:=th.1 a;have f:=Ub es e (vR u v d) _ rfl;refine Dp func58 λC hP hN=>?_;refine GT (s7 hi b a @lX.eq_1 @Kc.eq_1 (show Ga.k1=1 from rfl) (show es.length*160<=140737488355328 by omega) (show es.length<=9223372036854775807 by omega)) ?_
 all_goals rfl
theorem GV{S G H:Prop}(s:S)(x:H)(h:S->Hid H->G:=by
 intro hS hG0
 repeat' (first
  |with_reducible refine bg.seq ?_
  |(with_reducible ((first|refine bg.region hF (hn:=[]) (by kernel_rfl) ?_|refine rP (by first|assumption|apply_assumption) ?_|refine bg.cond' ?_);simp -implicitDefEqProofs (maxSteps:=2000000) [hP,hN,hS]))
  |(with_reducible refine mV (by simp[hS]) (λhgd=>?_) (λhgd=>?_)<;>first|(exfalso;simp at hgd;done)|(exfalso;simp at hgd;omega)|simp -implicitDefEqProofs (maxSteps:=2000000) [hP,hN,hS])
  |with_reducible refine j6 ?_ ?_
  |(with_reducible refine jJ (λhcd=>?_) (λhcd=>?_)<;>(try (exfalso;clear hP hN;simp_all;done))<;>(try (exfalso;simp at *;omega)))
  |with_reducible refine bg.block ?_
  |(with_reducible ((first|refine bg.skip ?_|refine bg.exit ?_|refine bg.ret ?_);simp[hS])))
 exact hG0.h):G:=h s ⟨x⟩
structure Verd where
 kind:Int
 nor:List (Int×Int×Int)
 pair:Int
 left:List Int
 right:List Int
structure Cel where
 joint:Int
 low:Int
 high:Int
 v:Verd
structure Tr where
 root:List (Int×Int)
 cells:List Cel
variable {t:Tr}
abbrev ai(v:Int×Int×Int):PV:=.val (.agg #[.int .i64 v.1,.int .i64 v.2.1,.int .i64 v.2.2])
abbrev aB(l:List (Int×Int×Int)):PV:=.sl (l.map ai)
def D7(c:Cel):Bool:=c.joint==-1&&c.low==-1&&c.high==-1
def KW(p:Int)(l r:List Int):Bool:=p==0&&(l.length:Int)==0&&(r.length:Int)==0
def H3(v:Verd):Bool:=if v.kind=0\/v.kind=1 then KW v.pair v.left v.right else if v.kind=2 then((v.nor.length:Int)==0)else false
def NU(v:Verd):Bool:=v.kind==0&&((v.nor.length:Int)==0)&&KW v.pair v.left v.right
def KX(r:List (Int×Int)):Bool:=decide (1<=r.length)&&decide (r.length<=10)&&bE vI r
theorem lr{xs:List α}:bE p xs=true↔∀x∈xs,p x=true:=L4
abbrev Bx:=List (Int×Int)
variable {y:Option Bx}
abbrev OL:=List (Option Bx)
def xT(n i:Nat)(c:Cel):Bool:=decide ((i:Int)<c.low)&&decide (c.low<n)&&decide ((i:Int)<c.high)&&decide (c.high<n)&&decide (c.low≠c.high)&&NU c.v
def y6(n i:Nat)(c:Cel)(L:OL):Option OL:=
 match L[i]? with
 |some (some b)=>
  if D7 c then(if H3 c.v then some L else none)
  else if xT n i c then
   if ky b c.joint then
    match L[c.low.toNat]?,L[c.high.toNat]? with
    |some none,some none=>some ((L.set c.low.toNat (some (rX b c.joint))).set c.high.toNat (some (rY b c.joint)))
    |_,_=>none
   else none
  else none
 |_=>none
def Gh(n:Nat):List Cel->Nat->OL->Option OL
 |[],_,L=>some L
 |c::b,i,L=>match y6 n i c L with
  |some a=>Gh n b (i+1) a
  |none=>none
def y7(t:Tr):OL:=some t.root::List.replicate (t.cells.length-1) none
def xU(t:Tr):Bool:=decide (1<=t.cells.length)&&decide (t.cells.length<=2048)&&KX t.root
def oV(t:Tr):Option OL:=if xU t then Gh t.cells.length t.cells 0 (y7 t)else none
def Gi(t:Tr):Bool:=(oV t).isSome
def mz(t:Tr):List Bx:=match oV t with
 |some L=>L.map λx=>x.getD []
 |none=>[]
theorem Jq{c:Cel}{L L':OL}(h:y6 n i c L=some L'):∃b,L[i]?=some (some b)/\
 ((D7 c=true/\H3 c.v=true/\L'=L)\/
  (D7 c=false/\xT n i c=true/\ky b c.joint=true/\L[c.low.toNat]?=some none/\L[c.high.toNat]?=some none/\
    L'=(L.set c.low.toNat (some (rX b c.joint))).set c.high.toNat (some (rY b c.joint)))):=by
 unfold y6 at h;split at h
 .rename_i b hb
  refine⟨b,hb,?_⟩;split at h
  .rename_i a
   split at h
   .rename_i hf
    injection h with h;exact .inl ⟨a,hf,h.symm⟩
   .cases h
  .rename_i a
   split at h
   .rename_i hi
    split at h
    .rename_i d
     split at h
     .rename_i h1 h2
      injection h with h;exact .inr ⟨by simpa using a,hi,d,h1,h2,h.symm⟩
     .cases h
    .cases h
   .cases h
 .cases h
theorem Jr{c:Cel}:xT n i c=true↔(i:Int)<c.low/\c.low<n/\(i:Int)<c.high/\c.high<n/\c.low≠c.high/\NU c.v=true:=by
 simp[xT,and_assoc]
theorem Gj{n:Nat}{P:Nat->OL->Prop}:∀(cs:List Cel)(i:Nat)(L L':OL),Gh n cs i L=some L'->P i L->
 (∀k c L L',cs[k]?=some c->P (i+k) L->y6 n (i+k) c L=some L'->P (i+k+1) L')->P (i+cs.length) L'
 |[],i,L,L',h,a,_=>by simp[Gh]at h;subst h;exact a
 |c::cs,i,L,L',h,a,g=>by
  simp only[Gh]at h;split at h
  .rename_i b h1
   have h2:=g 0 c L b rfl a h1
   have:=Gj cs (i+1) b L' h h2 (λk d M j l hp f=>by
    have e:i+1+k=i+(k+1):=by omega
    rw[e]at hp f|-
    exact g (k+1) d M j (by simpa using l) hp f)
   have e:i+(c::cs).length=i+1+cs.length:=by simp;omega
   rw[e];exact this
  .cases h
theorem KY{L:OL}{P:Nat->OL->Prop}(h:oV t=some L)(e:P 0 (y7 t))
 (hs:∀i c L a,t.cells[i]?=some c->P i L->y6 t.cells.length i c L=some a->P (i+1) a):P t.cells.length L:=by
 unfold oV at h;split at h
 .have:=Gj t.cells 0 _ _ h e (λk c M d f hp b=>by
   rw[ZS]at hp b|-;exact hs k c M d f hp b)
  simpa using this
 .cases h
theorem GQ{L:OL}(h:oV t=some L):xU t=true:=by
 unfold oV at h;split at h
 .assumption
 .cases h
theorem Js:xU t=true↔1<=t.cells.length/\t.cells.length<=2048/\1<=t.root.length/\t.root.length<=10/\bE vI t.root=true:=by
 simp[xU,KX,and_assoc]
structure BOk(t:Tr)(i:Nat)(L:OL):Prop where
 len:L.length=t.cells.length
 pre:∀j,j<i->∃b,L[j]?=some (some b)
 ok:∀(j:Nat) b,L[j]?=some (some b)->b.length=t.root.length/\bE vI b=true
theorem DK{b:Bx}{j:Int}(h:ky b j=true):(rX b j).length=b.length/\(rY b j).length=b.length:=by
 unfold rX rY;rw[h];simp only[Za];unfold ky at h;split<;>simp_all
theorem lP{lo hi:Int}:aO lo hi=true↔-2147483648<=lo/\lo<=hi/\hi<=2147483648:=by
 simp[aO,and_assoc]
theorem H4{x:Int×Int}(h:aO x.1 x.2=true):rW x=(x.1+x.2)/2:=by
 unfold rW;have a:=lP.1 h;rw[h,YY rfl,show wr (x.1+x.2)=x.1+x.2 from aa (by omega) (by omega),Int.fdiv_eq_ediv];simp
theorem Gk{b:Bx}{j:Int}:ky b j=true↔0<=j/\bE vI b=true/\∃x,b[j.toNat]?=some x/\2<=x.2-x.1:=by
 unfold ky;constructor
 .intro h
  simp only[up,Is]at h;obtain⟨⟨h1,h2⟩,h3⟩:=h;refine⟨h1,h2,?_⟩;split at h3
  .rename_i x a
   refine⟨x,a,?_⟩;have c:=lP.1 (lr.1 h2 _ (An a));rw[Is,A5,YY (lr.1 h2 _ (An a)),show wr (x.2-x.1)=x.2-x.1 from aa (by omega) (by omega)]at h3;exact h3
  .cases h3
 .rintro⟨h1,h2,x,a,h3⟩
  have c:=lP.1 (lr.1 h2 _ (An a))
  have d:A5 x=x.2-x.1:=by
   rw[A5,YY (lr.1 h2 _ (An a))];exact aa (by omega) (by omega)
  simp[h1,h2,a,d,h3]
theorem MR{b:Bx}{j:Int}(h:ky b j=true):∃x,b[j.toNat]?=some x/\aO x.1 x.2=true/\2<=x.2-x.1/\rX b j=b.set j.toNat (x.1,(x.1+x.2)/2)/\rY b j=b.set j.toNat ((x.1+x.2)/2,x.2):=by
 obtain⟨_,h2,x,a,h3⟩:=Gk.1 h;have c:aO x.1 x.2=true:=lr.1 h2 _ (An a);refine⟨x,a,c,h3,?_,?_⟩
 .simp[rX,h,a,H4 c]
 .simp[rY,h,a,H4 c]
theorem zI{b:Bx}{j:Int}(h:ky b j=true):bE vI (rX b j)=true/\bE vI (rY b j)=true:=by
 obtain⟨x,g,e,h3,c,d⟩:=MR h;have h2:=(Gk.1 h).2.1;have f:=lP.1 e;rw[c,d];constructor<;>refine lr.2 λy a=>?_
 .rcases ZE a with h|rfl
  .exact lr.1 h2 _ h
  .exact lP.2 ⟨by omega,by simp only;omega,by simp only;omega⟩
 .rcases ZE a with h|rfl
  .exact lr.1 h2 _ h
  .exact lP.2 ⟨by simp only;omega,by simp only;omega,by omega⟩
theorem MS(h:xU t=true):BOk t 0 (y7 t):=by
 obtain⟨h1,h2,h3,h4,h5⟩:=Js.1 h;refine⟨by simp[y7];omega,λj a=>by omega,λj b hb=>?_⟩
 cases j with
 |zero=>simp[y7]at hb;subst hb;exact⟨rfl,h5⟩
 |succ j=>simp[y7,Zk]at hb
theorem MT{L:OL}{a z:Nat}{x:Option Bx}(b:a≠z)(ha:a<L.length)(c:z<L.length):((L.set a x).set z y)[j]?=if j=z then some y else if j=a then some x else L[j]?:=by
 rw[Y1];by_cases h1:z=j
 .subst h1;simp[c]
 .rw[YR h1,YR (λh=>h1 h.symm),Y1]
  by_cases h2:a=j
  .subst h2;simp[ha]
  .rw[YR h2,YR (λh=>h2 h.symm)]
theorem Gl{c:Cel}{L:OL}{x:Option Bx}(a:L.length=t.cells.length)(hi:xT t.cells.length i c=true):((L.set c.low.toNat x).set c.high.toNat y)[j]?=if j=c.high.toNat then some y else if j=c.low.toNat then some x else L[j]?:=by
 obtain⟨h1,h2,h3,h4,h5,_⟩:=Jr.1 hi;exact MT (by omega) (by omega) (by omega)
theorem MU{c:Cel}{L L':OL}(h:BOk t i L)(hs:y6 t.cells.length i c L=some L'):BOk t (i+1) L':=by
 obtain⟨b,hb,⟨_,_,rfl⟩|⟨_,hi,f,l,g,rfl⟩⟩:=Jq hs
 .refine⟨h.len,λj k=>?_,h.ok⟩
  by_cases e:j=i
  .subst e;exact⟨b,hb⟩
  .exact h.pre j (by omega)
 .have a:=h.ok i b hb
  refine⟨by simpa using h.len,λj k=>?_,λj d hd=>?_⟩
  .rw[Gl h.len hi]
   split
   .exact⟨_,rfl⟩
   .split
    .exact⟨_,rfl⟩
    .by_cases e:j=i
     .subst e;exact⟨b,hb⟩
     .exact h.pre j (by omega)
  .rw[Gl h.len hi]at hd
   split at hd
   .injection hd with hd;injection hd with hd;subst hd
    exact⟨by rw[(DK f).2];exact a.1,(zI f).2⟩
   .split at hd
    .injection hd with hd;injection hd with hd;subst hd
     exact⟨by rw[(DK f).1];exact a.1,(zI f).1⟩
    .exact h.ok j d hd
theorem xV{L:OL}(h:oV t=some L):BOk t t.cells.length L:=
 KY h (MS (GQ h)) (λ_ _ _ _ _ hp a=>MU hp a)
theorem BN{L:OL}(h:oV t=some L):L=(mz t).map some:=by
 have ok:=xV h;rw[mz,h];simp only[List.map_map];apply Zx;intro j;by_cases a:j<L.length
 .obtain⟨b,hb⟩:=ok.pre j (by rw[<-ok.len];exact a)
  simp[hb]
 .simp[Y2 (by omega:L.length<=j)]
theorem Ju(h:Gi t=true):(mz t).length=t.cells.length:=by
 obtain⟨L,hL⟩:=Zl.1 h;have:=(xV hL).len;rw[BN hL]at this;simpa using this
theorem KZ{b:Bx}(hb:(mz t)[j]?=some b):b.length=t.root.length/\bE vI b=true:=by
 cases hL:oV t with
 |none=>simp[mz,hL]at hb
 |some L=>
  have:=(xV hL).ok j b;rw[BN hL]at this;exact this (by simp[hb])
def Jv(t:Tr)(i:Nat):Bool:=match t.cells[i]? with
 |some c=>D7 c
 |none=>false
def kJ(t:Tr)(c:Int):Bx:=(mz t)[c.toNat]?.getD []
theorem MV(b:Gi t=true)(h:c.toNat<t.cells.length):(mz t)[c.toNat]?=some (kJ t c)/\(kJ t c).length=t.root.length/\bE vI (kJ t c)=true:=by
 have a:c.toNat<(mz t).length:=by rw[Ju b];exact h
 have e:(mz t)[c.toNat]?=some (kJ t c):=by simp[kJ,an a]
 exact⟨e,KZ e⟩
def Gm(t:Tr)(chain:List Int)(j:Nat):Bool:=match chain[j]? with
 |some c=>decide (0<=c)&&decide (c<t.cells.length)&&Jv t c.toNat&& !((chain.take j).contains c)&&(decide (j=0)||EW (kJ t (chain[j-1]?.getD 0)) (kJ t c))
 |none=>false
theorem Jw{chain:List Int}(hc:chain[j]?=some c):Gm t chain j=true↔0<=c/\c<t.cells.length/\Jv t c.toNat=true/\c∉chain.take j/\(j=0\/EW (kJ t (chain[j-1]?.getD 0)) (kJ t c)=true):=by
 simp[Gm,hc,and_assoc]
structure ChOk(t:Tr)(chain p q:List Int):Prop where
 valid:Gi t=true
 hp:PP t.root p=true
 hq:PP t.root q=true
 ne:chain≠[]
 all:∀j,j<chain.length->Gm t chain j=true
namespace ChOk
variable {t:Tr} {chain p q:List Int}
theorem get(h:ChOk t chain p q)(a:j<chain.length):0<=chain[j]/\chain[j]<t.cells.length/\Jv t chain[j].toNat=true/\chain[j]∉chain.take j/\(j=0\/EW (kJ t (chain[j-1]?.getD 0)) (kJ t chain[j])=true):=
 (Jw (an a)).1 (h.all j a)
theorem box(h:ChOk t chain p q)(a:j<chain.length):(mz t)[chain[j].toNat]?=some (kJ t chain[j])/\(kJ t chain[j]).length=t.root.length/\bE vI (kJ t chain[j])=true:=by
 have:=h.get a;exact MV h.valid (by omega)
end ChOk
section
variable (n:Nat) (may has hasF:Nat->Bool) (tch:Nat->Nat->Bool)
variable {n may has hasF tch}
end
theorem OO{P:Program}(D:Nat){t e:TypeId}(k:P.underlying t=some (.array 3 e))(hs:al P (sizeOf e)=some 1)(i:∀x y:Int,al P (Op.equalIn D e (.int .i64 x) (.int .i64 y))=some (x==y)){xs ys:Array Value}{d f g:Int}
 (p0:al P (part e xs (0*1))=some (.int .i64 a))(l:al P (part e xs (1*1))=some (.int .i64 b))(m:al P (part e xs (2*1))=some (.int .i64 c))
 (n:al P (part e ys (0*1))=some (.int .i64 d))(o:al P (part e ys (1*1))=some (.int .i64 f))(p:al P (part e ys (2*1))=some (.int .i64 g)):
 al P (Op.equalIn (D+1) t (.agg xs) (.agg ys))=some (a==d&&b==f&&c==g):=by
 simp only[Op.equalIn,af,jb k,Y3];simp only[hs,Y3,Std.Legacy.Range.forIn_eq_forIn_range',Std.Legacy.Range.size]
 have j:List.range' 0 ((3-0+1-1)/1) 1=[0,1,2]:=by decide
 rw[j];simp only[List.forIn_cons,List.forIn_nil,af,p0,n,i,Y3];cases h1:(a==d)
 .simp[cK]
 simp only[yAo,YU,Y5,cK,Y3,af,l,o,i];cases h2:(b==f)
 .simp[cK]
 simp only[yAo,YU,Y5,cK,Y3,af,m,p,i];cases h3:(c==g)
 all_goals simp[cK]
theorem NR(a b e c d f:Int):al prog (Op.equal 60 (.agg #[.int .i64 a,.int .i64 b,.int .i64 e]) (.agg #[.int .i64 c,.int .i64 d,.int .i64 f]))=some (a==c&&b==d&&e==f):=
 OO 9999 Tryz.underlying60 (by kernel_rfl) (λx y=>qh (P:=prog) 9998 2 .i64 .i64 x y Tryz.underlying2) (by kernel_rfl) (by kernel_rfl) (by kernel_rfl) (by kernel_rfl) (by kernel_rfl) (by kernel_rfl)
def yQ(x:AV):Option (Int×Int×Int):=match x with
 |.pv (.val (.agg d))=>match d.toList with
  |[.int .i64 a,.int .i64 b,.int .i64 c]=>some (a,b,c)
  |_=>none
 |_=>none
theorem rn{x:AV}(h:yQ x=some (a,b,c)):x=.pv (ai (a,b,c)):=by
 unfold yQ at h;split at h
 .split at h
  .rename_i e _ f g i d
   injection h with h;injection h with h1 h2;injection h2 with h2 h3;subst h1;subst h2;subst h3;rw[<-Array.toArray_toList (xs:=e),d]
  .cases h
 .cases h
def Mx(x y:AV)(fb:Option bP):Option bP:=match yQ x,yQ y with
 |some (a,b,e),some (c,d,f)=>some (.pv (.val (.bool !(a==c&&b==d&&e==f))),[])
 |_,_=>fb
@[simp] theorem Tf(a b e c d f:Int)(fb:Option bP):Mx (.pv (.val (.agg #[.int .i64 a,.int .i64 b,.int .i64 e]))) (.pv (.val (.agg #[.int .i64 c,.int .i64 d,.int .i64 f]))) fb=some (.pv (.val (.bool !(a==c&&b==d&&e==f))),[]):=rfl
@[simp] theorem XG{dst:Option Nat}{ty:TypeId}{pos:String}{aft:Array Edge}{g:Option (Nat×Bool)}(x y:Operand):
 aV prog ⟨dst,.binOp .neq 60 x y 60,ty,pos,aft,g⟩ ρ=Mx (ρ x) (ρ y) (lD prog ⟨dst,.binOp .neq 60 x y 60,ty,pos,aft,g⟩ ρ):=by
 unfold Mx;split
 .rename_i a b e c d f i j
  exact It rfl (rn i) (rn j) (by kernel_rfl) (NR a b e c d f)
 .rfl
def Jc(x y:AV)(fb:Option bP):Option bP:=match yQ x,yQ y with
 |some (a,b,e),some (c,d,f)=>some (.pv (.val (.bool (a==c&&b==d&&e==f))),[])
 |_,_=>fb
abbrev Iv:=Int×Int
def fe(a:Int):Int:=min (max a (-2147483648)) 2147483648
def da(a m:Int):Int:=-((-a)/m)
theorem bi(m n:Nat)(ha:-(m:Int)<=a)(c:a<=m)(hb:-(n:Int)<=b)(d:b<=n):-((m*n:Nat):Int)<=a*b/\a*b<=((m*n:Nat):Int):=by
 have h1:(a*b).natAbs<=m*n:=by
  rw[Int.natAbs_mul];exact yAa (by omega) (by omega)
 omega
theorem Kp(a:Int)(m:Nat):a.fdiv (m:Int)=a/(m:Int):=Int.fdiv_eq_ediv_of_nonneg a (by omega)
theorem Qj(a:Int):a.fdiv 65536=a/65536:=Kp a 65536
theorem Qk(a:Int):a.fdiv 16384=a/16384:=Kp a 16384
theorem Ql(a:Int):a.fdiv 1073741824=a/1073741824:=Kp a 1073741824
theorem Fo(a:Int)(ha:-4611686018427387904<=a)(hb:a<=4611686018427387904):aH 284 (Z a) (Z 16) (Z (da a 65536)):=by
 have h1:a.fdiv (2^min 16 i64.bits)=a/65536:=Qj a
 have h2:i64.wrap (a/65536*2^min 16 i64.bits)=a/65536*65536:=by
  show i64.wrap (a/65536*65536)=_;exact aa (by omega) (by omega)
 have h3:i64.wrap (a/65536+1)=a/65536+1:=aa;by_cases b:a/65536*65536=a
 .have hf:da a 65536=a/65536:=by unfold da;omega
  rw[hf];refine Dp func284 λC hP hN=>?_;exact Gy
 .have hf:da a 65536=a/65536+1:=by unfold da;omega
  rw[hf]
  have c:(a/65536*65536==a)=false:=by simpa using b
  refine Dp func284 λC hP hN=>?_;exact Gy
theorem Qm(a:Int):aH 255 (Z a) (Z 16) (Z (a/65536)):=by
 have h1:a.fdiv (2^min 16 i64.bits)=a/65536:=Qj a;refine Dp func255 λC hP hN=>?_;exact Gy
theorem Ur(a:Int)(ha:-4611686018427387904<=a)(hb:a<=4611686018427387904):aH 284 (Z a) (Z 14) (Z (da a 16384)):=by
 have h1:a.fdiv (2^min 14 i64.bits)=a/16384:=Qk a
 have h2:i64.wrap (a/16384*2^min 14 i64.bits)=a/16384*16384:=by
  show i64.wrap (a/16384*16384)=_;exact aa (by omega) (by omega)
 have h3:i64.wrap (a/16384+1)=a/16384+1:=aa;by_cases b:a/16384*16384=a
 .have hf:da a 16384=a/16384:=by unfold da;omega
  rw[hf];refine Dp func284 λC hP hN=>?_;exact Gy
 .have hf:da a 16384=a/16384+1:=by unfold da;omega
  rw[hf]
  have c:(a/16384*16384==a)=false:=by simpa using b
  refine Dp func284 λC hP hN=>?_;exact Gy
theorem Us(a:Int):aH 255 (Z a) (Z 14) (Z (a/16384)):=by
 have h1:a.fdiv (2^min 14 i64.bits)=a/16384:=Qk a;refine Dp func255 λC hP hN=>?_;exact Gy
theorem Ut(a:Int)(ha:-4611686018427387904<=a)(hb:a<=4611686018427387904):aH 284 (Z a) (Z 30) (Z (da a 1073741824)):=by
 have h1:a.fdiv (2^min 30 i64.bits)=a/1073741824:=Ql a
 have h2:i64.wrap (a/1073741824*2^min 30 i64.bits)=a/1073741824*1073741824:=by
  show i64.wrap (a/1073741824*1073741824)=_;exact aa (by omega) (by omega)
 have h3:i64.wrap (a/1073741824+1)=a/1073741824+1:=aa;by_cases b:a/1073741824*1073741824=a
 .have hf:da a 1073741824=a/1073741824:=by unfold da;omega
  rw[hf];refine Dp func284 λC hP hN=>?_;exact Gy
 .have hf:da a 1073741824=a/1073741824+1:=by unfold da;omega
  rw[hf]
  have c:(a/1073741824*1073741824==a)=false:=by simpa using b
  refine Dp func284 λC hP hN=>?_;exact Gy
theorem Uu(a:Int):aH 255 (Z a) (Z 30) (Z (a/1073741824)):=by
 have h1:a.fdiv (2^min 30 i64.bits)=a/1073741824:=Ql a;refine Dp func255 λC hP hN=>?_;exact Gy
def ff(x y:Iv):Iv:=if aO x.1 x.2&&aO y.1 y.2 then(fe (x.1+y.1),fe (x.2+y.2))else(0,0)
def hC(x:Iv):Iv:=if aO x.1 x.2 then(-x.2,-x.1)else(0,0)
def ew(x y:Iv):Iv:=if aO x.1 x.2&&aO y.1 y.2 then
 (fe (min (x.1*y.1) (min (x.1*y.2) (min (x.2*y.1) (x.2*y.2)))/65536),fe (da (max (x.1*y.1) (max (x.1*y.2) (max (x.2*y.1) (x.2*y.2)))) 65536))else(0,0)
def qo(x:Int):Iv:=(fe x,fe x)
theorem dY:aO a b=true↔-2147483648<=a/\a<=b/\b<=2147483648:=by
 simp only[aO,up,Is];constructor
 .rintro⟨⟨h1,h2⟩,h3⟩;exact⟨h1,h2,h3⟩
 .rintro⟨h1,h2,h3⟩;exact⟨⟨h1,h2⟩,h3⟩
theorem NC(a b:Int):aH 315 (Z a) (Z b) (I (fe a) (fe b)):=PL a b
theorem Cp(a:Int):aT 297 (Z a) (I (fe a) (fe a)):=tN a
theorem Cq:aH 312 (I a b) (I c d) (aK (ff (a,b) (c,d))):=by
 cases e:(aO a b&&aO c d)with
 |false=>
  have f:ff (a,b) (c,d)=(0,0):=by simp[ff,e]
  rw[f];refine Dp func312 λC hP hN=>?_;have i:=@ET;exact GS e
 |true=>
  have f:ff (a,b) (c,d)=(fe (a+c),fe (b+d)):=by simp only[ff,e,Za]
  rw[f];have g:=e;rw[up,dY,dY]at g;have w1:i64.wrap (a+c)=a+c:=aa;have w2:i64.wrap (b+d)=b+d:=aa;refine Dp func312 λC hP hN=>?_
  with_reducible repeat' (first|refine Sp.h ?_|((first|refine Ss.h ?_|refine Sc.h (ET _ _ _ _) ?_|refine Sc.h (NC _ _) ?_|(refine Sb.h ?_ ?_ ?_<;>(try intro hgd)<;>try exact Xy))<;>simp -implicitDefEqProofs (maxSteps:=2000000) [hP,hN,e,w1,w2])|refine X2 ?_ ?_|(refine Xd ?_ ?_<;>intro hcd<;>try exact Xx))
theorem LU:aT 340 (I a b) (aK (hC (a,b))):=by
 cases c:aO a b with
 |false=>
  have d:hC (a,b)=(0,0):=by simp[hC,c]
  rw[d];refine Dp func340 λC hP hN=>?_;have f:=@j9;exact GS c
 |true=>
  have d:hC (a,b)=(-b,-a):=by simp only[hC,c,Za]
  rw[d];have e:=c;rw[dY]at e;have w1:i64.wrap (-b)=-b:=aa;have w2:i64.wrap (-a)=-a:=aa;have g:i64.wrap (0-b)=-b:=(aa (n:=0-b) (by omega) (by omega)).trans (by omega);have i:i64.wrap (0-a)=-a:=(aa (n:=0-a) (by omega) (by omega)).trans (by omega);refine Dp func340 λC hP hN=>?_;have f:=@j9;exact GS (it c w1 w2 g i)
theorem Uv(a b:Int)(ha:-4611686018427387904<=b)(hb:b<=4611686018427387904):aH 324 (Z a) (Z b) (I (fe (a/65536)) (fe (da b 65536))):=by
 refine Dp func324 λC hP hN=>?_
 with_reducible repeat' (first|refine Sp.h ?_|((first|refine Ss.h ?_|refine Sc.h (Qm _) ?_|refine Sc.h (Fo _ ha hb) ?_|refine Sc.h (NC _ _) ?_|(refine Sb.h ?_ ?_ ?_<;>(try intro hgd)<;>try exact Xy))<;>simp -implicitDefEqProofs (maxSteps:=2000000) [hP,hN])|refine X2 ?_ ?_|(refine Xd ?_ ?_<;>intro hcd<;>try exact Xx))
@[simp] theorem Se:i64.wrap 1=1:=by decide
@[simp] theorem Sf:i64.wrap 2=2:=by decide
@[simp] theorem Sg:i64.wrap 3=3:=by decide
@[simp] theorem YF:i64.wrap 4=4:=by decide
theorem Uw(h:i<=4):i=0\/i=1\/i=2\/i=3\/i=4:=by omega
theorem Qn:aH 313 (I a b) (I c d) (aK (ew (a,b) (c,d))):=by
 cases j:(aO a b&&aO c d)with
 |false=>
  have p:ew (a,b) (c,d)=(0,0):=by simp[ew,j]
  rw[p];refine Dp func313 λC hP hN=>?_;have E:=@ET;exact GS j
 |true=>
  have q:=j;rw[up,dY,dY]at q;have m1:=bi (a:=a) (b:=c) 2147483648 2147483648 (by omega) (by omega) (by omega) (by omega);have m2:=bi (a:=a) (b:=d) 2147483648 2147483648 (by omega) (by omega) (by omega) (by omega);have B:=bi (a:=b) (b:=c) 2147483648 2147483648 (by omega) (by omega) (by omega) (by omega);have D:=bi (a:=b) (b:=d) 2147483648 2147483648 (by omega) (by omega) (by omega) (by omega);have w1:i64.wrap (a*c)=a*c:=aa;have w2:i64.wrap (a*d)=a*d:=aa;have y:i64.wrap (b*c)=b*c:=aa;have z:i64.wrap (b*d)=b*d:=aa
  have p:ew (a,b) (c,d)=(fe (min (a*c) (min (a*d) (min (b*c) (b*d)))/65536),fe (da (max (a*c) (max (a*d) (max (b*c) (b*d)))) 65536)):=by simp only[ew,j,Za]
  rw[p];generalize l:a*c=e at *;generalize m:a*d=f at *;generalize n:b*c=g at *;generalize o:b*d=k at *;have A:=Uv (min e (min f (min g k))) (max e (max f (max g k))) (by omega) (by omega);refine Dp func313 λC hP hN=>?_
  with_reducible repeat' (first|refine Sp.h ?_|((first|refine Wd ?_|refine Ss.h ?_|refine Sc.h (ET _ _ _ _) ?_|(refine Sb.h ?_ ?_ ?_<;>(try intro hgd)<;>try exact Xy))<;>simp -implicitDefEqProofs (maxSteps:=2000000) [hP,hN,j,w1,w2,y,z,l,m,n,o]<;>try refine Ya ?_)|refine X2 ?_ ?_|(refine Xd ?_ ?_<;>intro hcd<;>try exact Xx))
  refine WP.loopN [] 4 (λi st=>st.t 4=.ptr 4 0/\st.h 4=some (.box [.pv (Z 0),.pv (Z 0)] true false)/\st.t 40=.pv (.val (.agg #[.int .i64 e,.int .i64 f,.int .i64 g,.int .i64 k]))/\st.t 41=.pv (Z i)/\
   st.t 6=.pv (Z (if i<=1 then e else if i=2 then min e f else if i=3 then min e (min f g)else min e (min f (min g k))))/\st.t 7=.pv (Z (if i<=1 then e else if i=2 then max e f else if i=3 then max e (max f g)else max e (max f (max g k))))) (by simp) ?_
  rintro i st hi ⟨g4,x,r,s,u,v⟩;rcases Uw hi with rfl|rfl|rfl|rfl|rfl
  all_goals (simp at u v)
  all_goals
   exact Gy
def em(x:Int):Nat->Int
 |0=>1073741824
 |1=>x*6746518852/65536
 |k+2=>em x (k+1)*(x*6746518852/65536)/1073741824
def en(x:Int):Nat->Int
 |0=>1073741824
 |1=>da (x*6746518853) 65536
 |k+2=>da (en x (k+1)*da (x*6746518853) 65536) 1073741824
theorem pE{x:Int}(a:0<=x)(h1:x<=8192):∀k,0<=em x k/\em x k<=1073741824
 |0=>by simp[em]
 |1=>by simp only[em];omega
 |k+2=>by
  have h:=pE a h1 (k+1)
  have h2:0<=x*6746518852/65536/\x*6746518852/65536<=1073741824:=by omega
  simp only[em];generalize x*6746518852/65536=y at *;have h3:=ZT h.1 h2.1;have h4:=yA9 h.2 h2.2 h2.1 (by decide:(0:Int)<=1073741824);omega
theorem pF{x:Int}(a:0<=x)(h1:x<=8192):∀k,0<=en x k/\en x k<=1073741824
 |0=>by simp[en]
 |1=>by simp only[en,da];omega
 |k+2=>by
  have h:=pF a h1 (k+1)
  have h2:0<=da (x*6746518853) 65536/\da (x*6746518853) 65536<=1073741824:=by unfold da;omega
  simp only[en];generalize da (x*6746518853) 65536=y at *;have h3:=ZT h.1 h2.1;have h4:=yA9 h.2 h2.2 h2.1 (by decide:(0:Int)<=1073741824);unfold da;omega
theorem uz{x:Int}(a:0<=x)(h1:x<=8192)(j:Nat):0<=em x j*em x 1/\em x j*em x 1<=1152921504606846976:=by
 have h:=pE a h1 j;have h2:=pE a h1 1;have h3:=ZT h.1 h2.1;have h4:=yA9 h.2 h2.2 h2.1 (by decide:(0:Int)<=1073741824);omega
theorem pG{x:Int}(a:0<=x)(h1:x<=8192)(j:Nat):0<=en x j*en x 1/\en x j*en x 1<=1152921504606846976:=by
 have h:=pF a h1 j;have h2:=pF a h1 1;have h3:=ZT h.1 h2.1;have h4:=yA9 h.2 h2.2 h2.1 (by decide:(0:Int)<=1073741824);omega
def iV(f:Nat->Int)(n:Nat):List AV:=[.pv (Z (if 0<n then f 0 else 0)),.pv (Z (if 1<n then f 1 else 0)),.pv (Z (if 2<n then f 2 else 0)),.pv (Z (if 3<n then f 3 else 0)),.pv (Z (if 4<n then f 4 else 0)),.pv (Z (if 5<n then f 5 else 0)),
 .pv (Z (if 6<n then f 6 else 0)),.pv (Z (if 7<n then f 7 else 0)),.pv (Z (if 8<n then f 8 else 0)),.pv (Z (if 9<n then f 9 else 0)),.pv (Z (if 10<n then f 10 else 0))]
abbrev D4(f:Nat->Int):PV:=.val (.agg #[.int .i64 (f 0),.int .i64 (f 1),.int .i64 (f 2),.int .i64 (f 3),.int .i64 (f 4),.int .i64 (f 5),.int .i64 (f 6),.int .i64 (f 7),.int .i64 (f 8),.int .i64 (f 9),.int .i64 (f 10)])
@[simp] theorem YJ:i64.wrap 5=5:=by decide
@[simp] theorem YK:i64.wrap 6=6:=by decide
@[simp] theorem YL:i64.wrap 7=7:=by decide
@[simp] theorem YM:i64.wrap 8=8:=by decide
@[simp] theorem YN:i64.wrap 9=9:=by decide
@[simp] theorem Xo:i64.wrap 10=10:=by decide
@[simp] theorem Xp:i64.wrap 11=11:=by decide
set_option maxRecDepth 4000 in
theorem Qy(x:Int)(m:0<=x)(h1:x<=8192):aT 354 (Z x) (.tup [D4 (em x),D4 (en x)]):=by
 have w1:i64.wrap (x*6746518852)=x*6746518852:=aa;have w2:i64.wrap (x*6746518853)=x*6746518853:=aa;have c1:aS prog 255 [.pv (Z (x*6746518852)),.pv (Z 16)] [] [] (.pv (Z (em x 1))):=Qm _;have p:aS prog 284 [.pv (Z (x*6746518853)),.pv (Z 16)] [] [] (.pv (Z (en x 1))):=Fo _ (by omega) (by omega);have m1:∀j,i64.wrap (em x j*em x 1)=em x j*em x 1:=λj=>aa (by have:=uz m h1 j;omega) (by have:=uz m h1 j;omega);have m2:∀j,i64.wrap (en x j*en x 1)=en x j*en x 1:=λj=>aa (by have:=pG m h1 j;omega) (by have:=pG m h1 j;omega);have k:∀j,aS prog 255 [.pv (Z (em x (j+1)*em x 1)),.pv (Z 30)] [] [] (.pv (Z (em x (j+2)))):=λj=>Uu _;have l:∀j,aS prog 284 [.pv (Z (en x (j+1)*en x 1)),.pv (Z 30)] [] [] (.pv (Z (en x (j+2)))):=λj=>Ut _ (by have:=pG m h1 (j+1);omega) (by have:=pG m h1 (j+1);omega);have n:em x 0=1073741824:=rfl;have o:en x 0=1073741824:=rfl;generalize em x=f at *;generalize en x=g at *;refine Dp func354 λC hP hN=>?_;refine Gz ?_;refine WP.loopN [] 9 (λi st=>st.t 2=.ptr 2 0/\st.t 3=.ptr 3 0/\st.t 4=.ptr 4 0/\st.t 5=.ptr 5 0/\st.t 6=.pv (Z (i+2:Nat))/\st.h 2=some (.box (iV f 0) true false)/\st.h 3=some (.box (iV f 0) true false)/\st.h 4=some (.box (iV f (i+2)) true false)/\st.h 5=some (.box (iV g (i+2)) true false)) (by simp[iV,n,o]) ?_;rintro i st hi ⟨g2,g3,g4,g5,e,a,b,c,d⟩
 have hc:i=0\/i=1\/i=2\/i=3\/i=4\/i=5\/i=6\/i=7\/i=8\/i=9:=by omega
 rcases hc with rfl|rfl|rfl|rfl|rfl|rfl|rfl|rfl|rfl|rfl
 all_goals (simp only[iV]at a b c d;simp at e a b c d)
 all_goals skip
 .skip
  with_reducible repeat' (first|refine Sp.h ?_|((first|refine Wd ?_|refine Ss.h ?_|refine Sc.h (k 0) ?_|refine Sc.h (l 0) ?_)<;>simp -implicitDefEqProofs [hP,hN,g2,g3,g4,g5,e,a,b,c,d,m1,m2,iV]<;>try refine Ya ?_))
 .skip
  with_reducible repeat' (first|refine Sp.h ?_|((first|refine Wd ?_|refine Ss.h ?_|refine Sc.h (k 1) ?_|refine Sc.h (l 1) ?_)<;>simp -implicitDefEqProofs [hP,hN,g2,g3,g4,g5,e,a,b,c,d,m1,m2,iV]<;>try refine Ya ?_))
 .skip
  with_reducible repeat' (first|refine Sp.h ?_|((first|refine Wd ?_|refine Ss.h ?_|refine Sc.h (k 2) ?_|refine Sc.h (l 2) ?_)<;>simp -implicitDefEqProofs [hP,hN,g2,g3,g4,g5,e,a,b,c,d,m1,m2,iV]<;>try refine Ya ?_))
 .skip
  with_reducible repeat' (first|refine Sp.h ?_|((first|refine Wd ?_|refine Ss.h ?_|refine Sc.h (k 3) ?_|refine Sc.h (l 3) ?_)<;>simp -implicitDefEqProofs [hP,hN,g2,g3,g4,g5,e,a,b,c,d,m1,m2,iV]<;>try refine Ya ?_))
 .skip
  with_reducible repeat' (first|refine Sp.h ?_|((first|refine Wd ?_|refine Ss.h ?_|refine Sc.h (k 4) ?_|refine Sc.h (l 4) ?_)<;>simp -implicitDefEqProofs [hP,hN,g2,g3,g4,g5,e,a,b,c,d,m1,m2,iV]<;>try refine Ya ?_))
 .skip
  with_reducible repeat' (first|refine Sp.h ?_|((first|refine Wd ?_|refine Ss.h ?_|refine Sc.h (k 5) ?_|refine Sc.h (l 5) ?_)<;>simp -implicitDefEqProofs [hP,hN,g2,g3,g4,g5,e,a,b,c,d,m1,m2,iV]<;>try refine Ya ?_))
 .skip
  with_reducible repeat' (first|refine Sp.h ?_|((first|refine Wd ?_|refine Ss.h ?_|refine Sc.h (k 6) ?_|refine Sc.h (l 6) ?_)<;>simp -implicitDefEqProofs [hP,hN,g2,g3,g4,g5,e,a,b,c,d,m1,m2,iV]<;>try refine Ya ?_))
 .skip
  with_reducible repeat' (first|refine Sp.h ?_|((first|refine Wd ?_|refine Ss.h ?_|refine Sc.h (k 7) ?_|refine Sc.h (l 7) ?_)<;>simp -implicitDefEqProofs [hP,hN,g2,g3,g4,g5,e,a,b,c,d,m1,m2,iV]<;>try refine Ya ?_))
 .skip
  with_reducible repeat' (first|refine Sp.h ?_|((first|refine Wd ?_|refine Ss.h ?_|refine Sc.h (k 8) ?_|refine Sc.h (l 8) ?_)<;>simp -implicitDefEqProofs [hP,hN,g2,g3,g4,g5,e,a,b,c,d,m1,m2,iV]<;>try refine Ya ?_))
 .skip
  exact Gy
def mq(i:Nat):Int:=if i%2=0 then 1 else -1
def oF(xs:List Int):Nat->Int
 |0=>0
 |i+1=>oF xs i+mq i*(xs[i]?).getD 0
def eF(xs:List Int):Int:=oF xs xs.length
theorem Hz(i:Nat)(x:Int):(mq i*x=x\/mq i*x=-x):=by unfold mq;split<;>simp
theorem FC(i:Nat):mq (i+1)=-mq i:=by unfold mq;split<;>split<;>omega
theorem vF{xs:List Int}(hb:∀x∈xs,-1099511627776<=x/\x<=1099511627776):∀i:Nat,-((i:Int)*1099511627776)<=oF xs i/\oF xs i<=(i:Int)*1099511627776
 |0=>by simp[oF]
 |i+1=>by
  have h:=vF hb i
  have h2:-1099511627776<=(xs[i]?).getD 0/\(xs[i]?).getD 0<=1099511627776:=by
   cases a:xs[i]? with
   |none=>simp
   |some y=>exact hb y (An a)
  have h3:=Hz i ((xs[i]?).getD 0);simp only[oF];omega
theorem IX(xs:List Int)(f:xs.length<=1000)(hb:∀x∈xs,-1099511627776<=x/\x<=1099511627776):aT 355 (zs xs) (Z (eF xs)):=by
 refine Dp func355 λC hP hN=>?_;refine Gz ?_;refine WP.loopN [] xs.length (λi st=>st.t 3=.pv (Z (oF xs i))/\st.t 4=.pv (Z (mq i))/\st.t 7=.pv (zs xs)/\st.t 8=.pv (Z xs.length)/\st.t 9=.pv (Z i)) (by simp[oF,mq]) ?_;rintro i st hi ⟨g3,g4,c,d,e⟩;by_cases a:i<xs.length
 .have j:=ae a (by omega)
  have b:xs[i]?=some xs[i]:=an a;have g:=hb xs[i] (Zd a);have ha:=vF hb i;have h3:=Hz i xs[i];have w1:i64.wrap (mq i*xs[i])=mq i*xs[i]:=aa;have w2:i64.wrap (oF xs i+mq i*xs[i])=oF xs (i+1):=(aa (by omega) (by omega)).trans (by simp[oF,b])
  have k:i64.wrap (-mq i)=mq (i+1):=by
   rw[FC];unfold mq;split<;>decide
  have l:i64.wrap (0-mq i)=mq (i+1):=by
   rw[FC];unfold mq;split<;>decide
  exact Gy
 .skip
  refine Gz ?_
  all_goals (have:i=xs.length:=by omega
             subst this;rfl)
def aM(n d:Int):Int:=(n+d-1)/d
theorem vG(n d:Int)(hn:0<=n)(b:n<=1099511627776)(hd:1<=d)(a:d<=1099511627776):aH 356 (Z n) (Z d) (Z (aM n d)):=by
 have w1:i64.wrap (n+d)=n+d:=aa;have w2:i64.wrap (n+d-1)=n+d-1:=aa;have hq:(n+d-1).tdiv d=(n+d-1)/d:=Zc (by omega);have e:0<=(n+d-1)/d:=yAK (by omega) (by omega);have f:(n+d-1)/d<=n+d-1:=yBc _ (by omega);have g:i64.wrap ((n+d-1)/d)=(n+d-1)/d:=aa
 have c:d≠0:=by omega
 refine Dp func356 λC hP hN=>?_;refine Gz ?_
 all_goals rfl
def tX(lo hi:Int):Iv:=(max 0 (lo/16384),min 65536 (da hi 16384))
theorem Qz(lo hi:Int)(h1:-4611686018427387904<=hi)(h2:hi<=4611686018427387904):aH 357 (Z lo) (Z hi) (aK (tX lo hi)):=by
 refine Dp func357 λC hP hN=>?_;have a:=@Us;have b:=Ur _ h1 h2;refine GT trivial ?_
 all_goals simp[tX]
def oG(f g:Nat->Int):List Int:=[f 1,aM (g 3) 6,f 5/120,aM (g 7) 5040]
def lK(f g:Nat->Int):List Int:=[g 1,f 3/6,aM (g 5) 120,f 7/5040,aM (g 9) 362880]
def ss(f g:Nat->Int):List Int:=[1073741824,aM (g 2) 2,f 4/24,aM (g 6) 720,f 8/40320,aM (g 10) 3628800]
def pH(f g:Nat->Int):List Int:=[1073741824,f 2/2,aM (g 4) 24,f 6/720,aM (g 8) 40320]
def vH(x:Int):Iv:=tX (eF (oG (em x) (en x))) (eF (lK (em x) (en x)))
def Ag(x:Int):Iv:=tX (eF (ss (em x) (en x))) (eF (pH (em x) (en x)))
theorem d7{n:Int}(e:0<=n)(h1:n<=1073741824)(hd:1<=d)(a:d<=4000000):0<=aM n d/\aM n d<=1099511627776:=by
 unfold aM;have b:0<=(n+d-1)/d:=yAK (by omega) (by omega);have c:(n+d-1)/d<=n+d-1:=yBc _ (by omega);omega
theorem FD(hf:∀j,0<=f j/\f j<=1073741824)(j:Nat)(d:Int):(f j).tdiv d=f j/d:=Zc (hf j).1
theorem sx(hf:∀j,0<=f j/\f j<=1073741824)(j:Nat)(hd:0<d):0<=f j/d/\f j/d<=1073741824:=by
 have h:=hf j;have a:0<=f j/d:=yAK (by omega) (by omega);have b:f j/d<=f j:=yBc _ (by omega);omega
theorem FE(hf:∀j,0<=f j/\f j<=1073741824)(j:Nat)(hd:0<d):i64.wrap (f j/d)=f j/d:=by
 have:=sx hf j hd;exact aa (by omega) (by omega)
theorem UV(x:Int)(c:0<=x)(h1:x<=8192):aT 352 (Z x) (aK (vH x)):=by
 have o:=Qy x c h1;have hf:=pE c h1;have a:=pF c h1;show aS _ _ _ _ _ (.pv (aK (tX (eF (oG (em x) (en x))) (eF (lK (em x) (en x))))));generalize em x=f at *;generalize en x=g at *
 have k1:∀y∈oG f g,-1099511627776<=y/\y<=1099511627776:=by
  intro y b;have a1:=hf 1;have a2:=d7 (d:=6) (a 3).1 (a 3).2 (by decide) (by decide);have a3:=sx hf 5 (d:=120) (by decide);have a4:=d7 (d:=5040) (a 7).1 (a 7).2 (by decide) (by decide);simp only[oG,Zi,Zo,ZP]at b;rcases b with rfl|rfl|rfl|rfl<;>omega
 have k2:∀y∈lK f g,-1099511627776<=y/\y<=1099511627776:=by
  intro y b;have a1:=a 1;have a2:=d7 (d:=120) (a 5).1 (a 5).2 (by decide) (by decide);have a3:=sx hf 3 (d:=6) (by decide);have a4:=d7 (d:=362880) (a 9).1 (a 9).2 (by decide) (by decide);have a5:=sx hf 7 (d:=5040) (by decide);simp only[lK,Zi,Zo,ZP]at b;rcases b with rfl|rfl|rfl|rfl|rfl<;>omega
 have b2:=vF k2 5;have b3:-(((5:Nat):Int)*1099511627776)<=eF (lK f g)/\eF (lK f g)<=((5:Nat):Int)*1099511627776:=b2;have l:aS prog 355 [.pv (.sl [Z (f 1),Z (aM (g 3) 6),Z (f 5/120),Z (aM (g 7) 5040)])] [] [] (.pv (Z (eF (oG f g)))):=IX (oG f g) (by simp[oG]) k1;have m:aS prog 355 [.pv (.sl [Z (g 1),Z (f 3/6),Z (aM (g 5) 120),Z (f 7/5040),Z (aM (g 9) 362880)])] [] [] (.pv (Z (eF (lK f g)))):=IX (lK f g) (by simp[lK]) k2;have e:=vG (g 3) 6 (a 3).1 (by have:=a 3;omega) (by decide) (by decide);have j:=vG (g 7) 5040 (a 7).1 (by have:=a 7;omega) (by decide) (by decide);have i:=vG (g 5) 120 (a 5).1 (by have:=a 5;omega) (by decide) (by decide);have k:=vG (g 9) 362880 (a 9).1 (by have:=a 9;omega) (by decide) (by decide);have n:=Qz (eF (oG f g)) (eF (lK f g)) (by omega) (by omega);generalize eF (oG f g)=lo at *;generalize eF (lK f g)=hi at *;have t1:=FD hf 5 120;have t2:=FD hf 3 6;have t3:=FD hf 7 5040;have w1:=FE hf 5 (d:=120) (by decide);have w2:=FE hf 3 (d:=6) (by decide);have p:=FE hf 7 (d:=5040) (by decide);refine Dp func352 λC hP hN=>?_;exact Gy
theorem UW(x:Int)(c:0<=x)(h1:x<=8192):aT 353 (Z x) (aK (Ag x)):=by
 have o:=Qy x c h1;have hf:=pE c h1;have a:=pF c h1;show aS _ _ _ _ _ (.pv (aK (tX (eF (ss (em x) (en x))) (eF (pH (em x) (en x))))));generalize em x=f at *;generalize en x=g at *
 have k1:∀y∈ss f g,-1099511627776<=y/\y<=1099511627776:=by
  intro y b;have a2:=d7 (d:=2) (a 2).1 (a 2).2 (by decide) (by decide);have a3:=sx hf 4 (d:=24) (by decide);have a4:=d7 (d:=720) (a 6).1 (a 6).2 (by decide) (by decide);have a5:=sx hf 8 (d:=40320) (by decide);have a6:=d7 (d:=3628800) (a 10).1 (a 10).2 (by decide) (by decide);simp only[ss,Zi,Zo,ZP]at b;rcases b with rfl|rfl|rfl|rfl|rfl|rfl<;>omega
 have k2:∀y∈pH f g,-1099511627776<=y/\y<=1099511627776:=by
  intro y b;have a2:=d7 (d:=24) (a 4).1 (a 4).2 (by decide) (by decide);have a3:=sx hf 2 (d:=2) (by decide);have a4:=d7 (d:=40320) (a 8).1 (a 8).2 (by decide) (by decide);have a5:=sx hf 6 (d:=720) (by decide);simp only[pH,Zi,Zo,ZP]at b;rcases b with rfl|rfl|rfl|rfl|rfl<;>omega
 have b2:=vF k2 5;have b3:-(((5:Nat):Int)*1099511627776)<=eF (pH f g)/\eF (pH f g)<=((5:Nat):Int)*1099511627776:=b2;have l:aS prog 355 [.pv (.sl [Z 1073741824,Z (aM (g 2) 2),Z (f 4/24),Z (aM (g 6) 720),Z (f 8/40320),Z (aM (g 10) 3628800)])] [] [] (.pv (Z (eF (ss f g)))):=IX (ss f g) (by simp[ss]) k1;have m:aS prog 355 [.pv (.sl [Z 1073741824,Z (f 2/2),Z (aM (g 4) 24),Z (f 6/720),Z (aM (g 8) 40320)])] [] [] (.pv (Z (eF (pH f g)))):=IX (pH f g) (by simp[pH]) k2;have i:=vG (g 2) 2 (a 2).1 (by have:=a 2;omega) (by decide) (by decide);have c6:=vG (g 6) 720 (a 6).1 (by have:=a 6;omega) (by decide) (by decide);have e:=vG (g 10) 3628800 (a 10).1 (by have:=a 10;omega) (by decide) (by decide);have j:=vG (g 4) 24 (a 4).1 (by have:=a 4;omega) (by decide) (by decide);have k:=vG (g 8) 40320 (a 8).1 (by have:=a 8;omega) (by decide) (by decide);have n:=Qz (eF (ss f g)) (eF (pH f g)) (by omega) (by omega);generalize eF (ss f g)=lo at *;generalize eF (pH f g)=hi at *;have t1:=FD hf 4 24;have t2:=FD hf 8 40320;have t3:=FD hf 2 2;have t4:=FD hf 6 720;have w1:=FE hf 4 (d:=24) (by decide);have w2:=FE hf 8 (d:=40320) (by decide);have p:=FE hf 2 (d:=2) (by decide);have q:=FE hf 6 (d:=720) (by decide);refine Dp func353 λC hP hN=>?_;exact Gy
def eo(r:Int):Iv:=if r<=8192 then vH r else Ag (16384-r)
theorem QA(r:Int)(b:0<=r)(h1:r<=16384):aT 350 (Z r) (aK (eo r)):=by
 have w1:i64.wrap (16384-r)=16384-r:=aa;by_cases h:r<=8192
 .have hf:eo r=vH r:=by simp[eo,h]
  have a:=UV r b h;rw[hf];generalize vH r=y at *;refine Dp func350 λC hP hN=>?_;exact Gy
 .have hf:eo r=Ag (16384-r):=by simp[eo,h]
  have a:=UW (16384-r) (by omega) (by omega);rw[hf];generalize Ag (16384-r)=y at *;refine Dp func350 λC hP hN=>?_;exact Gy
theorem Su(a:Int):BY .and .i64 a 65535=a%65536:=by
 unfold BY
 have h1:(BitVec.ofInt 64 a &&& BitVec.ofInt 64 65535).toNat=(a%65536).toNat:=by
  rw[BitVec.toNat_and,BitVec.toNat_ofInt,BitVec.toNat_ofInt]
  have c:((65535:Int)%((2^64:Nat):Int)).toNat=2^16-1:=by decide
  rw[c,Nat.and_two_pow_sub_one_eq_mod];have d:0<=a%((2^64:Nat):Int):=Z1 _ (by decide);have h2:(a%((2^64:Nat):Int))%65536=a%65536:=Int.emod_emod_of_dvd a (by decide);omega
 show i64.wrap ((BitVec.ofInt 64 a &&& BitVec.ofInt 64 65535).toNat:Int)=_;rw[h1,IntKind.wrap_i64];have:=Z1 a (b:=65536) (by decide);have:=Z3 a (b:=65536) (by decide);omega
theorem Ma(a:Int):aT 349 (Z a) (Z (a%65536)):=by
 refine Dp func349 λC hP hN=>?_;exact GS @Su
def qI(m:Int):Iv:=if m/16384=0 then eo (m%16384)else if m/16384=1 then eo (16384-m%16384)else if m/16384=2 then hC (eo (m%16384))else hC (eo (16384-m%16384))
def pI(a:Int):Iv:=qI (a%65536)
theorem QB(a:Int):aT 345 (Z a) (aK (pI a)):=by
 have j:=Ma a;show aS _ _ _ _ _ (.pv (aK (qI (a%65536))));have d:=Z1 a (b:=65536) (by decide);have k:=Z3 a (b:=65536) (by decide);generalize a%65536=m at *;have t1:m.tmod 16384=m%16384:=yA8 d;have t2:m.tdiv 16384=m/16384:=Zc d;have w1:i64.wrap (m/16384)=m/16384:=aa;have w2:i64.wrap (m%16384)=m%16384:=aa;have e:i64.wrap (16384-m%16384)=16384-m%16384:=aa;have g:=QA (m%16384) (by omega) (by omega);have i:=QA (16384-m%16384) (by omega) (by omega)
 have key:m/16384=0\/m/16384=1\/m/16384=2\/m/16384=3:=by omega
 rcases key with c|c|c|c
 .have hf:qI m=eo (m%16384):=by simp[qI,c]
  rw[hf];generalize eo (m%16384)=y at *;refine Dp func345 λC hP hN=>?_;exact Gy
 .have hf:qI m=eo (16384-m%16384):=by simp[qI,c]
  rw[hf];generalize eo (16384-m%16384)=y at *;refine Dp func345 λC hP hN=>?_;exact Gy
 .have hf:qI m=hC (eo (m%16384)):=by simp[qI,c]
  rw[hf];generalize eo (m%16384)=y at *;refine Dp func345 λC hP hN=>?_;have f:=@LU;exact GS (so t1 t2 w1 w2 e c)
 .have hf:qI m=hC (eo (16384-m%16384)):=by simp[qI,c]
  rw[hf];generalize eo (16384-m%16384)=y at *;refine Dp func345 λC hP hN=>?_;have f:=@LU;exact GS (so t1 t2 w1 w2 e c)
def vJ(a:Int):Iv:=pI (a%65536+16384)
theorem UX(a:Int):aT 344 (Z a) (aK (vJ a)):=by
 have c:=Ma a;show aS _ _ _ _ _ (.pv (aK (pI (a%65536+16384))));have e:=Z1 a (b:=65536) (by decide);have f:=Z3 a (b:=65536) (by decide);generalize a%65536=m at *;have w1:i64.wrap (m+16384)=m+16384:=aa;have d:=QB (m+16384);generalize pI (m+16384)=y at *;refine Dp func344 λC hP hN=>?_;exact Gy
def mr(a:Iv)(t:Int):Bool:=aO a.1 a.2&&decide (a.1<=a.1+(t-a.1)%65536)&&decide (a.1+(t-a.1)%65536<=a.2)
theorem QC(t:Int)(h1:-2147483648<=a)(h2:a<=2147483648)(h3:-2147483648<=t)(h4:t<=2147483648):aH 348 (I a b) (Z t) (B (mr (a,b) t)):=by
 have w1:i64.wrap (t-a)=t-a:=aa;have e:=Z1 (t-a) (b:=65536) (by decide);have f:=Z3 (t-a) (b:=65536) (by decide);have w2:i64.wrap (a+(t-a)%65536)=a+(t-a)%65536:=aa;have c:=Ma (t-a);refine Dp func348 λC hP hN=>?_;have d:=@TP;refine GT (gA w1 w2) ?_
 all_goals (try simp[mr])
def iT(a:Iv)(v:Int->Iv)(t b:Int):Iv:=if aO a.1 a.2=false then(0,0)else if 65536<=a.2-a.1 then(-65536,65536)else
 let h:=gj (v a.1) (v a.2)
 let h1:=if mr a t then gj h (qo 65536)else h
 if mr a b then gj h1 (qo (-65536))else h1
theorem QD(f:FuncId)(v:Int->Iv)(t u:Int)(hf:∀x,aS prog f [.pv (Z x)] [] [] (.pv (aK (v x))))(q:-2147483648<=t)(j:t<=2147483648)(r:-2147483648<=u)(k:u<=2147483648):mD 343 (I a b) (Fv f) (Z t) (Z u) (aK (iT (a,b) v t u)):=by
 cases c:aO a b with
 |false=>
  have d:iT (a,b) v t u=(0,0):=by simp[iT,c]
  rw[d];refine Dp func343 λC hP hN=>?_;have l:=@j9;exact GS c
 |true=>
  have s:=dY.1 c;have w1:i64.wrap (b-a)=b-a:=aa;have m:=QC (a:=a) (b:=b) t (by omega) (by omega) q j;have n:=QC (a:=a) (b:=b) u (by omega) (by omega) r k;have z:aS prog 297 [.pv (Z 65536)] [] [] (.pv (I 65536 65536)):=Cp 65536;have A:aS prog 297 [.pv (Z (-65536))] [] [] (.pv (I (-65536) (-65536))):=Cp (-65536);by_cases e:65536<=b-a
  .have d:iT (a,b) v t u=(-65536,65536):=by simp[iT,c,e]
   rw[d];refine Dp func343 λC hP hN=>?_;have l:=@j9;have y:=@EU;exact GS (be c w1 e)
  .have d:iT (a,b) v t u=(let h:=gj (v a) (v b);let h1:=if mr (a,b) t then gj h (65536,65536)else h;if mr (a,b) u then gj h1 (-65536,-65536)else h1):=by
    have o:qo 65536=(65536,65536):=by decide
    have p:qo (-65536)=(-65536,-65536):=by decide
    simp[iT,c,e,o,p]
   rw[d];cases g:mr (a,b) t<;>cases i:mr (a,b) u<;>rw[g]at m<;>rw[i]at n
   all_goals
    refine Dp func343 λC hP hN=>?_;have l:=@j9;have y:=@EU;have B:=@hf;have D:=@IA;exact GS (be c w1 e)
    all_goals (try simp)
def sy(a:Iv):Iv:=iT a pI 16384 49152
def sA(a:Iv):Iv:=iT a vJ 0 32768
theorem UY:aT 339 (I a b) (aK (sy (a,b))):=by
 have c:=QD (a:=a) (b:=b) 345 pI 16384 49152 QB (by decide) (by decide) (by decide) (by decide);refine Dp func339 λC hP hN=>?_;refine Gz ?_
 all_goals exact⟨rfl,rfl⟩
theorem UZ:aT 338 (I a b) (aK (sA (a,b))):=by
 have c:=QD (a:=a) (b:=b) 344 vJ 0 32768 UX (by decide) (by decide) (by decide) (by decide);refine Dp func338 λC hP hN=>?_;refine Gz ?_
 all_goals exact⟨rfl,rfl⟩
abbrev aq:=Iv×Iv×Iv
variable {xs:List aq}
abbrev oH:=aq×aq×aq
abbrev oI:=oH×aq
abbrev V6(x0 x1 x2 x3 x4 x5:Int):PV:=.val (.agg #[.int .i64 x0,.int .i64 x1,.int .i64 x2,.int .i64 x3,.int .i64 x4,.int .i64 x5])
abbrev FF(x0 x1 x2 x3 x4 x5 j k l m a b c d e f g i:Int):PV:=.val (.agg #[.int .i64 x0,.int .i64 x1,.int .i64 x2,.int .i64 x3,.int .i64 x4,.int .i64 x5,.int .i64 j,.int .i64 k,.int .i64 l,.int .i64 m,.int .i64 a,.int .i64 b,.int .i64 c,.int .i64 d,.int .i64 e,.int .i64 f,.int .i64 g,.int .i64 i])
abbrev zy(x0 x1 x2 x3 x4 x5 p q r s a b c d e f g i j k l m n o:Int):PV:=.val (.agg #[.int .i64 x0,.int .i64 x1,.int .i64 x2,.int .i64 x3,.int .i64 x4,.int .i64 x5,.int .i64 p,.int .i64 q,.int .i64 r,.int .i64 s,.int .i64 a,.int .i64 b,.int .i64 c,.int .i64 d,.int .i64 e,.int .i64 f,.int .i64 g,.int .i64 i,.int .i64 j,.int .i64 k,.int .i64 l,.int .i64 m,.int .i64 n,.int .i64 o])
abbrev bh(v:aq):PV:=V6 v.1.1 v.1.2 v.2.1.1 v.2.1.2 v.2.2.1 v.2.2.2
abbrev yJ(m:oH):PV:=FF m.1.1.1 m.1.1.2 m.1.2.1.1 m.1.2.1.2 m.1.2.2.1 m.1.2.2.2 m.2.1.1.1 m.2.1.1.2 m.2.1.2.1.1 m.2.1.2.1.2 m.2.1.2.2.1 m.2.1.2.2.2 m.2.2.1.1 m.2.2.1.2 m.2.2.2.1.1 m.2.2.2.1.2 m.2.2.2.2.1 m.2.2.2.2.2
abbrev bw(p:oI):PV:=zy p.1.1.1.1 p.1.1.1.2 p.1.1.2.1.1 p.1.1.2.1.2 p.1.1.2.2.1 p.1.1.2.2.2 p.1.2.1.1.1 p.1.2.1.1.2 p.1.2.1.2.1.1 p.1.2.1.2.1.2 p.1.2.1.2.2.1 p.1.2.1.2.2.2 p.1.2.2.1.1 p.1.2.2.1.2 p.1.2.2.2.1.1 p.1.2.2.2.1.2 p.1.2.2.2.2.1 p.1.2.2.2.2.2 p.2.1.1 p.2.1.2 p.2.2.1.1 p.2.2.1.2 p.2.2.2.1 p.2.2.2.2
def g3(v:α×α×α):Nat->α
 |0=>v.1
 |1=>v.2.1
 |_=>v.2.2
@[simp] theorem ZL(v:α×α×α):g3 v 0=v.1:=rfl
@[simp] theorem ZM(v:α×α×α):g3 v 1=v.2.1:=rfl
@[simp] theorem ZN(v:α×α×α):g3 v 2=v.2.2:=rfl
def jx(m v:aq):Nat->Iv
 |0=>(0,0)
 |n+1=>ff (jx m v n) (ew (g3 m n) (g3 v n))
def sB(a b:aq):aq:=(ff a.1 b.1,ff a.2.1 b.2.1,ff a.2.2 b.2.2)
def uA(m:oH)(v:aq):aq:=(jx m.1 v 3,jx m.2.1 v 3,jx m.2.2 v 3)
def xz(x:Int):Int:=min (max x (-65536)) 65536
def IY(x:Iv):Iv:=(xz x.1,xz x.2)
def eT(b:oH)(c:Nat):aq:=(g3 b.1 c,g3 b.2.1 c,g3 b.2.2 c)
def uB(a b:oH)(r c:Nat):Iv:=IY (jx (g3 a r) (eT b c) 3)
def Bq(a b:oH):oH:=((uB a b 0 0,uB a b 0 1,uB a b 0 2),(uB a b 1 0,uB a b 1 1,uB a b 1 2),(uB a b 2 0,uB a b 2 1,uB a b 2 2))
def dq(v:Int×Int×Int):aq:=(qo v.1,qo v.2.1,qo v.2.2)
def mt:oH:=(((65536,65536),(0,0),(0,0)),((0,0),(65536,65536),(0,0)),((0,0),(0,0),(65536,65536)))
def aY:aq:=((0,0),(0,0),(0,0))
def eQ(b:Int)(a:Iv):oH:=if aO a.1 a.2 then
 (if b=0 then(((65536,65536),(0,0),(0,0)),((0,0),sA a,hC (sy a)),((0,0),sy a,sA a))
  else if b=1 then((sA a,(0,0),sy a),((0,0),(65536,65536),(0,0)),(hC (sy a),(0,0),sA a))
  else if b=2 then((sA a,hC (sy a),(0,0)),(sy a,sA a,(0,0)),((0,0),(0,0),(65536,65536)))
  else(aY,aY,aY))else(aY,aY,aY)
def dr(v:aq):oI:=(mt,v)
def gE(b:Int)(a:Iv):oI:=(eQ b a,aY)
def oJ(a b:oI):oI:=(Bq a.1 b.1,sB a.2 (uA a.1 b.2))
def ik(p:oI)(v:aq):aq:=sB p.2 (uA p.1 v)
theorem dC(h:i<=3):i=0\/i=1\/i=2\/i=3:=by omega
def pick(b:Bool)(x:Iv):Iv:=if b then x else(0,0)
@[simp] theorem Xq(x:Iv):pick true x=x:=rfl
@[simp] theorem Xr(x:Iv):pick false x=(0,0):=rfl
def c6(v:aq)(i:Nat):List AV:=[.pv (Z (pick (decide (0<i)) (g3 v 0)).1),.pv (Z (pick (decide (0<i)) (g3 v 0)).2),.pv (Z (pick (decide (1<i)) (g3 v 1)).1),.pv (Z (pick (decide (1<i)) (g3 v 1)).2),.pv (Z (pick (decide (2<i)) (g3 v 2)).1),.pv (Z (pick (decide (2<i)) (g3 v 2)).2)]
theorem Mb(x y z:Int):aT 279 (ol x y z) (bh (dq (x,y,z))):=by
 have f:=λa=>Cp a;refine Dp func279 λC hP hN=>?_;refine Gz ?_;refine WP.loopN [] 3 (λi st=>st.t 1=.ptr 1 0/\st.t 2=.ptr 2 0/\st.t 3=.ptr 3 0/\st.t 5=.pv (Z i)/\st.h 1=some (.box [.pv (Z x),.pv (Z y),.pv (Z z)] true false)/\st.h 2=some (.box (c6 (dq (x,y,z)) 0) true false)/\st.h 3=some (.box (c6 (dq (x,y,z)) i) true false)) (by simp[c6]) ?_;rintro i st hi ⟨g1,g2,e,g5,b,c,d⟩;rcases dC hi with rfl|rfl|rfl|rfl
 all_goals (simp[c6,dq,qo]at g5 b c d)
 all_goals
  have g:=@f;exact GS (zAa g1 g2 e g5 b c d @c6.eq_1 @dq.eq_1 @qo.eq_1)
theorem U0:aH 310 (V6 a0 a1 a2 a3 a4 a5) (V6 b0 b1 b2 b3 b4 b5) (bh (sB ((a0,a1),(a2,a3),(a4,a5)) ((b0,b1),(b2,b3),(b4,b5)))):=by
 refine Dp func310 λC hP hN=>?_;refine Gz ?_;refine WP.loopN [] 3 (λi st=>st.t 2=.ptr 2 0/\st.t 3=.ptr 3 0/\st.t 4=.ptr 4 0/\st.t 5=.ptr 5 0/\st.t 7=.pv (Z i)/\st.h 2=some (.box [.pv (Z a0),.pv (Z a1),.pv (Z a2),.pv (Z a3),.pv (Z a4),.pv (Z a5)] true false)/\st.h 3=some (.box [.pv (Z b0),.pv (Z b1),.pv (Z b2),.pv (Z b3),.pv (Z b4),.pv (Z b5)] true false)/\st.h 4=some (.box (c6 aY 0) true false)/\st.h 5=some (.box (c6 (sB ((a0,a1),(a2,a3),(a4,a5)) ((b0,b1),(b2,b3),(b4,b5))) i) true false)) (by simp[c6]) ?_;rintro i st hi ⟨g2,e,g4,g5,f,a,b,c,d⟩;rcases dC hi with rfl|rfl|rfl|rfl
 all_goals (simp[c6,sB]at f a b c d)
 all_goals
  have g:=@Cq;exact GS (zAa g2 e g4 g5 f a b c d (gA @c6.eq_1 @sB.eq_1))
def cI(i:Nat):List AV:=[.pv (Z (if 0<i then 65536 else 0)),.pv (Z (if 0<i then 65536 else 0)),.pv (Z 0),.pv (Z 0),.pv (Z 0),.pv (Z 0),.pv (Z 0),.pv (Z 0),.pv (Z (if 1<i then 65536 else 0)),.pv (Z (if 1<i then 65536 else 0)),.pv (Z 0),.pv (Z 0),.pv (Z 0),.pv (Z 0),.pv (Z 0),.pv (Z 0),.pv (Z (if 2<i then 65536 else 0)),.pv (Z (if 2<i then 65536 else 0))]
theorem U1:BO 296 (yJ mt):=by
 have d:aS prog 297 [.pv (Z 65536)] [] [] (.pv (I 65536 65536)):=Cp 65536;refine Dp func296 λC hP hN=>?_;refine Gz ?_;refine WP.loopN [] 3 (λi st=>st.t 0=.ptr 0 0/\st.t 1=.ptr 1 0/\st.t 3=.pv (Z i)/\st.h 0=some (.box (cI 0) true false)/\st.h 1=some (.box (cI i) true false)) (by simp[cI]) ?_;rintro i st hi ⟨g0,g1,a,b,c⟩;rcases dC hi with rfl|rfl|rfl|rfl
 all_goals (simp[cI]at a b c)
 all_goals
  exact GS (s6 g0 g1 a b c @cI.eq_1 @mt.eq_1)
def sC(m:oH)(v:aq)(i k r:Nat):Iv:=if r<i then jx (g3 m r) v 3 else if r=i then jx (g3 m r) v k else(0,0)
def cA(m:oH)(v:aq)(i k:Nat):List AV:=[.pv (Z (sC m v i k 0).1),.pv (Z (sC m v i k 0).2),.pv (Z (sC m v i k 1).1),.pv (Z (sC m v i k 1).2),.pv (Z (sC m v i k 2).1),.pv (Z (sC m v i k 2).2)]
theorem U2:aH 311 (FF a0 a1 a2 a3 a4 a5 a6 a7 a8 a9 a10 a11 a12 a13 a14 a15 a16 a17) (V6 v0 v1 v2 v3 v4 v5) (bh (uA (((a0,a1),(a2,a3),(a4,a5)),((a6,a7),(a8,a9),(a10,a11)),((a12,a13),(a14,a15),(a16,a17))) ((v0,v1),(v2,v3),(v4,v5)))):=by
 obtain⟨A,o⟩:∃A:oH,A=(((a0,a1),(a2,a3),(a4,a5)),((a6,a7),(a8,a9),(a10,a11)),((a12,a13),(a14,a15),(a16,a17))):=⟨_,rfl⟩;obtain⟨D,p⟩:∃D:aq,D=((v0,v1),(v2,v3),(v4,v5)):=⟨_,rfl⟩;obtain⟨q,e⟩:∃l:List AV,l=[a0,a1,a2,a3,a4,a5,a6,a7,a8,a9,a10,a11,a12,a13,a14,a15,a16,a17].map λx=>.pv (Z x):=⟨_,rfl⟩;simp only[Z0,yA6]at e;rw[<-o,<-p];refine Dp func311 λC hP hN=>?_
 with_reducible repeat' (first|refine Sp.h ?_|((first|refine Wd ?_|refine Ss.h ?_|(refine Sb.h ?_ ?_ ?_<;>(try intro hgd)<;>try exact Xy))<;>simp -implicitDefEqProofs (maxSteps:=2000000) [hP,hN,e]<;>try refine Ya ?_)|refine X2 ?_ ?_|(refine Xd ?_ ?_<;>intro hcd<;>try exact Xx))
 refine WP.loopN [] 3 (λi st=>st.t 2=.ptr 2 0/\st.t 3=.ptr 3 0/\st.t 4=.ptr 4 0/\st.t 5=.ptr 5 0/\st.h 2=some (.box q true false)/\st.h 3=some (.box [.pv (Z v0),.pv (Z v1),.pv (Z v2),.pv (Z v3),.pv (Z v4),.pv (Z v5)] true false)/\st.h 4=some (.box (cA A D 0 0) true false)/\st.t 8=.pv (Z i)/\st.h 5=some (.box (cA A D i 0) true false)) (by simp[cA,sC,jx,e]) ?_;rintro i st hi ⟨g2,f,g4,g5,a,g,b,m,c⟩;rw[e]at a;by_cases h3:i=3
 .simp[cA,sC,h3]at m b c
  with_reducible repeat' (first|refine Sp.h ?_|((first|refine Wd ?_|refine Ss.h ?_|(refine Sb.h ?_ ?_ ?_<;>(try intro hgd)<;>try exact Xy))<;>simp -implicitDefEqProofs (maxSteps:=2000000) [hP,hN,g2,f,g4,g5,m,a,g,b,c,uA,h3]<;>try refine Ya ?_)|refine X2 ?_ ?_|(refine Xd ?_ ?_<;>intro hcd<;>try exact Xx))
 have d:i=0\/i=1\/i=2:=by omega
 rcases d with d|d|d
 all_goals
  with_reducible repeat' (first|refine Sp.h ?_|((first|refine Wd ?_|refine Ss.h ?_|(refine Sb.h ?_ ?_ ?_<;>(try intro hgd)<;>try exact Xy))<;>simp -implicitDefEqProofs (maxSteps:=2000000) [hP,hN,g2,f,g4,g5,m,a,g,b,c,d]<;>try refine Ya ?_)|refine X2 ?_ ?_|(refine Xd ?_ ?_<;>intro hcd<;>try exact Xx))
  refine WP.loopN [] 3 (λk st=>st.t 2=.ptr 2 0/\st.t 3=.ptr 3 0/\st.t 4=.ptr 4 0/\st.t 5=.ptr 5 0/\st.h 2=some (.box q true false)/\st.h 3=some (.box [.pv (Z v0),.pv (Z v1),.pv (Z v2),.pv (Z v3),.pv (Z v4),.pv (Z v5)] true false)/\st.h 4=some (.box (cA A D 0 0) true false)/\st.t 8=.pv (Z i)/\st.t 6=.pv (Z i)/\st.t 11=.pv (Z k)/\st.h 5=some (.box (cA A D i k) true false)) (by simp[cA,sC,jx,e,g2,f,g4,g5,m,a,g,b,c,d]) ?_;clear g2 f g4 g5 m a g b c;rintro k st s ⟨g2,f,g4,g5,a,g,b,m,r,n,c⟩;rw[e]at a;rcases dC s with j|j|j|j
  all_goals
   simp[cA,sC,jx,o,p,d,j]at n b c
   with_reducible repeat' (first|refine Sp.h ?_|((first|refine Wd ?_|refine Ss.h ?_|refine Sc.h (Qn) ?_|refine Sc.h (Cq) ?_|(refine Sb.h ?_ ?_ ?_<;>(try intro hgd)<;>try exact Xy))<;>simp -implicitDefEqProofs (maxSteps:=2000000) [hP,hN,g2,f,g4,g5,r,m,n,a,g,b,c,e,cA,sC,jx,o,p,d,j]<;>try refine Ya ?_)|refine X2 ?_ ?_|(refine Xd ?_ ?_<;>intro hcd<;>try exact Xx))
theorem U3(x:Int):aT 314 (Z x) (Z (xz x)):=by
 refine Dp func314 λC hP hN=>?_
 with_reducible repeat' (first|refine Sp.h ?_|((first|refine Ss.h ?_|(refine Sb.h ?_ ?_ ?_<;>(try intro hgd)<;>try exact Xy))<;>simp -implicitDefEqProofs (maxSteps:=2000000) [hP,hN])|refine X2 ?_ ?_|(refine Xd ?_ ?_<;>intro hcd<;>try exact Xx))
 all_goals (try simp[xz])
def iD(a b:oH)(i k r c:Nat):Iv:=if r<i\/(r=i/\c<k)then uB a b r c else(0,0)
def cC(a b:oH)(i k:Nat):List AV:=[.pv (Z (iD a b i k 0 0).1),.pv (Z (iD a b i k 0 0).2),.pv (Z (iD a b i k 0 1).1),.pv (Z (iD a b i k 0 1).2),.pv (Z (iD a b i k 0 2).1),.pv (Z (iD a b i k 0 2).2),.pv (Z (iD a b i k 1 0).1),.pv (Z (iD a b i k 1 0).2),.pv (Z (iD a b i k 1 1).1),.pv (Z (iD a b i k 1 1).2),.pv (Z (iD a b i k 1 2).1),.pv (Z (iD a b i k 1 2).2),.pv (Z (iD a b i k 2 0).1),.pv (Z (iD a b i k 2 0).2),.pv (Z (iD a b i k 2 1).1),.pv (Z (iD a b i k 2 1).2),.pv (Z (iD a b i k 2 2).1),.pv (Z (iD a b i k 2 2).2)]
def tu(a b:List AV)(A B:oH)(st:St):Prop:=st.t 2=.ptr 2 0/\st.t 3=.ptr 3 0/\st.t 4=.ptr 4 0/\st.t 5=.ptr 5 0/\st.h 2=some (.box a true false)/\st.h 3=some (.box b true false)/\st.h 4=some (.box (cC A B 0 0) true false)
theorem U4{b6 L M N z D E F G H I J:Int}:aH 295 (FF a0 a1 a2 a3 a4 a5 a6 a7 a8 a9 a10 a11 a12 a13 a14 a15 a16 a17) (FF b0 b1 b2 b3 b4 b5 b6 L M N z D E F G H I J) (yJ (Bq (((a0,a1),(a2,a3),(a4,a5)),((a6,a7),(a8,a9),(a10,a11)),((a12,a13),(a14,a15),(a16,a17))) (((b0,b1),(b2,b3),(b4,b5)),((b6,L),(M,N),(z,D)),((E,F),(G,H),(I,J))))):=by
 obtain⟨A,S⟩:∃A:oH,A=(((a0,a1),(a2,a3),(a4,a5)),((a6,a7),(a8,a9),(a10,a11)),((a12,a13),(a14,a15),(a16,a17))):=⟨_,rfl⟩;obtain⟨B,T⟩:∃B:oH,B=(((b0,b1),(b2,b3),(b4,b5)),((b6,L),(M,N),(z,D)),((E,F),(G,H),(I,J))):=⟨_,rfl⟩;rw[<-S,<-T];obtain⟨P,p⟩:∃l:List AV,l=[a0,a1,a2,a3,a4,a5,a6,a7,a8,a9,a10,a11,a12,a13,a14,a15,a16,a17].map λx=>.pv (Z x):=⟨_,rfl⟩;obtain⟨lb,q⟩:∃l:List AV,l=[b0,b1,b2,b3,b4,b5,b6,L,M,N,z,D,E,F,G,H,I,J].map λx=>.pv (Z x):=⟨_,rfl⟩;simp only[Z0,yA6]at p q;have W:∀i k,IY (jx (g3 A i) (eT B k) 3)=uB A B i k:=λ_ _=>rfl;have d1:∀m v n,jx m v (n+1)=ff (jx m v n) (ew (g3 m n) (g3 v n)):=λ_ _ _=>rfl
 have V:g3 (g3 A 0) 0=(a0,a1)/\g3 (g3 A 0) 1=(a2,a3)/\g3 (g3 A 0) 2=(a4,a5)/\g3 (g3 A 1) 0=(a6,a7)/\g3 (g3 A 1) 1=(a8,a9)/\g3 (g3 A 1) 2=(a10,a11)/\g3 (g3 A 2) 0=(a12,a13)/\g3 (g3 A 2) 1=(a14,a15)/\g3 (g3 A 2) 2=(a16,a17)/\g3 (eT B 0) 0=(b0,b1)/\g3 (eT B 1) 0=(b2,b3)/\g3 (eT B 2) 0=(b4,b5)/\g3 (eT B 0) 1=(b6,L)/\g3 (eT B 1) 1=(M,N)/\g3 (eT B 2) 1=(z,D)/\g3 (eT B 0) 2=(E,F)/\g3 (eT B 1) 2=(G,H)/\g3 (eT B 2) 2=(I,J):=by
  rw[S,T]
  repeat' (first|rfl|constructor)
 refine Dp func295 λC hP hN=>?_
 with_reducible repeat' (first|refine Sp.h ?_|((first|refine Wd ?_|refine Ss.h ?_|(refine Sb.h ?_ ?_ ?_<;>(try intro hgd)<;>try exact Xy))<;>simp -implicitDefEqProofs (maxSteps:=2000000) [hP,hN,p,q]<;>try refine Ya ?_)|refine X2 ?_ ?_|(refine Xd ?_ ?_<;>intro hcd<;>try exact Xx))
 refine WP.loopN [8] 3 (λi st=>tu P lb A B st/\st.t 10=.pv (Z i)/\st.h 5=some (.box (cC A B i 0) true false)/\st.h 8=none) (by simp[tu,cC,iD,p,q]) ?_;rintro i st hi ⟨⟨g2,o,g4,g5,a,b,c⟩,g,d,r⟩;rw[p]at a;rw[q]at b;by_cases h3:i=3
 .simp[cC,iD,h3]at g c d
  with_reducible repeat' (first|refine Sp.h ?_|((first|refine Wd ?_|refine Ss.h ?_|(refine Sb.h ?_ ?_ ?_<;>(try intro hgd)<;>try exact Xy))<;>simp -implicitDefEqProofs (maxSteps:=2000000) [hP,hN,g2,o,g4,g5,g,a,b,c,d,r,Bq,h3]<;>try refine Ya ?_)|refine X2 ?_ ?_|(refine Xd ?_ ?_<;>intro hcd<;>try exact Xx))
 have f:i=0\/i=1\/i=2:=by omega
 rcases f with f|f|f
 all_goals
  with_reducible repeat' (first|refine Sp.h ?_|((first|refine Wd ?_|refine Ss.h ?_|(refine Sb.h ?_ ?_ ?_<;>(try intro hgd)<;>try exact Xy))<;>simp -implicitDefEqProofs (maxSteps:=2000000) [hP,hN,g2,o,g4,g5,g,a,b,c,d,r,f]<;>try refine Ya ?_)|refine X2 ?_ ?_|(refine Xd ?_ ?_<;>intro hcd<;>try exact Xx))
  refine WP.loopN [8] 3 (λk st=>tu P lb A B st/\st.t 10=.pv (Z i)/\st.t 6=.pv (Z i)/\st.t 13=.pv (Z k)/\st.h 5=some (.box (cC A B i k) true false)/\st.h 8=none) (by simp[tu,cC,iD,p,q,g2,o,g4,g5,g,a,b,c,d,f]) ?_;clear g2 o g4 g5 g a b c d r;rintro k st hk ⟨⟨g2,o,g4,g5,a,b,c⟩,g,K,u,d,r⟩;rw[p]at a;rw[q]at b;by_cases k3:k=3
  .simp[cC,iD,f,k3]at u c d
   with_reducible repeat' (first|refine Sp.h ?_|((first|refine Wd ?_|refine Ss.h ?_|(refine Sb.h ?_ ?_ ?_<;>(try intro hgd)<;>try exact Xy))<;>simp -implicitDefEqProofs (maxSteps:=2000000) [hP,hN,g2,o,g4,g5,K,g,u,a,b,c,d,r,tu,p,q,cC,iD,f,k3]<;>try refine Ya ?_)|refine X2 ?_ ?_|(refine Xd ?_ ?_<;>intro hcd<;>try exact Xx))
  have s:k=0\/k=1\/k=2:=by omega
  rcases s with s|s|s
  all_goals
   with_reducible repeat' (first|refine Sp.h ?_|((first|refine Wd ?_|refine Ss.h ?_|(refine Sb.h ?_ ?_ ?_<;>(try intro hgd)<;>try exact Xy))<;>simp -implicitDefEqProofs (maxSteps:=2000000) [hP,hN,g2,o,g4,g5,K,g,u,a,b,c,d,r,f,s]<;>try refine Ya ?_)|refine X2 ?_ ?_|(refine Xd ?_ ?_<;>intro hcd<;>try exact Xx))
   refine WP.loopN [] 3 (λj st=>tu P lb A B st/\st.t 10=.pv (Z i)/\st.t 6=.pv (Z i)/\st.t 13=.pv (Z k)/\st.t 7=.pv (Z k)/\st.t 16=.pv (Z j)/\st.h 5=some (.box (cC A B i k) true false)/\st.t 8=.ptr 8 0/\st.h 8=some (.box [.pv (Z (jx (g3 A i) (eT B k) j).1),.pv (Z (jx (g3 A i) (eT B k) j).2)] true false)) (by simp[tu,cC,iD,jx,p,q,g2,o,g4,g5,K,g,u,a,b,c,d,f,s]) ?_;clear g2 o g4 g5 K g u a b c d r;rintro j st Y ⟨⟨g2,o,g4,g5,a,b,c⟩,g,K,u,Q,O,d,R,r⟩;rw[p]at a;rw[q]at b;by_cases X:j=3
   .subst X
    have e:=W i k;generalize jx (g3 A i) (eT B k) 3=U at *;simp[cC,iD,f,s]at c d e
    with_reducible repeat' (first|refine Sp.h ?_|((first|refine Wd ?_|refine Ss.h ?_|refine Sc.h (U3 _) ?_|(refine Sb.h ?_ ?_ ?_<;>(try intro hgd)<;>try exact Xy))<;>simp -implicitDefEqProofs (maxSteps:=2000000) [hP,hN,g2,o,g4,g5,K,Q,R,g,u,O,a,b,c,d,r,tu,p,q,cC,iD,<-e,IY,f,s]<;>try refine Ya ?_)|refine X2 ?_ ?_|(refine Xd ?_ ?_<;>intro hcd<;>try exact Xx))
   have y:j=0\/j=1\/j=2:=by omega
   have e:=d1 (g3 A i) (eT B k) j;generalize jx (g3 A i) (eT B k) (j+1)=nx at *;generalize jx (g3 A i) (eT B k) j=U at *;rcases y with y|y|y
   all_goals
    simp only[f,s,y,V]at e
    with_reducible repeat' (first|refine Sp.h ?_|((first|refine Wd ?_|refine Ss.h ?_|refine Sc.h (Qn) ?_|refine Sc.h (Cq) ?_|(refine Sb.h ?_ ?_ ?_<;>(try intro hgd)<;>try exact Xy))<;>simp -implicitDefEqProofs (maxSteps:=2000000) [hP,hN,g2,o,g4,g5,K,Q,R,g,u,O,a,b,c,d,r,e,f,s,y,tu,p,q,cC,iD]<;>try refine Ya ?_)|refine X2 ?_ ?_|(refine Xd ?_ ?_<;>intro hcd<;>try exact Xx))
@[simp] theorem YO:i64.wrap 0=0:=by decide
theorem U5(x:Int):aH 335 (Z x) (I a b) (yJ (eQ x (a,b))):=by
 have l:aS prog 297 [.pv (Z 65536)] [] [] (.pv (I 65536 65536)):=Cp 65536;have m:aS prog 297 [.pv (Z 0)] [] [] (.pv (I 0 0)):=Cp 0
 cases c:aO a b with
 |false=>
  have d:eQ x (a,b)=(aY,aY,aY):=by simp[eQ,c]
  rw[d];refine Dp func335 λC hP hN=>?_
  with_reducible repeat' (first|refine Sp.h ?_|((first|refine Ss.h ?_|refine Sc.h (j9 _ _) ?_)<;>simp -implicitDefEqProofs [hP,hN,c,aY]))
 |true=>
  have k:=UY (a:=a) (b:=b);have i:=UZ (a:=a) (b:=b);generalize hS:sy (a,b)=S at *;generalize e:sA (a,b)=Q at *;have j:=LU (a:=S.1) (b:=S.2);by_cases f:x=0
  .have d:eQ x (a,b)=(((65536,65536),(0,0),(0,0)),((0,0),Q,hC S),((0,0),S,Q)):=by simp[eQ,c,f,hS,e]
   rw[d];subst f;refine Dp func335 λC hP hN=>?_;have g:=@j9;exact GS c
  by_cases h1:x=1
  .have d:eQ x (a,b)=((Q,(0,0),S),((0,0),(65536,65536),(0,0)),(hC S,(0,0),Q)):=by simp[eQ,c,h1,hS,e]
   rw[d];subst h1;refine Dp func335 λC hP hN=>?_;have g:=@j9;exact GS c
  by_cases h2:x=2
  .have d:eQ x (a,b)=((Q,hC S,(0,0)),(S,Q,(0,0)),((0,0),(0,0),(65536,65536))):=by simp[eQ,c,h2,hS,e]
   rw[d];subst h2;refine Dp func335 λC hP hN=>?_;have g:=@j9;exact GS c
  .have d:eQ x (a,b)=(aY,aY,aY):=by simp[eQ,c,f,h1,h2]
   rw[d];refine Dp func335 λC hP hN=>?_
   with_reducible repeat' (first|refine Sp.h ?_|((first|refine Wd ?_|refine Ss.h ?_|refine Sc.h (j9 _ _) ?_|refine Sc.h (k) ?_|refine Sc.h (i) ?_|refine Sc.h (j) ?_|refine Sc.h (l) ?_|refine Sc.h (m) ?_|(refine Sb.h ?_ ?_ ?_<;>(try intro hgd)<;>try exact Xy))<;>simp -implicitDefEqProofs [hP,hN,c,f,h1,h2,aY]<;>try refine Ya ?_)|refine X2 ?_ ?_|(refine Xd ?_ ?_<;>intro hcd<;>try exact Xx))
theorem QE:BO 276 (bh aY):=by
 have a:aS prog 279 [.pv (ol 0 0 0)] [] [] (.pv (bh aY)):=Mb 0 0 0;refine Dp func276 λC hP hN=>?_;exact Gy
theorem FG:aT 275 (V6 v0 v1 v2 v3 v4 v5) (bw (dr ((v0,v1),(v2,v3),(v4,v5)))):=by
 refine Dp func275 λC hP hN=>?_;have a:=@U1;refine GT trivial ?_
 all_goals (try simp[dr])
def gm:oI:=(mt,aY)
theorem Mc:BO 237 (bw gm):=by
 have a:aS prog 275 [.pv (bh aY)] [] [] (.pv (bw gm)):=FG;refine Dp func237 λC hP hN=>?_;have b:=@QE;exact GS trivial
theorem U7(x:Int):aH 322 (Z x) (I a b) (bw (gE x (a,b))):=by
 have d:=U5 (a:=a) (b:=b) x;have c:gE x (a,b)=(eQ x (a,b),aY):=rfl;rw[c];generalize eQ x (a,b)=m at *;refine Dp func322 λC hP hN=>?_;have e:=@QE;exact GS trivial
abbrev U8(p:PV):PV:=.fn (.func 309) [] [.rptr p 0]
theorem QF:aT 294 (zy a0 a1 a2 a3 a4 a5 a6 a7 a8 a9 a10 a11 a12 a13 a14 a15 a16 a17 a18 a19 a20 a21 a22 a23) (U8 (zy a0 a1 a2 a3 a4 a5 a6 a7 a8 a9 a10 a11 a12 a13 a14 a15 a16 a17 a18 a19 a20 a21 a22 a23)):=by
 refine Dp func294 λC hP hN=>?_;exact Gy
theorem QG:aH 309 (V6 v0 v1 v2 v3 v4 v5) (.rptr (zy a0 a1 a2 a3 a4 a5 a6 a7 a8 a9 a10 a11 a12 a13 a14 a15 a16 a17 a18 a19 a20 a21 a22 a23) 0) (bh (ik ((((a0,a1),(a2,a3),(a4,a5)),((a6,a7),(a8,a9),(a10,a11)),((a12,a13),(a14,a15),(a16,a17))),((a18,a19),(a20,a21),(a22,a23))) ((v0,v1),(v2,v3),(v4,v5)))):=by
 refine Dp func309 λC hP hN=>?_;have a:=@U2;have b:=@U0;refine GT trivial ?_
 all_goals (try simp[ik])
theorem U9:aH 278 (zy a0 a1 a2 a3 a4 a5 a6 a7 a8 a9 a10 a11 a12 a13 a14 a15 a16 a17 a18 a19 a20 a21 a22 a23) (V6 v0 v1 v2 v3 v4 v5) (bh (ik ((((a0,a1),(a2,a3),(a4,a5)),((a6,a7),(a8,a9),(a10,a11)),((a12,a13),(a14,a15),(a16,a17))),((a18,a19),(a20,a21),(a22,a23))) ((v0,v1),(v2,v3),(v4,v5)))):=by
 refine Dp func278 λC hP hN=>?_;have a:=@QF;have b:=@QG;exact GS trivial
theorem xA{b6 p q r a b c d e f g i j k l m n o:Int}:aH 274 (zy a0 a1 a2 a3 a4 a5 a6 a7 a8 a9 a10 a11 a12 a13 a14 a15 a16 a17 a18 a19 a20 a21 a22 a23) (zy b0 b1 b2 b3 b4 b5 b6 p q r a b c d e f g i j k l m n o) (bw (oJ ((((a0,a1),(a2,a3),(a4,a5)),((a6,a7),(a8,a9),(a10,a11)),((a12,a13),(a14,a15),(a16,a17))),((a18,a19),(a20,a21),(a22,a23))) ((((b0,b1),(b2,b3),(b4,b5)),((b6,p),(q,r),(a,b)),((c,d),(e,f),(g,i))),((j,k),(l,m),(n,o))))):=by
 refine Dp func274 λC hP hN=>?_;have s:=@QF;have u:=@QG;have v:=@U4;refine GT trivial ?_
 all_goals (try simp[oJ,ik])
theorem Md(x:Int):aH 306 (Z x) (I a b) (bw (gE x (a,b))):=by
 have c:=U7 (a:=a) (b:=b) x;generalize gE x (a,b)=m at *;refine Dp func306 λC hP hN=>?_;exact Gy
theorem Va(x:Int):aH 308 (Z x) (I a b) (bw gm):=by
 refine Dp func308 λC hP hN=>?_;have c:=@Mc;exact GS trivial
theorem Vb:aH 307 (Z 0) (I a b) (bw (dr ((a,b),(0,0),(0,0)))):=by
 have c:=FG (v0:=((a,b),(0,0),(0,0)).1.1) (v1:=((a,b),(0,0),(0,0)).1.2) (v2:=((a,b),(0,0),(0,0)).2.1.1) (v3:=((a,b),(0,0),(0,0)).2.1.2) (v4:=((a,b),(0,0),(0,0)).2.2.1) (v5:=((a,b),(0,0),(0,0)).2.2.2);refine Dp func307 λC hP hN=>?_;exact Gy
theorem Ve:aH 307 (Z 1) (I a b) (bw (dr ((0,0),(a,b),(0,0)))):=by
 have c:=FG (v0:=((0,0),(a,b),(0,0)).1.1) (v1:=((0,0),(a,b),(0,0)).1.2) (v2:=((0,0),(a,b),(0,0)).2.1.1) (v3:=((0,0),(a,b),(0,0)).2.1.2) (v4:=((0,0),(a,b),(0,0)).2.2.1) (v5:=((0,0),(a,b),(0,0)).2.2.2);refine Dp func307 λC hP hN=>?_;exact Gy
theorem Vf:aH 307 (Z 2) (I a b) (bw (dr ((0,0),(0,0),(a,b)))):=by
 have c:=FG (v0:=((0,0),(0,0),(a,b)).1.1) (v1:=((0,0),(0,0),(a,b)).1.2) (v2:=((0,0),(0,0),(a,b)).2.1.1) (v3:=((0,0),(0,0),(a,b)).2.1.2) (v4:=((0,0),(0,0),(a,b)).2.2.1) (v5:=((0,0),(0,0),(a,b)).2.2.2);refine Dp func307 λC hP hN=>?_;exact Gy
abbrev FH(f:FuncId)(k:Int):Value:=.func (.func f) #[.int .i64 k] #[]
@[simp] theorem Vg:ly prog 359 0=some (false,0,1):=by kernel_rfl
theorem Vh:aT 293 (Z 0) (.val (.agg #[FH 308 0])):=by
 refine Dp func293 λC hP hN=>?_;exact Gy
theorem Vi:aT 293 (Z 1) (.val (.agg #[FH 306 0])):=by
 refine Dp func293 λC hP hN=>?_;exact Gy
theorem Vj:aT 293 (Z 2) (.val (.agg #[FH 306 1])):=by
 refine Dp func293 λC hP hN=>?_;exact Gy
theorem Vk:aT 293 (Z 3) (.val (.agg #[FH 306 2])):=by
 refine Dp func293 λC hP hN=>?_;exact Gy
theorem Vl:aT 293 (Z 4) (.val (.agg #[FH 307 0])):=by
 refine Dp func293 λC hP hN=>?_;exact Gy
theorem Vm:aT 293 (Z 5) (.val (.agg #[FH 307 1])):=by
 refine Dp func293 λC hP hN=>?_;exact Gy
theorem Vn:aT 293 (Z 6) (.val (.agg #[FH 307 2])):=by
 refine Dp func293 λC hP hN=>?_;exact Gy
def fp(k:Int)(v:Iv):oI:=if k=1 then gE 0 v else if k=2 then gE 1 v else if k=3 then gE 2 v else if k=4 then dr (v,(0,0),(0,0))else if k=5 then dr ((0,0),v,(0,0))else if k=6 then dr ((0,0),(0,0),v)else gm
def mw(j:J)(v:Iv):oI:=oJ (dr (dq (j.ox,j.oy,j.oz))) (fp j.kind v)
theorem Vo(j:J)(m:0<=j.kind)(h6:j.kind<=6):aH 273 (aQ j) (I a b) (bw (mw j (a,b))):=by
 have l:=Mb j.ox j.oy j.oz;have k:mw j (a,b)=oJ (dr (dq (j.ox,j.oy,j.oz))) (fp j.kind (a,b)):=rfl;rw[k];generalize dq (j.ox,j.oy,j.oz)=pv at *;have i:=FG (v0:=pv.1.1) (v1:=pv.1.2) (v2:=pv.2.1.1) (v3:=pv.2.1.2) (v4:=pv.2.2.1) (v5:=pv.2.2.2);have i:aS prog 275 [.pv (bh pv)] [] [] (.pv (bw (dr pv))):=i;generalize dr pv=sp at *
 have key:j.kind=0\/j.kind=1\/j.kind=2\/j.kind=3\/j.kind=4\/j.kind=5\/j.kind=6:=by omega
 rcases key with c|c|c|c|c|c|c
 .have d:fp j.kind (a,b)=gm:=by simp[fp,c]
  have e:=Va (a:=a) (b:=b) 0;have f:=Vh;rw[d];generalize gm=mp at *;refine Dp func273 λC hP hN=>?_;have g:=@xA;exact GS c
 .have d:fp j.kind (a,b)=gE 0 (a,b):=by simp[fp,c]
  have e:=Md (a:=a) (b:=b) 0;have f:=Vi;rw[d];generalize gE 0 (a,b)=mp at *;refine Dp func273 λC hP hN=>?_;have g:=@xA;exact GS c
 .have d:fp j.kind (a,b)=gE 1 (a,b):=by simp[fp,c]
  have e:=Md (a:=a) (b:=b) 1;have f:=Vj;rw[d];generalize gE 1 (a,b)=mp at *;refine Dp func273 λC hP hN=>?_;have g:=@xA;exact GS c
 .have d:fp j.kind (a,b)=gE 2 (a,b):=by simp[fp,c]
  have e:=Md (a:=a) (b:=b) 2;have f:=Vk;rw[d];generalize gE 2 (a,b)=mp at *;refine Dp func273 λC hP hN=>?_;have g:=@xA;exact GS c
 .have d:fp j.kind (a,b)=dr ((a,b),(0,0),(0,0)):=by simp[fp,c]
  have e:=Vb (a:=a) (b:=b);have f:=Vl;rw[d];generalize dr ((a,b),(0,0),(0,0))=mp at *;refine Dp func273 λC hP hN=>?_;have g:=@xA;exact GS c
 .have d:fp j.kind (a,b)=dr ((0,0),(a,b),(0,0)):=by simp[fp,c]
  have e:=Ve (a:=a) (b:=b);have f:=Vm;rw[d];generalize dr ((0,0),(a,b),(0,0))=mp at *;refine Dp func273 λC hP hN=>?_;have g:=@xA;exact GS c
 .have d:fp j.kind (a,b)=dr ((0,0),(0,0),(a,b)):=by simp[fp,c]
  have e:=Vf (a:=a) (b:=b);have f:=Vn;rw[d];generalize dr ((0,0),(0,0),(a,b))=mp at *;refine Dp func273 λC hP hN=>?_;have g:=@xA;exact GS c
abbrev Vc:=Int×Int×Int
structure Sh where
 link:Int
 rad:Int
 pts:List Vc
structure Sce where
 js:List J
 ms:List Ms
 shs:List Sh
 sks:List (Int×Int)
abbrev ba(s:Sh):PV:=.agg [Z s.link,Z s.rad,aB s.pts]
abbrev aW(s:Sce):PV:=.agg [.sl (s.js.map aQ),.sl (s.ms.map bb),.sl (s.shs.map ba),.sl (s.sks.map aK)]
def ax(m:Int)(v:Vc):Bool:=fv v.1 m&&fv v.2.1 m&&fv v.2.2 m
theorem br{m:Int}{v:Vc}:ax m v=true↔fv v.1 m=true/\fv v.2.1 m=true/\fv v.2.2 m=true:=by
 simp only[ax,up];constructor
 .rintro⟨⟨a,b⟩,c⟩;exact⟨a,b,c⟩
 .rintro⟨a,b,c⟩;exact⟨⟨a,b⟩,c⟩
theorem aU{x m:Int}:fv x m=true↔¬x< -m/\¬m<x:=by
 simp only[fv,up,Is];omega
theorem pJ{xs:List α}(hq:∀k x,k<i->xs[k]?=some x->p x=true)(h:¬i<xs.length):xs.all p=true:=by
 rw[L4];intro x b;obtain⟨k,a⟩:=Zq b;exact hq k x (by have:=(th.1 a).1;omega) a
theorem mZ{xs:List α}{v:α}(b:xs[i]?=some v)(hq:∀k x,k<i->xs[k]?=some x->p x=true)(hp:p v=true):∀k x,k<i+1->xs[k]?=some x->p x=true:=by
 intro k x c a;by_cases e:k=i
 .subst e;rw[b]at a;injection a with a;subst a;exact hp
 .exact hq k x (by omega) a
def fO(s:Sh):Bool:=decide (1<=s.rad)&&decide (s.rad<=1048576)&&decide (1<=s.pts.length)&&decide (s.pts.length<=8)&&s.pts.all (ax 4194304)
theorem Vp(s:Sh)(Q:s.pts.length<=9223372036854775807):aT 277 (ba s) (B (fO s)):=by
 by_cases P:s.rad<1\/1048576<s.rad\/s.pts.length<1\/8<s.pts.length
 .have hf:fO s=false:=by
   cases hb:fO s with
   |false=>rfl
   |true=>
    exfalso;unfold fO at hb;simp only[up,Is]at hb;obtain⟨⟨⟨⟨b1,b2⟩,b3⟩,b4⟩,_⟩:=hb;omega
  rw[hf]
  have r:s.rad<1\/1048576<s.rad\/(s.pts.length:Int)<1\/(8:Int)<s.pts.length:=by omega
  rcases r with h|h|h|h
  all_goals
   refine Dp func277 λC hP hN=>?_;exact Gy
 have h1:¬s.rad<1:=by omega
 have h2:¬1048576<s.rad:=by omega
 have h3:¬(s.pts.length:Int)<1:=by omega
 have h4:¬(8:Int)<s.pts.length:=by omega
 have L:¬s.pts.length<1:=by omega
 have M:¬8<s.pts.length:=by omega
 have hf:fO s=s.pts.all (ax 4194304):=by
  have H:decide (1<=s.rad)=true:=by simp;omega
  have I:decide (s.rad<=1048576)=true:=by simp;omega
  have J:decide (1<=s.pts.length)=true:=by simp;omega
  have K:decide (s.pts.length<=8)=true:=by simp;omega
  simp only[fO,H,I,J,K,Zf]
 rw[hf];refine Dp func277 λC hP hN=>?_
 cases e:s.pts.all (ax 4194304)with
 |true=>
  refine Gz ?_;refine WP.loopN [4] s.pts.length (λi st=>True/\st.t 28=.pv (aB s.pts)/\st.t 29=.pv (Z s.pts.length)/\st.t 30=.pv (Z i)/\st.h 4=none) (by simp) ?_;rintro i st hi ⟨g1,g,j,f,l⟩;by_cases d:i<s.pts.length
  .have q:=ae d (by omega)
   have N:=br.1 (L4.1 e _ (Zd d));obtain⟨z,A,D⟩:=N;rw[aU]at z A D;generalize m:s.pts[i]=v at *
   have F:s.pts[i]?=some v:=by rw[an d,m]
   refine Gz ?_;refine WP.loopN [] 3 (λk st=>True/\st.t 28=.pv (aB s.pts)/\st.t 29=.pv (Z s.pts.length)/\st.t 30=.pv (Z i)/\st.t 34=.pv (ai v)/\st.t 35=.pv (Z k)) (by simp[g1,g,j,f]) ?_;clear g1 g j f l;rintro k st u ⟨g1,g,j,f,gA,o⟩;rcases dC u with rfl|rfl|rfl|rfl
   all_goals
    exact Gy
  .skip
   exact Gy
 |false=>
  refine Gz ?_;refine WP.loopN [4] s.pts.length (λi st=>True/\st.t 28=.pv (aB s.pts)/\st.t 29=.pv (Z s.pts.length)/\st.t 30=.pv (Z i)/\st.h 4=none/\∀k x,k<i->s.pts[k]?=some x->ax 4194304 x=true) (by simp) ?_;rintro i st hi ⟨g1,g,j,f,l,hq⟩;by_cases d:i<s.pts.length
  .have q:=ae d (by omega)
   generalize m:s.pts[i]=v at *
   have F:s.pts[i]?=some v:=by rw[an d,m]
   have y:=mZ (p:=ax 4194304) F hq;refine Gz ?_;refine WP.loopN [] 3 (λk st=>True/\st.t 28=.pv (aB s.pts)/\st.t 29=.pv (Z s.pts.length)/\st.t 30=.pv (Z i)/\st.t 34=.pv (ai v)/\st.t 35=.pv (Z k)/\(0<k->fv v.1 4194304=true)/\(1<k->fv v.2.1 4194304=true)/\(2<k->fv v.2.2 4194304=true)) (by simp[g1,g,j,f]) ?_;clear g1 g j f l hq;rintro k st u ⟨g1,g,j,f,gA,o,E,G,O⟩;rcases dC u with rfl|rfl|rfl|rfl
   .skip
    with_reducible repeat' (first|refine Sp.h ?_|((first|refine Ss.h ?_|(refine Sb.h ?_ ?_ ?_<;>(try intro hgd)<;>try exact Xy))<;>simp -implicitDefEqProofs (maxSteps:=2000000) [hP,hN,g1,g,j,f,gA,o,q])|refine X2 ?_ ?_|(refine Xd ?_ ?_<;>intro hcd<;>try exact Xx))
    all_goals (try (rw[aU];simp only[Y4,Is]at hgd hcd;omega))
   .skip
    with_reducible repeat' (first|refine Sp.h ?_|((first|refine Ss.h ?_|(refine Sb.h ?_ ?_ ?_<;>(try intro hgd)<;>try exact Xy))<;>simp -implicitDefEqProofs (maxSteps:=2000000) [hP,hN,g1,g,j,f,gA,o,q])|refine X2 ?_ ?_|(refine Xd ?_ ?_<;>intro hcd<;>try exact Xx))
    all_goals (try (exact⟨E (by omega),by rw[aU];simp only[Y4,Is]at hgd hcd;omega⟩))
   .skip
    with_reducible repeat' (first|refine Sp.h ?_|((first|refine Ss.h ?_|(refine Sb.h ?_ ?_ ?_<;>(try intro hgd)<;>try exact Xy))<;>simp -implicitDefEqProofs (maxSteps:=2000000) [hP,hN,g1,g,j,f,gA,o,q])|refine X2 ?_ ?_|(refine Xd ?_ ?_<;>intro hcd<;>try exact Xx))
    all_goals (try (exact⟨E (by omega),G (by omega),by rw[aU];simp only[Y4,Is]at hgd hcd;omega⟩))
   .have hn:ax 4194304 v=true:=br.2 ⟨E (by omega),G (by omega),O (by omega)⟩
    have n:=y hn;refine Gz ?_
    all_goals (try exact λk a b c=>n k (a,b,c))
  .have:=pJ hq d
   rw[this]at e;cases e
abbrev aD(l:List aq):PV:=.sl (l.map bh)
def dc(x:Iv):Bool:=!(decide (x.1< -268435456)||decide (x.2<x.1)||decide (268435456<x.2))
def bK(v:aq):Bool:=dc v.1&&dc v.2.1&&dc v.2.2
def au(l:List aq):Bool:=decide (1<=l.length)&&decide (l.length<=8)&&l.all bK
theorem fg{x:Iv}:dc x=true↔¬x.1< -268435456/\¬x.2<x.1/\¬268435456<x.2:=by
 simp only[dc,Zv,Z5,Y4];constructor
 .rintro⟨⟨a,b⟩,c⟩;exact⟨a,b,c⟩
 .rintro⟨a,b,c⟩;exact⟨⟨a,b⟩,c⟩
theorem fF{v:aq}:bK v=true↔dc v.1=true/\dc v.2.1=true/\dc v.2.2=true:=by
 simp only[bK,up];constructor
 .rintro⟨⟨a,b⟩,c⟩;exact⟨a,b,c⟩
 .rintro⟨a,b,c⟩;exact⟨⟨a,b⟩,c⟩
theorem vK(xs:List aq)(R:xs.length<=9223372036854775807):aT 214 (aD xs) (B (au xs)):=by
 by_cases Q:xs.length<1\/8<xs.length
 .have hf:au xs=false:=by
   cases hb:au xs with
   |false=>rfl
   |true=>
    exfalso;unfold au at hb;simp only[up,Is]at hb;obtain⟨⟨b1,b2⟩,_⟩:=hb;omega
  rw[hf]
  have z:(xs.length:Int)<1\/(8:Int)<xs.length:=by omega
  rcases z with h|h
  all_goals
   refine Dp func214 λC hP hN=>?_;exact Gy
 .have h3:¬(xs.length:Int)<1:=by omega
  have h4:¬(8:Int)<xs.length:=by omega
  have M:¬xs.length<1:=by omega
  have N:¬8<xs.length:=by omega
  have hf:au xs=xs.all bK:=by
   have K:decide (1<=xs.length)=true:=by simp;omega
   have L:decide (xs.length<=8)=true:=by simp;omega
   simp only[au,K,L,Zf]
  rw[hf];refine Dp func214 λC hP hN=>?_
  cases l:xs.all bK with
  |true=>
   refine Gz ?_;refine WP.loopN [4,6] xs.length (λi st=>st.t 15=.pv (aD xs)/\st.t 16=.pv (Z xs.length)/\st.t 17=.pv (Z i)/\st.h 4=none/\st.h 6=none) (by simp) ?_;rintro i st hi ⟨n,o,m,q,g⟩;by_cases j:i<xs.length
   .have y:=ae j (by omega)
    have O:=fF.1 (L4.1 l _ (Zd j));obtain⟨E,F,G⟩:=O;rw[fg]at E F G;generalize r:xs[i]=v at *
    have I:xs[i]?=some v:=by rw[an j,r]
    refine Gz ?_;refine WP.loopN [6] 3 (λk st=>st.t 15=.pv (aD xs)/\st.t 16=.pv (Z xs.length)/\st.t 17=.pv (Z i)/\st.t 21=.pv (bh v)/\st.t 22=.pv (Z k)/\st.h 6=none) (by simp[n,o,m,g]) ?_;clear n o m q g;rintro k st A ⟨n,o,m,gA,u,g⟩;rcases dC A with rfl|rfl|rfl|rfl
    all_goals
     exact Gy
   .skip
    exact Gy
  |false=>
   refine Gz ?_;refine WP.loopN [4,6] xs.length (λi st=>st.t 15=.pv (aD xs)/\st.t 16=.pv (Z xs.length)/\st.t 17=.pv (Z i)/\st.h 4=none/\st.h 6=none/\∀k x,k<i->xs[k]?=some x->bK x=true) (by simp) ?_;rintro i st hi ⟨n,o,m,q,g,hq⟩;by_cases j:i<xs.length
   .have y:=ae j (by omega)
    generalize r:xs[i]=v at *
    have I:xs[i]?=some v:=by rw[an j,r]
    have D:=mZ (p:=bK) I hq;refine Gz ?_;refine WP.loopN [6] 3 (λk st=>st.t 15=.pv (aD xs)/\st.t 16=.pv (Z xs.length)/\st.t 17=.pv (Z i)/\st.t 21=.pv (bh v)/\st.t 22=.pv (Z k)/\st.h 6=none/\(0<k->dc v.1=true)/\(1<k->dc v.2.1=true)/\(2<k->dc v.2.2=true)) (by simp[n,o,m,g]) ?_;clear n o m q hq g;rintro k st A ⟨n,o,m,gA,u,g,H,J,P⟩;rcases dC A with rfl|rfl|rfl|rfl
    .skip
     with_reducible repeat' (first|refine Sp.h ?_|((first|refine Ss.h ?_|(refine Sb.h ?_ ?_ ?_<;>(try intro hgd)<;>try exact Xy))<;>simp -implicitDefEqProofs (maxSteps:=2000000) [hP,hN,n,o,m,gA,u,g,y])|refine X2 ?_ ?_|(refine Xd ?_ ?_<;>intro hcd<;>try exact Xx))
     all_goals (try (rw[fg];simp only[Y4,Is]at *;omega))
    .skip
     with_reducible repeat' (first|refine Sp.h ?_|((first|refine Ss.h ?_|(refine Sb.h ?_ ?_ ?_<;>(try intro hgd)<;>try exact Xy))<;>simp -implicitDefEqProofs (maxSteps:=2000000) [hP,hN,n,o,m,gA,u,g,y])|refine X2 ?_ ?_|(refine Xd ?_ ?_<;>intro hcd<;>try exact Xx))
     all_goals (try (exact⟨H (by omega),by rw[fg];simp only[Y4,Is]at *;omega⟩))
    .skip
     with_reducible repeat' (first|refine Sp.h ?_|((first|refine Ss.h ?_|(refine Sb.h ?_ ?_ ?_<;>(try intro hgd)<;>try exact Xy))<;>simp -implicitDefEqProofs (maxSteps:=2000000) [hP,hN,n,o,m,gA,u,g,y])|refine X2 ?_ ?_|(refine Xd ?_ ?_<;>intro hcd<;>try exact Xx))
     all_goals (try (exact⟨H (by omega),J (by omega),by rw[fg];simp only[Y4,Is]at *;omega⟩))
    .have hn:bK v=true:=fF.2 ⟨H (by omega),J (by omega),P (by omega)⟩
     have s:=D hn;refine Gz ?_
     all_goals (try exact λk a b c d e f=>s k ((a,b),(c,d),(e,f)))
   .have:=pJ hq j
    rw[this]at l;cases l
theorem QH(r:Int):aT 258 (Z r) (B (aP r 0 1048576)):=by
 refine Dp func258 λC hP hN=>?_
 with_reducible repeat' (first|refine Sp.h ?_|((first|refine Ss.h ?_|(refine Sb.h ?_ ?_ ?_<;>(try intro hgd)<;>try exact Xy))<;>simp -implicitDefEqProofs (maxSteps:=2000000) [hP,hN])|refine X2 ?_ ?_|(refine Xd ?_ ?_<;>intro hcd<;>try exact Xx))
 all_goals (first|(simp_all[aP];done)|((try simp_all[aP])<;>(try omega)<;>grind))
theorem QI(r:Int):aT 240 (Z r) (B (aP r 0 1048576)):=by
 refine Dp func240 λC hP hN=>?_
 with_reducible repeat' (first|refine Sp.h ?_|((first|refine Ss.h ?_|(refine Sb.h ?_ ?_ ?_<;>(try intro hgd)<;>try exact Xy))<;>simp -implicitDefEqProofs (maxSteps:=2000000) [hP,hN])|refine X2 ?_ ?_|(refine Xd ?_ ?_<;>intro hcd<;>try exact Xx))
 all_goals (first|(simp_all[aP];done)|((try simp_all[aP])<;>(try omega)<;>grind))
def l6(x:Iv):Int:=if aO x.1 x.2 then(x.1+x.2)/2 else 0
theorem Me:aT 215 (I a b) (Z (l6 (a,b))):=by
 have h:=TO a b
 have e:(if aO a b=true then(wr (a+b)).fdiv 2 else 0)=l6 (a,b):=by
  unfold l6;split
  .rename_i c
   have c:=dY.1 c;rw[aa (by omega) (by omega)];exact Kp (a+b) 2
  .rfl
 rw[e]at h;exact h
def i6(v:aq):Vc:=(l6 v.1,l6 v.2.1,l6 v.2.2)
def aw(l:List aq):List Vc:=if au l then l.map i6 else[]
def bD(n:Nat):Nat:=if n=0 then 0 else Nat.log2 n+1
theorem pL(h:2^k<=n):bD n=k+bD (n/2^k):=by
 have a:0<2^k:=Nat.two_pow_pos k
 have hn:n≠0:=by omega
 have hd:n/2^k≠0:=by
  have:1<=n/2^k:=(yAW a).2 (by omega);omega
 unfold bD;rw[YR hn,YR hd];have h1:=(Nat.log2_eq_iff hd (k:=Nat.log2 (n/2^k))).1 rfl
 have h2:Nat.log2 n=Nat.log2 (n/2^k)+k:=by
  rw[Nat.log2_eq_iff hn];refine⟨?_,?_⟩
  .rw[Nat.pow_add];exact(yAW a).1 h1.1
  .have:=(Nat.div_lt_iff_lt_mul a).1 h1.2
   rw[show Nat.log2 (n/2^k)+k+1=(Nat.log2 (n/2^k)+1)+k from by omega,Nat.pow_add];exact this
 omega
theorem QJ(n:Nat):n<2^bD n:=by
 unfold bD;split
 .rename_i h;subst h;decide
 .rename_i h;exact((Nat.log2_eq_iff h (k:=Nat.log2 n)).1 rfl).2
theorem oK(h:n<2^k):bD n<=k:=by
 unfold bD;split
 .omega
 .rename_i a
  have:=((Nat.log2_eq_iff a (k:=Nat.log2 n)).1 rfl).1;have h2:2^Nat.log2 n<2^k:=Nat.lt_of_le_of_lt this h;have:=(Nat.pow_lt_pow_iff_right (by decide:1<2)).1 h2;omega
abbrev U6(n:Int):PV:=.val (.int .u64 n)
def Mi:ByteArray:=⟨((List.range 256).map λi=>(bD i).toUInt8).toArray⟩
theorem FK:∀i,i<256->Mi[i]?=some (bD i).toUInt8/\(bD i).toUInt8.toNat=bD i:=by decide +kernel
theorem ny(h:i<256):Mi[i]?=some (bD i).toUInt8:=(FK i h).1
theorem ln(h:i<256):(bD i).toUInt8.toNat=bD i:=(FK i h).2
@[simp] theorem Xs:i64.wrap 16=16:=by decide
@[simp] theorem Xt:i64.wrap 24=24:=by decide
@[simp] theorem Xu:i64.wrap 40=40:=by decide
@[simp] theorem Xv:i64.wrap 48=48:=by decide
@[simp] theorem Xw:i64.wrap 8=8:=by decide
@[simp] theorem Xz:i64.wrap 56=56:=by decide
@[simp] theorem YQ:IntKind.u64.bits=64:=rfl
theorem Ah(B:Nat)(h:n/B=m):(n:Int).fdiv (B:Int)=(m:Int):=by
 rw[Kp,<-h];exact(Int.natCast_ediv n B).symm
theorem Ds(h:n<256):IntKind.u8.wrap (n:Int)=n:=by
 have e:(n:Int)%256=n:=by omega
 unfold IntKind.wrap;simp[IntKind.signed,IntKind.bits,e]
set_option maxRecDepth 100000 in
theorem VB(n:Nat)(hn:n<18446744073709551616):aT 183 (U6 n) (Z (bD n)):=by
 refine Dp func183 λC hP hN=>?_
 conv in (ByteArray.mk _)=>change Mi
 by_cases a7:4294967296<=n
 .have ah:bD n=32+bD (n/4294967296):=pL (n:=n) (k:=32) (by omega)
  have Y:n/4294967296<4294967296:=by omega
  have ak:(n:Int).fdiv 4294967296=((n/4294967296:Nat):Int):=Ah 4294967296 rfl;generalize U:n/4294967296=b at *
  have D:(4294967296:Int)<=(n:Int):=by omega
  by_cases L:65536<=b
  .have H:bD b=16+bD (b/65536):=pL (n:=b) (k:=16) (by omega)
   have G:b/65536<65536:=by omega
   have I:(b:Int).fdiv 65536=((b/65536:Nat):Int):=Ah 65536 rfl;generalize E:b/65536=a at *
   have o:(65536:Int)<=(b:Int):=by omega
   by_cases F:256<=a
   .have z:bD a=8+bD (a/256):=pL (n:=a) (k:=8) (by omega)
    have y:a/256<256:=by omega
    have A:(a:Int).fdiv 256=((a/256:Nat):Int):=Ah 256 rfl;generalize x:a/256=c at *
    have m:(256:Int)<=(a:Int):=by omega
    have s:=ny (i:=c) (by omega);have u:=Ds (n:=c) (by omega);have g:=ln (i:=c) (by omega);have j:bD c<=8:=oK (by omega);have v:i64.wrap ((56:Int)+(bD c:Int))=56+(bD c:Int):=aa;have l:i64.wrap (bD c:Int)=(bD c:Int):=aa;refine Gz ?_
    all_goals (first|omega|(simp;done)|(simp;omega)|trace_state)
   .have m:¬(256:Int)<=(a:Int):=by omega
    have s:=ny (i:=a) (by omega);have u:=Ds (n:=a) (by omega);have g:=ln (i:=a) (by omega);have j:bD a<=8:=oK (by omega);have v:i64.wrap ((48:Int)+(bD a:Int))=48+(bD a:Int):=aa;have l:i64.wrap (bD a:Int)=(bD a:Int):=aa;refine Gz ?_
    all_goals (first|omega|(simp;done)|(simp;omega)|trace_state)
  .have o:¬(65536:Int)<=(b:Int):=by omega
   by_cases W:256<=b
   .have P:bD b=8+bD (b/256):=pL (n:=b) (k:=8) (by omega)
    have N:b/256<256:=by omega
    have R:(b:Int).fdiv 256=((b/256:Nat):Int):=Ah 256 rfl;generalize K:b/256=f at *
    have r:(256:Int)<=(b:Int):=by omega
    have s:=ny (i:=f) (by omega);have u:=Ds (n:=f) (by omega);have g:=ln (i:=f) (by omega);have j:bD f<=8:=oK (by omega);have v:i64.wrap ((40:Int)+(bD f:Int))=40+(bD f:Int):=aa;have l:i64.wrap (bD f:Int)=(bD f:Int):=aa;refine Gz ?_
    all_goals (first|omega|(simp;done)|(simp;omega)|trace_state)
   .have r:¬(256:Int)<=(b:Int):=by omega
    have s:=ny (i:=b) (by omega);have u:=Ds (n:=b) (by omega);have g:=ln (i:=b) (by omega);have j:bD b<=8:=oK (by omega);have v:i64.wrap ((32:Int)+(bD b:Int))=32+(bD b:Int):=aa;have l:i64.wrap (bD b:Int)=(bD b:Int):=aa;exact Gy
    all_goals (first|omega|(simp;done)|(simp;omega)|trace_state)
 .have D:¬(4294967296:Int)<=(n:Int):=by omega
  by_cases a6:65536<=n
  .have ad:bD n=16+bD (n/65536):=pL (n:=n) (k:=16) (by omega)
   have X:n/65536<65536:=by omega
   have aj:(n:Int).fdiv 65536=((n/65536:Nat):Int):=Ah 65536 rfl;generalize T:n/65536=d at *
   have B:(65536:Int)<=(n:Int):=by omega
   by_cases V:256<=d
   .have O:bD d=8+bD (d/256):=pL (n:=d) (k:=8) (by omega)
    have M:d/256<256:=by omega
    have Q:(d:Int).fdiv 256=((d/256:Nat):Int):=Ah 256 rfl;generalize J:d/256=e at *
    have q:(256:Int)<=(d:Int):=by omega
    have s:=ny (i:=e) (by omega);have u:=Ds (n:=e) (by omega);have g:=ln (i:=e) (by omega);have j:bD e<=8:=oK (by omega);have v:i64.wrap ((24:Int)+(bD e:Int))=24+(bD e:Int):=aa;have l:i64.wrap (bD e:Int)=(bD e:Int):=aa;refine Gz ?_
    all_goals (first|omega|(simp;done)|(simp;omega)|trace_state)
   .have q:¬(256:Int)<=(d:Int):=by omega
    have s:=ny (i:=d) (by omega);have u:=Ds (n:=d) (by omega);have g:=ln (i:=d) (by omega);have j:bD d<=8:=oK (by omega);have v:i64.wrap ((16:Int)+(bD d:Int))=16+(bD d:Int):=aa;have l:i64.wrap (bD d:Int)=(bD d:Int):=aa;exact Gy
    all_goals (first|omega|(simp;done)|(simp;omega)|trace_state)
  .have B:¬(65536:Int)<=(n:Int):=by omega
   by_cases g:256<=n
   .have bq:bD n=8+bD (n/256):=pL (n:=n) (k:=8) (by omega)
    have a8:n/256<256:=by omega
    have b2:(n:Int).fdiv 256=((n/256:Nat):Int):=Ah 256 rfl;generalize ar:n/256=p at *
    have S:(256:Int)<=(n:Int):=by omega
    have s:=ny (i:=p) (by omega);have u:=Ds (n:=p) (by omega);have g:=ln (i:=p) (by omega);have j:bD p<=8:=oK (by omega);have v:i64.wrap ((8:Int)+(bD p:Int))=8+(bD p:Int):=aa;have l:i64.wrap (bD p:Int)=(bD p:Int):=aa;exact Gy
    all_goals (first|omega|(simp;done)|(simp;omega)|trace_state)
   .have S:¬(256:Int)<=(n:Int):=by omega
    have s:=ny (i:=n) (by omega);have u:=Ds (n:=n) (by omega);have g:=ln (i:=n) (by omega);have j:bD n<=8:=oK (by omega);have v:i64.wrap ((0:Int)+(bD n:Int))=0+(bD n:Int):=aa;have l:i64.wrap (bD n:Int)=(bD n:Int):=aa;exact Gy
    all_goals (first|omega|(simp;done)|(simp;omega)|trace_state)
def mP(n:Nat):Nat->Nat->Nat
 |0,r=>r
 |k+1,r=>mP n k (if(r+2^k)*(r+2^k)<=n then r+2^k else r)
theorem vN{n:Nat}:∀(k r:Nat),r*r<=n->n<(r+2^k)*(r+2^k)->mP n k r*mP n k r<=n/\n<(mP n k r+1)*(mP n k r+1)
 |0,r,h1,h2=>⟨h1,by simpa[mP]using h2⟩
 |k+1,r,h1,h2=>by
  simp only[mP];split
  .rename_i h
   refine vN k _ h ?_;rw[yAn,<-Nat.two_mul,<-Nat.pow_succ'];exact h2
  .rename_i h
   exact vN k r h1 (by omega)
def cZ(n:Nat):Nat:=mP n 32 0
theorem sH(h:n<18446744073709551616):cZ n*cZ n<=n/\n<(cZ n+1)*(cZ n+1):=vN 32 0 (ZG _) (by simpa using h)
theorem Dt{a b:Nat}(h1:a*a<=n)(h2:n<(a+1)*(a+1))(h3:b*b<=n)(h4:n<(b+1)*(b+1)):a=b:=by
 rcases yAw a b with h|h|h
 .have:=yAa (show a+1<=b from h) (show a+1<=b from h);omega
 .exact h
 .have:=yAa (show b+1<=a from h) (show b+1<=a from h);omega
theorem OE(h:n<18446744073709551616)(c:n<2^k*2^k):mP n k 0=cZ n:=by
 have a:=vN (n:=n) k 0 (ZG _) (by simpa using c);have b:=sH h;exact Dt a.1 a.2 b.1 b.2
theorem tY(hn:n<4611686018427387904):cZ n<2147483648:=by
 have h:=(sH (n:=n) (by omega)).1;rcases Nat.lt_or_ge (cZ n) 2147483648 with h2|h2
 .exact h2
 .have:=yAa h2 h2;omega
def iz(n w:Nat):Nat->Nat
 |0=>0
 |i+1=>if(iz n w i+2^(w-i-1))*(iz n w i+2^(w-i-1))<=n then iz n w i+2^(w-i-1)else iz n w i
theorem HC{n w:Nat}:∀i,i<=w->mP n (w-i) (iz n w i)=mP n w 0
 |0,_=>rfl
 |i+1,h=>by
  rw[<-HC i (by omega)];obtain⟨m,a⟩:∃m,w-i=m+1:=⟨w-i-1,by omega⟩
  have h2:w-(i+1)=m:=by omega
  have h3:w-i-1=m:=by omega
  rw[a,h2];simp only[iz,mP,h3]
theorem Ai{n w:Nat}:∀i,i<=w->iz n w i+2^(w-i)<=2^w
 |0,_=>by simp[iz]
 |i+1,h=>by
  have ih:=Ai (n:=n) (w:=w) i (by omega);obtain⟨m,a⟩:∃m,w-i=m+1:=⟨w-i-1,by omega⟩
  have h2:w-(i+1)=m:=by omega
  have h3:w-i-1=m:=by omega
  rw[a,yA5]at ih;simp only[iz,h2,h3];split<;>omega
theorem Kx(h:n<18446744073709551616):IntKind.u64.wrap (n:Int)=n:=by
 have e:(n:Int)%18446744073709551616=n:=by omega
 unfold IntKind.wrap;simp[IntKind.signed,IntKind.bits,e]
theorem VC(n:Nat)(hn:n<4611686018427387904):aT 301 (Z n) (Z (cZ n)):=by
 by_cases H:n=0
 .subst H
  have hf:cZ 0=0:=by decide +kernel
  rw[hf];refine Dp func301 λC hP hN=>?_;exact Gy
 have cl:=VB n (by omega);have x:=QJ n;have I:bD n<=62:=oK hn
 have o:¬(n:Int)<=0:=by omega
 have B:IntKind.u64.wrap (n:Int)=n:=Kx (by omega);obtain⟨w,P⟩:∃w,w=(bD n+1)/2:=⟨_,rfl⟩
 have s:w<=31:=by omega
 have M:bD n<=2*w:=by omega
 have y:n<2^w*2^w:=by
  rw[<-Nat.pow_add];exact ZJ x (Nat.pow_le_pow_right (by decide) (by omega))
 have z:=OE (n:=n) (k:=w) (by omega) y
 have A:((bD n:Int)+1).tdiv 2=(w:Int):=by
  rw[Zc (by omega)];omega
 have w1:i64.wrap ((bD n:Int)+1)=(bD n:Int)+1:=aa;have w2:i64.wrap (w:Int)=w:=aa;have D:2^w<=2^31:=Nat.pow_le_pow_right (by decide) s
 have N:IntKind.u64.wrap (2^min w 64)=((2^w:Nat):Int):=by
  rw[Nat.min_eq_left (by omega)];have e:((2^w:Nat):Int)=(2:Int)^w:=Int.natCast_pow 2 w;rw[<-e];exact Kx (by omega)
 refine Dp func301 λC hP hN=>?_;refine GT (so o B w1 w2 A N) ?_;refine WP.loopN [] w (λi st=>st.t 0=.pv (Z n)/\st.t 16=.pv (Z w)/\st.t 17=.pv (Z i)/\st.t 4=.pv (U6 (iz n w i))/\st.t 5=.pv (U6 ((2^(w-i):Nat):Int))) (by simp[iz]) ?_;rintro i st hi ⟨g0,f,g,g4,g5⟩;by_cases l:i<w
 .have c:(i:Int)<(w:Int):=by omega
  have d:i64.wrap ((i:Int)+1)=(i:Int)+1:=aa;obtain⟨m,J⟩:∃m,w-i=m+1:=⟨w-i-1,by omega⟩
  have h2:w-(i+1)=m:=by omega
  have h3:w-i-1=m:=by omega
  have b:=Ai (n:=n) (w:=w) i hi;rw[J]at g5 b;rw[yA5]at b
  have d1:((2^(m+1):Nat):Int).tdiv 2=((2^m:Nat):Int):=by
   rw[Zc (by omega),yA5];omega
  have u:iz n w (i+1)=if(iz n w i+2^m)*(iz n w i+2^m)<=n then iz n w i+2^m else iz n w i:=by simp only[iz,h3]
  generalize iz n w i=r at *;generalize hq:2^m=q at *;generalize 2^(m+1)=Q at *
  have p:r+q<=2^31:=by omega
  have L:(r+q)*(r+q)<=2^31*2^31:=yAa p p;have E:IntKind.u64.wrap (q:Int)=q:=Kx (by omega)
  have F:IntKind.u64.wrap ((r:Int)+(q:Int))=(r:Int)+(q:Int):=by have:=Kx (n:=r+q) (by omega);simpa using this
  have G:IntKind.u64.wrap (((r:Int)+(q:Int))*((r:Int)+(q:Int)))=((r:Int)+(q:Int))*((r:Int)+(q:Int)):=by
   have:=Kx (n:=(r+q)*(r+q)) (by omega);simpa using this
  have hc:(((r:Int)+(q:Int))*((r:Int)+(q:Int))<=(n:Int))↔(r+q)*(r+q)<=n:=by
   have e:((r:Int)+(q:Int))*((r:Int)+(q:Int))=(((r+q)*(r+q):Nat):Int):=by simp
   rw[e];omega
  by_cases a:(r+q)*(r+q)<=n
  .have j:=hc.2 a
   rw[YY a]at u;refine GT (zAb g0 f g g4 g5 c d d1 E F G (be j B l)) ?_
   all_goals (simp[u,h2,hq];rw[<-hq];exact Int.natCast_pow 2 m)
  .have j:¬((r:Int)+(q:Int))*((r:Int)+(q:Int))<=(n:Int):=λh=>a (hc.1 h)
   rw[YR a]at u;refine GT (zAb g0 f g g4 g5 c d d1 E F G (be j B l)) ?_
   all_goals (simp[u,h2,hq];rw[<-hq];exact Int.natCast_pow 2 m)
 .have v:i=w:=by omega
  subst v
  have hf:iz n i i=cZ n:=by
   have:=HC (n:=n) (w:=i) i (Y0 _);rw[yAD]at this;rw[<-z,<-this];rfl
  have b:=Ai (n:=n) (w:=i) i (Y0 _);rw[hf]at g4 b;have K:=tY hn;have O:i64.wrap (cZ n:Int)=cZ n:=aa;exact GS (so g0 f g g4 g5 O)
def tz(n:Nat):Nat:=if cZ n*cZ n<n then cZ n+1 else cZ n
theorem VD(n:Nat)(hn:n<4611686018427387904):aT 286 (Z n) (Z (tz n)):=by
 have d:=VC n hn;have f:=tY hn
 have b:tz n=if cZ n*cZ n<n then cZ n+1 else cZ n:=rfl
 rw[b];generalize cZ n=r at *;have c:r*r<=2147483648*2147483648:=yAa (by omega) (by omega)
 have w1:i64.wrap ((r:Int)*(r:Int))=((r*r:Nat):Int):=by
  have e:((r:Int)*(r:Int))=((r*r:Nat):Int):=by simp
  rw[e];exact aa (by omega) (by omega)
 have w2:i64.wrap ((r:Int)+1)=(r:Int)+1:=aa;by_cases h:r*r<n
 .have a:((r*r:Nat):Int)<(n:Int):=by omega
  rw[YY h];refine Dp func286 λC hP hN=>?_;exact Gy
  all_goals (first|done|(simp[w1,w2,a]at *;done)|(exfalso;simp at *;omega))
 .have a:¬((r*r:Nat):Int)<(n:Int):=by omega
  rw[YR h];refine Dp func286 λC hP hN=>?_;exact Gy
  all_goals (first|done|(simp[w1,w2,a]at *;done)|(exfalso;simp at *;omega))
theorem QK(v:Vc):aT 280 (ai v) (B (ax 16384 v)):=by
 cases a:ax 16384 v with
 |true=>
  have j:=br.1 a;obtain⟨d,e,f⟩:=j;rw[aU]at d e f;refine Dp func280 λC hP hN=>?_;refine Gz ?_;refine WP.loopN [] 3 (λk st=>st.t 5=.pv (ai v)/\st.t 6=.pv (Z k)) (by simp) ?_;rintro k st c ⟨g5,b⟩;rcases dC c with rfl|rfl|rfl|rfl
  all_goals
   exact Gy
 |false=>
  refine Dp func280 λC hP hN=>?_;refine Gz ?_;refine WP.loopN [] 3 (λk st=>st.t 5=.pv (ai v)/\st.t 6=.pv (Z k)/\(0<k->fv v.1 16384=true)/\(1<k->fv v.2.1 16384=true)/\(2<k->fv v.2.2 16384=true)) (by simp) ?_;rintro k st c ⟨g5,b,g,i,l⟩;rcases dC c with rfl|rfl|rfl|rfl
  .skip
   with_reducible repeat' (first|refine Sp.h ?_|((first|refine Ss.h ?_|(refine Sb.h ?_ ?_ ?_<;>(try intro hgd)<;>try exact Xy))<;>simp -implicitDefEqProofs (maxSteps:=2000000) [hP,hN,g5,b])|refine X2 ?_ ?_|(refine Xd ?_ ?_<;>intro hcd<;>try exact Xx))
   all_goals (try (rw[aU];simp only[Y4,Is]at hgd hcd;omega))
  .skip
   with_reducible repeat' (first|refine Sp.h ?_|((first|refine Ss.h ?_|(refine Sb.h ?_ ?_ ?_<;>(try intro hgd)<;>try exact Xy))<;>simp -implicitDefEqProofs (maxSteps:=2000000) [hP,hN,g5,b])|refine X2 ?_ ?_|(refine Xd ?_ ?_<;>intro hcd<;>try exact Xx))
   all_goals (try (exact⟨g (by omega),by rw[aU];simp only[Y4,Is]at hgd hcd;omega⟩))
  .skip
   with_reducible repeat' (first|refine Sp.h ?_|((first|refine Ss.h ?_|(refine Sb.h ?_ ?_ ?_<;>(try intro hgd)<;>try exact Xy))<;>simp -implicitDefEqProofs (maxSteps:=2000000) [hP,hN,g5,b])|refine X2 ?_ ?_|(refine Xd ?_ ?_<;>intro hcd<;>try exact Xx))
   all_goals (try (exact⟨g (by omega),i (by omega),by rw[aU];simp only[Y4,Is]at hgd hcd;omega⟩))
  .have hn:ax 16384 v=true:=br.2 ⟨g (by omega),i (by omega),l (by omega)⟩
   rw[hn]at a;cases a
def nz(v:Vc):Bool:=!(v.1==0&&v.2.1==0&&v.2.2==0)
def aI(v:Vc):Bool:=ax 16384 v&&nz v
theorem FL(v:Vc):aT 241 (ai v) (B (aI v)):=by
 have c:=QK v;have a:aI v=(ax 16384 v&& !(v.1==0&&v.2.1==0&&v.2.2==0)):=rfl;rw[a];generalize ax 16384 v=b at *;refine Dp func241 λC hP hN=>?_;cases b
 all_goals
  exact Gy
def lL(v:Vc):Vc:=(v.1.tdiv 2,v.2.1.tdiv 2,v.2.2.tdiv 2)
def kn:Nat->Vc->Vc
 |0,v=>v
 |n+1,v=>if ax 16384 v then v else kn n (lL v)
def aZ(v:Vc):Vc:=kn 64 v
def er(b:Int)(v:Vc):Prop:=(-b<=v.1/\v.1<=b)/\(-b<=v.2.1/\v.2.1<=b)/\(-b<=v.2.2/\v.2.2<=b)
theorem I2{x:Int}(h:-(2*b)<=x/\x<=2*b):-b<=x.tdiv 2/\x.tdiv 2<=b:=by
 have hb:0<=b:=by omega
 rcases yAT 0 x with a|a
 .rw[Zc a];omega
 .have e:x.tdiv 2=-((-x).tdiv 2):=by rw[Int.neg_tdiv,Int.neg_neg]
  rw[e,Zc (by omega)];omega
theorem FM{v:Vc}(h:er (2*b) v):er b (lL v):=⟨I2 h.1,I2 h.2.1,I2 h.2.2⟩
theorem QL(v:Vc)(h:er 1099511627776 v):aT 249 (ai v) (.tup [ai (aZ v),B (nz (aZ v))]):=by
 have l:nz (aZ v)=!((aZ v).1==0&&(aZ v).2.1==0&&(aZ v).2.2==0):=rfl;rw[l];refine Dp func249 λC hP hN=>?_;refine Gz ?_;refine WP.loopN [] 41 (λi st=>∃w:Vc,st.t 1=.ptr 1 0/\st.t 2=.ptr 2 0/\st.h 1=some (.box [.pv (Z w.1),.pv (Z w.2.1),.pv (Z w.2.2)] true false)/\st.h 2=some (.box [.pv (Z 0),.pv (Z 0),.pv (Z 0)] true false)/\kn (64-i) w=aZ v/\er ((2^(40-i):Nat):Int) w) (by simp;exact⟨v.1,v.2.1,v.2.2,⟨rfl,rfl,rfl⟩,rfl,h⟩) ?_;rintro i st hi ⟨w,g1,g2,a,c,hn,g⟩;have o:=QK w;obtain⟨m,z⟩:∃m,64-i=m+1:=⟨64-i-1,by omega⟩;rw[z]at hn;simp only[kn]at hn
 cases d:ax 16384 w with
 |true=>
  rw[d]at o;rw[YY d]at hn;subst hn;exact Gy
 |false=>
  rw[d]at o;rw[YR (by rw[d];simp)]at hn
  have p:i<40:=by
   rcases Nat.lt_or_ge i 40 with h9|h9
   .exact h9
   .have e:40-i=0:=by omega
    rw[e]at g
    have:ax 16384 w=true:=by
     obtain⟨⟨a1,a2⟩,⟨a3,a4⟩,a5,a6⟩:=g;rw[br,aU,aU,aU];omega
    rw[this]at d;cases d
  have b:er ((2^(40-(i+1)):Nat):Int) (lL w):=by
   obtain⟨q,hq⟩:∃q,40-i=q+1:=⟨40-i-1,by omega⟩
   have r:40-(i+1)=q:=by omega
   rw[hq,yA5]at g;rw[r];refine FM ?_
   have s:((2^q*2:Nat):Int)=2*((2^q:Nat):Int):=by omega
   rw[<-s];exact g
  have j:kn (63-i) (lL w)=aZ v:=by rw[show 63-i=m by omega];exact hn
  have f:er ((2:Int)^(39-i)) (lL w):=by
   have e:((2^(40-(i+1)):Nat):Int)=(2:Int)^(39-i):=by rw[show 40-(i+1)=39-i by omega];exact Int.natCast_pow 2 (39-i)
   rw[<-e];exact b
  have y:((2^(40-(i+1)):Nat):Int)<=1099511627776:=by
   have:=Nat.pow_le_pow_right (n:=2) (by decide) (show 40-(i+1)<=40 by omega);omega
  have w1:i64.wrap (w.1.tdiv 2)=w.1.tdiv 2:=by have:=b.1;simp only[lL]at this;exact aa (by omega) (by omega)
  have w2:i64.wrap (w.2.1.tdiv 2)=w.2.1.tdiv 2:=by have:=b.2.1;simp only[lL]at this;exact aa (by omega) (by omega)
  have A:i64.wrap (w.2.2.tdiv 2)=w.2.2.tdiv 2:=by have:=b.2.2;simp only[lL]at this;exact aa (by omega) (by omega)
  refine Gz ?_;refine WP.loopN [] 3 (λk st=>st.t 1=.ptr 1 0/\st.t 2=.ptr 2 0/\st.h 2=some (.box [.pv (Z 0),.pv (Z 0),.pv (Z 0)] true false)/\st.t 8=.pv (Z k)/\st.h 1=some (.box [.pv (Z (if 0<k then w.1.tdiv 2 else w.1)),.pv (Z (if 1<k then w.2.1.tdiv 2 else w.2.1)),.pv (Z (if 2<k then w.2.2.tdiv 2 else w.2.2))] true false)) (by simp[g1,g2,a,c]) ?_;clear g1 g2 a c;rintro k st x ⟨g1,g2,c,u,a⟩;rcases dC x with rfl|rfl|rfl|rfl
  all_goals (simp at u a)
  .skip
   exact Gy
  .skip
   exact Gy
  .skip
   exact Gy
  .skip
   refine Gz ?_
   all_goals (refine⟨by omega,_,_,_,⟨rfl,rfl,rfl⟩,?_,?_⟩<;>first|exact j|exact f)
def xE(v:Vc):Nat:=(v.1*v.1+v.2.1*v.2.1+v.2.2*v.2.2).toNat
def eY(v:Vc):Int:=if aI v then(tz (xE v):Int)else 0
theorem QM(v:Vc):aT 252 (ai v) (Z (eY v)):=by
 have f:=FL v
 cases c:aI v with
 |false=>
  have d:eY v=0:=by simp[eY,c]
  rw[d];rw[c]at f;refine Dp func252 λC hP hN=>?_;exact Gy
 |true=>
  have d:eY v=(tz (xE v):Int):=by simp[eY,c]
  rw[d];rw[c]at f
  have g:ax 16384 v=true:=by simp only[aI,up]at c;exact c.1
  rw[br,aU,aU,aU]at g;obtain⟨v1,v2,v3⟩:=v;simp only at g;have m1:=bi (a:=v1) (b:=v1) 16384 16384 (by omega) (by omega) (by omega) (by omega);have m2:=bi (a:=v2) (b:=v2) 16384 16384 (by omega) (by omega) (by omega) (by omega);have j:=bi (a:=v3) (b:=v3) 16384 16384 (by omega) (by omega) (by omega) (by omega)
  have k:0<=v1*v1:=by rcases yAT 0 v1 with h|h;exact ZT h h;exact yAL h h
  have l:0<=v2*v2:=by rcases yAT 0 v2 with h|h;exact ZT h h;exact yAL h h
  have m:0<=v3*v3:=by rcases yAT 0 v3 with h|h;exact ZT h h;exact yAL h h
  have e:xE (v1,v2,v3)=(v1*v1+v2*v2+v3*v3).toNat:=rfl;rw[e];have w1:i64.wrap (v1*v1)=v1*v1:=aa;have w2:i64.wrap (v2*v2)=v2*v2:=aa;have n:i64.wrap (v3*v3)=v3*v3:=aa;have o:i64.wrap (v1*v1+v2*v2)=v1*v1+v2*v2:=aa;have p:i64.wrap (v1*v1+v2*v2+v3*v3)=v1*v1+v2*v2+v3*v3:=aa;have i:=VD (v1*v1+v2*v2+v3*v3).toNat (by omega);rw[Int.toNat_of_nonneg (by omega)]at i;generalize(v1*v1+v2*v2+v3*v3).toNat=q at *;refine Dp func252 λC hP hN=>?_;exact Gy
def qO(n:Int)(x:Iv):Int:=min (n*x.1) (n*x.2)
def qQ(n:Int)(x:Iv):Int:=max (n*x.1) (n*x.2)
def fQ(n:Vc)(v:aq):Int:=qO n.1 v.1+qO n.2.1 v.2.1+qO n.2.2 v.2.2
def fS(n:Vc)(v:aq):Int:=qQ n.1 v.1+qQ n.2.1 v.2.1+qQ n.2.2 v.2.2
theorem I3{x:Iv}(h:dc x=true):(-268435456<=x.1/\x.1<=268435456)/\(-268435456<=x.2/\x.2<=268435456):=by
 rw[fg]at h;omega
theorem yN{x:Int}(h:fv x 16384=true):-16384<=x/\x<=16384:=by rw[aU]at h;omega
theorem oL{n:Int}{x:Iv}(hn:fv n 16384=true)(c:dc x=true):(-4398046511104<=n*x.1/\n*x.1<=4398046511104)/\(-4398046511104<=n*x.2/\n*x.2<=4398046511104)/\(-4398046511104<=qO n x/\qO n x<=4398046511104)/\(-4398046511104<=qQ n x/\qQ n x<=4398046511104):=by
 have h1:=yN hn;have h2:=I3 c;have m1:=bi (a:=n) (b:=x.1) 16384 268435456 (by omega) (by omega) (by omega) (by omega);have m2:=bi (a:=n) (b:=x.2) 16384 268435456 (by omega) (by omega) (by omega) (by omega);unfold qO qQ;omega
theorem QN(n:Vc)(v:aq)(hn:ax 16384 n=true)(g:bK v=true):aH 327 (ai n) (bh v) (.tup [Z (fQ n v),Z (fS n v)]):=by
 rw[br]at hn;rw[fF]at g;obtain⟨n1,n2,D⟩:=hn;obtain⟨v1,v2,v3⟩:=g;have a1:=oL n1 v1;have a2:=oL n2 v2;have a3:=oL D v3;have i:fQ n v=qO n.1 v.1+qO n.2.1 v.2.1+qO n.2.2 v.2.2:=rfl;have j:fS n v=qQ n.1 v.1+qQ n.2.1 v.2.1+qQ n.2.2 v.2.2:=rfl;rw[i,j];have w1:i64.wrap (n.1*v.1.1)=n.1*v.1.1:=aa;have w2:i64.wrap (n.1*v.1.2)=n.1*v.1.2:=aa;have K:i64.wrap (n.2.1*v.2.1.1)=n.2.1*v.2.1.1:=aa;have L:i64.wrap (n.2.1*v.2.1.2)=n.2.1*v.2.1.2:=aa;have M:i64.wrap (n.2.2*v.2.2.1)=n.2.2*v.2.2.1:=aa;have N:i64.wrap (n.2.2*v.2.2.2)=n.2.2*v.2.2.2:=aa;have f1:min (n.1*v.1.1) (n.1*v.1.2)=qO n.1 v.1:=rfl;have f2:min (n.2.1*v.2.1.1) (n.2.1*v.2.1.2)=qO n.2.1 v.2.1:=rfl;have f3:min (n.2.2*v.2.2.1) (n.2.2*v.2.2.2)=qO n.2.2 v.2.2:=rfl;have f4:max (n.1*v.1.1) (n.1*v.1.2)=qQ n.1 v.1:=rfl;have f5:max (n.2.1*v.2.1.1) (n.2.1*v.2.1.2)=qQ n.2.1 v.2.1:=rfl;have f6:max (n.2.2*v.2.2.1) (n.2.2*v.2.2.2)=qQ n.2.2 v.2.2:=rfl;generalize u:qO n.1 v.1=a at *;generalize x:qO n.2.1 v.2.1=c at *;generalize y:qO n.2.2 v.2.2=e at *;generalize z:qQ n.1 v.1=b at *;generalize A:qQ n.2.1 v.2.1=d at *;generalize B:qQ n.2.2 v.2.2=f at *;have E:i64.wrap a=a:=aa;have F:i64.wrap (a+c)=a+c:=aa;have G:i64.wrap (a+c+e)=a+c+e:=aa;have H:i64.wrap b=b:=aa;have I:i64.wrap (b+d)=b+d:=aa;have J:i64.wrap (b+d+f)=b+d+f:=aa;refine Dp func327 λC hP hN=>?_;refine Gz ?_;refine WP.loopN [9] 3 (λk st=>st.t 2=.ptr 2 0/\st.h 2=some (.box [.pv (Z n.1),.pv (Z n.2.1),.pv (Z n.2.2)] true false)/\st.t 12=.pv (bh v)/\st.t 13=.pv (Z k)/\st.h 9=none/\st.t 6=.pv (Z (if k=0 then 0 else if k=1 then a else if k=2 then a+c else a+c+e))/\st.t 7=.pv (Z (if k=0 then 0 else if k=1 then b else if k=2 then b+d else b+d+f))) (by simp) ?_;rintro k st s ⟨g2,q,l,m,r,o,p⟩;rcases dC s with rfl|rfl|rfl|rfl
 all_goals (simp at o p)
 all_goals
  exact Gy
abbrev Aj(n:Vc):PV:=.rptr (ai n) 0
abbrev VE(n:Vc):PV:=.agg [.fn (.func 326) [] [Aj n],.val (.func (.func 328) #[] #[])]
abbrev VF(n:Vc):PV:=.agg [.fn (.func 329) [] [Aj n],.val (.func (.func 330) #[] #[])]
theorem VG(n:Vc):aT 316 (ai n) (VE n):=by
 refine Dp func316 λC hP hN=>?_;exact Gy
theorem VH(n:Vc):aT 318 (ai n) (VF n):=by
 refine Dp func318 λC hP hN=>?_;exact Gy
theorem VI(x y:Int):aH 328 (Z x) (Z y) (B (decide (x<y))):=by
 refine Dp func328 λC hP hN=>?_;exact Gy
theorem VJ(x y:Int):aH 330 (Z x) (Z y) (B (decide (y<x))):=by
 refine Dp func330 λC hP hN=>?_;exact Gy
theorem VK(n:Vc)(v:aq)(hn:ax 16384 n=true)(c:bK v=true):aH 326 (bh v) (Aj n) (Z (fQ n v)):=by
 have d:=QN n v hn c;generalize fQ n v=a at *;generalize fS n v=b at *;refine Dp func326 λC hP hN=>?_;exact Gy
theorem VL(n:Vc)(v:aq)(hn:ax 16384 n=true)(c:bK v=true):aH 329 (bh v) (Aj n) (Z (fS n v)):=by
 have d:=QN n v hn c;generalize fQ n v=a at *;generalize fS n v=b at *;refine Dp func329 λC hP hN=>?_;exact Gy
def gv(val:aq->Int)(bet:Int->Int->Bool)(xs:List aq):Nat->Int×Nat
 |0=>(0,0)
 |i+1=>match xs[i]? with
  |some v=>if i=0\/bet (val v) (gv val bet xs i).1=true then(val v,i)else gv val bet xs i
  |none=>gv val bet xs i
def CB(val:aq->Int)(bet:Int->Int->Bool)(xs:List aq):Int×Nat:=gv val bet xs xs.length
theorem xF{val:aq->Int}{bet:Int->Int->Bool}{v:aq}(h:xs[i]?=some v):gv val bet xs (i+1)=if i=0\/bet (val v) (gv val bet xs i).1=true then(val v,i)else gv val bet xs i:=by simp only[gv,h]
theorem QO(n:Vc)(f g:FuncId)(val:aq->Int)(bet:Int->Int->Bool)(xs:List aq)(F:xs.length<=1000)(hf:∀v,bK v=true->aS prog f [.pv (bh v),.pv (Aj n)] [] [] (.pv (Z (val v))))(z:∀x y,aS prog g [.pv (Z x),.pv (Z y)] [] [] (.pv (B (bet x y))))(hp:xs.all bK=true):aH 317 (.agg [.fn (.func f) [] [Aj n],.val (.func (.func g) #[] #[])]) (aD xs) (.tup [Z (CB val bet xs).1,Z (CB val bet xs).2]):=by
 refine Dp func317 λC hP hN=>?_;refine Gz ?_;refine WP.loopN [9] xs.length (λi st=>st.t 2=.ptr 2 0/\st.h 2=some (.box [.pv (.fn (.func f) [] [Aj n]),.pv (.val (.func (.func g) #[] #[]))] true false)/\st.t 11=.pv (aD xs)/\st.t 12=.pv (Z xs.length)/\st.t 13=.pv (Z i)/\st.h 9=none/\st.t 6=.pv (Z (gv val bet xs i).1)/\st.t 7=.pv (Z (gv val bet xs i).2)) (by simp[gv]) ?_;rintro i st hi ⟨g2,r,m,o,p,u,D,E⟩;by_cases c:i<xs.length
 .have G:=ae c (by omega)
  generalize e:xs[i]=v at *
  have l:xs[i]?=some v:=by rw[an c,e]
  have A:=hf v (L4.1 hp v (An l));have b:=xF (val:=val) (bet:=bet) l;generalize gv val bet xs i=s at *;generalize gv val bet xs (i+1)=H at *;have j:=z (val v) s.1;generalize val v=y at *;by_cases k:i=0
  .subst k
   rw[YY (.inl rfl)]at b;subst b;exact Gy
  .have q:((i:Int)==0)=false:=by simp;omega
   cases a:bet y s.1 with
   |true=>
    rw[a]at j;rw[YY (.inr a)]at b;subst b;exact Gy
   |false=>
    rw[a]at j;rw[YR (by rintro(h|h);exact k h;rw[a]at h;cases h)]at b;subst b;exact Gy
 .have d:i=xs.length:=by omega
  subst d;refine Gz ?_
  all_goals exact⟨rfl,rfl⟩
def dO(x y:Int):Bool:=decide (x<y)
def dP(x y:Int):Bool:=decide (y<x)
def fU(n:Vc)(xs:List aq):Int×Nat:=CB (fQ n) dO xs
def fW(n:Vc)(xs:List aq):Int×Nat:=CB (fS n) dP xs
theorem bm(h:au xs=true):xs.all bK=true/\xs.length<=8/\1<=xs.length:=by
 simp only[au,up,Is]at h;exact⟨h.2,h.1.2,h.1.1⟩
theorem VM(n:Vc)(xs:List aq)(f:xs.length<=9223372036854775807):aH 299 (ai n) (aD xs) (.tup (if aI n&&au xs then[Z (fU n xs).1,Z (fU n xs).2,B true]else[Z 0,Z 0,B false])):=by
 have d:=FL n;have c:=vK xs f
 cases b:aI n with
 |false=>
  rw[b]at d;refine Dp func299 λC hP hN=>?_;exact Gy
 |true=>
  rw[b]at d
  cases a:au xs with
  |false=>
   rw[a]at c;refine Dp func299 λC hP hN=>?_;exact Gy
  |true=>
   rw[a]at c
   have hn:ax 16384 n=true:=by simp only[aI,up]at b;exact b.1
   obtain⟨h1,h2,_⟩:=bm a;have e:=QO n 326 328 (fQ n) dO xs (by omega) (λv g=>VK n v hn g) VI h1;have hL:CB (fQ n) dO xs=fU n xs:=rfl;rw[hL]at e;generalize fU n xs=r at *;refine Dp func299 λC hP hN=>?_;have i:=VG n;exact GS trivial
theorem VN(n:Vc)(xs:List aq)(f:xs.length<=9223372036854775807):aH 300 (ai n) (aD xs) (.tup (if aI n&&au xs then[Z (fW n xs).1,Z (fW n xs).2,B true]else[Z 0,Z 0,B false])):=by
 have d:=FL n;have c:=vK xs f
 cases b:aI n with
 |false=>
  rw[b]at d;refine Dp func300 λC hP hN=>?_;exact Gy
 |true=>
  rw[b]at d
  cases a:au xs with
  |false=>
   rw[a]at c;refine Dp func300 λC hP hN=>?_;exact Gy
  |true=>
   rw[a]at c
   have hn:ax 16384 n=true:=by simp only[aI,up]at b;exact b.1
   obtain⟨h1,h2,_⟩:=bm a;have e:=QO n 329 330 (fS n) dP xs (by omega) (λv g=>VL n v hn g) VJ h1;have hL:CB (fS n) dP xs=fW n xs:=rfl;rw[hL]at e;generalize fW n xs=r at *;refine Dp func300 λC hP hN=>?_;have i:=VH n;exact GS trivial
abbrev Ak(a:List aq)(c:Int)(b:List aq)(d:Int):PV:=.agg [aD a,Z c,aD b,Z d]
def pX(a:List aq)(r:Int):Bool:=au a&&decide (0<=r)&&decide (r<=1048576)
theorem QP(a:List aq)(r:Int)(b:a.length<=9223372036854775807):aT 298 (.agg [aD a,Z r]) (B (pX a r)):=by
 have d:=vK a b;have c:pX a r=(au a&&decide (0<=r)&&decide (r<=1048576)):=rfl;rw[c];generalize au a=p at *;cases p
 all_goals
  refine Dp func298 λC hP hN=>?_;exact Gy
  all_goals (try (simp only[Is,Y4]at hgd;intros;omega))
theorem VO(a:List aq)(c:Int)(b:List aq)(d:Int):mD 245 (aD a) (Z c) (aD b) (Z d) (Ak a c b d):=by
 refine Dp func245 λC hP hN=>?_;exact Gy
theorem Al{val:aq->Int}{bet:Int->Int->Bool}{xs:List aq}{m:Int}(a:0<=m)(h:∀v∈xs,-m<=val v/\val v<=m):∀i,-m<=(gv val bet xs i).1/\(gv val bet xs i).1<=m
 |0=>by simp[gv];omega
 |i+1=>by
  have ih:=Al (val:=val) (bet:=bet) a h i;simp only[gv];split
  .rename_i v b
   split
   .exact h v (An b)
   .exact ih
  .exact ih
theorem HD{n:Vc}{v:aq}(hn:ax 16384 n=true)(a:bK v=true):(-13194139533312<=fQ n v/\fQ n v<=13194139533312)/\(-13194139533312<=fS n v/\fS n v<=13194139533312):=by
 rw[br]at hn;rw[fF]at a;obtain⟨n1,n2,b⟩:=hn;obtain⟨v1,v2,v3⟩:=a;have a1:=oL n1 v1;have a2:=oL n2 v2;have a3:=oL b v3;unfold fQ fS;omega
theorem Du{n:Vc}(hn:ax 16384 n=true)(b:xs.all bK=true):-13194139533312<=(fU n xs).1/\(fU n xs).1<=13194139533312:=
 Al (by decide) (λv a=>(HD hn (L4.1 b v a)).1) _
theorem Dv{n:Vc}(hn:ax 16384 n=true)(b:xs.all bK=true):-13194139533312<=(fW n xs).1/\(fW n xs).1<=13194139533312:=
 Al (by decide) (λv a=>(HD hn (L4.1 b v a)).2) _
theorem Ky{v:Vc}(c:ax 16384 v=true):xE v<=805306368:=by
 rw[br,aU,aU,aU]at c;obtain⟨v1,v2,v3⟩:=v;simp only at c;have m1:=bi (a:=v1) (b:=v1) 16384 16384 (by omega) (by omega) (by omega) (by omega);have m2:=bi (a:=v2) (b:=v2) 16384 16384 (by omega) (by omega) (by omega) (by omega);have d:=bi (a:=v3) (b:=v3) 16384 16384 (by omega) (by omega) (by omega) (by omega);show(v1*v1+v2*v2+v3*v3).toNat<=_;omega
theorem vO(v:Vc):0<=eY v/\eY v<=32768:=by
 unfold eY;split
 .rename_i a
  have b:ax 16384 v=true:=by simp only[aI,up]at a;exact a.1
  have h1:=Ky b;have h2:=(sH (n:=xE v) (by omega)).1
  have h3:cZ (xE v)<32768:=by
   rcases Nat.lt_or_ge (cZ (xE v)) 32768 with h|h
   .exact h
   .have:=yAa h h;omega
  unfold tz;split<;>omega
 .omega
def lM(n:Vc)(a:List aq)(c:Int)(b:List aq)(d:Int):Int:=(fU n a).1-(fW n b).1-eY n*(c+d)
def kz(n:Vc)(a:List aq)(c:Int)(b:List aq)(d:Int):Bool:=pX a c&&pX b d&&aI n
theorem VP(n:Vc)(a:List aq)(c:Int)(b:List aq)(d:Int)(p:a.length<=9223372036854775807)(i:b.length<=9223372036854775807):aH 283 (Ak a c b d) (ai n) (.tup (if kz n a c b d then[Z (lM n a c b d),B true]else[Z 0,B false])):=by
 have m:=QP a c p;have o:=QP b d i;have y:kz n a c b d=(pX a c&&pX b d&&aI n):=rfl;rw[y]
 cases ha:pX a c with
 |false=>
  rw[ha]at m;refine Dp func283 λC hP hN=>?_;exact Gy
 |true=>
  rw[ha]at m
  cases hb:pX b d with
  |false=>
   rw[hb]at o;refine Dp func283 λC hP hN=>?_;exact Gy
  |true=>
   rw[hb]at o;simp only[pX,up,Is]at ha hb;obtain⟨⟨e,s⟩,u⟩:=ha;obtain⟨⟨f,v⟩,x⟩:=hb;have cl:=VM n a p;have k:=VN n b i;rw[e,yAp]at cl;rw[f,yAp]at k
   cases j:aI n with
   |false=>
    rw[j]at cl;simp at cl;refine Dp func283 λC hP hN=>?_;exact Gy
   |true=>
    rw[j]at cl k;simp at cl k
    have hn:ax 16384 n=true:=by simp only[aI,up]at j;exact j.1
    have A:=Du hn (bm e).1;have D:=Dv hn (bm f).1;have E:=vO n;have z:=QM n;have r:lM n a c b d=(fU n a).1-(fW n b).1-eY n*(c+d):=rfl;rw[r];generalize fU n a=l at *;generalize fW n b=g at *;generalize eY n=q at *;have m1:=bi (a:=q) (b:=c+d) 32768 2097152 (by omega) (by omega) (by omega) (by omega);have w1:i64.wrap (c+d)=c+d:=aa;have w2:i64.wrap (q*(c+d))=q*(c+d):=aa;have F:i64.wrap (l.1-g.1)=l.1-g.1:=aa;have G:i64.wrap (l.1-g.1-q*(c+d))=l.1-g.1-q*(c+d):=aa;refine Dp func283 λC hP hN=>?_;exact Gy
def iZ(n:Vc)(a:List aq)(c:Int)(b:List aq)(d:Int):Bool:=kz n a c b d&&decide (0<lM n a c b d)
theorem VQ(n:Vc)(a:List aq)(c:Int)(b:List aq)(d:Int)(g:a.length<=9223372036854775807)(e:b.length<=9223372036854775807):aH 244 (Ak a c b d) (ai n) (B (iZ n a c b d)):=by
 have f:=VP n a c b d g e;have i:iZ n a c b d=(kz n a c b d&&decide (0<lM n a c b d)):=rfl;rw[i];generalize lM n a c b d=m at *;cases hb:kz n a c b d<;>rw[hb]at f<;>simp at f
 all_goals
  refine Dp func244 λC hP hN=>?_;exact Gy
theorem VR(n:Vc)(a:List aq)(c:Int)(b:List aq)(d:Int)(f:a.length<=9223372036854775807)(e:b.length<=9223372036854775807):xW 210 (ai n) (aD a) (Z c) (aD b) (Z d) (B (iZ n a c b d)):=by
 have g:=VQ n a c b d f e;generalize iZ n a c b d=s at *;refine Dp func210 λC hP hN=>?_;have i:=VO a c b d;exact GS trivial
end Go.Ab
