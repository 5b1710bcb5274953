/- The contracts and facts that the laws of this seat need, in one text (AbC, Ab27, Ab37, Ab38, Ab39, AbH, AbQ, TrA, Tr3). -/
import Derived.Test.YtdbgcnplnhmjgaaGreatW5
import Derived.TacticsIn
import Derived.RangeFuncRecord
import Derived.RangeFuncLeaves
import Derived.RangeFuncCalls
import Derived.RangeFuncSeq
import Derived.RecoverIn
set_option linter.all false
set_option maxRecDepth 10000
set_option maxHeartbeats 16000000
namespace Go.Ab
open IntKind (i64)
open Go.Proofs.Tryz
variable {C:Cx}{F:Fence}{M:Nat->Nat->Prop}{N d i id j l n p:Nat}{P:Program}{Post:AV->Hp->Prop}{Q:Exit->St->Prop}{a:Act}{assign body y:Code}{caps xs:List PV}{f gop s x:Operand}{far:List Int}{fn:Func}{g gf:FuncId}{hn kd ts:List Nat}{lb:List Value}{next:Act->World->Prop}{o:Oper}{ob:Obj}{ops:Array Oper}{post pre:List Oper}{r:List (Int×Int)}{res:RV}{st:St}{v:Int}{w w':World}{α:Type}
def qX(ops:Array Oper):Bool:=ops.toList.all λo=>match o.op with|.defer _=>false|_=>true
theorem lZ(h:qX ops=true)(b:o∈ops.toList):∀c,o.op≠.defer c:=by
 intro c a;have:=TY.1 h o b;rw[a]at this;cases this
structure Wide(F:Fence):Prop where
 fn:∀f,F.fn f
 depth:F.depth=none
 calls:∀{n:Nat}{P:Program}{f:FuncId}{args:Array Value}{w:World}{R:Ending->World->Prop},Calls P f args w R->CallsIn F n P f args w R
 rows:∀{n:Nat}{P:Program}{row:String}{args:Array Value}{w:World}{R:Value->World->Prop},Rows P row args w R->RowsIn F n P row args w R
theorem gJ:Wide Fence.wide:=⟨λ_=>trivial,rfl,λh=>callsIn_wide.2 h,λh c a _=>let⟨v,w',r,s⟩:=h c a;⟨v,w',r,stepsIn_wide.2 s⟩⟩
theorem zk(l:Nat):Wide (Fence.wide.inRound l):=⟨λ_=>trivial,rfl,λh=>(callsIn_wide.2 h).inRound l,λh=>gJ.rows h⟩
theorem Ee(hF:Wide F)(hd:∀c,o.op≠.defer c){Q:Exit->Act->World->Prop}
 (h:o.wp P a w next Q):o.wpIn F n P a w next Q:=by
 refine⟨λf _=>hF.fn f,?_⟩;rw[Oper.semAt_eq _ _ _ hd];unfold Oper.wp at h
 cases e:(execOp a.eval o).run P w with
 |ok nx w'=>
  rw[e]at h
  cases nx with
  |value v=>exact h
  |skip=>exact h
  |defer d=>exact h
  |enter f args=>exact⟨λb=>(by rw[hF.depth]at b;cases b),hF.calls h⟩
  |row r args=>exact⟨λb=>(by rw[hF.depth]at b;cases b),hF.rows h⟩
  |_=>exact h.elim
 |halt k w'=>
  rw[e]at h
  cases k with
  |panic v=>exact h
  |_=>exact h.elim
def gX(C:Cx)(L:Nat->Loc)(st:St)(a:Act)(w:World):Prop:=
 MemL C L st.h w/\a.tmps.size=C.N/\∀n,RepA w (ae C L st.h) L st.h (st.t n) (a.tmps.getD n undef)
theorem gX.put{L:Nat->Loc}(hs:gX C L st a w){d:Option Nat}(hd:dr C.N d=true){v:AV}{W:List (Nat×Blk)}{u:Value}{L':Nat->Loc}
 (c:aM C L st.h w L' (ai st.h W) w')(g:RepA w' (ae C L' (ai st.h W)) L' (ai st.h W) v u):gX C L' (st.put d v W) (a.put d u) w':=by
 obtain⟨i,hN,f⟩:=hs;refine⟨c.1,?_,λn=>?_⟩
 .cases d<;>simp[Act.put,hN]
 .have b:=(f n).mono c.2.1 c.2.2
  cases d with
  |none=>exact b
  |some d=>
   have e:d<a.tmps.size:=by rw[hN];simp only[dr,An,L4]at hd;exact hd.1
   rw[ry e];simp only[St.put,ag];split
   .exact g
   .exact b
theorem Fj(st:St)(d:Option Nat)(v:AV)(W:List (Nat×Blk)):(st.put d v W).h=ai st.h W:=by cases d<;>rfl
theorem kB(a:Act)(d:Option Nat)(u:Value):(a.put d u).defers=a.defers:=by cases d<;>rfl
theorem Cl{L:Nat->Loc}(hs:gX C L st a w)(s:∀c,o.op≠.defer c)(hd:dr C.N o.dst=true){K:cX->Prop}(e:vh C.P hn o st.ev st.h K){Q:Exit->Act->World->Prop}
 (j:∀f q w' L',K f->gX C L' (st.put o.dst f.1 f.2) q w'->aM C L st.h w L' (st.put o.dst f.1 f.2).h w'->q.defers=a.defers->next q w'):o.wp C.P a w next Q:=by
 have v:=hs;obtain⟨p,hN,z⟩:=v
 have i:s7 C.P hn o st.ev st.h K->o.wp C.P a w next Q:=λe=>
  Ca p (λ_ _ h=>h) (λd r=>⟨rfl,by rw[r]at hd;simp only[dr,An,L4]at hd;exact hd.2⟩) (λx _=>dj z x) e (λf u w' L' O B R=>j f _ _ L' O (hs.put hd B R) (by rw[Fj];exact B) (kB _ _ _))
 unfold vh at e;split at e
 .rename_i c k
  exact absurd k (s c)
 .rename_i op t x y t' k
  split at e
  .rename_i D
   simp only[An,UQ,UP]at D;obtain⟨⟨⟨F,G⟩,H⟩,l⟩:=D;have T:=xY F (dj z y);obtain⟨A,n,c,S⟩:=uQ p (dj z x) H
   obtain⟨b,M⟩:∃b:Bool,(op=.eql/\b=A.isNone)\/(op=.neq/\b=!A.isNone):=by
    rcases l with l|l
    .exact⟨_,.inl ⟨l,rfl⟩⟩
    .exact⟨_,.inr ⟨l,rfl⟩⟩
   have m:(execOp a.eval o).run C.P w=.ok (.value (.bool b)) w:=by
    obtain⟨I,U,V,pos,E,g⟩:=o;simp only at k;subst k;exact mC (Af (ru G) S T M) w
   have J:K (.pv (.val (.bool b)),[]):=by cases b with
    |true=>exact e.1
    |false=>exact e.2
   unfold Oper.wp;rw[m];exact j _ _ _ L J (hs.put hd (W:=[]) (aM.refl p) (.pv (.val _))) (by rw[Fj];exact aM.refl p) (kB _ _ _)
  .exact i e
 .exact i e
theorem iS{F:Fence}(hF:Wide F){n:Nat}{C:Cx}{hn:List Nat}{ops:Array Oper}{Q:St->Prop}{Q':Exit->Act->World->Prop}{E:Nat->Loc}{G:Hp}{w0:World}{ds:List Deferred}
 (u:∀st L a w,gX C L st a w->aM C E G w0 L st.h w->a.defers=ds->Q st->Q' .normal a w):
 ∀{l:List Oper}{st:St}{L:Nat->Loc}{a:Act}{w:World},(∀o∈l,∀c,o.op≠.defer c)->gX C L st a w->aM C E G w0 L st.h w->a.defers=ds->dR C.P hn C.N ops Q l st->wpListIn F n C.P ops Q' l a w
 |[],st,L,a,w,_,q,r,g,e=>u st L a w q r g e
 |o::l,st,L,a,w,s,q,r,g,e=>by
  have B:=q;obtain⟨J,hN,H⟩:=B;simp only[dR]at e;obtain⟨hd,e⟩:=e;have i:∀D∈l,∀c,D.op≠.defer c:=λD A=>s D (Wt _ A);have v:=s o List.mem_cons_self;unfold wpListIn;split at e
  .rename_i y
   rw[eJ H (pg y),T6 rfl];exact Ee hF v (Cl q v hd e (λx I w' L' z j k m=>iS hF u i j (r.trans k) (m.trans g) z))
  .rename_i d b want y
   rw[eJ H (mB y)];unfold xe at e;simp only at e;split at e
   .rename_i p
    subst p;rw[T6 (by simp)];exact Ee hF v (Cl q v hd e (λx I w' L' z j k m=>iS hF u i j (r.trans k) (m.trans g) z))
   .rename_i p
    rw[TZ (by simpa using p)];exact⟨λf _=>hF.fn f,iS hF u i (q.put hd (W:=[]) (aM.refl J) (.pv (.val _))) (by rw[Fj];exact r) ((kB _ _ _).trans g) e⟩
  .exact e.elim
def aI(F:Fence)(C:Cx)(c:Code)(Q:Exit->St->Prop)(st:St):Prop:=
 ∀n L a w,gX C L st a w->c.wpIn F n C.P (λe d w'=>∃b L',gX C L' b d w'/\aM C L st.h w L' b.h w'/\d.defers=a.defers/\Q e b) a w
section
variable {F:Fence} {C:Cx} {Q:Exit->St->Prop} {st:St}
theorem aI.region(hF:Wide F)(a:qX ops=true)(h:dR C.P hn C.N ops (Q .normal) ops.toList st):aI F C (.region id ops false) Q st:=
 λ_ _ _ _ d=>wpIn_region_list (iS hF (λc L' _ _ b e hd hq=>⟨c,L',b,e,hd,hq⟩) (λ_ f=>lZ a f) d (aM.refl d.1) rfl h)
def BD(F:Fence)(C:Cx)(y:Code)(Q:Exit->St->Prop):Exit->St->Prop
 |.normal,st=>aI F C y Q st
 |e,st=>Q e st
theorem aI.seq{x:Code}(h:aI F C x (BD F C y Q) st):aI F C (.seq x y) Q st:=by
 intro n L a w o;refine wpIn_seq (wpIn_mono (h n L a w o) ?_);rintro e m w' ⟨i,L',b,k,hd,hq⟩
 cases e with
 |normal=>exact wpIn_mono (hq n L' m w' b) (λe p q ⟨j,l,g,c,d,f⟩=>⟨j,l,g,k.trans c,d.trans hd,f⟩)
 |_=>exact⟨i,L',b,k,hd,hq⟩
theorem aI.skip(h:Q .normal st):aI F C .skip Q st:=λ_ L _ _ a=>wpIn_skip ⟨st,L,a,aM.refl a.1,rfl,h⟩
theorem aI.ret(h:Q .ret st):aI F C .ret Q st:=λ_ L _ _ a=>wpIn_ret ⟨st,L,a,aM.refl a.1,rfl,h⟩
theorem aI.exit(h:Q (.exit id) st):aI F C (.exit id) Q st:=λ_ L _ _ a=>wpIn_exit ⟨st,L,a,aM.refl a.1,rfl,h⟩
theorem aI.cond{c:Operand}{x:Code}{b:Bool}(g:st.ev c=.pv (.val (.bool b)))(j:b=true->aI F C x Q st)(hf:b=false->aI F C y Q st):aI F C (.cond c x y) Q st:=by
 intro n L a w f
 have d:a.eval c=.bool b:=by
  have:=dj f.2.2 c;rw[g]at this
  cases this with
  |pv i=>exact aR i
 exact wpIn_cond_split d (λe=>j e n L a w f) (λe=>hf e n L a w f)
theorem aI.block{c:Code}(h:aI F C c (r7 id Q) st):aI F C (.block id c) Q st:=by
 intro n L a w g;refine wpIn_block (wpIn_mono (h n L a w g) ?_);rintro e j w' ⟨d,L',b,f,hd,hq⟩
 cases e with
 |exit i=>
  simp only[r7,Exit.inBlock]at hq|-;split
  .rename_i e;rw[T6 e]at hq;exact⟨d,L',b,f,hd,hq⟩
  .rename_i e;rw[TZ e]at hq;exact⟨d,L',b,f,hd,hq⟩
 |_=>exact⟨d,L',b,f,hd,hq⟩
theorem aI.mono{c:Code}{Q':Exit->St->Prop}(h:aI F C c Q st)(hq:∀e st,Q e st->Q' e st):aI F C c Q' st:=
 λn L a w i=>wpIn_mono (h n L a w i) (λe _ _ ⟨b,L',f,g,hd,d⟩=>⟨b,L',f,g,hd,hq e b d⟩)
end
theorem Kt{b o:Nat}{v:Value}(d:w.heap[l]?=some ob)(c:ob.isCells=false)(h:w.cell? ⟨b,o,none⟩=some v):b≠l:=by
 intro e;subst e;obtain⟨f,h1,a⟩:=cells_of_cell h;simp only at h1;rw[d]at h1;injection h1 with h1;subst h1;rw[c]at a;cases a
theorem Lq{L:Nat->Loc}{h:Hp}{a:Loc}{blk:Blk}(d:dQ w M L h a blk)(k:blk.live a)(g:w.heap[l]?=some ob)(j:ob.isCells=false)(f:∀arr c,ob≠.map arr c):a.b≠l:=by
 intro e;subst e
 cases blk with
 |box m own i=>obtain⟨arr,q,e,_⟩:=d;rw[g]at e;injection e with e;subst e;cases j
 |row e p xs i=>obtain⟨_,_,_,_,h5⟩:=d;obtain⟨_,_,arr,e,_⟩:=h5 k;rw[g]at e;injection e with e;subst e;cases j
 |mp kd n o i=>obtain⟨arr,c,e,_⟩:=d;rw[g]at e;injection e with e;exact f _ _ e
theorem MemL.turn{L:Nat->Loc}{h:Hp}(d:MemL C L h w)(x:C.w0.heap[l]?=some ob)(hS:¬C.S l)(u:ob.isCells=false)(n:∀arr c,ob≠.map arr c)(g:Obj):
 MemL {C with w0:=C.w0.putObj l g} L h (w.putObj l g)/\Pres w (ae C L h) (w.putObj l g) (ae C L h):=by
 have j:l<C.w0.heap.size:=(Ux.1 x).1;have q:w.heap[l]?=some ob:=(d.ext.block l j hS).trans x;have m:l<w.heap.size:=(Ux.1 q).1;have f:Pres w (ae C L h) (w.putObj l g) (ae C L h):=⟨λb o v i hn=>⟨(World.cell?_of_block (World.putObj_heap_other (Kt q u i))).trans i,hn⟩,λb arr c i hn=>⟨(World.putObj_heap_other (by rintro rfl;rw[q]at i;injection i with i;exact n _ _ i)).trans i,hn⟩⟩;refine⟨⟨⟨d.ext.os,d.ext.tape,d.ext.output,by simpa using d.ext.size,λb r z=>?_⟩,λb o r=>by simpa using d.m0 b o r,λk a p=>(d.bl k a p).mono f (KC.refl _ _) (λs=>World.putObj_heap_other (Lq (d.bl k a p) s q u n)),d.sep,λk a p=>?_⟩,f⟩
 .by_cases e:b=l
  .subst e
   rw[World.putObj_heap_same m,World.putObj_heap_same j]
  .rw[World.putObj_heap_other e,World.putObj_heap_other e]
   exact d.ext.block b (by simpa using r) z
 .have:=d.own k a p
  cases a with
  |box A own y=>cases own with
   |true=>simpa[fo]using this
   |false=>simpa[fo]using this
  |row e B xs y=>simpa[fo]using this
  |mp=>simpa[fo]using this
theorem xl{o:Obj}(h:w.heap[l]?=some o):w.putObj l o=w:=by
 have:w.heap.setIfInBounds l o=w.heap:=by
  apply Array.ext_getElem?;intro i;rw[Array.getElem?_setIfInBounds];by_cases e:l=i
  .subst e
   rw[T6 rfl,T6 (Ux.1 h).1,h]
  .rw[TZ e]
 show{w with heap:=w.heap.setIfInBounds l o}=w;rw[this]
theorem uS(w:World)(l:Nat)(o o':Obj):(w.putObj l o).putObj l o'=w.putObj l o':=by
 show{w with heap:=(w.heap.setIfInBounds l o).setIfInBounds l o'}={w with heap:=w.heap.setIfInBounds l o'}
 congr 1
 apply Array.ext_getElem?;intro i;simp only[Array.getElem?_setIfInBounds,Array.size_setIfInBounds];by_cases e:l=i
 .subst e;simp
 .simp[e]
theorem ya{a:Array Value}{u:Value}(hd:d<a.size)(n:Nat):(a.setIfInBounds d u).getD n undef=if n=d then u else a.getD n undef:=by
 simp only[T7];by_cases e:n=d
 .subst e;simp[hd]
 .rw[TZ e,US (by omega)]
theorem nk{b:Nat}{ps:List PV}(h:kT w M b ps):b<w.heap.size:=by
 obtain⟨arr,a,e,_⟩:=h;exact(Ux.1 e).1
def Fk(P:Program)(gf:FuncId)(caps:List PV)(xs:List (PV×PV)):Prop:=
 dh P gf=true/\∀(n l:Nat)(lb:List Value)(W:World)(M:Nat->Nat->Prop)(J:Nat->(Nat->Nat->Prop)->World->Prop),
  (∀i M W,J i M W->∀b o,M b o->b<W.heap.size)->(∀i M W a,J i M W->Ext (λ_=>False) W a->J i M a)->
  (∀m i x M W d f,xs[i]?=some x->J i M W->Rep W M x.1 d->Rep W M x.2 f->YieldAt Fence.wide m P l #[d,f] W λe a=>e=.returned (.bool true)/\∃c,J (i+1) c a/\Pres W M a c)->
  J 0 M W->bY W M caps lb->CallsIn Fence.wide n P gf (#[.func (.yield l) #[] #[]]++lb.toArray) W λe a=>(∃v,e=.returned v)/\∃c,J xs.length c a
def kC(ks:List Nat)(hin:Nat->List PV):Hp:=λk=>if ks.contains k=true then some (.box ((hin k).map .pv) false false)else none
def qa(t:Nat->AV)(p q:Nat)(x:PV×PV):Nat->AV:=ag (ag t p (.pv x.1)) q (.pv x.2)
theorem Ib{q:Nat}(hg:a.eval gop=.func (.func gf) #[] lb.toArray)
 {caps:List PV}{xs:List (PV×PV)}(hit:Fk P gf caps xs){M:Nat->Nat->Prop}(hM:∀b o,M b o->b<w.heap.size)(a8:bY w M caps lb)
 {ks:List Nat}{O:Nat->Nat}{hin:Nat->List PV}(H:∀k∈ks,(∀o,M (O k) o)/\kT w M (O k) (hin k))(ba:∀k∈ks,∀k'∈ks,k≠k'->O k≠O k')
 (hN:a.tmps.size=N)(hp:p<N)(hq:q<N){t:Nat->AV}(ht:∀m,(∃k∈ks,t m=.ptr k 0/\a.tmps.getD m undef=.pointer (some ⟨O k,0,none⟩))\/t m=.undef)
 (I:Nat->Hp->Prop)(h0:I 0 (kC ks hin))(hI:∀i h k,k∈ks->I i h->∃cs,h k=some (.box cs false false))
 (U:∀(C C':Cx)(l i:Nat)(x:PV×PV)(h:Hp),C.P=P->C.N=N->C'.P=P->C'.N=N->xs[i]?=some x->I i h->
   aI (Fence.wide.inRound l) C assign (λe cu=>e=.normal/\aI (Fence.wide.inRound l) C' body (λe' bH=>e'=.normal/\I (i+1) bH.h) cu) ⟨qa t p q x,h⟩):
 (Code.rangeFunc gop #[p,q] assign body).wpIn Fence.wide n P (λe a' w'=>e=.normal/\∃(C:Cx)(L:Nat->Loc)(h:Hp)(D:Nat),C.P=P/\C.N=N/\C.M0=M/\(∀b,C.S b->∃k∈ks,b=O k)/\
   MemL C L h w'/\I xs.length h/\(∀k∈ks,(L k).b=O k)/\Ext (λ_=>False) w C.w0/\C.w0.heap[D]?=some (.deferred (some []))/\¬C.S D/\w.heap.size<=D/\a'={a with defers:={target:=.collected D,args:=#[]}::a.defers}) a w:=by
 refine wpIn_rangeFunc ?_;intro fn _;obtain⟨d,j⟩:∃d:LoopState->Option Code->Loop,d=λst pe=>{state:=st,pending:=pe,fn,tmps:=a.tmps,params:=#[p,q],assign,body,defers:=w.heap.size}:=⟨_,rfl⟩;obtain⟨E,Q⟩:∃E,(w.alloc (.deferred (some []))).alloc (.loop (d .ready none))=E:=⟨_,rfl⟩
 have K:Ext (λ_=>False) w E:=by rw[<-Q];exact(Ext.alloc _ _ _).trans (Ext.alloc _ _ _) (λ_ _ h=>h)
 have cB:E.heap.size=w.heap.size+2:=by rw[<-Q];simp
 have X:E.heap[w.heap.size+1]?=some (.loop (d .ready none)):=by
  rw[<-Q];have:=World.alloc_heap_new (w.alloc (.deferred (some []))) (.loop (d .ready none));rwa [World.size_alloc]at this
 have b4:E.heap[w.heap.size]?=some (.deferred (some [])):=by
  rw[<-Q];exact(RowKit.Below.heap_alloc _ _ _ (by simp)).trans (World.alloc_heap_new w _)
 obtain⟨l,hl⟩:∃l,l=w.heap.size+1:=⟨_,rfl⟩;rw[<-hl]at X;obtain⟨g,f⟩:∃g:Obj->Cx,g=λo=>{P:=P,N:=N,M0:=M,S:=λb=>∃k∈ks,b=O k,pb:=λk=>if ks.contains k=true then some (O k)else none,w0:=E.putObj l o}:=⟨_,rfl⟩
 have hS:∀o b,(g o).S b->b<w.heap.size:=by
  intro o b u;rw[f]at u;obtain⟨k,r,rfl⟩:=u;exact nk (H k r).2
 have J:∀o,(g o).w0=E.putObj l o:=λo=>by rw[f]
 have a5:∀o o' L h,ae (g o) L h=ae (g o') L h:=λo o' L h=>by rw[f];rfl
 have Y:∀(o:Obj),(g o).w0.heap[l]?=some o:=λo=>by rw[J];exact World.putObj_heap_same (Ux.1 X).1
 have bb:∀o,¬(g o).S l:=λo h=>by have:=hS o l h;omega
 have A:∀{o o':Obj}{L:Nat->Loc}{h:Hp}{W:World},o.isCells=false->(∀arr c,o≠.map arr c)->MemL (g o) L h W->W.heap[l]?=some o/\MemL (g o') L h (W.putObj l o')/\Pres W (ae (g o) L h) (W.putObj l o') (ae (g o') L h):=by
  intro o o' L h W ho cg F;have ca:l<(g o).w0.heap.size:=(Ux.1 (Y o)).1;obtain⟨h1,h2⟩:=F.turn (Y o) (bb o) ho cg o';refine⟨(F.ext.block l ca (bb o)).trans (Y o),?_,?_⟩
  .have e:({g o with w0:=(g o).w0.putObj l o'}:Cx)=g o':=by rw[f];simp only[uS]
   rw[e]at h1;exact h1
  .rw[a5 o' o];exact h2
 have z:E.putObj l (.loop (d .ready none))=E:=xl X
 have V:∀{o:Obj}{L:Nat->Loc}{h:Hp}{W:World}{i k:Nat},k∈ks->I i h->MemL (g o) L h W->(L k).b=O k:=by
  intro o L h W i k r hi F;obtain⟨cs,hc⟩:=hI i h k r hi;have:=(F.own k _ hc).2.1;rw[f]at this
  have ad:ks.contains k=true:=by simpa using r
  simp only[ad,Ui,T4]at this;exact this.symm
 let L0:Nat->Loc:=λk=>⟨O k,0,false⟩
 have B:∀k s,kC ks hin k=some s->k∈ks/\s=.box ((hin k).map .pv) false false:=by
  intro k s r;unfold kC at r;split at r
  .rename_i hc;injection r with r;exact⟨by simpa using hc,r.symm⟩
  .cases r
 have b5:∀o b o',ae (g o) L0 (kC ks hin) b o'->M b o':=by
  rintro o b o' (u|⟨k,s,r,_,u,_⟩)
  .rw[f]at u;exact u
  .obtain⟨y,_⟩:=B k s r
   rw[<-u];exact(H k y).1 o'
 have G:Pres w M E (ae (g (.loop (d .ready none))) L0 (kC ks hin)):=Pres.ext K (λ_ _ h=>h.elim) λb o _ h=>b5 _ b o h
 have cb:MemL (g (.loop (d .ready none))) L0 (kC ks hin) E:=by
  refine⟨by rw[J,z];exact Ext.refl _ _,?_,?_,?_,?_⟩
  .intro b o u
   rw[J,z];rw[f]at u;have:=hM b o u;omega
  .intro k s r
   obtain⟨y,rfl⟩:=B k s r;obtain⟨arr,ty,e1,e2⟩:=(H k y).2;exact⟨arr,ty,(K.block _ (nk (H k y).2) (λh=>h)).trans e1,aG.map_pv (e2.mono G)⟩
  .intro k k' b1 b2 cj r T _ _
   exact ba k (B k b1 r).1 k' (B k' b2 T).1 cj
  .intro k s r
   obtain⟨y,rfl⟩:=B k s r
   have ad:ks.contains k=true:=by simpa using y
   refine⟨rfl,?_,?_,?_,?_⟩
   .rw[f];simp only[ad,Ui];rfl
   .rw[f];exact⟨k,y,rfl⟩
   .rw[J,z];have:=nk (H k y).2;show O k<_;omega
   .intro o;rw[f];exact(H k y).1 o
 refine⟨l,[{target:=.collected w.heap.size,args:=#[]}],E,{target:=.fn (.func gf) lb.toArray,args:=#[.func (.yield l) #[] #[]]},E,gf,#[.func (.yield l) #[] #[]]++lb.toArray,E,?_,?_,λ_ _=>trivial,sd hit.1 _ _ _,λh=>(by cases h),?_⟩
 .rw[<-Q,j,hl];exact run_enterLoop_outer _ _ _ _ _
 .simp only[resolve,hg]
  simp[go_sem]
 .refine(hit.2 (n-1) l lb E _ (λi M' W=>∃L h,I i h/\MemL (g (.loop (d .ready none))) L h W/\M'=ae (g (.loop (d .ready none))) L h) ?_ ?_ ?_ ⟨L0,_,h0,cb,rfl⟩ (a8.mono G)).mono ?_
  .rintro i M' W ⟨L,h,_,F,rfl⟩ b o u
   exact F.mlt u
  .rintro i M' W W' ⟨L,h,hi,F,rfl⟩ hx
   exact⟨L,h,hi,(F.grow hx).1,rfl⟩
  .
   rintro m i x M' W v1 v2 ct ⟨L,h,hi,F,rfl⟩ cn cp;obtain⟨b9,_,_⟩:=A (o':=.loop (d .ready none)) rfl (by intro _ _ h;cases h) F;have hy:=run_yield (P:=P) (args:=#[v1,v2]) b9 (by rw[j];rfl);rw[j]at hy;refine⟨fn,(a.tmps.setIfInBounds p v1).setIfInBounds q v2,assign,body,by simpa using hy,roundIn_of_wpIn trivial ?_⟩
   have bq:gX (g (.loop (d .ready none))) L ⟨qa t p q x,h⟩ {tmps:=(a.tmps.setIfInBounds p v1).setIfInBounds q v2,defers:=[]} W:=by
    refine⟨F,by rw[f];simpa using hN,λk=>?_⟩
    have cm:q<(a.tmps.setIfInBounds p v1).size:=by rw[Array.size_setIfInBounds,hN];exact hq
    have ck:p<a.tmps.size:=by rw[hN];exact hp
    simp only[ya cm,ya ck,qa,ag];split
    .exact .pv cp
    .split
     .exact .pv cn
     .rcases ht k with⟨k',T,e1,e2⟩|e1
      .obtain⟨cs,hc⟩:=hI i h k' T hi
       rw[e1,e2,<-V T hi F];exact .ptr hc
      .rw[e1];exact .undef _
   have a6:(g (.loop (d .ready none))).P=P:=by rw[f]
   have a7:(g (.loop (d .busy none))).P=P:=by rw[f]
   have hR:=U (g (.loop (d .ready none))) (g (.loop (d .busy none))) l i x h a6 (by rw[f]) a7 (by rw[f]) ct hi m L _ W bq;rw[a6]at hR;refine wpIn_mono hR ?_;rintro e a1 w1 ⟨cw,L1,R,b0,_,rfl,Z⟩;obtain⟨b8,cd,bc⟩:=A (o':=.loop (d .busy none)) rfl (by intro _ _ h;cases h) R.1;refine⟨w1.putObj l (.loop (d .busy none)),?_,?_⟩
   .have:=run_beginRound (P:=P) b8 (by rw[j])
    rw[j]at this|-;exact this
   have cr:gX (g (.loop (d .busy none))) L1 cw a1 (w1.putObj l (.loop (d .busy none))):=⟨cd,by have:=R.2.1;rw[f]at this|-;exact this,λk=>(R.2.2 k).mono bc (KC.refl _ _)⟩;have hB:=Z m L1 a1 _ cr;rw[a7]at hB;refine wpIn_mono hB ?_;rintro e2 a2 w2 ⟨cz,L2,cq,b3,_,rfl,b7⟩;obtain⟨ar,ch,hpr⟩:=A (o':=.loop (d .ready none)) rfl (by intro _ _ h;cases h) cq.1;refine⟨_,_,run_endRound none ar,rfl,_,⟨L2,cz.h,b7,?_,rfl⟩,?_⟩
   .have e:(Obj.loop {d .busy none with state:=if(none:Option Code).isNone=true then .ready else .done,pending:=none})=.loop (d .ready none):=by rw[j];rfl
    rw[e];exact ch
   .have e:(Obj.loop {d .busy none with state:=if(none:Option Code).isNone=true then .ready else .done,pending:=none})=.loop (d .ready none):=by rw[j];rfl
    rw[e];exact((b0.2.1.trans bc).trans b3.2.1).trans hpr
  .
   rintro e W2 ⟨⟨v,rfl⟩,M',L,h,hi,F,_⟩;obtain⟨ar,cf,_⟩:=A (o':=.loop (d .exhausted none)) rfl (by intro _ _ h;cases h) F;refine⟨none,W2.putObj l (.loop (d .exhausted none)),?_,rfl,g (.loop (d .exhausted none)),L,h,w.heap.size,by rw[f],by rw[f],by rw[f],?_,cf,hi,λk r=>V r hi F,?_,?_,?_,T8 _,rfl⟩
   .have:=run_endLoop (P:=P) ar (by rw[j];simp)
    rw[j]at this|-;exact this
   .intro b u
    rw[f]at u;exact u
   .rw[J]
    refine⟨K.os,K.tape,K.output,by simp;omega,λb u _=>?_⟩;rw[World.putObj_heap_other (by omega)];exact K.block b u (λh=>h)
   .rw[J,World.putObj_heap_other (by omega)];exact b4
   .intro u
    have:=hS _ _ u;omega
def wE(P:Program)(g:FuncId):Prop:=dh P g=true/\∀(n:Nat)(args:Array Value)(w:World),CallsDIn Fence.wide n P g args .returning w λe a w'=>a=.returning/\(∃v,e=.returned v)/\w'=w
def zl(P:Program)(ds:List Deferred):Prop:=∀d∈ds,∃g cap,d.target=.fn (.func g) cap/\wE P g
theorem sg{n:Nat}{P:Program}{fn:Func}{tmps:Array Value}{R:Ending->World->Prop}{w:World}{v:Value}:∀{ds:List Deferred},zl P ds->(results fn tmps).run P w=.ok v w->R (.returned v) w->LeavesInM Fence.wide n P fn tmps R ds .returning w
 |[],_,b,a=>⟨v,b,a⟩
 |d::ds,hq,b,a=>by
  obtain⟨g,cap,f,c⟩:=hq d (by simp);refine⟨by simp,.inr ⟨λh=>(by cases h),.func g,cap,g,d.args++cap,f,by rw[f];exact sd c.1 _ _ _,λ_ _=>trivial,(c.2 _ _ w).mono ?_⟩⟩;rintro e i w' ⟨rfl,⟨j,rfl⟩,rfl⟩;exact sg (λd hd=>hq d (by simp[hd])) b a
def Lr(C:Cx)(res:PV):Ending->World->Prop:=λe w'=>∃v,e=.returned v/\Ext (λ_=>False) C.w0 w'/\Rep w' C.M0 res v
theorem Eg{L:Nat->Loc}(hs:gX C L st a w){res:PV}(g:ji C.P fn.results.toList [] (.pv res) st):∃u,(results fn a.tmps).run C.P w=.ok u w/\Rep w C.M0 res u:=by
 obtain⟨r,h1,_,W,f⟩:=g;obtain⟨u,c,d⟩:=nR (C:=C) hs.1 hs.2.2 h1;obtain⟨i,e,_⟩:=nh hs.1 (db.refl _) d f;exact⟨u,c,e.mono (Pres.sub (λb o h=>.inl h))⟩
def Cm:RV->Bool
 |.pv _=>true
 |.nrow _ _ _=>true
 |_=>false
@[simp] theorem Sa{p:PV}:Cm (.pv p)=true:=rfl
@[simp] theorem O5{e sz:Nat}:Cm (.nrow e sz xs)=true:=rfl
def JS(C:Cx)(res:RV):Ending->World->Prop:=λe w'=>∃v,e=.returned v/\Ext (λ_=>False) C.w0 w'/\yZ C.w0 w' C.M0 res v
theorem Cn{L:Nat->Loc}(hs:gX C L st a w)(m:Cm res=true)(y:ji C.P fn.results.toList [] res st):∃u,(results fn a.tmps).run C.P w=.ok u w/\∀(w0:World)(M:Nat->Nat->Prop),(∀b o,M b o->C.M0 b o)->(∀b,(C.w0.heap.size<=b\/(C.S b/\∀o,¬C.M0 b o))->w0.heap.size<=b)->yZ w0 w M res u:=by
 cases res with
 |pv p=>
  obtain⟨u,h1,E⟩:=Eg hs y;exact⟨u,h1,λw0 M f _=>E.mono (Pres.sub f)⟩
 |nrow e N xs=>
  obtain⟨r,h1,_,l,k,rfl,d⟩:=y;obtain⟨u,q,s⟩:=nR (C:=C) hs.1 hs.2.2 h1;refine⟨u,q,λw0 M f g=>⟨l,L k,?_,λhn=>g _ ((hs.1.own _ _ d).row hn),?_⟩⟩
  .cases s with
   |arr c G H=>
    rw[d]at c;injection c with c;injection c with a1 a2 a3 a4;subst a3;exact H rfl
  .obtain⟨z,K,A,B,D⟩:=hs.1.bl _ _ d
   refine⟨z,UO _,A,B,λhn=>?_⟩;obtain⟨d1,d2,arr,d3,d4,d5⟩:=D hn;refine⟨d1,d2,arr,d3,d4,λi x j p J F=>?_⟩;obtain⟨v,I,n⟩:=d5 i x j p J F;refine⟨v,I,n.mono (Pres.sub ?_)⟩;rintro b o (h|⟨_,rfl⟩)
   .exact .inl (f _ _ h)
   .exact .inr ⟨k,_,d,hn,rfl,by simp[Blk.frz]⟩
 |_=>cases m
theorem dX{F:Fence}{n:Nat}{P:Program}{ops:Array Oper}{Q:Exit->Act->World->Prop}(d:List Oper):∀{g:List Oper}{a:Act}{w:World},
 wpListIn F n P ops (Exit.then (wpListIn F n P ops Q d) Q) g a w->wpListIn F n P ops Q (g++d) a w
 |[],a,w,h=>h
 |o::g,a,w,h=>by
  rw[List.cons_append];unfold wpListIn at h|-;split
  .rename_i f
   rw[T6 f]at h;refine⟨h.1,?_⟩;have b:=h.2;generalize(o.semAt F.round a.eval).run P w=r at b|-;unfold Oper.uponIn at b|-;split<;>simp only at b|-
   .exact dX d b
   .exact dX d b
   .exact dX d b
   .refine⟨b.1,b.2.mono ?_⟩
    intro e w' c
    cases e with
    |returned v=>exact dX d c
    |panicked i=>exact c
    |outgrown=>exact c
   .exact⟨b.1,b.2.mono λv w' c=>dX d c⟩
   .refine⟨b.1,b.2.mono ?_⟩
    intro e w' c
    cases e with
    |returned v=>exact dX d c
    |panicked i=>exact c
    |outgrown=>exact c
   .exact b
  .rename_i f
   rw[TZ f]at h;exact⟨h.1,dX d h.2⟩
def ow(C:Cx)(fn:Func)(res:RV)(c:Code)(st:St):Prop:=
 ∀n L a w,gX C L st a w->zl C.P a.defers->c.wpIn Fence.wide n C.P (bodyPostM Fence.wide n C.P fn (JS C res)) a w
section
variable {C:Cx} {fn:Func} {res:RV} {st:St}
theorem tZ{S:Nat->Prop}(hS:∀b,¬S b)(h:Ext S w w'):Ext (λ_=>False) w w':=⟨h.os,h.tape,h.output,h.size,λb a _=>h.block b a (hS b)⟩
def Ic(C:Cx)(fn:Func)(res:RV)(y:Code):Exit->St->Prop
 |.normal,st=>ow C fn res y st
 |.ret,st=>Cm res=true/\ji C.P fn.results.toList [] res st
 |_,_=>False
theorem ow.seq(f:∀b,¬C.S b){x:Code}(h:aI Fence.wide C x (Ic C fn res y) st):ow C fn res (.seq x y) st:=by
 intro n L a w k hq;refine wpIn_seq (wpIn_mono (h n L a w k) ?_);rintro e g w' ⟨l,L',d,m,hd,c⟩
 cases e with
 |normal=>exact c n L' g w' d (by rw[hd];exact hq)
 |ret=>
  obtain⟨u,h1,i⟩:=Cn d c.1 c.2;exact sg (by rw[hd];exact hq) h1 ⟨u,rfl,tZ f d.1.ext,i _ _ (λ_ _ h=>h) (λb h=>h.elim id λj=>absurd j.1 (f b))⟩
 |exit=>exact c.elim
 |goto=>exact c.elim
 |panic=>exact c.elim
 |outgrown=>exact c.elim
theorem GG{Q:Exit->Act->World->Prop}(h:o.wp P a w next Q):o.wpIn Fence.wide n P a w next Q:=by
 refine⟨λf _=>trivial,?_⟩
 show o.uponIn Fence.wide n P a next Q ((o.semAt none a.eval).run P w)
 rw[Oper.semAt_none];unfold Oper.wp at h
 cases c:(execOp a.eval o).run P w with
 |ok nx w'=>
  rw[c]at h
  cases nx with
  |value v=>exact h
  |skip=>exact h
  |defer d=>exact h
  |enter f args=>exact⟨λb=>(by cases b),gJ.calls h⟩
  |row r args=>exact⟨λb=>(by cases b),gJ.rows h⟩
  |_=>exact h.elim
 |halt k w'=>
  rw[c]at h
  cases k with
  |panic v=>exact h
  |_=>exact h.elim
theorem ow.defer{c:Call}(i:ops.toList=pre++[o])(p:∀o∈pre,∀c,o.op≠.defer c)(B:o.op=.defer c)(m:o.guard=none)(hd:o.dst=none)(hf:c.callee=.value f)(A:c.args.size=0)(hq:wE C.P g)
 (h:dR C.P hn C.N ops (λk=>(∃first caps,k.ev f=.fn (.func g) first caps)/\ow C fn res y k) pre st):ow C fn res (.seq (.region id ops false) y) st:=by
 intro n L a w u r;refine wpIn_seq (wpIn_region_list ?_);rw[i];refine dX _ (iS gJ (ds:=a.defers) ?_ p u (aM.refl u.1) rfl h);intro G x s v e _ l q;obtain⟨⟨first,caps,D⟩,F⟩:=q;obtain⟨vs,z,j⟩:=Gw (by have:=dj e.2.2 f;rw[D]at this;exact this);show wpListIn Fence.wide n C.P ops _ [o] s v;unfold wpListIn
 have E:Region.wanted o (yielded ops s.tmps)=true:=by unfold Region.wanted;rw[m]
 rw[T6 E];refine GG (Oper.wp_defer B hf A j ?_);rw[hd];refine F n x _ v ⟨e.1,e.2.1,e.2.2⟩ ?_;intro d b;rcases Uq.1 b with rfl|b
 .exact⟨g,z,rfl,hq⟩
 .rw[l]at b;exact r d b
theorem ow.range(A:∀b,¬C.S b){x:Code}{q b0:Nat}{xs:List (PV×PV)}(hit:Fk C.P gf caps xs)(hp:p<C.N)(hq:q<C.N)
 {ks:List Nat}{hin:Nat->List PV}{t:Nat->AV}
 (hx:aI Fence.wide C x (λe f=>e=.normal/\f.ev gop=.pv (.fn (.func gf) [] caps)/\(∀k∈ks,f.h k=some (.box ((hin k).map .pv) true false))/\∀m,(∃k∈ks,t m=.ptr k 0/\f.t m=.ptr k 0)\/t m=.undef) st)
 (I:Nat->Hp->Prop)(h0:I 0 (kC ks hin))(hI:∀i h k,k∈ks->I i h->∃cs,h k=some (.box cs false false))
 (E:∀(C1 g:Cx)(l i:Nat)(x:PV×PV)(h:Hp),C1.P=C.P->C1.N=C.N->g.P=C.P->g.N=C.N->xs[i]?=some x->I i h->
   aI (Fence.wide.inRound l) C1 assign (λe f=>e=.normal/\aI (Fence.wide.inRound l) g body (λe' bb=>e'=.normal/\I (i+1) bb.h) f) ⟨qa t p q x,h⟩)
 (b8:qX ops=true){hn:List Nat}(R:∀h,I xs.length h->dR C.P hn C.N ops (λf=>Cm res=true/\ji C.P fn.results.toList [] res f) ops.toList ⟨t,h⟩):
 ow C fn res (.seq (.seq x (.block b0 (.rangeFunc gop #[p,q] assign body))) (.seq (.region id ops false) .ret)) st:=by
 intro n L a w hs cb;refine wpIn_seq (wpIn_seq (wpIn_mono (hx n L a w hs) ?_));rintro e F w1 ⟨U,V,c,cm,b2,rfl,hg,y,a7⟩;have O:=dj c.2.2 gop;rw[hg]at O
 obtain⟨us,ch,Z⟩:∃us:List Value,F.eval gop=.func (.func gf) #[] us.toArray/\bY w1 (ae C V U.h) caps us:=by
  generalize F.eval gop=u at O
  cases O with
  |pv B=>
   cases B with
   |fn _ _ _ vs us hl j h1 J=>
    have:vs=[]:=Uv hl.symm;subst this;exact⟨us,rfl,j,J⟩
 have b1:∀k∈ks,(∀o,ae C V U.h (V k).b o)/\kT w1 (ae C V U.h) (V k).b (hin k):=by
  intro k j;obtain⟨arr,ty,z,r⟩:=c.1.bl k _ (y k j);exact⟨λo=>.inr ⟨k,_,y k j,trivial,rfl,by simp[Blk.frz]⟩,arr,ty,z,r.map_pv_inv⟩
 refine wpIn_block (wpIn_mono (Ib (N:=C.N) ch hit (λb o h=>c.1.mlt h) Z b1 (λk j k' b4 b9=>c.1.sep k k' _ _ b9 (y k j) (y k' b4) trivial trivial) c.2.1 hp hq (t:=t) ?_ I h0 hI E) ?_)
 .intro m
  rcases a7 m with⟨k,j,z,r⟩|e
  .have B:=c.2.2 m
   rw[r]at B;generalize hv:F.tmps.getD m undef=v at B
   cases B with
   |ptr _=>exact .inl ⟨k,j,z,rfl⟩
  .exact .inr e
 rintro e a2 w2 ⟨rfl,g,L2,J,D,s,X,bq,Y,b5,ar,bH,ba,K,G,ck,rfl⟩;show Code.wpIn Fence.wide n C.P _ _ _ w2
 have a6:gX g L2 ⟨t,J⟩ {F with defers:={target:=.collected D,args:=#[]}::F.defers} w2:=by
  refine⟨b5,by rw[X];exact c.2.1,λm=>?_⟩;show RepA w2 (ae g L2 J) L2 J (t m) (F.tmps.getD m undef);rcases a7 m with⟨k,j,z,r⟩|e
  .have B:=c.2.2 m
   rw[r]at B;obtain⟨cs,hc⟩:=hI _ J k j ar
   have hv:F.tmps.getD m undef=.pointer (some ⟨(V k).b,0,none⟩):=by
    generalize F.tmps.getD m undef=v at B
    cases B with
    |ptr _=>rfl
   rw[z,hv,<-bH k j];exact .ptr hc
  .rw[e];exact .undef _
 refine wpIn_seq (wpIn_region_list ?_);have T:=R J ar;rw[<-s,<-X]at T;rw[s]at T;have ad:=λQ' bs=>iS (C:=g) (Q:=λf=>Cm res=true/\ji C.P fn.results.toList [] res f) (Q':=Q') (hn:=hn) (ops:=ops) gJ (n:=n) bs (λ_ ho=>lZ b8 ho) a6 (aM.refl a6.1) rfl (by rw[s];exact T);rw[s]at ad;refine ad _ ?_;intro cj L3 a3 H d _ b3 a5;refine wpIn_ret ?_;show LeavesInM Fence.wide n C.P fn a3.tmps (JS C res) a3.defers .returning H;rw[b3];have W:D<g.w0.heap.size:=(Ux.1 K).1;have bc:H.heap[D]?=some (.deferred (some [])):=(d.1.ext.block D W G).trans K;obtain⟨b7,ca⟩:=d.1.turn K G rfl (by intro _ _ h;cases h) (.deferred none);have cd:gX {g with w0:=g.w0.putObj D (.deferred none)} L3 cj a3 (H.putObj D (.deferred none)):=⟨b7,d.2.1,λm=>(d.2.2 m).mono ca (KC.refl _ _)⟩;obtain⟨u,cf,cg⟩:=Cn cd (fn:=fn) (res:=res) a5.1 (by show ji g.P _ _ _ _;rw[s];exact a5.2)
 have a8:(results fn a3.tmps).run C.P (H.putObj D (.deferred none))=.ok u (H.putObj D (.deferred none)):=by rw[<-s];exact cf
 refine⟨by simp,.inl ⟨D,_,rfl,run_takeDeferred bc,sg (by rw[b2];exact cb) a8 ⟨u,rfl,?_,?_⟩⟩⟩
 .
  have z:Ext (λ_=>False) C.w0 w1:=tZ A c.1.ext;have r:Ext (λ_=>False) C.w0 g.w0:=z.trans ba (λ_ _ h=>h);have cn:=z.size;refine⟨?_,?_,?_,?_,?_⟩
  .show H.os=_;rw[d.1.ext.os];exact r.os
  .show H.tape=_;rw[d.1.ext.tape];exact r.tape
  .show H.output=_;rw[d.1.ext.output];exact r.output
  .simp only[World.putObj_size];exact VJ r.size d.1.ext.size
  .intro b hb _
   rw[World.putObj_heap_other (by omega)];rw[d.1.ext.block b (UR hb r.size) ?_]
   .exact r.block b hb (λh=>h)
   .intro M
    obtain⟨k,j,rfl⟩:=Y b M;have:=c.1.own k _ (y k j);rcases this with this|this
    .omega
    .exact A _ this.1
 .have z:Ext (λ_=>False) C.w0 w1:=tZ A c.1.ext
  have r:Ext (λ_=>False) C.w0 g.w0:=z.trans ba (λ_ _ h=>h);refine cg _ _ (λb o h=>?_) (λb h=>?_)
  .show g.M0 b o
   rw[bq];exact .inl h
  .rcases h with h|⟨M,_⟩
   .have h9:g.w0.heap.size<=b:=by simpa only[World.putObj_size]using h
    exact VJ r.size h9
   .obtain⟨k,j,rfl⟩:=Y b M
    rcases c.1.own k _ (y k j)with this|this
    .exact this
    .exact absurd this.1 (A _)
end
theorem Eh{f:FuncId}{c:Code}(hf:P.funcs[f]?=some fn)(y:fn.body=some c)(l:dh P f=true){args:List PV}(H:args.length<=fn.ntmps)
 (h:∀C:Cx,C.P=P->C.N=fn.ntmps->(∀b,¬C.S b)->ow C fn res c (rz (args.map .pv) [])):bf P f (args.map .pv) [] [] res:=by
 refine⟨l,rfl,λw M I vs J B K G s u=>?_⟩;have D:I=[]:=Uv B;subst D
 let C:Cx:={P:=P,N:=fn.ntmps,M0:=M,S:=λ_=>False,pb:=λ_=>none,w0:=w}
 have a:∀k,(rz (args.map .pv) []).h k=none:=by
  intro k;simp only[rz,tT];split
  .rfl
  .simp
 have F:args.length=vs.length:=by simpa using s
 have O:gX C (λ_=>default) (rz (args.map .pv) []) {tmps:=vs.toArray++Array.replicate (fn.ntmps-vs.toArray.size) undef,defers:=[]} w:=by
  refine⟨⟨Ext.refl _ _,J,λk q g=>(by rw[a]at g;cases g),λk U R T _ g=>(by rw[a]at g;cases g),λk q g=>(by rw[a]at g;cases g)⟩,?_,λn=>?_⟩
  .show(vs.toArray++Array.replicate (fn.ntmps-vs.toArray.size) undef).size=fn.ntmps
   simp;omega
  .have r:∀b o,ae C (λ_=>default) (rz (args.map .pv) []).h b o->M b o:=by
    rintro b o (h|⟨k,q,g,_⟩)
    .exact h
    .rw[a]at g;cases g
   show RepA w _ _ _ (Cc (args.map .pv) n) _;simp only[Cc];split
   .rename_i p hp
    have m:n<vs.length:=by rw[<-s];exact(th.1 hp).1
    have Q:=u n (.pv p) vs[n] hp (an m)
    have z:(vs.toArray++Array.replicate (fn.ntmps-vs.toArray.size) undef).getD n undef=vs[n]:=by
     rw[T7,UC (by simpa using m)];simp[m]
    simp only[z];have E:Rep w M p vs[n]:=Q;exact .pv (E.mono (Pres.sub r))
   .rename_i j hp
    rw[T0]at hp
    cases hq:args[n]? with
    |none=>rw[hq]at hp;cases hp
    |some x=>rw[hq]at hp;cases hp
   .exact .undef _
 refine(callsIn_wide (n:=0)).1 ((callsIn_of_wp_marks hf y trivial (h C rfl rfl (λ_ h=>h) 0 _ _ w O (λd hd=>(by simp at hd))) rfl).mono ?_);rintro e w' ⟨v,rfl,A,L⟩;exact⟨v,rfl,⟨A.os,A.tape,A.output,A.size,λb y _=>A.block b y (λh=>h)⟩,λi b V y=>(by simp at y),L⟩
@[simp] theorem Ls:BD F C y Q .normal st=aI F C y Q st:=rfl
@[simp] theorem Od:BD F C y Q .ret st=Q .ret st:=rfl
@[simp] theorem NC:BD F C y Q (.exit i) st=Q (.exit i) st:=rfl
@[simp] theorem Nq:Ic C fn res y .normal st=ow C fn res y st:=rfl
@[simp] theorem O6:Ic C fn res y .ret st=(Cm res=true/\ji C.P fn.results.toList [] res st):=rfl
section
variable {F:Fence} {C:Cx} {x y:Code} {Q:Exit->St->Prop} {st:St} {c:Operand}
def ta(F:Fence)(C:Cx)(x y:Code)(Q:Exit->St->Prop)(st:St):AV->Prop
 |.pv (.val (.bool b))=>(b=true->aI F C x Q st)/\(b=false->aI F C y Q st)
 |_=>False
@[simp] theorem Nr:ta F C x y Q st (.pv (.val (.bool true)))=aI F C x Q st:=by simp[ta]
@[simp] theorem Lt:ta F C x y Q st (.pv (.val (.bool false)))=aI F C y Q st:=by simp[ta]
theorem dY{b:Bool}(h1:b=true->aI F C x Q st)(a:b=false->aI F C y Q st):ta F C x y Q st (.pv (.val (.bool b))):=⟨h1,a⟩
theorem aI.cond'(h:ta F C x y Q st (st.ev c)):aI F C (.cond c x y) Q st:=by
 cases a:st.ev c with
 |pv p=>cases p with
  |val v=>cases v with
   |bool b=>rw[a]at h;exact aI.cond a h.1 h.2
   |_=>rw[a]at h;exact h.elim
  |_=>rw[a]at h;exact h.elim
 |_=>rw[a]at h;exact h.elim
end
def ff(N:Nat)(M:Nat->Nat->Prop)(t:Nat->AV)(a:Act)(w:World):Prop:=a.tmps.size=N/\∀m,t m=.undef\/∃p,t m=.pv p/\Rep w M p (a.tmps.getD m undef)
theorem ff.sim{t:Nat->AV}(h:ff N M t a w)(f:∀b o,M b o->b<w.heap.size):gX {P:=P,N:=N,M0:=M,S:=λ_=>False,pb:=λ_=>none,w0:=w} (λ_=>default) ⟨t,λ_=>none⟩ a w:=by
 refine⟨⟨Ext.refl _ _,f,λk d c=>(by cases c),λk l i j _ c=>(by cases c),λk d c=>(by cases c)⟩,h.1,λm=>?_⟩;rcases h.2 m with e|⟨p,e,g⟩
 .show RepA w _ _ _ (t m) _
  rw[e];exact .undef _
 .show RepA w _ _ _ (t m) _
  rw[e];refine .pv (g.mono (Pres.sub ?_));rintro b o (h|⟨k,d,c,_⟩)
  .exact h
  .cases c
def bM(t:Nat->AV):Nat->AV:=λm=>match t m with
 |.pv p=>.pv p
 |_=>.undef
theorem qY{L:Nat->Loc}(hs:gX C L st a w):ff C.N C.M0 (bM st.t) a w:=by
 refine⟨hs.2.1,λm=>?_⟩;have:=hs.2.2 m;unfold bM;generalize st.t m=v at this
 cases v with
 |pv p=>
  cases this with
  |pv c=>exact .inr ⟨p,rfl,c.mono (Pres.sub λb o h=>.inl h)⟩
 |_=>exact .inl rfl
theorem ff.sub{t t':Nat->AV}(h:ff N M t a w)(b:∀m,t' m=.undef\/t' m=t m):ff N M t' a w:=by
 refine⟨h.1,λm=>?_⟩;rcases b m with e|e
 .exact .inl e
 .rw[e];exact h.2 m
theorem ff.mono{M':Nat->Nat->Prop}{t:Nat->AV}(h:ff N M t a w)(hp:Pres w M w' M'):ff N M' t a w':=
 ⟨h.1,λm=>(h.2 m).imp id λ⟨p,e,b⟩=>⟨p,e,b.mono hp⟩⟩
theorem ff.step{t:Nat->AV}{c:Code}(h:ff N M t a w)(i:∀b o,M b o->b<w.heap.size)
 (j:∀C:Cx,C.P=P->C.N=N->aI Fence.wide C c Q ⟨t,λ_=>none⟩):c.wpIn Fence.wide n P (λe g w'=>∃d,Q e d/\ff N M (bM d.t) g w'/\Ext (λ_=>False) w w'/\g.defers=a.defers) a w:=
 wpIn_mono (j {P:=P,N:=N,M0:=M,S:=λ_=>False,pb:=λ_=>none,w0:=w} rfl rfl n _ a w (h.sim i)) λ_ _ _ ⟨d,_,f,_,hd,hq⟩=>⟨d,hq,qY f,f.1.ext,hd⟩
theorem ff.list{t:Nat->AV}{l:List Oper}{Q:St->Prop}{Q':Exit->Act->World->Prop}(h:ff N M t a w)(i:∀b o,M b o->b<w.heap.size)(g:∀o∈l,∀c,o.op≠.defer c)
 (k:dR P hn N ops Q l ⟨t,λ_=>none⟩)(j:∀d e w',Q d->ff N M (bM d.t) e w'->Ext (λ_=>False) w w'->e.defers=a.defers->Q' .normal e w'):wpListIn Fence.wide n P ops Q' l a w:=
 iS (C:={P:=P,N:=N,M0:=M,S:=λ_=>False,pb:=λ_=>none,w0:=w}) gJ (λd L' e w' f _ hd hq=>j d e w' hq (qY f) f.1.ext hd) g (h.sim i) (aM.refl (h.sim (P:=P) i).1) rfl k
theorem Fl{rest:List Oper}{c:Call}{y:Operand}{Q:Exit->Act->World->Prop}{R:Ending->World->Prop}(r:Region.wanted o (yielded ops a.tmps)=true)(q:o.op=.call c)(j:c.callee=.value f)(b:c.args=#[x,y])
 (hf:a.eval f=.func (.yield l) #[] #[])(s:YieldAt Fence.wide (n-1) P l #[a.eval x,a.eval y] w R)
 (g:∀e w',R e w'->∃v,e=.returned v/\wpListIn Fence.wide n P ops Q rest (a.put o.dst v) w'):wpListIn Fence.wide n P ops Q (o::rest) a w:=by
 obtain⟨fn,tmps,assign,body,k,d⟩:=s;unfold wpListIn;rw[T6 r];refine⟨λ_ _=>trivial,?_⟩;show o.uponIn Fence.wide n P a _ Q ((o.semAt none a.eval).run P w);rw[Oper.semAt_none]
 have i:(execOp a.eval o).run P w=.ok (.round l fn tmps assign body) w:=by
  generalize a.eval=ρ at hf k;unfold execOp;rw[q];obtain⟨m,u,at_⟩:=c;simp only at j b;subst j;subst b;simp[resolve,hf,invoke,go_sem,k]
 rw[i];refine⟨λh=>(by cases h),d.mono ?_⟩;intro e w' p;obtain⟨v,rfl,h⟩:=g e w' p;exact h
def By(P:Program)(gf:FuncId)(caps:List PV)(xs:List PV):Prop:=
 dh P gf=true/\∀(n l:Nat)(lb:List Value)(W:World)(M:Nat->Nat->Prop)(J d:Nat->(Nat->Nat->Prop)->World->Prop),
  (∀i M W,J i M W->∀b o,M b o->b<W.heap.size)->(∀i M W a,J i M W->Ext (λ_=>False) W a->J i M a)->
  (∀i M W,d i M W->∀b o,M b o->b<W.heap.size)->(∀i M W a,d i M W->Ext (λ_=>False) W a->d i M a)->
  (∀m i x M W f,xs[i]?=some x->J i M W->Rep W M x f->YieldAt Fence.wide m P l #[f] W λe a=>∃(b:Bool)(c:Nat->Nat->Prop),e=.returned (.bool b)/\(if b=true then J (i+1) c a else d i c a)/\Pres W M a c)->
  J 0 M W->bY W M caps lb->CallsIn Fence.wide n P gf (#[.func (.yield l) #[] #[]]++lb.toArray) W λe a=>(∃v,e=.returned v)/\((∃c,J xs.length c a)\/∃i c,i<xs.length/\d i c a)
def mN(t:Nat->AV)(p:Nat)(x:PV):Nat->AV:=ag t p (.pv x)
theorem MemL.kill{L:Nat->Loc}(ks:List Nat)(g:MemL C L st.h w):MemL C L (st.kill ks).h w/\∀b o,ae C L (st.kill ks).h b o->ae C L st.h b o:=by
 have d:∀k a,(st.kill ks).h k=some a->∃c,st.h k=some c/\bT ks c=a/\a.live (L k)=c.live (L k)/\∀o,a.frz o=c.frz o:=by
  intro k a f;simp only[St.kill]at f;split at f
  .cases f
  .simp only[TX]at f
   obtain⟨c,h1,rfl⟩:=f;exact⟨c,h1,rfl,by cases c<;>rfl,λo=>by cases c<;>rfl⟩
 have F:∀b o,ae C L (st.kill ks).h b o->ae C L st.h b o:=by
  rintro b o (R|⟨k,a,f,A,U,hf⟩)
  .exact .inl R
  .obtain⟨c,h1,_,S,T⟩:=d k a f
   exact .inr ⟨k,c,h1,S▸A,U,T o▸hf⟩
 have hp:Pres w (ae C L st.h) w (ae C L (st.kill ks).h):=Pres.sub F;refine⟨⟨g.ext,g.m0,?_,?_,?_⟩,F⟩
 .intro k a f
  obtain⟨c,h1,rfl,_,_⟩:=d k a f;have:=g.bl k c h1
  cases c with
  |box Q own y=>
   obtain⟨arr,Y,v,m⟩:=this;refine⟨arr,Y,v,by simpa using m.1,λi p u l E=>?_⟩;simp only[T0,TX]at l;obtain⟨q,hq,rfl⟩:=l;exact vq hp (m.2 i q u hq E)
  |row e sz xs y=>
   obtain⟨H,I,a3,a4,J⟩:=this;refine⟨H,I,a3,a4,λhn=>?_⟩;obtain⟨r,s,arr,K,M,N⟩:=J hn;exact⟨r,s,arr,K,M,λi x j p X V=>by obtain⟨u,E,W⟩:=N i x j p X V;exact⟨u,E,W.mono hp⟩⟩
  |mp kd n Z y=>exact this
 .intro k G r s D f z A B
  obtain⟨O,d1,_,v,_⟩:=d k r f;obtain⟨P,d2,_,m,_⟩:=d G s z;exact g.sep k G O P D d1 d2 (v▸A) (m▸B)
 .intro k a f
  obtain⟨c,h1,rfl,_,_⟩:=d k a f;have:=g.own k c h1
  cases c with
  |box Q own y=>cases own<;>exact this
  |row=>exact this
  |mp=>exact this
def Ge(kd:List Nat)(I:Nat->Hp->Prop)(a:Nat->Hp->Prop)(i:Nat):Exit->St->Prop
 |.normal,st=>I (i+1) (st.kill kd).h
 |.ret,st=>a i st.h
 |_,_=>False
theorem Gf(hg:a.eval gop=.func (.func gf) #[] lb.toArray)
 {caps:List PV}{xs:List PV}(hit:By P gf caps xs){M:Nat->Nat->Prop}(hM:∀b o,M b o->b<w.heap.size)(ch:bY w M caps lb)
 {ks:List Nat}{Q:Nat->Nat}{hin:Nat->List PV}(R:∀k∈ks,(∀o,M (Q k) o)/\kT w M (Q k) (hin k))(ck:∀k∈ks,∀k'∈ks,k≠k'->Q k≠Q k')
 (hN:a.tmps.size=N)(hp:p<N){t:Nat->AV}(ht:∀m,(∃k∈ks,t m=.ptr k 0/\a.tmps.getD m undef=.pointer (some ⟨Q k,0,none⟩))\/(∃q,t m=.pv q/\Rep w M q (a.tmps.getD m undef))\/t m=.undef)
 (I Ix:Nat->Hp->Prop)(h0:I 0 (kC ks hin))(hI:∀i h k,k∈ks->I i h->∃cs,h k=some (.box cs false false))(cr:∀i h k,k∈ks->Ix i h->∃cs,h k=some (.box cs false false))
 (ar:∀(C C':Cx)(l i:Nat)(x:PV)(h:Hp),C.P=P->C.N=N->C'.P=P->C'.N=N->xs[i]?=some x->I i h->
   aI (Fence.wide.inRound l) C assign (λe c2=>e=.normal/\aI (Fence.wide.inRound l) C' body (Ge kd I Ix i) c2) ⟨mN t p x,h⟩):
 (Code.rangeFunc gop #[p] assign body).wpIn Fence.wide n P (λe a' w'=>∃(C:Cx)(L:Nat->Loc)(h:Hp)(D:Nat),((e=.normal/\I xs.length h)\/(e=.ret/\∃i,i<xs.length/\Ix i h))/\C.P=P/\C.N=N/\C.M0=M/\(∀b,C.S b->∃k∈ks,b=Q k)/\
   MemL C L h w'/\(∀k∈ks,(L k).b=Q k)/\(∀q v,Rep w M q v->Rep w' (ae C L h) q v)/\Ext (λ_=>False) w C.w0/\C.w0.heap[D]?=some (.deferred (some []))/\¬C.S D/\w.heap.size<=D/\a'={a with defers:={target:=.collected D,args:=#[]}::a.defers}) a w:=by
 refine wpIn_rangeFunc ?_;intro fn _;obtain⟨d,j⟩:∃d:LoopState->Option Code->Loop,d=λst pe=>{state:=st,pending:=pe,fn,tmps:=a.tmps,params:=#[p],assign,body,defers:=w.heap.size}:=⟨_,rfl⟩;obtain⟨J,Y⟩:∃J,(w.alloc (.deferred (some []))).alloc (.loop (d .ready none))=J:=⟨_,rfl⟩
 have V:Ext (λ_=>False) w J:=by rw[<-Y];exact(Ext.alloc _ _ _).trans (Ext.alloc _ _ _) (λ_ _ h=>h)
 have c4:J.heap.size=w.heap.size+2:=by rw[<-Y];simp
 have b0:J.heap[w.heap.size+1]?=some (.loop (d .ready none)):=by
  rw[<-Y];have:=World.alloc_heap_new (w.alloc (.deferred (some []))) (.loop (d .ready none));rwa [World.size_alloc]at this
 have cq:J.heap[w.heap.size]?=some (.deferred (some [])):=by
  rw[<-Y];exact(RowKit.Below.heap_alloc _ _ _ (by simp)).trans (World.alloc_heap_new w _)
 obtain⟨l,hl⟩:∃l,l=w.heap.size+1:=⟨_,rfl⟩;rw[<-hl]at b0;obtain⟨g,f⟩:∃g:Obj->Cx,g=λo=>{P:=P,N:=N,M0:=M,S:=λb=>∃k∈ks,b=Q k,pb:=λk=>if ks.contains k=true then some (Q k)else none,w0:=J.putObj l o}:=⟨_,rfl⟩
 have hS:∀o b,(g o).S b->b<w.heap.size:=by
  intro o b z;rw[f]at z;obtain⟨k,u,rfl⟩:=z;exact nk (R k u).2
 have U:∀o,(g o).w0=J.putObj l o:=λo=>by rw[f]
 have cb:∀o o' L h,ae (g o) L h=ae (g o') L h:=λo o' L h=>by rw[f];rfl
 have b3:∀(o:Obj),(g o).w0.heap[l]?=some o:=λo=>by rw[U];exact World.putObj_heap_same (Ux.1 b0).1
 have cm:∀o,¬(g o).S l:=λo h=>by have:=hS o l h;omega
 have s:∀{o o':Obj}{L:Nat->Loc}{h:Hp}{W:World},o.isCells=false->(∀arr c,o≠.map arr c)->MemL (g o) L h W->W.heap[l]?=some o/\MemL (g o') L h (W.putObj l o')/\Pres W (ae (g o) L h) (W.putObj l o') (ae (g o') L h):=by
  intro o o' L h W ho cQ O;have cB:l<(g o).w0.heap.size:=(Ux.1 (b3 o)).1;obtain⟨h1,h2⟩:=O.turn (b3 o) (cm o) ho cQ o';refine⟨(O.ext.block l cB (cm o)).trans (b3 o),?_,?_⟩
  .have e:({g o with w0:=(g o).w0.putObj l o'}:Cx)=g o':=by rw[f];simp only[uS]
   rw[e]at h1;exact h1
  .rw[cb o' o];exact h2
 have F:J.putObj l (.loop (d .ready none))=J:=xl b0
 have bb:∀{K:Nat->Hp->Prop}{o:Obj}{L:Nat->Loc}{h:Hp}{W:World}{i k:Nat},(∀i h k,k∈ks->K i h->∃cs,h k=some (.box cs false false))->k∈ks->K i h->MemL (g o) L h W->(L k).b=Q k:=by
  intro K o L h W i k hK u hi O;obtain⟨cs,hc⟩:=hK i h k u hi;have:=(O.own k _ hc).2.1;rw[f]at this
  have b5:ks.contains k=true:=by simpa using u
  simp only[b5,Ui,T4]at this;exact this.symm
 let L0:Nat->Loc:=λk=>⟨Q k,0,false⟩
 have G:∀k y,kC ks hin k=some y->k∈ks/\y=.box ((hin k).map .pv) false false:=by
  intro k y u;unfold kC at u;split at u
  .rename_i hc;injection u with u;exact⟨by simpa using hc,u.symm⟩
  .cases u
 have ct:∀o b o',ae (g o) L0 (kC ks hin) b o'->M b o':=by
  rintro o b o' (z|⟨k,y,u,_,z,_⟩)
  .rw[f]at z;exact z
  .obtain⟨A,_⟩:=G k y u
   rw[<-z];exact(R k A).1 o'
 have E:Pres w M J (ae (g (.loop (d .ready none))) L0 (kC ks hin)):=Pres.ext V (λ_ _ h=>h.elim) λb o _ h=>ct _ b o h
 have cH:MemL (g (.loop (d .ready none))) L0 (kC ks hin) J:=by
  refine⟨by rw[U,F];exact Ext.refl _ _,?_,?_,?_,?_⟩
  .intro b o z
   rw[U,F];rw[f]at z;have:=hM b o z;omega
  .intro k y u
   obtain⟨A,rfl⟩:=G k y u;obtain⟨arr,ty,e1,e2⟩:=(R k A).2;exact⟨arr,ty,(V.block _ (nk (R k A).2) (λh=>h)).trans e1,aG.map_pv (e2.mono E)⟩
  .intro k k' b1 b2 cS u ad _ _
   exact ck k (G k b1 u).1 k' (G k' b2 ad).1 cS
  .intro k y u
   obtain⟨A,rfl⟩:=G k y u
   have b5:ks.contains k=true:=by simpa using A
   refine⟨rfl,?_,?_,?_,?_⟩
   .rw[f];simp only[b5,Ui];rfl
   .rw[f];exact⟨k,A,rfl⟩
   .rw[U,F];have:=nk (R k A).2;show Q k<_;omega
   .intro o;rw[f];exact(R k A).1 o
 let Jt:(Nat->Hp->Prop)->Obj->Nat->(Nat->Nat->Prop)->World->Prop:=λK o i H W=>∃L h,K i h/\MemL (g o) L h W/\H=ae (g o) L h/\(∀q v,Rep w M q v->Rep W H q v)
 refine⟨l,[{target:=.collected w.heap.size,args:=#[]}],J,{target:=.fn (.func gf) lb.toArray,args:=#[.func (.yield l) #[] #[]]},J,gf,#[.func (.yield l) #[] #[]]++lb.toArray,J,?_,?_,λ_ _=>trivial,sd hit.1 _ _ _,λh=>(by cases h),?_⟩
 .rw[<-Y,j,hl];exact run_enterLoop_outer _ _ _ _ _
 .simp only[resolve,hg]
  simp[go_sem]
 .have cg:∀K o i H W,Jt K o i H W->∀b o',H b o'->b<W.heap.size:=by
   rintro K o i H W ⟨L,h,_,O,rfl,_⟩ b o' z;exact O.mlt z
  have cj:∀K o i H W W',Jt K o i H W->Ext (λ_=>False) W W'->Jt K o i H W':=by
   rintro K o i H W W' ⟨L,h,hi,O,rfl,hq⟩ hx;exact⟨L,h,hi,(O.grow hx).1,rfl,λq v hr=>(hq q v hr).mono (O.grow hx).2⟩
  refine(hit.2 (n-1) l lb J _ (Jt I (.loop (d .ready none))) (Jt Ix (.loop (d .done (some .ret)))) (cg _ _) (cj _ _) (cg _ _) (cj _ _) ?_ ⟨L0,_,h0,cH,rfl,λq v hr=>hr.mono E⟩ (ch.mono E)).mono ?_
  .
   rintro m i x H W v1 c1 ⟨L,h,hi,O,rfl,hq⟩ cW;obtain⟨cz,_,_⟩:=s (o':=.loop (d .ready none)) rfl (by intro _ _ h;cases h) O;have hy:=run_yield (P:=P) (args:=#[v1]) cz (by rw[j];rfl);rw[j]at hy;refine⟨fn,a.tmps.setIfInBounds p v1,assign,body,by simpa using hy,roundIn_of_wpIn trivial ?_⟩
   have cp:gX (g (.loop (d .ready none))) L ⟨mN t p x,h⟩ {tmps:=a.tmps.setIfInBounds p v1,defers:=[]} W:=by
    refine⟨O,by rw[f];simpa using hN,λk=>?_⟩
    have cU:p<a.tmps.size:=by rw[hN];exact hp
    simp only[ya cU,mN,ag];split
    .exact .pv cW
    .rcases ht k with⟨k',ad,e1,e2⟩|⟨q,e1,e2⟩|e1
     .obtain⟨cs,hc⟩:=hI i h k' ad hi
      rw[e1,e2,<-bb hI ad hi O];exact .ptr hc
     .rw[e1];exact .pv (hq q _ e2)
     .rw[e1];exact .undef _
   have cd:(g (.loop (d .ready none))).P=P:=by rw[f]
   have cf:(g (.loop (d .busy none))).P=P:=by rw[f]
   have hR:=ar (g (.loop (d .ready none))) (g (.loop (d .busy none))) l i x h cd (by rw[f]) cf (by rw[f]) c1 hi m L _ W cp;rw[cd]at hR;refine wpIn_mono hR ?_;rintro e a1 w1 ⟨c3,L1,Z,b9,_,rfl,b4⟩;obtain⟨cw,cM,b8⟩:=s (o':=.loop (d .busy none)) rfl (by intro _ _ h;cases h) Z.1;refine⟨w1.putObj l (.loop (d .busy none)),?_,?_⟩
   .have:=run_beginRound (P:=P) cw (by rw[j])
    rw[j]at this|-;exact this
   have c0:gX (g (.loop (d .busy none))) L1 c3 a1 (w1.putObj l (.loop (d .busy none))):=⟨cM,by have:=Z.2.1;rw[f]at this|-;exact this,λk=>(Z.2.2 k).mono b8 (KC.refl _ _)⟩;have hB:=b4 m L1 a1 _ c0;rw[cf]at hB;refine wpIn_mono hB ?_;rintro e2 a2 w2 ⟨X,L2,cn,ca,_,T⟩
   cases e2 with
   |normal=>
    obtain⟨B,b7,hpr⟩:=s (o':=.loop (d .ready none)) rfl (by intro _ _ h;cases h) cn.1
    have e:(Obj.loop {d .busy none with state:=if(none:Option Code).isNone=true then .ready else .done,pending:=none})=.loop (d .ready none):=by rw[j];rfl
    have r:Pres W (ae (g (.loop (d .ready none))) L h) (w2.putObj l (.loop (d .ready none))) (ae (g (.loop (d .ready none))) L2 X.h):=((b9.2.1.trans b8).trans ca.2.1).trans hpr;obtain⟨cP,cu⟩:=b7.kill kd;have r:=r.trans (Pres.sub cu);refine⟨_,_,run_endRound none B,true,ae (g (.loop (d .ready none))) L2 (X.kill kd).h,rfl,?_,?_⟩
    .rw[T6 rfl,e]
     exact⟨L2,(X.kill kd).h,T,cP,rfl,λq v hr=>(hq q v hr).mono r⟩
    .rw[e];exact r
   |ret=>
    obtain⟨B,b7,hpr⟩:=s (o':=.loop (d .done (some .ret))) rfl (by intro _ _ h;cases h) cn.1
    have e:(Obj.loop {d .busy none with state:=if(some Code.ret).isNone=true then .ready else .done,pending:=some .ret})=.loop (d .done (some .ret)):=by rw[j];rfl
    have r:Pres W (ae (g (.loop (d .ready none))) L h) (w2.putObj l (.loop (d .done (some .ret)))) (ae (g (.loop (d .done (some .ret)))) L2 X.h):=((b9.2.1.trans b8).trans ca.2.1).trans hpr;refine⟨_,_,run_endRound (some .ret) B,false,ae (g (.loop (d .done (some .ret)))) L2 X.h,rfl,?_,?_⟩
    .rw[TZ (by simp),e]
     exact⟨L2,X.h,T,b7,rfl,λq v hr=>(hq q v hr).mono r⟩
    .rw[e];exact r
   |exit=>exact T.elim
   |goto=>exact T.elim
   |panic=>exact T.elim
   |outgrown=>exact T.elim
  .
   have ba:∀(K:Nat->Hp->Prop)(o:Obj)(st:LoopState)(pe:Option Code)(i:Nat)(H:Nat->Nat->Prop)(W2:World),o=.loop (d st pe)->(∀i h k,k∈ks->K i h->∃cs,h k=some (.box cs false false))->Jt K o i H W2->
    W2.heap[l]?=some o/\∃(C:Cx)(L:Nat->Loc)(h:Hp)(D:Nat),K i h/\C.P=P/\C.N=N/\C.M0=M/\(∀b,C.S b->∃k∈ks,b=Q k)/\
     MemL C L h (W2.putObj l (.loop (d .exhausted pe)))/\(∀k∈ks,(L k).b=Q k)/\(∀q v,Rep w M q v->Rep (W2.putObj l (.loop (d .exhausted pe))) (ae C L h) q v)/\Ext (λ_=>False) w C.w0/\C.w0.heap[D]?=some (.deferred (some []))/\¬C.S D/\w.heap.size<=D/\D=w.heap.size:=by
    rintro K o st pe i H W2 rfl hK ⟨L,h,hi,O,rfl,hq⟩;obtain⟨B,cN,cV⟩:=s (o':=.loop (d .exhausted pe)) rfl (by intro _ _ h;cases h) O;refine⟨B,g (.loop (d .exhausted pe)),L,h,w.heap.size,hi,by rw[f],by rw[f],by rw[f],?_,cN,λk u=>bb hK u hi O,λq v hr=>(hq q v hr).mono cV,?_,?_,?_,T8 _,rfl⟩
    .intro b z
     rw[f]at z;exact z
    .rw[U]
     refine⟨V.os,V.tape,V.output,by simp;omega,λb z _=>?_⟩;rw[World.putObj_heap_other (by omega)];exact V.block b z (λh=>h)
    .rw[U,World.putObj_heap_other (by omega)];exact cq
    .intro z
     have:=hS _ _ z;omega
   rintro e W2 ⟨⟨v,rfl⟩,⟨H,hj⟩|⟨i,H,hi,hj⟩⟩
   .obtain⟨B,C,L,h,D,a1,a2,a3,a4,a5,a6,a7,bH,a8,a9,bc,bq,rfl⟩:=ba I _ _ _ _ _ _ rfl hI hj
    refine⟨none,W2.putObj l (.loop (d .exhausted none)),?_,C,L,h,_,.inl ⟨rfl,a1⟩,a2,a3,a4,a5,a6,a7,bH,a8,a9,bc,bq,rfl⟩;have:=run_endLoop (P:=P) B (by rw[j];simp);rw[j]at this|-;exact this
   .obtain⟨B,C,L,h,D,a1,a2,a3,a4,a5,a6,a7,bH,a8,a9,bc,bq,rfl⟩:=ba Ix _ _ _ _ _ _ rfl cr hj
    refine⟨some .ret,W2.putObj l (.loop (d .exhausted (some .ret))),?_,wpIn_ret ⟨C,L,h,_,.inr ⟨rfl,i,hi,a1⟩,a2,a3,a4,a5,a6,a7,bH,a8,a9,bc,bq,rfl⟩⟩;have:=run_endLoop (P:=P) B (by rw[j];simp);rw[j]at this|-;exact this
theorem xc{c:Cx}{res:PV}{g i:St}{y a3:Act}{v d:World}{x T:Nat->Loc}{D:Nat}{ks:List Nat}{U:Nat->Nat}{hin:Nat->List PV}(l:∀b,¬C.S b)(r:gX C x g y v)(I:∀k∈ks,g.h k=some (.box ((hin k).map .pv) true false))(G:∀k∈ks,U k=(x k).b)
 (L:zl C.P y.defers)(q:c.P=C.P)(A:c.M0=ae C x g.h)(B:∀b,c.S b->∃k∈ks,b=U k)(R:Ext (λ_=>False) v c.w0)(f:c.w0.heap[D]?=some (.deferred (some [])))(e:¬c.S D)(W:v.heap.size<=D)
 (a:gX c T i a3 d)(H:a3.defers={target:=.collected D,args:=#[]}::y.defers)(M:ji C.P fn.results.toList [] (.pv res) i):LeavesInM Fence.wide n C.P fn a3.tmps (Lr C res) a3.defers .returning d:=by
 rw[H];have p:D<c.w0.heap.size:=(Ux.1 f).1;have z:d.heap[D]?=some (.deferred (some [])):=(a.1.ext.block D p e).trans f;obtain⟨J,K⟩:=a.1.turn f e rfl (by intro _ _ h;cases h) (.deferred none);have N:gX {c with w0:=c.w0.putObj D (.deferred none)} T i a3 (d.putObj D (.deferred none)):=⟨J,a.2.1,λm=>(a.2.2 m).mono K (KC.refl _ _)⟩;obtain⟨u,O,Q⟩:=Eg N (fn:=fn) (res:=res) (by show ji c.P _ _ _ _;rw[q];exact M)
 have s:(results fn a3.tmps).run C.P (d.putObj D (.deferred none))=.ok u (d.putObj D (.deferred none)):=by rw[<-q];exact O
 refine⟨by simp,.inl ⟨D,_,rfl,run_takeDeferred z,sg L s ⟨u,rfl,?_,?_⟩⟩⟩
 .have V:Ext (λ_=>False) C.w0 v:=tZ l r.1.ext
  have j:Ext (λ_=>False) C.w0 c.w0:=V.trans R (λ_ _ h=>h);have Y:=V.size;refine⟨?_,?_,?_,?_,?_⟩
  .show d.os=_;rw[a.1.ext.os];exact j.os
  .show d.tape=_;rw[a.1.ext.tape];exact j.tape
  .show d.output=_;rw[a.1.ext.output];exact j.output
  .simp only[World.putObj_size];exact VJ j.size a.1.ext.size
  .intro b F _
   rw[World.putObj_heap_other (by omega)];rw[a.1.ext.block b (UR F j.size) ?_]
   .exact j.block b F (λh=>h)
   .intro E
    obtain⟨k,X,rfl⟩:=B b E;rw[G k X]at F;have:=r.1.own k _ (I k X);rcases this with this|this
    .omega
    .exact l _ this.1
 .refine Q.mono (Pres.sub ?_)
  intro b o h;show c.M0 b o;rw[A];exact .inl h
theorem ow.rangeS{res:PV}(Y:∀b,¬C.S b){x:Code}{b0:Nat}(hit:By C.P gf caps xs)(hp:p<C.N)
 {ks:List Nat}{hin:Nat->List PV}{t:Nat->AV}
 (hx:aI Fence.wide C x (λe d=>e=.normal/\d.ev gop=.pv (.fn (.func gf) [] caps)/\(∀k∈ks,d.h k=some (.box ((hin k).map .pv) true false))/\∀m,(∃k∈ks,t m=.ptr k 0/\d.t m=.ptr k 0)\/(∃q,t m=.pv q/\d.t m=.pv q)\/t m=.undef) st)
 (I Ix:Nat->Hp->Prop)(h0:I 0 (kC ks hin))(hI:∀i h k,k∈ks->I i h->∃X,h k=some (.box X false false))(ad:∀i h k,k∈ks->Ix i h->∃X,h k=some (.box X false false))
 (B:∀(C1 J:Cx)(l i:Nat)(x:PV)(h:Hp),C1.P=C.P->C1.N=C.N->J.P=C.P->J.N=C.N->xs[i]?=some x->I i h->
   aI (Fence.wide.inRound l) C1 assign (λe d=>e=.normal/\aI (Fence.wide.inRound l) J body (Ge kd I Ix i) d) ⟨mN t p x,h⟩)
 (b7:qX ops=true){hn:List Nat}(T:∀h,I xs.length h->dR C.P hn C.N ops (λd=>ji C.P fn.results.toList [] (.pv res) d) ops.toList ⟨t,h⟩)
 (R:∀i h,i<xs.length->Ix i h->ji C.P fn.results.toList [] (.pv res) ⟨t,h⟩):
 ow C fn (.pv res) (.seq (.seq x (.block b0 (.rangeFunc gop #[p] assign body))) (.seq (.region id ops false) .ret)) st:=by
 intro n L a w hs ca;refine wpIn_seq (wpIn_seq (wpIn_mono (hx n L a w hs) ?_));rintro e j w1 ⟨V,W,c,cg,b2,rfl,hg,s,bc⟩;have K:=dj c.2.2 gop;rw[hg]at K
 obtain⟨us,cf,a8⟩:∃us:List Value,j.eval gop=.func (.func gf) #[] us.toArray/\bY w1 (ae C W V.h) caps us:=by
  generalize j.eval gop=u at K
  cases K with
  |pv f=>
   cases f with
   |fn _ _ _ vs us hl g h1 y=>
    have:vs=[]:=Uv hl.symm;subst this;exact⟨us,rfl,g,y⟩
 have b1:∀k∈ks,(∀o,ae C W V.h (W k).b o)/\kT w1 (ae C W V.h) (W k).b (hin k):=by
  intro k g;obtain⟨arr,ty,z,A⟩:=c.1.bl k _ (s k g);exact⟨λo=>.inr ⟨k,_,s k g,trivial,rfl,by simp[Blk.frz]⟩,arr,ty,z,A.map_pv_inv⟩
 have H:zl C.P j.defers:=by rw[b2];exact ca
 refine wpIn_block (wpIn_mono (Gf (N:=C.N) cf hit (λb o h=>c.1.mlt h) a8 b1 (λk g k' b4 b8=>c.1.sep k k' _ _ b8 (s k g) (s k' b4) trivial trivial) c.2.1 hp (t:=t) ?_ I Ix h0 hI ad B) ?_)
 .intro m
  rcases bc m with⟨k,g,z,A⟩|⟨q,z,A⟩|e
  .have f:=c.2.2 m
   rw[A]at f;generalize hv:j.tmps.getD m undef=v at f
   cases f with
   |ptr _=>exact .inl ⟨k,g,z,rfl⟩
  .have f:=c.2.2 m
   rw[A]at f
   cases f with
   |pv f=>exact .inr (.inl ⟨q,z,f⟩)
  .exact .inr (.inr e)
 rintro e a2 w2 ⟨J,L2,y,D,F,r,a5,ar,a6,b5,bH,b9,bq,Z,G,E,rfl⟩
 have a7:∀k∈ks,∃X,y k=some (.box X false false):=by
  intro k g;rcases F with⟨_,hi⟩|⟨_,i,_,hi⟩
  .exact hI _ y k g hi
  .exact ad _ y k g hi
 have O:gX J L2 ⟨t,y⟩ {j with defers:={target:=.collected D,args:=#[]}::j.defers} w2:=by
  refine⟨b5,by rw[a5];exact c.2.1,λm=>?_⟩;show RepA w2 (ae J L2 y) L2 y (t m) (j.tmps.getD m undef);rcases bc m with⟨k,g,z,A⟩|⟨q,z,A⟩|e
  .have f:=c.2.2 m
   rw[A]at f;obtain⟨X,hc⟩:=a7 k g
   have hv:j.tmps.getD m undef=.pointer (some ⟨(W k).b,0,none⟩):=by
    generalize j.tmps.getD m undef=v at f
    cases f with
    |ptr _=>rfl
   rw[z,hv,<-bH k g];exact .ptr hc
  .have f:=c.2.2 m
   rw[A]at f;rw[z]
   cases f with
   |pv f=>exact .pv (b9 q _ f)
  .rw[e];exact .undef _
 rcases F with⟨rfl,M⟩|⟨rfl,i,bb,M⟩
 .show Code.wpIn Fence.wide n C.P _ _ _ w2
  refine wpIn_seq (wpIn_region_list ?_);have U:=T y M;rw[<-r,<-a5]at U;rw[r]at U;have ba:=λQ' bs=>iS (C:=J) (Q:=λd=>ji C.P fn.results.toList [] (.pv res) d) (Q':=Q') (hn:=hn) (ops:=ops) gJ (n:=n) bs (λ_ ho=>lZ b7 ho) O (aM.refl O.1) rfl (by rw[r];exact U);rw[r]at ba;refine ba _ ?_;intro ch L3 a3 w3 cd _ b3 cb;refine wpIn_ret ?_;exact xc Y c s (λ_ _=>rfl) H r ar a6 bq Z G E cd b3 cb
 .show LeavesInM Fence.wide n C.P fn j.tmps (Lr C res) ({target:=.collected D,args:=#[]}::j.defers) .returning w2
  exact xc (a3:={j with defers:={target:=.collected D,args:=#[]}::j.defers}) Y c s (λ_ _=>rfl) H r ar a6 bq Z G E O rfl (R i y bb M)
theorem E4(h:Hp)(ks:List Nat)(k:Nat)(b:Blk):rekey h ks k b k=some b:=T6 rfl
section
variable {C:Cx} {L:Nat->Loc} {h1 h:Hp} {w:World}
theorem MemL.loosen(g:MemL C L h w)(ks:List Nat)(f:Nat->Bool):
 MemL C L (λq=>if f q=true then(h q).map (bT ks)else h q) w/\KC L h L (λq=>if f q=true then(h q).map (bT ks)else h q)/\
  Pres w (ae C L h) w (ae C L (λq=>if f q=true then(h q).map (bT ks)else h q)):=by
 let r:Hp:=λq=>if f q=true then(h q).map (bT ks)else h q
 have get:∀{q b},r q=some b->∃a,h q=some a/\(b=a\/b=bT ks a):=by
  grind [Option.map_eq_some_iff]
 have x:∀{b a:Blk}{l:Loc},(b=a\/b=bT ks a)->b.live l=a.live l:=by
  grind [tA]
 have F:∀{b a:Blk}{o:Nat},(b=a\/b=bT ks a)->b.frz o=a.frz o:=by
  grind [AJ]
 have H:∀b o,ae C L r b o->ae C L h b o:=by
  rintro b o (G|⟨q,B,hq,k,e,hf⟩)
  .exact .inl G
  .obtain⟨a,c,d⟩:=get hq
   rw[x d]at k;rw[F d]at hf;exact .inr ⟨q,a,c,k,e,hf⟩
 have hp:Pres w (ae C L h) w (ae C L r):=Pres.sub H
 have j:KC L h L r:=by
  intro q b hq
  grind [bT,vp,da]
 refine⟨⟨g.ext,g.m0,?_,?_,?_⟩,j,hp⟩
 .intro q b hq
  obtain⟨a,c,d⟩:=get hq;have e:=(g.bl q a c).mono hp j (λ_=>rfl);rcases d with rfl|rfl
  .exact e
  .cases a with
   |box M own N=>
    obtain⟨arr,J,y,A,a3⟩:=e;refine⟨arr,J,y,by simpa using A,λi p u n O=>?_⟩;simp only[T0,TX]at n;obtain⟨z,P,rfl⟩:=n;unfold aB;split
    .exact .undef _
    grind
   |row=>exact e
   |mp=>exact e
 .intro q I B K s hq v k m
  obtain⟨D,c,d⟩:=get hq;obtain⟨E,d1,d2⟩:=get v;rw[x d]at k;rw[x d2]at m;exact g.sep q I D E s c d1 k m
 .intro q b hq
  obtain⟨a,c,d⟩:=get hq;rcases d with rfl|rfl
  .exact g.own q _ c
  .exact AK (g.own q a c)
end
theorem yN(w:World)(t ty e l:TypeId)(i:TypeInfo)(r:P.underlying t=some (.slice e))(hi:P.info? e=some i)(g n cap:Nat)(b:Array Value)(p:w.heap[g]?=some (.cells b l (0,0)))
 (a:Addr)(m c:Nat)(news:List Value)(q:news.length=m*i.size)(d:∀j u,news[j]?=some u->w.cell? (a.add j)=some u)(h1:∀u∈news,u.oneCell'=true)(f:n+m<=cap)(k:n*i.size+news.length<=b.size):
 (Builtin.append_ #[t,t] ty #[.slice (some ⟨g,0,none⟩) n cap,.slice (some a) m c]).run P w=.ok (.slice (some ⟨g,0,none⟩) (n+m) cap) (w.setRow g (b.toList.take (n*i.size)++news++b.toList.drop (n*i.size+news.length)).toArray):=by
 have s:=run_firstCells_some (P:=P) w i.size m a m c news q d;have o:=run_storeCells_at P g (n*i.size) l news 0 b w p (by simpa using k) h1;rw[We]at o;simp[Builtin.append_,run_underlying r,sizeOf,typeInfo,hi,Builtin.lenOf,f,s,Addr.add_lit,o]
section
variable {C:Cx} {Q:Exit->St->Prop} {st:St}
def JG(C:Cx)(hn:List Nat)(ops:Array Oper)(Q:St->Prop)(t:TypeId)(s x:Operand)(d:Nat)(post:List Oper)(st:St):Prop:=
 ∃k n r A z f b e a,st.ev s=.ext (.barr k n (n+r))/\st.h k=some (.box (A++List.replicate r (.pv (.val z))) true false)/\A.length=n/\(∀y∈A,bB [k] y=false)/\
  gi st.h (st.ev x)=some a/\a.all (qg 1)=true/\(∀y∈a,y.cells=[y])/\0<a.length/\ak C.P t=some e/\e.kind=.slice f 1 b (some z)/\z.cells=#[z]/\(n+a.length)*b<=140737488355328/\n+a.length<=9223372036854775807/\k<2000000/\d<C.N/\d<2000000/\
  ∀c,dR C.P hn C.N ops Q post (St.put ⟨λm=>aB [k] (st.t m),rekey st.h [k] k (.box (A++a.map .pv++List.replicate c (.pv (.val z))) true false)⟩ (some d) (.ext (.barr k (n+a.length) (n+a.length+c))) [])
theorem WP.appB{t:TypeId}(b3:ops.toList=pre++o::post)(b2:o.op=.call {callee:=.builtin .append,args:=#[s,x],argTypes:=#[t,t]})(hd:o.dst=some d)(hg:o.guard=none)
 (hq:dR C.P hn C.N ops (JG C hn ops (Q .normal) t s x d post) pre st):WP C (.region id ops false) Q st:=by
 intro a w hs;refine wp_region_list ?_;rw[b3];refine iO (λf a1 E cx cu=>?_) hs hq;obtain⟨k,n,r,A,z,et,eb,ti,B,cz,hk,hA,ad,cP,cr,a2,cN,cH,cn,cQ,S,c1,cm,ch,cg,H⟩:=cu;obtain⟨L,hm,hN,cj,ht⟩:=cx;refine wpList_step (λK hK=>?_);rw[kV hg,T6 rfl];obtain⟨Z,jt,hj,O,rfl,ck⟩:=dV cH cn;have b7:=dj ht s;rw[cz]at b7
 have Y:∀u,RepA E (ae C L f.h) L f.h (.ext (.barr k n (n+r))) u->u=.slice (some ⟨(L k).b,0,none⟩) n (n+r):=by
  intro u G
  cases G with
  |ext hx=>cases hx with
   |barr _ _=>rfl
 have Y:=Y _ b7;obtain⟨Ad,c,b9,c2,cf⟩:=ph hm (λ_ _ h=>h) (dj ht x) cP cr;obtain⟨b,o9,rfl,news,n1,n2,n3,n4⟩:=cf cN;rw[VG]at n1
 have J:∀j u,news[j]?=some u->E.cell? ((⟨b,o9,none⟩:Addr).add j)=some u:=λj u G=>by rw[fh];exact n2 j u G
 obtain⟨arr,ty,ha,hl,hr⟩:=hm.bl k _ hk;have cV:arr.toList.length=arr.size:=U3
 have bc:arr.size=n+r:=by
  grind
 have b1:∀(i:Nat) y,B[i]?=some y->y.cells=[y]:=λi y hy=>a2 y (Is hy)
 have bH:∀(i:Nat) y,B[i]?=some y->∃v,news[i]?=some v/\Rep E (ae C L f.h) y v:=by
  intro i y hy;obtain⟨v,h1,h2⟩:=n4 i y 0 y hy (by rw[b1 i y hy];rfl)
  grind
 have body:∀{w':World}{M':Nat->Nat->Prop}{L':Nat->Loc}{h':Hp}{rest:List Value}{g:Nat},Pres E (ae C L f.h) w' M'->(∀(i:Nat) y u,A[i]?=some y->RepA E (ae C L f.h) L f.h y u->RepA w' M' L' h' y u)->
  rest=List.replicate g z->aG w' M' L' h' (A++B.map .pv++List.replicate g (.pv (.val z))) (arr.toList.take n++news++rest):=by
  intro w' M' L' h' rest g hp cd H;subst H;refine aG.append (aG.append ⟨?_,?_⟩ ⟨by simp[n1],?_⟩) ⟨by simp,?_⟩
  .simp[hA];omega
  .intro i p u F G
   have hi:i<n:=by rw[<-hA];exact(th.1 F).1
   rw[Ur,T6 hi]at G;exact cd i p u F (hr i p u (by rw[T1 (by omega)];exact F) G)
  .intro i p u F G
   simp only[T0,TX]at F;obtain⟨y,hy,rfl⟩:=F;obtain⟨v,h1,h2⟩:=bH i y hy;rw[h1]at G;injection G with G;subst G;exact .pv (h2.mono hp)
  .intro i p u F G
   have hi:i<g:=by simpa using(th.1 F).1
   rw[Us,T6 hi]at F G;injection F with F;injection G with G;subst F;subst G;exact .pv (.val _)
 have ba:∀{v:Value}{w':World},(Builtin.append_ #[t,t] o.type #[a1.eval s,a1.eval x]).run C.P E=.ok v w'->(execOp a1.eval o).run C.P E=.ok (.value v) w':=by
  intro v w' I;obtain⟨cb,op,ca,pos,after,guard⟩:=o;simp only at b2 I;subst b2;have cM:execOp a1.eval ⟨cb,.call ⟨.builtin .append,#[s,x],#[t,t]⟩,ca,pos,after,guard⟩=builtin .append #[t,t] ca ((#[s,x]:Array Operand).map λ|.const _=>true|_=>false) ((#[s,x]:Array Operand).map a1.eval):=rfl;rw[cM];simp[builtin,I]
 have key:∃g L' w',(execOp a1.eval o).run C.P E=.ok (.value (.slice (some ⟨(L' k).b,0,none⟩) (n+B.length) (n+B.length+g))) w'/\
  MemL C L' (rekey f.h [k] k (.box (A++B.map .pv++List.replicate g (.pv (.val z))) true false)) w'/\
  (∀{y:AV}{u:Value},RepA E (ae C L f.h) L f.h y u->RepA w' (ae C L' (rekey f.h [k] k (.box (A++B.map .pv++List.replicate g (.pv (.val z))) true false))) L' (rekey f.h [k] k (.box (A++B.map .pv++List.replicate g (.pv (.val z))) true false)) (aB [k] y) u):=by
  by_cases a6:n+B.length<=n+r
  .have D:=yN (P:=C.P) E t o.type et ty jt Z hj (L k).b n (n+r) arr ha ⟨b,o9,none⟩ B.length c news (by rw[n1,O,VG]) J n3 a6 (by rw[O,bc];omega)
   obtain⟨g,X⟩:∃g,n+r=n+B.length+g:=⟨r-B.length,by omega⟩;rw[O,VG,n1]at D
   have ar:arr.toList.drop (n+B.length)=List.replicate g z:=by
    apply UF;intro i;rw[UT,Us];by_cases hi:i<g
    .rw[T6 hi]
     have cp:n+B.length+i<arr.toList.length:=by omega
     have hg:arr.toList[n+B.length+i]?=some arr.toList[n+B.length+i]:=an cp
     have hc:(A++List.replicate r (AV.pv (PV.val z)))[n+B.length+i]?=some (.pv (.val z)):=by
      rw[T5 (by omega),Us,T6 (by omega)]
     have:=hr _ _ _ hc hg
     cases this with
     |pv I=>rw[hg,aR I]
    .rw[TZ hi]
     exact Ua (by omega)
   rw[ar]at D
   have hw:∀b',b'<E.heap.size->((Blk.box (A++List.replicate r (.pv (.val z))) true false).live (L k)->b'≠(L k).b)->(E.setRow (L k).b (arr.toList.take n++news++List.replicate g z).toArray).heap[b']?=E.heap[b']?:=
    λb' _ hb=>setRow_other E _ b' _ (hb trivial)
   have hpr:∀o v,(Blk.box (A++List.replicate r (.pv (.val z))) true false).live (L k)->(Blk.box (A++List.replicate r (.pv (.val z))) true false).frz o->E.cell? ⟨(L k).b,o,none⟩=some v->
    (E.setRow (L k).b (arr.toList.take n++news++List.replicate g z).toArray).cell? ⟨(L k).b,o,none⟩=some v:=by
    intro q v _ hf _;simp[Blk.frz]at hf
   have a8:eg (.box (A++List.replicate r (.pv (.val z))) true false) (L k) (.box (A++B.map .pv++List.replicate g (.pv (.val z))) true false) (L k):=rfl;have a5:=hm.touch_pk (blk':=.box (A++B.map .pv++List.replicate g (.pv (.val z))) true false) hk hw hpr (λo hf=>hf) a8 Vh
   obtain⟨U,V,T⟩:=hm.touch (blk':=.box (A++B.map .pv++List.replicate g (.pv (.val z))) true false) hk hw (by simp) rfl rfl rfl hpr (λo hf=>hf) a8 Vh (by have I:=hm.own k _ hk;exact I) (by
    refine⟨_,ty,setRow_heap E _ arr _ ty _ ha,?_⟩;rw[List.toList_toArray]
    exact body a5.1 (λi y u _ I=>I.mono a5.1 a5.2) rfl)
   obtain⟨bs,a7,b4⟩:=U.loosen [k] (λq=>q !=k)
   have he:(λq=>if(q !=k)=true then(ag f.h k (some (Blk.box (A++B.map .pv++List.replicate g (.pv (.val z))) true false)) q).map (bT [k])else ag f.h k (some (Blk.box (A++B.map .pv++List.replicate g (.pv (.val z))) true false)) q)=rekey f.h [k] k (.box (A++B.map .pv++List.replicate g (.pv (.val z))) true false):=by
    funext q
    by_cases e:q=k
    .subst e;simp[rekey,ag]
    .simp[rekey,ag,e]
   rw[he]at bs a7 b4;refine⟨g,L,_,ba (by rw[Y,b9,X];rw[X]at D;exact D),bs,λ{y u} I=>?_⟩;have h8:=(I.mono V T).mono b4 a7;unfold aB;split
   .exact .undef _
   .exact h8
  .have D:=run_append_grow (P:=C.P) E t o.type et jt z Z hj ck ⟨(L k).b,0,none⟩ n (n+r) (arr.toList.take n) (by rw[O,VG,UI,U3];omega)
    (λq u G=>by
      rw[fh,eT ha,UY];rw[Ur]at G;split at G
      .simpa using G
      .cases G)
    ⟨b,o9,none⟩ B.length c news (by rw[n1,O,VG]) J (by omega) (by omega) (growslice_fits (by omega) S)
   have c3:=grownCap_ge E (n+B.length) (n+r) et;obtain⟨g,X⟩:∃g,grownCap E (n+B.length) (n+r) et=n+B.length+g:=⟨grownCap E (n+B.length) (n+r) et-(n+B.length),by omega⟩
   have cS:(Builtin.zeroCells z.cells g).toList=List.replicate g z:=by
    rw[cQ];simp[Builtin.zeroCells,Nat.mod_one,List.map_const']
   rw[X,Nat.add_sub_cancel_left]at D;have b8:Ext (λ_=>False) E (E.drew.alloc (.cells ((arr.toList.take n).toArray++news.toArray++Builtin.zeroCells z.cells g) et)):=(Ext.drew _ E).trans (Ext.alloc _ _ _) (λ_ _ h=>h);obtain⟨cq,R⟩:=MemL.kill (st:=f) [k] hm
   have b0:(f.kill [k]).h k=none:=by simp[St.kill]
   have bb:KC L (f.kill [k]).h (ag L k ⟨E.heap.size,0,false⟩) (ag (f.kill [k]).h k (some (.box (A++B.map .pv++List.replicate g (.pv (.val z))) true false))):=KC.new b0;have b5:=(Pres.sub (w:=E) R).trans (oD (q:=True) (M:=ae C L (f.kill [k]).h) b8 (λ_=>T8 _))
   obtain⟨U,V,T⟩:=cq.newKey (d:=k) b0 cm (l:=⟨E.heap.size,0,false⟩) (blk:=.box (A++B.map .pv++List.replicate g (.pv (.val z))) true false) b8 (λ_=>T8 _) (by intro cW c0 e;injection e with _ e2;cases e2) (by
    refine⟨_,et,jS _ _,?_⟩;rw[Wy,Wy,cS];refine body b5 (λi y u hy I=>?_) rfl;have h8:=qv (ks:=[k]) b5 I;rw[show aB [k] y=y by unfold aB;rw[TZ (by rw[ad y (Is hy)];decide)]]at h8
    exact h8.mono (Pres.refl _ _) bb)
   have he:ag (f.kill [k]).h k (some (Blk.box (A++B.map .pv++List.replicate g (.pv (.val z))) true false))=rekey f.h [k] k (.box (A++B.map .pv++List.replicate g (.pv (.val z))) true false):=by
    funext q
    by_cases e:q=k
    .subst e;simp[rekey,ag]
    .simp[rekey,ag,e,St.kill]
   rw[he]at U V T;refine⟨g,ag L k ⟨E.heap.size,0,false⟩,_,ba (by rw[Y,b9,aJ];exact D),U,λ{y u} I=>?_⟩;have h8:RepA E (ae C L (f.kill [k]).h) L (f.kill [k]).h (aB [k] y) u:=qv (Pres.sub R) I;exact h8.mono V T
 obtain⟨g,L',w',D,bq,cB⟩:=key;unfold Oper.wp;rw[D];refine hK _ _ ?_;refine iX (λcU a' w' cw ct=>⟨cU,cw,ct⟩) (st:=St.put ⟨λm=>aB [k] (f.t m),rekey f.h [k] k (.box (A++B.map .pv++List.replicate g (.pv (.val z))) true false)⟩ (some d) (.ext (.barr k (n+B.length) (n+B.length+g))) []) ?_ (H g);rw[hd];exact gy.put (st:=⟨λm=>aB [k] (f.t m),rekey f.h [k] k (.box (A++B.map .pv++List.replicate g (.pv (.val z))) true false)⟩) bq hN cj (λm=>cB (ht m)) (d:=some d) (by simp[dr,ch,cg]) (W:=[]) (aM.refl bq) (.ext (.barr (Nat.le_add_right _ _) (E4 _ _ _ _)))
end
theorem WP.toSuf{c:Code}(s:Nat){k e sz fz:Nat}(i:st.h k=some (.row e sz xs fz))(u:st.t s=.arr k xs.length)
 (h:WP C c Q ⟨ag st.t s (.ext (.suf k 0 xs.length xs.length)),st.h⟩):WP C c Q st:=by
 intro a w r;obtain⟨L,l,hN,g,d⟩:=r;refine h a w ⟨L,l,hN,g,λn=>?_⟩;show RepA w (ae C L st.h) L st.h (ag st.t s (.ext (.suf k 0 xs.length xs.length)) n) _;unfold ag;split
 .rename_i p
  subst p;have o:=d n;rw[u]at o
  cases o with
  |arr b q v=>
   rw[i]at b;injection b with b;injection b with a1 a2 a3 a4;subst a3
   have j:∃A m c,(L k).slice xs.length=.slice A m c:=by
    unfold Loc.slice;split
    all_goals exact⟨_,_,_,rfl⟩
   have f:=v rfl;refine .ext (.suf (by rw[f];exact j) i (by omega) (T8 _) (λ_=>?_));rw[f];unfold Loc.slice;rcases ng l i with⟨g1,g2⟩|⟨g1,_⟩
   all_goals grind
 .exact d n
section
variable {C:Cx} {Q:Exit->St->Prop} {st:St}
def Ld(C:Cx)(hn:List Nat)(ops:Array Oper)(Q:St->Prop)(t:TypeId)(x y:Operand)(d:Nat)(post:List Oper)(st:St):Prop:=
 ∃k e a n m o i g xs c f b z,st.ev x=.ext (.suf k o n (o+n))/\st.ev y=.pv (.val (.int i (m:Nat)))/\st.h k=some (.row e a xs g)/\xs.length=o+n/\m<=n/\ak C.P t=some c/\c.kind=.slice f a b z/\d<C.N/\d<2000000/\
  dR C.P hn C.N ops Q post (st.put (some d) (.ext (.suf k (o+m) (n-m) (o+n))) [])
theorem WP.suf{hn:List Nat}{id:Nat}{ops:Array Oper}{pre post:List Oper}{o:Oper}{t:TypeId}{x y:Operand}{d:Nat}(B:ops.toList=pre++o::post)(Y:o.op=.slice t x (some y) none none)(hd:o.dst=some d)(hg:o.guard=none)
 (hq:dR C.P hn C.N ops (Ld C hn ops (Q .normal) t x y d post) pre st):WP C (.region id ops false) Q st:=by
 intro a w hs;refine wp_region_list ?_;rw[B];refine iO (λj G l a5 ad=>?_) hs hq;obtain⟨k,e,H,n,m,q,kk,fz,xs,ti,e',b',z',a7,bb,U,z,bs,a6,V,R,O,i⟩:=ad;obtain⟨L,X,hN,S,ht⟩:=a5;refine wpList_step (λK hK=>?_);rw[kV hg,T6 rfl];have E:=dj ht x;rw[a7]at E
 have ba:∀u,RepA l (ae C L j.h) L j.h (.ext (.suf k q n (q+n))) u->∃A c,u=.slice A n c/\(((L k).isNil=false/\A=some ⟨(L k).b,q*H,none⟩/\c+q=(L k).cap)\/(n=0/\c=0/\(q=0->(L k).isNil=true/\A=none))):=by
  intro u hu
  cases hu with
  |ext hx=>cases hx with
   |suf _ g bH b0 hu=>
    rw[U]at g;injection g with g;injection g with _ a2 a3 _;subst a2;subst a3;exact hu z
 obtain⟨A,c,a8,J⟩:=ba _ E;have F:=dj ht y;rw[bb]at F
 have bc:G.eval y=.int kk (m:Nat):=by
  cases F with
  |pv hr=>exact aR hr
 obtain⟨D,jt,hj,T,_,_⟩:=dV a6 V
 have v:n<=c:=by
  rcases J with⟨g1,g2,g3⟩|⟨g1,g2,_⟩
  .rcases ng X U with⟨h9,_⟩|⟨_,h10,_⟩
   all_goals grind
  .omega
 have f:∃r s,(execOp G.eval o).run C.P l=.ok (.value (.slice r (n-m) s)) l/\(((L k).isNil=false/\r=some ⟨(L k).b,(q+m)*H,none⟩/\s+(q+m)=(L k).cap)\/(n-m=0/\s=0/\(q+m=0->(L k).isNil=true/\r=none))):=by
  have M:(0:Int)<=(m:Int)/\(m:Int)<=(n:Int):=by omega
  have key:(Instr.sliceBounds true n c (some (.int kk (m:Nat))) none none).run C.P l=.ok (m,n,c) l:=by
   simp[Instr.sliceBounds,Instr.sliceBound,asIntOf,M,v];omega
  have h2:(Instr.sliceAt t (G.eval x) (some (G.eval y)) none none).run C.P l=.ok (.slice (if c=m then A else A.map λp=>p.add (m*H)) (n-m) (c-m)) l:=by
   rw[a8,bc];simp only[Instr.sliceAt,Sem.run_bind,dL D,Result.andThen_ok,Instr.slice,key,gx hj,Sem.run_pure,T]
  refine⟨if c=m then A else A.map λp=>p.add (m*H),c-m,by unfold execOp;rw[Y];simp[h2],?_⟩
  grind [fh,Nat.add_mul]
 obtain⟨r,s,f,I⟩:=f;unfold Oper.wp;rw[f];refine hK _ _ ?_;refine iX (λbq a' w' ar Z=>⟨bq,ar,Z⟩) (st:=j.put (some d) (.ext (.suf k (q+m) (n-m) (q+n))) []) ?_ i;rw[hd];refine gy.put X hN S ht (d:=some d) (by simp[dr,R,O]) (W:=[]) (aM.refl X) (.ext (.suf (xs:=xs) ⟨_,_,_,rfl⟩ U (by omega) (by omega) (λ_=>⟨r,s,rfl,I⟩)))
theorem yP(w:World)(t ty e l:TypeId)(i:TypeInfo)(r:P.underlying t=some (.slice e))(hi:P.info? e=some i)(g off n cap:Nat)(b:Array Value)(p:w.heap[g]?=some (.cells b l (0,0)))
 (a:Addr)(m c:Nat)(news:List Value)(q:news.length=m*i.size)(d:∀j u,news[j]?=some u->w.cell? (a.add j)=some u)(h1:∀u∈news,u.oneCell'=true)(f:n+m<=cap)(k:off+n*i.size+news.length<=b.size):
 (Builtin.append_ #[t,t] ty #[.slice (some ⟨g,off,none⟩) n cap,.slice (some a) m c]).run P w=.ok (.slice (some ⟨g,off,none⟩) (n+m) cap) (w.setRow g (b.toList.take (off+n*i.size)++news++b.toList.drop (off+n*i.size+news.length)).toArray):=by
 have s:=run_firstCells_some (P:=P) w i.size m a m c news q d;have o:=run_storeCells_at P g (off+n*i.size) l news 0 b w p (by simpa using k) h1;rw[We]at o;simp[Builtin.append_,run_underlying r,sizeOf,typeInfo,hi,Builtin.lenOf,f,s,Addr.add_lit,o]
def JH(C:Cx)(hn:List Nat)(ops:Array Oper)(Q:St->Prop)(t:TypeId)(s x:Operand)(d:Nat)(post:List Oper)(st:St):Prop:=
 ∃k o n f c xs a i g z,st.ev s=.ext (.suf k o n (o+n))/\st.h k=some (.row f c xs 0)/\xs.length=o+n/\gi st.h (st.ev x)=some a/\a.all (qg c)=true/\0<a.length/\ak C.P t=some i/\i.kind=.slice f c g (some z)/\0<c/\z.cells.size=c/\
  (n+a.length)*g<=140737488355328/\n+a.length<=9223372036854775807/\k<2000000/\d<C.N/\d<2000000/\
  ∀e b,b.length=e+(n+a.length)->b.drop e=xs.drop o++a->dR C.P hn C.N ops Q post (St.put ⟨λm=>aB [k] (st.t m),rekey st.h [k] k (.row f c b 0)⟩ (some d) (.ext (.suf k e (n+a.length) (e+(n+a.length)))) [])
theorem WP.appS{t:TypeId}(cb:ops.toList=pre++o::post)(ca:o.op=.call {callee:=.builtin .append,args:=#[s,x],argTypes:=#[t,t]})(hd:o.dst=some d)(hg:o.guard=none)
 (hq:dR C.P hn C.N ops (JH C hn ops (Q .normal) t s x d post) pre st):WP C (.region id ops false) Q st:=by
 intro a w hs;refine wp_region_list ?_;rw[cb];refine iO (λf a1 F c2 c0=>?_) hs hq;obtain⟨k,q,n,r,sz,xs,E,ti,eb,z,c3,hk,bc,ef,cS,ee,c9,cM,c7,ei,O,er,cH,cu,ct,bH⟩:=c0;obtain⟨L,hm,hN,cw,ht⟩:=c2;refine wpList_step (λK hK=>?_);rw[kV hg,T6 rfl];obtain⟨V,g,hj,rfl,rfl,bq⟩:=dV c9 cM
 have ba:∀y∈E,y.cells.length=g.size:=by
  simp_all
 have cf:=dj ht s;rw[c3]at cf
 have c5:∀u,RepA F (ae C L f.h) L f.h (.ext (.suf k q n (q+n))) u->∃A c,u=.slice A n c/\(((L k).isNil=false/\A=some ⟨(L k).b,q*g.size,none⟩/\c+q=(L k).cap)\/(n=0/\c=0/\(q=0->(L k).isNil=true/\A=none))):=by
  intro u H
  cases H with
  |ext hx=>cases hx with
   |suf _ a6 eA eB H=>
    rw[hk]at a6;injection a6 with a6;injection a6 with _ a2 a3 _;subst a3;rw[a2];exact H bc
 obtain⟨B,cap,b1,cq⟩:=c5 _ cf;obtain⟨Ad,c,b2,ez,cp⟩:=ph hm (λ_ _ h=>h) (dj ht x) ef cS;obtain⟨b,o9,rfl,news,n1,n2,n3,n4⟩:=cp ee
 have R:∀j u,news[j]?=some u->F.cell? ((⟨b,o9,none⟩:Addr).add j)=some u:=λj u H=>by rw[fh];exact n2 j u H
 have b7:∀{v:Value}{w':World},(Builtin.append_ #[t,t] o.type #[a1.eval s,a1.eval x]).run C.P F=.ok v w'->(execOp a1.eval o).run C.P F=.ok (.value v) w':=by
  intro v w' h9;obtain⟨cn,op,ck,pos,after,guard⟩:=o;simp only at ca h9;subst ca;have ec:execOp a1.eval ⟨cn,.call ⟨.builtin .append,#[s,x],#[t,t]⟩,ck,pos,after,guard⟩=builtin .append #[t,t] ck ((#[s,x]:Array Operand).map λ|.const _=>true|_=>false) ((#[s,x]:Array Operand).map a1.eval):=rfl;rw[ec];simp[builtin,h9]
 obtain⟨g1,g2,g3,g4,g5⟩:=hm.bl k _ hk
 have key:∃X D L' w' v,D.length=X+(n+E.length)/\D.drop X=xs.drop q++E/\(execOp a1.eval o).run C.P F=.ok (.value v) w'/\
  MemL C L' (rekey f.h [k] k (.row r g.size D 0)) w'/\RepA w' (ae C L' (rekey f.h [k] k (.row r g.size D 0))) L' (rekey f.h [k] k (.row r g.size D 0)) (.ext (.suf k X (n+E.length) (X+(n+E.length)))) v/\
  (∀{y:AV}{u:Value},RepA F (ae C L f.h) L f.h y u->RepA w' (ae C L' (rekey f.h [k] k (.row r g.size D 0))) L' (rekey f.h [k] k (.row r g.size D 0)) (aB [k] y) u):=by
  have grow:∀(J:List Value),J.length=n*g.size->(∀(i:Nat) y(j:Nat) p,(xs.drop q)[i]?=some y->y.cells[j]?=some p->∃u,J[i*g.size+j]?=some u/\Rep F (ae C L f.h) p u)->
   (Builtin.append_ #[t,t] o.type #[a1.eval s,a1.eval x]).run C.P F=.ok (.slice (some ⟨F.heap.size,0,none⟩) (n+E.length) (grownCap F (n+E.length) cap r)) (F.drew.alloc (.cells (J.toArray++news.toArray++Builtin.zeroCells z.cells (grownCap F (n+E.length) cap r-(n+E.length))) r))->
   ∃X D L' w' v,D.length=X+(n+E.length)/\D.drop X=xs.drop q++E/\(execOp a1.eval o).run C.P F=.ok (.value v) w'/\
    MemL C L' (rekey f.h [k] k (.row r g.size D 0)) w'/\RepA w' (ae C L' (rekey f.h [k] k (.row r g.size D 0))) L' (rekey f.h [k] k (.row r g.size D 0)) (.ext (.suf k X (n+E.length) (X+(n+E.length)))) v/\
    (∀{y:AV}{u:Value},RepA F (ae C L f.h) L f.h y u->RepA w' (ae C L' (rekey f.h [k] k (.row r g.size D 0))) L' (rekey f.h [k] k (.row r g.size D 0)) (aB [k] y) u):=by
   intro J T Y I;have cx:=grownCap_ge F (n+E.length) cap r;have b4:=grownCap_le_maxLen F (n+E.length) cap r (by simp only[maxLen];omega);have cj:Ext (λ_=>False) F (F.drew.alloc (.cells (J.toArray++news.toArray++Builtin.zeroCells z.cells (grownCap F (n+E.length) cap r-(n+E.length))) r)):=(Ext.drew _ F).trans (Ext.alloc _ _ _) (λ_ _ h=>h);obtain⟨cP,Z⟩:=MemL.kill (st:=f) [k] hm
   have cQ:(f.kill [k]).h k=none:=by simp[St.kill]
   have cV:=(Pres.sub (w:=F) Z).trans (oD (q:=True) (M:=ae C L (f.kill [k]).h) cj (λ_=>T8 _))
   have ar:(xs.drop q).length=n:=by rw[VE];omega
   have S:=xX (xs:=xs.drop q) (by rw[T,ar]) (λy hy=>g3 y (List.mem_of_mem_drop hy)) ba Y n4
   obtain⟨a7,a8,ad⟩:=cP.newKey (d:=k) cQ cH (l:=⟨F.heap.size,grownCap F (n+E.length) cap r,false⟩) (blk:=.row r g.size (xs.drop q++E) 0) cj (λ_=>T8 _) (by intro en ep e;cases e) (by
    refine⟨c7,UO _,?_,(λh=>by cases h),λ_=>⟨by simp only[Uj,ar];exact cx,b4,_,jS _ _,?_,?_⟩⟩
    .intro y hy
     rcases Uf.1 hy with h'|h'
     .exact g3 y (List.mem_of_mem_drop h')
     .exact ba y h'
    .simp only[VQ,Vu,T,n1,size_zeroCells,ei]
     rw[<-UH,<-UH];congr 1;omega
    .intro i y j p G U
     obtain⟨u,H,hr,cN⟩:=S i y j p G U;refine⟨u,?_,hr.mono (cV.trans (Pres.sub (λb o h9=>Or.elim h9 Or.inl λh8=>Or.inr ⟨trivial,h8.2⟩)))⟩;have cg:=(th.1 H).1
     have ch:i*g.size+j<(J.toArray++news.toArray).size:=by simp only[VQ,Vu];simp only[Uj]at cg;exact cg
     rw[UC ch,<-UN,Wy]
     exact H)
   have he:ag (f.kill [k]).h k (some (Blk.row r g.size (xs.drop q++E) 0))=rekey f.h [k] k (.row r g.size (xs.drop q++E) 0):=by
    funext m
    by_cases e:m=k
    .subst e;simp[rekey,ag]
    .simp[rekey,ag,e,St.kill]
   rw[he]at a7 a8 ad;refine⟨0,xs.drop q++E,_,_,_,by simp only[Uj,ar];omega,by simp,b7 I,a7,?_,λ{y u} h9=>?_⟩
   .refine .ext (.suf (xs:=xs.drop q++E) (e:=r) (sz:=g.size) (fz:=0) ⟨_,_,_,rfl⟩ (by simp[rekey]) (by omega) (by simp only[Uj,ar];omega) (λ_=>⟨_,_,rfl,.inl ?_⟩))
    rw[aJ];exact⟨rfl,by simp,by simp⟩
   .have h8:RepA F (ae C L (f.kill [k]).h) L (f.kill [k]).h (aB [k] y) u:=qv (Pres.sub Z) h9
    exact h8.mono a8 ad
  rcases cq with⟨e1,rfl,e3⟩|⟨rfl,rfl,_⟩
  .obtain⟨cm,a2,arr,a3,a4,a5⟩:=g5 e1
   have el:arr.toList.length=arr.size:=U3
   have bs:q*g.size+n*g.size=xs.length*g.size:=by rw[bc,UH]
   have c4:xs.length*g.size<=arr.size:=by rw[a4];exact Um _ cm
   by_cases b0:n+E.length<=cap
   .have bb:q*g.size+n*g.size+news.length<=arr.size:=by
     rw[a4,n1,<-UH,<-UH];exact Um _ (by omega)
    have I:=yP (P:=C.P) F t o.type r r g V hj (L k).b (q*g.size) n cap arr a3 ⟨b,o9,none⟩ E.length c news n1 R n3 b0 bb;rw[bs]at I bb
    have T:(arr.toList.take (xs.length*g.size)).length=xs.length*g.size:=by rw[UI];omega
    have Y:∀(i:Nat) y(j:Nat) p,xs[i]?=some y->y.cells[j]?=some p->∃u,(arr.toList.take (xs.length*g.size))[i*g.size+j]?=some u/\Rep F (ae C L f.h) p u:=by
     intro i y j p G U;obtain⟨u,H,hr⟩:=a5 i y j p G U;refine⟨u,?_,hr⟩
     have cB:j<g.size:=by rw[<-g3 y (Is G)];exact(th.1 U).1
     have cz:i<xs.length:=(th.1 G).1;have:(i+1)*g.size<=xs.length*g.size:=Um _ (by omega);rw[UH]at this;rw[Ur,T6 (by omega)];simpa using H
    have S:=xX T g3 ba Y n4
    have hw:∀b',b'<F.heap.size->((Blk.row r g.size xs 0).live (L k)->b'≠(L k).b)->(F.setRow (L k).b (arr.toList.take (xs.length*g.size)++news++arr.toList.drop (xs.length*g.size+news.length)).toArray).heap[b']?=F.heap[b']?:=
     λb' _ hb=>setRow_other F _ b' _ (hb e1)
    have hpr:∀o v,(Blk.row r g.size xs 0).live (L k)->(Blk.row r g.size xs 0).frz o->F.cell? ⟨(L k).b,o,none⟩=some v->
     (F.setRow (L k).b (arr.toList.take (xs.length*g.size)++news++arr.toList.drop (xs.length*g.size+news.length)).toArray).cell? ⟨(L k).b,o,none⟩=some v:=by
     intro m v _ hf _;simp[Blk.frz]at hf
    have b5:eg (.row r g.size xs 0) (L k) (.row r g.size (xs++E) 0) (L k):=⟨rfl,rfl,by simp,λ_=>rfl⟩;have cU:=hm.touch_pk (blk':=.row r g.size (xs++E) 0) hk hw hpr (λo hf=>hf) b5 Vh
    obtain⟨a7,a8,ad⟩:=hm.touch (blk':=.row r g.size (xs++E) 0) hk hw (by simp) rfl rfl rfl hpr (λo hf=>hf) b5 Vh (by have h9:=hm.own k _ hk;exact h9) (by
     refine⟨g1,UO _,?_,(λhn=>by rw[e1]at hn;cases hn),λ_=>⟨by simp;omega,a2,_,setRow_heap F _ arr _ _ _ a3,?_,?_⟩⟩
     .intro y hy
      rcases Uf.1 hy with h'|h'
      .exact g3 y h'
      .exact ba y h'
     .simp only[Vu,Uj,UI,VE];omega
     .intro i y j p G U
      obtain⟨u,H,hr,cN⟩:=S i y j p G U;refine⟨u,?_,hr.mono cU.1⟩;rw[Vg,T1 (th.1 H).1]
      exact H)
    obtain⟨b9,b3,cd⟩:=a7.loosen [k] (λm=>m !=k)
    have he:(λm=>if(m !=k)=true then(ag f.h k (some (Blk.row r g.size (xs++E) 0)) m).map (bT [k])else ag f.h k (some (Blk.row r g.size (xs++E) 0)) m)=rekey f.h [k] k (.row r g.size (xs++E) 0):=by
     funext m
     by_cases e:m=k
     .subst e;simp[rekey,ag]
     .simp[rekey,ag,e]
    rw[he]at b9 b3 cd;refine⟨q,xs++E,L,_,_,by simp;omega,by rw[Wu (by omega)],b7 (by rw[b1,b2];exact I),b9,?_,λ{y u} h9=>?_⟩
    .exact .ext (.suf (xs:=xs++E) (e:=r) (sz:=g.size) (fz:=0) ⟨_,_,_,rfl⟩ (by simp[rekey]) (by omega) (by simp;omega) (λ_=>⟨_,_,rfl,.inl ⟨e1,rfl,e3⟩⟩))
    .have h8:=(h9.mono a8 ad).mono cd b3
     unfold aB;split
     .exact .undef _
     .exact h8
   .refine grow ((arr.toList.drop (q*g.size)).take (n*g.size)) (by rw[UI,VE];omega) ?_ ?_
    .intro i y j p G U
     rw[UT]at G;obtain⟨u,H,hr⟩:=a5 (q+i) y j p G U;refine⟨u,?_,hr⟩
     have cB:j<g.size:=by rw[<-g3 y (Is G)];exact(th.1 U).1
     have cz:q+i<xs.length:=(th.1 G).1;have:(i+1)*g.size<=n*g.size:=Um _ (by omega);rw[UH]at this;rw[Ur,T6 (by omega),UT,<-Vx,<-UH];simpa using H
    .rw[b1,b2]
     exact run_append_grow (P:=C.P) F t o.type r g z V hj bq ⟨(L k).b,q*g.size,none⟩ n cap _ (by rw[UI,VE];omega)
      (λm u H=>by
        rw[fh,eT a3];rw[Ur]at H;split at H
        .rw[UT]at H;simpa using H
        .cases H)
      ⟨b,o9,none⟩ E.length c news n1 R (by omega) (by omega) (growslice_fits (by omega) O)
  .have cr:xs.drop q=[]:=Uv (by rw[VE];omega)
   refine grow [] (by simp) (λi y j p G _=>by rw[cr]at G;simp at G) ?_;rw[b1,b2]
   cases B with
   |none=>
    have:=run_append_nil (P:=C.P) F t o.type r g z V hj bq ⟨b,o9,none⟩ E.length c news n1 R (by omega) (by omega) (by rw[UY]at O;omega);rw[UY];simpa using this
   |some B=>
    exact run_append_grow (P:=C.P) F t o.type r g z V hj bq B 0 0 [] (by simp) (λm u H=>by simp at H) ⟨b,o9,none⟩ E.length c news n1 R (by omega) (by omega) (growslice_fits (by omega) O)
 obtain⟨X,D,L',w',v,dd,ea,I,b8,hv,c8⟩:=key;unfold Oper.wp;rw[I];refine hK _ _ ?_;refine iX (λek a' w' c1 cW=>⟨ek,c1,cW⟩) (st:=St.put ⟨λm=>aB [k] (f.t m),rekey f.h [k] k (.row r g.size D 0)⟩ (some d) (.ext (.suf k X (n+E.length) (X+(n+E.length)))) []) ?_ (bH X D dd ea);rw[hd];exact gy.put (st:=⟨λm=>aB [k] (f.t m),rekey f.h [k] k (.row r g.size D 0)⟩) b8 hN cw (λm=>c8 (ht m)) (d:=some d) (by simp[dr,cu,ct]) (W:=[]) (aM.refl b8) hv
end
theorem Gi{f:FuncId}{c:Code}(hf:P.funcs[f]?=some fn){args:List AV}{e:Hp}(b:LookH e)(h:∀C:Cx,C.P=P->C.N=fn.ntmps->WP C c (E2 P fn.results.toList e Post) (sW args e))
 (g:fn.body=some c:=by rfl)(a:dh P f=true:=by kernel_rfl)(d:args.length<=fn.ntmps:=by exact of_decide_eq_true (by kernel_rfl)):nH P f args e Post:=Kl hf g a d b h
theorem wi{rs:List ResultVar}{i H:Hp}{r:AV}(h1:mD P st rs=some r)(m:rl r=true)(l:∀k,inK k=true->st.h k=H k)(hL:LookH H)(hp:Post r H)
 (c:∀k d f,i k=some (.box d false f)->∃a,H k=some (.box a false false)):xP P rs i Post st:=by
 have e:pV st.h=H:=by
  funext k
  unfold pV;split
  .rename_i hi;exact l k hi
  .rename_i hi
   cases g:H k with
   |none=>rfl
   |some b=>exact absurd (hL.keys k b g) hi
 refine⟨r,h1,m,by rw[e];exact hL,by rw[e];exact hp,λk d f g=>?_⟩;obtain⟨a,j⟩:=c k d f g;exact⟨a,by rw[l k (hL.keys k _ j)];exact j⟩
def mi:Hp:=λ_=>none
theorem BQ:LookH mi:=⟨λk b h=>(by cases h),λk b o h=>(by cases h),λk b h=>(by cases h),λk a o f h=>(by cases h)⟩
theorem WP.takeAt(n:Nat){xs:List Operand}{a:Array TypeId}(c:ops.toList[n]?=some o)(b:o.op=.call {callee:=.value f,args:=xs.toArray,argTypes:=a})(e:o.guard=none)
 (hq:dR C.P hn C.N ops (tD C (dR C.P hn C.N ops (Q .normal) (ops.toList.drop (n+1))) f xs o.dst) (ops.toList.take n) st):WP C (.region id ops false) Q st:=by
 refine WP.take (pre:=ops.toList.take n) (post:=ops.toList.drop (n+1)) (o:=o) ?_ b e hq;have g:=(th.1 c).1;have d:=(th.1 c).2;rw[<-d,Vp,UW]
theorem WP.appBAt(n:Nat){t:TypeId}(b:ops.toList[n]?=some o)(a:o.op=.call {callee:=.builtin .append,args:=#[s,x],argTypes:=#[t,t]})(hd:o.dst=some d)(e:o.guard=none)
 (hq:dR C.P hn C.N ops (JG C hn ops (Q .normal) t s x d (ops.toList.drop (n+1))) (ops.toList.take n) st):WP C (.region id ops false) Q st:=by
 refine WP.appB (pre:=ops.toList.take n) (post:=ops.toList.drop (n+1)) (o:=o) ?_ a hd e hq;have f:=(th.1 b).1;have c:=(th.1 b).2;rw[<-c,Vp,UW]
theorem WP.sufAt(n:Nat){t:TypeId}{y:Operand}(b:ops.toList[n]?=some o)(a:o.op=.slice t x (some y) none none)(hd:o.dst=some d)(e:o.guard=none)
 (hq:dR C.P hn C.N ops (Ld C hn ops (Q .normal) t x y d (ops.toList.drop (n+1))) (ops.toList.take n) st):WP C (.region id ops false) Q st:=by
 refine WP.suf (pre:=ops.toList.take n) (post:=ops.toList.drop (n+1)) (o:=o) ?_ a hd e hq;have f:=(th.1 b).1;have c:=(th.1 b).2;rw[<-c,Vp,UW]
theorem WP.appSAt(n:Nat){t:TypeId}(b:ops.toList[n]?=some o)(a:o.op=.call {callee:=.builtin .append,args:=#[s,x],argTypes:=#[t,t]})(hd:o.dst=some d)(e:o.guard=none)
 (hq:dR C.P hn C.N ops (JH C hn ops (Q .normal) t s x d (ops.toList.drop (n+1))) (ops.toList.take n) st):WP C (.region id ops false) Q st:=by
 refine WP.appS (pre:=ops.toList.take n) (post:=ops.toList.drop (n+1)) (o:=o) ?_ a hd e hq;have f:=(th.1 b).1;have c:=(th.1 b).2;rw[<-c,Vp,UW]
def BR(x:Nat):Nat:=match Nat.ble 300 x with
 |true=>300
 |false=>x
theorem u7(x:Nat):∀l:List Nat,l.contains x=true->(l.map BR).contains (BR x)=true
 |[],h=>h
 |a::l,h=>by
  rw[List.contains_cons,UQ,UP]at h;rw[U7,List.contains_cons,UQ,UP];rcases h with h|h
  .exact .inl (by rw[h])
  .exact .inr (u7 x l h)
theorem BT{a b:List Nat}(h:Cg (a.map BR) (b.map BR)=true):Cg a b=true:=by
 unfold Cg at *;rw[TY]at *;intro x d;have:=h (BR x) (List.mem_map_of_mem d);rw[UD]at *;rw[<-Bool.not_eq_true];intro c;rw[u7 x b c]at this;cases this
def HR(acc:nU):nU:=acc.map λx=>(x.1.map BR,x.2.map BR)
theorem Gj{acc:nU}(h:jC ts (HR acc)=true):jC ts acc=true:=by
 unfold jC HR at *;rw[Uu]at h;rw[TY]at *;intro j f;have h1:=h j f;rw[TY]at *;intro i hi;have c:=h1 i hi;rw[T0,T0]at c
 cases d:acc[i]? with
 |none=>rfl
 |some a=>cases e:acc[j]? with
  |none=>rfl
  |some b=>
   rw[d,e]at c;simp only[UL,UQ,An]at c|-;exact c.imp (λh=>⟨BT h.1,BT h.2⟩) id
theorem Yc{acc:nU}{b:Prop}(h:b)(k:jC ts (HR acc)=true:=by kernel_rfl):jC ts acc=true/\b:=⟨Gj k,h⟩
theorem qw{cs:List AV}{x:AV}(h:i<cs.length):cs.take i++x::cs.drop (i+1)=cs.set i x:=by
 rw[List.set_eq_take_append_cons_drop,T6 h]
theorem GH{S G H:Prop}(s:S)(x:H)(h:S->Hid H->G:=by
 intro hS hG0
 with_reducible repeat' (first|refine Sp.h ?_|((first|refine Wd ?_|refine Ss.h ?_|refine Sc.h (by first|assumption|apply_assumption) ?_|(refine Sb.h ?_ ?_ ?_<;>(try intro hgd)<;>try exact Xy))<;>simp -implicitDefEqProofs (maxSteps:=2000000) [hP,hN,hS]<;>try refine Yc ?_)|refine X2 ?_ ?_|(refine Xd ?_ ?_<;>intro hcd<;>try exact Xx))
 exact hG0.h):G:=h s ⟨x⟩
theorem qk{m:Nat}(_:m=n)(a:Array Value):∀k,k<n->k<a.size+(n-a.size):=by intro k h;omega
theorem JT(h:fx P g:=by
 refine⟨by kernel_rfl,λargs w=>?_⟩;refine callsD_of_wpS hf rfl λd f e=>?_;apply wpS_seq;apply wpS_region;have a:=qk nt args;have b:=a 0 (by decide);have h1:=a 1 (by decide);have c:=a 2 (by decide);simp[wpOpsS,go_sem,recoverD,e,nt,Exit.thenS,b,h1,c];refine wpS_cond (t:=false) (by simp[Act.eval,b,h1,c]) ?_;simp only[T3,Ud];refine wpS_of_wp (wp_skip ?_);cases d
 simp_all[bodyPostS,results,rs]):fx P g:=h
theorem AW(h:fx P g:=by
 refine⟨by kernel_rfl,λargs w=>?_⟩;refine callsD_of_wpS hf rfl λe i f=>?_;apply wpS_seq;apply wpS_region;have a:=qk nt args;have b:=a 0 (by decide);have h1:=a 1 (by decide);have c:=a 2 (by decide);have d:=a 3 (by decide);simp[wpOpsS,go_sem,recoverD,f,nt,Exit.thenS,b,h1,c,d];refine wpS_cond (t:=false) (by simp[Act.eval,b,h1,c,d]) ?_;simp only[T3,Ud];refine wpS_of_wp (wp_skip ?_);cases e
 simp_all[bodyPostS,results,rs]):fx P g:=h
open Go.Proofs
structure Verd where
 kind:Int
 nor:List (Int×Int×Int)
 pair:Int
 left:List Int
 right:List Int
structure Cel where
 joint:Int
 low:Int
 high:Int
 v:Verd
structure Tr where
 root:List (Int×Int)
 cells:List Cel
variable {c:Cel}{t:Tr}
abbrev ax(v:Int×Int×Int):PV:=.val (.agg #[.int .i64 v.1,.int .i64 v.2.1,.int .i64 v.2.2])
abbrev aV(l:List (Int×Int×Int)):PV:=.sl (l.map ax)
abbrev Nc(p:Int)(l r:List Int):PV:=.agg [Z p,zs l,zs r]
abbrev pA(v:Verd):PV:=.agg [Z v.kind,aV v.nor,Z v.pair,zs v.left,zs v.right]
abbrev bz(c:Cel):PV:=.agg [Z c.joint,Z c.low,Z c.high,Z c.v.kind,aV c.v.nor,Z c.v.pair,zs c.v.left,zs c.v.right]
abbrev fg(t:Tr):PV:=.agg [iv t.root,.sl (t.cells.map bz)]
def dA(c:Cel):Bool:=c.joint==-1&&c.low==-1&&c.high==-1
def km(p:Int)(l r:List Int):Bool:=p==0&&(l.length:Int)==0&&(r.length:Int)==0
def eP(v:Verd):Bool:=if v.kind=0\/v.kind=1 then km v.pair v.left v.right else if v.kind=2 then((v.nor.length:Int)==0)else false
def ot(v:Verd):Bool:=v.kind==0&&((v.nor.length:Int)==0)&&km v.pair v.left v.right
theorem Dw(l:List α):((l.length:Int)==0)=decide (l.length=0):=by
 by_cases h:l.length=0
 .simp[h]
 .have:((l.length:Int)==0)=false:=by simp;intro a;exact h (by rw[a];rfl)
  rw[this];simp[h]
theorem Jv(c:Cel):bk 132 (bz c) (B (dA c)):=by
 refine Dp func132 λC hP hN=>?_
 with_reducible repeat' (first|refine Sp.h ?_|((first|refine Ss.h ?_|(refine Sb.h ?_ ?_ ?_<;>(try intro hgd)<;>try exact Xy))<;>simp -implicitDefEqProofs [hP,hN])|refine X2 ?_ ?_|(refine Xd ?_ ?_<;>intro hcd<;>try exact Xx))
 all_goals (simp_all[dA])
theorem Ki(c:Cel):bk 40 (bz c) (B (dA c)):=by
 refine Dp func40 λC hP hN=>?_
 with_reducible repeat' (first|refine Sp.h ?_|((first|refine Ss.h ?_|(refine Sb.h ?_ ?_ ?_<;>(try intro hgd)<;>try exact Xy))<;>simp -implicitDefEqProofs [hP,hN])|refine X2 ?_ ?_|(refine Xd ?_ ?_<;>intro hcd<;>try exact Xx))
 all_goals (simp_all[dA])
theorem Nd(p:Int)(l r:List Int):bk 178 (Nc p l r) (B (km p l r)):=by
 refine Dp func178 λC hP hN=>?_
 with_reducible repeat' (first|refine Sp.h ?_|((first|refine Ss.h ?_|(refine Sb.h ?_ ?_ ?_<;>(try intro hgd)<;>try exact Xy))<;>simp -implicitDefEqProofs [hP,hN])|refine X2 ?_ ?_|(refine Xd ?_ ?_<;>intro hcd<;>try exact Xx))
 all_goals (simp_all[km])
theorem OG(p:Int)(l r:List Int):bk 45 (Nc p l r) (B (km p l r)):=by
 refine Dp func45 λC hP hN=>?_
 with_reducible repeat' (first|refine Sp.h ?_|((first|refine Ss.h ?_|(refine Sb.h ?_ ?_ ?_<;>(try intro hgd)<;>try exact Xy))<;>simp -implicitDefEqProofs [hP,hN])|refine X2 ?_ ?_|(refine Xd ?_ ?_<;>intro hcd<;>try exact Xx))
 all_goals (simp_all[km])
theorem Nf(v:Verd):bk 133 (pA v) (B (eP v)):=by
 have a:=Nd v.pair v.left v.right;have b:=Dw v.nor;generalize c:km v.pair v.left v.right=E at a;refine Dp func133 λC hP hN=>?_
 with_reducible repeat' (first|refine Sp.h ?_|((first|refine Ss.h ?_|refine Sc.h (a) ?_|(refine Sb.h ?_ ?_ ?_<;>(try intro hgd)<;>try exact Xy))<;>simp -implicitDefEqProofs [hP,hN])|refine X2 ?_ ?_|(refine Xd ?_ ?_<;>intro hcd<;>try exact Xx))
 all_goals (simp_all[eP])
theorem OH(v:Verd):bk 41 (pA v) (B (eP v)):=by
 have a:=OG v.pair v.left v.right;have b:=Dw v.nor;generalize c:km v.pair v.left v.right=E at a;refine Dp func41 λC hP hN=>?_
 with_reducible repeat' (first|refine Sp.h ?_|((first|refine Ss.h ?_|refine Sc.h (a) ?_|(refine Sb.h ?_ ?_ ?_<;>(try intro hgd)<;>try exact Xy))<;>simp -implicitDefEqProofs [hP,hN])|refine X2 ?_ ?_|(refine Xd ?_ ?_<;>intro hcd<;>try exact Xx))
 all_goals (simp_all[eP])
theorem Ru(v:Verd):bk 175 (pA v) (B (ot v)):=by
 have a:=Nd v.pair v.left v.right;generalize b:km v.pair v.left v.right=E at a;refine Dp func175 λC hP hN=>?_
 with_reducible repeat' (first|refine Sp.h ?_|((first|refine Ss.h ?_|refine Sc.h (a) ?_|(refine Sb.h ?_ ?_ ?_<;>(try intro hgd)<;>try exact Xy))<;>simp -implicitDefEqProofs [hP,hN])|refine X2 ?_ ?_|(refine Xd ?_ ?_<;>intro hcd<;>try exact Xx))
 all_goals (simp_all[ot])
theorem Tn(v:Verd):bk 42 (pA v) (B (ot v)):=by
 have a:=OG v.pair v.left v.right;generalize b:km v.pair v.left v.right=E at a;refine Dp func42 λC hP hN=>?_
 with_reducible repeat' (first|refine Sp.h ?_|((first|refine Ss.h ?_|refine Sc.h (a) ?_|(refine Sb.h ?_ ?_ ?_<;>(try intro hgd)<;>try exact Xy))<;>simp -implicitDefEqProofs [hP,hN])|refine X2 ?_ ?_|(refine Xd ?_ ?_<;>intro hcd<;>try exact Xx))
 all_goals (simp_all[ot])
def dv(r:List (Int×Int)):Bool:=decide (1<=r.length)&&decide (r.length<=10)&&bi vI r
theorem Rv(r:List (Int×Int)):bk 174 (iv r) (B (dv r)):=by
 by_cases h1:r.length<1
 .have g:dv r=false:=by simp[dv];omega
  have b:(r.length:Int)<1:=by omega
  rw[g];refine Dp func174 λC hP hN=>?_;exact GS (gA b h1)
 have b:¬(r.length:Int)<1:=by omega
 by_cases j:10<r.length
 .have g:dv r=false:=by simp[dv];omega
  have c:(10:Int)<r.length:=by omega
  rw[g];refine Dp func174 λC hP hN=>?_;exact GS (it b h1 j c)
 have c:¬(10:Int)<r.length:=by omega
 have g:dv r=bi vI r:=by
  unfold dv
  have l:decide (1<=r.length)=true:=by simp;omega
  have m:decide (r.length<=10)=true:=by simp;omega
  rw[l,m];simp
 rw[g];refine Dp func174 λC hP hN=>?_;refine GT (it b h1 j c) ?_;refine WP.loopN [4] r.length (λi st=>st.t 13=.pv (iv r)/\st.t 14=.pv (Z r.length)/\st.t 15=.pv (Z i)/\st.h 4=none/\bi vI (r.take i)=true) (by simp[bi]) ?_;rintro i st hi ⟨d,e,f,k,hq⟩;by_cases a:i<r.length
 .have n:=am a (by omega)
  have hF:vI r[i]=false->bi vI r=false:=vD a;have hS:vI r[i]=true->bi vI (r.take (i+1))=true:=t6 a hq
  with_reducible repeat' (first|refine Sp.h ?_|((first|refine Ss.h ?_|refine Sc.h (jT _ _) ?_|(refine Sb.h ?_ ?_ ?_<;>(try intro hgd)<;>try exact Xy))<;>simp -implicitDefEqProofs [hP,hN,d,e,f,k,a,n])|refine X2 ?_ ?_|(refine Xd ?_ ?_<;>intro hcd<;>try exact Xx))
  all_goals first|(rw[hF (by simpa using hcd)];done)|(simp[hF (by simpa using hcd)];done)|(simpa using hS (by simpa using hcd))
 .skip
  refine GT (so d e f k a) ?_
  all_goals simp[t7 a hq]
theorem eZ{p:α->Bool}{xs:List α}:bi p xs=true↔∀x∈xs,p x=true:=TY
abbrev Bx:=List (Int×Int)
variable {b:Bx}
abbrev OL:=List (Option Bx)
variable {L L':OL}
def rV:Option Bx->PV
 |none=>.val (.slice none 0 0)
 |some b=>iv b
def kU(n i:Nat)(c:Cel):Bool:=decide ((i:Int)<c.low)&&decide (c.low<n)&&decide ((i:Int)<c.high)&&decide (c.high<n)&&decide (c.low≠c.high)&&ot c.v
def gq(n i:Nat)(c:Cel)(L:OL):Option OL:=
 match L[i]? with
 |some (some b)=>
  if dA c then(if eP c.v then some L else none)
  else if kU n i c then
   if bD b c.joint then
    match L[c.low.toNat]?,L[c.high.toNat]? with
    |some none,some none=>some ((L.set c.low.toNat (some (aT b c.joint))).set c.high.toNat (some (aU b c.joint)))
    |_,_=>none
   else none
  else none
 |_=>none
def mw(n:Nat):List Cel->Nat->OL->Option OL
 |[],_,L=>some L
 |c::a,i,L=>match gq n i c L with
  |some L'=>mw n a (i+1) L'
  |none=>none
def jO(t:Tr):OL:=some t.root::List.replicate (t.cells.length-1) none
def gW(t:Tr):Bool:=decide (1<=t.cells.length)&&decide (t.cells.length<=2048)&&dv t.root
def dw(t:Tr):Option OL:=if gW t then mw t.cells.length t.cells 0 (jO t)else none
def aK(t:Tr):Bool:=(dw t).isSome
def al(t:Tr):List Bx:=match dw t with
 |some L=>L.map λx=>x.getD []
 |none=>[]
theorem ig(h:gq n i c L=some L'):∃b,L[i]?=some (some b)/\
 ((dA c=true/\eP c.v=true/\L'=L)\/
  (dA c=false/\kU n i c=true/\bD b c.joint=true/\L[c.low.toNat]?=some none/\L[c.high.toNat]?=some none/\
    L'=(L.set c.low.toNat (some (aT b c.joint))).set c.high.toNat (some (aU b c.joint)))):=by
 unfold gq at h;split at h
 .rename_i b e
  refine⟨b,e,?_⟩;split at h
  .rename_i a
   split at h
   .rename_i hf
    injection h with h;exact .inl ⟨a,hf,h.symm⟩
   .cases h
  .rename_i a
   split at h
   .rename_i hi
    split at h
    .rename_i f
     split at h
     .rename_i h1 d
      injection h with h;exact .inr ⟨by simpa using a,hi,f,h1,d,h.symm⟩
     .cases h
    .cases h
   .cases h
 .cases h
theorem iV:kU n i c=true↔(i:Int)<c.low/\c.low<n/\(i:Int)<c.high/\c.high<n/\c.low≠c.high/\ot c.v=true:=by
 simp[kU,and_assoc]
theorem Dx{n:Nat}{P:Nat->OL->Prop}:∀(cs:List Cel)(i:Nat)(L L':OL),mw n cs i L=some L'->P i L->
 (∀k c L L',cs[k]?=some c->P (i+k) L->gq n (i+k) c L=some L'->P (i+k+1) L')->P (i+cs.length) L'
 |[],i,L,L',h,a,_=>by simp[mw]at h;subst h;exact a
 |c::cs,i,L,L',h,a,g=>by
  simp only[mw]at h;split at h
  .rename_i b h1
   have l:=g 0 c L b rfl a h1
   have:=Dx cs (i+1) b L' h l (λk d M j m hp f=>by
    have e:i+1+k=i+(k+1):=by omega
    rw[e]at hp f|-
    exact g (k+1) d M j (by simpa using m) hp f)
   have e:i+(c::cs).length=i+1+cs.length:=by simp;omega
   rw[e];exact this
  .cases h
theorem jP{P:Nat->OL->Prop}(h:dw t=some L)(d:P 0 (jO t))
 (hs:∀i c L L',t.cells[i]?=some c->P i L->gq t.cells.length i c L=some L'->P (i+1) L'):P t.cells.length L:=by
 unfold dw at h;split at h
 .have:=Dx t.cells 0 _ _ h d (λk c M b e hp a=>by
   rw[UY]at hp a|-;exact hs k c M b e hp a)
  simpa using this
 .cases h
theorem lc(h:dw t=some L):gW t=true:=by
 unfold dw at h;split at h
 .assumption
 .cases h
theorem eG:gW t=true↔1<=t.cells.length/\t.cells.length<=2048/\1<=t.root.length/\t.root.length<=10/\bi vI t.root=true:=by
 simp[gW,dv,and_assoc]
structure BOk(t:Tr)(i:Nat)(L:OL):Prop where
 len:L.length=t.cells.length
 pre:∀j,j<i->∃b,L[j]?=some (some b)
 ok:∀(j:Nat) b,L[j]?=some (some b)->b.length=t.root.length/\bi vI b=true
theorem v8{j:Int}(h:bD b j=true):(aT b j).length=b.length/\(aU b j).length=b.length:=by
 unfold aT aU;rw[h];simp only[Ui];unfold bD at h;split<;>simp_all
theorem eH{lo hi:Int}:aw lo hi=true↔-2147483648<=lo/\lo<=hi/\hi<=2147483648:=by
 simp[aw,and_assoc]
theorem EY{x:Int×Int}(h:aw x.1 x.2=true):jr x=(x.1+x.2)/2:=by
 unfold jr;have a:=eH.1 h;rw[h,T6 rfl,show wr (x.1+x.2)=x.1+x.2 from aa (by omega) (by omega),Int.fdiv_eq_ediv];simp
theorem lR{j:Int}:bD b j=true↔0<=j/\bi vI b=true/\∃x,b[j.toNat]?=some x/\2<=x.2-x.1:=by
 unfold bD;constructor
 .intro h
  simp only[An,L4]at h;obtain⟨⟨h1,a⟩,d⟩:=h;refine⟨h1,a,?_⟩;split at d
  .rename_i x c
   refine⟨x,c,?_⟩;have e:=eH.1 (eZ.1 a _ (Is c));rw[L4,dH,T6 (eZ.1 a _ (Is c)),show wr (x.2-x.1)=x.2-x.1 from aa (by omega) (by omega)]at d;exact d
  .cases d
 .rintro⟨h1,a,x,c,d⟩
  have e:=eH.1 (eZ.1 a _ (Is c))
  have f:dH x=x.2-x.1:=by
   rw[dH,T6 (eZ.1 a _ (Is c))];exact aa (by omega) (by omega)
  simp[h1,a,c,f,d]
theorem yA{j:Int}(h:bD b j=true):∃x,b[j.toNat]?=some x/\aw x.1 x.2=true/\2<=x.2-x.1/\aT b j=b.set j.toNat (x.1,(x.1+x.2)/2)/\aU b j=b.set j.toNat ((x.1+x.2)/2,x.2):=by
 obtain⟨_,d,x,a,e⟩:=lR.1 h;have c:aw x.1 x.2=true:=eZ.1 d _ (Is a);refine⟨x,a,c,e,?_,?_⟩
 .simp[aT,h,a,EY c]
 .simp[aU,h,a,EY c]
theorem sT{j:Int}(h:bD b j=true):bi vI (aT b j)=true/\bi vI (aU b j)=true:=by
 obtain⟨x,k,f,i,d,e⟩:=yA h;have a:=(lR.1 h).2.1;have g:=eH.1 f;rw[d,e];constructor<;>refine eZ.2 λy c=>?_
 .rcases UM c with h|rfl
  .exact eZ.1 a _ h
  .exact eH.2 ⟨by omega,by simp only;omega,by simp only;omega⟩
 .rcases UM c with h|rfl
  .exact eZ.1 a _ h
  .exact eH.2 ⟨by simp only;omega,by simp only;omega,by omega⟩
theorem uF(h:gW t=true):BOk t 0 (jO t):=by
 obtain⟨h1,c,d,e,h5⟩:=eG.1 h;refine⟨by simp[jO];omega,λj f=>by omega,λj b a=>?_⟩
 cases j with
 |zero=>simp[jO]at a;subst a;exact⟨rfl,h5⟩
 |succ j=>simp[jO,Us]at a
theorem Jw{a z:Nat}{x y:Option Bx}(d:a≠z)(c:a<L.length)(e:z<L.length):((L.set a x).set z y)[j]?=if j=z then some y else if j=a then some x else L[j]?:=by
 rw[T9];by_cases h1:z=j
 .subst h1;simp[e]
 .rw[TZ h1,TZ (λh=>h1 h.symm),T9]
  by_cases b:a=j
  .subst b;simp[c]
  .rw[TZ b,TZ (λh=>b h.symm)]
theorem yD{x y:Option Bx}(e:L.length=t.cells.length)(hi:kU t.cells.length i c=true):((L.set c.low.toNat x).set c.high.toNat y)[j]?=if j=c.high.toNat then some y else if j=c.low.toNat then some x else L[j]?:=by
 obtain⟨h1,a,b,d,h5,_⟩:=iV.1 hi;exact Jw (by omega) (by omega) (by omega)
theorem uG(h:BOk t i L)(hs:gq t.cells.length i c L=some L'):BOk t (i+1) L':=by
 obtain⟨b,g,⟨_,_,rfl⟩|⟨_,hi,f,m,k,rfl⟩⟩:=ig hs
 .refine⟨h.len,λj l=>?_,h.ok⟩
  by_cases e:j=i
  .subst e;exact⟨b,g⟩
  .exact h.pre j (by omega)
 .have a:=h.ok i b g
  refine⟨by simpa using h.len,λj l=>?_,λj d hd=>?_⟩
  .rw[yD h.len hi]
   split
   .exact⟨_,rfl⟩
   .split
    .exact⟨_,rfl⟩
    .by_cases e:j=i
     .subst e;exact⟨b,g⟩
     .exact h.pre j (by omega)
  .rw[yD h.len hi]at hd
   split at hd
   .injection hd with hd;injection hd with hd;subst hd
    exact⟨by rw[(v8 f).2];exact a.1,(sT f).2⟩
   .split at hd
    .injection hd with hd;injection hd with hd;subst hd
     exact⟨by rw[(v8 f).1];exact a.1,(sT f).1⟩
    .exact h.ok j d hd
structure BInv(t:Tr)(i:Nat)(L:OL):Prop where
 bok:BOk t i L
 run:mw t.cells.length (t.cells.drop i) i L=dw t
theorem Bn(h:gW t=true):BInv t 0 (jO t):=⟨uF h,by simp[dw,h]⟩
theorem sF(h:BInv t i L)(a:i<t.cells.length)(hs:gq t.cells.length i t.cells[i] L=some L'):BInv t (i+1) L':=by
 refine⟨uG h.bok hs,?_⟩;rw[<-h.run,WJ a];simp only[mw,hs]
theorem Bo(h:BInv t i L)(a:i<t.cells.length)(hs:gq t.cells.length i t.cells[i] L=none):dw t=none:=by
 rw[<-h.run,WJ a];simp only[mw,hs]
theorem Bp(h:BInv t i L)(a:¬i<t.cells.length):dw t=some L:=by
 rw[<-h.run,Wj (by omega)];rfl
theorem pQ(h:dw t=some L):BOk t t.cells.length L:=
 jP h (uF (lc h)) (λ_ _ _ _ _ hp a=>uG hp a)
theorem jQ(h:dw t=some L):L=(al t).map some:=by
 have ok:=pQ h;rw[al,h];simp only[List.map_map];apply UF;intro j;by_cases c:j<L.length
 .obtain⟨b,a⟩:=ok.pre j (by rw[<-ok.len];exact c)
  simp[a]
 .simp[Ua (by omega:L.length<=j)]
theorem Dy(h:dw t=some L):L.map rV=(al t).map iv:=by
 rw[jQ h];simp[rV,Function.comp_def]
theorem fL(h:aK t=true):(al t).length=t.cells.length:=by
 obtain⟨L,hL⟩:=Ut.1 h;have:=(pQ hL).len;rw[jQ hL]at this;simpa using this
theorem kx(a:(al t)[j]?=some b):b.length=t.root.length/\bi vI b=true:=by
 cases hL:dw t with
 |none=>simp[al,hL]at a
 |some L=>
  have:=(pQ hL).ok j b;rw[jQ hL]at this;exact this (by simp[a])
theorem jR(h:aK t=true):gW t=true:=by
 obtain⟨L,hL⟩:=Ut.1 h;exact lc hL
theorem sG(h:dw t=none):aK t=false/\al t=[]:=by simp[aK,al,h]
theorem ky{t:Tr}(a:L[i]?=some (some b))(d:dA c=true):gq n i c L=if eP c.v then some L else none:=by
 simp[gq,a,d]
theorem qQ(d:L[i]?=some (some b))(f:dA c=false)(hi:kU n i c=true)(e:bD b c.joint=true)(h1:L[c.low.toNat]?=some none)(a:L[c.high.toNat]?=some none):gq n i c L=some ((L.set c.low.toNat (some (aT b c.joint))).set c.high.toNat (some (aU b c.joint))):=by
 simp[gq,d,f,hi,e,h1,a]
theorem lS(e:L[i]?=some (some b))(g:dA c=false)(h:kU n i c=false\/bD b c.joint=false\/(∃d,L[c.low.toNat]?=some (some d))\/(∃d,L[c.high.toNat]?=some (some d))):gq n i c L=none:=by
 unfold gq;rw[e];simp only[g,T3,Ud];split
 .rename_i hi
  split
  .rename_i f
   rcases h with h|h|⟨d,h⟩|⟨d,h⟩
   .rw[hi]at h;cases h
   .rw[f]at h;cases h
   .rw[h]
   .rw[h];split
    .rename_i j a;cases a
    .rfl
  .rfl
 .rfl
def br:Verd:=⟨0,[],0,[],[]⟩
def aD(v:Verd):Cel:=⟨-1,-1,-1,v⟩
theorem yE(h:dA c=true):c=aD c.v:=by
 cases c;simp[dA]at h;simp[aD,h]
theorem kR(v:Verd):dA (aD v)=true:=by simp[dA,aD]
theorem F9:ot br=true:=by simp[ot,br,km]
theorem Ga:eP br=true:=by simp[eP,br,km]
theorem zO(h:gq n i c L=some L')(g:L[j]?=some (some b)):L'[j]?=some (some b):=by
 obtain⟨d,hd,⟨_,_,rfl⟩|⟨_,hi,l,f,a,rfl⟩⟩:=ig h
 .exact g
 .have h1:c.low.toNat≠j:=by intro e;rw[e,g]at f;cases f
  have k:c.high.toNat≠j:=by intro e;rw[e,g]at a;cases a
  rw[T9,TZ k,T9,TZ h1];exact g
theorem Bq{k:Nat}{S:OL}(y:L.length=n)(x:S.length=k)(h:gq n i c L=some L'):gq (n+k) i c (L++S)=some (L'++S):=by
 obtain⟨d,hd,⟨h1,s,rfl⟩|⟨h1,hi,u,e,b,rfl⟩⟩:=ig h
 .have a:i<L'.length:=(th.1 hd).1
  have:(L'++S)[i]?=some (some d):=by rw[T1 a];exact hd
  simp[gq,this,h1,s]
 .have a:i<L.length:=(th.1 hd).1
  have g:c.low.toNat<L.length:=(th.1 e).1;have j:c.high.toNat<L.length:=(th.1 b).1
  have p:(L++S)[i]?=some (some d):=by rw[T1 a];exact hd
  have q:(L++S)[c.low.toNat]?=some none:=by rw[T1 g];exact e
  have r:(L++S)[c.high.toNat]?=some none:=by rw[T1 j];exact b
  have f:kU (n+k) i c=true:=by
   obtain⟨l,v,a3,a4,m,o⟩:=iV.1 hi;exact iV.2 ⟨l,by omega,a3,by omega,m,o⟩
  rw[qQ p h1 f u q r,VS _ _ g,VS _ _ (by simpa using j)]
def ga(t:Tr)(i:Nat)(j:Int)(v:Verd):Tr:=⟨t.root,t.cells.set i ⟨j,t.cells.length,t.cells.length+1,br⟩++[aD v,aD v]⟩
theorem ou(t:Tr)(i:Nat)(j:Int)(v:Verd):(ga t i j v).cells.length=t.cells.length+2:=by simp[ga]
theorem pR{cs:List Cel}(a:cs[i]?=some c)(h:gq n i c L=some L'):mw n (cs.drop i) i L=mw n (cs.drop (i+1)) (i+1) L':=by
 obtain⟨b,a⟩:=th.1 a;rw[WJ b,a];simp only[mw,h]
theorem HJ(h:dw t=some L)(f:t.cells[i]?=some c)(j:dA c=true):eP c.v=true:=by
 have hp:=jP (P:=λk _=>i<k->eP c.v=true) h (by intro h;omega) (λk d M m a hp l hi=>by
  by_cases e:k=i
  .subst e
   rw[f]at a;injection a with a;subst a;obtain⟨b,n,⟨_,g,_⟩|⟨h1,_⟩⟩:=ig l
   .exact g
   .rw[j]at h1;cases h1
  .exact hp (by omega))
 exact hp (th.1 f).1
theorem xF(h:dw t=some L){j:Int}(C:t.cells[i]?=some c)(F:dA c=true)(hn:t.cells.length+2<=2048)(H:L[i]?=some (some b))(I:bD b j=true):
 dw (ga t i j c.v)=some (L++[some (aT b j),some (aU b j)]):=by
 have u:=lc h;obtain⟨K,N,z3,z4,J⟩:=eG.1 u;have f:i<t.cells.length:=(th.1 C).1;have n:=ou t i j c.v;have hf:=HJ h C F;generalize x:ga t i j c.v=T at *
 have g:T.root=t.root:=by rw[<-x];rfl
 have r:∀k,k≠i->k<t.cells.length->T.cells[k]?=t.cells[k]?:=by
  intro k l E;rw[<-x];simp only[ga];rw[T1 (by simpa using E),T9,TZ (λe=>l e.symm)]
 have A:T.cells[i]?=some ⟨j,t.cells.length,t.cells.length+1,br⟩:=by
  rw[<-x];simp only[ga];rw[T1 (by simpa using f),T9,T6 rfl,T6 f]
 have B:gW T=true:=eG.2 ⟨by omega,by omega,by rw[g];omega,by rw[g];omega,by rw[g];exact J⟩
 have hP:=jP (P:=λk M=>BOk t k M/\if k<=i then mw (t.cells.length+2) (T.cells.drop k) k (M++[none,none])=dw T
  else∃d,M[i]?=some (some d)/\(bD d j=true->mw (t.cells.length+2) (T.cells.drop k) k (M++[some (aT d j),some (aU d j)])=dw T)) h (by
  refine⟨uF u,?_⟩;simp only[UO,Ui];rw[dw,T6 B,n,WC]
  congr 1
  simp only[jO,g,n,List.cons_append]
  rw[show t.cells.length+2-1=(t.cells.length-1)+2 by omega,<-List.replicate_append_replicate];rfl) (by
  intro k e M y l hp s;obtain⟨a,hp⟩:=hp;refine⟨uG a s,?_⟩;have m:k<t.cells.length:=(th.1 l).1;rcases VN k i with p|p|p
  .rw[T6 (by omega)]at hp|-
   rw[<-hp];exact(pR (by rw[r k (by omega) m];exact l) (Bq (k:=2) (S:=[none,none]) a.len rfl s)).symm
  .subst p
   rw[C]at l;injection l with l;subst l;rw[T6 (T8 _)]at hp;rw[TZ (by omega)];obtain⟨d,hd,⟨_,_,rfl⟩|⟨h1,_⟩⟩:=ig s
   .refine⟨d,hd,λq=>?_⟩
    rw[<-hp];refine(pR A ?_).symm
    have z:(y++[none,none])[k]?=some (some d):=by rw[T1 (by rw[a.len];exact f)];exact hd
    have D:kU (t.cells.length+2) k ⟨j,t.cells.length,t.cells.length+1,br⟩=true:=iV.2 ⟨by simp only;omega,by simp only;omega,by simp only;omega,by simp only;omega,by simp only;omega,F9⟩
    have t1:((t.cells.length:Int)).toNat=y.length:=by rw[a.len];omega
    have t2:((t.cells.length:Int)+1).toNat=y.length+1:=by rw[a.len];omega
    rw[qQ z (by simp[dA]) D q (by simp only;rw[t1];simp) (by simp only;rw[t2];simp)];simp only[t1,t2]
    congr 1
    rw[Vq _ _ (by omega),Vq _ _ (by omega)];simp
   .rw[F]at h1;cases h1
  .rw[TZ (by omega)]at hp|-
   obtain⟨d,hd,hp⟩:=hp;refine⟨d,zO s hd,λq=>?_⟩;rw[<-hp q]
   exact(pR (by rw[r k (by omega) m];exact l) (Bq (k:=2) (S:=[some (aT d j),some (aU d j)]) a.len rfl s)).symm)
 obtain⟨a,hP⟩:=hP;rw[TZ (by omega)]at hP;obtain⟨d,hd,hP⟩:=hP;rw[H]at hd;injection hd with hd;injection hd with hd;subst hd;rw[<-hP I]
 have o:T.cells.drop t.cells.length=[aD c.v,aD c.v]:=by
  rw[<-x];simp only[ga];rw[Wu (by simp),Wj (by simp)];rfl
 rw[o]
 have z:(L++[some (aT b j),some (aU b j)])[t.cells.length]?=some (some (aT b j)):=by rw[<-a.len];simp
 have G:(L++[some (aT b j),some (aU b j)])[t.cells.length+1]?=some (some (aU b j)):=by rw[<-a.len];simp
 simp only[mw];rw[ky (t:=t) z (kR _),T6 (show eP (aD c.v).v=true from hf)];simp only;rw[ky (t:=t) G (kR _),T6 (show eP (aD c.v).v=true from hf)]
def dg(t:Tr)(i:Nat)(v:Verd):Tr:=⟨t.root,t.cells.set i (aD v)⟩
theorem Dz(h:dw t=some L){v:Verd}(o:t.cells[i]?=some c)(q:dA c=true)(hf:eP v=true):dw (dg t i v)=some L:=by
 have n:=lc h;have f:i<t.cells.length:=(th.1 o).1
 have b:(dg t i v).cells.length=t.cells.length:=by simp[dg]
 generalize l:dg t i v=T at *
 have a:T.root=t.root:=by rw[<-l];rfl
 have m:gW T=true:=by
  obtain⟨u,x,z3,z4,r⟩:=eG.1 n;exact eG.2 ⟨by omega,by omega,by rw[a];omega,by rw[a];omega,by rw[a];exact r⟩
 have hP:=jP (P:=λk M=>mw t.cells.length (T.cells.drop k) k M=dw T) h (by
  rw[dw,T6 m,b,WC]
  congr 1
  simp only[jO,a,b]) (by
  intro k e M s g hp p;rw[<-hp];by_cases j:k=i
  .subst j
   rw[o]at g;injection g with g;subst g;obtain⟨d,hd,⟨_,_,rfl⟩|⟨h1,_⟩⟩:=ig p
   .refine(pR (c:=aD v) (by rw[<-l];simp[dg,f]) ?_).symm
    rw[ky (t:=t) hd (kR _),T6 (show eP (aD v).v=true from hf)]
   .rw[q]at h1;cases h1
  .refine(pR ?_ p).symm
   rw[<-l];simp only[dg]
   rw[T9,TZ (λe=>j e.symm)];exact g)
 rw[<-hP,Wj (by omega)];rfl
theorem HK(h:dw t=some L):∃c,t.cells[t.cells.length-1]?=some c/\dA c=true:=by
 obtain⟨m,n,z3,z4,o⟩:=eG.1 (lc h)
 have a:t.cells.length-1<t.cells.length:=by omega
 refine⟨t.cells[t.cells.length-1],an a,?_⟩
 have hp:=jP (P:=λk _=>k=t.cells.length->dA t.cells[t.cells.length-1]=true) h (by omega) (λk d M j g hp i hi=>by
  obtain⟨b,l,⟨f,_,_⟩|⟨_,h1,_⟩⟩:=ig i
  .have e:t.cells.length-1=k:=by omega
   have:=an a;rw[show t.cells[t.cells.length-1]?=t.cells[k]? by rw[e],g]at this;injection this with this;rw[<-this];exact f
  .have:=iV.1 h1
   omega)
 exact hp rfl
def eQ(t:Tr)(i:Nat):Bool:=match t.cells[i]? with
 |some c=>dA c
 |none=>false
def fN(t:Tr)(n:Nat):List Nat:=(List.range n).filter (eQ t)
def fA(t:Tr):List Nat:=if aK t then fN t t.cells.length else[]
theorem v9(t:Tr)(n:Nat):fN t (n+1)=if eQ t n then fN t n++[n]else fN t n:=by
 simp only[fN,Vn,VK];cases h:eQ t n<;>simp[h]
theorem D0(t:Tr)(n:Nat):(fN t n).length<=n:=by
 have:=Wq (eQ t) (List.range n);simpa[fN]using this
theorem D1:i∈fA t↔aK t=true/\∃c,t.cells[i]?=some c/\dA c=true:=by
 unfold fA
 cases e:aK t with
 |false=>simp
 |true=>
  simp only[Ui,true_and,fN,U1,UE,eQ];constructor
  .rintro⟨h1,a⟩
   rw[an h1]at a;exact⟨_,an h1,a⟩
  .rintro⟨c,b,d⟩
   refine⟨(th.1 b).1,by rw[b];exact d⟩
theorem D2(h:aK t=true):0<(fA t).length:=by
 obtain⟨L,hL⟩:=Ut.1 h;obtain⟨c,a,b⟩:=HK hL;exact List.length_pos_of_mem (D1.2 ⟨h,c,a,b⟩)
def dx(t:Tr)(i j:Int):Bool:=aK t&&decide (0<=i)&&decide (i<t.cells.length)&&eQ t i.toNat&&decide (t.cells.length+2<=2048)&&bD ((al t)[i.toNat]?.getD []) j
def eU(t:Tr)(i:Nat):Verd:=match t.cells[i]? with
 |some c=>c.v
 |none=>br
def dp(t:Tr)(i j:Int):Tr:=if dx t i j then ga t i.toNat j (eU t i.toNat)else t
def cJ(t:Tr)(i:Int)(v:Verd):Bool:=aK t&&decide (0<=i)&&decide (i<t.cells.length)&&eQ t i.toNat&&decide ((eU t i.toNat).kind=0)&&eP v
def cy(t:Tr)(i:Int)(v:Verd):Tr:=if cJ t i v then dg t i.toNat v else t
theorem wc(h:eQ t i=true):∃c,t.cells[i]?=some c/\dA c=true/\eU t i=c.v:=by
 unfold eQ at h;split at h
 .rename_i c a
  exact⟨c,a,h,by simp[eU,a]⟩
 .cases h
theorem xH(h:aK t=true)(i j:Int):aK (dp t i j)=true/\(dp t i j).root=t.root/\(dp t i j).cells.length<=t.cells.length+2:=by
 unfold dp;split
 .rename_i f
  simp only[dx,An,L4]at f;obtain⟨⟨⟨⟨⟨h1,n⟩,o⟩,g⟩,h5⟩,h6⟩:=f;obtain⟨L,hL⟩:=Ut.1 h;obtain⟨c,k,l,m⟩:=wc g
  have e:i.toNat<t.cells.length:=by omega
  obtain⟨b,a⟩:=(pQ hL).pre i.toNat e
  have d:(al t)[i.toNat]?=some b:=by
   have:=jQ hL;rw[this]at a;simpa using a
  rw[d]at h6;have:=xF hL k l h5 a h6;rw[m];exact⟨by rw[aK,this];rfl,rfl,by rw[ou];exact T8 _⟩
 .exact⟨h,rfl,by omega⟩
theorem ov(h:aK t=true)(i:Int)(v:Verd):aK (cy t i v)=true/\(cy t i v).root=t.root/\(cy t i v).cells.length=t.cells.length/\al (cy t i v)=al t:=by
 unfold cy;split
 .rename_i a
  simp only[cJ,An,L4]at a;obtain⟨⟨⟨⟨⟨h1,f⟩,g⟩,b⟩,h5⟩,h6⟩:=a;obtain⟨L,hL⟩:=Ut.1 h;obtain⟨c,d,e,j⟩:=wc b;have:=Dz hL d e h6;exact⟨by rw[aK,this];rfl,rfl,by simp[dg],by simp[al,this,hL]⟩
 .exact⟨h,rfl,rfl,rfl⟩
def j0(r:List (Int×Int)):Tr:=if dv r then⟨r,[aD br]⟩else⟨[],[]⟩
theorem HL(h:dv r=true):dw ⟨r,[aD br]⟩=some [some r]:=by
 have a:gW ⟨r,[aD br]⟩=true:=by simp[gW,h]
 rw[dw,T6 a];simp only[jO,UX,VW,List.replicate,mw];rw[ky (t:=⟨r,[]⟩) (b:=r) rfl (kR _),T6 (show eP (aD br).v=true from Ga)]
theorem La(h:dv r=false):dw ⟨r,[aD br]⟩=none:=by
 have a:gW ⟨r,[aD br]⟩=false:=by simp[gW,h]
 rw[dw,TZ (by simp[a])]
theorem pT(r:List (Int×Int)):aK ⟨r,[aD br]⟩=dv r:=by
 cases h:dv r with
 |true=>rw[aK,HL h];rfl
 |false=>rw[aK,La h];rfl
theorem DA{β:Type}{f:α->β->Bool}{xs:List α}{ys:List β}:eX f xs ys=true↔∀(i:Nat) x y,xs[i]?=some x->ys[i]?=some y->f x y=true:=by
 unfold eX;rw[TY];constructor
 .intro h i x y a b
  have:(List.zipWith f xs ys)[i]?=some (f x y):=by simp[List.getElem?_zipWith,a,b]
  exact h _ (Is this)
 .intro h z c
  obtain⟨i,hi⟩:=Uy c;rw[List.getElem?_zipWith]at hi
  cases a:xs[i]? with
  |none=>simp[a]at hi
  |some x=>
   cases b:ys[i]? with
   |none=>simp[a,b]at hi
   |some y=>
    simp[a,b]at hi;rw[<-hi];exact h i x y a b
theorem AI{c:List Int}(f:bi vI b=true):jU b c=true↔b.length=c.length/\∀(i:Nat) x y,b[i]?=some x->c[i]?=some y->x.1<=y/\y<=x.2:=by
 simp only[jU,An,L4,DA];constructor
 .rintro⟨h1,d⟩
  refine⟨h1,λi x y a e=>?_⟩;have:=d i x y a e;simp only[mY,An,L4]at this;exact⟨this.1.2,this.2⟩
 .rintro⟨h1,d⟩
  refine⟨h1,λi x y a e=>?_⟩;simp only[mY,An,L4];exact⟨⟨eZ.1 f _ (Is a),(d i x y a e).1⟩,(d i x y a e).2⟩
theorem nF{a:Bx}(f:bi vI a=true)(g:bi vI b=true):bn a b=true↔a.length=b.length/\∀(i:Nat) x y,a[i]?=some x->b[i]?=some y->x.1<=y.2/\y.1<=x.2:=by
 simp only[bn,An,L4,DA];constructor
 .rintro⟨h1,e⟩
  refine⟨h1,λi x y c d=>?_⟩;have:=e i x y c d;simp only[im,An,L4]at this;omega
 .rintro⟨h1,e⟩
  refine⟨h1,λi x y c d=>?_⟩;have vx:aw x.1 x.2=true:=eZ.1 f _ (Is c);have vy:aw y.1 y.2=true:=eZ.1 g _ (Is d);simp only[im,vx,vy,An,L4,true_and];have:=e i x y c d;have:=eH.1 vx;have:=eH.1 vy;omega
def ay(t:Tr)(c:Int):Bx:=(al t)[c.toNat]?.getD []
theorem kS(b:aK t=true){c:Int}(h:c.toNat<t.cells.length):(al t)[c.toNat]?=some (ay t c)/\(ay t c).length=t.root.length/\bi vI (ay t c)=true:=by
 have a:c.toNat<(al t).length:=by rw[fL b];exact h
 have e:(al t)[c.toNat]?=some (ay t c):=by simp[ay,an a]
 exact⟨e,kx e⟩
def DB(t:Tr)(chain:List Int)(j:Nat):Bool:=match chain[j]? with
 |some c=>decide (0<=c)&&decide (c<t.cells.length)&&eQ t c.toNat&& !((chain.take j).contains c)&&(decide (j=0)||bn (ay t (chain[j-1]?.getD 0)) (ay t c))
 |none=>false
theorem Gb{chain:List Int}{c:Int}(a:chain[j]?=some c):DB t chain j=true↔0<=c/\c<t.cells.length/\eQ t c.toNat=true/\c∉chain.take j/\(j=0\/bn (ay t (chain[j-1]?.getD 0)) (ay t c)=true):=by
 simp[DB,a,and_assoc]
structure ChOk(t:Tr)(chain p q:List Int):Prop where
 valid:aK t=true
 hp:jU t.root p=true
 hq:jU t.root q=true
 ne:chain≠[]
 all:∀j,j<chain.length->DB t chain j=true
namespace ChOk
variable {t:Tr} {chain p q:List Int}
theorem get(h:ChOk t chain p q)(a:j<chain.length):0<=chain[j]/\chain[j]<t.cells.length/\eQ t chain[j].toNat=true/\chain[j]∉chain.take j/\(j=0\/bn (ay t (chain[j-1]?.getD 0)) (ay t chain[j])=true):=
 (Gb (an a)).1 (h.all j a)
theorem box(h:ChOk t chain p q)(a:j<chain.length):(al t)[chain[j].toNat]?=some (ay t chain[j])/\(ay t chain[j]).length=t.root.length/\bi vI (ay t chain[j])=true:=by
 have:=h.get a;exact kS h.valid (by omega)
theorem touch(h:ChOk t chain p q)(a:j+1<chain.length):bn (ay t chain[j]) (ay t chain[j+1])=true:=by
 have:=(h.get a).2.2.2.2;rcases this with e|e
 .omega
 .rw[Nat.add_sub_cancel,an (by omega)]at e;exact e
end ChOk
structure BS where
 far:List Int
 q:List Nat
section
variable (n:Nat) (may has hasF:Nat->Bool) (tch:Nat->Nat->Bool)
def au(far:List Int)(i:Nat):Int:=far[i]?.getD 0
def bI:Nat->BS
 |0=>⟨List.replicate n 0,[]⟩
 |i+1=>if may i&&has i then⟨(bI i).far.set i 1,(bI i).q++[i]⟩else bI i
def cK(s:BS)(k:Nat):Nat:=s.q[k]?.getD 0
def xI(s:BS)(k i:Nat):Bool:=(au s.far i==0)&&may i&&tch i (cK s k)
def pU(s:BS)(k i:Nat):BS:=⟨s.far.set i (au s.far (cK s k)+1),s.q++[i]⟩
def bJ(s:BS)(k:Nat):Nat->BS
 |0=>s
 |i+1=>if xI may tch (bJ s k i) k i then pU (bJ s k i) k i else bJ s k i
def bK:Nat->BS
 |0=>bI n may has n
 |k+1=>if k<(bK k).q.length then bJ may tch (bK k) k n else bK k
structure BInv2(s:BS):Prop where
 len:s.far.length=n
 cnt:s.far.countP (λx=>x !=0)=s.q.length
 mem:∀j∈s.q,j<n/\1<=au s.far j
 nn:∀i,0<=au s.far i
 top:∀i,au s.far i<=s.q.length
 may':∀i,1<=au s.far i->may i=true
 back:∀i,1<=au s.far i->(au s.far i=1/\has i=true)\/∃p,p<n/\au s.far p=au s.far i-1/\1<=au s.far p/\tch i p=true
variable {n may has hasF tch}
theorem mg(hi:i<far.length):au (far.set i v) j=if j=i then v else au far j:=by
 unfold au;rw[T9];by_cases h:i=j
 .subst h;simp[hi]
 .rw[TZ h,TZ (λe=>h e.symm)]
theorem BInv2.le{s:BS}(h:BInv2 n may has tch s):s.q.length<=n:=by
 rw[<-h.cnt,<-h.len];exact List.countP_le_length
theorem Lb(hi:i<far.length)(b:au far i=0)(c:v≠0):(far.set i v).countP (λx=>x !=0)=far.countP (λx=>x !=0)+1:=by
 have a:far[i]=0:=by simpa[au,an hi]using b
 rw[List.countP_set hi];simp[a,c]
theorem BInv2.put{s:BS}(h:BInv2 n may has tch s)(hi:i<n)(m:au s.far i=0)(o:1<=v)(r:may i=true)(u:v<=s.q.length+1)
 (f:(v=1/\has i=true)\/∃p,p<n/\au s.far p=v-1/\1<=au s.far p/\tch i p=true):BInv2 n may has tch ⟨s.far.set i v,s.q++[i]⟩:=by
 have a:i<s.far.length:=by rw[h.len];exact hi
 refine⟨by simpa using h.len,?_,?_,?_,?_,?_,?_⟩
 .simp only[Uj,UX];rw[Lb a m (by omega),h.cnt]
 .intro j c
  simp only[Uf,Uz]at c;simp only[mg a];rcases c with c|rfl
  .refine⟨(h.mem j c).1,?_⟩
   split
   .exact o
   .exact(h.mem j c).2
  .exact⟨hi,by simp[o]⟩
 .intro j;simp only[mg a];split
  .omega
  .exact h.nn j
 .intro j;simp only[mg a,Uj,UX]
  have:=h.top j;split<;>omega
 .intro j;simp only[mg a];split
  .rename_i e;rw[e];exact λ_=>r
  .exact h.may' j
 .have b:∀p,1<=au s.far p->p≠i:=λp hp e=>by rw[e,m]at hp;omega
  intro j;simp only[mg a];split
  .rename_i e;rw[e];intro _
   rcases f with f|⟨p,g,k,d,l⟩
   .exact .inl f
   .exact .inr ⟨p,g,by rw[TZ (b p d)];exact k,by rw[TZ (b p d)];exact d,l⟩
  .intro c
   rcases h.back j c with f|⟨p,g,k,d,l⟩
   .exact .inl f
   .exact .inr ⟨p,g,by rw[TZ (b p d)];exact k,by rw[TZ (b p d)];exact d,l⟩
theorem tz:∀i,i<=n->BInv2 n may has tch (bI n may has i)/\∀j,i<=j->au (bI n may has i).far j=0
 |0,_=>by
  have b:∀j,au (List.replicate n (0:Int)) j=0:=λj=>by simp only[au,Us];split<;>rfl
  refine⟨⟨by simp[bI],by simp[bI,List.countP_replicate],by simp[bI],λj=>by simp only[bI,b];omega,λj=>by simp only[bI,b];simp,λj a=>by simp only[bI,b]at a;omega,λj a=>by simp only[bI,b]at a;omega⟩,λj _=>by simp only[bI,b]⟩
 |i+1,hi=>by
  obtain⟨ih,d⟩:=tz i (by omega);simp only[bI];split
  .rename_i c
   simp only[An]at c;refine⟨ih.put (by omega) (d i (T8 _)) (by omega) c.1 (by omega) (.inl ⟨rfl,c.2⟩),λj a=>?_⟩;simp only[mg (show i<(bI n may has i).far.length by rw[ih.len];omega)];rw[TZ (by omega)];exact d j (by omega)
  .exact⟨ih,λj a=>d j (by omega)⟩
theorem zQ{s:BS}{k:Nat}(hs:BInv2 n may has tch s)(d:k<s.q.length):∀i,i<=n->BInv2 n may has tch (bJ may tch s k i)/\s.q.length<=(bJ may tch s k i).q.length/\cK (bJ may tch s k i) k=cK s k
 |0,_=>⟨hs,T8 _,rfl⟩
 |i+1,hi=>by
  obtain⟨ih,il,c⟩:=zQ hs d i (by omega);simp only[bJ];split
  .rename_i b
   simp only[xI,An,UP]at b
   have a:cK (bJ may tch s k i) k∈(bJ may tch s k i).q:=by
    unfold cK;rw[an (by omega:k<(bJ may tch s k i).q.length)];exact Ul _
   have hq:=ih.mem _ a;refine⟨ih.put (by omega) b.1.1 (by omega) b.1.2 (by have:=ih.top (cK (bJ may tch s k i) k);omega) (.inr ⟨_,hq.1,by omega,hq.2,b.2⟩),by simp only[pU,Uj,UX];omega,?_⟩;rw[<-c];simp only[pU,cK];rw[T1 (by omega)]
  .exact⟨ih,il,c⟩
theorem rW:∀k,BInv2 n may has tch (bK n may has tch k)
 |0=>(tz n (T8 _)).1
 |k+1=>by
  have ih:=rW k;simp only[bK];split
  .rename_i a
   exact(zQ ih a n (T8 _)).1
  .exact ih
theorem EZ{k:Nat}(h:¬k<(bK n may has tch k).q.length):∀m,bK n may has tch (k+m)=bK n may has tch k
 |0=>rfl
 |m+1=>by
  have ih:=EZ h m;rw[<-Vx];simp only[bK];rw[ih,TZ (by omega)]
def aS(far:List Int)(hasF:Nat->Bool):Nat->Int
 |0=>-1
 |i+1=>if decide (0<au far i)&&hasF i&&(decide (aS far hasF i<0)||decide (au far i<au far (aS far hasF i).toNat))then(i:Int)else aS far hasF i
theorem we{far:List Int}:∀i,-1<=aS far hasF i/\aS far hasF i<i/\(0<=aS far hasF i->0<au far (aS far hasF i).toNat/\hasF (aS far hasF i).toNat=true)
 |0=>by simp[aS]
 |i+1=>by
  have ih:=we (far:=far) i;simp only[aS];split
  .rename_i a
   simp only[An,L4]at a;refine⟨by omega,by omega,λ_=>?_⟩;rw[Uh];exact⟨a.1.1,a.1.2⟩
  .exact⟨ih.1,by omega,ih.2.2⟩
def nC(far:List Int)(tch:Nat->Nat->Bool)(at_ i:Nat):Bool:=(au far i==au far at_-1)&&tch i at_
def nS(n:Nat)(far:List Int)(tch:Nat->Nat->Bool)(at_:Nat):Nat->Int
 |0=>-1
 |m+1=>if nC far tch at_ (n-1-m)then((n-1-m:Nat):Int)else nS n far tch at_ m
theorem DC{far:List Int}{at_:Nat}:∀m,m<=n->(0<=nS n far tch at_ m->(nS n far tch at_ m).toNat<n/\nC far tch at_ (nS n far tch at_ m).toNat=true)/\(∀i,i<n->n-m<=i->nC far tch at_ i=true->0<=nS n far tch at_ m)/\-1<=nS n far tch at_ m
 |0,_=>by simp[nS];omega
 |m+1,d=>by
  have ih:=DC (far:=far) (at_:=at_) m (by omega);simp only[nS];split
  .rename_i b
   refine⟨λ_=>?_,λ_ _ _ _=>by omega,by omega⟩;rw[Uh];exact⟨by omega,b⟩
  .rename_i b
   refine⟨ih.1,λi h1 c a=>?_,ih.2.2⟩;by_cases e:i=n-1-m
   .rw[e]at a;exact absurd a b
   .exact ih.2.1 i h1 (by omega) a
def Br(n:Nat)(far:List Int)(tch:Nat->Nat->Bool)(at_:Nat):Nat:=(nS n far tch at_ n).toNat
theorem zR{s:BS}(h:BInv2 n may has tch s)(b:∀i j,i<n->j<n->tch i j=tch j i){a:Nat}(k:a<n)(o:1<au s.far a):nS n s.far tch a n=(Br n s.far tch a:Int)/\Br n s.far tch a<n/\au s.far (Br n s.far tch a)=au s.far a-1/\tch (Br n s.far tch a) a=true:=by
 have d:=DC (n:=n) (tch:=tch) (far:=s.far) (at_:=a) n (T8 _);rcases h.back a (by omega)with⟨e,_⟩|⟨p,f,l,q,m⟩
 .omega
 .have hp:nC s.far tch a p=true:=by
   simp only[nC,l,beq_self_eq_true,Un];rw[b p a f k];exact m
  have g:=d.2.1 p f (by omega) hp;obtain⟨h1,c⟩:=d.1 g;simp only[nC,An,UP]at c;exact⟨by unfold Br;omega,h1,c.1,c.2⟩
def pS(n:Nat)(far:List Int)(tch:Nat->Nat->Bool)(a:Nat):Nat->Nat
 |0=>a
 |r+1=>Br n far tch (pS n far tch a r)
theorem wX{s:BS}(h:BInv2 n may has tch s)(b:∀i j,i<n->j<n->tch i j=tch j i){a:Nat}(c:a<n)(d:0<au s.far a):∀r:Nat,(r:Int)<au s.far a->pS n s.far tch a r<n/\au s.far (pS n s.far tch a r)=au s.far a-r
 |0,_=>⟨c,by simp[pS]⟩
 |r+1,g=>by
  obtain⟨e,f⟩:=wX h b c d r (by omega);have:=zR h b e (by omega);simp only[pS];exact⟨this.2.1,by rw[this.2.2.1,f];omega⟩
theorem Jy{s:BS}(h:BInv2 n may has tch s)(b:∀i j,i<n->j<n->tch i j=tch j i){a:Nat}(d:a<n)(c:0<au s.far a){r:Nat}(f:(r:Int)+1<au s.far a):tch (pS n s.far tch a (r+1)) (pS n s.far tch a r)=true:=by
 obtain⟨e,g⟩:=wX h b d c r (by omega);exact(zR h b e (by omega)).2.2.2
end
def lr(n:Nat)(may has hasF:Nat->Bool)(tch:Nat->Nat->Bool):Int:=aS (bK n may has tch n).far hasF n
def aX(n:Nat)(may has hasF:Nat->Bool)(tch:Nat->Nat->Bool):Bool:=decide (0<=lr n may has hasF tch)
def eI(n:Nat)(may has hasF:Nat->Bool)(tch:Nat->Nat->Bool):List Nat:=if aX n may has hasF tch then(List.range (au (bK n may has tch n).far (lr n may has hasF tch).toNat).toNat).map (pS n (bK n may has tch n).far tch (lr n may has hasF tch).toNat)else[]
theorem uH{may has hasF:Nat->Bool}{tch:Nat->Nat->Bool}(c:∀i j,i<n->j<n->tch i j=tch j i)(h:aX n may has hasF tch=true):
 let l:=eI n may has hasF tch
 0<l.length/\l.length<=n/\(∀(r:Nat) x,l[r]?=some x->x<n/\may x=true/\x∉l.take r)/\(∀(r:Nat) x y,l[r]?=some x->l[r+1]?=some y->tch x y=true)/\
  (∀x,l[0]?=some x->hasF x=true)/\(∀x,l[l.length-1]?=some x->has x=true):=by
 simp only[aX,L4]at h;have f:=rW (n:=n) (may:=may) (has:=has) (tch:=tch) n;have A:=we (hasF:=hasF) (far:=(bK n may has tch n).far) n
 have v:decide (0<=lr n may has hasF tch)=true:=by simpa using h
 simp only[eI,aX,v,Ui];unfold lr at h|-;obtain⟨G,H,a3⟩:=A;obtain⟨a4,u⟩:=a3 h;generalize I:(aS (bK n may has tch n).far hasF n).toNat=a at *
 have m:a<n:=by omega
 have o:=f.top a;have C:=f.le;generalize bK n may has tch n=s at *;have hp:=wX f c m a4;have F:=λ{r:Nat}=>Jy (r:=r) f c m a4
 have b:∀(r:Nat) x,((List.range (au s.far a).toNat).map (pS n s.far tch a))[r]?=some x->(r:Int)<au s.far a/\x=pS n s.far tch a r:=by
  intro r x d;rw[T0,TX]at d;obtain⟨y,g,rfl⟩:=d;obtain⟨h1,e⟩:=th.1 g;simp at h1 e;exact⟨by omega,by rw[e]⟩
 refine⟨by simp;omega,by simp;omega,?_,?_,?_,?_⟩
 .intro r x d
  obtain⟨h1,rfl⟩:=b r x d;obtain⟨e,k⟩:=hp r h1;refine⟨e,f.may' _ (by omega),λD=>?_⟩;obtain⟨q,hq⟩:=Uy D;rw[Ur]at hq;split at hq
  .rename_i E
   obtain⟨z,h5⟩:=b q _ hq;have:=(hp q z).2;rw[<-h5,k]at this;omega
  .cases hq
 .intro r x y d g
  obtain⟨h1,rfl⟩:=b r x d;obtain⟨e,rfl⟩:=b (r+1) y g;rw[c _ _ (hp r h1).1 (hp (r+1) e).1];exact F (by omega)
 .intro x d
  obtain⟨h1,rfl⟩:=b 0 x d;exact u
 .intro x d
  obtain⟨h1,rfl⟩:=b _ x d;simp only[Uu,List.length_range]at h1 d|-;obtain⟨e,k⟩:=hp _ h1;rcases f.back _ (show 1<=au s.far (pS n s.far tch a ((au s.far a).toNat-1)) by omega)with B|⟨p,J,K,L,M⟩
  .exact B.2
  .omega
set_option maxRecDepth 100000 in
@[simp] theorem Rw:fx prog 124:=by
 have hf:=func124;have nt:=ntmps124;have rs:=results124;exact JT
set_option maxRecDepth 100000 in
@[simp] theorem Rx:fx prog 138:=by
 have hf:=func138;have nt:=ntmps138;have rs:=results138;exact JT
set_option maxRecDepth 100000 in
@[simp] theorem R5:fx prog 67:=by
 have hf:=func67;have nt:=ntmps67;have rs:=results67;exact AW
set_option maxRecDepth 100000 in
@[simp] theorem Ry:fx prog 126:=by
 have hf:=func126;have nt:=ntmps126;have rs:=results126;exact AW
set_option maxRecDepth 100000 in
@[simp] theorem Rz:fx prog 130:=by
 have hf:=func130;have nt:=ntmps130;have rs:=results130;exact AW
theorem Dv(h:1<=t.cells.length):(List.replicate t.cells.length (PV.val (.slice none 0 0))).set 0 (iv t.root)=(jO t).map rV:=by
 obtain⟨n,hn⟩:∃n,t.cells.length=n+1:=⟨t.cells.length-1,by omega⟩;simp[jO,hn,List.replicate_succ,rV]
theorem eo:rV none=.val (.slice none 0 0):=rfl
theorem eu(b:Bx):rV (some b)=iv b:=rfl
theorem bZ{L:List α}{x:α}(h:L[i]?=some x)(a:i<L.length):L[i]=x:=(th.1 h).2
theorem set_row{a z:Nat}{x y:Bx}:((L.map rV).set a (iv x)).set z (iv y)=((L.set a (some x)).set z (some y)).map rV:=by
 simp[Vv,rV]
theorem xE(h:kU n i c=false):c.low<=i\/(n:Int)<=c.low\/c.high<=i\/(n:Int)<=c.high\/(c.low==c.high)=true\/ot c.v=false:=by
 cases a:ot c.v with
 |false=>exact .inr (.inr (.inr (.inr (.inr rfl))))
 |true=>
  have:¬((i:Int)<c.low/\c.low<n/\(i:Int)<c.high/\c.high<n/\c.low≠c.high/\ot c.v=true):=by rw[<-iV,h];simp
  simp only[a,WM]at this;simp only[UP];omega
theorem Jr(t:Tr)(hl:t.cells.length<=9223372036854775807):bk 125 (fg t) (.tup [.sl ((al t).map iv),B (aK t)]):=by
 have cv:=Rv t.root
 cases Q:gW t with
 |false=>
  have X:=sG (t:=t) (by simp[dw,Q]);rw[X.1,X.2];by_cases h1:t.cells.length<1
  .have J:(t.cells.length:Int)<1:=by omega
   refine Dp func125 λC hP hN=>?_;exact Gy
  have J:¬(t.cells.length:Int)<1:=by omega
  by_cases h2:2048<t.cells.length
  .have K:(2048:Int)<t.cells.length:=by omega
   refine Dp func125 λC hP hN=>?_;exact Gy
  have K:¬(2048:Int)<t.cells.length:=by omega
  have h3:dv t.root=false:=by
   cases h:dv t.root with
   |false=>rfl
   |true=>simp[gW,h]at Q;omega
  rw[h3]at cv;refine Dp func125 λC hP hN=>?_;exact Gy
 |true=>
  obtain⟨z1,z2,z3,z4,z5⟩:=eG.1 Q
  have h1:¬t.cells.length<1:=by omega
  have h2:¬2048<t.cells.length:=by omega
  have J:¬(t.cells.length:Int)<1:=by omega
  have K:¬(2048:Int)<t.cells.length:=by omega
  have h3:dv t.root=true:=by simp only[gW,An]at Q;exact Q.2
  have V:=Dv z1;rw[h3]at cv;refine Dp func125 λC hP hN=>?_;refine GT (zAb J h1 h2 K V (show(24:Int)*t.cells.length<=281474976710656 by omega) (show(t.cells.length:Int)<=9223372036854775807 by omega) (show 0<t.cells.length by omega)) ?_;refine WP.loopN [7] t.cells.length (λi st=>∃L,BInv t i L/\st.t 4=.pv (Z t.cells.length)/\st.t 5=.arr 27 t.cells.length/\st.t 33=.pv (.sl (t.cells.map bz))/\st.t 34=.pv (Z t.cells.length)/\st.t 35=.pv (Z i)/\st.h 7=none/\st.h 27=some (.row 39 1 (L.map rV) 0)) (by exact⟨jO t,Bn Q,by simp[V]⟩) ?_;rintro i st hi ⟨L,G,g4,g5,g,j,k,m,e⟩;have l:=G.bok.len;by_cases a:i<t.cells.length
  .have H:=am a hl
   have O:i<L.length:=by omega
   generalize y:t.cells[i]=c at *
   have q:t.cells[i]?=some c:=by rw[an a,y]
   have u:gq t.cells.length i c L=none->aK t=false/\al t=[]:=λh=>sG (Bo G a (by rw[y];exact h));have cl:=Jv c;have cf:=Nf c.v;have S:=Ru c.v
   cases f:L[i]? with
   |none=>rw[an O]at f;cases f
   |some x=>
   cases x with
   |none=>
    have o:=bZ f O;obtain⟨z,A⟩:=u (by simp[gq,f]);rw[z,A];exact GS (zAe g4 g5 g j k m e a H f o @eo @eu q (gA y l))
   |some b=>
   have o:=bZ f O;obtain⟨T,ar⟩:=G.bok.ok i b f
   have p:b≠[]:=by intro h;rw[h]at T;simp at T;omega
   have r:b.isEmpty=false:=by simp[p]
   cases n:dA c with
   |true=>
    rw[n]at cl
    cases hf:eP c.v with
    |true=>
     rw[hf]at cf;have P:=sF (L':=L) G a (by rw[y,ky (t:=t) f n,hf];rfl);refine GT (zAe g4 g5 g j k m e a H f o @eo @eu q (it y l r p)) ?_
     all_goals exact⟨L,P,rfl⟩
    |false=>
     rw[hf]at cf;obtain⟨z,A⟩:=u (by rw[ky (t:=t) f n,hf];rfl);rw[z,A];exact GS (zAe g4 g5 g j k m e a H f o @eo @eu q (it y l r p))
   |false=>
    rw[n]at cl
    cases s:kU t.cells.length i c with
    |false=>
     obtain⟨z,A⟩:=u (lS f n (.inl s));rw[z,A];rcases xE s with h|h|h|h|h|h
     all_goals try rw[h]at S
     all_goals
      exact GS (zAe g4 g5 g j k m e a H f o @eo @eu q (so y l r p h))
    |true=>
     obtain⟨i1,i2,i3,i4,i5,i6⟩:=iV.1 s;rw[i6]at S;have R:=Ok b c.joint (by omega)
     have j1:¬c.low<=i:=by omega
     have j2:¬(t.cells.length:Int)<=c.low:=by omega
     have j3:¬c.high<=i:=by omega
     have j4:¬(t.cells.length:Int)<=c.high:=by omega
     have k1:c.low.toNat<t.cells.length:=by omega
     have k2:c.high.toNat<t.cells.length:=by omega
     have k3:0<=c.low:=by omega
     have k4:0<=c.high:=by omega
     have k5:c.low.toNat<L.length:=by omega
     have k6:c.high.toNat<L.length:=by omega
     cases hh:bD b c.joint with
     |false=>
      obtain⟨z,A⟩:=u (lS f n (.inr (.inl hh)));rw[z,A];rw[hh]at R;exact GS (zAe g4 g5 g j k m e a H f o @eo @eu q (zAb y l r p j1 j2 j3 (gA j4 i5)))
     |true=>
     rw[hh]at R
     cases F:L[c.low.toNat]? with
     |none=>rw[an k5]at F;cases F
     |some xa=>
     have M:=bZ F k5
     cases xa with
     |some d=>
      obtain⟨z,A⟩:=u (lS f n (.inr (.inr (.inl ⟨d,F⟩))));rw[z,A];obtain⟨E,_⟩:=G.bok.ok _ d F
      have D:d≠[]:=by intro h;rw[h]at E;simp at E;omega
      have N:d.isEmpty=false:=by simp[D]
      with_reducible repeat' (first|refine Sp.h ?_|((first|refine Wd ?_|refine Ss.h ?_|refine Sc.h (cl) ?_|refine Sc.h (S) ?_|refine Sc.h (R) ?_|(refine Sb.h ?_ ?_ ?_<;>(try intro hgd)<;>try exact Xy))<;>simp -implicitDefEqProofs (maxSteps:=2000000) [hP,hN,g4,g5,g,j,k,m,e,a,H,f,o,eo,eu,q,y,l,r,p,j1,j2,j3,j4,i5,k1,k2,k3,k4,F,M,N,D]<;>try refine Ya ?_)|refine X2 ?_ ?_|(refine Xd ?_ ?_<;>intro hcd<;>try exact Xx))
     |none=>
     cases I:L[c.high.toNat]? with
     |none=>rw[an k6]at I;cases I
     |some xz=>
     have ad:=bZ I k6
     cases xz with
     |some d=>
      obtain⟨z,A⟩:=u (lS f n (.inr (.inr (.inr ⟨d,I⟩))));rw[z,A];obtain⟨E,_⟩:=G.bok.ok _ d I
      have D:d≠[]:=by intro h;rw[h]at E;simp at E;omega
      have N:d.isEmpty=false:=by simp[D]
      with_reducible repeat' (first|refine Sp.h ?_|((first|refine Wd ?_|refine Ss.h ?_|refine Sc.h (cl) ?_|refine Sc.h (S) ?_|refine Sc.h (R) ?_|(refine Sb.h ?_ ?_ ?_<;>(try intro hgd)<;>try exact Xy))<;>simp -implicitDefEqProofs (maxSteps:=2000000) [hP,hN,g4,g5,g,j,k,m,e,a,H,f,o,eo,eu,q,y,l,r,p,j1,j2,j3,j4,i5,k1,k2,k3,k4,F,M,I,ad,N,D]<;>try refine Ya ?_)|refine X2 ?_ ?_|(refine Xd ?_ ?_<;>intro hcd<;>try exact Xx))
     |none=>
      have P:=sF G a (by rw[y];exact qQ f n s hh F I)
      with_reducible repeat' (first|refine Sp.h ?_|((first|refine Wd ?_|refine Ss.h ?_|refine Sc.h (cl) ?_|refine Sc.h (S) ?_|refine Sc.h (R) ?_|(refine Sb.h ?_ ?_ ?_<;>(try intro hgd)<;>try exact Xy))<;>simp -implicitDefEqProofs (maxSteps:=2000000) [hP,hN,g4,g5,g,j,k,m,e,a,H,f,o,eo,eu,q,y,l,r,p,j1,j2,j3,j4,i5,k1,k2,k3,k4,F,M,I,ad]<;>try refine Ya ?_)|refine X2 ?_ ?_|(refine Xd ?_ ?_<;>intro hcd<;>try exact Xx))
      all_goals exact⟨_,P,set_row⟩
  .have U:=Bp G a
   have W:=Dy U
   have Y:aK t=true:=by simp[aK,U]
   rw[Y,<-W];exact GS (zAb g4 g5 g j k m e (gA a l))
end Go.Ab
