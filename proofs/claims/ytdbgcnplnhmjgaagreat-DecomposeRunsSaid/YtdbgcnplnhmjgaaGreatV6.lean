/- The contracts and facts that the laws of this seat need, in one text (AbC, Ab27, Ab37, Ab38, Ab39, AbH, AbQ, TrA, Tr3). -/
import Derived.Test.YtdbgcnplnhmjgaaGreatV5
import Derived.TacticsIn
import Derived.RangeFuncRecord
import Derived.RangeFuncLeaves
import Derived.RangeFuncCalls
import Derived.RangeFuncSeq
import Derived.RecoverIn
set_option linter.all false
set_option maxRecDepth 10000
set_option maxHeartbeats 16000000
namespace Go.Ab
open IntKind (i64)
open Go.Proofs.Tryz
variable {C:Cx}{F:Fence}{M:Nat->Nat->Prop}{N d i id j l n p:Nat}{P:Program}{Post:AV->Hp->Prop}{Q:Exit->St->Prop}{a:Act}{assign body y:Code}{caps xs:List PV}{f gop s x:Operand}{far:List Int}{fn:Func}{g gf:FuncId}{hn kd ts:List Nat}{lb:List Value}{next:Act->World->Prop}{o:Oper}{ob:Obj}{ops:Array Oper}{post pre:List Oper}{r:List (Int×Int)}{res:RV}{st:St}{v:Int}{w w':World}{α:Type}
def rz(ops:Array Oper):Bool:=ops.toList.all λo=>match o.op with|.defer _=>false|_=>true
theorem me(h:rz ops=true)(b:o∈ops.toList):∀c,o.op≠.defer c:=by
 intro c a;have:=VL.1 h o b;rw[a]at this;cases this
structure Wide(F:Fence):Prop where
 fn:∀f,F.fn f
 depth:F.depth=none
 calls:∀{n:Nat}{P:Program}{f:FuncId}{args:Array Value}{w:World}{R:Ending->World->Prop},Calls P f args w R->CallsIn F n P f args w R
 rows:∀{n:Nat}{P:Program}{row:String}{args:Array Value}{w:World}{R:Value->World->Prop},Rows P row args w R->RowsIn F n P row args w R
theorem gV:Wide Fence.wide:=⟨λ_=>trivial,rfl,λh=>callsIn_wide.2 h,λh c a _=>let⟨v,w',r,s⟩:=h c a;⟨v,w',r,stepsIn_wide.2 s⟩⟩
theorem Am(l:Nat):Wide (Fence.wide.inRound l):=⟨λ_=>trivial,rfl,λh=>(callsIn_wide.2 h).inRound l,λh=>gV.rows h⟩
theorem Fd(hF:Wide F)(hd:∀c,o.op≠.defer c){Q:Exit->Act->World->Prop}
 (h:o.wp P a w next Q):o.wpIn F n P a w next Q:=by
 refine⟨λf _=>hF.fn f,?_⟩;rw[Oper.semAt_eq _ _ _ hd];unfold Oper.wp at h
 cases e:(execOp a.eval o).run P w with
 |ok nx w'=>
  rw[e]at h
  cases nx with
  |value v=>exact h
  |skip=>exact h
  |defer d=>exact h
  |enter f args=>exact⟨λb=>(by rw[hF.depth]at b;cases b),hF.calls h⟩
  |row r args=>exact⟨λb=>(by rw[hF.depth]at b;cases b),hF.rows h⟩
  |_=>exact h.elim
 |halt k w'=>
  rw[e]at h
  cases k with
  |panic v=>exact h
  |_=>exact h.elim
def ij(C:Cx)(L:Nat->Loc)(st:St)(a:Act)(w:World):Prop:=
 MemL C L st.h w/\a.tmps.size=C.N/\∀n,RepA w (ae C L st.h) L st.h (st.t n) (a.tmps.getD n undef)
theorem ij.put{L:Nat->Loc}(hs:ij C L st a w){d:Option Nat}(hd:dv C.N d=true){v:AV}{W:List (Nat×Blk)}{u:Value}{L':Nat->Loc}
 (c:aL C L st.h w L' (ak st.h W) w')(g:RepA w' (ae C L' (ak st.h W)) L' (ak st.h W) v u):ij C L' (st.put d v W) (a.put d u) w':=by
 obtain⟨i,hN,f⟩:=hs;refine⟨c.1,?_,λn=>?_⟩
 .cases d<;>simp[Act.put,hN]
 .have b:=(f n).mono c.2.1 c.2.2
  cases d with
  |none=>exact b
  |some d=>
   have e:d<a.tmps.size:=by rw[hN];simp only[dv,An,L4]at hd;exact hd.1
   rw[rT e];simp only[St.put,ag];split
   .exact g
   .exact b
theorem Gn(st:St)(d:Option Nat)(v:AV)(W:List (Nat×Blk)):(st.put d v W).h=ak st.h W:=by cases d<;>rfl
theorem kM(a:Act)(d:Option Nat)(u:Value):(a.put d u).defers=a.defers:=by cases d<;>rfl
theorem Dj{L:Nat->Loc}(hs:ij C L st a w)(s:∀c,o.op≠.defer c)(hd:dv C.N o.dst=true){K:db->Prop}(e:wt C.P hn o st.ev st.h K){Q:Exit->Act->World->Prop}
 (j:∀f q w' L',K f->ij C L' (st.put o.dst f.1 f.2) q w'->aL C L st.h w L' (st.put o.dst f.1 f.2).h w'->q.defers=a.defers->next q w'):o.wp C.P a w next Q:=by
 have v:=hs;obtain⟨p,hN,z⟩:=v
 have i:tW C.P hn o st.ev st.h K->o.wp C.P a w next Q:=λe=>
  C8 p (λ_ _ h=>h) (λd r=>⟨rfl,by rw[r]at hd;simp only[dv,An,L4]at hd;exact hd.2⟩) (λx _=>dn z x) e (λf u w' L' O B R=>j f _ _ L' O (hs.put hd B R) (by rw[Gn];exact B) (kM _ _ _))
 unfold wt at e;split at e
 .rename_i c k
  exact absurd k (s c)
 .rename_i op t x y t' k
  split at e
  .rename_i D
   simp only[An,WL,WK]at D;obtain⟨⟨⟨F,G⟩,H⟩,l⟩:=D;have T:=y8 F (dn z y);obtain⟨A,n,c,S⟩:=vU p (dn z x) H
   obtain⟨b,M⟩:∃b:Bool,(op=.eql/\b=A.isNone)\/(op=.neq/\b=!A.isNone):=by
    rcases l with l|l
    .exact⟨_,.inl ⟨l,rfl⟩⟩
    .exact⟨_,.inr ⟨l,rfl⟩⟩
   have m:(execOp a.eval o).run C.P w=.ok (.value (.bool b)) w:=by
    obtain⟨I,U,V,pos,E,g⟩:=o;simp only at k;subst k;exact mL (A3 (rQ G) S T M) w
   have J:K (.pv (.val (.bool b)),[]):=by cases b with
    |true=>exact e.1
    |false=>exact e.2
   unfold Oper.wp;rw[m];exact j _ _ _ L J (hs.put hd (W:=[]) (aL.refl p) (.pv (.val _))) (by rw[Gn];exact aL.refl p) (kM _ _ _)
  .exact i e
 .exact i e
theorem i8{F:Fence}(hF:Wide F){n:Nat}{C:Cx}{hn:List Nat}{ops:Array Oper}{Q:St->Prop}{Q':Exit->Act->World->Prop}{E:Nat->Loc}{G:Hp}{w0:World}{ds:List Deferred}
 (u:∀st L a w,ij C L st a w->aL C E G w0 L st.h w->a.defers=ds->Q st->Q' .normal a w):
 ∀{l:List Oper}{st:St}{L:Nat->Loc}{a:Act}{w:World},(∀o∈l,∀c,o.op≠.defer c)->ij C L st a w->aL C E G w0 L st.h w->a.defers=ds->dP C.P hn C.N ops Q l st->wpListIn F n C.P ops Q' l a w
 |[],st,L,a,w,_,q,r,g,e=>u st L a w q r g e
 |o::l,st,L,a,w,s,q,r,g,e=>by
  have B:=q;obtain⟨J,hN,H⟩:=B;simp only[dP]at e;obtain⟨hd,e⟩:=e;have i:∀D∈l,∀c,D.op≠.defer c:=λD A=>s D (Ym _ A);have v:=s o List.mem_cons_self;unfold wpListIn;split at e
  .rename_i y
   rw[eN H (pL y),VS rfl];exact Fd hF v (Dj q v hd e (λx I w' L' z j k m=>i8 hF u i j (r.trans k) (m.trans g) z))
  .rename_i d b want y
   rw[eN H (mK y)];unfold yn at e;simp only at e;split at e
   .rename_i p
    subst p;rw[VS (by simp)];exact Fd hF v (Dj q v hd e (λx I w' L' z j k m=>i8 hF u i j (r.trans k) (m.trans g) z))
   .rename_i p
    rw[VM (by simpa using p)];exact⟨λf _=>hF.fn f,i8 hF u i (q.put hd (W:=[]) (aL.refl J) (.pv (.val _))) (by rw[Gn];exact r) ((kM _ _ _).trans g) e⟩
  .exact e.elim
def aI(F:Fence)(C:Cx)(c:Code)(Q:Exit->St->Prop)(st:St):Prop:=
 ∀n L a w,ij C L st a w->c.wpIn F n C.P (λe d w'=>∃b L',ij C L' b d w'/\aL C L st.h w L' b.h w'/\d.defers=a.defers/\Q e b) a w
section
variable {F:Fence} {C:Cx} {Q:Exit->St->Prop} {st:St}
theorem aI.region(hF:Wide F)(a:rz ops=true)(h:dP C.P hn C.N ops (Q .normal) ops.toList st):aI F C (.region id ops false) Q st:=
 λ_ _ _ _ d=>wpIn_region_list (i8 hF (λc L' _ _ b e hd hq=>⟨c,L',b,e,hd,hq⟩) (λ_ f=>me a f) d (aL.refl d.1) rfl h)
def Cy(F:Fence)(C:Cx)(y:Code)(Q:Exit->St->Prop):Exit->St->Prop
 |.normal,st=>aI F C y Q st
 |e,st=>Q e st
theorem aI.seq{x:Code}(h:aI F C x (Cy F C y Q) st):aI F C (.seq x y) Q st:=by
 intro n L a w o;refine wpIn_seq (wpIn_mono (h n L a w o) ?_);rintro e m w' ⟨i,L',b,k,hd,hq⟩
 cases e with
 |normal=>exact wpIn_mono (hq n L' m w' b) (λe p q ⟨j,l,g,c,d,f⟩=>⟨j,l,g,k.trans c,d.trans hd,f⟩)
 |_=>exact⟨i,L',b,k,hd,hq⟩
theorem aI.skip(h:Q .normal st):aI F C .skip Q st:=λ_ L _ _ a=>wpIn_skip ⟨st,L,a,aL.refl a.1,rfl,h⟩
theorem aI.ret(h:Q .ret st):aI F C .ret Q st:=λ_ L _ _ a=>wpIn_ret ⟨st,L,a,aL.refl a.1,rfl,h⟩
theorem aI.exit(h:Q (.exit id) st):aI F C (.exit id) Q st:=λ_ L _ _ a=>wpIn_exit ⟨st,L,a,aL.refl a.1,rfl,h⟩
theorem aI.cond{c:Operand}{x:Code}{b:Bool}(g:st.ev c=.pv (.val (.bool b)))(j:b=true->aI F C x Q st)(hf:b=false->aI F C y Q st):aI F C (.cond c x y) Q st:=by
 intro n L a w f
 have d:a.eval c=.bool b:=by
  have:=dn f.2.2 c;rw[g]at this
  cases this with
  |pv i=>exact aU i
 exact wpIn_cond_split d (λe=>j e n L a w f) (λe=>hf e n L a w f)
theorem aI.block{c:Code}(h:aI F C c (sI id Q) st):aI F C (.block id c) Q st:=by
 intro n L a w g;refine wpIn_block (wpIn_mono (h n L a w g) ?_);rintro e j w' ⟨d,L',b,f,hd,hq⟩
 cases e with
 |exit i=>
  simp only[sI,Exit.inBlock]at hq|-;split
  .rename_i e;rw[VS e]at hq;exact⟨d,L',b,f,hd,hq⟩
  .rename_i e;rw[VM e]at hq;exact⟨d,L',b,f,hd,hq⟩
 |_=>exact⟨d,L',b,f,hd,hq⟩
theorem aI.mono{c:Code}{Q':Exit->St->Prop}(h:aI F C c Q st)(hq:∀e st,Q e st->Q' e st):aI F C c Q' st:=
 λn L a w i=>wpIn_mono (h n L a w i) (λe _ _ ⟨b,L',f,g,hd,d⟩=>⟨b,L',f,g,hd,hq e b d⟩)
end
theorem LX{b o:Nat}{v:Value}(d:w.heap[l]?=some ob)(c:ob.isCells=false)(h:w.cell? ⟨b,o,none⟩=some v):b≠l:=by
 intro e;subst e;obtain⟨f,h1,a⟩:=cells_of_cell h;simp only at h1;rw[d]at h1;injection h1 with h1;subst h1;rw[c]at a;cases a
theorem M9{L:Nat->Loc}{h:Hp}{a:Loc}{blk:Blk}(d:dO w M L h a blk)(k:blk.live a)(g:w.heap[l]?=some ob)(j:ob.isCells=false)(f:∀arr c,ob≠.map arr c):a.b≠l:=by
 intro e;subst e
 cases blk with
 |box m own i=>obtain⟨arr,q,e,_⟩:=d;rw[g]at e;injection e with e;subst e;cases j
 |row e p xs i=>obtain⟨_,_,_,_,h5⟩:=d;obtain⟨_,_,arr,e,_⟩:=h5 k;rw[g]at e;injection e with e;subst e;cases j
 |mp kd n o i=>obtain⟨arr,c,e,_⟩:=d;rw[g]at e;injection e with e;exact f _ _ e
theorem MemL.turn{L:Nat->Loc}{h:Hp}(d:MemL C L h w)(x:C.w0.heap[l]?=some ob)(hS:¬C.S l)(u:ob.isCells=false)(n:∀arr c,ob≠.map arr c)(g:Obj):
 MemL {C with w0:=C.w0.putObj l g} L h (w.putObj l g)/\Pres w (ae C L h) (w.putObj l g) (ae C L h):=by
 have j:l<C.w0.heap.size:=(Ws.1 x).1;have q:w.heap[l]?=some ob:=(d.ext.block l j hS).trans x;have m:l<w.heap.size:=(Ws.1 q).1;have f:Pres w (ae C L h) (w.putObj l g) (ae C L h):=⟨λb o v i hn=>⟨(World.cell?_of_block (World.putObj_heap_other (LX q u i))).trans i,hn⟩,λb arr c i hn=>⟨(World.putObj_heap_other (by rintro rfl;rw[q]at i;injection i with i;exact n _ _ i)).trans i,hn⟩⟩;refine⟨⟨⟨d.ext.os,d.ext.tape,d.ext.output,by simpa using d.ext.size,λb r z=>?_⟩,λb o r=>by simpa using d.m0 b o r,λk a p=>(d.bl k a p).mono f (KC.refl _ _) (λs=>World.putObj_heap_other (M9 (d.bl k a p) s q u n)),d.sep,λk a p=>?_⟩,f⟩
 .by_cases e:b=l
  .subst e
   rw[World.putObj_heap_same m,World.putObj_heap_same j]
  .rw[World.putObj_heap_other e,World.putObj_heap_other e]
   exact d.ext.block b (by simpa using r) z
 .have:=d.own k a p
  cases a with
  |box A own y=>cases own with
   |true=>simpa[ft]using this
   |false=>simpa[ft]using this
  |row e B xs y=>simpa[ft]using this
  |mp=>simpa[ft]using this
theorem yw{o:Obj}(h:w.heap[l]?=some o):w.putObj l o=w:=by
 have:w.heap.setIfInBounds l o=w.heap:=by
  apply Array.ext_getElem?;intro i;rw[Array.getElem?_setIfInBounds];by_cases e:l=i
  .subst e
   rw[VS rfl,VS (Ws.1 h).1,h]
  .rw[VM e]
 show{w with heap:=w.heap.setIfInBounds l o}=w;rw[this]
theorem vW(w:World)(l:Nat)(o o':Obj):(w.putObj l o).putObj l o'=w.putObj l o':=by
 show{w with heap:=(w.heap.setIfInBounds l o).setIfInBounds l o'}={w with heap:=w.heap.setIfInBounds l o'}
 congr 1
 apply Array.ext_getElem?;intro i;simp only[Array.getElem?_setIfInBounds,Array.size_setIfInBounds];by_cases e:l=i
 .subst e;simp
 .simp[e]
theorem za{a:Array Value}{u:Value}(hd:d<a.size)(n:Nat):(a.setIfInBounds d u).getD n undef=if n=d then u else a.getD n undef:=by
 simp only[VT];by_cases e:n=d
 .subst e;simp[hd]
 .rw[VM e,WN (by omega)]
theorem nK{b:Nat}{ps:List PV}(h:ld w M b ps):b<w.heap.size:=by
 obtain⟨arr,a,e,_⟩:=h;exact(Ws.1 e).1
def Gp(P:Program)(gf:FuncId)(caps:List PV)(xs:List (PV×PV)):Prop:=
 dm P gf=true/\∀(n l:Nat)(lb:List Value)(W:World)(M:Nat->Nat->Prop)(J:Nat->(Nat->Nat->Prop)->World->Prop),
  (∀i M W,J i M W->∀b o,M b o->b<W.heap.size)->(∀i M W a,J i M W->Ext (λ_=>False) W a->J i M a)->
  (∀m i x M W d f,xs[i]?=some x->J i M W->Rep W M x.1 d->Rep W M x.2 f->YieldAt Fence.wide m P l #[d,f] W λe a=>e=.returned (.bool true)/\∃c,J (i+1) c a/\Pres W M a c)->
  J 0 M W->cy W M caps lb->CallsIn Fence.wide n P gf (#[.func (.yield l) #[] #[]]++lb.toArray) W λe a=>(∃v,e=.returned v)/\∃c,J xs.length c a
def kO(ks:List Nat)(hin:Nat->List PV):Hp:=λk=>if ks.contains k=true then some (.box ((hin k).map .pv) false false)else none
def qE(t:Nat->AV)(p q:Nat)(x:PV×PV):Nat->AV:=ag (ag t p (.pv x.1)) q (.pv x.2)
theorem Jr{q:Nat}(hg:a.eval gop=.func (.func gf) #[] lb.toArray)
 {caps:List PV}{xs:List (PV×PV)}(hit:Gp P gf caps xs){M:Nat->Nat->Prop}(hM:∀b o,M b o->b<w.heap.size)(a8:cy w M caps lb)
 {ks:List Nat}{O:Nat->Nat}{hin:Nat->List PV}(H:∀k∈ks,(∀o,M (O k) o)/\ld w M (O k) (hin k))(ba:∀k∈ks,∀k'∈ks,k≠k'->O k≠O k')
 (hN:a.tmps.size=N)(hp:p<N)(hq:q<N){t:Nat->AV}(ht:∀m,(∃k∈ks,t m=.ptr k 0/\a.tmps.getD m undef=.pointer (some ⟨O k,0,none⟩))\/t m=.undef)
 (I:Nat->Hp->Prop)(h0:I 0 (kO ks hin))(hI:∀i h k,k∈ks->I i h->∃cs,h k=some (.box cs false false))
 (U:∀(C C':Cx)(l i:Nat)(x:PV×PV)(h:Hp),C.P=P->C.N=N->C'.P=P->C'.N=N->xs[i]?=some x->I i h->
   aI (Fence.wide.inRound l) C assign (λe cu=>e=.normal/\aI (Fence.wide.inRound l) C' body (λe' bH=>e'=.normal/\I (i+1) bH.h) cu) ⟨qE t p q x,h⟩):
 (Code.rangeFunc gop #[p,q] assign body).wpIn Fence.wide n P (λe a' w'=>e=.normal/\∃(C:Cx)(L:Nat->Loc)(h:Hp)(D:Nat),C.P=P/\C.N=N/\C.M0=M/\(∀b,C.S b->∃k∈ks,b=O k)/\
   MemL C L h w'/\I xs.length h/\(∀k∈ks,(L k).b=O k)/\Ext (λ_=>False) w C.w0/\C.w0.heap[D]?=some (.deferred (some []))/\¬C.S D/\w.heap.size<=D/\a'={a with defers:={target:=.collected D,args:=#[]}::a.defers}) a w:=by
 refine wpIn_rangeFunc ?_;intro fn _;obtain⟨d,j⟩:∃d:LoopState->Option Code->Loop,d=λst pe=>{state:=st,pending:=pe,fn,tmps:=a.tmps,params:=#[p,q],assign,body,defers:=w.heap.size}:=⟨_,rfl⟩;obtain⟨E,Q⟩:∃E,(w.alloc (.deferred (some []))).alloc (.loop (d .ready none))=E:=⟨_,rfl⟩
 have K:Ext (λ_=>False) w E:=by rw[<-Q];exact(Ext.alloc _ _ _).trans (Ext.alloc _ _ _) (λ_ _ h=>h)
 have cB:E.heap.size=w.heap.size+2:=by rw[<-Q];simp
 have X:E.heap[w.heap.size+1]?=some (.loop (d .ready none)):=by
  rw[<-Q];have:=World.alloc_heap_new (w.alloc (.deferred (some []))) (.loop (d .ready none));rwa [World.size_alloc]at this
 have b4:E.heap[w.heap.size]?=some (.deferred (some [])):=by
  rw[<-Q];exact(RowKit.Below.heap_alloc _ _ _ (by simp)).trans (World.alloc_heap_new w _)
 obtain⟨l,hl⟩:∃l,l=w.heap.size+1:=⟨_,rfl⟩;rw[<-hl]at X;obtain⟨g,f⟩:∃g:Obj->Cx,g=λo=>{P:=P,N:=N,M0:=M,S:=λb=>∃k∈ks,b=O k,pb:=λk=>if ks.contains k=true then some (O k)else none,w0:=E.putObj l o}:=⟨_,rfl⟩
 have hS:∀o b,(g o).S b->b<w.heap.size:=by
  intro o b u;rw[f]at u;obtain⟨k,r,rfl⟩:=u;exact nK (H k r).2
 have J:∀o,(g o).w0=E.putObj l o:=λo=>by rw[f]
 have a5:∀o o' L h,ae (g o) L h=ae (g o') L h:=λo o' L h=>by rw[f];rfl
 have Y:∀(o:Obj),(g o).w0.heap[l]?=some o:=λo=>by rw[J];exact World.putObj_heap_same (Ws.1 X).1
 have bb:∀o,¬(g o).S l:=λo h=>by have:=hS o l h;omega
 have A:∀{o o':Obj}{L:Nat->Loc}{h:Hp}{W:World},o.isCells=false->(∀arr c,o≠.map arr c)->MemL (g o) L h W->W.heap[l]?=some o/\MemL (g o') L h (W.putObj l o')/\Pres W (ae (g o) L h) (W.putObj l o') (ae (g o') L h):=by
  intro o o' L h W ho cg F;have ca:l<(g o).w0.heap.size:=(Ws.1 (Y o)).1;obtain⟨h1,h2⟩:=F.turn (Y o) (bb o) ho cg o';refine⟨(F.ext.block l ca (bb o)).trans (Y o),?_,?_⟩
  .have e:({g o with w0:=(g o).w0.putObj l o'}:Cx)=g o':=by rw[f];simp only[vW]
   rw[e]at h1;exact h1
  .rw[a5 o' o];exact h2
 have z:E.putObj l (.loop (d .ready none))=E:=yw X
 have V:∀{o:Obj}{L:Nat->Loc}{h:Hp}{W:World}{i k:Nat},k∈ks->I i h->MemL (g o) L h W->(L k).b=O k:=by
  intro o L h W i k r hi F;obtain⟨cs,hc⟩:=hI i h k r hi;have:=(F.own k _ hc).2.1;rw[f]at this
  have ad:ks.contains k=true:=by simpa using r
  simp only[ad,V8,VQ]at this;exact this.symm
 let L0:Nat->Loc:=λk=>⟨O k,0,false⟩
 have B:∀k s,kO ks hin k=some s->k∈ks/\s=.box ((hin k).map .pv) false false:=by
  intro k s r;unfold kO at r;split at r
  .rename_i hc;injection r with r;exact⟨by simpa using hc,r.symm⟩
  .cases r
 have b5:∀o b o',ae (g o) L0 (kO ks hin) b o'->M b o':=by
  rintro o b o' (u|⟨k,s,r,_,u,_⟩)
  .rw[f]at u;exact u
  .obtain⟨y,_⟩:=B k s r
   rw[<-u];exact(H k y).1 o'
 have G:Pres w M E (ae (g (.loop (d .ready none))) L0 (kO ks hin)):=Pres.ext K (λ_ _ h=>h.elim) λb o _ h=>b5 _ b o h
 have cb:MemL (g (.loop (d .ready none))) L0 (kO ks hin) E:=by
  refine⟨by rw[J,z];exact Ext.refl _ _,?_,?_,?_,?_⟩
  .intro b o u
   rw[J,z];rw[f]at u;have:=hM b o u;omega
  .intro k s r
   obtain⟨y,rfl⟩:=B k s r;obtain⟨arr,ty,e1,e2⟩:=(H k y).2;exact⟨arr,ty,(K.block _ (nK (H k y).2) (λh=>h)).trans e1,aE.map_pv (e2.mono G)⟩
  .intro k k' b1 b2 cj r T _ _
   exact ba k (B k b1 r).1 k' (B k' b2 T).1 cj
  .intro k s r
   obtain⟨y,rfl⟩:=B k s r
   have ad:ks.contains k=true:=by simpa using y
   refine⟨rfl,?_,?_,?_,?_⟩
   .rw[f];simp only[ad,V8];rfl
   .rw[f];exact⟨k,y,rfl⟩
   .rw[J,z];have:=nK (H k y).2;show O k<_;omega
   .intro o;rw[f];exact(H k y).1 o
 refine⟨l,[{target:=.collected w.heap.size,args:=#[]}],E,{target:=.fn (.func gf) lb.toArray,args:=#[.func (.yield l) #[] #[]]},E,gf,#[.func (.yield l) #[] #[]]++lb.toArray,E,?_,?_,λ_ _=>trivial,sJ hit.1 _ _ _,λh=>(by cases h),?_⟩
 .rw[<-Q,j,hl];exact run_enterLoop_outer _ _ _ _ _
 .simp only[resolve,hg]
  simp[go_sem]
 .refine(hit.2 (n-1) l lb E _ (λi M' W=>∃L h,I i h/\MemL (g (.loop (d .ready none))) L h W/\M'=ae (g (.loop (d .ready none))) L h) ?_ ?_ ?_ ⟨L0,_,h0,cb,rfl⟩ (a8.mono G)).mono ?_
  .rintro i M' W ⟨L,h,_,F,rfl⟩ b o u
   exact F.mlt u
  .rintro i M' W W' ⟨L,h,hi,F,rfl⟩ hx
   exact⟨L,h,hi,(F.grow hx).1,rfl⟩
  .
   rintro m i x M' W v1 v2 ct ⟨L,h,hi,F,rfl⟩ cn cp;obtain⟨b9,_,_⟩:=A (o':=.loop (d .ready none)) rfl (by intro _ _ h;cases h) F;have hy:=run_yield (P:=P) (args:=#[v1,v2]) b9 (by rw[j];rfl);rw[j]at hy;refine⟨fn,(a.tmps.setIfInBounds p v1).setIfInBounds q v2,assign,body,by simpa using hy,roundIn_of_wpIn trivial ?_⟩
   have bq:ij (g (.loop (d .ready none))) L ⟨qE t p q x,h⟩ {tmps:=(a.tmps.setIfInBounds p v1).setIfInBounds q v2,defers:=[]} W:=by
    refine⟨F,by rw[f];simpa using hN,λk=>?_⟩
    have cm:q<(a.tmps.setIfInBounds p v1).size:=by rw[Array.size_setIfInBounds,hN];exact hq
    have ck:p<a.tmps.size:=by rw[hN];exact hp
    simp only[za cm,za ck,qE,ag];split
    .exact .pv cp
    .split
     .exact .pv cn
     .rcases ht k with⟨k',T,e1,e2⟩|e1
      .obtain⟨cs,hc⟩:=hI i h k' T hi
       rw[e1,e2,<-V T hi F];exact .ptr hc
      .rw[e1];exact .undef _
   have a6:(g (.loop (d .ready none))).P=P:=by rw[f]
   have a7:(g (.loop (d .busy none))).P=P:=by rw[f]
   have hR:=U (g (.loop (d .ready none))) (g (.loop (d .busy none))) l i x h a6 (by rw[f]) a7 (by rw[f]) ct hi m L _ W bq;rw[a6]at hR;refine wpIn_mono hR ?_;rintro e a1 w1 ⟨cw,L1,R,b0,_,rfl,Z⟩;obtain⟨b8,cd,bc⟩:=A (o':=.loop (d .busy none)) rfl (by intro _ _ h;cases h) R.1;refine⟨w1.putObj l (.loop (d .busy none)),?_,?_⟩
   .have:=run_beginRound (P:=P) b8 (by rw[j])
    rw[j]at this|-;exact this
   have cr:ij (g (.loop (d .busy none))) L1 cw a1 (w1.putObj l (.loop (d .busy none))):=⟨cd,by have:=R.2.1;rw[f]at this|-;exact this,λk=>(R.2.2 k).mono bc (KC.refl _ _)⟩;have hB:=Z m L1 a1 _ cr;rw[a7]at hB;refine wpIn_mono hB ?_;rintro e2 a2 w2 ⟨cz,L2,cq,b3,_,rfl,b7⟩;obtain⟨ar,ch,hpr⟩:=A (o':=.loop (d .ready none)) rfl (by intro _ _ h;cases h) cq.1;refine⟨_,_,run_endRound none ar,rfl,_,⟨L2,cz.h,b7,?_,rfl⟩,?_⟩
   .have e:(Obj.loop {d .busy none with state:=if(none:Option Code).isNone=true then .ready else .done,pending:=none})=.loop (d .ready none):=by rw[j];rfl
    rw[e];exact ch
   .have e:(Obj.loop {d .busy none with state:=if(none:Option Code).isNone=true then .ready else .done,pending:=none})=.loop (d .ready none):=by rw[j];rfl
    rw[e];exact((b0.2.1.trans bc).trans b3.2.1).trans hpr
  .
   rintro e W2 ⟨⟨v,rfl⟩,M',L,h,hi,F,_⟩;obtain⟨ar,cf,_⟩:=A (o':=.loop (d .exhausted none)) rfl (by intro _ _ h;cases h) F;refine⟨none,W2.putObj l (.loop (d .exhausted none)),?_,rfl,g (.loop (d .exhausted none)),L,h,w.heap.size,by rw[f],by rw[f],by rw[f],?_,cf,hi,λk r=>V r hi F,?_,?_,?_,VU _,rfl⟩
   .have:=run_endLoop (P:=P) ar (by rw[j];simp)
    rw[j]at this|-;exact this
   .intro b u
    rw[f]at u;exact u
   .rw[J]
    refine⟨K.os,K.tape,K.output,by simp;omega,λb u _=>?_⟩;rw[World.putObj_heap_other (by omega)];exact K.block b u (λh=>h)
   .rw[J,World.putObj_heap_other (by omega)];exact b4
   .intro u
    have:=hS _ _ u;omega
def xP(P:Program)(g:FuncId):Prop:=dm P g=true/\∀(n:Nat)(args:Array Value)(w:World),CallsDIn Fence.wide n P g args .returning w λe a w'=>a=.returning/\(∃v,e=.returned v)/\w'=w
def Ao(P:Program)(ds:List Deferred):Prop:=∀d∈ds,∃g cap,d.target=.fn (.func g) cap/\xP P g
theorem sM{n:Nat}{P:Program}{fn:Func}{tmps:Array Value}{R:Ending->World->Prop}{w:World}{v:Value}:∀{ds:List Deferred},Ao P ds->(results fn tmps).run P w=.ok v w->R (.returned v) w->LeavesInM Fence.wide n P fn tmps R ds .returning w
 |[],_,b,a=>⟨v,b,a⟩
 |d::ds,hq,b,a=>by
  obtain⟨g,cap,f,c⟩:=hq d (by simp);refine⟨by simp,.inr ⟨λh=>(by cases h),.func g,cap,g,d.args++cap,f,by rw[f];exact sJ c.1 _ _ _,λ_ _=>trivial,(c.2 _ _ w).mono ?_⟩⟩;rintro e i w' ⟨rfl,⟨j,rfl⟩,rfl⟩;exact sM (λd hd=>hq d (by simp[hd])) b a
def Na(C:Cx)(res:PV):Ending->World->Prop:=λe w'=>∃v,e=.returned v/\Ext (λ_=>False) C.w0 w'/\Rep w' C.M0 res v
theorem Fe{L:Nat->Loc}(hs:ij C L st a w){res:PV}(g:jA C.P fn.results.toList [] (.pv res) st):∃u,(results fn a.tmps).run C.P w=.ok u w/\Rep w C.M0 res u:=by
 obtain⟨r,h1,_,W,f⟩:=g;obtain⟨u,c,d⟩:=od (C:=C) hs.1 hs.2.2 h1;obtain⟨i,e,_⟩:=nH hs.1 (dh.refl _) d f;exact⟨u,c,e.mono (Pres.sub (λb o h=>.inl h))⟩
def Dk:RV->Bool
 |.pv _=>true
 |.nrow _ _ _=>true
 |_=>false
@[simp] theorem T4{p:PV}:Dk (.pv p)=true:=rfl
@[simp] theorem QL{e sz:Nat}:Dk (.nrow e sz xs)=true:=rfl
def Lf(C:Cx)(res:RV):Ending->World->Prop:=λe w'=>∃v,e=.returned v/\Ext (λ_=>False) C.w0 w'/\zY C.w0 w' C.M0 res v
theorem Dl{L:Nat->Loc}(hs:ij C L st a w)(m:Dk res=true)(y:jA C.P fn.results.toList [] res st):∃u,(results fn a.tmps).run C.P w=.ok u w/\∀(w0:World)(M:Nat->Nat->Prop),(∀b o,M b o->C.M0 b o)->(∀b,(C.w0.heap.size<=b\/(C.S b/\∀o,¬C.M0 b o))->w0.heap.size<=b)->zY w0 w M res u:=by
 cases res with
 |pv p=>
  obtain⟨u,h1,E⟩:=Fe hs y;exact⟨u,h1,λw0 M f _=>E.mono (Pres.sub f)⟩
 |nrow e N xs=>
  obtain⟨r,h1,_,l,k,rfl,d⟩:=y;obtain⟨u,q,s⟩:=od (C:=C) hs.1 hs.2.2 h1;refine⟨u,q,λw0 M f g=>⟨l,L k,?_,λhn=>g _ ((hs.1.own _ _ d).row hn),?_⟩⟩
  .cases s with
   |arr c G H=>
    rw[d]at c;injection c with c;injection c with a1 a2 a3 a4;subst a3;exact H rfl
  .obtain⟨z,K,A,B,D⟩:=hs.1.bl _ _ d
   refine⟨z,WJ _,A,B,λhn=>?_⟩;obtain⟨d1,d2,arr,d3,d4,d5⟩:=D hn;refine⟨d1,d2,arr,d3,d4,λi x j p J F=>?_⟩;obtain⟨v,I,n⟩:=d5 i x j p J F;refine⟨v,I,n.mono (Pres.sub ?_)⟩;rintro b o (h|⟨_,rfl⟩)
   .exact .inl (f _ _ h)
   .exact .inr ⟨k,_,d,hn,rfl,by simp[Blk.frz]⟩
 |_=>cases m
theorem dX{F:Fence}{n:Nat}{P:Program}{ops:Array Oper}{Q:Exit->Act->World->Prop}(d:List Oper):∀{g:List Oper}{a:Act}{w:World},
 wpListIn F n P ops (Exit.then (wpListIn F n P ops Q d) Q) g a w->wpListIn F n P ops Q (g++d) a w
 |[],a,w,h=>h
 |o::g,a,w,h=>by
  rw[List.cons_append];unfold wpListIn at h|-;split
  .rename_i f
   rw[VS f]at h;refine⟨h.1,?_⟩;have b:=h.2;generalize(o.semAt F.round a.eval).run P w=r at b|-;unfold Oper.uponIn at b|-;split<;>simp only at b|-
   .exact dX d b
   .exact dX d b
   .exact dX d b
   .refine⟨b.1,b.2.mono ?_⟩
    intro e w' c
    cases e with
    |returned v=>exact dX d c
    |panicked i=>exact c
    |outgrown=>exact c
   .exact⟨b.1,b.2.mono λv w' c=>dX d c⟩
   .refine⟨b.1,b.2.mono ?_⟩
    intro e w' c
    cases e with
    |returned v=>exact dX d c
    |panicked i=>exact c
    |outgrown=>exact c
   .exact b
  .rename_i f
   rw[VM f]at h;exact⟨h.1,dX d h.2⟩
def oQ(C:Cx)(fn:Func)(res:RV)(c:Code)(st:St):Prop:=
 ∀n L a w,ij C L st a w->Ao C.P a.defers->c.wpIn Fence.wide n C.P (bodyPostM Fence.wide n C.P fn (Lf C res)) a w
section
variable {C:Cx} {fn:Func} {res:RV} {st:St}
theorem uU{S:Nat->Prop}(hS:∀b,¬S b)(h:Ext S w w'):Ext (λ_=>False) w w':=⟨h.os,h.tape,h.output,h.size,λb a _=>h.block b a (hS b)⟩
def Js(C:Cx)(fn:Func)(res:RV)(y:Code):Exit->St->Prop
 |.normal,st=>oQ C fn res y st
 |.ret,st=>Dk res=true/\jA C.P fn.results.toList [] res st
 |_,_=>False
theorem oQ.seq(f:∀b,¬C.S b){x:Code}(h:aI Fence.wide C x (Js C fn res y) st):oQ C fn res (.seq x y) st:=by
 intro n L a w k hq;refine wpIn_seq (wpIn_mono (h n L a w k) ?_);rintro e g w' ⟨l,L',d,m,hd,c⟩
 cases e with
 |normal=>exact c n L' g w' d (by rw[hd];exact hq)
 |ret=>
  obtain⟨u,h1,i⟩:=Dl d c.1 c.2;exact sM (by rw[hd];exact hq) h1 ⟨u,rfl,uU f d.1.ext,i _ _ (λ_ _ h=>h) (λb h=>h.elim id λj=>absurd j.1 (f b))⟩
 |exit=>exact c.elim
 |goto=>exact c.elim
 |panic=>exact c.elim
 |outgrown=>exact c.elim
theorem HO{Q:Exit->Act->World->Prop}(h:o.wp P a w next Q):o.wpIn Fence.wide n P a w next Q:=by
 refine⟨λf _=>trivial,?_⟩
 show o.uponIn Fence.wide n P a next Q ((o.semAt none a.eval).run P w)
 rw[Oper.semAt_none];unfold Oper.wp at h
 cases c:(execOp a.eval o).run P w with
 |ok nx w'=>
  rw[c]at h
  cases nx with
  |value v=>exact h
  |skip=>exact h
  |defer d=>exact h
  |enter f args=>exact⟨λb=>(by cases b),gV.calls h⟩
  |row r args=>exact⟨λb=>(by cases b),gV.rows h⟩
  |_=>exact h.elim
 |halt k w'=>
  rw[c]at h
  cases k with
  |panic v=>exact h
  |_=>exact h.elim
theorem oQ.defer{c:Call}(i:ops.toList=pre++[o])(p:∀o∈pre,∀c,o.op≠.defer c)(B:o.op=.defer c)(m:o.guard=none)(hd:o.dst=none)(hf:c.callee=.value f)(A:c.args.size=0)(hq:xP C.P g)
 (h:dP C.P hn C.N ops (λk=>(∃first caps,k.ev f=.fn (.func g) first caps)/\oQ C fn res y k) pre st):oQ C fn res (.seq (.region id ops false) y) st:=by
 intro n L a w u r;refine wpIn_seq (wpIn_region_list ?_);rw[i];refine dX _ (i8 gV (ds:=a.defers) ?_ p u (aL.refl u.1) rfl h);intro G x s v e _ l q;obtain⟨⟨first,caps,D⟩,F⟩:=q;obtain⟨vs,z,j⟩:=HG (by have:=dn e.2.2 f;rw[D]at this;exact this);show wpListIn Fence.wide n C.P ops _ [o] s v;unfold wpListIn
 have E:Region.wanted o (yielded ops s.tmps)=true:=by unfold Region.wanted;rw[m]
 rw[VS E];refine HO (Oper.wp_defer B hf A j ?_);rw[hd];refine F n x _ v ⟨e.1,e.2.1,e.2.2⟩ ?_;intro d b;rcases Wj.1 b with rfl|b
 .exact⟨g,z,rfl,hq⟩
 .rw[l]at b;exact r d b
theorem oQ.range(A:∀b,¬C.S b){x:Code}{q b0:Nat}{xs:List (PV×PV)}(hit:Gp C.P gf caps xs)(hp:p<C.N)(hq:q<C.N)
 {ks:List Nat}{hin:Nat->List PV}{t:Nat->AV}
 (hx:aI Fence.wide C x (λe f=>e=.normal/\f.ev gop=.pv (.fn (.func gf) [] caps)/\(∀k∈ks,f.h k=some (.box ((hin k).map .pv) true false))/\∀m,(∃k∈ks,t m=.ptr k 0/\f.t m=.ptr k 0)\/t m=.undef) st)
 (I:Nat->Hp->Prop)(h0:I 0 (kO ks hin))(hI:∀i h k,k∈ks->I i h->∃cs,h k=some (.box cs false false))
 (E:∀(C1 g:Cx)(l i:Nat)(x:PV×PV)(h:Hp),C1.P=C.P->C1.N=C.N->g.P=C.P->g.N=C.N->xs[i]?=some x->I i h->
   aI (Fence.wide.inRound l) C1 assign (λe f=>e=.normal/\aI (Fence.wide.inRound l) g body (λe' bb=>e'=.normal/\I (i+1) bb.h) f) ⟨qE t p q x,h⟩)
 (b8:rz ops=true){hn:List Nat}(R:∀h,I xs.length h->dP C.P hn C.N ops (λf=>Dk res=true/\jA C.P fn.results.toList [] res f) ops.toList ⟨t,h⟩):
 oQ C fn res (.seq (.seq x (.block b0 (.rangeFunc gop #[p,q] assign body))) (.seq (.region id ops false) .ret)) st:=by
 intro n L a w hs cb;refine wpIn_seq (wpIn_seq (wpIn_mono (hx n L a w hs) ?_));rintro e F w1 ⟨U,V,c,cm,b2,rfl,hg,y,a7⟩;have O:=dn c.2.2 gop;rw[hg]at O
 obtain⟨us,ch,Z⟩:∃us:List Value,F.eval gop=.func (.func gf) #[] us.toArray/\cy w1 (ae C V U.h) caps us:=by
  generalize F.eval gop=u at O
  cases O with
  |pv B=>
   cases B with
   |fn _ _ _ vs us hl j h1 J=>
    have:vs=[]:=Wq hl.symm;subst this;exact⟨us,rfl,j,J⟩
 have b1:∀k∈ks,(∀o,ae C V U.h (V k).b o)/\ld w1 (ae C V U.h) (V k).b (hin k):=by
  intro k j;obtain⟨arr,ty,z,r⟩:=c.1.bl k _ (y k j);exact⟨λo=>.inr ⟨k,_,y k j,trivial,rfl,by simp[Blk.frz]⟩,arr,ty,z,r.map_pv_inv⟩
 refine wpIn_block (wpIn_mono (Jr (N:=C.N) ch hit (λb o h=>c.1.mlt h) Z b1 (λk j k' b4 b9=>c.1.sep k k' _ _ b9 (y k j) (y k' b4) trivial trivial) c.2.1 hp hq (t:=t) ?_ I h0 hI E) ?_)
 .intro m
  rcases a7 m with⟨k,j,z,r⟩|e
  .have B:=c.2.2 m
   rw[r]at B;generalize hv:F.tmps.getD m undef=v at B
   cases B with
   |ptr _=>exact .inl ⟨k,j,z,rfl⟩
  .exact .inr e
 rintro e a2 w2 ⟨rfl,g,L2,J,D,s,X,bq,Y,b5,ar,bH,ba,K,G,ck,rfl⟩;show Code.wpIn Fence.wide n C.P _ _ _ w2
 have a6:ij g L2 ⟨t,J⟩ {F with defers:={target:=.collected D,args:=#[]}::F.defers} w2:=by
  refine⟨b5,by rw[X];exact c.2.1,λm=>?_⟩;show RepA w2 (ae g L2 J) L2 J (t m) (F.tmps.getD m undef);rcases a7 m with⟨k,j,z,r⟩|e
  .have B:=c.2.2 m
   rw[r]at B;obtain⟨cs,hc⟩:=hI _ J k j ar
   have hv:F.tmps.getD m undef=.pointer (some ⟨(V k).b,0,none⟩):=by
    generalize F.tmps.getD m undef=v at B
    cases B with
    |ptr _=>rfl
   rw[z,hv,<-bH k j];exact .ptr hc
  .rw[e];exact .undef _
 refine wpIn_seq (wpIn_region_list ?_);have T:=R J ar;rw[<-s,<-X]at T;rw[s]at T;have ad:=λQ' bs=>i8 (C:=g) (Q:=λf=>Dk res=true/\jA C.P fn.results.toList [] res f) (Q':=Q') (hn:=hn) (ops:=ops) gV (n:=n) bs (λ_ ho=>me b8 ho) a6 (aL.refl a6.1) rfl (by rw[s];exact T);rw[s]at ad;refine ad _ ?_;intro cj L3 a3 H d _ b3 a5;refine wpIn_ret ?_;show LeavesInM Fence.wide n C.P fn a3.tmps (Lf C res) a3.defers .returning H;rw[b3];have W:D<g.w0.heap.size:=(Ws.1 K).1;have bc:H.heap[D]?=some (.deferred (some [])):=(d.1.ext.block D W G).trans K;obtain⟨b7,ca⟩:=d.1.turn K G rfl (by intro _ _ h;cases h) (.deferred none);have cd:ij {g with w0:=g.w0.putObj D (.deferred none)} L3 cj a3 (H.putObj D (.deferred none)):=⟨b7,d.2.1,λm=>(d.2.2 m).mono ca (KC.refl _ _)⟩;obtain⟨u,cf,cg⟩:=Dl cd (fn:=fn) (res:=res) a5.1 (by show jA g.P _ _ _ _;rw[s];exact a5.2)
 have a8:(results fn a3.tmps).run C.P (H.putObj D (.deferred none))=.ok u (H.putObj D (.deferred none)):=by rw[<-s];exact cf
 refine⟨by simp,.inl ⟨D,_,rfl,run_takeDeferred bc,sM (by rw[b2];exact cb) a8 ⟨u,rfl,?_,?_⟩⟩⟩
 .
  have z:Ext (λ_=>False) C.w0 w1:=uU A c.1.ext;have r:Ext (λ_=>False) C.w0 g.w0:=z.trans ba (λ_ _ h=>h);have cn:=z.size;refine⟨?_,?_,?_,?_,?_⟩
  .show H.os=_;rw[d.1.ext.os];exact r.os
  .show H.tape=_;rw[d.1.ext.tape];exact r.tape
  .show H.output=_;rw[d.1.ext.output];exact r.output
  .simp only[World.putObj_size];exact XH r.size d.1.ext.size
  .intro b hb _
   rw[World.putObj_heap_other (by omega)];rw[d.1.ext.block b (WM hb r.size) ?_]
   .exact r.block b hb (λh=>h)
   .intro M
    obtain⟨k,j,rfl⟩:=Y b M;have:=c.1.own k _ (y k j);rcases this with this|this
    .omega
    .exact A _ this.1
 .have z:Ext (λ_=>False) C.w0 w1:=uU A c.1.ext
  have r:Ext (λ_=>False) C.w0 g.w0:=z.trans ba (λ_ _ h=>h);refine cg _ _ (λb o h=>?_) (λb h=>?_)
  .show g.M0 b o
   rw[bq];exact .inl h
  .rcases h with h|⟨M,_⟩
   .have h9:g.w0.heap.size<=b:=by simpa only[World.putObj_size]using h
    exact XH r.size h9
   .obtain⟨k,j,rfl⟩:=Y b M
    rcases c.1.own k _ (y k j)with this|this
    .exact this
    .exact absurd this.1 (A _)
end
theorem Ff{f:FuncId}{c:Code}(hf:P.funcs[f]?=some fn)(y:fn.body=some c)(l:dm P f=true){args:List PV}(H:args.length<=fn.ntmps)
 (h:∀C:Cx,C.P=P->C.N=fn.ntmps->(∀b,¬C.S b)->oQ C fn res c (rU (args.map .pv) [])):aQ P f (args.map .pv) [] [] res:=by
 refine⟨l,rfl,λw M I vs J B K G s u=>?_⟩;have D:I=[]:=Wq B;subst D
 let C:Cx:={P:=P,N:=fn.ntmps,M0:=M,S:=λ_=>False,pb:=λ_=>none,w0:=w}
 have a:∀k,(rU (args.map .pv) []).h k=none:=by
  intro k;simp only[rU,uP];split
  .rfl
  .simp
 have F:args.length=vs.length:=by simpa using s
 have O:ij C (λ_=>default) (rU (args.map .pv) []) {tmps:=vs.toArray++Array.replicate (fn.ntmps-vs.toArray.size) undef,defers:=[]} w:=by
  refine⟨⟨Ext.refl _ _,J,λk q g=>(by rw[a]at g;cases g),λk U R T _ g=>(by rw[a]at g;cases g),λk q g=>(by rw[a]at g;cases g)⟩,?_,λn=>?_⟩
  .show(vs.toArray++Array.replicate (fn.ntmps-vs.toArray.size) undef).size=fn.ntmps
   simp;omega
  .have r:∀b o,ae C (λ_=>default) (rU (args.map .pv) []).h b o->M b o:=by
    rintro b o (h|⟨k,q,g,_⟩)
    .exact h
    .rw[a]at g;cases g
   show RepA w _ _ _ (Da (args.map .pv) n) _;simp only[Da];split
   .rename_i p hp
    have m:n<vs.length:=by rw[<-s];exact(th.1 hp).1
    have Q:=u n (.pv p) vs[n] hp (an m)
    have z:(vs.toArray++Array.replicate (fn.ntmps-vs.toArray.size) undef).getD n undef=vs[n]:=by
     rw[VT,Wx (by simpa using m)];simp[m]
    simp only[z];have E:Rep w M p vs[n]:=Q;exact .pv (E.mono (Pres.sub r))
   .rename_i j hp
    rw[VN]at hp
    cases hq:args[n]? with
    |none=>rw[hq]at hp;cases hp
    |some x=>rw[hq]at hp;cases hp
   .exact .undef _
 refine(callsIn_wide (n:=0)).1 ((callsIn_of_wp_marks hf y trivial (h C rfl rfl (λ_ h=>h) 0 _ _ w O (λd hd=>(by simp at hd))) rfl).mono ?_);rintro e w' ⟨v,rfl,A,L⟩;exact⟨v,rfl,⟨A.os,A.tape,A.output,A.size,λb y _=>A.block b y (λh=>h)⟩,λi b V y=>(by simp at y),L⟩
@[simp] theorem Nb:Cy F C y Q .normal st=aI F C y Q st:=rfl
@[simp] theorem P5:Cy F C y Q .ret st=Q .ret st:=rfl
@[simp] theorem Pn:Cy F C y Q (.exit i) st=Q (.exit i) st:=rfl
@[simp] theorem Pc:Js C fn res y .normal st=oQ C fn res y st:=rfl
@[simp] theorem QM:Js C fn res y .ret st=(Dk res=true/\jA C.P fn.results.toList [] res st):=rfl
section
variable {F:Fence} {C:Cx} {x y:Code} {Q:Exit->St->Prop} {st:St} {c:Operand}
def t5(F:Fence)(C:Cx)(x y:Code)(Q:Exit->St->Prop)(st:St):AV->Prop
 |.pv (.val (.bool b))=>(b=true->aI F C x Q st)/\(b=false->aI F C y Q st)
 |_=>False
@[simp] theorem Pd:t5 F C x y Q st (.pv (.val (.bool true)))=aI F C x Q st:=by simp[t5]
@[simp] theorem Nc:t5 F C x y Q st (.pv (.val (.bool false)))=aI F C y Q st:=by simp[t5]
theorem dY{b:Bool}(h1:b=true->aI F C x Q st)(a:b=false->aI F C y Q st):t5 F C x y Q st (.pv (.val (.bool b))):=⟨h1,a⟩
theorem aI.cond'(h:t5 F C x y Q st (st.ev c)):aI F C (.cond c x y) Q st:=by
 cases a:st.ev c with
 |pv p=>cases p with
  |val v=>cases v with
   |bool b=>rw[a]at h;exact aI.cond a h.1 h.2
   |_=>rw[a]at h;exact h.elim
  |_=>rw[a]at h;exact h.elim
 |_=>rw[a]at h;exact h.elim
end
def fh(N:Nat)(M:Nat->Nat->Prop)(t:Nat->AV)(a:Act)(w:World):Prop:=a.tmps.size=N/\∀m,t m=.undef\/∃p,t m=.pv p/\Rep w M p (a.tmps.getD m undef)
theorem fh.sim{t:Nat->AV}(h:fh N M t a w)(f:∀b o,M b o->b<w.heap.size):ij {P:=P,N:=N,M0:=M,S:=λ_=>False,pb:=λ_=>none,w0:=w} (λ_=>default) ⟨t,λ_=>none⟩ a w:=by
 refine⟨⟨Ext.refl _ _,f,λk d c=>(by cases c),λk l i j _ c=>(by cases c),λk d c=>(by cases c)⟩,h.1,λm=>?_⟩;rcases h.2 m with e|⟨p,e,g⟩
 .show RepA w _ _ _ (t m) _
  rw[e];exact .undef _
 .show RepA w _ _ _ (t m) _
  rw[e];refine .pv (g.mono (Pres.sub ?_));rintro b o (h|⟨k,d,c,_⟩)
  .exact h
  .cases c
def bO(t:Nat->AV):Nat->AV:=λm=>match t m with
 |.pv p=>.pv p
 |_=>.undef
theorem rA{L:Nat->Loc}(hs:ij C L st a w):fh C.N C.M0 (bO st.t) a w:=by
 refine⟨hs.2.1,λm=>?_⟩;have:=hs.2.2 m;unfold bO;generalize st.t m=v at this
 cases v with
 |pv p=>
  cases this with
  |pv c=>exact .inr ⟨p,rfl,c.mono (Pres.sub λb o h=>.inl h)⟩
 |_=>exact .inl rfl
theorem fh.sub{t t':Nat->AV}(h:fh N M t a w)(b:∀m,t' m=.undef\/t' m=t m):fh N M t' a w:=by
 refine⟨h.1,λm=>?_⟩;rcases b m with e|e
 .exact .inl e
 .rw[e];exact h.2 m
theorem fh.mono{M':Nat->Nat->Prop}{t:Nat->AV}(h:fh N M t a w)(hp:Pres w M w' M'):fh N M' t a w':=
 ⟨h.1,λm=>(h.2 m).imp id λ⟨p,e,b⟩=>⟨p,e,b.mono hp⟩⟩
theorem fh.step{t:Nat->AV}{c:Code}(h:fh N M t a w)(i:∀b o,M b o->b<w.heap.size)
 (j:∀C:Cx,C.P=P->C.N=N->aI Fence.wide C c Q ⟨t,λ_=>none⟩):c.wpIn Fence.wide n P (λe g w'=>∃d,Q e d/\fh N M (bO d.t) g w'/\Ext (λ_=>False) w w'/\g.defers=a.defers) a w:=
 wpIn_mono (j {P:=P,N:=N,M0:=M,S:=λ_=>False,pb:=λ_=>none,w0:=w} rfl rfl n _ a w (h.sim i)) λ_ _ _ ⟨d,_,f,_,hd,hq⟩=>⟨d,hq,rA f,f.1.ext,hd⟩
theorem fh.list{t:Nat->AV}{l:List Oper}{Q:St->Prop}{Q':Exit->Act->World->Prop}(h:fh N M t a w)(i:∀b o,M b o->b<w.heap.size)(g:∀o∈l,∀c,o.op≠.defer c)
 (k:dP P hn N ops Q l ⟨t,λ_=>none⟩)(j:∀d e w',Q d->fh N M (bO d.t) e w'->Ext (λ_=>False) w w'->e.defers=a.defers->Q' .normal e w'):wpListIn Fence.wide n P ops Q' l a w:=
 i8 (C:={P:=P,N:=N,M0:=M,S:=λ_=>False,pb:=λ_=>none,w0:=w}) gV (λd L' e w' f _ hd hq=>j d e w' hq (rA f) f.1.ext hd) g (h.sim i) (aL.refl (h.sim (P:=P) i).1) rfl k
theorem Gq{rest:List Oper}{c:Call}{y:Operand}{Q:Exit->Act->World->Prop}{R:Ending->World->Prop}(r:Region.wanted o (yielded ops a.tmps)=true)(q:o.op=.call c)(j:c.callee=.value f)(b:c.args=#[x,y])
 (hf:a.eval f=.func (.yield l) #[] #[])(s:YieldAt Fence.wide (n-1) P l #[a.eval x,a.eval y] w R)
 (g:∀e w',R e w'->∃v,e=.returned v/\wpListIn Fence.wide n P ops Q rest (a.put o.dst v) w'):wpListIn Fence.wide n P ops Q (o::rest) a w:=by
 obtain⟨fn,tmps,assign,body,k,d⟩:=s;unfold wpListIn;rw[VS r];refine⟨λ_ _=>trivial,?_⟩;show o.uponIn Fence.wide n P a _ Q ((o.semAt none a.eval).run P w);rw[Oper.semAt_none]
 have i:(execOp a.eval o).run P w=.ok (.round l fn tmps assign body) w:=by
  generalize a.eval=ρ at hf k;unfold execOp;rw[q];obtain⟨m,u,at_⟩:=c;simp only at j b;subst j;subst b;simp[resolve,hf,invoke,go_sem,k]
 rw[i];refine⟨λh=>(by cases h),d.mono ?_⟩;intro e w' p;obtain⟨v,rfl,h⟩:=g e w' p;exact h
def Cs(P:Program)(gf:FuncId)(caps:List PV)(xs:List PV):Prop:=
 dm P gf=true/\∀(n l:Nat)(lb:List Value)(W:World)(M:Nat->Nat->Prop)(J d:Nat->(Nat->Nat->Prop)->World->Prop),
  (∀i M W,J i M W->∀b o,M b o->b<W.heap.size)->(∀i M W a,J i M W->Ext (λ_=>False) W a->J i M a)->
  (∀i M W,d i M W->∀b o,M b o->b<W.heap.size)->(∀i M W a,d i M W->Ext (λ_=>False) W a->d i M a)->
  (∀m i x M W f,xs[i]?=some x->J i M W->Rep W M x f->YieldAt Fence.wide m P l #[f] W λe a=>∃(b:Bool)(c:Nat->Nat->Prop),e=.returned (.bool b)/\(if b=true then J (i+1) c a else d i c a)/\Pres W M a c)->
  J 0 M W->cy W M caps lb->CallsIn Fence.wide n P gf (#[.func (.yield l) #[] #[]]++lb.toArray) W λe a=>(∃v,e=.returned v)/\((∃c,J xs.length c a)\/∃i c,i<xs.length/\d i c a)
def mX(t:Nat->AV)(p:Nat)(x:PV):Nat->AV:=ag t p (.pv x)
theorem MemL.kill{L:Nat->Loc}(ks:List Nat)(g:MemL C L st.h w):MemL C L (st.kill ks).h w/\∀b o,ae C L (st.kill ks).h b o->ae C L st.h b o:=by
 have d:∀k a,(st.kill ks).h k=some a->∃c,st.h k=some c/\bG ks c=a/\a.live (L k)=c.live (L k)/\∀o,a.frz o=c.frz o:=by
  intro k a f;simp only[St.kill]at f;split at f
  .cases f
  .simp only[VK]at f
   obtain⟨c,h1,rfl⟩:=f;exact⟨c,h1,rfl,by cases c<;>rfl,λo=>by cases c<;>rfl⟩
 have F:∀b o,ae C L (st.kill ks).h b o->ae C L st.h b o:=by
  rintro b o (R|⟨k,a,f,A,U,hf⟩)
  .exact .inl R
  .obtain⟨c,h1,_,S,T⟩:=d k a f
   exact .inr ⟨k,c,h1,S▸A,U,T o▸hf⟩
 have hp:Pres w (ae C L st.h) w (ae C L (st.kill ks).h):=Pres.sub F;refine⟨⟨g.ext,g.m0,?_,?_,?_⟩,F⟩
 .intro k a f
  obtain⟨c,h1,rfl,_,_⟩:=d k a f;have:=g.bl k c h1
  cases c with
  |box Q own y=>
   obtain⟨arr,Y,v,m⟩:=this;refine⟨arr,Y,v,by simpa using m.1,λi p u l E=>?_⟩;simp only[VN,VK]at l;obtain⟨q,hq,rfl⟩:=l;exact wC hp (m.2 i q u hq E)
  |row e sz xs y=>
   obtain⟨H,I,a3,a4,J⟩:=this;refine⟨H,I,a3,a4,λhn=>?_⟩;obtain⟨r,s,arr,K,M,N⟩:=J hn;exact⟨r,s,arr,K,M,λi x j p X V=>by obtain⟨u,E,W⟩:=N i x j p X V;exact⟨u,E,W.mono hp⟩⟩
  |mp kd n Z y=>exact this
 .intro k G r s D f z A B
  obtain⟨O,d1,_,v,_⟩:=d k r f;obtain⟨P,d2,_,m,_⟩:=d G s z;exact g.sep k G O P D d1 d2 (v▸A) (m▸B)
 .intro k a f
  obtain⟨c,h1,rfl,_,_⟩:=d k a f;have:=g.own k c h1
  cases c with
  |box Q own y=>cases own<;>exact this
  |row=>exact this
  |mp=>exact this
def Hn(kd:List Nat)(I:Nat->Hp->Prop)(a:Nat->Hp->Prop)(i:Nat):Exit->St->Prop
 |.normal,st=>I (i+1) (st.kill kd).h
 |.ret,st=>a i st.h
 |_,_=>False
theorem Ho(hg:a.eval gop=.func (.func gf) #[] lb.toArray)
 {caps:List PV}{xs:List PV}(hit:Cs P gf caps xs){M:Nat->Nat->Prop}(hM:∀b o,M b o->b<w.heap.size)(ch:cy w M caps lb)
 {ks:List Nat}{Q:Nat->Nat}{hin:Nat->List PV}(R:∀k∈ks,(∀o,M (Q k) o)/\ld w M (Q k) (hin k))(ck:∀k∈ks,∀k'∈ks,k≠k'->Q k≠Q k')
 (hN:a.tmps.size=N)(hp:p<N){t:Nat->AV}(ht:∀m,(∃k∈ks,t m=.ptr k 0/\a.tmps.getD m undef=.pointer (some ⟨Q k,0,none⟩))\/(∃q,t m=.pv q/\Rep w M q (a.tmps.getD m undef))\/t m=.undef)
 (I Ix:Nat->Hp->Prop)(h0:I 0 (kO ks hin))(hI:∀i h k,k∈ks->I i h->∃cs,h k=some (.box cs false false))(cr:∀i h k,k∈ks->Ix i h->∃cs,h k=some (.box cs false false))
 (ar:∀(C C':Cx)(l i:Nat)(x:PV)(h:Hp),C.P=P->C.N=N->C'.P=P->C'.N=N->xs[i]?=some x->I i h->
   aI (Fence.wide.inRound l) C assign (λe c3=>e=.normal/\aI (Fence.wide.inRound l) C' body (Hn kd I Ix i) c3) ⟨mX t p x,h⟩):
 (Code.rangeFunc gop #[p] assign body).wpIn Fence.wide n P (λe a' w'=>∃(C:Cx)(L:Nat->Loc)(h:Hp)(D:Nat),((e=.normal/\I xs.length h)\/(e=.ret/\∃i,i<xs.length/\Ix i h))/\C.P=P/\C.N=N/\C.M0=M/\(∀b,C.S b->∃k∈ks,b=Q k)/\
   MemL C L h w'/\(∀k∈ks,(L k).b=Q k)/\(∀q v,Rep w M q v->Rep w' (ae C L h) q v)/\Ext (λ_=>False) w C.w0/\C.w0.heap[D]?=some (.deferred (some []))/\¬C.S D/\w.heap.size<=D/\a'={a with defers:={target:=.collected D,args:=#[]}::a.defers}) a w:=by
 refine wpIn_rangeFunc ?_;intro fn _;obtain⟨d,j⟩:∃d:LoopState->Option Code->Loop,d=λst pe=>{state:=st,pending:=pe,fn,tmps:=a.tmps,params:=#[p],assign,body,defers:=w.heap.size}:=⟨_,rfl⟩;obtain⟨J,Y⟩:∃J,(w.alloc (.deferred (some []))).alloc (.loop (d .ready none))=J:=⟨_,rfl⟩
 have V:Ext (λ_=>False) w J:=by rw[<-Y];exact(Ext.alloc _ _ _).trans (Ext.alloc _ _ _) (λ_ _ h=>h)
 have c5:J.heap.size=w.heap.size+2:=by rw[<-Y];simp
 have b0:J.heap[w.heap.size+1]?=some (.loop (d .ready none)):=by
  rw[<-Y];have:=World.alloc_heap_new (w.alloc (.deferred (some []))) (.loop (d .ready none));rwa [World.size_alloc]at this
 have cq:J.heap[w.heap.size]?=some (.deferred (some [])):=by
  rw[<-Y];exact(RowKit.Below.heap_alloc _ _ _ (by simp)).trans (World.alloc_heap_new w _)
 obtain⟨l,hl⟩:∃l,l=w.heap.size+1:=⟨_,rfl⟩;rw[<-hl]at b0;obtain⟨g,f⟩:∃g:Obj->Cx,g=λo=>{P:=P,N:=N,M0:=M,S:=λb=>∃k∈ks,b=Q k,pb:=λk=>if ks.contains k=true then some (Q k)else none,w0:=J.putObj l o}:=⟨_,rfl⟩
 have hS:∀o b,(g o).S b->b<w.heap.size:=by
  intro o b z;rw[f]at z;obtain⟨k,u,rfl⟩:=z;exact nK (R k u).2
 have U:∀o,(g o).w0=J.putObj l o:=λo=>by rw[f]
 have cb:∀o o' L h,ae (g o) L h=ae (g o') L h:=λo o' L h=>by rw[f];rfl
 have b3:∀(o:Obj),(g o).w0.heap[l]?=some o:=λo=>by rw[U];exact World.putObj_heap_same (Ws.1 b0).1
 have cm:∀o,¬(g o).S l:=λo h=>by have:=hS o l h;omega
 have s:∀{o o':Obj}{L:Nat->Loc}{h:Hp}{W:World},o.isCells=false->(∀arr c,o≠.map arr c)->MemL (g o) L h W->W.heap[l]?=some o/\MemL (g o') L h (W.putObj l o')/\Pres W (ae (g o) L h) (W.putObj l o') (ae (g o') L h):=by
  intro o o' L h W ho cQ O;have cB:l<(g o).w0.heap.size:=(Ws.1 (b3 o)).1;obtain⟨h1,h2⟩:=O.turn (b3 o) (cm o) ho cQ o';refine⟨(O.ext.block l cB (cm o)).trans (b3 o),?_,?_⟩
  .have e:({g o with w0:=(g o).w0.putObj l o'}:Cx)=g o':=by rw[f];simp only[vW]
   rw[e]at h1;exact h1
  .rw[cb o' o];exact h2
 have F:J.putObj l (.loop (d .ready none))=J:=yw b0
 have bb:∀{K:Nat->Hp->Prop}{o:Obj}{L:Nat->Loc}{h:Hp}{W:World}{i k:Nat},(∀i h k,k∈ks->K i h->∃cs,h k=some (.box cs false false))->k∈ks->K i h->MemL (g o) L h W->(L k).b=Q k:=by
  intro K o L h W i k hK u hi O;obtain⟨cs,hc⟩:=hK i h k u hi;have:=(O.own k _ hc).2.1;rw[f]at this
  have b5:ks.contains k=true:=by simpa using u
  simp only[b5,V8,VQ]at this;exact this.symm
 let L0:Nat->Loc:=λk=>⟨Q k,0,false⟩
 have G:∀k y,kO ks hin k=some y->k∈ks/\y=.box ((hin k).map .pv) false false:=by
  intro k y u;unfold kO at u;split at u
  .rename_i hc;injection u with u;exact⟨by simpa using hc,u.symm⟩
  .cases u
 have ct:∀o b o',ae (g o) L0 (kO ks hin) b o'->M b o':=by
  rintro o b o' (z|⟨k,y,u,_,z,_⟩)
  .rw[f]at z;exact z
  .obtain⟨A,_⟩:=G k y u
   rw[<-z];exact(R k A).1 o'
 have E:Pres w M J (ae (g (.loop (d .ready none))) L0 (kO ks hin)):=Pres.ext V (λ_ _ h=>h.elim) λb o _ h=>ct _ b o h
 have cH:MemL (g (.loop (d .ready none))) L0 (kO ks hin) J:=by
  refine⟨by rw[U,F];exact Ext.refl _ _,?_,?_,?_,?_⟩
  .intro b o z
   rw[U,F];rw[f]at z;have:=hM b o z;omega
  .intro k y u
   obtain⟨A,rfl⟩:=G k y u;obtain⟨arr,ty,e1,e2⟩:=(R k A).2;exact⟨arr,ty,(V.block _ (nK (R k A).2) (λh=>h)).trans e1,aE.map_pv (e2.mono E)⟩
  .intro k k' b1 b2 cS u ad _ _
   exact ck k (G k b1 u).1 k' (G k' b2 ad).1 cS
  .intro k y u
   obtain⟨A,rfl⟩:=G k y u
   have b5:ks.contains k=true:=by simpa using A
   refine⟨rfl,?_,?_,?_,?_⟩
   .rw[f];simp only[b5,V8];rfl
   .rw[f];exact⟨k,A,rfl⟩
   .rw[U,F];have:=nK (R k A).2;show Q k<_;omega
   .intro o;rw[f];exact(R k A).1 o
 let Jt:(Nat->Hp->Prop)->Obj->Nat->(Nat->Nat->Prop)->World->Prop:=λK o i H W=>∃L h,K i h/\MemL (g o) L h W/\H=ae (g o) L h/\(∀q v,Rep w M q v->Rep W H q v)
 refine⟨l,[{target:=.collected w.heap.size,args:=#[]}],J,{target:=.fn (.func gf) lb.toArray,args:=#[.func (.yield l) #[] #[]]},J,gf,#[.func (.yield l) #[] #[]]++lb.toArray,J,?_,?_,λ_ _=>trivial,sJ hit.1 _ _ _,λh=>(by cases h),?_⟩
 .rw[<-Y,j,hl];exact run_enterLoop_outer _ _ _ _ _
 .simp only[resolve,hg]
  simp[go_sem]
 .have cg:∀K o i H W,Jt K o i H W->∀b o',H b o'->b<W.heap.size:=by
   rintro K o i H W ⟨L,h,_,O,rfl,_⟩ b o' z;exact O.mlt z
  have cj:∀K o i H W W',Jt K o i H W->Ext (λ_=>False) W W'->Jt K o i H W':=by
   rintro K o i H W W' ⟨L,h,hi,O,rfl,hq⟩ hx;exact⟨L,h,hi,(O.grow hx).1,rfl,λq v hr=>(hq q v hr).mono (O.grow hx).2⟩
  refine(hit.2 (n-1) l lb J _ (Jt I (.loop (d .ready none))) (Jt Ix (.loop (d .done (some .ret)))) (cg _ _) (cj _ _) (cg _ _) (cj _ _) ?_ ⟨L0,_,h0,cH,rfl,λq v hr=>hr.mono E⟩ (ch.mono E)).mono ?_
  .
   rintro m i x H W v1 c2 ⟨L,h,hi,O,rfl,hq⟩ c0;obtain⟨cz,_,_⟩:=s (o':=.loop (d .ready none)) rfl (by intro _ _ h;cases h) O;have hy:=run_yield (P:=P) (args:=#[v1]) cz (by rw[j];rfl);rw[j]at hy;refine⟨fn,a.tmps.setIfInBounds p v1,assign,body,by simpa using hy,roundIn_of_wpIn trivial ?_⟩
   have cp:ij (g (.loop (d .ready none))) L ⟨mX t p x,h⟩ {tmps:=a.tmps.setIfInBounds p v1,defers:=[]} W:=by
    refine⟨O,by rw[f];simpa using hN,λk=>?_⟩
    have cU:p<a.tmps.size:=by rw[hN];exact hp
    simp only[za cU,mX,ag];split
    .exact .pv c0
    .rcases ht k with⟨k',ad,e1,e2⟩|⟨q,e1,e2⟩|e1
     .obtain⟨cs,hc⟩:=hI i h k' ad hi
      rw[e1,e2,<-bb hI ad hi O];exact .ptr hc
     .rw[e1];exact .pv (hq q _ e2)
     .rw[e1];exact .undef _
   have cd:(g (.loop (d .ready none))).P=P:=by rw[f]
   have cf:(g (.loop (d .busy none))).P=P:=by rw[f]
   have hR:=ar (g (.loop (d .ready none))) (g (.loop (d .busy none))) l i x h cd (by rw[f]) cf (by rw[f]) c2 hi m L _ W cp;rw[cd]at hR;refine wpIn_mono hR ?_;rintro e a1 w1 ⟨c4,L1,Z,b9,_,rfl,b4⟩;obtain⟨cw,cM,b8⟩:=s (o':=.loop (d .busy none)) rfl (by intro _ _ h;cases h) Z.1;refine⟨w1.putObj l (.loop (d .busy none)),?_,?_⟩
   .have:=run_beginRound (P:=P) cw (by rw[j])
    rw[j]at this|-;exact this
   have c1:ij (g (.loop (d .busy none))) L1 c4 a1 (w1.putObj l (.loop (d .busy none))):=⟨cM,by have:=Z.2.1;rw[f]at this|-;exact this,λk=>(Z.2.2 k).mono b8 (KC.refl _ _)⟩;have hB:=b4 m L1 a1 _ c1;rw[cf]at hB;refine wpIn_mono hB ?_;rintro e2 a2 w2 ⟨X,L2,cn,ca,_,T⟩
   cases e2 with
   |normal=>
    obtain⟨B,b7,hpr⟩:=s (o':=.loop (d .ready none)) rfl (by intro _ _ h;cases h) cn.1
    have e:(Obj.loop {d .busy none with state:=if(none:Option Code).isNone=true then .ready else .done,pending:=none})=.loop (d .ready none):=by rw[j];rfl
    have r:Pres W (ae (g (.loop (d .ready none))) L h) (w2.putObj l (.loop (d .ready none))) (ae (g (.loop (d .ready none))) L2 X.h):=((b9.2.1.trans b8).trans ca.2.1).trans hpr;obtain⟨cP,cu⟩:=b7.kill kd;have r:=r.trans (Pres.sub cu);refine⟨_,_,run_endRound none B,true,ae (g (.loop (d .ready none))) L2 (X.kill kd).h,rfl,?_,?_⟩
    .rw[VS rfl,e]
     exact⟨L2,(X.kill kd).h,T,cP,rfl,λq v hr=>(hq q v hr).mono r⟩
    .rw[e];exact r
   |ret=>
    obtain⟨B,b7,hpr⟩:=s (o':=.loop (d .done (some .ret))) rfl (by intro _ _ h;cases h) cn.1
    have e:(Obj.loop {d .busy none with state:=if(some Code.ret).isNone=true then .ready else .done,pending:=some .ret})=.loop (d .done (some .ret)):=by rw[j];rfl
    have r:Pres W (ae (g (.loop (d .ready none))) L h) (w2.putObj l (.loop (d .done (some .ret)))) (ae (g (.loop (d .done (some .ret)))) L2 X.h):=((b9.2.1.trans b8).trans ca.2.1).trans hpr;refine⟨_,_,run_endRound (some .ret) B,false,ae (g (.loop (d .done (some .ret)))) L2 X.h,rfl,?_,?_⟩
    .rw[VM (by simp),e]
     exact⟨L2,X.h,T,b7,rfl,λq v hr=>(hq q v hr).mono r⟩
    .rw[e];exact r
   |exit=>exact T.elim
   |goto=>exact T.elim
   |panic=>exact T.elim
   |outgrown=>exact T.elim
  .
   have ba:∀(K:Nat->Hp->Prop)(o:Obj)(st:LoopState)(pe:Option Code)(i:Nat)(H:Nat->Nat->Prop)(W2:World),o=.loop (d st pe)->(∀i h k,k∈ks->K i h->∃cs,h k=some (.box cs false false))->Jt K o i H W2->
    W2.heap[l]?=some o/\∃(C:Cx)(L:Nat->Loc)(h:Hp)(D:Nat),K i h/\C.P=P/\C.N=N/\C.M0=M/\(∀b,C.S b->∃k∈ks,b=Q k)/\
     MemL C L h (W2.putObj l (.loop (d .exhausted pe)))/\(∀k∈ks,(L k).b=Q k)/\(∀q v,Rep w M q v->Rep (W2.putObj l (.loop (d .exhausted pe))) (ae C L h) q v)/\Ext (λ_=>False) w C.w0/\C.w0.heap[D]?=some (.deferred (some []))/\¬C.S D/\w.heap.size<=D/\D=w.heap.size:=by
    rintro K o st pe i H W2 rfl hK ⟨L,h,hi,O,rfl,hq⟩;obtain⟨B,cN,cV⟩:=s (o':=.loop (d .exhausted pe)) rfl (by intro _ _ h;cases h) O;refine⟨B,g (.loop (d .exhausted pe)),L,h,w.heap.size,hi,by rw[f],by rw[f],by rw[f],?_,cN,λk u=>bb hK u hi O,λq v hr=>(hq q v hr).mono cV,?_,?_,?_,VU _,rfl⟩
    .intro b z
     rw[f]at z;exact z
    .rw[U]
     refine⟨V.os,V.tape,V.output,by simp;omega,λb z _=>?_⟩;rw[World.putObj_heap_other (by omega)];exact V.block b z (λh=>h)
    .rw[U,World.putObj_heap_other (by omega)];exact cq
    .intro z
     have:=hS _ _ z;omega
   rintro e W2 ⟨⟨v,rfl⟩,⟨H,hj⟩|⟨i,H,hi,hj⟩⟩
   .obtain⟨B,C,L,h,D,a1,a2,a3,a4,a5,a6,a7,bH,a8,a9,bc,bq,rfl⟩:=ba I _ _ _ _ _ _ rfl hI hj
    refine⟨none,W2.putObj l (.loop (d .exhausted none)),?_,C,L,h,_,.inl ⟨rfl,a1⟩,a2,a3,a4,a5,a6,a7,bH,a8,a9,bc,bq,rfl⟩;have:=run_endLoop (P:=P) B (by rw[j];simp);rw[j]at this|-;exact this
   .obtain⟨B,C,L,h,D,a1,a2,a3,a4,a5,a6,a7,bH,a8,a9,bc,bq,rfl⟩:=ba Ix _ _ _ _ _ _ rfl cr hj
    refine⟨some .ret,W2.putObj l (.loop (d .exhausted (some .ret))),?_,wpIn_ret ⟨C,L,h,_,.inr ⟨rfl,i,hi,a1⟩,a2,a3,a4,a5,a6,a7,bH,a8,a9,bc,bq,rfl⟩⟩;have:=run_endLoop (P:=P) B (by rw[j];simp);rw[j]at this|-;exact this
theorem yk{c:Cx}{res:PV}{g i:St}{y a3:Act}{v d:World}{x T:Nat->Loc}{D:Nat}{ks:List Nat}{U:Nat->Nat}{hin:Nat->List PV}(l:∀b,¬C.S b)(r:ij C x g y v)(I:∀k∈ks,g.h k=some (.box ((hin k).map .pv) true false))(G:∀k∈ks,U k=(x k).b)
 (L:Ao C.P y.defers)(q:c.P=C.P)(A:c.M0=ae C x g.h)(B:∀b,c.S b->∃k∈ks,b=U k)(R:Ext (λ_=>False) v c.w0)(f:c.w0.heap[D]?=some (.deferred (some [])))(e:¬c.S D)(W:v.heap.size<=D)
 (a:ij c T i a3 d)(H:a3.defers={target:=.collected D,args:=#[]}::y.defers)(M:jA C.P fn.results.toList [] (.pv res) i):LeavesInM Fence.wide n C.P fn a3.tmps (Na C res) a3.defers .returning d:=by
 rw[H];have p:D<c.w0.heap.size:=(Ws.1 f).1;have z:d.heap[D]?=some (.deferred (some [])):=(a.1.ext.block D p e).trans f;obtain⟨J,K⟩:=a.1.turn f e rfl (by intro _ _ h;cases h) (.deferred none);have N:ij {c with w0:=c.w0.putObj D (.deferred none)} T i a3 (d.putObj D (.deferred none)):=⟨J,a.2.1,λm=>(a.2.2 m).mono K (KC.refl _ _)⟩;obtain⟨u,O,Q⟩:=Fe N (fn:=fn) (res:=res) (by show jA c.P _ _ _ _;rw[q];exact M)
 have s:(results fn a3.tmps).run C.P (d.putObj D (.deferred none))=.ok u (d.putObj D (.deferred none)):=by rw[<-q];exact O
 refine⟨by simp,.inl ⟨D,_,rfl,run_takeDeferred z,sM L s ⟨u,rfl,?_,?_⟩⟩⟩
 .have V:Ext (λ_=>False) C.w0 v:=uU l r.1.ext
  have j:Ext (λ_=>False) C.w0 c.w0:=V.trans R (λ_ _ h=>h);have Y:=V.size;refine⟨?_,?_,?_,?_,?_⟩
  .show d.os=_;rw[a.1.ext.os];exact j.os
  .show d.tape=_;rw[a.1.ext.tape];exact j.tape
  .show d.output=_;rw[a.1.ext.output];exact j.output
  .simp only[World.putObj_size];exact XH j.size a.1.ext.size
  .intro b F _
   rw[World.putObj_heap_other (by omega)];rw[a.1.ext.block b (WM F j.size) ?_]
   .exact j.block b F (λh=>h)
   .intro E
    obtain⟨k,X,rfl⟩:=B b E;rw[G k X]at F;have:=r.1.own k _ (I k X);rcases this with this|this
    .omega
    .exact l _ this.1
 .refine Q.mono (Pres.sub ?_)
  intro b o h;show c.M0 b o;rw[A];exact .inl h
theorem oQ.rangeS{res:PV}(Y:∀b,¬C.S b){x:Code}{b0:Nat}(hit:Cs C.P gf caps xs)(hp:p<C.N)
 {ks:List Nat}{hin:Nat->List PV}{t:Nat->AV}
 (hx:aI Fence.wide C x (λe d=>e=.normal/\d.ev gop=.pv (.fn (.func gf) [] caps)/\(∀k∈ks,d.h k=some (.box ((hin k).map .pv) true false))/\∀m,(∃k∈ks,t m=.ptr k 0/\d.t m=.ptr k 0)\/(∃q,t m=.pv q/\d.t m=.pv q)\/t m=.undef) st)
 (I Ix:Nat->Hp->Prop)(h0:I 0 (kO ks hin))(hI:∀i h k,k∈ks->I i h->∃X,h k=some (.box X false false))(ad:∀i h k,k∈ks->Ix i h->∃X,h k=some (.box X false false))
 (B:∀(C1 J:Cx)(l i:Nat)(x:PV)(h:Hp),C1.P=C.P->C1.N=C.N->J.P=C.P->J.N=C.N->xs[i]?=some x->I i h->
   aI (Fence.wide.inRound l) C1 assign (λe d=>e=.normal/\aI (Fence.wide.inRound l) J body (Hn kd I Ix i) d) ⟨mX t p x,h⟩)
 (b7:rz ops=true){hn:List Nat}(T:∀h,I xs.length h->dP C.P hn C.N ops (λd=>jA C.P fn.results.toList [] (.pv res) d) ops.toList ⟨t,h⟩)
 (R:∀i h,i<xs.length->Ix i h->jA C.P fn.results.toList [] (.pv res) ⟨t,h⟩):
 oQ C fn (.pv res) (.seq (.seq x (.block b0 (.rangeFunc gop #[p] assign body))) (.seq (.region id ops false) .ret)) st:=by
 intro n L a w hs ca;refine wpIn_seq (wpIn_seq (wpIn_mono (hx n L a w hs) ?_));rintro e j w1 ⟨V,W,c,cg,b2,rfl,hg,s,bc⟩;have K:=dn c.2.2 gop;rw[hg]at K
 obtain⟨us,cf,a8⟩:∃us:List Value,j.eval gop=.func (.func gf) #[] us.toArray/\cy w1 (ae C W V.h) caps us:=by
  generalize j.eval gop=u at K
  cases K with
  |pv f=>
   cases f with
   |fn _ _ _ vs us hl g h1 y=>
    have:vs=[]:=Wq hl.symm;subst this;exact⟨us,rfl,g,y⟩
 have b1:∀k∈ks,(∀o,ae C W V.h (W k).b o)/\ld w1 (ae C W V.h) (W k).b (hin k):=by
  intro k g;obtain⟨arr,ty,z,A⟩:=c.1.bl k _ (s k g);exact⟨λo=>.inr ⟨k,_,s k g,trivial,rfl,by simp[Blk.frz]⟩,arr,ty,z,A.map_pv_inv⟩
 have H:Ao C.P j.defers:=by rw[b2];exact ca
 refine wpIn_block (wpIn_mono (Ho (N:=C.N) cf hit (λb o h=>c.1.mlt h) a8 b1 (λk g k' b4 b8=>c.1.sep k k' _ _ b8 (s k g) (s k' b4) trivial trivial) c.2.1 hp (t:=t) ?_ I Ix h0 hI ad B) ?_)
 .intro m
  rcases bc m with⟨k,g,z,A⟩|⟨q,z,A⟩|e
  .have f:=c.2.2 m
   rw[A]at f;generalize hv:j.tmps.getD m undef=v at f
   cases f with
   |ptr _=>exact .inl ⟨k,g,z,rfl⟩
  .have f:=c.2.2 m
   rw[A]at f
   cases f with
   |pv f=>exact .inr (.inl ⟨q,z,f⟩)
  .exact .inr (.inr e)
 rintro e a2 w2 ⟨J,L2,y,D,F,r,a5,ar,a6,b5,bH,b9,bq,Z,G,E,rfl⟩
 have a7:∀k∈ks,∃X,y k=some (.box X false false):=by
  intro k g;rcases F with⟨_,hi⟩|⟨_,i,_,hi⟩
  .exact hI _ y k g hi
  .exact ad _ y k g hi
 have O:ij J L2 ⟨t,y⟩ {j with defers:={target:=.collected D,args:=#[]}::j.defers} w2:=by
  refine⟨b5,by rw[a5];exact c.2.1,λm=>?_⟩;show RepA w2 (ae J L2 y) L2 y (t m) (j.tmps.getD m undef);rcases bc m with⟨k,g,z,A⟩|⟨q,z,A⟩|e
  .have f:=c.2.2 m
   rw[A]at f;obtain⟨X,hc⟩:=a7 k g
   have hv:j.tmps.getD m undef=.pointer (some ⟨(W k).b,0,none⟩):=by
    generalize j.tmps.getD m undef=v at f
    cases f with
    |ptr _=>rfl
   rw[z,hv,<-bH k g];exact .ptr hc
  .have f:=c.2.2 m
   rw[A]at f;rw[z]
   cases f with
   |pv f=>exact .pv (b9 q _ f)
  .rw[e];exact .undef _
 rcases F with⟨rfl,M⟩|⟨rfl,i,bb,M⟩
 .show Code.wpIn Fence.wide n C.P _ _ _ w2
  refine wpIn_seq (wpIn_region_list ?_);have U:=T y M;rw[<-r,<-a5]at U;rw[r]at U;have ba:=λQ' bs=>i8 (C:=J) (Q:=λd=>jA C.P fn.results.toList [] (.pv res) d) (Q':=Q') (hn:=hn) (ops:=ops) gV (n:=n) bs (λ_ ho=>me b7 ho) O (aL.refl O.1) rfl (by rw[r];exact U);rw[r]at ba;refine ba _ ?_;intro ch L3 a3 w3 cd _ b3 cb;refine wpIn_ret ?_;exact yk Y c s (λ_ _=>rfl) H r ar a6 bq Z G E cd b3 cb
 .show LeavesInM Fence.wide n C.P fn j.tmps (Na C res) ({target:=.collected D,args:=#[]}::j.defers) .returning w2
  exact yk (a3:={j with defers:={target:=.collected D,args:=#[]}::j.defers}) Y c s (λ_ _=>rfl) H r ar a6 bq Z G E O rfl (R i y bb M)
theorem F8(h:Hp)(ks:List Nat)(k:Nat)(b:Blk):rekey h ks k b k=some b:=VS rfl
section
variable {C:Cx} {L:Nat->Loc} {h1 h:Hp} {w:World}
theorem MemL.loosen(g:MemL C L h w)(ks:List Nat)(f:Nat->Bool):
 MemL C L (λq=>if f q=true then(h q).map (bG ks)else h q) w/\KC L h L (λq=>if f q=true then(h q).map (bG ks)else h q)/\
  Pres w (ae C L h) w (ae C L (λq=>if f q=true then(h q).map (bG ks)else h q)):=by
 let r:Hp:=λq=>if f q=true then(h q).map (bG ks)else h q
 have get:∀{q b},r q=some b->∃a,h q=some a/\(b=a\/b=bG ks a):=by
  grind [Option.map_eq_some_iff]
 have x:∀{b a:Blk}{l:Loc},(b=a\/b=bG ks a)->b.live l=a.live l:=by
  grind [uy]
 have F:∀{b a:Blk}{o:Nat},(b=a\/b=bG ks a)->b.frz o=a.frz o:=by
  grind [Bz]
 have H:∀b o,ae C L r b o->ae C L h b o:=by
  rintro b o (G|⟨q,B,hq,k,e,hf⟩)
  .exact .inl G
  .obtain⟨a,c,d⟩:=get hq
   rw[x d]at k;rw[F d]at hf;exact .inr ⟨q,a,c,k,e,hf⟩
 have hp:Pres w (ae C L h) w (ae C L r):=Pres.sub H
 have j:KC L h L r:=by
  intro q b hq
  grind [bG,wA,dg]
 refine⟨⟨g.ext,g.m0,?_,?_,?_⟩,j,hp⟩
 .intro q b hq
  obtain⟨a,c,d⟩:=get hq;have e:=(g.bl q a c).mono hp j (λ_=>rfl);rcases d with rfl|rfl
  .exact e
  .cases a with
   |box M own N=>
    obtain⟨arr,J,y,A,a3⟩:=e;refine⟨arr,J,y,by simpa using A,λi p u n O=>?_⟩;simp only[VN,VK]at n;obtain⟨z,P,rfl⟩:=n;unfold az;split
    .exact .undef _
    grind
   |row=>exact e
   |mp=>exact e
 .intro q I B K s hq v k m
  obtain⟨D,c,d⟩:=get hq;obtain⟨E,d1,d2⟩:=get v;rw[x d]at k;rw[x d2]at m;exact g.sep q I D E s c d1 k m
 .intro q b hq
  obtain⟨a,c,d⟩:=get hq;rcases d with rfl|rfl
  .exact g.own q _ c
  .exact BA (g.own q a c)
end
theorem zL(w:World)(t ty e l:TypeId)(i:TypeInfo)(r:P.underlying t=some (.slice e))(hi:P.info? e=some i)(g n cap:Nat)(b:Array Value)(p:w.heap[g]?=some (.cells b l (0,0)))
 (a:Addr)(m c:Nat)(news:List Value)(q:news.length=m*i.size)(d:∀j u,news[j]?=some u->w.cell? (a.add j)=some u)(h1:∀u∈news,u.oneCell'=true)(f:n+m<=cap)(k:n*i.size+news.length<=b.size):
 (Builtin.append_ #[t,t] ty #[.slice (some ⟨g,0,none⟩) n cap,.slice (some a) m c]).run P w=.ok (.slice (some ⟨g,0,none⟩) (n+m) cap) (w.setRow g (b.toList.take (n*i.size)++news++b.toList.drop (n*i.size+news.length)).toArray):=by
 have s:=run_firstCells_some (P:=P) w i.size m a m c news q d;have o:=run_storeCells_at P g (n*i.size) l news 0 b w p (by simpa using k) h1;rw[X9]at o;simp[Builtin.append_,run_underlying r,sizeOf,typeInfo,hi,Builtin.lenOf,f,s,Addr.add_lit,o]
section
variable {C:Cx} {Q:Exit->St->Prop} {st:St}
def KZ(C:Cx)(hn:List Nat)(ops:Array Oper)(Q:St->Prop)(t:TypeId)(s x:Operand)(d:Nat)(post:List Oper)(st:St):Prop:=
 ∃k n r A z f b e a,st.ev s=.ext (.barr k n (n+r))/\st.h k=some (.box (A++List.replicate r (.pv (.val z))) true false)/\A.length=n/\(∀y∈A,bC [k] y=false)/\
  gm st.h (st.ev x)=some a/\a.all (qJ 1)=true/\(∀y∈a,y.cells=[y])/\0<a.length/\al C.P t=some e/\e.kind=.slice f 1 b (some z)/\z.cells=#[z]/\(n+a.length)*b<=140737488355328/\n+a.length<=9223372036854775807/\k<2000000/\d<C.N/\d<2000000/\
  ∀c,dP C.P hn C.N ops Q post (St.put ⟨λm=>az [k] (st.t m),rekey st.h [k] k (.box (A++a.map .pv++List.replicate c (.pv (.val z))) true false)⟩ (some d) (.ext (.barr k (n+a.length) (n+a.length+c))) [])
theorem WP.appB{t:TypeId}(b3:ops.toList=pre++o::post)(b2:o.op=.call {callee:=.builtin .append,args:=#[s,x],argTypes:=#[t,t]})(hd:o.dst=some d)(hg:o.guard=none)
 (hq:dP C.P hn C.N ops (KZ C hn ops (Q .normal) t s x d post) pre st):WP C (.region id ops false) Q st:=by
 intro a w hs;refine wp_region_list ?_;rw[b3];refine iX (λf a1 E cx cu=>?_) hs hq;obtain⟨k,n,r,A,z,et,eb,ti,B,cz,hk,hA,ad,cP,cr,a2,cN,cH,cn,cQ,S,c2,cm,ch,cg,H⟩:=cu;obtain⟨L,hm,hN,cj,ht⟩:=cx;refine wpList_step (λK hK=>?_);rw[lh hg,VS rfl];obtain⟨Z,jt,hj,O,rfl,ck⟩:=dV cH cn;have b7:=dn ht s;rw[cz]at b7
 have Y:∀u,RepA E (ae C L f.h) L f.h (.ext (.barr k n (n+r))) u->u=.slice (some ⟨(L k).b,0,none⟩) n (n+r):=by
  intro u G
  cases G with
  |ext hx=>cases hx with
   |barr _ _=>rfl
 have Y:=Y _ b7;obtain⟨Ad,c,b9,c3,cf⟩:=pM hm (λ_ _ h=>h) (dn ht x) cP cr;obtain⟨b,o9,rfl,news,n1,n2,n3,n4⟩:=cf cN;rw[XF]at n1
 have J:∀j u,news[j]?=some u->E.cell? ((⟨b,o9,none⟩:Addr).add j)=some u:=λj u G=>by rw[fo];exact n2 j u G
 obtain⟨arr,ty,ha,hl,hr⟩:=hm.bl k _ hk;have cV:arr.toList.length=arr.size:=WZ
 have bc:arr.size=n+r:=by
  grind
 have b1:∀(i:Nat) y,B[i]?=some y->y.cells=[y]:=λi y hy=>a2 y (Is hy)
 have bH:∀(i:Nat) y,B[i]?=some y->∃v,news[i]?=some v/\Rep E (ae C L f.h) y v:=by
  intro i y hy;obtain⟨v,h1,h2⟩:=n4 i y 0 y hy (by rw[b1 i y hy];rfl)
  grind
 have body:∀{w':World}{M':Nat->Nat->Prop}{L':Nat->Loc}{h':Hp}{rest:List Value}{g:Nat},Pres E (ae C L f.h) w' M'->(∀(i:Nat) y u,A[i]?=some y->RepA E (ae C L f.h) L f.h y u->RepA w' M' L' h' y u)->
  rest=List.replicate g z->aE w' M' L' h' (A++B.map .pv++List.replicate g (.pv (.val z))) (arr.toList.take n++news++rest):=by
  intro w' M' L' h' rest g hp cd H;subst H;refine aE.append (aE.append ⟨?_,?_⟩ ⟨by simp[n1],?_⟩) ⟨by simp,?_⟩
  .simp[hA];omega
  .intro i p u F G
   have hi:i<n:=by rw[<-hA];exact(th.1 F).1
   rw[Wk,VS hi]at G;exact cd i p u F (hr i p u (by rw[VO (by omega)];exact F) G)
  .intro i p u F G
   simp only[VN,VK]at F;obtain⟨y,hy,rfl⟩:=F;obtain⟨v,h1,h2⟩:=bH i y hy;rw[h1]at G;injection G with G;subst G;exact .pv (h2.mono hp)
  .intro i p u F G
   have hi:i<g:=by simpa using(th.1 F).1
   rw[Wn,VS hi]at F G;injection F with F;injection G with G;subst F;subst G;exact .pv (.val _)
 have ba:∀{v:Value}{w':World},(Builtin.append_ #[t,t] o.type #[a1.eval s,a1.eval x]).run C.P E=.ok v w'->(execOp a1.eval o).run C.P E=.ok (.value v) w':=by
  intro v w' I;obtain⟨cb,op,ca,pos,after,guard⟩:=o;simp only at b2 I;subst b2;have cM:execOp a1.eval ⟨cb,.call ⟨.builtin .append,#[s,x],#[t,t]⟩,ca,pos,after,guard⟩=builtin .append #[t,t] ca ((#[s,x]:Array Operand).map λ|.const _=>true|_=>false) ((#[s,x]:Array Operand).map a1.eval):=rfl;rw[cM];simp[builtin,I]
 have key:∃g L' w',(execOp a1.eval o).run C.P E=.ok (.value (.slice (some ⟨(L' k).b,0,none⟩) (n+B.length) (n+B.length+g))) w'/\
  MemL C L' (rekey f.h [k] k (.box (A++B.map .pv++List.replicate g (.pv (.val z))) true false)) w'/\
  (∀{y:AV}{u:Value},RepA E (ae C L f.h) L f.h y u->RepA w' (ae C L' (rekey f.h [k] k (.box (A++B.map .pv++List.replicate g (.pv (.val z))) true false))) L' (rekey f.h [k] k (.box (A++B.map .pv++List.replicate g (.pv (.val z))) true false)) (az [k] y) u):=by
  by_cases a6:n+B.length<=n+r
  .have D:=zL (P:=C.P) E t o.type et ty jt Z hj (L k).b n (n+r) arr ha ⟨b,o9,none⟩ B.length c news (by rw[n1,O,XF]) J n3 a6 (by rw[O,bc];omega)
   obtain⟨g,X⟩:∃g,n+r=n+B.length+g:=⟨r-B.length,by omega⟩;rw[O,XF,n1]at D
   have ar:arr.toList.drop (n+B.length)=List.replicate g z:=by
    apply WA;intro i;rw[WO,Wn];by_cases hi:i<g
    .rw[VS hi]
     have cp:n+B.length+i<arr.toList.length:=by omega
     have hg:arr.toList[n+B.length+i]?=some arr.toList[n+B.length+i]:=an cp
     have hc:(A++List.replicate r (AV.pv (PV.val z)))[n+B.length+i]?=some (.pv (.val z)):=by
      rw[VR (by omega),Wn,VS (by omega)]
     have:=hr _ _ _ hc hg
     cases this with
     |pv I=>rw[hg,aU I]
    .rw[VM hi]
     exact VW (by omega)
   rw[ar]at D
   have hw:∀b',b'<E.heap.size->((Blk.box (A++List.replicate r (.pv (.val z))) true false).live (L k)->b'≠(L k).b)->(E.setRow (L k).b (arr.toList.take n++news++List.replicate g z).toArray).heap[b']?=E.heap[b']?:=
    λb' _ hb=>setRow_other E _ b' _ (hb trivial)
   have hpr:∀o v,(Blk.box (A++List.replicate r (.pv (.val z))) true false).live (L k)->(Blk.box (A++List.replicate r (.pv (.val z))) true false).frz o->E.cell? ⟨(L k).b,o,none⟩=some v->
    (E.setRow (L k).b (arr.toList.take n++news++List.replicate g z).toArray).cell? ⟨(L k).b,o,none⟩=some v:=by
    intro q v _ hf _;simp[Blk.frz]at hf
   have a8:em (.box (A++List.replicate r (.pv (.val z))) true false) (L k) (.box (A++B.map .pv++List.replicate g (.pv (.val z))) true false) (L k):=rfl;have a5:=hm.touch_pk (blk':=.box (A++B.map .pv++List.replicate g (.pv (.val z))) true false) hk hw hpr (λo hf=>hf) a8 Xe
   obtain⟨U,V,T⟩:=hm.touch (blk':=.box (A++B.map .pv++List.replicate g (.pv (.val z))) true false) hk hw (by simp) rfl rfl rfl hpr (λo hf=>hf) a8 Xe (by have I:=hm.own k _ hk;exact I) (by
    refine⟨_,ty,setRow_heap E _ arr _ ty _ ha,?_⟩;rw[List.toList_toArray]
    exact body a5.1 (λi y u _ I=>I.mono a5.1 a5.2) rfl)
   obtain⟨bs,a7,b4⟩:=U.loosen [k] (λq=>q !=k)
   have he:(λq=>if(q !=k)=true then(ag f.h k (some (Blk.box (A++B.map .pv++List.replicate g (.pv (.val z))) true false)) q).map (bG [k])else ag f.h k (some (Blk.box (A++B.map .pv++List.replicate g (.pv (.val z))) true false)) q)=rekey f.h [k] k (.box (A++B.map .pv++List.replicate g (.pv (.val z))) true false):=by
    funext q
    by_cases e:q=k
    .subst e;simp[rekey,ag]
    .simp[rekey,ag,e]
   rw[he]at bs a7 b4;refine⟨g,L,_,ba (by rw[Y,b9,X];rw[X]at D;exact D),bs,λ{y u} I=>?_⟩;have h8:=(I.mono V T).mono b4 a7;unfold az;split
   .exact .undef _
   .exact h8
  .have D:=run_append_grow (P:=C.P) E t o.type et jt z Z hj ck ⟨(L k).b,0,none⟩ n (n+r) (arr.toList.take n) (by rw[O,XF,WD,WZ];omega)
    (λq u G=>by
      rw[fo,eY ha,WU];rw[Wk]at G;split at G
      .simpa using G
      .cases G)
    ⟨b,o9,none⟩ B.length c news (by rw[n1,O,XF]) J (by omega) (by omega) (growslice_fits (by omega) S)
   have c4:=grownCap_ge E (n+B.length) (n+r) et;obtain⟨g,X⟩:∃g,grownCap E (n+B.length) (n+r) et=n+B.length+g:=⟨grownCap E (n+B.length) (n+r) et-(n+B.length),by omega⟩
   have cS:(Builtin.zeroCells z.cells g).toList=List.replicate g z:=by
    rw[cQ];simp[Builtin.zeroCells,Nat.mod_one,List.map_const']
   rw[X,Nat.add_sub_cancel_left]at D;have b8:Ext (λ_=>False) E (E.drew.alloc (.cells ((arr.toList.take n).toArray++news.toArray++Builtin.zeroCells z.cells g) et)):=(Ext.drew _ E).trans (Ext.alloc _ _ _) (λ_ _ h=>h);obtain⟨cq,R⟩:=MemL.kill (st:=f) [k] hm
   have b0:(f.kill [k]).h k=none:=by simp[St.kill]
   have bb:KC L (f.kill [k]).h (ag L k ⟨E.heap.size,0,false⟩) (ag (f.kill [k]).h k (some (.box (A++B.map .pv++List.replicate g (.pv (.val z))) true false))):=KC.new b0;have b5:=(Pres.sub (w:=E) R).trans (oU (q:=True) (M:=ae C L (f.kill [k]).h) b8 (λ_=>VU _))
   obtain⟨U,V,T⟩:=cq.newKey (d:=k) b0 cm (l:=⟨E.heap.size,0,false⟩) (blk:=.box (A++B.map .pv++List.replicate g (.pv (.val z))) true false) b8 (λ_=>VU _) (by intro c0 c1 e;injection e with _ e2;cases e2) (by
    refine⟨_,et,j6 _ _,?_⟩;rw[Yr,Yr,cS];refine body b5 (λi y u hy I=>?_) rfl;have h8:=qQ (ks:=[k]) b5 I;rw[show az [k] y=y by unfold az;rw[VM (by rw[ad y (Is hy)];decide)]]at h8
    exact h8.mono (Pres.refl _ _) bb)
   have he:ag (f.kill [k]).h k (some (Blk.box (A++B.map .pv++List.replicate g (.pv (.val z))) true false))=rekey f.h [k] k (.box (A++B.map .pv++List.replicate g (.pv (.val z))) true false):=by
    funext q
    by_cases e:q=k
    .subst e;simp[rekey,ag]
    .simp[rekey,ag,e,St.kill]
   rw[he]at U V T;refine⟨g,ag L k ⟨E.heap.size,0,false⟩,_,ba (by rw[Y,b9,aJ];exact D),U,λ{y u} I=>?_⟩;have h8:RepA E (ae C L (f.kill [k]).h) L (f.kill [k]).h (az [k] y) u:=qQ (Pres.sub R) I;exact h8.mono V T
 obtain⟨g,L',w',D,bq,cB⟩:=key;unfold Oper.wp;rw[D];refine hK _ _ ?_;refine jg (λcU a' w' cw ct=>⟨cU,cw,ct⟩) (st:=St.put ⟨λm=>az [k] (f.t m),rekey f.h [k] k (.box (A++B.map .pv++List.replicate g (.pv (.val z))) true false)⟩ (some d) (.ext (.barr k (n+B.length) (n+B.length+g))) []) ?_ (H g);rw[hd];exact gH.put (st:=⟨λm=>az [k] (f.t m),rekey f.h [k] k (.box (A++B.map .pv++List.replicate g (.pv (.val z))) true false)⟩) bq hN cj (λm=>cB (ht m)) (d:=some d) (by simp[dv,ch,cg]) (W:=[]) (aL.refl bq) (.ext (.barr (Nat.le_add_right _ _) (F8 _ _ _ _)))
end
theorem WP.toSuf{c:Code}(s:Nat){k e sz fz:Nat}(i:st.h k=some (.row e sz xs fz))(u:st.t s=.arr k xs.length)
 (h:WP C c Q ⟨ag st.t s (.ext (.suf k 0 xs.length xs.length)),st.h⟩):WP C c Q st:=by
 intro a w r;obtain⟨L,l,hN,g,d⟩:=r;refine h a w ⟨L,l,hN,g,λn=>?_⟩;show RepA w (ae C L st.h) L st.h (ag st.t s (.ext (.suf k 0 xs.length xs.length)) n) _;unfold ag;split
 .rename_i p
  subst p;have o:=d n;rw[u]at o
  cases o with
  |arr b q v=>
   rw[i]at b;injection b with b;injection b with a1 a2 a3 a4;subst a3
   have j:∃A m c,(L k).slice xs.length=.slice A m c:=by
    unfold Loc.slice;split
    all_goals exact⟨_,_,_,rfl⟩
   have f:=v rfl;refine .ext (.suf (by rw[f];exact j) i (by omega) (VU _) (λ_=>?_));rw[f];unfold Loc.slice;rcases nG l i with⟨g1,g2⟩|⟨g1,_⟩
   all_goals grind
 .exact d n
section
variable {C:Cx} {Q:Exit->St->Prop} {st:St}
def MS(C:Cx)(hn:List Nat)(ops:Array Oper)(Q:St->Prop)(t:TypeId)(x y:Operand)(d:Nat)(post:List Oper)(st:St):Prop:=
 ∃k e a n m o i g xs c f b z,st.ev x=.ext (.suf k o n (o+n))/\st.ev y=.pv (.val (.int i (m:Nat)))/\st.h k=some (.row e a xs g)/\xs.length=o+n/\m<=n/\al C.P t=some c/\c.kind=.slice f a b z/\d<C.N/\d<2000000/\
  dP C.P hn C.N ops Q post (st.put (some d) (.ext (.suf k (o+m) (n-m) (o+n))) [])
theorem WP.suf{hn:List Nat}{id:Nat}{ops:Array Oper}{pre post:List Oper}{o:Oper}{t:TypeId}{x y:Operand}{d:Nat}(B:ops.toList=pre++o::post)(Y:o.op=.slice t x (some y) none none)(hd:o.dst=some d)(hg:o.guard=none)
 (hq:dP C.P hn C.N ops (MS C hn ops (Q .normal) t x y d post) pre st):WP C (.region id ops false) Q st:=by
 intro a w hs;refine wp_region_list ?_;rw[B];refine iX (λj G l a5 ad=>?_) hs hq;obtain⟨k,e,H,n,m,q,kk,fz,xs,ti,e',b',z',a7,bb,U,z,bs,a6,V,R,O,i⟩:=ad;obtain⟨L,X,hN,S,ht⟩:=a5;refine wpList_step (λK hK=>?_);rw[lh hg,VS rfl];have E:=dn ht x;rw[a7]at E
 have ba:∀u,RepA l (ae C L j.h) L j.h (.ext (.suf k q n (q+n))) u->∃A c,u=.slice A n c/\(((L k).isNil=false/\A=some ⟨(L k).b,q*H,none⟩/\c+q=(L k).cap)\/(n=0/\c=0/\(q=0->(L k).isNil=true/\A=none))):=by
  intro u hu
  cases hu with
  |ext hx=>cases hx with
   |suf _ g bH b0 hu=>
    rw[U]at g;injection g with g;injection g with _ a2 a3 _;subst a2;subst a3;exact hu z
 obtain⟨A,c,a8,J⟩:=ba _ E;have F:=dn ht y;rw[bb]at F
 have bc:G.eval y=.int kk (m:Nat):=by
  cases F with
  |pv hr=>exact aU hr
 obtain⟨D,jt,hj,T,_,_⟩:=dV a6 V
 have v:n<=c:=by
  rcases J with⟨g1,g2,g3⟩|⟨g1,g2,_⟩
  .rcases nG X U with⟨h9,_⟩|⟨_,h10,_⟩
   all_goals grind
  .omega
 have f:∃r s,(execOp G.eval o).run C.P l=.ok (.value (.slice r (n-m) s)) l/\(((L k).isNil=false/\r=some ⟨(L k).b,(q+m)*H,none⟩/\s+(q+m)=(L k).cap)\/(n-m=0/\s=0/\(q+m=0->(L k).isNil=true/\r=none))):=by
  have M:(0:Int)<=(m:Int)/\(m:Int)<=(n:Int):=by omega
  have key:(Instr.sliceBounds true n c (some (.int kk (m:Nat))) none none).run C.P l=.ok (m,n,c) l:=by
   simp[Instr.sliceBounds,Instr.sliceBound,asIntOf,M,v];omega
  have h2:(Instr.sliceAt t (G.eval x) (some (G.eval y)) none none).run C.P l=.ok (.slice (if c=m then A else A.map λp=>p.add (m*H)) (n-m) (c-m)) l:=by
   rw[a8,bc];simp only[Instr.sliceAt,Sem.run_bind,dJ D,Result.andThen_ok,Instr.slice,key,gG hj,Sem.run_pure,T]
  refine⟨if c=m then A else A.map λp=>p.add (m*H),c-m,by unfold execOp;rw[Y];simp[h2],?_⟩
  grind [fo,Nat.add_mul]
 obtain⟨r,s,f,I⟩:=f;unfold Oper.wp;rw[f];refine hK _ _ ?_;refine jg (λbq a' w' ar Z=>⟨bq,ar,Z⟩) (st:=j.put (some d) (.ext (.suf k (q+m) (n-m) (q+n))) []) ?_ i;rw[hd];refine gH.put X hN S ht (d:=some d) (by simp[dv,R,O]) (W:=[]) (aL.refl X) (.ext (.suf (xs:=xs) ⟨_,_,_,rfl⟩ U (by omega) (by omega) (λ_=>⟨r,s,rfl,I⟩)))
theorem zM(w:World)(t ty e l:TypeId)(i:TypeInfo)(r:P.underlying t=some (.slice e))(hi:P.info? e=some i)(g off n cap:Nat)(b:Array Value)(p:w.heap[g]?=some (.cells b l (0,0)))
 (a:Addr)(m c:Nat)(news:List Value)(q:news.length=m*i.size)(d:∀j u,news[j]?=some u->w.cell? (a.add j)=some u)(h1:∀u∈news,u.oneCell'=true)(f:n+m<=cap)(k:off+n*i.size+news.length<=b.size):
 (Builtin.append_ #[t,t] ty #[.slice (some ⟨g,off,none⟩) n cap,.slice (some a) m c]).run P w=.ok (.slice (some ⟨g,off,none⟩) (n+m) cap) (w.setRow g (b.toList.take (off+n*i.size)++news++b.toList.drop (off+n*i.size+news.length)).toArray):=by
 have s:=run_firstCells_some (P:=P) w i.size m a m c news q d;have o:=run_storeCells_at P g (off+n*i.size) l news 0 b w p (by simpa using k) h1;rw[X9]at o;simp[Builtin.append_,run_underlying r,sizeOf,typeInfo,hi,Builtin.lenOf,f,s,Addr.add_lit,o]
def K0(C:Cx)(hn:List Nat)(ops:Array Oper)(Q:St->Prop)(t:TypeId)(s x:Operand)(d:Nat)(post:List Oper)(st:St):Prop:=
 ∃k o n f c xs a i g z,st.ev s=.ext (.suf k o n (o+n))/\st.h k=some (.row f c xs 0)/\xs.length=o+n/\gm st.h (st.ev x)=some a/\a.all (qJ c)=true/\0<a.length/\al C.P t=some i/\i.kind=.slice f c g (some z)/\0<c/\z.cells.size=c/\
  (n+a.length)*g<=140737488355328/\n+a.length<=9223372036854775807/\k<2000000/\d<C.N/\d<2000000/\
  ∀e b,b.length=e+(n+a.length)->b.drop e=xs.drop o++a->dP C.P hn C.N ops Q post (St.put ⟨λm=>az [k] (st.t m),rekey st.h [k] k (.row f c b 0)⟩ (some d) (.ext (.suf k e (n+a.length) (e+(n+a.length)))) [])
theorem WP.appS{t:TypeId}(cb:ops.toList=pre++o::post)(ca:o.op=.call {callee:=.builtin .append,args:=#[s,x],argTypes:=#[t,t]})(hd:o.dst=some d)(hg:o.guard=none)
 (hq:dP C.P hn C.N ops (K0 C hn ops (Q .normal) t s x d post) pre st):WP C (.region id ops false) Q st:=by
 intro a w hs;refine wp_region_list ?_;rw[cb];refine iX (λf a1 F c3 c1=>?_) hs hq;obtain⟨k,q,n,r,sz,xs,E,ti,eb,z,c4,hk,bc,ei,cS,ef,dd,cM,c8,ek,O,ez,cH,cu,ct,bH⟩:=c1;obtain⟨L,hm,hN,cw,ht⟩:=c3;refine wpList_step (λK hK=>?_);rw[lh hg,VS rfl];obtain⟨V,g,hj,rfl,rfl,bq⟩:=dV dd cM
 have ba:∀y∈E,y.cells.length=g.size:=by
  simp_all
 have cf:=dn ht s;rw[c4]at cf
 have c7:∀u,RepA F (ae C L f.h) L f.h (.ext (.suf k q n (q+n))) u->∃A c,u=.slice A n c/\(((L k).isNil=false/\A=some ⟨(L k).b,q*g.size,none⟩/\c+q=(L k).cap)\/(n=0/\c=0/\(q=0->(L k).isNil=true/\A=none))):=by
  intro u H
  cases H with
  |ext hx=>cases hx with
   |suf _ a6 eB eS H=>
    rw[hk]at a6;injection a6 with a6;injection a6 with _ a2 a3 _;subst a3;rw[a2];exact H bc
 obtain⟨B,cap,b1,cq⟩:=c7 _ cf;obtain⟨Ad,c,b2,eA,cp⟩:=pM hm (λ_ _ h=>h) (dn ht x) ei cS;obtain⟨b,o9,rfl,news,n1,n2,n3,n4⟩:=cp ef
 have R:∀j u,news[j]?=some u->F.cell? ((⟨b,o9,none⟩:Addr).add j)=some u:=λj u H=>by rw[fo];exact n2 j u H
 have b7:∀{v:Value}{w':World},(Builtin.append_ #[t,t] o.type #[a1.eval s,a1.eval x]).run C.P F=.ok v w'->(execOp a1.eval o).run C.P F=.ok (.value v) w':=by
  intro v w' h9;obtain⟨cn,op,ck,pos,after,guard⟩:=o;simp only at ca h9;subst ca;have ee:execOp a1.eval ⟨cn,.call ⟨.builtin .append,#[s,x],#[t,t]⟩,ck,pos,after,guard⟩=builtin .append #[t,t] ck ((#[s,x]:Array Operand).map λ|.const _=>true|_=>false) ((#[s,x]:Array Operand).map a1.eval):=rfl;rw[ee];simp[builtin,h9]
 obtain⟨g1,g2,g3,g4,g5⟩:=hm.bl k _ hk
 have key:∃X D L' w' v,D.length=X+(n+E.length)/\D.drop X=xs.drop q++E/\(execOp a1.eval o).run C.P F=.ok (.value v) w'/\
  MemL C L' (rekey f.h [k] k (.row r g.size D 0)) w'/\RepA w' (ae C L' (rekey f.h [k] k (.row r g.size D 0))) L' (rekey f.h [k] k (.row r g.size D 0)) (.ext (.suf k X (n+E.length) (X+(n+E.length)))) v/\
  (∀{y:AV}{u:Value},RepA F (ae C L f.h) L f.h y u->RepA w' (ae C L' (rekey f.h [k] k (.row r g.size D 0))) L' (rekey f.h [k] k (.row r g.size D 0)) (az [k] y) u):=by
  have grow:∀(J:List Value),J.length=n*g.size->(∀(i:Nat) y(j:Nat) p,(xs.drop q)[i]?=some y->y.cells[j]?=some p->∃u,J[i*g.size+j]?=some u/\Rep F (ae C L f.h) p u)->
   (Builtin.append_ #[t,t] o.type #[a1.eval s,a1.eval x]).run C.P F=.ok (.slice (some ⟨F.heap.size,0,none⟩) (n+E.length) (grownCap F (n+E.length) cap r)) (F.drew.alloc (.cells (J.toArray++news.toArray++Builtin.zeroCells z.cells (grownCap F (n+E.length) cap r-(n+E.length))) r))->
   ∃X D L' w' v,D.length=X+(n+E.length)/\D.drop X=xs.drop q++E/\(execOp a1.eval o).run C.P F=.ok (.value v) w'/\
    MemL C L' (rekey f.h [k] k (.row r g.size D 0)) w'/\RepA w' (ae C L' (rekey f.h [k] k (.row r g.size D 0))) L' (rekey f.h [k] k (.row r g.size D 0)) (.ext (.suf k X (n+E.length) (X+(n+E.length)))) v/\
    (∀{y:AV}{u:Value},RepA F (ae C L f.h) L f.h y u->RepA w' (ae C L' (rekey f.h [k] k (.row r g.size D 0))) L' (rekey f.h [k] k (.row r g.size D 0)) (az [k] y) u):=by
   intro J T Y I;have cx:=grownCap_ge F (n+E.length) cap r;have b4:=grownCap_le_maxLen F (n+E.length) cap r (by simp only[maxLen];omega);have cj:Ext (λ_=>False) F (F.drew.alloc (.cells (J.toArray++news.toArray++Builtin.zeroCells z.cells (grownCap F (n+E.length) cap r-(n+E.length))) r)):=(Ext.drew _ F).trans (Ext.alloc _ _ _) (λ_ _ h=>h);obtain⟨cP,Z⟩:=MemL.kill (st:=f) [k] hm
   have cQ:(f.kill [k]).h k=none:=by simp[St.kill]
   have cV:=(Pres.sub (w:=F) Z).trans (oU (q:=True) (M:=ae C L (f.kill [k]).h) cj (λ_=>VU _))
   have ar:(xs.drop q).length=n:=by rw[Xz];omega
   have S:=y7 (xs:=xs.drop q) (by rw[T,ar]) (λy hy=>g3 y (List.mem_of_mem_drop hy)) ba Y n4
   obtain⟨a7,a8,ad⟩:=cP.newKey (d:=k) cQ cH (l:=⟨F.heap.size,grownCap F (n+E.length) cap r,false⟩) (blk:=.row r g.size (xs.drop q++E) 0) cj (λ_=>VU _) (by intro ep er e;cases e) (by
    refine⟨c8,WJ _,?_,(λh=>by cases h),λ_=>⟨by simp only[V9,ar];exact cx,b4,_,j6 _ _,?_,?_⟩⟩
    .intro y hy
     rcases V4.1 hy with h'|h'
     .exact g3 y (List.mem_of_mem_drop h')
     .exact ba y h'
    .simp only[XO,Xr,T,n1,size_zeroCells,ek]
     rw[<-WC,<-WC];congr 1;omega
    .intro i y j p G U
     obtain⟨u,H,hr,cN⟩:=S i y j p G U;refine⟨u,?_,hr.mono (cV.trans (Pres.sub (λb o h9=>Or.elim h9 Or.inl λh8=>Or.inr ⟨trivial,h8.2⟩)))⟩;have cg:=(th.1 H).1
     have ch:i*g.size+j<(J.toArray++news.toArray).size:=by simp only[XO,Xr];simp only[V9]at cg;exact cg
     rw[Wx ch,<-WI,Yr]
     exact H)
   have he:ag (f.kill [k]).h k (some (Blk.row r g.size (xs.drop q++E) 0))=rekey f.h [k] k (.row r g.size (xs.drop q++E) 0):=by
    funext m
    by_cases e:m=k
    .subst e;simp[rekey,ag]
    .simp[rekey,ag,e,St.kill]
   rw[he]at a7 a8 ad;refine⟨0,xs.drop q++E,_,_,_,by simp only[V9,ar];omega,by simp,b7 I,a7,?_,λ{y u} h9=>?_⟩
   .refine .ext (.suf (xs:=xs.drop q++E) (e:=r) (sz:=g.size) (fz:=0) ⟨_,_,_,rfl⟩ (by simp[rekey]) (by omega) (by simp only[V9,ar];omega) (λ_=>⟨_,_,rfl,.inl ?_⟩))
    rw[aJ];exact⟨rfl,by simp,by simp⟩
   .have h8:RepA F (ae C L (f.kill [k]).h) L (f.kill [k]).h (az [k] y) u:=qQ (Pres.sub Z) h9
    exact h8.mono a8 ad
  rcases cq with⟨e1,rfl,e3⟩|⟨rfl,rfl,_⟩
  .obtain⟨cm,a2,arr,a3,a4,a5⟩:=g5 e1
   have en:arr.toList.length=arr.size:=WZ
   have bs:q*g.size+n*g.size=xs.length*g.size:=by rw[bc,WC]
   have c5:xs.length*g.size<=arr.size:=by rw[a4];exact Wc _ cm
   by_cases b0:n+E.length<=cap
   .have bb:q*g.size+n*g.size+news.length<=arr.size:=by
     rw[a4,n1,<-WC,<-WC];exact Wc _ (by omega)
    have I:=zM (P:=C.P) F t o.type r r g V hj (L k).b (q*g.size) n cap arr a3 ⟨b,o9,none⟩ E.length c news n1 R n3 b0 bb;rw[bs]at I bb
    have T:(arr.toList.take (xs.length*g.size)).length=xs.length*g.size:=by rw[WD];omega
    have Y:∀(i:Nat) y(j:Nat) p,xs[i]?=some y->y.cells[j]?=some p->∃u,(arr.toList.take (xs.length*g.size))[i*g.size+j]?=some u/\Rep F (ae C L f.h) p u:=by
     intro i y j p G U;obtain⟨u,H,hr⟩:=a5 i y j p G U;refine⟨u,?_,hr⟩
     have cB:j<g.size:=by rw[<-g3 y (Is G)];exact(th.1 U).1
     have cz:i<xs.length:=(th.1 G).1;have:(i+1)*g.size<=xs.length*g.size:=Wc _ (by omega);rw[WC]at this;rw[Wk,VS (by omega)];simpa using H
    have S:=y7 T g3 ba Y n4
    have hw:∀b',b'<F.heap.size->((Blk.row r g.size xs 0).live (L k)->b'≠(L k).b)->(F.setRow (L k).b (arr.toList.take (xs.length*g.size)++news++arr.toList.drop (xs.length*g.size+news.length)).toArray).heap[b']?=F.heap[b']?:=
     λb' _ hb=>setRow_other F _ b' _ (hb e1)
    have hpr:∀o v,(Blk.row r g.size xs 0).live (L k)->(Blk.row r g.size xs 0).frz o->F.cell? ⟨(L k).b,o,none⟩=some v->
     (F.setRow (L k).b (arr.toList.take (xs.length*g.size)++news++arr.toList.drop (xs.length*g.size+news.length)).toArray).cell? ⟨(L k).b,o,none⟩=some v:=by
     intro m v _ hf _;simp[Blk.frz]at hf
    have b5:em (.row r g.size xs 0) (L k) (.row r g.size (xs++E) 0) (L k):=⟨rfl,rfl,by simp,λ_=>rfl⟩;have cU:=hm.touch_pk (blk':=.row r g.size (xs++E) 0) hk hw hpr (λo hf=>hf) b5 Xe
    obtain⟨a7,a8,ad⟩:=hm.touch (blk':=.row r g.size (xs++E) 0) hk hw (by simp) rfl rfl rfl hpr (λo hf=>hf) b5 Xe (by have h9:=hm.own k _ hk;exact h9) (by
     refine⟨g1,WJ _,?_,(λhn=>by rw[e1]at hn;cases hn),λ_=>⟨by simp;omega,a2,_,setRow_heap F _ arr _ _ _ a3,?_,?_⟩⟩
     .intro y hy
      rcases V4.1 hy with h'|h'
      .exact g3 y h'
      .exact ba y h'
     .simp only[Xr,V9,WD,Xz];omega
     .intro i y j p G U
      obtain⟨u,H,hr,cN⟩:=S i y j p G U;refine⟨u,?_,hr.mono cU.1⟩;rw[Xc,VO (th.1 H).1]
      exact H)
    obtain⟨b9,b3,cd⟩:=a7.loosen [k] (λm=>m !=k)
    have he:(λm=>if(m !=k)=true then(ag f.h k (some (Blk.row r g.size (xs++E) 0)) m).map (bG [k])else ag f.h k (some (Blk.row r g.size (xs++E) 0)) m)=rekey f.h [k] k (.row r g.size (xs++E) 0):=by
     funext m
     by_cases e:m=k
     .subst e;simp[rekey,ag]
     .simp[rekey,ag,e]
    rw[he]at b9 b3 cd;refine⟨q,xs++E,L,_,_,by simp;omega,by rw[Yn (by omega)],b7 (by rw[b1,b2];exact I),b9,?_,λ{y u} h9=>?_⟩
    .exact .ext (.suf (xs:=xs++E) (e:=r) (sz:=g.size) (fz:=0) ⟨_,_,_,rfl⟩ (by simp[rekey]) (by omega) (by simp;omega) (λ_=>⟨_,_,rfl,.inl ⟨e1,rfl,e3⟩⟩))
    .have h8:=(h9.mono a8 ad).mono cd b3
     unfold az;split
     .exact .undef _
     .exact h8
   .refine grow ((arr.toList.drop (q*g.size)).take (n*g.size)) (by rw[WD,Xz];omega) ?_ ?_
    .intro i y j p G U
     rw[WO]at G;obtain⟨u,H,hr⟩:=a5 (q+i) y j p G U;refine⟨u,?_,hr⟩
     have cB:j<g.size:=by rw[<-g3 y (Is G)];exact(th.1 U).1
     have cz:q+i<xs.length:=(th.1 G).1;have:(i+1)*g.size<=n*g.size:=Wc _ (by omega);rw[WC]at this;rw[Wk,VS (by omega),WO,<-Xu,<-WC];simpa using H
    .rw[b1,b2]
     exact run_append_grow (P:=C.P) F t o.type r g z V hj bq ⟨(L k).b,q*g.size,none⟩ n cap _ (by rw[WD,Xz];omega)
      (λm u H=>by
        rw[fo,eY a3];rw[Wk]at H;split at H
        .rw[WO]at H;simpa using H
        .cases H)
      ⟨b,o9,none⟩ E.length c news n1 R (by omega) (by omega) (growslice_fits (by omega) O)
  .have cr:xs.drop q=[]:=Wq (by rw[Xz];omega)
   refine grow [] (by simp) (λi y j p G _=>by rw[cr]at G;simp at G) ?_;rw[b1,b2]
   cases B with
   |none=>
    have:=run_append_nil (P:=C.P) F t o.type r g z V hj bq ⟨b,o9,none⟩ E.length c news n1 R (by omega) (by omega) (by rw[WU]at O;omega);rw[WU];simpa using this
   |some B=>
    exact run_append_grow (P:=C.P) F t o.type r g z V hj bq B 0 0 [] (by simp) (λm u H=>by simp at H) ⟨b,o9,none⟩ E.length c news n1 R (by omega) (by omega) (growslice_fits (by omega) O)
 obtain⟨X,D,L',w',v,ea,ec,I,b8,hv,c9⟩:=key;unfold Oper.wp;rw[I];refine hK _ _ ?_;refine jg (λel a' w' c2 c0=>⟨el,c2,c0⟩) (st:=St.put ⟨λm=>az [k] (f.t m),rekey f.h [k] k (.row r g.size D 0)⟩ (some d) (.ext (.suf k X (n+E.length) (X+(n+E.length)))) []) ?_ (bH X D ea ec);rw[hd];exact gH.put (st:=⟨λm=>az [k] (f.t m),rekey f.h [k] k (.row r g.size D 0)⟩) b8 hN cw (λm=>c9 (ht m)) (d:=some d) (by simp[dv,cu,ct]) (W:=[]) (aL.refl b8) hv
end
theorem Hs{f:FuncId}{c:Code}(hf:P.funcs[f]?=some fn){args:List AV}{e:Hp}(b:LookH e)(h:∀C:Cx,C.P=P->C.N=fn.ntmps->WP C c (F6 P fn.results.toList e Post) (tQ args e))
 (g:fn.body=some c:=by rfl)(a:dm P f=true:=by kernel_rfl)(d:args.length<=fn.ntmps:=by exact of_decide_eq_true (by kernel_rfl)):nY P f args e Post:=LP hf g a d b h
theorem xq{rs:List ResultVar}{i H:Hp}{r:AV}(h1:mM P st rs=some r)(m:rH r=true)(l:∀k,inK k=true->st.h k=H k)(hL:LookH H)(hp:Post r H)
 (c:∀k d f,i k=some (.box d false f)->∃a,H k=some (.box a false false)):yU P rs i Post st:=by
 have e:qv st.h=H:=by
  funext k
  unfold qv;split
  .rename_i hi;exact l k hi
  .rename_i hi
   cases g:H k with
   |none=>rfl
   |some b=>exact absurd (hL.keys k b g) hi
 refine⟨r,h1,m,by rw[e];exact hL,by rw[e];exact hp,λk d f g=>?_⟩;obtain⟨a,j⟩:=c k d f g;exact⟨a,by rw[l k (hL.keys k _ j)];exact j⟩
def mw:Hp:=λ_=>none
theorem CK:LookH mw:=⟨λk b h=>(by cases h),λk b o h=>(by cases h),λk b h=>(by cases h),λk a o f h=>(by cases h)⟩
theorem WP.takeAt(n:Nat){xs:List Operand}{a:Array TypeId}(c:ops.toList[n]?=some o)(b:o.op=.call {callee:=.value f,args:=xs.toArray,argTypes:=a})(e:o.guard=none)
 (hq:dP C.P hn C.N ops (uB C (dP C.P hn C.N ops (Q .normal) (ops.toList.drop (n+1))) f xs o.dst) (ops.toList.take n) st):WP C (.region id ops false) Q st:=by
 refine WP.take (pre:=ops.toList.take n) (post:=ops.toList.drop (n+1)) (o:=o) ?_ b e hq;have g:=(th.1 c).1;have d:=(th.1 c).2;rw[<-d,Xm,WS]
theorem WP.appBAt(n:Nat){t:TypeId}(b:ops.toList[n]?=some o)(a:o.op=.call {callee:=.builtin .append,args:=#[s,x],argTypes:=#[t,t]})(hd:o.dst=some d)(e:o.guard=none)
 (hq:dP C.P hn C.N ops (KZ C hn ops (Q .normal) t s x d (ops.toList.drop (n+1))) (ops.toList.take n) st):WP C (.region id ops false) Q st:=by
 refine WP.appB (pre:=ops.toList.take n) (post:=ops.toList.drop (n+1)) (o:=o) ?_ a hd e hq;have f:=(th.1 b).1;have c:=(th.1 b).2;rw[<-c,Xm,WS]
theorem WP.sufAt(n:Nat){t:TypeId}{y:Operand}(b:ops.toList[n]?=some o)(a:o.op=.slice t x (some y) none none)(hd:o.dst=some d)(e:o.guard=none)
 (hq:dP C.P hn C.N ops (MS C hn ops (Q .normal) t x y d (ops.toList.drop (n+1))) (ops.toList.take n) st):WP C (.region id ops false) Q st:=by
 refine WP.suf (pre:=ops.toList.take n) (post:=ops.toList.drop (n+1)) (o:=o) ?_ a hd e hq;have f:=(th.1 b).1;have c:=(th.1 b).2;rw[<-c,Xm,WS]
theorem WP.appSAt(n:Nat){t:TypeId}(b:ops.toList[n]?=some o)(a:o.op=.call {callee:=.builtin .append,args:=#[s,x],argTypes:=#[t,t]})(hd:o.dst=some d)(e:o.guard=none)
 (hq:dP C.P hn C.N ops (K0 C hn ops (Q .normal) t s x d (ops.toList.drop (n+1))) (ops.toList.take n) st):WP C (.region id ops false) Q st:=by
 refine WP.appS (pre:=ops.toList.take n) (post:=ops.toList.drop (n+1)) (o:=o) ?_ a hd e hq;have f:=(th.1 b).1;have c:=(th.1 b).2;rw[<-c,Xm,WS]
def CM(x:Nat):Nat:=match Nat.ble 300 x with
 |true=>300
 |false=>x
theorem wi(x:Nat):∀l:List Nat,l.contains x=true->(l.map CM).contains (CM x)=true
 |[],h=>h
 |a::l,h=>by
  rw[List.contains_cons,WL,WK]at h;rw[W5,List.contains_cons,WL,WK];rcases h with h|h
  .exact .inl (by rw[h])
  .exact .inr (wi x l h)
theorem CN{a b:List Nat}(h:De (a.map CM) (b.map CM)=true):De a b=true:=by
 unfold De at *;rw[VL]at *;intro x d;have:=h (CM x) (List.mem_map_of_mem d);rw[Wy]at *;rw[<-Bool.not_eq_true];intro c;rw[wi x b c]at this;cases this
def Je(acc:og):og:=acc.map λx=>(x.1.map CM,x.2.map CM)
theorem Ht{acc:og}(h:jP ts (Je acc)=true):jP ts acc=true:=by
 unfold jP Je at *;rw[Wp]at h;rw[VL]at *;intro j f;have h1:=h j f;rw[VL]at *;intro i hi;have c:=h1 i hi;rw[VN,VN]at c
 cases d:acc[i]? with
 |none=>rfl
 |some a=>cases e:acc[j]? with
  |none=>rfl
  |some b=>
   rw[d,e]at c;simp only[WG,WL,An]at c|-;exact c.imp (λh=>⟨CN h.1,CN h.2⟩) id
theorem Yc{acc:og}{b:Prop}(h:b)(k:jP ts (Je acc)=true:=by kernel_rfl):jP ts acc=true/\b:=⟨Ht k,h⟩
theorem qR{cs:List AV}{x:AV}(h:i<cs.length):cs.take i++x::cs.drop (i+1)=cs.set i x:=by
 rw[List.set_eq_take_append_cons_drop,VS h]
theorem HP{S G H:Prop}(s:S)(x:H)(h:S->Hid H->G:=by
 intro hS hG0
 with_reducible repeat' (first|refine Sp.h ?_|((first|refine Wd ?_|refine Ss.h ?_|refine Sc.h (by first|assumption|apply_assumption) ?_|(refine Sb.h ?_ ?_ ?_<;>(try intro hgd)<;>try exact Xy))<;>simp -implicitDefEqProofs (maxSteps:=2000000) [hP,hN,hS]<;>try refine Yc ?_)|refine X2 ?_ ?_|(refine Xd ?_ ?_<;>intro hcd<;>try exact Xx))
 exact hG0.h):G:=h s ⟨x⟩
theorem qk{m:Nat}(_:m=n)(a:Array Value):∀k,k<n->k<a.size+(n-a.size):=by intro k h;omega
theorem Lg(h:fC P g:=by
 refine⟨by kernel_rfl,λargs w=>?_⟩;refine callsD_of_wpS hf rfl λd f e=>?_;apply wpS_seq;apply wpS_region;have a:=qk nt args;have b:=a 0 (by decide);have h1:=a 1 (by decide);have c:=a 2 (by decide);simp[wpOpsS,go_sem,recoverD,e,nt,Exit.thenS,b,h1,c];refine wpS_cond (t:=false) (by simp[Act.eval,b,h1,c]) ?_;simp only[VP,VZ];refine wpS_of_wp (wp_skip ?_);cases d
 simp_all[bodyPostS,results,rs]):fC P g:=h
theorem BL(h:fC P g:=by
 refine⟨by kernel_rfl,λargs w=>?_⟩;refine callsD_of_wpS hf rfl λe i f=>?_;apply wpS_seq;apply wpS_region;have a:=qk nt args;have b:=a 0 (by decide);have h1:=a 1 (by decide);have c:=a 2 (by decide);have d:=a 3 (by decide);simp[wpOpsS,go_sem,recoverD,f,nt,Exit.thenS,b,h1,c,d];refine wpS_cond (t:=false) (by simp[Act.eval,b,h1,c,d]) ?_;simp only[VP,VZ];refine wpS_of_wp (wp_skip ?_);cases e
 simp_all[bodyPostS,results,rs]):fC P g:=h
open Go.Proofs
structure Verd where
 kind:Int
 nor:List (Int×Int×Int)
 pair:Int
 left:List Int
 right:List Int
structure Cel where
 joint:Int
 low:Int
 high:Int
 v:Verd
structure Tr where
 root:List (Int×Int)
 cells:List Cel
variable {c:Cel}{t:Tr}
abbrev ao(v:Int×Int×Int):PV:=.val (.agg #[.int .i64 v.1,.int .i64 v.2.1,.int .i64 v.2.2])
abbrev aP(l:List (Int×Int×Int)):PV:=.sl (l.map ao)
abbrev Hh(p:Int)(l r:List Int):PV:=.agg [Z p,zs l,zs r]
abbrev nh(v:Verd):PV:=.agg [Z v.kind,aP v.nor,Z v.pair,zs v.left,zs v.right]
abbrev bw(c:Cel):PV:=.agg [Z c.joint,Z c.low,Z c.high,Z c.v.kind,aP c.v.nor,Z c.v.pair,zs c.v.left,zs c.v.right]
abbrev eT(t:Tr):PV:=.agg [iv t.root,.sl (t.cells.map bw)]
def dR(c:Cel):Bool:=c.joint==-1&&c.low==-1&&c.high==-1
def kC(p:Int)(l r:List Int):Bool:=p==0&&(l.length:Int)==0&&(r.length:Int)==0
def eU(v:Verd):Bool:=if v.kind=0\/v.kind=1 then kC v.pair v.left v.right else if v.kind=2 then((v.nor.length:Int)==0)else false
def oN(v:Verd):Bool:=v.kind==0&&((v.nor.length:Int)==0)&&kC v.pair v.left v.right
theorem Ex(l:List α):((l.length:Int)==0)=decide (l.length=0):=by
 by_cases h:l.length=0
 .simp[h]
 .have:((l.length:Int)==0)=false:=by simp;intro a;exact h (by rw[a];rfl)
  rw[this];simp[h]
theorem KM(c:Cel):bh 132 (bw c) (B (dR c)):=by
 refine Dp func132 λC hP hN=>?_
 with_reducible repeat' (first|refine Sp.h ?_|((first|refine Ss.h ?_|(refine Sb.h ?_ ?_ ?_<;>(try intro hgd)<;>try exact Xy))<;>simp -implicitDefEqProofs [hP,hN])|refine X2 ?_ ?_|(refine Xd ?_ ?_<;>intro hcd<;>try exact Xx))
 all_goals (simp_all[dR])
theorem LK(c:Cel):bh 40 (bw c) (B (dR c)):=by
 refine Dp func40 λC hP hN=>?_
 with_reducible repeat' (first|refine Sp.h ?_|((first|refine Ss.h ?_|(refine Sb.h ?_ ?_ ?_<;>(try intro hgd)<;>try exact Xy))<;>simp -implicitDefEqProofs [hP,hN])|refine X2 ?_ ?_|(refine Xd ?_ ?_<;>intro hcd<;>try exact Xx))
 all_goals (simp_all[dR])
theorem OX(p:Int)(l r:List Int):bh 178 (Hh p l r) (B (kC p l r)):=by
 refine Dp func178 λC hP hN=>?_
 with_reducible repeat' (first|refine Sp.h ?_|((first|refine Ss.h ?_|(refine Sb.h ?_ ?_ ?_<;>(try intro hgd)<;>try exact Xy))<;>simp -implicitDefEqProofs [hP,hN])|refine X2 ?_ ?_|(refine Xd ?_ ?_<;>intro hcd<;>try exact Xx))
 all_goals (simp_all[kC])
theorem Qs(p:Int)(l r:List Int):bh 45 (Hh p l r) (B (kC p l r)):=by
 refine Dp func45 λC hP hN=>?_
 with_reducible repeat' (first|refine Sp.h ?_|((first|refine Ss.h ?_|(refine Sb.h ?_ ?_ ?_<;>(try intro hgd)<;>try exact Xy))<;>simp -implicitDefEqProofs [hP,hN])|refine X2 ?_ ?_|(refine Xd ?_ ?_<;>intro hcd<;>try exact Xx))
 all_goals (simp_all[kC])
theorem OY(v:Verd):bh 133 (nh v) (B (eU v)):=by
 have a:=OX v.pair v.left v.right;have b:=Ex v.nor;generalize c:kC v.pair v.left v.right=E at a;refine Dp func133 λC hP hN=>?_
 with_reducible repeat' (first|refine Sp.h ?_|((first|refine Ss.h ?_|refine Sc.h (a) ?_|(refine Sb.h ?_ ?_ ?_<;>(try intro hgd)<;>try exact Xy))<;>simp -implicitDefEqProofs [hP,hN])|refine X2 ?_ ?_|(refine Xd ?_ ?_<;>intro hcd<;>try exact Xx))
 all_goals (simp_all[eU])
theorem Qt(v:Verd):bh 41 (nh v) (B (eU v)):=by
 have a:=Qs v.pair v.left v.right;have b:=Ex v.nor;generalize c:kC v.pair v.left v.right=E at a;refine Dp func41 λC hP hN=>?_
 with_reducible repeat' (first|refine Sp.h ?_|((first|refine Ss.h ?_|refine Sc.h (a) ?_|(refine Sb.h ?_ ?_ ?_<;>(try intro hgd)<;>try exact Xy))<;>simp -implicitDefEqProofs [hP,hN])|refine X2 ?_ ?_|(refine Xd ?_ ?_<;>intro hcd<;>try exact Xx))
 all_goals (simp_all[eU])
theorem To(v:Verd):bh 175 (nh v) (B (oN v)):=by
 have a:=OX v.pair v.left v.right;generalize b:kC v.pair v.left v.right=E at a;refine Dp func175 λC hP hN=>?_
 with_reducible repeat' (first|refine Sp.h ?_|((first|refine Ss.h ?_|refine Sc.h (a) ?_|(refine Sb.h ?_ ?_ ?_<;>(try intro hgd)<;>try exact Xy))<;>simp -implicitDefEqProofs [hP,hN])|refine X2 ?_ ?_|(refine Xd ?_ ?_<;>intro hcd<;>try exact Xx))
 all_goals (simp_all[oN])
theorem Va(v:Verd):bh 42 (nh v) (B (oN v)):=by
 have a:=Qs v.pair v.left v.right;generalize b:kC v.pair v.left v.right=E at a;refine Dp func42 λC hP hN=>?_
 with_reducible repeat' (first|refine Sp.h ?_|((first|refine Ss.h ?_|refine Sc.h (a) ?_|(refine Sb.h ?_ ?_ ?_<;>(try intro hgd)<;>try exact Xy))<;>simp -implicitDefEqProofs [hP,hN])|refine X2 ?_ ?_|(refine Xd ?_ ?_<;>intro hcd<;>try exact Xx))
 all_goals (simp_all[oN])
def dy(r:List (Int×Int)):Bool:=decide (1<=r.length)&&decide (r.length<=10)&&bj vI r
theorem Tp(r:List (Int×Int)):bh 174 (iv r) (B (dy r)):=by
 by_cases h1:r.length<1
 .have g:dy r=false:=by simp[dy];omega
  have b:(r.length:Int)<1:=by omega
  rw[g];refine Dp func174 λC hP hN=>?_;exact GS (gA b h1)
 have b:¬(r.length:Int)<1:=by omega
 by_cases j:10<r.length
 .have g:dy r=false:=by simp[dy];omega
  have c:(10:Int)<r.length:=by omega
  rw[g];refine Dp func174 λC hP hN=>?_;exact GS (f7 b h1 j c)
 have c:¬(10:Int)<r.length:=by omega
 have g:dy r=bj vI r:=by
  unfold dy
  have l:decide (1<=r.length)=true:=by simp;omega
  have m:decide (r.length<=10)=true:=by simp;omega
  rw[l,m];simp
 rw[g];refine Dp func174 λC hP hN=>?_;refine GT (f7 b h1 j c) ?_;refine WP.loopN [4] r.length (λi st=>st.t 13=.pv (iv r)/\st.t 14=.pv (Z r.length)/\st.t 15=.pv (Z i)/\st.h 4=none/\bj vI (r.take i)=true) (by simp[bj]) ?_;rintro i st hi ⟨d,e,f,k,hq⟩;by_cases a:i<r.length
 .have n:=aj a (by omega)
  have hF:vI r[i]=false->bj vI r=false:=wK a;have hS:vI r[i]=true->bj vI (r.take (i+1))=true:=uW a hq
  with_reducible repeat' (first|refine Sp.h ?_|((first|refine Ss.h ?_|refine Sc.h (j7 _ _) ?_|(refine Sb.h ?_ ?_ ?_<;>(try intro hgd)<;>try exact Xy))<;>simp -implicitDefEqProofs [hP,hN,d,e,f,k,a,n])|refine X2 ?_ ?_|(refine Xd ?_ ?_<;>intro hcd<;>try exact Xx))
  all_goals first|(rw[hF (by simpa using hcd)];done)|(simp[hF (by simpa using hcd)];done)|(simpa using hS (by simpa using hcd))
 .skip
  refine GT (f8 d e f k a) ?_
  all_goals simp[uX a hq]
theorem fq{p:α->Bool}{xs:List α}:bj p xs=true↔∀x∈xs,p x=true:=VL
abbrev Bx:=List (Int×Int)
variable {b:Bx}
abbrev OL:=List (Option Bx)
variable {L L':OL}
def sD:Option Bx->PV
 |none=>.val (.slice none 0 0)
 |some b=>iv b
def lg(n i:Nat)(c:Cel):Bool:=decide ((i:Int)<c.low)&&decide (c.low<n)&&decide ((i:Int)<c.high)&&decide (c.high<n)&&decide (c.low≠c.high)&&oN c.v
def gz(n i:Nat)(c:Cel)(L:OL):Option OL:=
 match L[i]? with
 |some (some b)=>
  if dR c then(if eU c.v then some L else none)
  else if lg n i c then
   if bz b c.joint then
    match L[c.low.toNat]?,L[c.high.toNat]? with
    |some none,some none=>some ((L.set c.low.toNat (some (aW b c.joint))).set c.high.toNat (some (aX b c.joint)))
    |_,_=>none
   else none
  else none
 |_=>none
def mH(n:Nat):List Cel->Nat->OL->Option OL
 |[],_,L=>some L
 |c::a,i,L=>match gz n i c L with
  |some L'=>mH n a (i+1) L'
  |none=>none
def j0(t:Tr):OL:=some t.root::List.replicate (t.cells.length-1) none
def ii(t:Tr):Bool:=decide (1<=t.cells.length)&&decide (t.cells.length<=2048)&&dy t.root
def dz(t:Tr):Option OL:=if ii t then mH t.cells.length t.cells 0 (j0 t)else none
def aT(t:Tr):Bool:=(dz t).isSome
def ah(t:Tr):List Bx:=match dz t with
 |some L=>L.map λx=>x.getD []
 |none=>[]
theorem jc(h:gz n i c L=some L'):∃b,L[i]?=some (some b)/\
 ((dR c=true/\eU c.v=true/\L'=L)\/
  (dR c=false/\lg n i c=true/\bz b c.joint=true/\L[c.low.toNat]?=some none/\L[c.high.toNat]?=some none/\
    L'=(L.set c.low.toNat (some (aW b c.joint))).set c.high.toNat (some (aX b c.joint)))):=by
 unfold gz at h;split at h
 .rename_i b e
  refine⟨b,e,?_⟩;split at h
  .rename_i a
   split at h
   .rename_i hf
    injection h with h;exact .inl ⟨a,hf,h.symm⟩
   .cases h
  .rename_i a
   split at h
   .rename_i hi
    split at h
    .rename_i f
     split at h
     .rename_i h1 d
      injection h with h;exact .inr ⟨by simpa using a,hi,f,h1,d,h.symm⟩
     .cases h
    .cases h
   .cases h
 .cases h
theorem jd:lg n i c=true↔(i:Int)<c.low/\c.low<n/\(i:Int)<c.high/\c.high<n/\c.low≠c.high/\oN c.v=true:=by
 simp[lg,and_assoc]
theorem Ey{n:Nat}{P:Nat->OL->Prop}:∀(cs:List Cel)(i:Nat)(L L':OL),mH n cs i L=some L'->P i L->
 (∀k c L L',cs[k]?=some c->P (i+k) L->gz n (i+k) c L=some L'->P (i+k+1) L')->P (i+cs.length) L'
 |[],i,L,L',h,a,_=>by simp[mH]at h;subst h;exact a
 |c::cs,i,L,L',h,a,g=>by
  simp only[mH]at h;split at h
  .rename_i b h1
   have l:=g 0 c L b rfl a h1
   have:=Ey cs (i+1) b L' h l (λk d M j m hp f=>by
    have e:i+1+k=i+(k+1):=by omega
    rw[e]at hp f|-
    exact g (k+1) d M j (by simpa using m) hp f)
   have e:i+(c::cs).length=i+1+cs.length:=by simp;omega
   rw[e];exact this
  .cases h
theorem kJ{P:Nat->OL->Prop}(h:dz t=some L)(d:P 0 (j0 t))
 (hs:∀i c L L',t.cells[i]?=some c->P i L->gz t.cells.length i c L=some L'->P (i+1) L'):P t.cells.length L:=by
 unfold dz at h;split at h
 .have:=Ey t.cells 0 _ _ h d (λk c M b e hp a=>by
   rw[WU]at hp a|-;exact hs k c M b e hp a)
  simpa using this
 .cases h
theorem lq(h:dz t=some L):ii t=true:=by
 unfold dz at h;split at h
 .assumption
 .cases h
theorem eg:ii t=true↔1<=t.cells.length/\t.cells.length<=2048/\1<=t.root.length/\t.root.length<=10/\bj vI t.root=true:=by
 simp[ii,dy,and_assoc]
structure BOk(t:Tr)(i:Nat)(L:OL):Prop where
 len:L.length=t.cells.length
 pre:∀j,j<i->∃b,L[j]?=some (some b)
 ok:∀(j:Nat) b,L[j]?=some (some b)->b.length=t.root.length/\bj vI b=true
theorem xj{j:Int}(h:bz b j=true):(aW b j).length=b.length/\(aX b j).length=b.length:=by
 unfold aW aX;rw[h];simp only[V8];unfold bz at h;split<;>simp_all
theorem fc{lo hi:Int}:aw lo hi=true↔-2147483648<=lo/\lo<=hi/\hi<=2147483648:=by
 simp[aw,and_assoc]
theorem F2{x:Int×Int}(h:aw x.1 x.2=true):jG x=(x.1+x.2)/2:=by
 unfold jG;have a:=fc.1 h;rw[h,VS rfl,show wr (x.1+x.2)=x.1+x.2 from aa (by omega) (by omega),Int.fdiv_eq_ediv];simp
theorem lW{j:Int}:bz b j=true↔0<=j/\bj vI b=true/\∃x,b[j.toNat]?=some x/\2<=x.2-x.1:=by
 unfold bz;constructor
 .intro h
  simp only[An,L4]at h;obtain⟨⟨h1,a⟩,d⟩:=h;refine⟨h1,a,?_⟩;split at d
  .rename_i x c
   refine⟨x,c,?_⟩;have e:=fc.1 (fq.1 a _ (Is c));rw[L4,dG,VS (fq.1 a _ (Is c)),show wr (x.2-x.1)=x.2-x.1 from aa (by omega) (by omega)]at d;exact d
  .cases d
 .rintro⟨h1,a,x,c,d⟩
  have e:=fc.1 (fq.1 a _ (Is c))
  have f:dG x=x.2-x.1:=by
   rw[dG,VS (fq.1 a _ (Is c))];exact aa (by omega) (by omega)
  simp[h1,a,c,f,d]
theorem zC{j:Int}(h:bz b j=true):∃x,b[j.toNat]?=some x/\aw x.1 x.2=true/\2<=x.2-x.1/\aW b j=b.set j.toNat (x.1,(x.1+x.2)/2)/\aX b j=b.set j.toNat ((x.1+x.2)/2,x.2):=by
 obtain⟨_,d,x,a,e⟩:=lW.1 h;have c:aw x.1 x.2=true:=fq.1 d _ (Is a);refine⟨x,a,c,e,?_,?_⟩
 .simp[aW,h,a,F2 c]
 .simp[aX,h,a,F2 c]
theorem tO{j:Int}(h:bz b j=true):bj vI (aW b j)=true/\bj vI (aX b j)=true:=by
 obtain⟨x,k,f,i,d,e⟩:=zC h;have a:=(lW.1 h).2.1;have g:=fc.1 f;rw[d,e];constructor<;>refine fq.2 λy c=>?_
 .rcases WH c with h|rfl
  .exact fq.1 a _ h
  .exact fc.2 ⟨by omega,by simp only;omega,by simp only;omega⟩
 .rcases WH c with h|rfl
  .exact fq.1 a _ h
  .exact fc.2 ⟨by simp only;omega,by simp only;omega,by omega⟩
theorem vJ(h:ii t=true):BOk t 0 (j0 t):=by
 obtain⟨h1,c,d,e,h5⟩:=eg.1 h;refine⟨by simp[j0];omega,λj f=>by omega,λj b a=>?_⟩
 cases j with
 |zero=>simp[j0]at a;subst a;exact⟨rfl,h5⟩
 |succ j=>simp[j0,Wn]at a
theorem KN{a z:Nat}{x y:Option Bx}(d:a≠z)(c:a<L.length)(e:z<L.length):((L.set a x).set z y)[j]?=if j=z then some y else if j=a then some x else L[j]?:=by
 rw[VV];by_cases h1:z=j
 .subst h1;simp[e]
 .rw[VM h1,VM (λh=>h1 h.symm),VV]
  by_cases b:a=j
  .subst b;simp[c]
  .rw[VM b,VM (λh=>b h.symm)]
theorem zD{x y:Option Bx}(e:L.length=t.cells.length)(hi:lg t.cells.length i c=true):((L.set c.low.toNat x).set c.high.toNat y)[j]?=if j=c.high.toNat then some y else if j=c.low.toNat then some x else L[j]?:=by
 obtain⟨h1,a,b,d,h5,_⟩:=jd.1 hi;exact KN (by omega) (by omega) (by omega)
theorem vK(h:BOk t i L)(hs:gz t.cells.length i c L=some L'):BOk t (i+1) L':=by
 obtain⟨b,g,⟨_,_,rfl⟩|⟨_,hi,f,m,k,rfl⟩⟩:=jc hs
 .refine⟨h.len,λj l=>?_,h.ok⟩
  by_cases e:j=i
  .subst e;exact⟨b,g⟩
  .exact h.pre j (by omega)
 .have a:=h.ok i b g
  refine⟨by simpa using h.len,λj l=>?_,λj d hd=>?_⟩
  .rw[zD h.len hi]
   split
   .exact⟨_,rfl⟩
   .split
    .exact⟨_,rfl⟩
    .by_cases e:j=i
     .subst e;exact⟨b,g⟩
     .exact h.pre j (by omega)
  .rw[zD h.len hi]at hd
   split at hd
   .injection hd with hd;injection hd with hd;subst hd
    exact⟨by rw[(xj f).2];exact a.1,(tO f).2⟩
   .split at hd
    .injection hd with hd;injection hd with hd;subst hd
     exact⟨by rw[(xj f).1];exact a.1,(tO f).1⟩
    .exact h.ok j d hd
structure BInv(t:Tr)(i:Nat)(L:OL):Prop where
 bok:BOk t i L
 run:mH t.cells.length (t.cells.drop i) i L=dz t
theorem Ch(h:ii t=true):BInv t 0 (j0 t):=⟨vJ h,by simp[dz,h]⟩
theorem tv(h:BInv t i L)(a:i<t.cells.length)(hs:gz t.cells.length i t.cells[i] L=some L'):BInv t (i+1) L':=by
 refine⟨vK h.bok hs,?_⟩;rw[<-h.run,YC a];simp only[mH,hs]
theorem Ci(h:BInv t i L)(a:i<t.cells.length)(hs:gz t.cells.length i t.cells[i] L=none):dz t=none:=by
 rw[<-h.run,YC a];simp only[mH,hs]
theorem Cj(h:BInv t i L)(a:¬i<t.cells.length):dz t=some L:=by
 rw[<-h.run,Ye (by omega)];rfl
theorem qo(h:dz t=some L):BOk t t.cells.length L:=
 kJ h (vJ (lq h)) (λ_ _ _ _ _ hp a=>vK hp a)
theorem j5(h:dz t=some L):L=(ah t).map some:=by
 have ok:=qo h;rw[ah,h];simp only[List.map_map];apply WA;intro j;by_cases c:j<L.length
 .obtain⟨b,a⟩:=ok.pre j (by rw[<-ok.len];exact c)
  simp[a]
 .simp[VW (by omega:L.length<=j)]
theorem Ez(h:dz t=some L):L.map sD=(ah t).map iv:=by
 rw[j5 h];simp[sD,Function.comp_def]
theorem fA(h:aT t=true):(ah t).length=t.cells.length:=by
 obtain⟨L,hL⟩:=Wo.1 h;have:=(qo hL).len;rw[j5 hL]at this;simpa using this
theorem kK(a:(ah t)[j]?=some b):b.length=t.root.length/\bj vI b=true:=by
 cases hL:dz t with
 |none=>simp[ah,hL]at a
 |some L=>
  have:=(qo hL).ok j b;rw[j5 hL]at this;exact this (by simp[a])
theorem je(h:aT t=true):ii t=true:=by
 obtain⟨L,hL⟩:=Wo.1 h;exact lq hL
theorem tw(h:dz t=none):aT t=false/\ah t=[]:=by simp[aT,ah,h]
theorem kL{t:Tr}(a:L[i]?=some (some b))(d:dR c=true):gz n i c L=if eU c.v then some L else none:=by
 simp[gz,a,d]
theorem rn(d:L[i]?=some (some b))(f:dR c=false)(hi:lg n i c=true)(e:bz b c.joint=true)(h1:L[c.low.toNat]?=some none)(a:L[c.high.toNat]?=some none):gz n i c L=some ((L.set c.low.toNat (some (aW b c.joint))).set c.high.toNat (some (aX b c.joint))):=by
 simp[gz,d,f,hi,e,h1,a]
theorem lX(e:L[i]?=some (some b))(g:dR c=false)(h:lg n i c=false\/bz b c.joint=false\/(∃d,L[c.low.toNat]?=some (some d))\/(∃d,L[c.high.toNat]?=some (some d))):gz n i c L=none:=by
 unfold gz;rw[e];simp only[g,VP,VZ];split
 .rename_i hi
  split
  .rename_i f
   rcases h with h|h|⟨d,h⟩|⟨d,h⟩
   .rw[hi]at h;cases h
   .rw[f]at h;cases h
   .rw[h]
   .rw[h];split
    .rename_i j a;cases a
    .rfl
  .rfl
 .rfl
def bm:Verd:=⟨0,[],0,[],[]⟩
def aD(v:Verd):Cel:=⟨-1,-1,-1,v⟩
theorem zE(h:dR c=true):c=aD c.v:=by
 cases c;simp[dR]at h;simp[aD,h]
theorem lc(v:Verd):dR (aD v)=true:=by simp[dR,aD]
theorem Hi:oN bm=true:=by simp[oN,bm,kC]
theorem Hj:eU bm=true:=by simp[eU,bm,kC]
theorem AL(h:gz n i c L=some L')(g:L[j]?=some (some b)):L'[j]?=some (some b):=by
 obtain⟨d,hd,⟨_,_,rfl⟩|⟨_,hi,l,f,a,rfl⟩⟩:=jc h
 .exact g
 .have h1:c.low.toNat≠j:=by intro e;rw[e,g]at f;cases f
  have k:c.high.toNat≠j:=by intro e;rw[e,g]at a;cases a
  rw[VV,VM k,VV,VM h1];exact g
theorem Ck{k:Nat}{S:OL}(y:L.length=n)(x:S.length=k)(h:gz n i c L=some L'):gz (n+k) i c (L++S)=some (L'++S):=by
 obtain⟨d,hd,⟨h1,s,rfl⟩|⟨h1,hi,u,e,b,rfl⟩⟩:=jc h
 .have a:i<L'.length:=(th.1 hd).1
  have:(L'++S)[i]?=some (some d):=by rw[VO a];exact hd
  simp[gz,this,h1,s]
 .have a:i<L.length:=(th.1 hd).1
  have g:c.low.toNat<L.length:=(th.1 e).1;have j:c.high.toNat<L.length:=(th.1 b).1
  have p:(L++S)[i]?=some (some d):=by rw[VO a];exact hd
  have q:(L++S)[c.low.toNat]?=some none:=by rw[VO g];exact e
  have r:(L++S)[c.high.toNat]?=some none:=by rw[VO j];exact b
  have f:lg (n+k) i c=true:=by
   obtain⟨l,v,a3,a4,m,o⟩:=jd.1 hi;exact jd.2 ⟨l,by omega,a3,by omega,m,o⟩
  rw[rn p h1 f u q r,XQ _ _ g,XQ _ _ (by simpa using j)]
def fV(t:Tr)(i:Nat)(j:Int)(v:Verd):Tr:=⟨t.root,t.cells.set i ⟨j,t.cells.length,t.cells.length+1,bm⟩++[aD v,aD v]⟩
theorem mr(t:Tr)(i:Nat)(j:Int)(v:Verd):(fV t i j v).cells.length=t.cells.length+2:=by simp[fV]
theorem qp{cs:List Cel}(a:cs[i]?=some c)(h:gz n i c L=some L'):mH n (cs.drop i) i L=mH n (cs.drop (i+1)) (i+1) L':=by
 obtain⟨b,a⟩:=th.1 a;rw[YC b,a];simp only[mH,h]
theorem I6(h:dz t=some L)(f:t.cells[i]?=some c)(j:dR c=true):eU c.v=true:=by
 have hp:=kJ (P:=λk _=>i<k->eU c.v=true) h (by intro h;omega) (λk d M m a hp l hi=>by
  by_cases e:k=i
  .subst e
   rw[f]at a;injection a with a;subst a;obtain⟨b,n,⟨_,g,_⟩|⟨h1,_⟩⟩:=jc l
   .exact g
   .rw[j]at h1;cases h1
  .exact hp (by omega))
 exact hp (th.1 f).1
theorem yP(h:dz t=some L){j:Int}(C:t.cells[i]?=some c)(F:dR c=true)(hn:t.cells.length+2<=2048)(H:L[i]?=some (some b))(I:bz b j=true):
 dz (fV t i j c.v)=some (L++[some (aW b j),some (aX b j)]):=by
 have u:=lq h;obtain⟨K,N,z3,z4,J⟩:=eg.1 u;have f:i<t.cells.length:=(th.1 C).1;have n:=mr t i j c.v;have hf:=I6 h C F;generalize x:fV t i j c.v=T at *
 have g:T.root=t.root:=by rw[<-x];rfl
 have r:∀k,k≠i->k<t.cells.length->T.cells[k]?=t.cells[k]?:=by
  intro k l E;rw[<-x];simp only[fV];rw[VO (by simpa using E),VV,VM (λe=>l e.symm)]
 have A:T.cells[i]?=some ⟨j,t.cells.length,t.cells.length+1,bm⟩:=by
  rw[<-x];simp only[fV];rw[VO (by simpa using f),VV,VS rfl,VS f]
 have B:ii T=true:=eg.2 ⟨by omega,by omega,by rw[g];omega,by rw[g];omega,by rw[g];exact J⟩
 have hP:=kJ (P:=λk M=>BOk t k M/\if k<=i then mH (t.cells.length+2) (T.cells.drop k) k (M++[none,none])=dz T
  else∃d,M[i]?=some (some d)/\(bz d j=true->mH (t.cells.length+2) (T.cells.drop k) k (M++[some (aW d j),some (aX d j)])=dz T)) h (by
  refine⟨vJ u,?_⟩;simp only[WJ,V8];rw[dz,VS B,n,Yv]
  congr 1
  simp only[j0,g,n,List.cons_append]
  rw[show t.cells.length+2-1=(t.cells.length-1)+2 by omega,<-List.replicate_append_replicate];rfl) (by
  intro k e M y l hp s;obtain⟨a,hp⟩:=hp;refine⟨vK a s,?_⟩;have m:k<t.cells.length:=(th.1 l).1;rcases XL k i with p|p|p
  .rw[VS (by omega)]at hp|-
   rw[<-hp];exact(qp (by rw[r k (by omega) m];exact l) (Ck (k:=2) (S:=[none,none]) a.len rfl s)).symm
  .subst p
   rw[C]at l;injection l with l;subst l;rw[VS (VU _)]at hp;rw[VM (by omega)];obtain⟨d,hd,⟨_,_,rfl⟩|⟨h1,_⟩⟩:=jc s
   .refine⟨d,hd,λq=>?_⟩
    rw[<-hp];refine(qp A ?_).symm
    have z:(y++[none,none])[k]?=some (some d):=by rw[VO (by rw[a.len];exact f)];exact hd
    have D:lg (t.cells.length+2) k ⟨j,t.cells.length,t.cells.length+1,bm⟩=true:=jd.2 ⟨by simp only;omega,by simp only;omega,by simp only;omega,by simp only;omega,by simp only;omega,Hi⟩
    have t1:((t.cells.length:Int)).toNat=y.length:=by rw[a.len];omega
    have t2:((t.cells.length:Int)+1).toNat=y.length+1:=by rw[a.len];omega
    rw[rn z (by simp[dR]) D q (by simp only;rw[t1];simp) (by simp only;rw[t2];simp)];simp only[t1,t2]
    congr 1
    rw[Xn _ _ (by omega),Xn _ _ (by omega)];simp
   .rw[F]at h1;cases h1
  .rw[VM (by omega)]at hp|-
   obtain⟨d,hd,hp⟩:=hp;refine⟨d,AL s hd,λq=>?_⟩;rw[<-hp q]
   exact(qp (by rw[r k (by omega) m];exact l) (Ck (k:=2) (S:=[some (aW d j),some (aX d j)]) a.len rfl s)).symm)
 obtain⟨a,hP⟩:=hP;rw[VM (by omega)]at hP;obtain⟨d,hd,hP⟩:=hP;rw[H]at hd;injection hd with hd;injection hd with hd;subst hd;rw[<-hP I]
 have o:T.cells.drop t.cells.length=[aD c.v,aD c.v]:=by
  rw[<-x];simp only[fV];rw[Yn (by simp),Ye (by simp)];rfl
 rw[o]
 have z:(L++[some (aW b j),some (aX b j)])[t.cells.length]?=some (some (aW b j)):=by rw[<-a.len];simp
 have G:(L++[some (aW b j),some (aX b j)])[t.cells.length+1]?=some (some (aX b j)):=by rw[<-a.len];simp
 simp only[mH];rw[kL (t:=t) z (lc _),VS (show eU (aD c.v).v=true from hf)];simp only;rw[kL (t:=t) G (lc _),VS (show eU (aD c.v).v=true from hf)]
def dl(t:Tr)(i:Nat)(v:Verd):Tr:=⟨t.root,t.cells.set i (aD v)⟩
theorem EA(h:dz t=some L){v:Verd}(o:t.cells[i]?=some c)(q:dR c=true)(hf:eU v=true):dz (dl t i v)=some L:=by
 have n:=lq h;have f:i<t.cells.length:=(th.1 o).1
 have b:(dl t i v).cells.length=t.cells.length:=by simp[dl]
 generalize l:dl t i v=T at *
 have a:T.root=t.root:=by rw[<-l];rfl
 have m:ii T=true:=by
  obtain⟨u,x,z3,z4,r⟩:=eg.1 n;exact eg.2 ⟨by omega,by omega,by rw[a];omega,by rw[a];omega,by rw[a];exact r⟩
 have hP:=kJ (P:=λk M=>mH t.cells.length (T.cells.drop k) k M=dz T) h (by
  rw[dz,VS m,b,Yv]
  congr 1
  simp only[j0,a,b]) (by
  intro k e M s g hp p;rw[<-hp];by_cases j:k=i
  .subst j
   rw[o]at g;injection g with g;subst g;obtain⟨d,hd,⟨_,_,rfl⟩|⟨h1,_⟩⟩:=jc p
   .refine(qp (c:=aD v) (by rw[<-l];simp[dl,f]) ?_).symm
    rw[kL (t:=t) hd (lc _),VS (show eU (aD v).v=true from hf)]
   .rw[q]at h1;cases h1
  .refine(qp ?_ p).symm
   rw[<-l];simp only[dl]
   rw[VV,VM (λe=>j e.symm)];exact g)
 rw[<-hP,Ye (by omega)];rfl
theorem I7(h:dz t=some L):∃c,t.cells[t.cells.length-1]?=some c/\dR c=true:=by
 obtain⟨m,n,z3,z4,o⟩:=eg.1 (lq h)
 have a:t.cells.length-1<t.cells.length:=by omega
 refine⟨t.cells[t.cells.length-1],an a,?_⟩
 have hp:=kJ (P:=λk _=>k=t.cells.length->dR t.cells[t.cells.length-1]=true) h (by omega) (λk d M j g hp i hi=>by
  obtain⟨b,l,⟨f,_,_⟩|⟨_,h1,_⟩⟩:=jc i
  .have e:t.cells.length-1=k:=by omega
   have:=an a;rw[show t.cells[t.cells.length-1]?=t.cells[k]? by rw[e],g]at this;injection this with this;rw[<-this];exact f
  .have:=jd.1 h1
   omega)
 exact hp rfl
def ej(t:Tr)(i:Nat):Bool:=match t.cells[i]? with
 |some c=>dR c
 |none=>false
def fP(t:Tr)(n:Nat):List Nat:=(List.range n).filter (ej t)
def fE(t:Tr):List Nat:=if aT t then fP t t.cells.length else[]
theorem xk(t:Tr)(n:Nat):fP t (n+1)=if ej t n then fP t n++[n]else fP t n:=by
 simp only[fP,Xk,XI];cases h:ej t n<;>simp[h]
theorem EZ(t:Tr)(n:Nat):(fP t n).length<=n:=by
 have:=Yj (ej t) (List.range n);simpa[fP]using this
theorem E0:i∈fE t↔aT t=true/\∃c,t.cells[i]?=some c/\dR c=true:=by
 unfold fE
 cases e:aT t with
 |false=>simp
 |true=>
  simp only[V8,true_and,fP,WX,Wz,ej];constructor
  .rintro⟨h1,a⟩
   rw[an h1]at a;exact⟨_,an h1,a⟩
  .rintro⟨c,b,d⟩
   refine⟨(th.1 b).1,by rw[b];exact d⟩
theorem E1(h:aT t=true):0<(fE t).length:=by
 obtain⟨L,hL⟩:=Wo.1 h;obtain⟨c,a,b⟩:=I7 hL;exact List.length_pos_of_mem (E0.2 ⟨h,c,a,b⟩)
def dA(t:Tr)(i j:Int):Bool:=aT t&&decide (0<=i)&&decide (i<t.cells.length)&&ej t i.toNat&&decide (t.cells.length+2<=2048)&&bz ((ah t)[i.toNat]?.getD []) j
def eD(t:Tr)(i:Nat):Verd:=match t.cells[i]? with
 |some c=>c.v
 |none=>bm
def cL(t:Tr)(i j:Int):Tr:=if dA t i j then fV t i.toNat j (eD t i.toNat)else t
def cO(t:Tr)(i:Int)(v:Verd):Bool:=aT t&&decide (0<=i)&&decide (i<t.cells.length)&&ej t i.toNat&&decide ((eD t i.toNat).kind=0)&&eU v
def bX(t:Tr)(i:Int)(v:Verd):Tr:=if cO t i v then dl t i.toNat v else t
theorem xl(h:ej t i=true):∃c,t.cells[i]?=some c/\dR c=true/\eD t i=c.v:=by
 unfold ej at h;split at h
 .rename_i c a
  exact⟨c,a,h,by simp[eD,a]⟩
 .cases h
theorem yQ(h:aT t=true)(i j:Int):aT (cL t i j)=true/\(cL t i j).root=t.root/\(cL t i j).cells.length<=t.cells.length+2:=by
 unfold cL;split
 .rename_i f
  simp only[dA,An,L4]at f;obtain⟨⟨⟨⟨⟨h1,n⟩,o⟩,g⟩,h5⟩,h6⟩:=f;obtain⟨L,hL⟩:=Wo.1 h;obtain⟨c,k,l,m⟩:=xl g
  have e:i.toNat<t.cells.length:=by omega
  obtain⟨b,a⟩:=(qo hL).pre i.toNat e
  have d:(ah t)[i.toNat]?=some b:=by
   have:=j5 hL;rw[this]at a;simpa using a
  rw[d]at h6;have:=yP hL k l h5 a h6;rw[m];exact⟨by rw[aT,this];rfl,rfl,by rw[mr];exact VU _⟩
 .exact⟨h,rfl,by omega⟩
theorem oO(h:aT t=true)(i:Int)(v:Verd):aT (bX t i v)=true/\(bX t i v).root=t.root/\(bX t i v).cells.length=t.cells.length/\ah (bX t i v)=ah t:=by
 unfold bX;split
 .rename_i a
  simp only[cO,An,L4]at a;obtain⟨⟨⟨⟨⟨h1,f⟩,g⟩,b⟩,h5⟩,h6⟩:=a;obtain⟨L,hL⟩:=Wo.1 h;obtain⟨c,d,e,j⟩:=xl b;have:=EA hL d e h6;exact⟨by rw[aT,this];rfl,rfl,by simp[dl],by simp[ah,this,hL]⟩
 .exact⟨h,rfl,rfl,rfl⟩
def im(r:List (Int×Int)):Tr:=if dy r then⟨r,[aD bm]⟩else⟨[],[]⟩
theorem I8(h:dy r=true):dz ⟨r,[aD bm]⟩=some [some r]:=by
 have a:ii ⟨r,[aD bm]⟩=true:=by simp[ii,h]
 rw[dz,VS a];simp only[j0,WT,XU,List.replicate,mH];rw[kL (t:=⟨r,[]⟩) (b:=r) rfl (lc _),VS (show eU (aD bm).v=true from Hj)]
theorem MN(h:dy r=false):dz ⟨r,[aD bm]⟩=none:=by
 have a:ii ⟨r,[aD bm]⟩=false:=by simp[ii,h]
 rw[dz,VM (by simp[a])]
theorem qq(r:List (Int×Int)):aT ⟨r,[aD bm]⟩=dy r:=by
 cases h:dy r with
 |true=>rw[aT,I8 h];rfl
 |false=>rw[aT,MN h];rfl
theorem EB{β:Type}{f:α->β->Bool}{xs:List α}{ys:List β}:dN f xs ys=true↔∀(i:Nat) x y,xs[i]?=some x->ys[i]?=some y->f x y=true:=by
 unfold dN;rw[VL];constructor
 .intro h i x y a b
  have:(List.zipWith f xs ys)[i]?=some (f x y):=by simp[List.getElem?_zipWith,a,b]
  exact h _ (Is this)
 .intro h z c
  obtain⟨i,hi⟩:=Wt c;rw[List.getElem?_zipWith]at hi
  cases a:xs[i]? with
  |none=>simp[a]at hi
  |some x=>
   cases b:ys[i]? with
   |none=>simp[a,b]at hi
   |some y=>
    simp[a,b]at hi;rw[<-hi];exact h i x y a b
theorem MO{c:List Int}(f:bj vI b=true):lO b c=true↔b.length=c.length/\∀(i:Nat) x y,b[i]?=some x->c[i]?=some y->x.1<=y/\y<=x.2:=by
 simp only[lO,An,L4,EB];constructor
 .rintro⟨h1,d⟩
  refine⟨h1,λi x y a e=>?_⟩;have:=d i x y a e;simp only[nq,An,L4]at this;exact⟨this.1.2,this.2⟩
 .rintro⟨h1,d⟩
  refine⟨h1,λi x y a e=>?_⟩;simp only[nq,An,L4];exact⟨⟨fq.1 f _ (Is a),(d i x y a e).1⟩,(d i x y a e).2⟩
theorem nW{a:Bx}(f:bj vI a=true)(g:bj vI b=true):bk a b=true↔a.length=b.length/\∀(i:Nat) x y,a[i]?=some x->b[i]?=some y->x.1<=y.2/\y.1<=x.2:=by
 simp only[bk,An,L4,EB];constructor
 .rintro⟨h1,e⟩
  refine⟨h1,λi x y c d=>?_⟩;have:=e i x y c d;simp only[iA,An,L4]at this;omega
 .rintro⟨h1,e⟩
  refine⟨h1,λi x y c d=>?_⟩;have vx:aw x.1 x.2=true:=fq.1 f _ (Is c);have vy:aw y.1 y.2=true:=fq.1 g _ (Is d);simp only[iA,vx,vy,An,L4,true_and];have:=e i x y c d;have:=fc.1 vx;have:=fc.1 vy;omega
def aZ(t:Tr)(c:Int):Bx:=(ah t)[c.toNat]?.getD []
theorem iT(b:aT t=true){c:Int}(h:c.toNat<t.cells.length):(ah t)[c.toNat]?=some (aZ t c)/\(aZ t c).length=t.root.length/\bj vI (aZ t c)=true:=by
 have a:c.toNat<(ah t).length:=by rw[fA b];exact h
 have e:(ah t)[c.toNat]?=some (aZ t c):=by simp[aZ,an a]
 exact⟨e,kK e⟩
def EC(t:Tr)(chain:List Int)(j:Nat):Bool:=match chain[j]? with
 |some c=>decide (0<=c)&&decide (c<t.cells.length)&&ej t c.toNat&& !((chain.take j).contains c)&&(decide (j=0)||bk (aZ t (chain[j-1]?.getD 0)) (aZ t c))
 |none=>false
theorem Hk{chain:List Int}{c:Int}(a:chain[j]?=some c):EC t chain j=true↔0<=c/\c<t.cells.length/\ej t c.toNat=true/\c∉chain.take j/\(j=0\/bk (aZ t (chain[j-1]?.getD 0)) (aZ t c)=true):=by
 simp[EC,a,and_assoc]
structure ChOk(t:Tr)(chain p q:List Int):Prop where
 valid:aT t=true
 hp:lO t.root p=true
 hq:lO t.root q=true
 ne:chain≠[]
 all:∀j,j<chain.length->EC t chain j=true
namespace ChOk
variable {t:Tr} {chain p q:List Int}
theorem get(h:ChOk t chain p q)(a:j<chain.length):0<=chain[j]/\chain[j]<t.cells.length/\ej t chain[j].toNat=true/\chain[j]∉chain.take j/\(j=0\/bk (aZ t (chain[j-1]?.getD 0)) (aZ t chain[j])=true):=
 (Hk (an a)).1 (h.all j a)
theorem box(h:ChOk t chain p q)(a:j<chain.length):(ah t)[chain[j].toNat]?=some (aZ t chain[j])/\(aZ t chain[j]).length=t.root.length/\bj vI (aZ t chain[j])=true:=by
 have:=h.get a;exact iT h.valid (by omega)
theorem touch(h:ChOk t chain p q)(a:j+1<chain.length):bk (aZ t chain[j]) (aZ t chain[j+1])=true:=by
 have:=(h.get a).2.2.2.2;rcases this with e|e
 .omega
 .rw[Nat.add_sub_cancel,an (by omega)]at e;exact e
end ChOk
structure BS where
 far:List Int
 q:List Nat
section
variable (n:Nat) (may has hasF:Nat->Bool) (tch:Nat->Nat->Bool)
def au(far:List Int)(i:Nat):Int:=far[i]?.getD 0
def bI:Nat->BS
 |0=>⟨List.replicate n 0,[]⟩
 |i+1=>if may i&&has i then⟨(bI i).far.set i 1,(bI i).q++[i]⟩else bI i
def cW(s:BS)(k:Nat):Nat:=s.q[k]?.getD 0
def yR(s:BS)(k i:Nat):Bool:=(au s.far i==0)&&may i&&tch i (cW s k)
def qu(s:BS)(k i:Nat):BS:=⟨s.far.set i (au s.far (cW s k)+1),s.q++[i]⟩
def bJ(s:BS)(k:Nat):Nat->BS
 |0=>s
 |i+1=>if yR may tch (bJ s k i) k i then qu (bJ s k i) k i else bJ s k i
def bK:Nat->BS
 |0=>bI n may has n
 |k+1=>if k<(bK k).q.length then bJ may tch (bK k) k n else bK k
structure BInv2(s:BS):Prop where
 len:s.far.length=n
 cnt:s.far.countP (λx=>x !=0)=s.q.length
 mem:∀j∈s.q,j<n/\1<=au s.far j
 nn:∀i,0<=au s.far i
 top:∀i,au s.far i<=s.q.length
 may':∀i,1<=au s.far i->may i=true
 back:∀i,1<=au s.far i->(au s.far i=1/\has i=true)\/∃p,p<n/\au s.far p=au s.far i-1/\1<=au s.far p/\tch i p=true
variable {n may has hasF tch}
theorem mt(hi:i<far.length):au (far.set i v) j=if j=i then v else au far j:=by
 unfold au;rw[VV];by_cases h:i=j
 .subst h;simp[hi]
 .rw[VM h,VM (λe=>h e.symm)]
theorem BInv2.le{s:BS}(h:BInv2 n may has tch s):s.q.length<=n:=by
 rw[<-h.cnt,<-h.len];exact List.countP_le_length
theorem MP(hi:i<far.length)(b:au far i=0)(c:v≠0):(far.set i v).countP (λx=>x !=0)=far.countP (λx=>x !=0)+1:=by
 have a:far[i]=0:=by simpa[au,an hi]using b
 rw[List.countP_set hi];simp[a,c]
theorem BInv2.put{s:BS}(h:BInv2 n may has tch s)(hi:i<n)(m:au s.far i=0)(o:1<=v)(r:may i=true)(u:v<=s.q.length+1)
 (f:(v=1/\has i=true)\/∃p,p<n/\au s.far p=v-1/\1<=au s.far p/\tch i p=true):BInv2 n may has tch ⟨s.far.set i v,s.q++[i]⟩:=by
 have a:i<s.far.length:=by rw[h.len];exact hi
 refine⟨by simpa using h.len,?_,?_,?_,?_,?_,?_⟩
 .simp only[V9,WT];rw[MP a m (by omega),h.cnt]
 .intro j c
  simp only[V4,Wu]at c;simp only[mt a];rcases c with c|rfl
  .refine⟨(h.mem j c).1,?_⟩
   split
   .exact o
   .exact(h.mem j c).2
  .exact⟨hi,by simp[o]⟩
 .intro j;simp only[mt a];split
  .omega
  .exact h.nn j
 .intro j;simp only[mt a,V9,WT]
  have:=h.top j;split<;>omega
 .intro j;simp only[mt a];split
  .rename_i e;rw[e];exact λ_=>r
  .exact h.may' j
 .have b:∀p,1<=au s.far p->p≠i:=λp hp e=>by rw[e,m]at hp;omega
  intro j;simp only[mt a];split
  .rename_i e;rw[e];intro _
   rcases f with f|⟨p,g,k,d,l⟩
   .exact .inl f
   .exact .inr ⟨p,g,by rw[VM (b p d)];exact k,by rw[VM (b p d)];exact d,l⟩
  .intro c
   rcases h.back j c with f|⟨p,g,k,d,l⟩
   .exact .inl f
   .exact .inr ⟨p,g,by rw[VM (b p d)];exact k,by rw[VM (b p d)];exact d,l⟩
theorem uv:∀i,i<=n->BInv2 n may has tch (bI n may has i)/\∀j,i<=j->au (bI n may has i).far j=0
 |0,_=>by
  have b:∀j,au (List.replicate n (0:Int)) j=0:=λj=>by simp only[au,Wn];split<;>rfl
  refine⟨⟨by simp[bI],by simp[bI,List.countP_replicate],by simp[bI],λj=>by simp only[bI,b];omega,λj=>by simp only[bI,b];simp,λj a=>by simp only[bI,b]at a;omega,λj a=>by simp only[bI,b]at a;omega⟩,λj _=>by simp only[bI,b]⟩
 |i+1,hi=>by
  obtain⟨ih,d⟩:=uv i (by omega);simp only[bI];split
  .rename_i c
   simp only[An]at c;refine⟨ih.put (by omega) (d i (VU _)) (by omega) c.1 (by omega) (.inl ⟨rfl,c.2⟩),λj a=>?_⟩;simp only[mt (show i<(bI n may has i).far.length by rw[ih.len];omega)];rw[VM (by omega)];exact d j (by omega)
  .exact⟨ih,λj a=>d j (by omega)⟩
theorem AM{s:BS}{k:Nat}(hs:BInv2 n may has tch s)(d:k<s.q.length):∀i,i<=n->BInv2 n may has tch (bJ may tch s k i)/\s.q.length<=(bJ may tch s k i).q.length/\cW (bJ may tch s k i) k=cW s k
 |0,_=>⟨hs,VU _,rfl⟩
 |i+1,hi=>by
  obtain⟨ih,e,c⟩:=AM hs d i (by omega);simp only[bJ];split
  .rename_i b
   simp only[yR,An,WK]at b
   have a:cW (bJ may tch s k i) k∈(bJ may tch s k i).q:=by
    unfold cW;rw[an (by omega:k<(bJ may tch s k i).q.length)];exact Wb _
   have hq:=ih.mem _ a;refine⟨ih.put (by omega) b.1.1 (by omega) b.1.2 (by have:=ih.top (cW (bJ may tch s k i) k);omega) (.inr ⟨_,hq.1,by omega,hq.2,b.2⟩),by simp only[qu,V9,WT];omega,?_⟩;rw[<-c];simp only[qu,cW];rw[VO (by omega)]
  .exact⟨ih,e,c⟩
theorem sE:∀k,BInv2 n may has tch (bK n may has tch k)
 |0=>(uv n (VU _)).1
 |k+1=>by
  have ih:=sE k;simp only[bK];split
  .rename_i a
   exact(AM ih a n (VU _)).1
  .exact ih
theorem F3{k:Nat}(h:¬k<(bK n may has tch k).q.length):∀m,bK n may has tch (k+m)=bK n may has tch k
 |0=>rfl
 |m+1=>by
  have ih:=F3 h m;rw[<-Xu];simp only[bK];rw[ih,VM (by omega)]
def aS(far:List Int)(hasF:Nat->Bool):Nat->Int
 |0=>-1
 |i+1=>if decide (0<au far i)&&hasF i&&(decide (aS far hasF i<0)||decide (au far i<au far (aS far hasF i).toNat))then(i:Int)else aS far hasF i
theorem xm{far:List Int}:∀i,-1<=aS far hasF i/\aS far hasF i<i/\(0<=aS far hasF i->0<au far (aS far hasF i).toNat/\hasF (aS far hasF i).toNat=true)
 |0=>by simp[aS]
 |i+1=>by
  have ih:=xm (far:=far) i;simp only[aS];split
  .rename_i a
   simp only[An,L4]at a;refine⟨by omega,by omega,λ_=>?_⟩;rw[V7];exact⟨a.1.1,a.1.2⟩
  .exact⟨ih.1,by omega,ih.2.2⟩
def nC(far:List Int)(tch:Nat->Nat->Bool)(at_ i:Nat):Bool:=(au far i==au far at_-1)&&tch i at_
def nS(n:Nat)(far:List Int)(tch:Nat->Nat->Bool)(at_:Nat):Nat->Int
 |0=>-1
 |m+1=>if nC far tch at_ (n-1-m)then((n-1-m:Nat):Int)else nS n far tch at_ m
theorem ED{far:List Int}{at_:Nat}:∀m,m<=n->(0<=nS n far tch at_ m->(nS n far tch at_ m).toNat<n/\nC far tch at_ (nS n far tch at_ m).toNat=true)/\(∀i,i<n->n-m<=i->nC far tch at_ i=true->0<=nS n far tch at_ m)/\-1<=nS n far tch at_ m
 |0,_=>by simp[nS];omega
 |m+1,d=>by
  have ih:=ED (far:=far) (at_:=at_) m (by omega);simp only[nS];split
  .rename_i b
   refine⟨λ_=>?_,λ_ _ _ _=>by omega,by omega⟩;rw[V7];exact⟨by omega,b⟩
  .rename_i b
   refine⟨ih.1,λi h1 c a=>?_,ih.2.2⟩;by_cases e:i=n-1-m
   .rw[e]at a;exact absurd a b
   .exact ih.2.1 i h1 (by omega) a
def Cl(n:Nat)(far:List Int)(tch:Nat->Nat->Bool)(at_:Nat):Nat:=(nS n far tch at_ n).toNat
theorem AN{s:BS}(h:BInv2 n may has tch s)(b:∀i j,i<n->j<n->tch i j=tch j i){a:Nat}(k:a<n)(o:1<au s.far a):nS n s.far tch a n=(Cl n s.far tch a:Int)/\Cl n s.far tch a<n/\au s.far (Cl n s.far tch a)=au s.far a-1/\tch (Cl n s.far tch a) a=true:=by
 have d:=ED (n:=n) (tch:=tch) (far:=s.far) (at_:=a) n (VU _);rcases h.back a (by omega)with⟨e,_⟩|⟨p,f,l,q,m⟩
 .omega
 .have hp:nC s.far tch a p=true:=by
   simp only[nC,l,beq_self_eq_true,We];rw[b p a f k];exact m
  have g:=d.2.1 p f (by omega) hp;obtain⟨h1,c⟩:=d.1 g;simp only[nC,An,WK]at c;exact⟨by unfold Cl;omega,h1,c.1,c.2⟩
def pS(n:Nat)(far:List Int)(tch:Nat->Nat->Bool)(a:Nat):Nat->Nat
 |0=>a
 |r+1=>Cl n far tch (pS n far tch a r)
theorem yh{s:BS}(h:BInv2 n may has tch s)(b:∀i j,i<n->j<n->tch i j=tch j i){a:Nat}(c:a<n)(d:0<au s.far a):∀r:Nat,(r:Int)<au s.far a->pS n s.far tch a r<n/\au s.far (pS n s.far tch a r)=au s.far a-r
 |0,_=>⟨c,by simp[pS]⟩
 |r+1,g=>by
  obtain⟨e,f⟩:=yh h b c d r (by omega);have:=AN h b e (by omega);simp only[pS];exact⟨this.2.1,by rw[this.2.2.1,f];omega⟩
theorem KO{s:BS}(h:BInv2 n may has tch s)(b:∀i j,i<n->j<n->tch i j=tch j i){a:Nat}(d:a<n)(c:0<au s.far a){r:Nat}(f:(r:Int)+1<au s.far a):tch (pS n s.far tch a (r+1)) (pS n s.far tch a r)=true:=by
 obtain⟨e,g⟩:=yh h b d c r (by omega);exact(AN h b e (by omega)).2.2.2
end
def mu(n:Nat)(may has hasF:Nat->Bool)(tch:Nat->Nat->Bool):Int:=aS (bK n may has tch n).far hasF n
def dq(n:Nat)(may has hasF:Nat->Bool)(tch:Nat->Nat->Bool):Bool:=decide (0<=mu n may has hasF tch)
def eM(n:Nat)(may has hasF:Nat->Bool)(tch:Nat->Nat->Bool):List Nat:=if dq n may has hasF tch then(List.range (au (bK n may has tch n).far (mu n may has hasF tch).toNat).toNat).map (pS n (bK n may has tch n).far tch (mu n may has hasF tch).toNat)else[]
theorem ro{may has hasF:Nat->Bool}{tch:Nat->Nat->Bool}(c:∀i j,i<n->j<n->tch i j=tch j i)(h:dq n may has hasF tch=true):
 let l:=eM n may has hasF tch
 0<l.length/\l.length<=n/\(∀(r:Nat) x,l[r]?=some x->x<n/\may x=true/\x∉l.take r)/\(∀(r:Nat) x y,l[r]?=some x->l[r+1]?=some y->tch x y=true)/\
  (∀x,l[0]?=some x->hasF x=true)/\(∀x,l[l.length-1]?=some x->has x=true):=by
 simp only[dq,L4]at h;have f:=sE (n:=n) (may:=may) (has:=has) (tch:=tch) n;have A:=xm (hasF:=hasF) (far:=(bK n may has tch n).far) n
 have v:decide (0<=mu n may has hasF tch)=true:=by simpa using h
 simp only[eM,dq,v,V8];unfold mu at h|-;obtain⟨G,H,a3⟩:=A;obtain⟨a4,u⟩:=a3 h;generalize I:(aS (bK n may has tch n).far hasF n).toNat=a at *
 have m:a<n:=by omega
 have o:=f.top a;have C:=f.le;generalize bK n may has tch n=s at *;have hp:=yh f c m a4;have F:=λ{r:Nat}=>KO (r:=r) f c m a4
 have b:∀(r:Nat) x,((List.range (au s.far a).toNat).map (pS n s.far tch a))[r]?=some x->(r:Int)<au s.far a/\x=pS n s.far tch a r:=by
  intro r x d;rw[VN,VK]at d;obtain⟨y,g,rfl⟩:=d;obtain⟨h1,e⟩:=th.1 g;simp at h1 e;exact⟨by omega,by rw[e]⟩
 refine⟨by simp;omega,by simp;omega,?_,?_,?_,?_⟩
 .intro r x d
  obtain⟨h1,rfl⟩:=b r x d;obtain⟨e,k⟩:=hp r h1;refine⟨e,f.may' _ (by omega),λD=>?_⟩;obtain⟨q,hq⟩:=Wt D;rw[Wk]at hq;split at hq
  .rename_i E
   obtain⟨z,h5⟩:=b q _ hq;have:=(hp q z).2;rw[<-h5,k]at this;omega
  .cases hq
 .intro r x y d g
  obtain⟨h1,rfl⟩:=b r x d;obtain⟨e,rfl⟩:=b (r+1) y g;rw[c _ _ (hp r h1).1 (hp (r+1) e).1];exact F (by omega)
 .intro x d
  obtain⟨h1,rfl⟩:=b 0 x d;exact u
 .intro x d
  obtain⟨h1,rfl⟩:=b _ x d;simp only[Wp,List.length_range]at h1 d|-;obtain⟨e,k⟩:=hp _ h1;rcases f.back _ (show 1<=au s.far (pS n s.far tch a ((au s.far a).toNat-1)) by omega)with B|⟨p,J,K,L,M⟩
  .exact B.2
  .omega
set_option maxRecDepth 100000 in
@[simp] theorem Tq:fC prog 124:=by
 have hf:=func124;have nt:=ntmps124;have rs:=results124;exact Lg
set_option maxRecDepth 100000 in
@[simp] theorem Ts:fC prog 138:=by
 have hf:=func138;have nt:=ntmps138;have rs:=results138;exact Lg
set_option maxRecDepth 100000 in
@[simp] theorem TY:fC prog 67:=by
 have hf:=func67;have nt:=ntmps67;have rs:=results67;exact BL
set_option maxRecDepth 100000 in
@[simp] theorem Tt:fC prog 126:=by
 have hf:=func126;have nt:=ntmps126;have rs:=results126;exact BL
set_option maxRecDepth 100000 in
@[simp] theorem Tu:fC prog 130:=by
 have hf:=func130;have nt:=ntmps130;have rs:=results130;exact BL
theorem Ew(h:1<=t.cells.length):(List.replicate t.cells.length (PV.val (.slice none 0 0))).set 0 (iv t.root)=(j0 t).map sD:=by
 obtain⟨n,hn⟩:∃n,t.cells.length=n+1:=⟨t.cells.length-1,by omega⟩;simp[j0,hn,List.replicate_succ,sD]
theorem ey:sD none=.val (.slice none 0 0):=rfl
theorem eC(b:Bx):sD (some b)=iv b:=rfl
theorem bP{L:List α}{x:α}(h:L[i]?=some x)(a:i<L.length):L[i]=x:=(th.1 h).2
theorem set_row{a z:Nat}{x y:Bx}:((L.map sD).set a (iv x)).set z (iv y)=((L.set a (some x)).set z (some y)).map sD:=by
 simp[Xs,sD]
theorem yN(h:lg n i c=false):c.low<=i\/(n:Int)<=c.low\/c.high<=i\/(n:Int)<=c.high\/(c.low==c.high)=true\/oN c.v=false:=by
 cases a:oN c.v with
 |false=>exact .inr (.inr (.inr (.inr (.inr rfl))))
 |true=>
  have:¬((i:Int)<c.low/\c.low<n/\(i:Int)<c.high/\c.high<n/\c.low≠c.high/\oN c.v=true):=by rw[<-jd,h];simp
  simp only[a,YF]at this;simp only[WK];omega
theorem KJ(t:Tr)(hl:t.cells.length<=9223372036854775807):bh 125 (eT t) (.tup [.sl ((ah t).map iv),B (aT t)]):=by
 have cv:=Tp t.root
 cases Q:ii t with
 |false=>
  have X:=tw (t:=t) (by simp[dz,Q]);rw[X.1,X.2];by_cases h1:t.cells.length<1
  .have J:(t.cells.length:Int)<1:=by omega
   refine Dp func125 λC hP hN=>?_;exact Gy
  have J:¬(t.cells.length:Int)<1:=by omega
  by_cases h2:2048<t.cells.length
  .have K:(2048:Int)<t.cells.length:=by omega
   refine Dp func125 λC hP hN=>?_;exact Gy
  have K:¬(2048:Int)<t.cells.length:=by omega
  have h3:dy t.root=false:=by
   cases h:dy t.root with
   |false=>rfl
   |true=>simp[ii,h]at Q;omega
  rw[h3]at cv;refine Dp func125 λC hP hN=>?_;exact Gy
 |true=>
  obtain⟨z1,z2,z3,z4,z5⟩:=eg.1 Q
  have h1:¬t.cells.length<1:=by omega
  have h2:¬2048<t.cells.length:=by omega
  have J:¬(t.cells.length:Int)<1:=by omega
  have K:¬(2048:Int)<t.cells.length:=by omega
  have h3:dy t.root=true:=by simp only[ii,An]at Q;exact Q.2
  have V:=Ew z1;rw[h3]at cv;refine Dp func125 λC hP hN=>?_;refine GT (so J h1 h2 K V (show(24:Int)*t.cells.length<=281474976710656 by omega) (show(t.cells.length:Int)<=9223372036854775807 by omega) (show 0<t.cells.length by omega)) ?_;refine WP.loopN [7] t.cells.length (λi st=>∃L,BInv t i L/\st.t 4=.pv (Z t.cells.length)/\st.t 5=.arr 27 t.cells.length/\st.t 33=.pv (.sl (t.cells.map bw))/\st.t 34=.pv (Z t.cells.length)/\st.t 35=.pv (Z i)/\st.h 7=none/\st.h 27=some (.row 39 1 (L.map sD) 0)) (by exact⟨j0 t,Ch Q,by simp[V]⟩) ?_;rintro i st hi ⟨L,G,g4,g5,g,j,k,m,e⟩;have l:=G.bok.len;by_cases a:i<t.cells.length
  .have H:=aj a hl
   have O:i<L.length:=by omega
   generalize y:t.cells[i]=c at *
   have q:t.cells[i]?=some c:=by rw[an a,y]
   have u:gz t.cells.length i c L=none->aT t=false/\ah t=[]:=λh=>tw (Ci G a (by rw[y];exact h));have cl:=KM c;have cf:=OY c.v;have S:=To c.v
   cases f:L[i]? with
   |none=>rw[an O]at f;cases f
   |some x=>
   cases x with
   |none=>
    have o:=bP f O;obtain⟨z,A⟩:=u (by simp[gz,f]);rw[z,A];exact GS (s7 g4 g5 g j k m e a H f o @ey @eC q (gA y l))
   |some b=>
   have o:=bP f O;obtain⟨T,ar⟩:=G.bok.ok i b f
   have p:b≠[]:=by intro h;rw[h]at T;simp at T;omega
   have r:b.isEmpty=false:=by simp[p]
   cases n:dR c with
   |true=>
    rw[n]at cl
    cases hf:eU c.v with
    |true=>
     rw[hf]at cf;have P:=tv (L':=L) G a (by rw[y,kL (t:=t) f n,hf];rfl);refine GT (s7 g4 g5 g j k m e a H f o @ey @eC q (f7 y l r p)) ?_
     all_goals exact⟨L,P,rfl⟩
    |false=>
     rw[hf]at cf;obtain⟨z,A⟩:=u (by rw[kL (t:=t) f n,hf];rfl);rw[z,A];exact GS (s7 g4 g5 g j k m e a H f o @ey @eC q (f7 y l r p))
   |false=>
    rw[n]at cl
    cases s:lg t.cells.length i c with
    |false=>
     obtain⟨z,A⟩:=u (lX f n (.inl s));rw[z,A];rcases yN s with h|h|h|h|h|h
     all_goals try rw[h]at S
     all_goals
      exact GS (s7 g4 g5 g j k m e a H f o @ey @eC q (f8 y l r p h))
    |true=>
     obtain⟨i1,i2,i3,i4,i5,i6⟩:=jd.1 s;rw[i6]at S;have R:=Qa b c.joint (by omega)
     have j1:¬c.low<=i:=by omega
     have j2:¬(t.cells.length:Int)<=c.low:=by omega
     have j3:¬c.high<=i:=by omega
     have j4:¬(t.cells.length:Int)<=c.high:=by omega
     have k1:c.low.toNat<t.cells.length:=by omega
     have k2:c.high.toNat<t.cells.length:=by omega
     have k3:0<=c.low:=by omega
     have k4:0<=c.high:=by omega
     have k5:c.low.toNat<L.length:=by omega
     have k6:c.high.toNat<L.length:=by omega
     cases hh:bz b c.joint with
     |false=>
      obtain⟨z,A⟩:=u (lX f n (.inr (.inl hh)));rw[z,A];rw[hh]at R;exact GS (s7 g4 g5 g j k m e a H f o @ey @eC q (so y l r p j1 j2 j3 (gA j4 i5)))
     |true=>
     rw[hh]at R
     cases F:L[c.low.toNat]? with
     |none=>rw[an k5]at F;cases F
     |some xa=>
     have M:=bP F k5
     cases xa with
     |some d=>
      obtain⟨z,A⟩:=u (lX f n (.inr (.inr (.inl ⟨d,F⟩))));rw[z,A];obtain⟨E,_⟩:=G.bok.ok _ d F
      have D:d≠[]:=by intro h;rw[h]at E;simp at E;omega
      have N:d.isEmpty=false:=by simp[D]
      with_reducible repeat' (first|refine Sp.h ?_|((first|refine Wd ?_|refine Ss.h ?_|refine Sc.h (cl) ?_|refine Sc.h (S) ?_|refine Sc.h (R) ?_|(refine Sb.h ?_ ?_ ?_<;>(try intro hgd)<;>try exact Xy))<;>simp -implicitDefEqProofs (maxSteps:=2000000) [hP,hN,g4,g5,g,j,k,m,e,a,H,f,o,ey,eC,q,y,l,r,p,j1,j2,j3,j4,i5,k1,k2,k3,k4,F,M,N,D]<;>try refine Ya ?_)|refine X2 ?_ ?_|(refine Xd ?_ ?_<;>intro hcd<;>try exact Xx))
     |none=>
     cases I:L[c.high.toNat]? with
     |none=>rw[an k6]at I;cases I
     |some xz=>
     have ad:=bP I k6
     cases xz with
     |some d=>
      obtain⟨z,A⟩:=u (lX f n (.inr (.inr (.inr ⟨d,I⟩))));rw[z,A];obtain⟨E,_⟩:=G.bok.ok _ d I
      have D:d≠[]:=by intro h;rw[h]at E;simp at E;omega
      have N:d.isEmpty=false:=by simp[D]
      with_reducible repeat' (first|refine Sp.h ?_|((first|refine Wd ?_|refine Ss.h ?_|refine Sc.h (cl) ?_|refine Sc.h (S) ?_|refine Sc.h (R) ?_|(refine Sb.h ?_ ?_ ?_<;>(try intro hgd)<;>try exact Xy))<;>simp -implicitDefEqProofs (maxSteps:=2000000) [hP,hN,g4,g5,g,j,k,m,e,a,H,f,o,ey,eC,q,y,l,r,p,j1,j2,j3,j4,i5,k1,k2,k3,k4,F,M,I,ad,N,D]<;>try refine Ya ?_)|refine X2 ?_ ?_|(refine Xd ?_ ?_<;>intro hcd<;>try exact Xx))
     |none=>
      have P:=tv G a (by rw[y];exact rn f n s hh F I)
      with_reducible repeat' (first|refine Sp.h ?_|((first|refine Wd ?_|refine Ss.h ?_|refine Sc.h (cl) ?_|refine Sc.h (S) ?_|refine Sc.h (R) ?_|(refine Sb.h ?_ ?_ ?_<;>(try intro hgd)<;>try exact Xy))<;>simp -implicitDefEqProofs (maxSteps:=2000000) [hP,hN,g4,g5,g,j,k,m,e,a,H,f,o,ey,eC,q,y,l,r,p,j1,j2,j3,j4,i5,k1,k2,k3,k4,F,M,I,ad]<;>try refine Ya ?_)|refine X2 ?_ ?_|(refine Xd ?_ ?_<;>intro hcd<;>try exact Xx))
      all_goals exact⟨_,P,set_row⟩
  .have U:=Cj G a
   have W:=Ez U
   have Y:aT t=true:=by simp[aT,U]
   rw[Y,<-W];exact GS (so g4 g5 g j k m e (gA a l))
end Go.Ab
