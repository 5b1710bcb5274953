/- The contracts and facts that the laws of this seat need, in one text (AbC, Ab27, Ab37, Ab38, Ab39, AbH, AbQ, TrA, Tr3). -/
import Derived.Test.YtidomjacfogjlaaGreatU5
import Derived.TacticsIn
import Derived.RangeFuncRecord
import Derived.RangeFuncLeaves
import Derived.RangeFuncCalls
import Derived.RangeFuncSeq
import Derived.RecoverIn
set_option linter.all false
set_option maxRecDepth 10000
set_option maxHeartbeats 16000000
namespace Go.Ab
open IntKind (i64)
open Go.Proofs.Tryz
variable {C:Cx}{F:Fence}{M:Nat->Nat->Prop}{N d i id j l n p:Nat}{P:Program}{Post:AV->Hp->Prop}{Q:Exit->St->Prop}{a:Act}{assign body y:Code}{caps xs:List PV}{f gop s x:Operand}{far:List Int}{fn:Func}{g gf:FuncId}{hn kd ts:List Nat}{lb:List Value}{next:Act->World->Prop}{o:Oper}{ob:Obj}{ops:Array Oper}{post pre:List Oper}{r:List (Int×Int)}{res:RV}{st:St}{v:Int}{w w':World}{α:Type}
def qC(ops:Array Oper):Bool:=ops.toList.all λo=>match o.op with|.defer _=>false|_=>true
theorem lJ(h:qC ops=true)(b:o∈ops.toList):∀c,o.op≠.defer c:=by
 intro c a;have:=TP.1 h o b;rw[a]at this;cases this
structure Wide(F:Fence):Prop where
 fn:∀f,F.fn f
 depth:F.depth=none
 calls:∀{n:Nat}{P:Program}{f:FuncId}{args:Array Value}{w:World}{R:Ending->World->Prop},Calls P f args w R->CallsIn F n P f args w R
 rows:∀{n:Nat}{P:Program}{row:String}{args:Array Value}{w:World}{R:Value->World->Prop},Rows P row args w R->RowsIn F n P row args w R
theorem gC:Wide Fence.wide:=⟨λ_=>trivial,rfl,λh=>callsIn_wide.2 h,λh c a _=>let⟨v,w',r,s⟩:=h c a;⟨v,w',r,stepsIn_wide.2 s⟩⟩
theorem ze(l:Nat):Wide (Fence.wide.inRound l):=⟨λ_=>trivial,rfl,λh=>(callsIn_wide.2 h).inRound l,λh=>gC.rows h⟩
theorem Eo(hF:Wide F)(hd:∀c,o.op≠.defer c){Q:Exit->Act->World->Prop}
 (h:o.wp P a w next Q):o.wpIn F n P a w next Q:=by
 refine⟨λf _=>hF.fn f,?_⟩;rw[Oper.semAt_eq _ _ _ hd];unfold Oper.wp at h
 cases e:(execOp a.eval o).run P w with
 |ok nx w'=>
  rw[e]at h
  cases nx with
  |value v=>exact h
  |skip=>exact h
  |defer d=>exact h
  |enter f args=>exact⟨λb=>(by rw[hF.depth]at b;cases b),hF.calls h⟩
  |row r args=>exact⟨λb=>(by rw[hF.depth]at b;cases b),hF.rows h⟩
  |_=>exact h.elim
 |halt k w'=>
  rw[e]at h
  cases k with
  |panic v=>exact h
  |_=>exact h.elim
def gM(C:Cx)(L:Nat->Loc)(st:St)(a:Act)(w:World):Prop:=
 MemL C L st.h w/\a.tmps.size=C.N/\∀n,RepA w (ab C L st.h) L st.h (st.t n) (a.tmps.getD n undef)
theorem gM.put{L:Nat->Loc}(f:gM C L st a w){d:Option Nat}(hd:dm C.N d=true){v:AV}{W:List (Nat×Blk)}{u:Value}{L':Nat->Loc}
 (c:aI C L st.h w L' (ai st.h W) w')(i:RepA w' (ab C L' (ai st.h W)) L' (ai st.h W) v u):gM C L' (st.put d v W) (a.put d u) w':=by
 obtain⟨j,hN,g⟩:=f;refine⟨c.1,?_,λn=>?_⟩
 .cases d<;>simp[Act.put,hN]
 .have b:=(g n).mono c.2.1 c.2.2
  cases d with
  |none=>exact b
  |some d=>
   have e:d<a.tmps.size:=by rw[hN];simp only[dm,An,L4]at hd;exact hd.1
   rw[qR e];simp only[St.put,ae];split
   .exact i
   .exact b
theorem Fr(st:St)(d:Option Nat)(v:AV)(W:List (Nat×Blk)):(st.put d v W).h=ai st.h W:=by cases d<;>rfl
theorem kj(a:Act)(d:Option Nat)(u:Value):(a.put d u).defers=a.defers:=by cases d<;>rfl
theorem Cr{L:Nat->Loc}(v:gM C L st a w)(s:∀c,o.op≠.defer c)(hd:dm C.N o.dst=true){K:cK->Prop}(e:uW C.P hn o st.ev st.h K){Q:Exit->Act->World->Prop}
 (j:∀f q w' L',K f->gM C L' (st.put o.dst f.1 f.2) q w'->aI C L st.h w L' (st.put o.dst f.1 f.2).h w'->q.defers=a.defers->next q w'):o.wp C.P a w next Q:=by
 have z:=v;obtain⟨p,hN,A⟩:=z
 have i:sL C.P hn o st.ev st.h K->o.wp C.P a w next Q:=λe=>
  Cg p (λ_ _ h=>h) (λd r=>⟨rfl,by rw[r]at hd;simp only[dm,An,L4]at hd;exact hd.2⟩) (λx _=>db A x) e (λf u w' L' R D S=>j f _ _ L' R (v.put hd D S) (by rw[Fr];exact D) (kj _ _ _))
 unfold uW at e;split at e
 .rename_i c k
  exact absurd k (s c)
 .rename_i op t x y t' k
  split at e
  .rename_i E
   simp only[An,UT,US]at E;obtain⟨⟨⟨G,H⟩,I⟩,l⟩:=E;have U:=xU G (db A y);obtain⟨B,n,c,T⟩:=uF p (db A x) I
   obtain⟨b,O⟩:∃b:Bool,(op=.eql/\b=B.isNone)\/(op=.neq/\b=!B.isNone):=by
    rcases l with l|l
    .exact⟨_,.inl ⟨l,rfl⟩⟩
    .exact⟨_,.inr ⟨l,rfl⟩⟩
   have m:(execOp a.eval o).run C.P w=.ok (.value (.bool b)) w:=by
    obtain⟨J,V,X,pos,F,g⟩:=o;simp only at k;subst k;exact mg (Ac (qO H) T U O) w
   have M:K (.pv (.val (.bool b)),[]):=by cases b with
    |true=>exact e.1
    |false=>exact e.2
   unfold Oper.wp;rw[m];exact j _ _ _ L M (v.put hd (W:=[]) (aI.refl p) (.pv (.val _))) (by rw[Fr];exact aI.refl p) (kj _ _ _)
  .exact i e
 .exact i e
theorem iK{F:Fence}(hF:Wide F){n:Nat}{C:Cx}{hn:List Nat}{ops:Array Oper}{Q:St->Prop}{Q':Exit->Act->World->Prop}{E:Nat->Loc}{G:Hp}{w0:World}{ds:List Deferred}
 (u:∀st L a w,gM C L st a w->aI C E G w0 L st.h w->a.defers=ds->Q st->Q' .normal a w):
 ∀{l:List Oper}{st:St}{L:Nat->Loc}{a:Act}{w:World},(∀o∈l,∀c,o.op≠.defer c)->gM C L st a w->aI C E G w0 L st.h w->a.defers=ds->dK C.P hn C.N ops Q l st->wpListIn F n C.P ops Q' l a w
 |[],st,L,a,w,_,q,r,g,e=>u st L a w q r g e
 |o::l,st,L,a,w,s,q,r,g,e=>by
  have B:=q;obtain⟨K,hN,H⟩:=B;simp only[dK]at e;obtain⟨hd,e⟩:=e;have i:∀D∈l,∀c,D.op≠.defer c:=λD A=>s D (Wv _ A);have v:=s o List.mem_cons_self;unfold wpListIn;split at e
  .rename_i y
   rw[ey H (oO y),T8 rfl];exact Eo hF v (Cr q v hd e (λx J w' L' z j k m=>iK hF u i j (r.trans k) (m.trans g) z))
  .rename_i d b I y
   rw[ey H (mf y)];unfold wW at e;simp only at e;split at e
   .rename_i p
    subst p;rw[T8 (by simp)];exact Eo hF v (Cr q v hd e (λx J w' L' z j k m=>iK hF u i j (r.trans k) (m.trans g) z))
   .rename_i p
    rw[TQ (by simpa using p)];exact⟨λf _=>hF.fn f,iK hF u i (q.put hd (W:=[]) (aI.refl K) (.pv (.val _))) (by rw[Fr];exact r) ((kj _ _ _).trans g) e⟩
  .exact e.elim
def aE(F:Fence)(C:Cx)(c:Code)(Q:Exit->St->Prop)(st:St):Prop:=
 ∀n L a w,gM C L st a w->c.wpIn F n C.P (λe d w'=>∃b L',gM C L' b d w'/\aI C L st.h w L' b.h w'/\d.defers=a.defers/\Q e b) a w
section
variable {F:Fence} {C:Cx} {Q:Exit->St->Prop} {st:St}
theorem aE.region(hF:Wide F)(a:qC ops=true)(h:dK C.P hn C.N ops (Q .normal) ops.toList st):aE F C (.region id ops false) Q st:=
 λ_ _ _ _ d=>wpIn_region_list (iK hF (λc L' _ _ b e hd hq=>⟨c,L',b,e,hd,hq⟩) (λ_ f=>lJ a f) d (aI.refl d.1) rfl h)
def BL(F:Fence)(C:Cx)(y:Code)(Q:Exit->St->Prop):Exit->St->Prop
 |.normal,st=>aE F C y Q st
 |e,st=>Q e st
theorem aE.seq{x:Code}(h:aE F C x (BL F C y Q) st):aE F C (.seq x y) Q st:=by
 intro n L a w o;refine wpIn_seq (wpIn_mono (h n L a w o) ?_);rintro e m w' ⟨i,L',b,k,hd,hq⟩
 cases e with
 |normal=>exact wpIn_mono (hq n L' m w' b) (λe p q ⟨j,l,g,c,d,f⟩=>⟨j,l,g,k.trans c,d.trans hd,f⟩)
 |_=>exact⟨i,L',b,k,hd,hq⟩
theorem aE.skip(h:Q .normal st):aE F C .skip Q st:=λ_ L _ _ a=>wpIn_skip ⟨st,L,a,aI.refl a.1,rfl,h⟩
theorem aE.ret(h:Q .ret st):aE F C .ret Q st:=λ_ L _ _ a=>wpIn_ret ⟨st,L,a,aI.refl a.1,rfl,h⟩
theorem aE.exit(h:Q (.exit id) st):aE F C (.exit id) Q st:=λ_ L _ _ a=>wpIn_exit ⟨st,L,a,aI.refl a.1,rfl,h⟩
theorem aE.cond{c:Operand}{x:Code}{b:Bool}(g:st.ev c=.pv (.val (.bool b)))(j:b=true->aE F C x Q st)(hf:b=false->aE F C y Q st):aE F C (.cond c x y) Q st:=by
 intro n L a w f
 have d:a.eval c=.bool b:=by
  have:=db f.2.2 c;rw[g]at this
  cases this with
  |pv i=>exact aM i
 exact wpIn_cond_split d (λe=>j e n L a w f) (λe=>hf e n L a w f)
theorem aE.block{c:Code}(h:aE F C c (rH id Q) st):aE F C (.block id c) Q st:=by
 intro n L a w g;refine wpIn_block (wpIn_mono (h n L a w g) ?_);rintro e j w' ⟨d,L',b,f,hd,hq⟩
 cases e with
 |exit i=>
  simp only[rH,Exit.inBlock]at hq|-;split
  .rename_i e;rw[T8 e]at hq;exact⟨d,L',b,f,hd,hq⟩
  .rename_i e;rw[TQ e]at hq;exact⟨d,L',b,f,hd,hq⟩
 |_=>exact⟨d,L',b,f,hd,hq⟩
theorem aE.mono{c:Code}{Q':Exit->St->Prop}(h:aE F C c Q st)(hq:∀e st,Q e st->Q' e st):aE F C c Q' st:=
 λn L a w i=>wpIn_mono (h n L a w i) (λe _ _ ⟨b,L',f,g,hd,d⟩=>⟨b,L',f,g,hd,hq e b d⟩)
end
theorem Ky{b o:Nat}{v:Value}(d:w.heap[l]?=some ob)(c:ob.isCells=false)(h:w.cell? ⟨b,o,none⟩=some v):b≠l:=by
 intro e;subst e;obtain⟨f,h1,a⟩:=cells_of_cell h;simp only at h1;rw[d]at h1;injection h1 with h1;subst h1;rw[c]at a;cases a
theorem LD{L:Nat->Loc}{h:Hp}{a:Loc}{blk:Blk}(d:dJ w M L h a blk)(k:blk.live a)(g:w.heap[l]?=some ob)(j:ob.isCells=false)(f:∀arr c,ob≠.map arr c):a.b≠l:=by
 intro e;subst e
 cases blk with
 |box m own i=>obtain⟨arr,q,e,_⟩:=d;rw[g]at e;injection e with e;subst e;cases j
 |row e p xs i=>obtain⟨_,_,_,_,h5⟩:=d;obtain⟨_,_,arr,e,_⟩:=h5 k;rw[g]at e;injection e with e;subst e;cases j
 |mp kd n o i=>obtain⟨arr,c,e,_⟩:=d;rw[g]at e;injection e with e;exact f _ _ e
theorem MemL.turn{L:Nat->Loc}{h:Hp}(d:MemL C L h w)(x:C.w0.heap[l]?=some ob)(hS:¬C.S l)(u:ob.isCells=false)(n:∀arr c,ob≠.map arr c)(g:Obj):
 MemL {C with w0:=C.w0.putObj l g} L h (w.putObj l g)/\Pres w (ab C L h) (w.putObj l g) (ab C L h):=by
 have j:l<C.w0.heap.size:=(UA.1 x).1;have q:w.heap[l]?=some ob:=(d.ext.block l j hS).trans x;have m:l<w.heap.size:=(UA.1 q).1;have f:Pres w (ab C L h) (w.putObj l g) (ab C L h):=⟨λb o v i hn=>⟨(World.cell?_of_block (World.putObj_heap_other (Ky q u i))).trans i,hn⟩,λb arr c i hn=>⟨(World.putObj_heap_other (by rintro rfl;rw[q]at i;injection i with i;exact n _ _ i)).trans i,hn⟩⟩;refine⟨⟨⟨d.ext.os,d.ext.tape,d.ext.output,by simpa using d.ext.size,λb r z=>?_⟩,λb o r=>by simpa using d.m0 b o r,λk a p=>(d.bl k a p).mono f (KC.refl _ _) (λs=>World.putObj_heap_other (LD (d.bl k a p) s q u n)),d.sep,λk a p=>?_⟩,f⟩
 .by_cases e:b=l
  .subst e
   rw[World.putObj_heap_same m,World.putObj_heap_same j]
  .rw[World.putObj_heap_other e,World.putObj_heap_other e]
   exact d.ext.block b (by simpa using r) z
 .have:=d.own k a p
  cases a with
  |box A own y=>cases own with
   |true=>simpa[eY]using this
   |false=>simpa[eY]using this
  |row e B xs y=>simpa[eY]using this
  |mp=>simpa[eY]using this
theorem xf{o:Obj}(h:w.heap[l]?=some o):w.putObj l o=w:=by
 have:w.heap.setIfInBounds l o=w.heap:=by
  apply Array.ext_getElem?;intro i;rw[Array.getElem?_setIfInBounds];by_cases e:l=i
  .subst e
   rw[T8 rfl,T8 (UA.1 h).1,h]
  .rw[TQ e]
 show{w with heap:=w.heap.setIfInBounds l o}=w;rw[this]
theorem uH(w:World)(l:Nat)(o o':Obj):(w.putObj l o).putObj l o'=w.putObj l o':=by
 show{w with heap:=(w.heap.setIfInBounds l o).setIfInBounds l o'}={w with heap:=w.heap.setIfInBounds l o'}
 congr 1
 apply Array.ext_getElem?;intro i;simp only[Array.getElem?_setIfInBounds,Array.size_setIfInBounds];by_cases e:l=i
 .subst e;simp
 .simp[e]
theorem xW{a:Array Value}{u:Value}(hd:d<a.size)(n:Nat):(a.setIfInBounds d u).getD n undef=if n=d then u else a.getD n undef:=by
 simp only[T9];by_cases e:n=d
 .subst e;simp[hd]
 .rw[TQ e,UV (by omega)]
theorem mX{b:Nat}{ps:List PV}(h:kD w M b ps):b<w.heap.size:=by
 obtain⟨arr,a,e,_⟩:=h;exact(UA.1 e).1
def Fs(P:Program)(gf:FuncId)(caps:List PV)(xs:List (PV×PV)):Prop:=
 da P gf=true/\∀(n l:Nat)(lb:List Value)(W:World)(M:Nat->Nat->Prop)(J:Nat->(Nat->Nat->Prop)->World->Prop),
  (∀i M W,J i M W->∀b o,M b o->b<W.heap.size)->(∀i M W a,J i M W->Ext (λ_=>False) W a->J i M a)->
  (∀m i x M W d f,xs[i]?=some x->J i M W->Rep W M x.1 d->Rep W M x.2 f->YieldAt Fence.wide m P l #[d,f] W λe a=>e=.returned (.bool true)/\∃c,J (i+1) c a/\Pres W M a c)->
  J 0 M W->bS W M caps lb->CallsIn Fence.wide n P gf (#[.func (.yield l) #[] #[]]++lb.toArray) W λe a=>(∃v,e=.returned v)/\∃c,J xs.length c a
def kl(ks:List Nat)(hin:Nat->List PV):Hp:=λk=>if ks.contains k=true then some (.box ((hin k).map .pv) false false)else none
def pJ(t:Nat->AV)(p q:Nat)(x:PV×PV):Nat->AV:=ae (ae t p (.pv x.1)) q (.pv x.2)
theorem Ib{q:Nat}(hg:a.eval gop=.func (.func gf) #[] lb.toArray)
 {caps:List PV}{xs:List (PV×PV)}(hit:Fs P gf caps xs){M:Nat->Nat->Prop}(hM:∀b o,M b o->b<w.heap.size)(a8:bS w M caps lb)
 {ks:List Nat}{O:Nat->Nat}{hin:Nat->List PV}(H:∀k∈ks,(∀o,M (O k) o)/\kD w M (O k) (hin k))(a9:∀k∈ks,∀k'∈ks,k≠k'->O k≠O k')
 (hN:a.tmps.size=N)(hp:p<N)(hq:q<N){t:Nat->AV}(ht:∀m,(∃k∈ks,t m=.ptr k 0/\a.tmps.getD m undef=.pointer (some ⟨O k,0,none⟩))\/t m=.undef)
 (I:Nat->Hp->Prop)(h0:I 0 (kl ks hin))(hI:∀i h k,k∈ks->I i h->∃cs,h k=some (.box cs false false))
 (U:∀(C C':Cx)(l i:Nat)(x:PV×PV)(h:Hp),C.P=P->C.N=N->C'.P=P->C'.N=N->xs[i]?=some x->I i h->
   aE (Fence.wide.inRound l) C assign (λe ct=>e=.normal/\aE (Fence.wide.inRound l) C' body (λe' bq=>e'=.normal/\I (i+1) bq.h) ct) ⟨pJ t p q x,h⟩):
 (Code.rangeFunc gop #[p,q] assign body).wpIn Fence.wide n P (λe a' w'=>e=.normal/\∃(C:Cx)(L:Nat->Loc)(h:Hp)(D:Nat),C.P=P/\C.N=N/\C.M0=M/\(∀b,C.S b->∃k∈ks,b=O k)/\
   MemL C L h w'/\I xs.length h/\(∀k∈ks,(L k).b=O k)/\Ext (λ_=>False) w C.w0/\C.w0.heap[D]?=some (.deferred (some []))/\¬C.S D/\w.heap.size<=D/\a'={a with defers:={target:=.collected D,args:=#[]}::a.defers}) a w:=by
 refine wpIn_rangeFunc ?_;intro fn _;obtain⟨d,j⟩:∃d:LoopState->Option Code->Loop,d=λst pe=>{state:=st,pending:=pe,fn,tmps:=a.tmps,params:=#[p,q],assign,body,defers:=w.heap.size}:=⟨_,rfl⟩;obtain⟨E,Q⟩:∃E,(w.alloc (.deferred (some []))).alloc (.loop (d .ready none))=E:=⟨_,rfl⟩
 have K:Ext (λ_=>False) w E:=by rw[<-Q];exact(Ext.alloc _ _ _).trans (Ext.alloc _ _ _) (λ_ _ h=>h)
 have cz:E.heap.size=w.heap.size+2:=by rw[<-Q];simp
 have X:E.heap[w.heap.size+1]?=some (.loop (d .ready none)):=by
  rw[<-Q];have:=World.alloc_heap_new (w.alloc (.deferred (some []))) (.loop (d .ready none));rwa [World.size_alloc]at this
 have b3:E.heap[w.heap.size]?=some (.deferred (some [])):=by
  rw[<-Q];exact(RowKit.Below.heap_alloc _ _ _ (by simp)).trans (World.alloc_heap_new w _)
 obtain⟨l,hl⟩:∃l,l=w.heap.size+1:=⟨_,rfl⟩;rw[<-hl]at X;obtain⟨g,f⟩:∃g:Obj->Cx,g=λo=>{P:=P,N:=N,M0:=M,S:=λb=>∃k∈ks,b=O k,pb:=λk=>if ks.contains k=true then some (O k)else none,w0:=E.putObj l o}:=⟨_,rfl⟩
 have hS:∀o b,(g o).S b->b<w.heap.size:=by
  intro o b u;rw[f]at u;obtain⟨k,r,rfl⟩:=u;exact mX (H k r).2
 have J:∀o,(g o).w0=E.putObj l o:=λo=>by rw[f]
 have a5:∀o o' L h,ab (g o) L h=ab (g o') L h:=λo o' L h=>by rw[f];rfl
 have Y:∀(o:Obj),(g o).w0.heap[l]?=some o:=λo=>by rw[J];exact World.putObj_heap_same (UA.1 X).1
 have ba:∀o,¬(g o).S l:=λo h=>by have:=hS o l h;omega
 have A:∀{o o':Obj}{L:Nat->Loc}{h:Hp}{W:World},o.isCells=false->(∀arr c,o≠.map arr c)->MemL (g o) L h W->W.heap[l]?=some o/\MemL (g o') L h (W.putObj l o')/\Pres W (ab (g o) L h) (W.putObj l o') (ab (g o') L h):=by
  intro o o' L h W ho cf F;have b9:l<(g o).w0.heap.size:=(UA.1 (Y o)).1;obtain⟨h1,h2⟩:=F.turn (Y o) (ba o) ho cf o';refine⟨(F.ext.block l b9 (ba o)).trans (Y o),?_,?_⟩
  .have e:({g o with w0:=(g o).w0.putObj l o'}:Cx)=g o':=by rw[f];simp only[uH]
   rw[e]at h1;exact h1
  .rw[a5 o' o];exact h2
 have z:E.putObj l (.loop (d .ready none))=E:=xf X
 have V:∀{o:Obj}{L:Nat->Loc}{h:Hp}{W:World}{i k:Nat},k∈ks->I i h->MemL (g o) L h W->(L k).b=O k:=by
  intro o L h W i k r hi F;obtain⟨cs,hc⟩:=hI i h k r hi;have:=(F.own k _ hc).2.1;rw[f]at this
  have ad:ks.contains k=true:=by simpa using r
  simp only[ad,Ul,T6]at this;exact this.symm
 let L0:Nat->Loc:=λk=>⟨O k,0,false⟩
 have B:∀k s,kl ks hin k=some s->k∈ks/\s=.box ((hin k).map .pv) false false:=by
  intro k s r;unfold kl at r;split at r
  .rename_i hc;injection r with r;exact⟨by simpa using hc,r.symm⟩
  .cases r
 have b4:∀o b o',ab (g o) L0 (kl ks hin) b o'->M b o':=by
  rintro o b o' (u|⟨k,s,r,_,u,_⟩)
  .rw[f]at u;exact u
  .obtain⟨y,_⟩:=B k s r
   rw[<-u];exact(H k y).1 o'
 have G:Pres w M E (ab (g (.loop (d .ready none))) L0 (kl ks hin)):=Pres.ext K (λ_ _ h=>h.elim) λb o _ h=>b4 _ b o h
 have ca:MemL (g (.loop (d .ready none))) L0 (kl ks hin) E:=by
  refine⟨by rw[J,z];exact Ext.refl _ _,?_,?_,?_,?_⟩
  .intro b o u
   rw[J,z];rw[f]at u;have:=hM b o u;omega
  .intro k s r
   obtain⟨y,rfl⟩:=B k s r;obtain⟨arr,ty,e1,e2⟩:=(H k y).2;exact⟨arr,ty,(K.block _ (mX (H k y).2) (λh=>h)).trans e1,aA.map_pv (e2.mono G)⟩
  .intro k k' b1 b2 ch r T _ _
   exact a9 k (B k b1 r).1 k' (B k' b2 T).1 ch
  .intro k s r
   obtain⟨y,rfl⟩:=B k s r
   have ad:ks.contains k=true:=by simpa using y
   refine⟨rfl,?_,?_,?_,?_⟩
   .rw[f];simp only[ad,Ul];rfl
   .rw[f];exact⟨k,y,rfl⟩
   .rw[J,z];have:=mX (H k y).2;show O k<_;omega
   .intro o;rw[f];exact(H k y).1 o
 refine⟨l,[{target:=.collected w.heap.size,args:=#[]}],E,{target:=.fn (.func gf) lb.toArray,args:=#[.func (.yield l) #[] #[]]},E,gf,#[.func (.yield l) #[] #[]]++lb.toArray,E,?_,?_,λ_ _=>trivial,rI hit.1 _ _ _,λh=>(by cases h),?_⟩
 .rw[<-Q,j,hl];exact run_enterLoop_outer _ _ _ _ _
 .simp only[resolve,hg]
  simp[go_sem]
 .refine(hit.2 (n-1) l lb E _ (λi M' W=>∃L h,I i h/\MemL (g (.loop (d .ready none))) L h W/\M'=ab (g (.loop (d .ready none))) L h) ?_ ?_ ?_ ⟨L0,_,h0,ca,rfl⟩ (a8.mono G)).mono ?_
  .rintro i M' W ⟨L,h,_,F,rfl⟩ b o u
   exact F.mlt u
  .rintro i M' W W' ⟨L,h,hi,F,rfl⟩ hx
   exact⟨L,h,hi,(F.grow hx).1,rfl⟩
  .
   rintro m i x M' W v1 v2 cr ⟨L,h,hi,F,rfl⟩ cm cn;obtain⟨b8,_,_⟩:=A (o':=.loop (d .ready none)) rfl (by intro _ _ h;cases h) F;have hy:=run_yield (P:=P) (args:=#[v1,v2]) b8 (by rw[j];rfl);rw[j]at hy;refine⟨fn,(a.tmps.setIfInBounds p v1).setIfInBounds q v2,assign,body,by simpa using hy,roundIn_of_wpIn trivial ?_⟩
   have bc:gM (g (.loop (d .ready none))) L ⟨pJ t p q x,h⟩ {tmps:=(a.tmps.setIfInBounds p v1).setIfInBounds q v2,defers:=[]} W:=by
    refine⟨F,by rw[f];simpa using hN,λk=>?_⟩
    have ck:q<(a.tmps.setIfInBounds p v1).size:=by rw[Array.size_setIfInBounds,hN];exact hq
    have cj:p<a.tmps.size:=by rw[hN];exact hp
    simp only[xW ck,xW cj,pJ,ae];split
    .exact .pv cn
    .split
     .exact .pv cm
     .rcases ht k with⟨k',T,e1,e2⟩|e1
      .obtain⟨cs,hc⟩:=hI i h k' T hi
       rw[e1,e2,<-V T hi F];exact .ptr hc
      .rw[e1];exact .undef _
   have a6:(g (.loop (d .ready none))).P=P:=by rw[f]
   have a7:(g (.loop (d .busy none))).P=P:=by rw[f]
   have hR:=U (g (.loop (d .ready none))) (g (.loop (d .busy none))) l i x h a6 (by rw[f]) a7 (by rw[f]) cr hi m L _ W bc;rw[a6]at hR;refine wpIn_mono hR ?_;rintro e a1 w1 ⟨cu,L1,R,bH,_,rfl,Z⟩;obtain⟨b7,cb,bb⟩:=A (o':=.loop (d .busy none)) rfl (by intro _ _ h;cases h) R.1;refine⟨w1.putObj l (.loop (d .busy none)),?_,?_⟩
   .have:=run_beginRound (P:=P) b7 (by rw[j])
    rw[j]at this|-;exact this
   have cq:gM (g (.loop (d .busy none))) L1 cu a1 (w1.putObj l (.loop (d .busy none))):=⟨cb,by have:=R.2.1;rw[f]at this|-;exact this,λk=>(R.2.2 k).mono bb (KC.refl _ _)⟩;have hB:=Z m L1 a1 _ cq;rw[a7]at hB;refine wpIn_mono hB ?_;rintro e2 a2 w2 ⟨cw,L2,cp,b0,_,rfl,b5⟩;obtain⟨ar,cg,hpr⟩:=A (o':=.loop (d .ready none)) rfl (by intro _ _ h;cases h) cp.1;refine⟨_,_,run_endRound none ar,rfl,_,⟨L2,cw.h,b5,?_,rfl⟩,?_⟩
   .have e:(Obj.loop {d .busy none with state:=if(none:Option Code).isNone=true then .ready else .done,pending:=none})=.loop (d .ready none):=by rw[j];rfl
    rw[e];exact cg
   .have e:(Obj.loop {d .busy none with state:=if(none:Option Code).isNone=true then .ready else .done,pending:=none})=.loop (d .ready none):=by rw[j];rfl
    rw[e];exact((bH.2.1.trans bb).trans b0.2.1).trans hpr
  .
   rintro e W2 ⟨⟨v,rfl⟩,M',L,h,hi,F,_⟩;obtain⟨ar,cd,_⟩:=A (o':=.loop (d .exhausted none)) rfl (by intro _ _ h;cases h) F;refine⟨none,W2.putObj l (.loop (d .exhausted none)),?_,rfl,g (.loop (d .exhausted none)),L,h,w.heap.size,by rw[f],by rw[f],by rw[f],?_,cd,hi,λk r=>V r hi F,?_,?_,?_,Ua _,rfl⟩
   .have:=run_endLoop (P:=P) ar (by rw[j];simp)
    rw[j]at this|-;exact this
   .intro b u
    rw[f]at u;exact u
   .rw[J]
    refine⟨K.os,K.tape,K.output,by simp;omega,λb u _=>?_⟩;rw[World.putObj_heap_other (by omega)];exact K.block b u (λh=>h)
   .rw[J,World.putObj_heap_other (by omega)];exact b3
   .intro u
    have:=hS _ _ u;omega
def wu(P:Program)(g:FuncId):Prop:=da P g=true/\∀(n:Nat)(args:Array Value)(w:World),CallsDIn Fence.wide n P g args .returning w λe a w'=>a=.returning/\(∃v,e=.returned v)/\w'=w
def zf(P:Program)(ds:List Deferred):Prop:=∀d∈ds,∃g cap,d.target=.fn (.func g) cap/\wu P g
theorem rO{n:Nat}{P:Program}{fn:Func}{tmps:Array Value}{R:Ending->World->Prop}{w:World}{v:Value}:∀{ds:List Deferred},zf P ds->(results fn tmps).run P w=.ok v w->R (.returned v) w->LeavesInM Fence.wide n P fn tmps R ds .returning w
 |[],_,b,a=>⟨v,b,a⟩
 |d::ds,hq,b,a=>by
  obtain⟨g,cap,f,c⟩:=hq d (by simp);refine⟨by simp,.inr ⟨λh=>(by cases h),.func g,cap,g,d.args++cap,f,by rw[f];exact rI c.1 _ _ _,λ_ _=>trivial,(c.2 _ _ w).mono ?_⟩⟩;rintro e i w' ⟨rfl,⟨j,rfl⟩,rfl⟩;exact rO (λd hd=>hq d (by simp[hd])) b a
def LE(C:Cx)(res:PV):Ending->World->Prop:=λe w'=>∃v,e=.returned v/\Ext (λ_=>False) C.w0 w'/\Rep w' C.M0 res v
theorem Ep{L:Nat->Loc}(c:gM C L st a w){res:PV}(i:jf C.P fn.results.toList [] (.pv res) st):∃u,(results fn a.tmps).run C.P w=.ok u w/\Rep w C.M0 res u:=by
 obtain⟨r,h1,_,W,g⟩:=i;obtain⟨u,d,e⟩:=nA (C:=C) c.1 c.2.2 h1;obtain⟨j,f,_⟩:=mT c.1 (cY.refl _) e g;exact⟨u,d,f.mono (Pres.sub (λb o h=>.inl h))⟩
def Cs:RV->Bool
 |.pv _=>true
 |.nrow _ _ _=>true
 |_=>false
@[simp] theorem SB{p:PV}:Cs (.pv p)=true:=rfl
@[simp] theorem Ph{e sz:Nat}:Cs (.nrow e sz xs)=true:=rfl
def JY(C:Cx)(res:RV):Ending->World->Prop:=λe w'=>∃v,e=.returned v/\Ext (λ_=>False) C.w0 w'/\yW C.w0 w' C.M0 res v
theorem Ct{L:Nat->Loc}(d:gM C L st a w)(n:Cs res=true)(z:jf C.P fn.results.toList [] res st):∃u,(results fn a.tmps).run C.P w=.ok u w/\∀(w0:World)(M:Nat->Nat->Prop),(∀b o,M b o->C.M0 b o)->(∀b,(C.w0.heap.size<=b\/(C.S b/\∀o,¬C.M0 b o))->w0.heap.size<=b)->yW w0 w M res u:=by
 cases res with
 |pv p=>
  obtain⟨u,h1,I⟩:=Ep d z;exact⟨u,h1,λw0 M g _=>I.mono (Pres.sub g)⟩
 |nrow e T xs=>
  obtain⟨r,h1,_,m,k,rfl,f⟩:=z;obtain⟨u,s,y⟩:=nA (C:=C) d.1 d.2.2 h1;refine⟨u,s,λw0 M g l=>⟨m,L k,?_,λhn=>l _ ((d.1.own _ _ f).row hn),?_⟩⟩
  .cases y with
   |arr c K N=>
    rw[f]at c;injection c with c;injection c with a1 a2 a3 a4;subst a3;exact N rfl
  .obtain⟨A,R,B,D,E⟩:=d.1.bl _ _ f
   refine⟨A,UR _,B,D,λhn=>?_⟩;obtain⟨F,G,arr,d3,d4,H⟩:=E hn;refine⟨F,G,arr,d3,d4,λi x j p Q J=>?_⟩;obtain⟨v,O,q⟩:=H i x j p Q J;refine⟨v,O,q.mono (Pres.sub ?_)⟩;rintro b o (h|⟨_,rfl⟩)
   .exact .inl (g _ _ h)
   .exact .inr ⟨k,_,f,hn,rfl,by simp[Blk.frz]⟩
 |_=>cases n
theorem dQ{F:Fence}{n:Nat}{P:Program}{ops:Array Oper}{Q:Exit->Act->World->Prop}(d:List Oper):∀{g:List Oper}{a:Act}{w:World},
 wpListIn F n P ops (Exit.then (wpListIn F n P ops Q d) Q) g a w->wpListIn F n P ops Q (g++d) a w
 |[],a,w,h=>h
 |o::g,a,w,h=>by
  rw[List.cons_append];unfold wpListIn at h|-;split
  .rename_i f
   rw[T8 f]at h;refine⟨h.1,?_⟩;have b:=h.2;generalize(o.semAt F.round a.eval).run P w=r at b|-;unfold Oper.uponIn at b|-;split<;>simp only at b|-
   .exact dQ d b
   .exact dQ d b
   .exact dQ d b
   .refine⟨b.1,b.2.mono ?_⟩
    intro e w' c
    cases e with
    |returned v=>exact dQ d c
    |panicked i=>exact c
    |outgrown=>exact c
   .exact⟨b.1,b.2.mono λv w' c=>dQ d c⟩
   .refine⟨b.1,b.2.mono ?_⟩
    intro e w' c
    cases e with
    |returned v=>exact dQ d c
    |panicked i=>exact c
    |outgrown=>exact c
   .exact b
  .rename_i f
   rw[TQ f]at h;exact⟨h.1,dQ d h.2⟩
def n7(C:Cx)(fn:Func)(res:RV)(c:Code)(st:St):Prop:=
 ∀n L a w,gM C L st a w->zf C.P a.defers->c.wpIn Fence.wide n C.P (bodyPostM Fence.wide n C.P fn (JY C res)) a w
section
variable {C:Cx} {fn:Func} {res:RV} {st:St}
theorem tN{S:Nat->Prop}(hS:∀b,¬S b)(h:Ext S w w'):Ext (λ_=>False) w w':=⟨h.os,h.tape,h.output,h.size,λb a _=>h.block b a (hS b)⟩
def Ic(C:Cx)(fn:Func)(res:RV)(y:Code):Exit->St->Prop
 |.normal,st=>n7 C fn res y st
 |.ret,st=>Cs res=true/\jf C.P fn.results.toList [] res st
 |_,_=>False
theorem n7.seq(f:∀b,¬C.S b){x:Code}(h:aE Fence.wide C x (Ic C fn res y) st):n7 C fn res (.seq x y) st:=by
 intro n L a w k hq;refine wpIn_seq (wpIn_mono (h n L a w k) ?_);rintro e g w' ⟨l,L',d,m,hd,c⟩
 cases e with
 |normal=>exact c n L' g w' d (by rw[hd];exact hq)
 |ret=>
  obtain⟨u,h1,i⟩:=Ct d c.1 c.2;exact rO (by rw[hd];exact hq) h1 ⟨u,rfl,tN f d.1.ext,i _ _ (λ_ _ h=>h) (λb h=>h.elim id λj=>absurd j.1 (f b))⟩
 |exit=>exact c.elim
 |goto=>exact c.elim
 |panic=>exact c.elim
 |outgrown=>exact c.elim
theorem GO{Q:Exit->Act->World->Prop}(h:o.wp P a w next Q):o.wpIn Fence.wide n P a w next Q:=by
 refine⟨λf _=>trivial,?_⟩
 show o.uponIn Fence.wide n P a next Q ((o.semAt none a.eval).run P w)
 rw[Oper.semAt_none];unfold Oper.wp at h
 cases c:(execOp a.eval o).run P w with
 |ok nx w'=>
  rw[c]at h
  cases nx with
  |value v=>exact h
  |skip=>exact h
  |defer d=>exact h
  |enter f args=>exact⟨λb=>(by cases b),gC.calls h⟩
  |row r args=>exact⟨λb=>(by cases b),gC.rows h⟩
  |_=>exact h.elim
 |halt k w'=>
  rw[c]at h
  cases k with
  |panic v=>exact h
  |_=>exact h.elim
theorem n7.defer{c:Call}(i:ops.toList=pre++[o])(p:∀o∈pre,∀c,o.op≠.defer c)(B:o.op=.defer c)(m:o.guard=none)(hd:o.dst=none)(hf:c.callee=.value f)(A:c.args.size=0)(hq:wu C.P g)
 (h:dK C.P hn C.N ops (λk=>(∃first caps,k.ev f=.fn (.func g) first caps)/\n7 C fn res y k) pre st):n7 C fn res (.seq (.region id ops false) y) st:=by
 intro n L a w u r;refine wpIn_seq (wpIn_region_list ?_);rw[i];refine dQ _ (iK gC (ds:=a.defers) ?_ p u (aI.refl u.1) rfl h);intro G x s v e _ l q;obtain⟨⟨first,caps,D⟩,F⟩:=q;obtain⟨vs,z,j⟩:=GG (by have:=db e.2.2 f;rw[D]at this;exact this);show wpListIn Fence.wide n C.P ops _ [o] s v;unfold wpListIn
 have E:Region.wanted o (yielded ops s.tmps)=true:=by unfold Region.wanted;rw[m]
 rw[T8 E];refine GO (Oper.wp_defer B hf A j ?_);rw[hd];refine F n x _ v ⟨e.1,e.2.1,e.2.2⟩ ?_;intro d b;rcases Ut.1 b with rfl|b
 .exact⟨g,z,rfl,hq⟩
 .rw[l]at b;exact r d b
theorem n7.range(A:∀b,¬C.S b){x:Code}{q b0:Nat}{xs:List (PV×PV)}(hit:Fs C.P gf caps xs)(hp:p<C.N)(hq:q<C.N)
 {ks:List Nat}{hin:Nat->List PV}{t:Nat->AV}
 (hx:aE Fence.wide C x (λe f=>e=.normal/\f.ev gop=.pv (.fn (.func gf) [] caps)/\(∀k∈ks,f.h k=some (.box ((hin k).map .pv) true false))/\∀m,(∃k∈ks,t m=.ptr k 0/\f.t m=.ptr k 0)\/t m=.undef) st)
 (I:Nat->Hp->Prop)(h0:I 0 (kl ks hin))(hI:∀i h k,k∈ks->I i h->∃cs,h k=some (.box cs false false))
 (E:∀(C1 g:Cx)(l i:Nat)(x:PV×PV)(h:Hp),C1.P=C.P->C1.N=C.N->g.P=C.P->g.N=C.N->xs[i]?=some x->I i h->
   aE (Fence.wide.inRound l) C1 assign (λe f=>e=.normal/\aE (Fence.wide.inRound l) g body (λe' ba=>e'=.normal/\I (i+1) ba.h) f) ⟨pJ t p q x,h⟩)
 (b7:qC ops=true){hn:List Nat}(R:∀h,I xs.length h->dK C.P hn C.N ops (λf=>Cs res=true/\jf C.P fn.results.toList [] res f) ops.toList ⟨t,h⟩):
 n7 C fn res (.seq (.seq x (.block b0 (.rangeFunc gop #[p,q] assign body))) (.seq (.region id ops false) .ret)) st:=by
 intro n L a w hs ca;refine wpIn_seq (wpIn_seq (wpIn_mono (hx n L a w hs) ?_));rintro e F w1 ⟨U,V,c,ck,b1,rfl,hg,y,a7⟩;have O:=db c.2.2 gop;rw[hg]at O
 obtain⟨us,cg,Z⟩:∃us:List Value,F.eval gop=.func (.func gf) #[] us.toArray/\bS w1 (ab C V U.h) caps us:=by
  generalize F.eval gop=u at O
  cases O with
  |pv B=>
   cases B with
   |fn _ _ _ vs us hl j h1 J=>
    have:vs=[]:=Uy hl.symm;subst this;exact⟨us,rfl,j,J⟩
 have bH:∀k∈ks,(∀o,ab C V U.h (V k).b o)/\kD w1 (ab C V U.h) (V k).b (hin k):=by
  intro k j;obtain⟨arr,ty,z,r⟩:=c.1.bl k _ (y k j);exact⟨λo=>.inr ⟨k,_,y k j,trivial,rfl,by simp[Blk.frz]⟩,arr,ty,z,r.map_pv_inv⟩
 refine wpIn_block (wpIn_mono (Ib (N:=C.N) cg hit (λb o h=>c.1.mlt h) Z bH (λk j k' b3 b8=>c.1.sep k k' _ _ b8 (y k j) (y k' b3) trivial trivial) c.2.1 hp hq (t:=t) ?_ I h0 hI E) ?_)
 .intro m
  rcases a7 m with⟨k,j,z,r⟩|e
  .have B:=c.2.2 m
   rw[r]at B;generalize hv:F.tmps.getD m undef=v at B
   cases B with
   |ptr _=>exact .inl ⟨k,j,z,rfl⟩
  .exact .inr e
 rintro e a2 w2 ⟨rfl,g,L2,J,D,s,X,bc,Y,b4,ar,bs,a9,K,G,cj,rfl⟩;show Code.wpIn Fence.wide n C.P _ _ _ w2
 have a6:gM g L2 ⟨t,J⟩ {F with defers:={target:=.collected D,args:=#[]}::F.defers} w2:=by
  refine⟨b4,by rw[X];exact c.2.1,λm=>?_⟩;show RepA w2 (ab g L2 J) L2 J (t m) (F.tmps.getD m undef);rcases a7 m with⟨k,j,z,r⟩|e
  .have B:=c.2.2 m
   rw[r]at B;obtain⟨cs,hc⟩:=hI _ J k j ar
   have hv:F.tmps.getD m undef=.pointer (some ⟨(V k).b,0,none⟩):=by
    generalize F.tmps.getD m undef=v at B
    cases B with
    |ptr _=>rfl
   rw[z,hv,<-bs k j];exact .ptr hc
  .rw[e];exact .undef _
 refine wpIn_seq (wpIn_region_list ?_);have T:=R J ar;rw[<-s,<-X]at T;rw[s]at T;have ad:=λQ' bq=>iK (C:=g) (Q:=λf=>Cs res=true/\jf C.P fn.results.toList [] res f) (Q':=Q') (hn:=hn) (ops:=ops) gC (n:=n) bq (λ_ ho=>lJ b7 ho) a6 (aI.refl a6.1) rfl (by rw[s];exact T);rw[s]at ad;refine ad _ ?_;intro ch L3 a3 H d _ b2 a5;refine wpIn_ret ?_;show LeavesInM Fence.wide n C.P fn a3.tmps (JY C res) a3.defers .returning H;rw[b2];have W:D<g.w0.heap.size:=(UA.1 K).1;have bb:H.heap[D]?=some (.deferred (some [])):=(d.1.ext.block D W G).trans K;obtain⟨b5,b9⟩:=d.1.turn K G rfl (by intro _ _ h;cases h) (.deferred none);have cb:gM {g with w0:=g.w0.putObj D (.deferred none)} L3 ch a3 (H.putObj D (.deferred none)):=⟨b5,d.2.1,λm=>(d.2.2 m).mono b9 (KC.refl _ _)⟩;obtain⟨u,cd,cf⟩:=Ct cb (fn:=fn) (res:=res) a5.1 (by show jf g.P _ _ _ _;rw[s];exact a5.2)
 have a8:(results fn a3.tmps).run C.P (H.putObj D (.deferred none))=.ok u (H.putObj D (.deferred none)):=by rw[<-s];exact cd
 refine⟨by simp,.inl ⟨D,_,rfl,run_takeDeferred bb,rO (by rw[b1];exact ca) a8 ⟨u,rfl,?_,?_⟩⟩⟩
 .
  have z:Ext (λ_=>False) C.w0 w1:=tN A c.1.ext;have r:Ext (λ_=>False) C.w0 g.w0:=z.trans a9 (λ_ _ h=>h);have cm:=z.size;refine⟨?_,?_,?_,?_,?_⟩
  .show H.os=_;rw[d.1.ext.os];exact r.os
  .show H.tape=_;rw[d.1.ext.tape];exact r.tape
  .show H.output=_;rw[d.1.ext.output];exact r.output
  .simp only[World.putObj_size];exact VH r.size d.1.ext.size
  .intro b hb _
   rw[World.putObj_heap_other (by omega)];rw[d.1.ext.block b (UU hb r.size) ?_]
   .exact r.block b hb (λh=>h)
   .intro M
    obtain⟨k,j,rfl⟩:=Y b M;have:=c.1.own k _ (y k j);rcases this with this|this
    .omega
    .exact A _ this.1
 .have z:Ext (λ_=>False) C.w0 w1:=tN A c.1.ext
  have r:Ext (λ_=>False) C.w0 g.w0:=z.trans a9 (λ_ _ h=>h);refine cf _ _ (λb o h=>?_) (λb h=>?_)
  .show g.M0 b o
   rw[bc];exact .inl h
  .rcases h with h|⟨M,_⟩
   .have h9:g.w0.heap.size<=b:=by simpa only[World.putObj_size]using h
    exact VH r.size h9
   .obtain⟨k,j,rfl⟩:=Y b M
    rcases c.1.own k _ (y k j)with this|this
    .exact this
    .exact absurd this.1 (A _)
end
theorem Er{f:FuncId}{c:Code}(hf:P.funcs[f]?=some fn)(y:fn.body=some c)(l:da P f=true){args:List PV}(H:args.length<=fn.ntmps)
 (h:∀C:Cx,C.P=P->C.N=fn.ntmps->(∀b,¬C.S b)->n7 C fn res c (qS (args.map .pv) [])):aP P f (args.map .pv) [] [] res:=by
 refine⟨l,rfl,λw M I vs J B K G s u=>?_⟩;have D:I=[]:=Uy B;subst D
 let C:Cx:={P:=P,N:=fn.ntmps,M0:=M,S:=λ_=>False,pb:=λ_=>none,w0:=w}
 have a:∀k,(qS (args.map .pv) []).h k=none:=by
  intro k;simp only[qS,tG];split
  .rfl
  .simp
 have F:args.length=vs.length:=by simpa using s
 have O:gM C (λ_=>default) (qS (args.map .pv) []) {tmps:=vs.toArray++Array.replicate (fn.ntmps-vs.toArray.size) undef,defers:=[]} w:=by
  refine⟨⟨Ext.refl _ _,J,λk q g=>(by rw[a]at g;cases g),λk U R T _ g=>(by rw[a]at g;cases g),λk q g=>(by rw[a]at g;cases g)⟩,?_,λn=>?_⟩
  .show(vs.toArray++Array.replicate (fn.ntmps-vs.toArray.size) undef).size=fn.ntmps
   simp;omega
  .have r:∀b o,ab C (λ_=>default) (qS (args.map .pv) []).h b o->M b o:=by
    rintro b o (h|⟨k,q,g,_⟩)
    .exact h
    .rw[a]at g;cases g
   show RepA w _ _ _ (Ci (args.map .pv) n) _;simp only[Ci];split
   .rename_i p hp
    have m:n<vs.length:=by rw[<-s];exact(th.1 hp).1
    have Q:=u n (.pv p) vs[n] hp (an m)
    have z:(vs.toArray++Array.replicate (fn.ntmps-vs.toArray.size) undef).getD n undef=vs[n]:=by
     rw[T9,UF (by simpa using m)];simp[m]
    simp only[z];have E:Rep w M p vs[n]:=Q;exact .pv (E.mono (Pres.sub r))
   .rename_i j hp
    rw[TR]at hp
    cases hq:args[n]? with
    |none=>rw[hq]at hp;cases hp
    |some x=>rw[hq]at hp;cases hp
   .exact .undef _
 refine(callsIn_wide (n:=0)).1 ((callsIn_of_wp_marks hf y trivial (h C rfl rfl (λ_ h=>h) 0 _ _ w O (λd hd=>(by simp at hd))) rfl).mono ?_);rintro e w' ⟨v,rfl,A,L⟩;exact⟨v,rfl,⟨A.os,A.tape,A.output,A.size,λb y _=>A.block b y (λh=>h)⟩,λi b V y=>(by simp at y),L⟩
@[simp] theorem LF:BL F C y Q .normal st=aE F C y Q st:=rfl
@[simp] theorem Ox:BL F C y Q .ret st=Q .ret st:=rfl
@[simp] theorem NY:BL F C y Q (.exit i) st=Q (.exit i) st:=rfl
@[simp] theorem NL:Ic C fn res y .normal st=n7 C fn res y st:=rfl
@[simp] theorem Pi:Ic C fn res y .ret st=(Cs res=true/\jf C.P fn.results.toList [] res st):=rfl
section
variable {F:Fence} {C:Cx} {x y:Code} {Q:Exit->St->Prop} {st:St} {c:Operand}
def sO(F:Fence)(C:Cx)(x y:Code)(Q:Exit->St->Prop)(st:St):AV->Prop
 |.pv (.val (.bool b))=>(b=true->aE F C x Q st)/\(b=false->aE F C y Q st)
 |_=>False
@[simp] theorem NM:sO F C x y Q st (.pv (.val (.bool true)))=aE F C x Q st:=by simp[sO]
@[simp] theorem LG:sO F C x y Q st (.pv (.val (.bool false)))=aE F C y Q st:=by simp[sO]
theorem dR{b:Bool}(h1:b=true->aE F C x Q st)(a:b=false->aE F C y Q st):sO F C x y Q st (.pv (.val (.bool b))):=⟨h1,a⟩
theorem aE.cond'(h:sO F C x y Q st (st.ev c)):aE F C (.cond c x y) Q st:=by
 cases a:st.ev c with
 |pv p=>cases p with
  |val v=>cases v with
   |bool b=>rw[a]at h;exact aE.cond a h.1 h.2
   |_=>rw[a]at h;exact h.elim
  |_=>rw[a]at h;exact h.elim
 |_=>rw[a]at h;exact h.elim
end
def eQ(N:Nat)(M:Nat->Nat->Prop)(t:Nat->AV)(a:Act)(w:World):Prop:=a.tmps.size=N/\∀m,t m=.undef\/∃p,t m=.pv p/\Rep w M p (a.tmps.getD m undef)
theorem eQ.sim{t:Nat->AV}(h:eQ N M t a w)(f:∀b o,M b o->b<w.heap.size):gM {P:=P,N:=N,M0:=M,S:=λ_=>False,pb:=λ_=>none,w0:=w} (λ_=>default) ⟨t,λ_=>none⟩ a w:=by
 refine⟨⟨Ext.refl _ _,f,λk d c=>(by cases c),λk l i j _ c=>(by cases c),λk d c=>(by cases c)⟩,h.1,λm=>?_⟩;rcases h.2 m with e|⟨p,e,g⟩
 .show RepA w _ _ _ (t m) _
  rw[e];exact .undef _
 .show RepA w _ _ _ (t m) _
  rw[e];refine .pv (g.mono (Pres.sub ?_));rintro b o (h|⟨k,d,c,_⟩)
  .exact h
  .cases c
def bC(t:Nat->AV):Nat->AV:=λm=>match t m with
 |.pv p=>.pv p
 |_=>.undef
theorem qD{L:Nat->Loc}(c:gM C L st a w):eQ C.N C.M0 (bC st.t) a w:=by
 refine⟨c.2.1,λm=>?_⟩;have:=c.2.2 m;unfold bC;generalize st.t m=v at this
 cases v with
 |pv p=>
  cases this with
  |pv d=>exact .inr ⟨p,rfl,d.mono (Pres.sub λb o h=>.inl h)⟩
 |_=>exact .inl rfl
theorem eQ.sub{t t':Nat->AV}(h:eQ N M t a w)(b:∀m,t' m=.undef\/t' m=t m):eQ N M t' a w:=by
 refine⟨h.1,λm=>?_⟩;rcases b m with e|e
 .exact .inl e
 .rw[e];exact h.2 m
theorem eQ.mono{M':Nat->Nat->Prop}{t:Nat->AV}(h:eQ N M t a w)(hp:Pres w M w' M'):eQ N M' t a w':=
 ⟨h.1,λm=>(h.2 m).imp id λ⟨p,e,b⟩=>⟨p,e,b.mono hp⟩⟩
theorem eQ.step{t:Nat->AV}{c:Code}(h:eQ N M t a w)(i:∀b o,M b o->b<w.heap.size)
 (j:∀C:Cx,C.P=P->C.N=N->aE Fence.wide C c Q ⟨t,λ_=>none⟩):c.wpIn Fence.wide n P (λe g w'=>∃d,Q e d/\eQ N M (bC d.t) g w'/\Ext (λ_=>False) w w'/\g.defers=a.defers) a w:=
 wpIn_mono (j {P:=P,N:=N,M0:=M,S:=λ_=>False,pb:=λ_=>none,w0:=w} rfl rfl n _ a w (h.sim i)) λ_ _ _ ⟨d,_,f,_,hd,hq⟩=>⟨d,hq,qD f,f.1.ext,hd⟩
theorem eQ.list{t:Nat->AV}{l:List Oper}{Q:St->Prop}{Q':Exit->Act->World->Prop}(h:eQ N M t a w)(i:∀b o,M b o->b<w.heap.size)(g:∀o∈l,∀c,o.op≠.defer c)
 (k:dK P hn N ops Q l ⟨t,λ_=>none⟩)(j:∀d e w',Q d->eQ N M (bC d.t) e w'->Ext (λ_=>False) w w'->e.defers=a.defers->Q' .normal e w'):wpListIn Fence.wide n P ops Q' l a w:=
 iK (C:={P:=P,N:=N,M0:=M,S:=λ_=>False,pb:=λ_=>none,w0:=w}) gC (λd L' e w' f _ hd hq=>j d e w' hq (qD f) f.1.ext hd) g (h.sim i) (aI.refl (h.sim (P:=P) i).1) rfl k
theorem Ft{rest:List Oper}{c:Call}{y:Operand}{Q:Exit->Act->World->Prop}{R:Ending->World->Prop}(r:Region.wanted o (yielded ops a.tmps)=true)(q:o.op=.call c)(j:c.callee=.value f)(b:c.args=#[x,y])
 (hf:a.eval f=.func (.yield l) #[] #[])(s:YieldAt Fence.wide (n-1) P l #[a.eval x,a.eval y] w R)
 (g:∀e w',R e w'->∃v,e=.returned v/\wpListIn Fence.wide n P ops Q rest (a.put o.dst v) w'):wpListIn Fence.wide n P ops Q (o::rest) a w:=by
 obtain⟨fn,tmps,assign,body,k,d⟩:=s;unfold wpListIn;rw[T8 r];refine⟨λ_ _=>trivial,?_⟩;show o.uponIn Fence.wide n P a _ Q ((o.semAt none a.eval).run P w);rw[Oper.semAt_none]
 have i:(execOp a.eval o).run P w=.ok (.round l fn tmps assign body) w:=by
  generalize a.eval=ρ at hf k;unfold execOp;rw[q];obtain⟨m,u,at_⟩:=c;simp only at j b;subst j;subst b;simp[resolve,hf,invoke,go_sem,k]
 rw[i];refine⟨λh=>(by cases h),d.mono ?_⟩;intro e w' p;obtain⟨v,rfl,h⟩:=g e w' p;exact h
def BG(P:Program)(gf:FuncId)(caps:List PV)(xs:List PV):Prop:=
 da P gf=true/\∀(n l:Nat)(lb:List Value)(W:World)(M:Nat->Nat->Prop)(J d:Nat->(Nat->Nat->Prop)->World->Prop),
  (∀i M W,J i M W->∀b o,M b o->b<W.heap.size)->(∀i M W a,J i M W->Ext (λ_=>False) W a->J i M a)->
  (∀i M W,d i M W->∀b o,M b o->b<W.heap.size)->(∀i M W a,d i M W->Ext (λ_=>False) W a->d i M a)->
  (∀m i x M W f,xs[i]?=some x->J i M W->Rep W M x f->YieldAt Fence.wide m P l #[f] W λe a=>∃(b:Bool)(c:Nat->Nat->Prop),e=.returned (.bool b)/\(if b=true then J (i+1) c a else d i c a)/\Pres W M a c)->
  J 0 M W->bS W M caps lb->CallsIn Fence.wide n P gf (#[.func (.yield l) #[] #[]]++lb.toArray) W λe a=>(∃v,e=.returned v)/\((∃c,J xs.length c a)\/∃i c,i<xs.length/\d i c a)
def mz(t:Nat->AV)(p:Nat)(x:PV):Nat->AV:=ae t p (.pv x)
theorem MemL.kill{L:Nat->Loc}(ks:List Nat)(g:MemL C L st.h w):MemL C L (st.kill ks).h w/\∀b o,ab C L (st.kill ks).h b o->ab C L st.h b o:=by
 have d:∀k a,(st.kill ks).h k=some a->∃c,st.h k=some c/\bw ks c=a/\a.live (L k)=c.live (L k)/\∀o,a.frz o=c.frz o:=by
  intro k a f;simp only[St.kill]at f;split at f
  .cases f
  .simp only[No]at f
   obtain⟨c,h1,rfl⟩:=f;exact⟨c,h1,rfl,by cases c<;>rfl,λo=>by cases c<;>rfl⟩
 have F:∀b o,ab C L (st.kill ks).h b o->ab C L st.h b o:=by
  rintro b o (T|⟨k,a,f,A,W,hf⟩)
  .exact .inl T
  .obtain⟨c,h1,_,U,V⟩:=d k a f
   exact .inr ⟨k,c,h1,U▸A,W,V o▸hf⟩
 have hp:Pres w (ab C L st.h) w (ab C L (st.kill ks).h):=Pres.sub F;refine⟨⟨g.ext,g.m0,?_,?_,?_⟩,F⟩
 .intro k a f
  obtain⟨c,h1,rfl,_,_⟩:=d k a f;have:=g.bl k c h1
  cases c with
  |box Q own y=>
   obtain⟨arr,ty,v,m⟩:=this;refine⟨arr,ty,v,by simpa using m.1,λi p u l E=>?_⟩;simp only[TR,No]at l;obtain⟨q,hq,rfl⟩:=l;exact va hp (m.2 i q u hq E)
  |row e sz xs y=>
   obtain⟨H,I,a3,a4,J⟩:=this;refine⟨H,I,a3,a4,λhn=>?_⟩;obtain⟨r,s,arr,K,M,N⟩:=J hn;exact⟨r,s,arr,K,M,λi x j p Z X=>by obtain⟨u,E,Y⟩:=N i x j p Z X;exact⟨u,E,Y.mono hp⟩⟩
  |mp kd n es y=>exact this
 .intro k G r s D f z A B
  obtain⟨O,R,_,v,_⟩:=d k r f;obtain⟨P,S,_,m,_⟩:=d G s z;exact g.sep k G O P D R S (v▸A) (m▸B)
 .intro k a f
  obtain⟨c,h1,rfl,_,_⟩:=d k a f;have:=g.own k c h1
  cases c with
  |box Q own y=>cases own<;>exact this
  |row=>exact this
  |mp=>exact this
def Gm(kd:List Nat)(I:Nat->Hp->Prop)(a:Nat->Hp->Prop)(i:Nat):Exit->St->Prop
 |.normal,st=>I (i+1) (st.kill kd).h
 |.ret,st=>a i st.h
 |_,_=>False
theorem Gn(hg:a.eval gop=.func (.func gf) #[] lb.toArray)
 {caps:List PV}{xs:List PV}(hit:BG P gf caps xs){M:Nat->Nat->Prop}(hM:∀b o,M b o->b<w.heap.size)(ch:bS w M caps lb)
 {ks:List Nat}{Q:Nat->Nat}{hin:Nat->List PV}(R:∀k∈ks,(∀o,M (Q k) o)/\kD w M (Q k) (hin k))(ck:∀k∈ks,∀k'∈ks,k≠k'->Q k≠Q k')
 (hN:a.tmps.size=N)(hp:p<N){t:Nat->AV}(ht:∀m,(∃k∈ks,t m=.ptr k 0/\a.tmps.getD m undef=.pointer (some ⟨Q k,0,none⟩))\/(∃q,t m=.pv q/\Rep w M q (a.tmps.getD m undef))\/t m=.undef)
 (I Ix:Nat->Hp->Prop)(h0:I 0 (kl ks hin))(hI:∀i h k,k∈ks->I i h->∃cs,h k=some (.box cs false false))(cr:∀i h k,k∈ks->Ix i h->∃cs,h k=some (.box cs false false))
 (ar:∀(C C':Cx)(l i:Nat)(x:PV)(h:Hp),C.P=P->C.N=N->C'.P=P->C'.N=N->xs[i]?=some x->I i h->
   aE (Fence.wide.inRound l) C assign (λe c2=>e=.normal/\aE (Fence.wide.inRound l) C' body (Gm kd I Ix i) c2) ⟨mz t p x,h⟩):
 (Code.rangeFunc gop #[p] assign body).wpIn Fence.wide n P (λe a' w'=>∃(C:Cx)(L:Nat->Loc)(h:Hp)(D:Nat),((e=.normal/\I xs.length h)\/(e=.ret/\∃i,i<xs.length/\Ix i h))/\C.P=P/\C.N=N/\C.M0=M/\(∀b,C.S b->∃k∈ks,b=Q k)/\
   MemL C L h w'/\(∀k∈ks,(L k).b=Q k)/\(∀q v,Rep w M q v->Rep w' (ab C L h) q v)/\Ext (λ_=>False) w C.w0/\C.w0.heap[D]?=some (.deferred (some []))/\¬C.S D/\w.heap.size<=D/\a'={a with defers:={target:=.collected D,args:=#[]}::a.defers}) a w:=by
 refine wpIn_rangeFunc ?_;intro fn _;obtain⟨d,j⟩:∃d:LoopState->Option Code->Loop,d=λst pe=>{state:=st,pending:=pe,fn,tmps:=a.tmps,params:=#[p],assign,body,defers:=w.heap.size}:=⟨_,rfl⟩;obtain⟨J,Y⟩:∃J,(w.alloc (.deferred (some []))).alloc (.loop (d .ready none))=J:=⟨_,rfl⟩
 have V:Ext (λ_=>False) w J:=by rw[<-Y];exact(Ext.alloc _ _ _).trans (Ext.alloc _ _ _) (λ_ _ h=>h)
 have c4:J.heap.size=w.heap.size+2:=by rw[<-Y];simp
 have b0:J.heap[w.heap.size+1]?=some (.loop (d .ready none)):=by
  rw[<-Y];have:=World.alloc_heap_new (w.alloc (.deferred (some []))) (.loop (d .ready none));rwa [World.size_alloc]at this
 have cq:J.heap[w.heap.size]?=some (.deferred (some [])):=by
  rw[<-Y];exact(RowKit.Below.heap_alloc _ _ _ (by simp)).trans (World.alloc_heap_new w _)
 obtain⟨l,hl⟩:∃l,l=w.heap.size+1:=⟨_,rfl⟩;rw[<-hl]at b0;obtain⟨g,f⟩:∃g:Obj->Cx,g=λo=>{P:=P,N:=N,M0:=M,S:=λb=>∃k∈ks,b=Q k,pb:=λk=>if ks.contains k=true then some (Q k)else none,w0:=J.putObj l o}:=⟨_,rfl⟩
 have hS:∀o b,(g o).S b->b<w.heap.size:=by
  intro o b z;rw[f]at z;obtain⟨k,u,rfl⟩:=z;exact mX (R k u).2
 have U:∀o,(g o).w0=J.putObj l o:=λo=>by rw[f]
 have cb:∀o o' L h,ab (g o) L h=ab (g o') L h:=λo o' L h=>by rw[f];rfl
 have b3:∀(o:Obj),(g o).w0.heap[l]?=some o:=λo=>by rw[U];exact World.putObj_heap_same (UA.1 b0).1
 have cm:∀o,¬(g o).S l:=λo h=>by have:=hS o l h;omega
 have s:∀{o o':Obj}{L:Nat->Loc}{h:Hp}{W:World},o.isCells=false->(∀arr c,o≠.map arr c)->MemL (g o) L h W->W.heap[l]?=some o/\MemL (g o') L h (W.putObj l o')/\Pres W (ab (g o) L h) (W.putObj l o') (ab (g o') L h):=by
  intro o o' L h W ho cQ O;have cB:l<(g o).w0.heap.size:=(UA.1 (b3 o)).1;obtain⟨h1,h2⟩:=O.turn (b3 o) (cm o) ho cQ o';refine⟨(O.ext.block l cB (cm o)).trans (b3 o),?_,?_⟩
  .have e:({g o with w0:=(g o).w0.putObj l o'}:Cx)=g o':=by rw[f];simp only[uH]
   rw[e]at h1;exact h1
  .rw[cb o' o];exact h2
 have F:J.putObj l (.loop (d .ready none))=J:=xf b0
 have bb:∀{K:Nat->Hp->Prop}{o:Obj}{L:Nat->Loc}{h:Hp}{W:World}{i k:Nat},(∀i h k,k∈ks->K i h->∃cs,h k=some (.box cs false false))->k∈ks->K i h->MemL (g o) L h W->(L k).b=Q k:=by
  intro K o L h W i k hK u hi O;obtain⟨cs,hc⟩:=hK i h k u hi;have:=(O.own k _ hc).2.1;rw[f]at this
  have b5:ks.contains k=true:=by simpa using u
  simp only[b5,Ul,T6]at this;exact this.symm
 let L0:Nat->Loc:=λk=>⟨Q k,0,false⟩
 have G:∀k y,kl ks hin k=some y->k∈ks/\y=.box ((hin k).map .pv) false false:=by
  intro k y u;unfold kl at u;split at u
  .rename_i hc;injection u with u;exact⟨by simpa using hc,u.symm⟩
  .cases u
 have ct:∀o b o',ab (g o) L0 (kl ks hin) b o'->M b o':=by
  rintro o b o' (z|⟨k,y,u,_,z,_⟩)
  .rw[f]at z;exact z
  .obtain⟨A,_⟩:=G k y u
   rw[<-z];exact(R k A).1 o'
 have E:Pres w M J (ab (g (.loop (d .ready none))) L0 (kl ks hin)):=Pres.ext V (λ_ _ h=>h.elim) λb o _ h=>ct _ b o h
 have cH:MemL (g (.loop (d .ready none))) L0 (kl ks hin) J:=by
  refine⟨by rw[U,F];exact Ext.refl _ _,?_,?_,?_,?_⟩
  .intro b o z
   rw[U,F];rw[f]at z;have:=hM b o z;omega
  .intro k y u
   obtain⟨A,rfl⟩:=G k y u;obtain⟨arr,ty,e1,e2⟩:=(R k A).2;exact⟨arr,ty,(V.block _ (mX (R k A).2) (λh=>h)).trans e1,aA.map_pv (e2.mono E)⟩
  .intro k k' b1 b2 cS u ad _ _
   exact ck k (G k b1 u).1 k' (G k' b2 ad).1 cS
  .intro k y u
   obtain⟨A,rfl⟩:=G k y u
   have b5:ks.contains k=true:=by simpa using A
   refine⟨rfl,?_,?_,?_,?_⟩
   .rw[f];simp only[b5,Ul];rfl
   .rw[f];exact⟨k,A,rfl⟩
   .rw[U,F];have:=mX (R k A).2;show Q k<_;omega
   .intro o;rw[f];exact(R k A).1 o
 let Jt:(Nat->Hp->Prop)->Obj->Nat->(Nat->Nat->Prop)->World->Prop:=λK o i H W=>∃L h,K i h/\MemL (g o) L h W/\H=ab (g o) L h/\(∀q v,Rep w M q v->Rep W H q v)
 refine⟨l,[{target:=.collected w.heap.size,args:=#[]}],J,{target:=.fn (.func gf) lb.toArray,args:=#[.func (.yield l) #[] #[]]},J,gf,#[.func (.yield l) #[] #[]]++lb.toArray,J,?_,?_,λ_ _=>trivial,rI hit.1 _ _ _,λh=>(by cases h),?_⟩
 .rw[<-Y,j,hl];exact run_enterLoop_outer _ _ _ _ _
 .simp only[resolve,hg]
  simp[go_sem]
 .have cg:∀K o i H W,Jt K o i H W->∀b o',H b o'->b<W.heap.size:=by
   rintro K o i H W ⟨L,h,_,O,rfl,_⟩ b o' z;exact O.mlt z
  have cj:∀K o i H W W',Jt K o i H W->Ext (λ_=>False) W W'->Jt K o i H W':=by
   rintro K o i H W W' ⟨L,h,hi,O,rfl,hq⟩ hx;exact⟨L,h,hi,(O.grow hx).1,rfl,λq v hr=>(hq q v hr).mono (O.grow hx).2⟩
  refine(hit.2 (n-1) l lb J _ (Jt I (.loop (d .ready none))) (Jt Ix (.loop (d .done (some .ret)))) (cg _ _) (cj _ _) (cg _ _) (cj _ _) ?_ ⟨L0,_,h0,cH,rfl,λq v hr=>hr.mono E⟩ (ch.mono E)).mono ?_
  .
   rintro m i x H W v1 c1 ⟨L,h,hi,O,rfl,hq⟩ cV;obtain⟨cz,_,_⟩:=s (o':=.loop (d .ready none)) rfl (by intro _ _ h;cases h) O;have hy:=run_yield (P:=P) (args:=#[v1]) cz (by rw[j];rfl);rw[j]at hy;refine⟨fn,a.tmps.setIfInBounds p v1,assign,body,by simpa using hy,roundIn_of_wpIn trivial ?_⟩
   have cp:gM (g (.loop (d .ready none))) L ⟨mz t p x,h⟩ {tmps:=a.tmps.setIfInBounds p v1,defers:=[]} W:=by
    refine⟨O,by rw[f];simpa using hN,λk=>?_⟩
    have cT:p<a.tmps.size:=by rw[hN];exact hp
    simp only[xW cT,mz,ae];split
    .exact .pv cV
    .rcases ht k with⟨k',ad,e1,e2⟩|⟨q,e1,e2⟩|e1
     .obtain⟨cs,hc⟩:=hI i h k' ad hi
      rw[e1,e2,<-bb hI ad hi O];exact .ptr hc
     .rw[e1];exact .pv (hq q _ e2)
     .rw[e1];exact .undef _
   have cd:(g (.loop (d .ready none))).P=P:=by rw[f]
   have cf:(g (.loop (d .busy none))).P=P:=by rw[f]
   have hR:=ar (g (.loop (d .ready none))) (g (.loop (d .busy none))) l i x h cd (by rw[f]) cf (by rw[f]) c1 hi m L _ W cp;rw[cd]at hR;refine wpIn_mono hR ?_;rintro e a1 w1 ⟨c3,L1,Z,b9,_,rfl,b4⟩;obtain⟨cw,cM,b8⟩:=s (o':=.loop (d .busy none)) rfl (by intro _ _ h;cases h) Z.1;refine⟨w1.putObj l (.loop (d .busy none)),?_,?_⟩
   .have:=run_beginRound (P:=P) cw (by rw[j])
    rw[j]at this|-;exact this
   have c0:gM (g (.loop (d .busy none))) L1 c3 a1 (w1.putObj l (.loop (d .busy none))):=⟨cM,by have:=Z.2.1;rw[f]at this|-;exact this,λk=>(Z.2.2 k).mono b8 (KC.refl _ _)⟩;have hB:=b4 m L1 a1 _ c0;rw[cf]at hB;refine wpIn_mono hB ?_;rintro e2 a2 w2 ⟨X,L2,cn,ca,_,T⟩
   cases e2 with
   |normal=>
    obtain⟨B,b7,hpr⟩:=s (o':=.loop (d .ready none)) rfl (by intro _ _ h;cases h) cn.1
    have e:(Obj.loop {d .busy none with state:=if(none:Option Code).isNone=true then .ready else .done,pending:=none})=.loop (d .ready none):=by rw[j];rfl
    have r:Pres W (ab (g (.loop (d .ready none))) L h) (w2.putObj l (.loop (d .ready none))) (ab (g (.loop (d .ready none))) L2 X.h):=((b9.2.1.trans b8).trans ca.2.1).trans hpr;obtain⟨cP,cu⟩:=b7.kill kd;have r:=r.trans (Pres.sub cu);refine⟨_,_,run_endRound none B,true,ab (g (.loop (d .ready none))) L2 (X.kill kd).h,rfl,?_,?_⟩
    .rw[T8 rfl,e]
     exact⟨L2,(X.kill kd).h,T,cP,rfl,λq v hr=>(hq q v hr).mono r⟩
    .rw[e];exact r
   |ret=>
    obtain⟨B,b7,hpr⟩:=s (o':=.loop (d .done (some .ret))) rfl (by intro _ _ h;cases h) cn.1
    have e:(Obj.loop {d .busy none with state:=if(some Code.ret).isNone=true then .ready else .done,pending:=some .ret})=.loop (d .done (some .ret)):=by rw[j];rfl
    have r:Pres W (ab (g (.loop (d .ready none))) L h) (w2.putObj l (.loop (d .done (some .ret)))) (ab (g (.loop (d .done (some .ret)))) L2 X.h):=((b9.2.1.trans b8).trans ca.2.1).trans hpr;refine⟨_,_,run_endRound (some .ret) B,false,ab (g (.loop (d .done (some .ret)))) L2 X.h,rfl,?_,?_⟩
    .rw[TQ (by simp),e]
     exact⟨L2,X.h,T,b7,rfl,λq v hr=>(hq q v hr).mono r⟩
    .rw[e];exact r
   |exit=>exact T.elim
   |goto=>exact T.elim
   |panic=>exact T.elim
   |outgrown=>exact T.elim
  .
   have ba:∀(K:Nat->Hp->Prop)(o:Obj)(st:LoopState)(pe:Option Code)(i:Nat)(H:Nat->Nat->Prop)(W2:World),o=.loop (d st pe)->(∀i h k,k∈ks->K i h->∃cs,h k=some (.box cs false false))->Jt K o i H W2->
    W2.heap[l]?=some o/\∃(C:Cx)(L:Nat->Loc)(h:Hp)(D:Nat),K i h/\C.P=P/\C.N=N/\C.M0=M/\(∀b,C.S b->∃k∈ks,b=Q k)/\
     MemL C L h (W2.putObj l (.loop (d .exhausted pe)))/\(∀k∈ks,(L k).b=Q k)/\(∀q v,Rep w M q v->Rep (W2.putObj l (.loop (d .exhausted pe))) (ab C L h) q v)/\Ext (λ_=>False) w C.w0/\C.w0.heap[D]?=some (.deferred (some []))/\¬C.S D/\w.heap.size<=D/\D=w.heap.size:=by
    rintro K o st pe i H W2 rfl hK ⟨L,h,hi,O,rfl,hq⟩;obtain⟨B,cN,cU⟩:=s (o':=.loop (d .exhausted pe)) rfl (by intro _ _ h;cases h) O;refine⟨B,g (.loop (d .exhausted pe)),L,h,w.heap.size,hi,by rw[f],by rw[f],by rw[f],?_,cN,λk u=>bb hK u hi O,λq v hr=>(hq q v hr).mono cU,?_,?_,?_,Ua _,rfl⟩
    .intro b z
     rw[f]at z;exact z
    .rw[U]
     refine⟨V.os,V.tape,V.output,by simp;omega,λb z _=>?_⟩;rw[World.putObj_heap_other (by omega)];exact V.block b z (λh=>h)
    .rw[U,World.putObj_heap_other (by omega)];exact cq
    .intro z
     have:=hS _ _ z;omega
   rintro e W2 ⟨⟨v,rfl⟩,⟨H,hj⟩|⟨i,H,hi,hj⟩⟩
   .obtain⟨B,C,L,h,D,a1,a2,a3,a4,a5,a6,a7,bH,a8,a9,bc,bq,rfl⟩:=ba I _ _ _ _ _ _ rfl hI hj
    refine⟨none,W2.putObj l (.loop (d .exhausted none)),?_,C,L,h,_,.inl ⟨rfl,a1⟩,a2,a3,a4,a5,a6,a7,bH,a8,a9,bc,bq,rfl⟩;have:=run_endLoop (P:=P) B (by rw[j];simp);rw[j]at this|-;exact this
   .obtain⟨B,C,L,h,D,a1,a2,a3,a4,a5,a6,a7,bH,a8,a9,bc,bq,rfl⟩:=ba Ix _ _ _ _ _ _ rfl cr hj
    refine⟨some .ret,W2.putObj l (.loop (d .exhausted (some .ret))),?_,wpIn_ret ⟨C,L,h,_,.inr ⟨rfl,i,hi,a1⟩,a2,a3,a4,a5,a6,a7,bH,a8,a9,bc,bq,rfl⟩⟩;have:=run_endLoop (P:=P) B (by rw[j];simp);rw[j]at this|-;exact this
theorem wU{c:Cx}{res:PV}{g i:St}{y a3:Act}{v d:World}{x T:Nat->Loc}{D:Nat}{ks:List Nat}{U:Nat->Nat}{hin:Nat->List PV}(l:∀b,¬C.S b)(r:gM C x g y v)(I:∀k∈ks,g.h k=some (.box ((hin k).map .pv) true false))(G:∀k∈ks,U k=(x k).b)
 (L:zf C.P y.defers)(q:c.P=C.P)(A:c.M0=ab C x g.h)(B:∀b,c.S b->∃k∈ks,b=U k)(R:Ext (λ_=>False) v c.w0)(f:c.w0.heap[D]?=some (.deferred (some [])))(e:¬c.S D)(W:v.heap.size<=D)
 (a:gM c T i a3 d)(H:a3.defers={target:=.collected D,args:=#[]}::y.defers)(M:jf C.P fn.results.toList [] (.pv res) i):LeavesInM Fence.wide n C.P fn a3.tmps (LE C res) a3.defers .returning d:=by
 rw[H];have p:D<c.w0.heap.size:=(UA.1 f).1;have z:d.heap[D]?=some (.deferred (some [])):=(a.1.ext.block D p e).trans f;obtain⟨J,K⟩:=a.1.turn f e rfl (by intro _ _ h;cases h) (.deferred none);have N:gM {c with w0:=c.w0.putObj D (.deferred none)} T i a3 (d.putObj D (.deferred none)):=⟨J,a.2.1,λm=>(a.2.2 m).mono K (KC.refl _ _)⟩;obtain⟨u,O,Q⟩:=Ep N (fn:=fn) (res:=res) (by show jf c.P _ _ _ _;rw[q];exact M)
 have s:(results fn a3.tmps).run C.P (d.putObj D (.deferred none))=.ok u (d.putObj D (.deferred none)):=by rw[<-q];exact O
 refine⟨by simp,.inl ⟨D,_,rfl,run_takeDeferred z,rO L s ⟨u,rfl,?_,?_⟩⟩⟩
 .have V:Ext (λ_=>False) C.w0 v:=tN l r.1.ext
  have j:Ext (λ_=>False) C.w0 c.w0:=V.trans R (λ_ _ h=>h);have Y:=V.size;refine⟨?_,?_,?_,?_,?_⟩
  .show d.os=_;rw[a.1.ext.os];exact j.os
  .show d.tape=_;rw[a.1.ext.tape];exact j.tape
  .show d.output=_;rw[a.1.ext.output];exact j.output
  .simp only[World.putObj_size];exact VH j.size a.1.ext.size
  .intro b F _
   rw[World.putObj_heap_other (by omega)];rw[a.1.ext.block b (UU F j.size) ?_]
   .exact j.block b F (λh=>h)
   .intro E
    obtain⟨k,X,rfl⟩:=B b E;rw[G k X]at F;have:=r.1.own k _ (I k X);rcases this with this|this
    .omega
    .exact l _ this.1
 .refine Q.mono (Pres.sub ?_)
  intro b o h;show c.M0 b o;rw[A];exact .inl h
theorem n7.rangeS{res:PV}(Y:∀b,¬C.S b){x:Code}{b0:Nat}(hit:BG C.P gf caps xs)(hp:p<C.N)
 {ks:List Nat}{hin:Nat->List PV}{t:Nat->AV}
 (hx:aE Fence.wide C x (λe d=>e=.normal/\d.ev gop=.pv (.fn (.func gf) [] caps)/\(∀k∈ks,d.h k=some (.box ((hin k).map .pv) true false))/\∀m,(∃k∈ks,t m=.ptr k 0/\d.t m=.ptr k 0)\/(∃q,t m=.pv q/\d.t m=.pv q)\/t m=.undef) st)
 (I Ix:Nat->Hp->Prop)(h0:I 0 (kl ks hin))(hI:∀i h k,k∈ks->I i h->∃X,h k=some (.box X false false))(ad:∀i h k,k∈ks->Ix i h->∃X,h k=some (.box X false false))
 (B:∀(C1 J:Cx)(l i:Nat)(x:PV)(h:Hp),C1.P=C.P->C1.N=C.N->J.P=C.P->J.N=C.N->xs[i]?=some x->I i h->
   aE (Fence.wide.inRound l) C1 assign (λe d=>e=.normal/\aE (Fence.wide.inRound l) J body (Gm kd I Ix i) d) ⟨mz t p x,h⟩)
 (b5:qC ops=true){hn:List Nat}(T:∀h,I xs.length h->dK C.P hn C.N ops (λd=>jf C.P fn.results.toList [] (.pv res) d) ops.toList ⟨t,h⟩)
 (R:∀i h,i<xs.length->Ix i h->jf C.P fn.results.toList [] (.pv res) ⟨t,h⟩):
 n7 C fn (.pv res) (.seq (.seq x (.block b0 (.rangeFunc gop #[p] assign body))) (.seq (.region id ops false) .ret)) st:=by
 intro n L a w hs b9;refine wpIn_seq (wpIn_seq (wpIn_mono (hx n L a w hs) ?_));rintro e j w1 ⟨V,W,c,cf,b1,rfl,hg,s,bb⟩;have K:=db c.2.2 gop;rw[hg]at K
 obtain⟨us,cd,a8⟩:∃us:List Value,j.eval gop=.func (.func gf) #[] us.toArray/\bS w1 (ab C W V.h) caps us:=by
  generalize j.eval gop=u at K
  cases K with
  |pv f=>
   cases f with
   |fn _ _ _ vs us hl g h1 y=>
    have:vs=[]:=Uy hl.symm;subst this;exact⟨us,rfl,g,y⟩
 have bH:∀k∈ks,(∀o,ab C W V.h (W k).b o)/\kD w1 (ab C W V.h) (W k).b (hin k):=by
  intro k g;obtain⟨arr,ty,z,A⟩:=c.1.bl k _ (s k g);exact⟨λo=>.inr ⟨k,_,s k g,trivial,rfl,by simp[Blk.frz]⟩,arr,ty,z,A.map_pv_inv⟩
 have H:zf C.P j.defers:=by rw[b1];exact b9
 refine wpIn_block (wpIn_mono (Gn (N:=C.N) cd hit (λb o h=>c.1.mlt h) a8 bH (λk g k' b3 b7=>c.1.sep k k' _ _ b7 (s k g) (s k' b3) trivial trivial) c.2.1 hp (t:=t) ?_ I Ix h0 hI ad B) ?_)
 .intro m
  rcases bb m with⟨k,g,z,A⟩|⟨q,z,A⟩|e
  .have f:=c.2.2 m
   rw[A]at f;generalize hv:j.tmps.getD m undef=v at f
   cases f with
   |ptr _=>exact .inl ⟨k,g,z,rfl⟩
  .have f:=c.2.2 m
   rw[A]at f
   cases f with
   |pv f=>exact .inr (.inl ⟨q,z,f⟩)
  .exact .inr (.inr e)
 rintro e a2 w2 ⟨J,L2,y,D,F,r,a5,ar,a6,b4,bs,b8,bc,Z,G,E,rfl⟩
 have a7:∀k∈ks,∃X,y k=some (.box X false false):=by
  intro k g;rcases F with⟨_,hi⟩|⟨_,i,_,hi⟩
  .exact hI _ y k g hi
  .exact ad _ y k g hi
 have O:gM J L2 ⟨t,y⟩ {j with defers:={target:=.collected D,args:=#[]}::j.defers} w2:=by
  refine⟨b4,by rw[a5];exact c.2.1,λm=>?_⟩;show RepA w2 (ab J L2 y) L2 y (t m) (j.tmps.getD m undef);rcases bb m with⟨k,g,z,A⟩|⟨q,z,A⟩|e
  .have f:=c.2.2 m
   rw[A]at f;obtain⟨X,hc⟩:=a7 k g
   have hv:j.tmps.getD m undef=.pointer (some ⟨(W k).b,0,none⟩):=by
    generalize j.tmps.getD m undef=v at f
    cases f with
    |ptr _=>rfl
   rw[z,hv,<-bs k g];exact .ptr hc
  .have f:=c.2.2 m
   rw[A]at f;rw[z]
   cases f with
   |pv f=>exact .pv (b8 q _ f)
  .rw[e];exact .undef _
 rcases F with⟨rfl,M⟩|⟨rfl,i,ba,M⟩
 .show Code.wpIn Fence.wide n C.P _ _ _ w2
  refine wpIn_seq (wpIn_region_list ?_);have U:=T y M;rw[<-r,<-a5]at U;rw[r]at U;have a9:=λQ' bq=>iK (C:=J) (Q:=λd=>jf C.P fn.results.toList [] (.pv res) d) (Q':=Q') (hn:=hn) (ops:=ops) gC (n:=n) bq (λ_ ho=>lJ b5 ho) O (aI.refl O.1) rfl (by rw[r];exact U);rw[r]at a9;refine a9 _ ?_;intro cg L3 a3 w3 cb _ b2 ca;refine wpIn_ret ?_;exact wU Y c s (λ_ _=>rfl) H r ar a6 bc Z G E cb b2 ca
 .show LeavesInM Fence.wide n C.P fn j.tmps (LE C res) ({target:=.collected D,args:=#[]}::j.defers) .returning w2
  exact wU (a3:={j with defers:={target:=.collected D,args:=#[]}::j.defers}) Y c s (λ_ _=>rfl) H r ar a6 bc Z G E O rfl (R i y ba M)
theorem Fb(h:Hp)(ks:List Nat)(k:Nat)(b:Blk):rekey h ks k b k=some b:=T8 rfl
section
variable {C:Cx} {L:Nat->Loc} {h1 h:Hp} {w:World}
theorem MemL.loosen(g:MemL C L h w)(ks:List Nat)(f:Nat->Bool):
 MemL C L (λq=>if f q=true then(h q).map (bw ks)else h q) w/\KC L h L (λq=>if f q=true then(h q).map (bw ks)else h q)/\
  Pres w (ab C L h) w (ab C L (λq=>if f q=true then(h q).map (bw ks)else h q)):=by
 let r:Hp:=λq=>if f q=true then(h q).map (bw ks)else h q
 have get:∀{q b},r q=some b->∃a,h q=some a/\(b=a\/b=bw ks a):=by
  grind [Option.map_eq_some_iff]
 have x:∀{b a:Blk}{l:Loc},(b=a\/b=bw ks a)->b.live l=a.live l:=by
  grind [tf]
 have H:∀{b a:Blk}{o:Nat},(b=a\/b=bw ks a)->b.frz o=a.frz o:=by
  grind [AL]
 have J:∀b o,ab C L r b o->ab C L h b o:=by
  rintro b o (I|⟨q,B,hq,k,e,hf⟩)
  .exact .inl I
  .obtain⟨a,c,d⟩:=get hq
   rw[x d]at k;rw[H d]at hf;exact .inr ⟨q,a,c,k,e,hf⟩
 have hp:Pres w (ab C L h) w (ab C L r):=Pres.sub J
 have j:KC L h L r:=by
  intro q b hq
  grind [bw,u9,cX]
 refine⟨⟨g.ext,g.m0,?_,?_,?_⟩,j,hp⟩
 .intro q b hq
  obtain⟨a,c,d⟩:=get hq;have e:=(g.bl q a c).mono hp j (λ_=>rfl);rcases d with rfl|rfl
  .exact e
  .cases a with
   |box O own P=>
    obtain⟨arr,M,y,A,a3⟩:=e;refine⟨arr,M,y,by simpa using A,λi p u n Q=>?_⟩;simp only[TR,No]at n;obtain⟨z,R,rfl⟩:=n;unfold au;split
    .exact .undef _
    grind
   |row=>exact e
   |mp=>exact e
 .intro q K B N s hq v k m
  obtain⟨D,c,d⟩:=get hq;obtain⟨E,F,G⟩:=get v;rw[x d]at k;rw[x G]at m;exact g.sep q K D E s c F k m
 .intro q b hq
  obtain⟨a,c,d⟩:=get hq;rcases d with rfl|rfl
  .exact g.own q _ c
  .exact AM (g.own q a c)
end
theorem yL(w:World)(t ty e l:TypeId)(i:TypeInfo)(r:P.underlying t=some (.slice e))(hi:P.info? e=some i)(g n cap:Nat)(b:Array Value)(p:w.heap[g]?=some (.cells b l (0,0)))
 (a:Addr)(m c:Nat)(news:List Value)(q:news.length=m*i.size)(d:∀j u,news[j]?=some u->w.cell? (a.add j)=some u)(h1:∀u∈news,u.oneCell'=true)(f:n+m<=cap)(k:n*i.size+news.length<=b.size):
 (Builtin.append_ #[t,t] ty #[.slice (some ⟨g,0,none⟩) n cap,.slice (some a) m c]).run P w=.ok (.slice (some ⟨g,0,none⟩) (n+m) cap) (w.setRow g (b.toList.take (n*i.size)++news++b.toList.drop (n*i.size+news.length)).toArray):=by
 have s:=run_firstCells_some (P:=P) w i.size m a m c news q d;have o:=run_storeCells_at P g (n*i.size) l news 0 b w p (by simpa using k) h1;rw[Wg]at o;simp[Builtin.append_,run_underlying r,sizeOf,typeInfo,hi,Builtin.lenOf,f,s,Addr.add_lit,o]
section
variable {C:Cx} {Q:Exit->St->Prop} {st:St}
def JM(C:Cx)(hn:List Nat)(ops:Array Oper)(Q:St->Prop)(t:TypeId)(s x:Operand)(d:Nat)(post:List Oper)(st:St):Prop:=
 ∃k n r A z f b e a,st.ev s=.ext (.barr k n (n+r))/\st.h k=some (.box (A++List.replicate r (.pv (.val z))) true false)/\A.length=n/\(∀y∈A,bn [k] y=false)/\
  fZ st.h (st.ev x)=some a/\a.all (pN 1)=true/\(∀y∈a,y.cells=[y])/\0<a.length/\af C.P t=some e/\e.kind=.slice f 1 b (some z)/\z.cells=#[z]/\(n+a.length)*b<=140737488355328/\n+a.length<=9223372036854775807/\k<2000000/\d<C.N/\d<2000000/\
  ∀c,dK C.P hn C.N ops Q post (St.put ⟨λm=>au [k] (st.t m),rekey st.h [k] k (.box (A++a.map .pv++List.replicate c (.pv (.val z))) true false)⟩ (some d) (.ext (.barr k (n+a.length) (n+a.length+c))) [])
theorem WP.appB{t:TypeId}(b2:ops.toList=pre++o::post)(b1:o.op=.call {callee:=.builtin .append,args:=#[s,x],argTypes:=#[t,t]})(hd:o.dst=some d)(hg:o.guard=none)
 (hq:dK C.P hn C.N ops (JM C hn ops (Q .normal) t s x d post) pre st):WP C (.region id ops false) Q st:=by
 intro a w hs;refine wp_region_list ?_;rw[b2];refine iG (λf a1 E cw ct=>?_) hs hq;obtain⟨k,n,r,A,z,et,eb,ti,B,cx,hk,hA,ad,cN,cq,a2,cM,cB,cm,cP,S,c0,ck,cg,cf,H⟩:=ct;obtain⟨L,hm,hN,ch,ht⟩:=cw;refine wpList_step (λK hK=>?_);rw[kG hg,T8 rfl];obtain⟨Z,jt,hj,O,rfl,cj⟩:=dO cB cm;have b5:=db ht s;rw[cx]at b5
 have Y:∀u,RepA E (ab C L f.h) L f.h (.ext (.barr k n (n+r))) u->u=.slice (some ⟨(L k).b,0,none⟩) n (n+r):=by
  intro u G
  cases G with
  |ext hx=>cases hx with
   |barr _ _=>rfl
 have Y:=Y _ b5;obtain⟨Ad,c,b8,c1,cd⟩:=oP hm (λ_ _ h=>h) (db ht x) cN cq;obtain⟨b,o9,rfl,news,n1,n2,n3,n4⟩:=cd cM;rw[VF]at n1
 have J:∀j u,news[j]?=some u->E.cell? ((⟨b,o9,none⟩:Addr).add j)=some u:=λj u G=>by rw[eV];exact n2 j u G
 obtain⟨arr,ty,ha,hl,hr⟩:=hm.bl k _ hk;have cT:arr.toList.length=arr.size:=U5
 have bb:arr.size=n+r:=by
  grind
 have b0:∀(i:Nat) y,B[i]?=some y->y.cells=[y]:=λi y hy=>a2 y (Is hy)
 have bs:∀(i:Nat) y,B[i]?=some y->∃v,news[i]?=some v/\Rep E (ab C L f.h) y v:=by
  intro i y hy;obtain⟨v,h1,h2⟩:=n4 i y 0 y hy (by rw[b0 i y hy];rfl)
  grind
 have body:∀{w':World}{M':Nat->Nat->Prop}{L':Nat->Loc}{h':Hp}{rest:List Value}{g:Nat},Pres E (ab C L f.h) w' M'->(∀(i:Nat) y u,A[i]?=some y->RepA E (ab C L f.h) L f.h y u->RepA w' M' L' h' y u)->
  rest=List.replicate g z->aA w' M' L' h' (A++B.map .pv++List.replicate g (.pv (.val z))) (arr.toList.take n++news++rest):=by
  intro w' M' L' h' rest g hp cb H;subst H;refine aA.append (aA.append ⟨?_,?_⟩ ⟨by simp[n1],?_⟩) ⟨by simp,?_⟩
  .simp[hA];omega
  .intro i p u F G
   have hi:i<n:=by rw[<-hA];exact(th.1 F).1
   rw[Uu,T8 hi]at G;exact cb i p u F (hr i p u (by rw[T4 (by omega)];exact F) G)
  .intro i p u F G
   simp only[TR,No]at F;obtain⟨y,hy,rfl⟩:=F;obtain⟨v,h1,h2⟩:=bs i y hy;rw[h1]at G;injection G with G;subst G;exact .pv (h2.mono hp)
  .intro i p u F G
   have hi:i<g:=by simpa using(th.1 F).1
   rw[Uv,T8 hi]at F G;injection F with F;injection G with G;subst F;subst G;exact .pv (.val _)
 have a9:∀{v:Value}{w':World},(Builtin.append_ #[t,t] o.type #[a1.eval s,a1.eval x]).run C.P E=.ok v w'->(execOp a1.eval o).run C.P E=.ok (.value v) w':=by
  intro v w' I;obtain⟨ca,op,b9,pos,after,guard⟩:=o;simp only at b1 I;subst b1;have cH:execOp a1.eval ⟨ca,.call ⟨.builtin .append,#[s,x],#[t,t]⟩,b9,pos,after,guard⟩=builtin .append #[t,t] b9 ((#[s,x]:Array Operand).map λ|.const _=>true|_=>false) ((#[s,x]:Array Operand).map a1.eval):=rfl;rw[cH];simp[builtin,I]
 have key:∃g L' w',(execOp a1.eval o).run C.P E=.ok (.value (.slice (some ⟨(L' k).b,0,none⟩) (n+B.length) (n+B.length+g))) w'/\
  MemL C L' (rekey f.h [k] k (.box (A++B.map .pv++List.replicate g (.pv (.val z))) true false)) w'/\
  (∀{y:AV}{u:Value},RepA E (ab C L f.h) L f.h y u->RepA w' (ab C L' (rekey f.h [k] k (.box (A++B.map .pv++List.replicate g (.pv (.val z))) true false))) L' (rekey f.h [k] k (.box (A++B.map .pv++List.replicate g (.pv (.val z))) true false)) (au [k] y) u):=by
  by_cases a6:n+B.length<=n+r
  .have D:=yL (P:=C.P) E t o.type et ty jt Z hj (L k).b n (n+r) arr ha ⟨b,o9,none⟩ B.length c news (by rw[n1,O,VF]) J n3 a6 (by rw[O,bb];omega)
   obtain⟨g,X⟩:∃g,n+r=n+B.length+g:=⟨r-B.length,by omega⟩;rw[O,VF,n1]at D
   have ar:arr.toList.drop (n+B.length)=List.replicate g z:=by
    apply UI;intro i;rw[UW,Uv];by_cases hi:i<g
    .rw[T8 hi]
     have cn:n+B.length+i<arr.toList.length:=by omega
     have hg:arr.toList[n+B.length+i]?=some arr.toList[n+B.length+i]:=an cn
     have hc:(A++List.replicate r (AV.pv (PV.val z)))[n+B.length+i]?=some (.pv (.val z)):=by
      rw[T7 (by omega),Uv,T8 (by omega)]
     have:=hr _ _ _ hc hg
     cases this with
     |pv I=>rw[hg,aM I]
    .rw[TQ hi]
     exact Uc (by omega)
   rw[ar]at D
   have hw:∀b',b'<E.heap.size->((Blk.box (A++List.replicate r (.pv (.val z))) true false).live (L k)->b'≠(L k).b)->(E.setRow (L k).b (arr.toList.take n++news++List.replicate g z).toArray).heap[b']?=E.heap[b']?:=
    λb' _ hb=>setRow_other E _ b' _ (hb trivial)
   have hpr:∀o v,(Blk.box (A++List.replicate r (.pv (.val z))) true false).live (L k)->(Blk.box (A++List.replicate r (.pv (.val z))) true false).frz o->E.cell? ⟨(L k).b,o,none⟩=some v->
    (E.setRow (L k).b (arr.toList.take n++news++List.replicate g z).toArray).cell? ⟨(L k).b,o,none⟩=some v:=by
    intro q v _ hf _;simp[Blk.frz]at hf
   have a8:dZ (.box (A++List.replicate r (.pv (.val z))) true false) (L k) (.box (A++B.map .pv++List.replicate g (.pv (.val z))) true false) (L k):=rfl;have a5:=hm.touch_pk (blk':=.box (A++B.map .pv++List.replicate g (.pv (.val z))) true false) hk hw hpr (λo hf=>hf) a8 Vk
   obtain⟨U,V,T⟩:=hm.touch (blk':=.box (A++B.map .pv++List.replicate g (.pv (.val z))) true false) hk hw (by simp) rfl rfl rfl hpr (λo hf=>hf) a8 Vk (by have I:=hm.own k _ hk;exact I) (by
    refine⟨_,ty,setRow_heap E _ arr _ ty _ ha,?_⟩;rw[List.toList_toArray]
    exact body a5.1 (λi y u _ I=>I.mono a5.1 a5.2) rfl)
   obtain⟨bq,a7,b3⟩:=U.loosen [k] (λq=>q !=k)
   have he:(λq=>if(q !=k)=true then(ae f.h k (some (Blk.box (A++B.map .pv++List.replicate g (.pv (.val z))) true false)) q).map (bw [k])else ae f.h k (some (Blk.box (A++B.map .pv++List.replicate g (.pv (.val z))) true false)) q)=rekey f.h [k] k (.box (A++B.map .pv++List.replicate g (.pv (.val z))) true false):=by
    funext q
    by_cases e:q=k
    .subst e;simp[rekey,ae]
    .simp[rekey,ae,e]
   rw[he]at bq a7 b3;refine⟨g,L,_,a9 (by rw[Y,b8,X];rw[X]at D;exact D),bq,λ{y u} I=>?_⟩;have h8:=(I.mono V T).mono b3 a7;unfold au;split
   .exact .undef _
   .exact h8
  .have D:=run_append_grow (P:=C.P) E t o.type et jt z Z hj cj ⟨(L k).b,0,none⟩ n (n+r) (arr.toList.take n) (by rw[O,VF,UL,U5];omega)
    (λq u G=>by
      rw[eV,eH ha,U0];rw[Uu]at G;split at G
      .simpa using G
      .cases G)
    ⟨b,o9,none⟩ B.length c news (by rw[n1,O,VF]) J (by omega) (by omega) (growslice_fits (by omega) S)
   have c2:=grownCap_ge E (n+B.length) (n+r) et;obtain⟨g,X⟩:∃g,grownCap E (n+B.length) (n+r) et=n+B.length+g:=⟨grownCap E (n+B.length) (n+r) et-(n+B.length),by omega⟩
   have cQ:(Builtin.zeroCells z.cells g).toList=List.replicate g z:=by
    rw[cP];simp[Builtin.zeroCells,Nat.mod_one,List.map_const']
   rw[X,Nat.add_sub_cancel_left]at D;have b7:Ext (λ_=>False) E (E.drew.alloc (.cells ((arr.toList.take n).toArray++news.toArray++Builtin.zeroCells z.cells g) et)):=(Ext.drew _ E).trans (Ext.alloc _ _ _) (λ_ _ h=>h);obtain⟨cp,R⟩:=MemL.kill (st:=f) [k] hm
   have bH:(f.kill [k]).h k=none:=by simp[St.kill]
   have ba:KC L (f.kill [k]).h (ae L k ⟨E.heap.size,0,false⟩) (ae (f.kill [k]).h k (some (.box (A++B.map .pv++List.replicate g (.pv (.val z))) true false))):=KC.new bH;have b4:=(Pres.sub (w:=E) R).trans (oe (q:=True) (M:=ab C L (f.kill [k]).h) b7 (λ_=>Ua _))
   obtain⟨U,V,T⟩:=cp.newKey (d:=k) bH ck (l:=⟨E.heap.size,0,false⟩) (blk:=.box (A++B.map .pv++List.replicate g (.pv (.val z))) true false) b7 (λ_=>Ua _) (by intro cU cV e;injection e with _ e2;cases e2) (by
    refine⟨_,et,jL _ _,?_⟩;rw[WA,WA,cQ];refine body b4 (λi y u hy I=>?_) rfl;have h8:=pV (ks:=[k]) b4 I;rw[show au [k] y=y by unfold au;rw[TQ (by rw[ad y (Is hy)];decide)]]at h8
    exact h8.mono (Pres.refl _ _) ba)
   have he:ae (f.kill [k]).h k (some (Blk.box (A++B.map .pv++List.replicate g (.pv (.val z))) true false))=rekey f.h [k] k (.box (A++B.map .pv++List.replicate g (.pv (.val z))) true false):=by
    funext q
    by_cases e:q=k
    .subst e;simp[rekey,ae]
    .simp[rekey,ae,e,St.kill]
   rw[he]at U V T;refine⟨g,ae L k ⟨E.heap.size,0,false⟩,_,a9 (by rw[Y,b8,aF];exact D),U,λ{y u} I=>?_⟩;have h8:RepA E (ab C L (f.kill [k]).h) L (f.kill [k]).h (au [k] y) u:=pV (Pres.sub R) I;exact h8.mono V T
 obtain⟨g,L',w',D,bc,cz⟩:=key;unfold Oper.wp;rw[D];refine hK _ _ ?_;refine iU (λcS a' w' cu cr=>⟨cS,cu,cr⟩) (st:=St.put ⟨λm=>au [k] (f.t m),rekey f.h [k] k (.box (A++B.map .pv++List.replicate g (.pv (.val z))) true false)⟩ (some d) (.ext (.barr k (n+B.length) (n+B.length+g))) []) ?_ (H g);rw[hd];exact gk.put (st:=⟨λm=>au [k] (f.t m),rekey f.h [k] k (.box (A++B.map .pv++List.replicate g (.pv (.val z))) true false)⟩) bc hN ch (λm=>cz (ht m)) (d:=some d) (by simp[dm,cg,cf]) (W:=[]) (aI.refl bc) (.ext (.barr (Nat.le_add_right _ _) (Fb _ _ _ _)))
end
theorem WP.toSuf{c:Code}(s:Nat){k e sz fz:Nat}(i:st.h k=some (.row e sz xs fz))(u:st.t s=.arr k xs.length)
 (h:WP C c Q ⟨ae st.t s (.ext (.suf k 0 xs.length xs.length)),st.h⟩):WP C c Q st:=by
 intro a w r;obtain⟨L,l,hN,g,d⟩:=r;refine h a w ⟨L,l,hN,g,λn=>?_⟩;show RepA w (ab C L st.h) L st.h (ae st.t s (.ext (.suf k 0 xs.length xs.length)) n) _;unfold ae;split
 .rename_i p
  subst p;have o:=d n;rw[u]at o
  cases o with
  |arr b q v=>
   rw[i]at b;injection b with b;injection b with a1 a2 a3 a4;subst a3
   have j:∃A m c,(L k).slice xs.length=.slice A m c:=by
    unfold Loc.slice;split
    all_goals exact⟨_,_,_,rfl⟩
   have f:=v rfl;refine .ext (.suf (by rw[f];exact j) i (by omega) (Ua _) (λ_=>?_));rw[f];unfold Loc.slice;rcases mS l i with⟨g1,g2⟩|⟨g1,_⟩
   all_goals grind
 .exact d n
section
variable {C:Cx} {Q:Exit->St->Prop} {st:St}
def Ln(C:Cx)(hn:List Nat)(ops:Array Oper)(Q:St->Prop)(t:TypeId)(x y:Operand)(d:Nat)(post:List Oper)(st:St):Prop:=
 ∃k e a n m o i g xs c f b z,st.ev x=.ext (.suf k o n (o+n))/\st.ev y=.pv (.val (.int i (m:Nat)))/\st.h k=some (.row e a xs g)/\xs.length=o+n/\m<=n/\af C.P t=some c/\c.kind=.slice f a b z/\d<C.N/\d<2000000/\
  dK C.P hn C.N ops Q post (st.put (some d) (.ext (.suf k (o+m) (n-m) (o+n))) [])
theorem WP.suf{hn:List Nat}{id:Nat}{ops:Array Oper}{pre post:List Oper}{o:Oper}{t:TypeId}{x y:Operand}{d:Nat}(B:ops.toList=pre++o::post)(Y:o.op=.slice t x (some y) none none)(hd:o.dst=some d)(hg:o.guard=none)
 (hq:dK C.P hn C.N ops (Ln C hn ops (Q .normal) t x y d post) pre st):WP C (.region id ops false) Q st:=by
 intro a w hs;refine wp_region_list ?_;rw[B];refine iG (λj G l a5 ad=>?_) hs hq;obtain⟨k,e,H,n,m,q,kk,fz,xs,ti,e',b',z',a7,ba,U,z,bq,a6,V,R,O,i⟩:=ad;obtain⟨L,X,hN,S,ht⟩:=a5;refine wpList_step (λK hK=>?_);rw[kG hg,T8 rfl];have E:=db ht x;rw[a7]at E
 have a9:∀u,RepA l (ab C L j.h) L j.h (.ext (.suf k q n (q+n))) u->∃A c,u=.slice A n c/\(((L k).isNil=false/\A=some ⟨(L k).b,q*H,none⟩/\c+q=(L k).cap)\/(n=0/\c=0/\(q=0->(L k).isNil=true/\A=none))):=by
  intro u hu
  cases hu with
  |ext hx=>cases hx with
   |suf _ g bs bH hu=>
    rw[U]at g;injection g with g;injection g with _ a2 a3 _;subst a2;subst a3;exact hu z
 obtain⟨A,c,a8,J⟩:=a9 _ E;have F:=db ht y;rw[ba]at F
 have bb:G.eval y=.int kk (m:Nat):=by
  cases F with
  |pv hr=>exact aM hr
 obtain⟨D,jt,hj,T,_,_⟩:=dO a6 V
 have v:n<=c:=by
  rcases J with⟨g1,g2,g3⟩|⟨g1,g2,_⟩
  .rcases mS X U with⟨h9,_⟩|⟨_,h10,_⟩
   all_goals grind
  .omega
 have f:∃r s,(execOp G.eval o).run C.P l=.ok (.value (.slice r (n-m) s)) l/\(((L k).isNil=false/\r=some ⟨(L k).b,(q+m)*H,none⟩/\s+(q+m)=(L k).cap)\/(n-m=0/\s=0/\(q+m=0->(L k).isNil=true/\r=none))):=by
  have M:(0:Int)<=(m:Int)/\(m:Int)<=(n:Int):=by omega
  have key:(Instr.sliceBounds true n c (some (.int kk (m:Nat))) none none).run C.P l=.ok (m,n,c) l:=by
   simp[Instr.sliceBounds,Instr.sliceBound,asIntOf,M,v];omega
  have h2:(Instr.sliceAt t (G.eval x) (some (G.eval y)) none none).run C.P l=.ok (.slice (if c=m then A else A.map λp=>p.add (m*H)) (n-m) (c-m)) l:=by
   rw[a8,bb];simp only[Instr.sliceAt,Sem.run_bind,dF D,Result.andThen_ok,Instr.slice,key,gj hj,Sem.run_pure,T]
  refine⟨if c=m then A else A.map λp=>p.add (m*H),c-m,by unfold execOp;rw[Y];simp[h2],?_⟩
  grind [eV,Nat.add_mul]
 obtain⟨r,s,f,I⟩:=f;unfold Oper.wp;rw[f];refine hK _ _ ?_;refine iU (λbc a' w' ar Z=>⟨bc,ar,Z⟩) (st:=j.put (some d) (.ext (.suf k (q+m) (n-m) (q+n))) []) ?_ i;rw[hd];refine gk.put X hN S ht (d:=some d) (by simp[dm,R,O]) (W:=[]) (aI.refl X) (.ext (.suf (xs:=xs) ⟨_,_,_,rfl⟩ U (by omega) (by omega) (λ_=>⟨r,s,rfl,I⟩)))
theorem yM(w:World)(t ty e l:TypeId)(i:TypeInfo)(r:P.underlying t=some (.slice e))(hi:P.info? e=some i)(g off n cap:Nat)(b:Array Value)(p:w.heap[g]?=some (.cells b l (0,0)))
 (a:Addr)(m c:Nat)(news:List Value)(q:news.length=m*i.size)(d:∀j u,news[j]?=some u->w.cell? (a.add j)=some u)(h1:∀u∈news,u.oneCell'=true)(f:n+m<=cap)(k:off+n*i.size+news.length<=b.size):
 (Builtin.append_ #[t,t] ty #[.slice (some ⟨g,off,none⟩) n cap,.slice (some a) m c]).run P w=.ok (.slice (some ⟨g,off,none⟩) (n+m) cap) (w.setRow g (b.toList.take (off+n*i.size)++news++b.toList.drop (off+n*i.size+news.length)).toArray):=by
 have s:=run_firstCells_some (P:=P) w i.size m a m c news q d;have o:=run_storeCells_at P g (off+n*i.size) l news 0 b w p (by simpa using k) h1;rw[Wg]at o;simp[Builtin.append_,run_underlying r,sizeOf,typeInfo,hi,Builtin.lenOf,f,s,Addr.add_lit,o]
def JN(C:Cx)(hn:List Nat)(ops:Array Oper)(Q:St->Prop)(t:TypeId)(s x:Operand)(d:Nat)(post:List Oper)(st:St):Prop:=
 ∃k o n f c xs a i g z,st.ev s=.ext (.suf k o n (o+n))/\st.h k=some (.row f c xs 0)/\xs.length=o+n/\fZ st.h (st.ev x)=some a/\a.all (pN c)=true/\0<a.length/\af C.P t=some i/\i.kind=.slice f c g (some z)/\0<c/\z.cells.size=c/\
  (n+a.length)*g<=140737488355328/\n+a.length<=9223372036854775807/\k<2000000/\d<C.N/\d<2000000/\
  ∀e b,b.length=e+(n+a.length)->b.drop e=xs.drop o++a->dK C.P hn C.N ops Q post (St.put ⟨λm=>au [k] (st.t m),rekey st.h [k] k (.row f c b 0)⟩ (some d) (.ext (.suf k e (n+a.length) (e+(n+a.length)))) [])
theorem WP.appS{t:TypeId}(ca:ops.toList=pre++o::post)(b9:o.op=.call {callee:=.builtin .append,args:=#[s,x],argTypes:=#[t,t]})(hd:o.dst=some d)(hg:o.guard=none)
 (hq:dK C.P hn C.N ops (JN C hn ops (Q .normal) t s x d post) pre st):WP C (.region id ops false) Q st:=by
 intro a w hs;refine wp_region_list ?_;rw[ca];refine iG (λf a1 F c1 cV=>?_) hs hq;obtain⟨k,q,n,r,sz,xs,E,ti,eb,z,c2,hk,bb,ee,cQ,ec,c8,cH,c5,ef,O,ez,cB,ct,cr,bs⟩:=cV;obtain⟨L,hm,hN,cu,ht⟩:=c1;refine wpList_step (λK hK=>?_);rw[kG hg,T8 rfl];obtain⟨V,g,hj,rfl,rfl,bc⟩:=dO c8 cH
 have a9:∀y∈E,y.cells.length=g.size:=by
  simp_all
 have cd:=db ht s;rw[c2]at cd
 have c4:∀u,RepA F (ab C L f.h) L f.h (.ext (.suf k q n (q+n))) u->∃A c,u=.slice A n c/\(((L k).isNil=false/\A=some ⟨(L k).b,q*g.size,none⟩/\c+q=(L k).cap)\/(n=0/\c=0/\(q=0->(L k).isNil=true/\A=none))):=by
  intro u H
  cases H with
  |ext hx=>cases hx with
   |suf _ a6 eB eW H=>
    rw[hk]at a6;injection a6 with a6;injection a6 with _ a2 a3 _;subst a3;rw[a2];exact H bb
 obtain⟨B,cap,b0,cp⟩:=c4 _ cd;obtain⟨Ad,c,b1,eA,cn⟩:=oP hm (λ_ _ h=>h) (db ht x) ee cQ;obtain⟨b,o9,rfl,news,n1,n2,n3,n4⟩:=cn ec
 have R:∀j u,news[j]?=some u->F.cell? ((⟨b,o9,none⟩:Addr).add j)=some u:=λj u H=>by rw[eV];exact n2 j u H
 have b5:∀{v:Value}{w':World},(Builtin.append_ #[t,t] o.type #[a1.eval s,a1.eval x]).run C.P F=.ok v w'->(execOp a1.eval o).run C.P F=.ok (.value v) w':=by
  intro v w' h9;obtain⟨cm,op,cj,pos,after,guard⟩:=o;simp only at b9 h9;subst b9;have ea:execOp a1.eval ⟨cm,.call ⟨.builtin .append,#[s,x],#[t,t]⟩,cj,pos,after,guard⟩=builtin .append #[t,t] cj ((#[s,x]:Array Operand).map λ|.const _=>true|_=>false) ((#[s,x]:Array Operand).map a1.eval):=rfl;rw[ea];simp[builtin,h9]
 obtain⟨g1,g2,g3,g4,g5⟩:=hm.bl k _ hk
 have key:∃X D L' w' v,D.length=X+(n+E.length)/\D.drop X=xs.drop q++E/\(execOp a1.eval o).run C.P F=.ok (.value v) w'/\
  MemL C L' (rekey f.h [k] k (.row r g.size D 0)) w'/\RepA w' (ab C L' (rekey f.h [k] k (.row r g.size D 0))) L' (rekey f.h [k] k (.row r g.size D 0)) (.ext (.suf k X (n+E.length) (X+(n+E.length)))) v/\
  (∀{y:AV}{u:Value},RepA F (ab C L f.h) L f.h y u->RepA w' (ab C L' (rekey f.h [k] k (.row r g.size D 0))) L' (rekey f.h [k] k (.row r g.size D 0)) (au [k] y) u):=by
  have grow:∀(J:List Value),J.length=n*g.size->(∀(i:Nat) y(j:Nat) p,(xs.drop q)[i]?=some y->y.cells[j]?=some p->∃u,J[i*g.size+j]?=some u/\Rep F (ab C L f.h) p u)->
   (Builtin.append_ #[t,t] o.type #[a1.eval s,a1.eval x]).run C.P F=.ok (.slice (some ⟨F.heap.size,0,none⟩) (n+E.length) (grownCap F (n+E.length) cap r)) (F.drew.alloc (.cells (J.toArray++news.toArray++Builtin.zeroCells z.cells (grownCap F (n+E.length) cap r-(n+E.length))) r))->
   ∃X D L' w' v,D.length=X+(n+E.length)/\D.drop X=xs.drop q++E/\(execOp a1.eval o).run C.P F=.ok (.value v) w'/\
    MemL C L' (rekey f.h [k] k (.row r g.size D 0)) w'/\RepA w' (ab C L' (rekey f.h [k] k (.row r g.size D 0))) L' (rekey f.h [k] k (.row r g.size D 0)) (.ext (.suf k X (n+E.length) (X+(n+E.length)))) v/\
    (∀{y:AV}{u:Value},RepA F (ab C L f.h) L f.h y u->RepA w' (ab C L' (rekey f.h [k] k (.row r g.size D 0))) L' (rekey f.h [k] k (.row r g.size D 0)) (au [k] y) u):=by
   intro J T Y I;have cw:=grownCap_ge F (n+E.length) cap r;have b3:=grownCap_le_maxLen F (n+E.length) cap r (by simp only[maxLen];omega);have ch:Ext (λ_=>False) F (F.drew.alloc (.cells (J.toArray++news.toArray++Builtin.zeroCells z.cells (grownCap F (n+E.length) cap r-(n+E.length))) r)):=(Ext.drew _ F).trans (Ext.alloc _ _ _) (λ_ _ h=>h);obtain⟨cN,Z⟩:=MemL.kill (st:=f) [k] hm
   have cP:(f.kill [k]).h k=none:=by simp[St.kill]
   have cT:=(Pres.sub (w:=F) Z).trans (oe (q:=True) (M:=ab C L (f.kill [k]).h) ch (λ_=>Ua _))
   have ar:(xs.drop q).length=n:=by rw[VD];omega
   have S:=xT (xs:=xs.drop q) (by rw[T,ar]) (λy hy=>g3 y (List.mem_of_mem_drop hy)) a9 Y n4
   obtain⟨a7,a8,ad⟩:=cN.newKey (d:=k) cP cB (l:=⟨F.heap.size,grownCap F (n+E.length) cap r,false⟩) (blk:=.row r g.size (xs.drop q++E) 0) ch (λ_=>Ua _) (by intro ep er e;cases e) (by
    refine⟨c5,UR _,?_,(λh=>by cases h),λ_=>⟨by simp only[Um,ar];exact cw,b3,_,jL _ _,?_,?_⟩⟩
    .intro y hy
     rcases Ui.1 hy with h'|h'
     .exact g3 y (List.mem_of_mem_drop h')
     .exact a9 y h'
    .simp only[VP,Vx,T,n1,size_zeroCells,ef]
     rw[<-UK,<-UK];congr 1;omega
    .intro i y j p G U
     obtain⟨u,H,hr,cM⟩:=S i y j p G U;refine⟨u,?_,hr.mono (cT.trans (Pres.sub (λb o h9=>Or.elim h9 Or.inl λh8=>Or.inr ⟨trivial,h8.2⟩)))⟩;have cf:=(th.1 H).1
     have cg:i*g.size+j<(J.toArray++news.toArray).size:=by simp only[VP,Vx];simp only[Um]at cf;exact cf
     rw[UF cg,<-UQ,WA]
     exact H)
   have he:ae (f.kill [k]).h k (some (Blk.row r g.size (xs.drop q++E) 0))=rekey f.h [k] k (.row r g.size (xs.drop q++E) 0):=by
    funext m
    by_cases e:m=k
    .subst e;simp[rekey,ae]
    .simp[rekey,ae,e,St.kill]
   rw[he]at a7 a8 ad;refine⟨0,xs.drop q++E,_,_,_,by simp only[Um,ar];omega,by simp,b5 I,a7,?_,λ{y u} h9=>?_⟩
   .refine .ext (.suf (xs:=xs.drop q++E) (e:=r) (sz:=g.size) (fz:=0) ⟨_,_,_,rfl⟩ (by simp[rekey]) (by omega) (by simp only[Um,ar];omega) (λ_=>⟨_,_,rfl,.inl ?_⟩))
    rw[aF];exact⟨rfl,by simp,by simp⟩
   .have h8:RepA F (ab C L (f.kill [k]).h) L (f.kill [k]).h (au [k] y) u:=pV (Pres.sub Z) h9
    exact h8.mono a8 ad
  rcases cp with⟨e1,rfl,e3⟩|⟨rfl,rfl,_⟩
  .obtain⟨ck,a2,arr,a3,a4,a5⟩:=g5 e1
   have ek:arr.toList.length=arr.size:=U5
   have bq:q*g.size+n*g.size=xs.length*g.size:=by rw[bb,UK]
   have c3:xs.length*g.size<=arr.size:=by rw[a4];exact Up _ ck
   by_cases bH:n+E.length<=cap
   .have ba:q*g.size+n*g.size+news.length<=arr.size:=by
     rw[a4,n1,<-UK,<-UK];exact Up _ (by omega)
    have I:=yM (P:=C.P) F t o.type r r g V hj (L k).b (q*g.size) n cap arr a3 ⟨b,o9,none⟩ E.length c news n1 R n3 bH ba;rw[bq]at I ba
    have T:(arr.toList.take (xs.length*g.size)).length=xs.length*g.size:=by rw[UL];omega
    have Y:∀(i:Nat) y(j:Nat) p,xs[i]?=some y->y.cells[j]?=some p->∃u,(arr.toList.take (xs.length*g.size))[i*g.size+j]?=some u/\Rep F (ab C L f.h) p u:=by
     intro i y j p G U;obtain⟨u,H,hr⟩:=a5 i y j p G U;refine⟨u,?_,hr⟩
     have cz:j<g.size:=by rw[<-g3 y (Is G)];exact(th.1 U).1
     have cx:i<xs.length:=(th.1 G).1;have:(i+1)*g.size<=xs.length*g.size:=Up _ (by omega);rw[UK]at this;rw[Uu,T8 (by omega)];simpa using H
    have S:=xT T g3 a9 Y n4
    have hw:∀b',b'<F.heap.size->((Blk.row r g.size xs 0).live (L k)->b'≠(L k).b)->(F.setRow (L k).b (arr.toList.take (xs.length*g.size)++news++arr.toList.drop (xs.length*g.size+news.length)).toArray).heap[b']?=F.heap[b']?:=
     λb' _ hb=>setRow_other F _ b' _ (hb e1)
    have hpr:∀o v,(Blk.row r g.size xs 0).live (L k)->(Blk.row r g.size xs 0).frz o->F.cell? ⟨(L k).b,o,none⟩=some v->
     (F.setRow (L k).b (arr.toList.take (xs.length*g.size)++news++arr.toList.drop (xs.length*g.size+news.length)).toArray).cell? ⟨(L k).b,o,none⟩=some v:=by
     intro m v _ hf _;simp[Blk.frz]at hf
    have b4:dZ (.row r g.size xs 0) (L k) (.row r g.size (xs++E) 0) (L k):=⟨rfl,rfl,by simp,λ_=>rfl⟩;have cS:=hm.touch_pk (blk':=.row r g.size (xs++E) 0) hk hw hpr (λo hf=>hf) b4 Vk
    obtain⟨a7,a8,ad⟩:=hm.touch (blk':=.row r g.size (xs++E) 0) hk hw (by simp) rfl rfl rfl hpr (λo hf=>hf) b4 Vk (by have h9:=hm.own k _ hk;exact h9) (by
     refine⟨g1,UR _,?_,(λhn=>by rw[e1]at hn;cases hn),λ_=>⟨by simp;omega,a2,_,setRow_heap F _ arr _ _ _ a3,?_,?_⟩⟩
     .intro y hy
      rcases Ui.1 hy with h'|h'
      .exact g3 y h'
      .exact a9 y h'
     .simp only[Vx,Um,UL,VD];omega
     .intro i y j p G U
      obtain⟨u,H,hr,cM⟩:=S i y j p G U;refine⟨u,?_,hr.mono cS.1⟩;rw[Vj,T4 (th.1 H).1]
      exact H)
    obtain⟨b8,b2,cb⟩:=a7.loosen [k] (λm=>m !=k)
    have he:(λm=>if(m !=k)=true then(ae f.h k (some (Blk.row r g.size (xs++E) 0)) m).map (bw [k])else ae f.h k (some (Blk.row r g.size (xs++E) 0)) m)=rekey f.h [k] k (.row r g.size (xs++E) 0):=by
     funext m
     by_cases e:m=k
     .subst e;simp[rekey,ae]
     .simp[rekey,ae,e]
    rw[he]at b8 b2 cb;refine⟨q,xs++E,L,_,_,by simp;omega,by rw[Ww (by omega)],b5 (by rw[b0,b1];exact I),b8,?_,λ{y u} h9=>?_⟩
    .exact .ext (.suf (xs:=xs++E) (e:=r) (sz:=g.size) (fz:=0) ⟨_,_,_,rfl⟩ (by simp[rekey]) (by omega) (by simp;omega) (λ_=>⟨_,_,rfl,.inl ⟨e1,rfl,e3⟩⟩))
    .have h8:=(h9.mono a8 ad).mono cb b2
     unfold au;split
     .exact .undef _
     .exact h8
   .refine grow ((arr.toList.drop (q*g.size)).take (n*g.size)) (by rw[UL,VD];omega) ?_ ?_
    .intro i y j p G U
     rw[UW]at G;obtain⟨u,H,hr⟩:=a5 (q+i) y j p G U;refine⟨u,?_,hr⟩
     have cz:j<g.size:=by rw[<-g3 y (Is G)];exact(th.1 U).1
     have cx:q+i<xs.length:=(th.1 G).1;have:(i+1)*g.size<=n*g.size:=Up _ (by omega);rw[UK]at this;rw[Uu,T8 (by omega),UW,<-VA,<-UK];simpa using H
    .rw[b0,b1]
     exact run_append_grow (P:=C.P) F t o.type r g z V hj bc ⟨(L k).b,q*g.size,none⟩ n cap _ (by rw[UL,VD];omega)
      (λm u H=>by
        rw[eV,eH a3];rw[Uu]at H;split at H
        .rw[UW]at H;simpa using H
        .cases H)
      ⟨b,o9,none⟩ E.length c news n1 R (by omega) (by omega) (growslice_fits (by omega) O)
  .have cq:xs.drop q=[]:=Uy (by rw[VD];omega)
   refine grow [] (by simp) (λi y j p G _=>by rw[cq]at G;simp at G) ?_;rw[b0,b1]
   cases B with
   |none=>
    have:=run_append_nil (P:=C.P) F t o.type r g z V hj bc ⟨b,o9,none⟩ E.length c news n1 R (by omega) (by omega) (by rw[U0]at O;omega);rw[U0];simpa using this
   |some B=>
    exact run_append_grow (P:=C.P) F t o.type r g z V hj bc B 0 0 [] (by simp) (λm u H=>by simp at H) ⟨b,o9,none⟩ E.length c news n1 R (by omega) (by omega) (growslice_fits (by omega) O)
 obtain⟨X,D,L',w',v,c9,dd,I,b7,hv,c7⟩:=key;unfold Oper.wp;rw[I];refine hK _ _ ?_;refine iU (λei a' w' c0 cU=>⟨ei,c0,cU⟩) (st:=St.put ⟨λm=>au [k] (f.t m),rekey f.h [k] k (.row r g.size D 0)⟩ (some d) (.ext (.suf k X (n+E.length) (X+(n+E.length)))) []) ?_ (bs X D c9 dd);rw[hd];exact gk.put (st:=⟨λm=>au [k] (f.t m),rekey f.h [k] k (.row r g.size D 0)⟩) b7 hN cu (λm=>c7 (ht m)) (d:=some d) (by simp[dm,ct,cr]) (W:=[]) (aI.refl b7) hv
end
theorem Gr{f:FuncId}{c:Code}(hf:P.funcs[f]?=some fn){args:List AV}{e:Hp}(b:LookH e)(h:∀C:Cx,C.P=P->C.N=fn.ntmps->WP C c (E9 P fn.results.toList e Post) (sF args e))
 (g:fn.body=some c:=by rfl)(a:da P f=true:=by kernel_rfl)(d:args.length<=fn.ntmps:=by exact of_decide_eq_true (by kernel_rfl)):nh P f args e Post:=Kq hf g a d b h
theorem vY{rs:List ResultVar}{i H:Hp}{r:AV}(h1:mh P st rs=some r)(m:qI r=true)(l:∀k,inK k=true->st.h k=H k)(hL:LookH H)(hp:Post r H)
 (c:∀k d f,i k=some (.box d false f)->∃a,H k=some (.box a false false)):xI P rs i Post st:=by
 have e:pD st.h=H:=by
  funext k
  unfold pD;split
  .rename_i hi;exact l k hi
  .rename_i hi
   cases g:H k with
   |none=>rfl
   |some b=>exact absurd (hL.keys k b g) hi
 refine⟨r,h1,m,by rw[e];exact hL,by rw[e];exact hp,λk d f g=>?_⟩;obtain⟨a,j⟩:=c k d f g;exact⟨a,by rw[l k (hL.keys k _ j)];exact j⟩
def lU:Hp:=λ_=>none
theorem BX:LookH lU:=⟨λk b h=>(by cases h),λk b o h=>(by cases h),λk b h=>(by cases h),λk a o f h=>(by cases h)⟩
theorem WP.takeAt(n:Nat){xs:List Operand}{a:Array TypeId}(c:ops.toList[n]?=some o)(b:o.op=.call {callee:=.value f,args:=xs.toArray,argTypes:=a})(e:o.guard=none)
 (hq:dK C.P hn C.N ops (tl C (dK C.P hn C.N ops (Q .normal) (ops.toList.drop (n+1))) f xs o.dst) (ops.toList.take n) st):WP C (.region id ops false) Q st:=by
 refine WP.take (pre:=ops.toList.take n) (post:=ops.toList.drop (n+1)) (o:=o) ?_ b e hq;have g:=(th.1 c).1;have d:=(th.1 c).2;rw[<-d,Vs,UY]
theorem WP.appBAt(n:Nat){t:TypeId}(b:ops.toList[n]?=some o)(a:o.op=.call {callee:=.builtin .append,args:=#[s,x],argTypes:=#[t,t]})(hd:o.dst=some d)(e:o.guard=none)
 (hq:dK C.P hn C.N ops (JM C hn ops (Q .normal) t s x d (ops.toList.drop (n+1))) (ops.toList.take n) st):WP C (.region id ops false) Q st:=by
 refine WP.appB (pre:=ops.toList.take n) (post:=ops.toList.drop (n+1)) (o:=o) ?_ a hd e hq;have f:=(th.1 b).1;have c:=(th.1 b).2;rw[<-c,Vs,UY]
theorem WP.sufAt(n:Nat){t:TypeId}{y:Operand}(b:ops.toList[n]?=some o)(a:o.op=.slice t x (some y) none none)(hd:o.dst=some d)(e:o.guard=none)
 (hq:dK C.P hn C.N ops (Ln C hn ops (Q .normal) t x y d (ops.toList.drop (n+1))) (ops.toList.take n) st):WP C (.region id ops false) Q st:=by
 refine WP.suf (pre:=ops.toList.take n) (post:=ops.toList.drop (n+1)) (o:=o) ?_ a hd e hq;have f:=(th.1 b).1;have c:=(th.1 b).2;rw[<-c,Vs,UY]
theorem WP.appSAt(n:Nat){t:TypeId}(b:ops.toList[n]?=some o)(a:o.op=.call {callee:=.builtin .append,args:=#[s,x],argTypes:=#[t,t]})(hd:o.dst=some d)(e:o.guard=none)
 (hq:dK C.P hn C.N ops (JN C hn ops (Q .normal) t s x d (ops.toList.drop (n+1))) (ops.toList.take n) st):WP C (.region id ops false) Q st:=by
 refine WP.appS (pre:=ops.toList.take n) (post:=ops.toList.drop (n+1)) (o:=o) ?_ a hd e hq;have f:=(th.1 b).1;have c:=(th.1 b).2;rw[<-c,Vs,UY]
def BY(x:Nat):Nat:=match Nat.ble 300 x with
 |true=>300
 |false=>x
theorem uQ(x:Nat):∀l:List Nat,l.contains x=true->(l.map BY).contains (BY x)=true
 |[],h=>h
 |a::l,h=>by
  rw[List.contains_cons,UT,US]at h;rw[U9,List.contains_cons,UT,US];rcases h with h|h
  .exact .inl (by rw[h])
  .exact .inr (uQ x l h)
theorem BZ{a b:List Nat}(h:Cm (a.map BY) (b.map BY)=true):Cm a b=true:=by
 unfold Cm at *;rw[TP]at *;intro x d;have:=h (BY x) (List.mem_map_of_mem d);rw[UG]at *;rw[<-Bool.not_eq_true];intro c;rw[uQ x b c]at this;cases this
def HR(acc:nD):nD:=acc.map λx=>(x.1.map BY,x.2.map BY)
theorem Gs{acc:nD}(h:jz ts (HR acc)=true):jz ts acc=true:=by
 unfold jz HR at *;rw[Ux]at h;rw[TP]at *;intro j f;have h1:=h j f;rw[TP]at *;intro i hi;have c:=h1 i hi;rw[TR,TR]at c
 cases d:acc[i]? with
 |none=>rfl
 |some a=>cases e:acc[j]? with
  |none=>rfl
  |some b=>
   rw[d,e]at c;simp only[UO,UT,An]at c|-;exact c.imp (λh=>⟨BZ h.1,BZ h.2⟩) id
theorem Yc{acc:nD}{b:Prop}(h:b)(k:jz ts (HR acc)=true:=by kernel_rfl):jz ts acc=true/\b:=⟨Gs k,h⟩
theorem pW{cs:List AV}{x:AV}(h:i<cs.length):cs.take i++x::cs.drop (i+1)=cs.set i x:=by
 rw[List.set_eq_take_append_cons_drop,T8 h]
theorem GP{S G H:Prop}(s:S)(x:H)(h:S->Hid H->G:=by
 intro hS hG0
 with_reducible repeat' (first|refine Sp.h ?_|((first|refine Wd ?_|refine Ss.h ?_|refine Sc.h (by first|assumption|apply_assumption) ?_|(refine Sb.h ?_ ?_ ?_<;>(try intro hgd)<;>try exact Xy))<;>simp -implicitDefEqProofs (maxSteps:=2000000) [hP,hN,hS]<;>try refine Yc ?_)|refine X2 ?_ ?_|(refine Xd ?_ ?_<;>intro hcd<;>try exact Xx))
 exact hG0.h):G:=h s ⟨x⟩
theorem qk{m:Nat}(_:m=n)(a:Array Value):∀k,k<n->k<a.size+(n-a.size):=by intro k h;omega
theorem GQ(h:ew P g:=by
 refine⟨by kernel_rfl,λargs w=>?_⟩;refine callsD_of_wpS hf rfl λd f e=>?_;apply wpS_seq;apply wpS_region;have a:=qk nt args;have b:=a 0 (by decide);have h1:=a 1 (by decide);have c:=a 2 (by decide);simp[wpOpsS,go_sem,recoverD,e,nt,Exit.thenS,b,h1,c];refine wpS_cond (t:=false) (by simp[Act.eval,b,h1,c]) ?_;simp only[T5,Uf];refine wpS_of_wp (wp_skip ?_);cases d
 simp_all[bodyPostS,results,rs]):ew P g:=h
theorem xg(h:ew P g:=by
 refine⟨by kernel_rfl,λargs w=>?_⟩;refine callsD_of_wpS hf rfl λe i f=>?_;apply wpS_seq;apply wpS_region;have a:=qk nt args;have b:=a 0 (by decide);have h1:=a 1 (by decide);have c:=a 2 (by decide);have d:=a 3 (by decide);simp[wpOpsS,go_sem,recoverD,f,nt,Exit.thenS,b,h1,c,d];refine wpS_cond (t:=false) (by simp[Act.eval,b,h1,c,d]) ?_;simp only[T5,Uf];refine wpS_of_wp (wp_skip ?_);cases e
 simp_all[bodyPostS,results,rs]):ew P g:=h
open Go.Proofs
structure Verd where
 kind:Int
 nor:List (Int×Int×Int)
 pair:Int
 left:List Int
 right:List Int
structure Cel where
 joint:Int
 low:Int
 high:Int
 v:Verd
structure Tr where
 root:List (Int×Int)
 cells:List Cel
variable {c:Cel}{t:Tr}
abbrev am(v:Int×Int×Int):PV:=.val (.agg #[.int .i64 v.1,.int .i64 v.2.1,.int .i64 v.2.2])
abbrev aG(l:List (Int×Int×Int)):PV:=.sl (l.map am)
abbrev Ge(p:Int)(l r:List Int):PV:=.agg [Z p,zs l,zs r]
abbrev jT(v:Verd):PV:=.agg [Z v.kind,aG v.nor,Z v.pair,zs v.left,zs v.right]
abbrev br(c:Cel):PV:=.agg [Z c.joint,Z c.low,Z c.high,Z c.v.kind,aG c.v.nor,Z c.v.pair,zs c.v.left,zs c.v.right]
abbrev bZ(t:Tr):PV:=.agg [iv t.root,.sl (t.cells.map br)]
def dY(c:Cel):Bool:=c.joint==-1&&c.low==-1&&c.high==-1
def kE(p:Int)(l r:List Int):Bool:=p==0&&(l.length:Int)==0&&(r.length:Int)==0
def eT(v:Verd):Bool:=if v.kind=0\/v.kind=1 then kE v.pair v.left v.right else if v.kind=2 then((v.nor.length:Int)==0)else false
def n5(v:Verd):Bool:=v.kind==0&&((v.nor.length:Int)==0)&&kE v.pair v.left v.right
theorem Dw(l:List α):((l.length:Int)==0)=decide (l.length=0):=by
 by_cases h:l.length=0
 .simp[h]
 .have:((l.length:Int)==0)=false:=by simp;intro a;exact h (by rw[a];rfl)
  rw[this];simp[h]
theorem Dx(c:Cel):aR 172 (br c) (B (dY c)):=by
 refine Dp func172 λC hP hN=>?_
 with_reducible repeat' (first|refine Sp.h ?_|((first|refine Ss.h ?_|(refine Sb.h ?_ ?_ ?_<;>(try intro hgd)<;>try exact Xy))<;>simp -implicitDefEqProofs [hP,hN])|refine X2 ?_ ?_|(refine Xd ?_ ?_<;>intro hcd<;>try exact Xx))
 all_goals (simp_all[dY])
theorem Kp(c:Cel):aR 89 (br c) (B (dY c)):=by
 refine Dp func89 λC hP hN=>?_
 with_reducible repeat' (first|refine Sp.h ?_|((first|refine Ss.h ?_|(refine Sb.h ?_ ?_ ?_<;>(try intro hgd)<;>try exact Xy))<;>simp -implicitDefEqProofs [hP,hN])|refine X2 ?_ ?_|(refine Xd ?_ ?_<;>intro hcd<;>try exact Xx))
 all_goals (simp_all[dY])
theorem Nw(p:Int)(l r:List Int):aR 231 (Ge p l r) (B (kE p l r)):=by
 refine Dp func231 λC hP hN=>?_
 with_reducible repeat' (first|refine Sp.h ?_|((first|refine Ss.h ?_|(refine Sb.h ?_ ?_ ?_<;>(try intro hgd)<;>try exact Xy))<;>simp -implicitDefEqProofs [hP,hN])|refine X2 ?_ ?_|(refine Xd ?_ ?_<;>intro hcd<;>try exact Xx))
 all_goals (simp_all[kE])
theorem Nx(p:Int)(l r:List Int):aR 165 (Ge p l r) (B (kE p l r)):=by
 refine Dp func165 λC hP hN=>?_
 with_reducible repeat' (first|refine Sp.h ?_|((first|refine Ss.h ?_|(refine Sb.h ?_ ?_ ?_<;>(try intro hgd)<;>try exact Xy))<;>simp -implicitDefEqProofs [hP,hN])|refine X2 ?_ ?_|(refine Xd ?_ ?_<;>intro hcd<;>try exact Xx))
 all_goals (simp_all[kE])
theorem Ju(v:Verd):aR 173 (jT v) (B (eT v)):=by
 have a:=Nw v.pair v.left v.right;have b:=Dw v.nor;generalize c:kE v.pair v.left v.right=E at a;refine Dp func173 λC hP hN=>?_
 with_reducible repeat' (first|refine Sp.h ?_|((first|refine Ss.h ?_|refine Sc.h (a) ?_|(refine Sb.h ?_ ?_ ?_<;>(try intro hgd)<;>try exact Xy))<;>simp -implicitDefEqProofs [hP,hN])|refine X2 ?_ ?_|(refine Xd ?_ ?_<;>intro hcd<;>try exact Xx))
 all_goals (simp_all[eT])
theorem OS(v:Verd):aR 91 (jT v) (B (eT v)):=by
 have a:=Nx v.pair v.left v.right;have b:=Dw v.nor;generalize c:kE v.pair v.left v.right=E at a;refine Dp func91 λC hP hN=>?_
 with_reducible repeat' (first|refine Sp.h ?_|((first|refine Ss.h ?_|refine Sc.h (a) ?_|(refine Sb.h ?_ ?_ ?_<;>(try intro hgd)<;>try exact Xy))<;>simp -implicitDefEqProofs [hP,hN])|refine X2 ?_ ?_|(refine Xd ?_ ?_<;>intro hcd<;>try exact Xx))
 all_goals (simp_all[eT])
theorem RT(v:Verd):aR 190 (jT v) (B (n5 v)):=by
 have a:=Nw v.pair v.left v.right;generalize b:kE v.pair v.left v.right=E at a;refine Dp func190 λC hP hN=>?_
 with_reducible repeat' (first|refine Sp.h ?_|((first|refine Ss.h ?_|refine Sc.h (a) ?_|(refine Sb.h ?_ ?_ ?_<;>(try intro hgd)<;>try exact Xy))<;>simp -implicitDefEqProofs [hP,hN])|refine X2 ?_ ?_|(refine Xd ?_ ?_<;>intro hcd<;>try exact Xx))
 all_goals (simp_all[n5])
theorem RU(v:Verd):aR 131 (jT v) (B (n5 v)):=by
 have a:=Nx v.pair v.left v.right;generalize b:kE v.pair v.left v.right=E at a;refine Dp func131 λC hP hN=>?_
 with_reducible repeat' (first|refine Sp.h ?_|((first|refine Ss.h ?_|refine Sc.h (a) ?_|(refine Sb.h ?_ ?_ ?_<;>(try intro hgd)<;>try exact Xy))<;>simp -implicitDefEqProofs [hP,hN])|refine X2 ?_ ?_|(refine Xd ?_ ?_<;>intro hcd<;>try exact Xx))
 all_goals (simp_all[n5])
def dj(r:List (Int×Int)):Bool:=decide (1<=r.length)&&decide (r.length<=10)&&bT vI r
theorem RW(r:List (Int×Int)):aR 189 (iv r) (B (dj r)):=by
 by_cases h1:r.length<1
 .have g:dj r=false:=by simp[dj];omega
  have b:(r.length:Int)<1:=by omega
  rw[g];refine Dp func189 λC hP hN=>?_;exact GS (gA b h1)
 have b:¬(r.length:Int)<1:=by omega
 by_cases j:10<r.length
 .have g:dj r=false:=by simp[dj];omega
  have c:(10:Int)<r.length:=by omega
  rw[g];refine Dp func189 λC hP hN=>?_;exact GS (f7 b h1 j c)
 have c:¬(10:Int)<r.length:=by omega
 have g:dj r=bT vI r:=by
  unfold dj
  have l:decide (1<=r.length)=true:=by simp;omega
  have m:decide (r.length<=10)=true:=by simp;omega
  rw[l,m];simp
 rw[g];refine Dp func189 λC hP hN=>?_;refine GT (f7 b h1 j c) ?_;refine WP.loopN [4] r.length (λi st=>st.t 13=.pv (iv r)/\st.t 14=.pv (Z r.length)/\st.t 15=.pv (Z i)/\st.h 4=none/\bT vI (r.take i)=true) (by simp[bT]) ?_;rintro i st hi ⟨d,e,f,k,hq⟩;by_cases a:i<r.length
 .have n:=aj a (by omega)
  have hF:vI r[i]=false->bT vI r=false:=vj a;have hS:vI r[i]=true->bT vI (r.take (i+1))=true:=tP a hq
  with_reducible repeat' (first|refine Sp.h ?_|((first|refine Ss.h ?_|refine Sc.h (jM _ _) ?_|(refine Sb.h ?_ ?_ ?_<;>(try intro hgd)<;>try exact Xy))<;>simp -implicitDefEqProofs [hP,hN,d,e,f,k,a,n])|refine X2 ?_ ?_|(refine Xd ?_ ?_<;>intro hcd<;>try exact Xx))
  all_goals first|(rw[hF (by simpa using hcd)];done)|(simp[hF (by simpa using hcd)];done)|(simpa using hS (by simpa using hcd))
 .skip
  refine GT (go d e f k a) ?_
  all_goals simp[tR a hq]
theorem gR{p:α->Bool}{xs:List α}:bT p xs=true↔∀x∈xs,p x=true:=TP
abbrev Bx:=List (Int×Int)
variable {b:Bx}
abbrev OL:=List (Option Bx)
variable {L L':OL}
def rA:Option Bx->PV
 |none=>.val (.slice none 0 0)
 |some b=>iv b
def kF(n i:Nat)(c:Cel):Bool:=decide ((i:Int)<c.low)&&decide (c.low<n)&&decide ((i:Int)<c.high)&&decide (c.high<n)&&decide (c.low≠c.high)&&n5 c.v
def gx(n i:Nat)(c:Cel)(L:OL):Option OL:=
 match L[i]? with
 |some (some b)=>
  if dY c then(if eT c.v then some L else none)
  else if kF n i c then
   if bL b c.joint then
    match L[c.low.toNat]?,L[c.high.toNat]? with
    |some none,some none=>some ((L.set c.low.toNat (some (dg b c.joint))).set c.high.toNat (some (dh b c.joint)))
    |_,_=>none
   else none
  else none
 |_=>none
def mc(n:Nat):List Cel->Nat->OL->Option OL
 |[],_,L=>some L
 |c::a,i,L=>match gx n i c L with
  |some L'=>mc n a (i+1) L'
  |none=>none
def kB(t:Tr):OL:=some t.root::List.replicate (t.cells.length-1) none
def gy(t:Tr):Bool:=decide (1<=t.cells.length)&&decide (t.cells.length<=2048)&&dj t.root
def dk(t:Tr):Option OL:=if gy t then mc t.cells.length t.cells 0 (kB t)else none
def aO(t:Tr):Bool:=(dk t).isSome
def bj(t:Tr):List Bx:=match dk t with
 |some L=>L.map λx=>x.getD []
 |none=>[]
theorem kC(h:gx n i c L=some L'):∃b,L[i]?=some (some b)/\
 ((dY c=true/\eT c.v=true/\L'=L)\/
  (dY c=false/\kF n i c=true/\bL b c.joint=true/\L[c.low.toNat]?=some none/\L[c.high.toNat]?=some none/\
    L'=(L.set c.low.toNat (some (dg b c.joint))).set c.high.toNat (some (dh b c.joint)))):=by
 unfold gx at h;split at h
 .rename_i b e
  refine⟨b,e,?_⟩;split at h
  .rename_i a
   split at h
   .rename_i hf
    injection h with h;exact .inl ⟨a,hf,h.symm⟩
   .cases h
  .rename_i a
   split at h
   .rename_i hi
    split at h
    .rename_i f
     split at h
     .rename_i h1 d
      injection h with h;exact .inr ⟨by simpa using a,hi,f,h1,d,h.symm⟩
     .cases h
    .cases h
   .cases h
 .cases h
theorem jJ:kF n i c=true↔(i:Int)<c.low/\c.low<n/\(i:Int)<c.high/\c.high<n/\c.low≠c.high/\n5 c.v=true:=by
 simp[kF,and_assoc]
theorem Dy{n:Nat}{P:Nat->OL->Prop}:∀(cs:List Cel)(i:Nat)(L L':OL),mc n cs i L=some L'->P i L->
 (∀k c L L',cs[k]?=some c->P (i+k) L->gx n (i+k) c L=some L'->P (i+k+1) L')->P (i+cs.length) L'
 |[],i,L,L',h,a,_=>by simp[mc]at h;subst h;exact a
 |c::cs,i,L,L',h,a,g=>by
  simp only[mc]at h;split at h
  .rename_i b h1
   have l:=g 0 c L b rfl a h1
   have:=Dy cs (i+1) b L' h l (λk d M j m hp f=>by
    have e:i+1+k=i+(k+1):=by omega
    rw[e]at hp f|-
    exact g (k+1) d M j (by simpa using m) hp f)
   have e:i+(c::cs).length=i+1+cs.length:=by simp;omega
   rw[e];exact this
  .cases h
theorem ng{P:Nat->OL->Prop}(h:dk t=some L)(d:P 0 (kB t))
 (f:∀i c L L',t.cells[i]?=some c->P i L->gx t.cells.length i c L=some L'->P (i+1) L'):P t.cells.length L:=by
 unfold dk at h;split at h
 .have:=Dy t.cells 0 _ _ h d (λk c M b e hp a=>by
   rw[U0]at hp a|-;exact f k c M b e hp a)
  simpa using this
 .cases h
theorem mw(h:dk t=some L):gy t=true:=by
 unfold dk at h;split at h
 .assumption
 .cases h
theorem dv:gy t=true↔1<=t.cells.length/\t.cells.length<=2048/\1<=t.root.length/\t.root.length<=10/\bT vI t.root=true:=by
 simp[gy,dj,and_assoc]
structure BOk(t:Tr)(i:Nat)(L:OL):Prop where
 len:L.length=t.cells.length
 pre:∀j,j<i->∃b,L[j]?=some (some b)
 ok:∀(j:Nat) b,L[j]?=some (some b)->b.length=t.root.length/\bT vI b=true
theorem Bp{j:Int}(h:bL b j=true):(dg b j).length=b.length/\(dh b j).length=b.length:=by
 unfold dg dh;rw[h];simp only[Ul];unfold bL at h;split<;>simp_all
theorem gW{lo hi:Int}:az lo hi=true↔-2147483648<=lo/\lo<=hi/\hi<=2147483648:=by
 simp[az,and_assoc]
theorem E6{x:Int×Int}(h:az x.1 x.2=true):jp x=(x.1+x.2)/2:=by
 unfold jp;have a:=gW.1 h;rw[h,T8 rfl,show wr (x.1+x.2)=x.1+x.2 from aa (by omega) (by omega),Int.fdiv_eq_ediv];simp
theorem yy{j:Int}:bL b j=true↔0<=j/\bT vI b=true/\∃x,b[j.toNat]?=some x/\2<=x.2-x.1:=by
 unfold bL;constructor
 .intro h
  simp only[An,L4]at h;obtain⟨⟨h1,a⟩,d⟩:=h;refine⟨h1,a,?_⟩;split at d
  .rename_i x c
   refine⟨x,c,?_⟩;have e:=gW.1 (gR.1 a _ (Is c));rw[L4,eR,T8 (gR.1 a _ (Is c)),show wr (x.2-x.1)=x.2-x.1 from aa (by omega) (by omega)]at d;exact d
  .cases d
 .rintro⟨h1,a,x,c,d⟩
  have e:=gW.1 (gR.1 a _ (Is c))
  have f:eR x=x.2-x.1:=by
   rw[eR,T8 (gR.1 a _ (Is c))];exact aa (by omega) (by omega)
  simp[h1,a,c,f,d]
theorem Jv{j:Int}(h:bL b j=true):∃x,b[j.toNat]?=some x/\az x.1 x.2=true/\2<=x.2-x.1/\dg b j=b.set j.toNat (x.1,(x.1+x.2)/2)/\dh b j=b.set j.toNat ((x.1+x.2)/2,x.2):=by
 obtain⟨_,d,x,a,e⟩:=yy.1 h;have c:az x.1 x.2=true:=gR.1 d _ (Is a);refine⟨x,a,c,e,?_,?_⟩
 .simp[dg,h,a,E6 c]
 .simp[dh,h,a,E6 c]
theorem xy{j:Int}(h:bL b j=true):bT vI (dg b j)=true/\bT vI (dh b j)=true:=by
 obtain⟨x,k,f,i,d,e⟩:=Jv h;have a:=(yy.1 h).2.1;have g:=gW.1 f;rw[d,e];constructor<;>refine gR.2 λy c=>?_
 .rcases UP c with h|rfl
  .exact gR.1 a _ h
  .exact gW.2 ⟨by omega,by simp only;omega,by simp only;omega⟩
 .rcases UP c with h|rfl
  .exact gR.1 a _ h
  .exact gW.2 ⟨by simp only;omega,by simp only;omega,by omega⟩
theorem yz(h:gy t=true):BOk t 0 (kB t):=by
 obtain⟨h1,c,d,e,h5⟩:=dv.1 h;refine⟨by simp[kB];omega,λj f=>by omega,λj b a=>?_⟩
 cases j with
 |zero=>simp[kB]at a;subst a;exact⟨rfl,h5⟩
 |succ j=>simp[kB,Uv]at a
theorem Jw{a z:Nat}{x y:Option Bx}(d:a≠z)(c:a<L.length)(e:z<L.length):((L.set a x).set z y)[j]?=if j=z then some y else if j=a then some x else L[j]?:=by
 rw[Ub];by_cases h1:z=j
 .subst h1;simp[e]
 .rw[TQ h1,TQ (λh=>h1 h.symm),Ub]
  by_cases b:a=j
  .subst b;simp[c]
  .rw[TQ b,TQ (λh=>b h.symm)]
theorem Dz{x y:Option Bx}(e:L.length=t.cells.length)(hi:kF t.cells.length i c=true):((L.set c.low.toNat x).set c.high.toNat y)[j]?=if j=c.high.toNat then some y else if j=c.low.toNat then some x else L[j]?:=by
 obtain⟨h1,a,b,d,h5,_⟩:=jJ.1 hi;exact Jw (by omega) (by omega) (by omega)
theorem yA(h:BOk t i L)(n:gx t.cells.length i c L=some L'):BOk t (i+1) L':=by
 obtain⟨b,g,⟨_,_,rfl⟩|⟨_,hi,f,m,k,rfl⟩⟩:=kC n
 .refine⟨h.len,λj l=>?_,h.ok⟩
  by_cases e:j=i
  .subst e;exact⟨b,g⟩
  .exact h.pre j (by omega)
 .have a:=h.ok i b g
  refine⟨by simpa using h.len,λj l=>?_,λj d hd=>?_⟩
  .rw[Dz h.len hi]
   split
   .exact⟨_,rfl⟩
   .split
    .exact⟨_,rfl⟩
    .by_cases e:j=i
     .subst e;exact⟨b,g⟩
     .exact h.pre j (by omega)
  .rw[Dz h.len hi]at hd
   split at hd
   .injection hd with hd;injection hd with hd;subst hd
    exact⟨by rw[(Bp f).2];exact a.1,(xy f).2⟩
   .split at hd
    .injection hd with hd;injection hd with hd;subst hd
     exact⟨by rw[(Bp f).1];exact a.1,(xy f).1⟩
    .exact h.ok j d hd
structure BInv(t:Tr)(i:Nat)(L:OL):Prop where
 bok:BOk t i L
 run:mc t.cells.length (t.cells.drop i) i L=dk t
theorem Bq(h:gy t=true):BInv t 0 (kB t):=⟨yz h,by simp[dk,h]⟩
theorem r5(h:BInv t i L)(a:i<t.cells.length)(b:gx t.cells.length i t.cells[i] L=some L'):BInv t (i+1) L':=by
 refine⟨yA h.bok b,?_⟩;rw[<-h.run,WK a];simp only[mc,b]
theorem Br(h:BInv t i L)(a:i<t.cells.length)(b:gx t.cells.length i t.cells[i] L=none):dk t=none:=by
 rw[<-h.run,WK a];simp only[mc,b]
theorem Bs(h:BInv t i L)(a:¬i<t.cells.length):dk t=some L:=by
 rw[<-h.run,Wn (by omega)];rfl
theorem r6(h:dk t=some L):BOk t t.cells.length L:=
 ng h (yz (mw h)) (λ_ _ _ _ _ hp a=>yA hp a)
theorem n6(h:dk t=some L):L=(bj t).map some:=by
 have ok:=r6 h;rw[bj,h];simp only[List.map_map];apply UI;intro j;by_cases c:j<L.length
 .obtain⟨b,a⟩:=ok.pre j (by rw[<-ok.len];exact c)
  simp[a]
 .simp[Uc (by omega:L.length<=j)]
theorem DA(h:dk t=some L):L.map rA=(bj t).map iv:=by
 rw[n6 h];simp[rA,Function.comp_def]
theorem lR(h:aO t=true):(bj t).length=t.cells.length:=by
 obtain⟨L,hL⟩:=Uw.1 h;have:=(r6 hL).len;rw[n6 hL]at this;simpa using this
theorem Bt(a:(bj t)[j]?=some b):b.length=t.root.length/\bT vI b=true:=by
 cases hL:dk t with
 |none=>simp[bj,hL]at a
 |some L=>
  have:=(r6 hL).ok j b;rw[n6 hL]at this;exact this (by simp[a])
theorem gz(h:aO t=true):gy t=true:=by
 obtain⟨L,hL⟩:=Uw.1 h;exact mw hL
theorem r7(h:dk t=none):aO t=false/\bj t=[]:=by simp[aO,bj,h]
theorem ki{t:Tr}(a:L[i]?=some (some b))(d:dY c=true):gx n i c L=if eT c.v then some L else none:=by
 simp[gx,a,d]
theorem qm(d:L[i]?=some (some b))(f:dY c=false)(hi:kF n i c=true)(e:bL b c.joint=true)(h1:L[c.low.toNat]?=some none)(a:L[c.high.toNat]?=some none):gx n i c L=some ((L.set c.low.toNat (some (dg b c.joint))).set c.high.toNat (some (dh b c.joint))):=by
 simp[gx,d,f,hi,e,h1,a]
theorem ly(e:L[i]?=some (some b))(g:dY c=false)(h:kF n i c=false\/bL b c.joint=false\/(∃d,L[c.low.toNat]?=some (some d))\/(∃d,L[c.high.toNat]?=some (some d))):gx n i c L=none:=by
 unfold gx;rw[e];simp only[g,T5,Uf];split
 .rename_i hi
  split
  .rename_i f
   rcases h with h|h|⟨d,h⟩|⟨d,h⟩
   .rw[hi]at h;cases h
   .rw[f]at h;cases h
   .rw[h]
   .rw[h];split
    .rename_i j a;cases a
    .rfl
  .rfl
 .rfl
def aN:Verd:=⟨0,[],0,[],[]⟩
def aD(v:Verd):Cel:=⟨-1,-1,-1,v⟩
theorem uv(h:dY c=true):c=aD c.v:=by
 cases c;simp[dY]at h;simp[aD,h]
theorem qo(v:Verd):dY (aD v)=true:=by simp[dY,aD]
theorem Gf:n5 aN=true:=by simp[n5,aN,kE]
theorem Gg:eT aN=true:=by simp[eT,aN,kE]
theorem zL(h:gx n i c L=some L')(g:L[j]?=some (some b)):L'[j]?=some (some b):=by
 obtain⟨d,hd,⟨_,_,rfl⟩|⟨_,hi,l,f,a,rfl⟩⟩:=kC h
 .exact g
 .have h1:c.low.toNat≠j:=by intro e;rw[e,g]at f;cases f
  have k:c.high.toNat≠j:=by intro e;rw[e,g]at a;cases a
  rw[Ub,TQ k,Ub,TQ h1];exact g
theorem Bu{k:Nat}{S:OL}(y:L.length=n)(x:S.length=k)(h:gx n i c L=some L'):gx (n+k) i c (L++S)=some (L'++S):=by
 obtain⟨d,hd,⟨h1,s,rfl⟩|⟨h1,hi,u,e,b,rfl⟩⟩:=kC h
 .have a:i<L'.length:=(th.1 hd).1
  have:(L'++S)[i]?=some (some d):=by rw[T4 a];exact hd
  simp[gx,this,h1,s]
 .have a:i<L.length:=(th.1 hd).1
  have g:c.low.toNat<L.length:=(th.1 e).1;have j:c.high.toNat<L.length:=(th.1 b).1
  have p:(L++S)[i]?=some (some d):=by rw[T4 a];exact hd
  have q:(L++S)[c.low.toNat]?=some none:=by rw[T4 g];exact e
  have r:(L++S)[c.high.toNat]?=some none:=by rw[T4 j];exact b
  have f:kF (n+k) i c=true:=by
   obtain⟨l,v,a3,a4,m,o⟩:=jJ.1 hi;exact jJ.2 ⟨l,by omega,a3,by omega,m,o⟩
  rw[qm p h1 f u q r,VR _ _ g,VR _ _ (by simpa using j)]
def jK(t:Tr)(i:Nat)(j:Int)(v:Verd):Tr:=⟨t.root,t.cells.set i ⟨j,t.cells.length,t.cells.length+1,aN⟩++[aD v,aD v]⟩
theorem qp(t:Tr)(i:Nat)(j:Int)(v:Verd):(jK t i j v).cells.length=t.cells.length+2:=by simp[jK]
theorem pB{cs:List Cel}(a:cs[i]?=some c)(h:gx n i c L=some L'):mc n (cs.drop i) i L=mc n (cs.drop (i+1)) (i+1) L':=by
 obtain⟨b,a⟩:=th.1 a;rw[WK b,a];simp only[mc,h]
theorem HF(h:dk t=some L)(f:t.cells[i]?=some c)(j:dY c=true):eT c.v=true:=by
 have hp:=ng (P:=λk _=>i<k->eT c.v=true) h (by intro h;omega) (λk d M m a hp l hi=>by
  by_cases e:k=i
  .subst e
   rw[f]at a;injection a with a;subst a;obtain⟨b,n,⟨_,g,_⟩|⟨h1,_⟩⟩:=kC l
   .exact g
   .rw[j]at h1;cases h1
  .exact hp (by omega))
 exact hp (th.1 f).1
theorem D7(h:dk t=some L){j:Int}(C:t.cells[i]?=some c)(F:dY c=true)(hn:t.cells.length+2<=2048)(J:L[i]?=some (some b))(K:bL b j=true):
 dk (jK t i j c.v)=some (L++[some (dg b j),some (dh b j)]):=by
 have u:=mw h;obtain⟨O,Q,z3,z4,N⟩:=dv.1 u;have f:i<t.cells.length:=(th.1 C).1;have n:=qp t i j c.v;have hf:=HF h C F;generalize x:jK t i j c.v=T at *
 have g:T.root=t.root:=by rw[<-x];rfl
 have r:∀k,k≠i->k<t.cells.length->T.cells[k]?=t.cells[k]?:=by
  intro k l E;rw[<-x];simp only[jK];rw[T4 (by simpa using E),Ub,TQ (λe=>l e.symm)]
 have A:T.cells[i]?=some ⟨j,t.cells.length,t.cells.length+1,aN⟩:=by
  rw[<-x];simp only[jK];rw[T4 (by simpa using f),Ub,T8 rfl,T8 f]
 have B:gy T=true:=dv.2 ⟨by omega,by omega,by rw[g];omega,by rw[g];omega,by rw[g];exact N⟩
 have hP:=ng (P:=λk M=>BOk t k M/\if k<=i then mc (t.cells.length+2) (T.cells.drop k) k (M++[none,none])=dk T
  else∃d,M[i]?=some (some d)/\(bL d j=true->mc (t.cells.length+2) (T.cells.drop k) k (M++[some (dg d j),some (dh d j)])=dk T)) h (by
  refine⟨yz u,?_⟩;simp only[UR,Ul];rw[dk,T8 B,n,WF]
  congr 1
  simp only[kB,g,n,List.cons_append]
  rw[show t.cells.length+2-1=(t.cells.length-1)+2 by omega,<-List.replicate_append_replicate];rfl) (by
  intro k e M y l hp s;obtain⟨a,hp⟩:=hp;refine⟨yA a s,?_⟩;have m:k<t.cells.length:=(th.1 l).1;rcases VM k i with p|p|p
  .rw[T8 (by omega)]at hp|-
   rw[<-hp];exact(pB (by rw[r k (by omega) m];exact l) (Bu (k:=2) (S:=[none,none]) a.len rfl s)).symm
  .subst p
   rw[C]at l;injection l with l;subst l;rw[T8 (Ua _)]at hp;rw[TQ (by omega)];obtain⟨d,hd,⟨_,_,rfl⟩|⟨h1,_⟩⟩:=kC s
   .refine⟨d,hd,λq=>?_⟩
    rw[<-hp];refine(pB A ?_).symm
    have z:(y++[none,none])[k]?=some (some d):=by rw[T4 (by rw[a.len];exact f)];exact hd
    have D:kF (t.cells.length+2) k ⟨j,t.cells.length,t.cells.length+1,aN⟩=true:=jJ.2 ⟨by simp only;omega,by simp only;omega,by simp only;omega,by simp only;omega,by simp only;omega,Gf⟩
    have G:((t.cells.length:Int)).toNat=y.length:=by rw[a.len];omega
    have H:((t.cells.length:Int)+1).toNat=y.length+1:=by rw[a.len];omega
    rw[qm z (by simp[dY]) D q (by simp only;rw[G];simp) (by simp only;rw[H];simp)];simp only[G,H]
    congr 1
    rw[Vt _ _ (by omega),Vt _ _ (by omega)];simp
   .rw[F]at h1;cases h1
  .rw[TQ (by omega)]at hp|-
   obtain⟨d,hd,hp⟩:=hp;refine⟨d,zL s hd,λq=>?_⟩;rw[<-hp q]
   exact(pB (by rw[r k (by omega) m];exact l) (Bu (k:=2) (S:=[some (dg d j),some (dh d j)]) a.len rfl s)).symm)
 obtain⟨a,hP⟩:=hP;rw[TQ (by omega)]at hP;obtain⟨d,hd,hP⟩:=hP;rw[J]at hd;injection hd with hd;injection hd with hd;subst hd;rw[<-hP K]
 have o:T.cells.drop t.cells.length=[aD c.v,aD c.v]:=by
  rw[<-x];simp only[jK];rw[Ww (by simp),Wn (by simp)];rfl
 rw[o]
 have z:(L++[some (dg b j),some (dh b j)])[t.cells.length]?=some (some (dg b j)):=by rw[<-a.len];simp
 have I:(L++[some (dg b j),some (dh b j)])[t.cells.length+1]?=some (some (dh b j)):=by rw[<-a.len];simp
 simp only[mc];rw[ki (t:=t) z (qo _),T8 (show eT (aD c.v).v=true from hf)];simp only;rw[ki (t:=t) I (qo _),T8 (show eT (aD c.v).v=true from hf)]
def eG(t:Tr)(i:Nat)(v:Verd):Tr:=⟨t.root,t.cells.set i (aD v)⟩
theorem DB(h:dk t=some L){v:Verd}(o:t.cells[i]?=some c)(q:dY c=true)(hf:eT v=true):dk (eG t i v)=some L:=by
 have n:=mw h;have f:i<t.cells.length:=(th.1 o).1
 have b:(eG t i v).cells.length=t.cells.length:=by simp[eG]
 generalize l:eG t i v=T at *
 have a:T.root=t.root:=by rw[<-l];rfl
 have m:gy T=true:=by
  obtain⟨u,x,z3,z4,r⟩:=dv.1 n;exact dv.2 ⟨by omega,by omega,by rw[a];omega,by rw[a];omega,by rw[a];exact r⟩
 have hP:=ng (P:=λk M=>mc t.cells.length (T.cells.drop k) k M=dk T) h (by
  rw[dk,T8 m,b,WF]
  congr 1
  simp only[kB,a,b]) (by
  intro k e M s g hp p;rw[<-hp];by_cases j:k=i
  .subst j
   rw[o]at g;injection g with g;subst g;obtain⟨d,hd,⟨_,_,rfl⟩|⟨h1,_⟩⟩:=kC p
   .refine(pB (c:=aD v) (by rw[<-l];simp[eG,f]) ?_).symm
    rw[ki (t:=t) hd (qo _),T8 (show eT (aD v).v=true from hf)]
   .rw[q]at h1;cases h1
  .refine(pB ?_ p).symm
   rw[<-l];simp only[eG]
   rw[Ub,TQ (λe=>j e.symm)];exact g)
 rw[<-hP,Wn (by omega)];rfl
theorem HG(h:dk t=some L):∃c,t.cells[t.cells.length-1]?=some c/\dY c=true:=by
 obtain⟨m,n,z3,z4,o⟩:=dv.1 (mw h)
 have a:t.cells.length-1<t.cells.length:=by omega
 refine⟨t.cells[t.cells.length-1],an a,?_⟩
 have hp:=ng (P:=λk _=>k=t.cells.length->dY t.cells[t.cells.length-1]=true) h (by omega) (λk d M j g hp i hi=>by
  obtain⟨b,l,⟨f,_,_⟩|⟨_,h1,_⟩⟩:=kC i
  .have e:t.cells.length-1=k:=by omega
   have:=an a;rw[show t.cells[t.cells.length-1]?=t.cells[k]? by rw[e],g]at this;injection this with this;rw[<-this];exact f
  .have:=jJ.1 h1
   omega)
 exact hp rfl
def fT(t:Tr)(i:Nat):Bool:=match t.cells[i]? with
 |some c=>dY c
 |none=>false
def dr(t:Tr)(n:Nat):List Nat:=(List.range n).filter (fT t)
def bh(t:Tr):List Nat:=if aO t then dr t t.cells.length else[]
theorem rB(t:Tr)(n:Nat):dr t (n+1)=if fT t n then dr t n++[n]else dr t n:=by
 simp only[dr,Vq,VJ];cases h:fT t n<;>simp[h]
theorem sB(t:Tr)(n:Nat):(dr t n).length<=n:=by
 have:=Ws (fT t) (List.range n);simpa[dr]using this
theorem D8:i∈bh t↔aO t=true/\∃c,t.cells[i]?=some c/\dY c=true:=by
 unfold bh
 cases e:aO t with
 |false=>simp
 |true=>
  simp only[Ul,true_and,dr,U3,UH,fT];constructor
  .rintro⟨h1,a⟩
   rw[an h1]at a;exact⟨_,an h1,a⟩
  .rintro⟨c,b,d⟩
   refine⟨(th.1 b).1,by rw[b];exact d⟩
theorem sC(h:aO t=true):0<(bh t).length:=by
 obtain⟨L,hL⟩:=Uw.1 h;obtain⟨c,a,b⟩:=HG hL;exact List.length_pos_of_mem (D8.2 ⟨h,c,a,b⟩)
def bU(t:Tr)(i j:Int):Bool:=aO t&&decide (0<=i)&&decide (i<t.cells.length)&&fT t i.toNat&&decide (t.cells.length+2<=2048)&&bL ((bj t)[i.toNat]?.getD []) j
def lV(t:Tr)(i:Nat):Verd:=match t.cells[i]? with
 |some c=>c.v
 |none=>aN
def cL(t:Tr)(i j:Int):Tr:=if bU t i j then jK t i.toNat j (lV t i.toNat)else t
def aV(t:Tr)(i:Int)(v:Verd):Bool:=aO t&&decide (0<=i)&&decide (i<t.cells.length)&&fT t i.toNat&&decide ((lV t i.toNat).kind=0)&&eT v
def bP(t:Tr)(i:Int)(v:Verd):Tr:=if aV t i v then eG t i.toNat v else t
theorem Bv(h:fT t i=true):∃c,t.cells[i]?=some c/\dY c=true/\lV t i=c.v:=by
 unfold fT at h;split at h
 .rename_i c a
  exact⟨c,a,h,by simp[lV,a]⟩
 .cases h
theorem D9(h:aO t=true)(i j:Int):aO (cL t i j)=true/\(cL t i j).root=t.root/\(cL t i j).cells.length<=t.cells.length+2:=by
 unfold cL;split
 .rename_i f
  simp only[bU,An,L4]at f;obtain⟨⟨⟨⟨⟨h1,n⟩,o⟩,g⟩,h5⟩,h6⟩:=f;obtain⟨L,hL⟩:=Uw.1 h;obtain⟨c,k,l,m⟩:=Bv g
  have e:i.toNat<t.cells.length:=by omega
  obtain⟨b,a⟩:=(r6 hL).pre i.toNat e
  have d:(bj t)[i.toNat]?=some b:=by
   have:=n6 hL;rw[this]at a;simpa using a
  rw[d]at h6;have:=D7 hL k l h5 a h6;rw[m];exact⟨by rw[aO,this];rfl,rfl,by rw[qp];exact Ua _⟩
 .exact⟨h,rfl,by omega⟩
theorem DC(h:aO t=true)(i:Int)(v:Verd):aO (bP t i v)=true/\(bP t i v).root=t.root/\(bP t i v).cells.length=t.cells.length/\bj (bP t i v)=bj t:=by
 unfold bP;split
 .rename_i a
  simp only[aV,An,L4]at a;obtain⟨⟨⟨⟨⟨h1,f⟩,g⟩,b⟩,h5⟩,h6⟩:=a;obtain⟨L,hL⟩:=Uw.1 h;obtain⟨c,d,e,j⟩:=Bv b;have:=DB hL d e h6;exact⟨by rw[aO,this];rfl,rfl,by simp[eG],by simp[bj,this,hL]⟩
 .exact⟨h,rfl,rfl,rfl⟩
def lz(k:Int):Verd:=if k=1\/k=2 then⟨2,[],0,[1],[1]⟩else if k=3 then⟨1,[(1,0,0)],0,[],[]⟩else aN
def gX(l:List Int):Nat->Nat
 |0=>nn l 0
 |i+1=>nn l (nn l (gX l i))
theorem DD(l:List Int)(i:Nat):gX l i<=2*i+1:=by
 induction i with
 |zero=>have:=bt l 0;simp only[gX];omega
 |succ i ih=>have:=bt l (gX l i);have:=bt l (nn l (gX l i));simp only[gX];omega
def pC(l:List Int)(m:Nat):Int:=wr (nx l m 81-40)
def oX(l:List Int)(m:Nat):Int×Int:=(pC l m,wr (pC l m+nx l (nn l m) 60))
theorem HH(l:List Int)(m:Nat):-40<=(oX l m).1/\(oX l m).1<=(oX l m).2/\(oX l m).2<=100/\(oX l m).1=nx l m 81-40/\(oX l m).2=nx l m 81-40+nx l (nn l m) 60:=by
 have h1:=aQ l m (k:=81) (by decide) (by decide);have d:=aQ l (nn l m) (k:=60) (by decide) (by decide);have e:pC l m=nx l m 81-40:=aa;have a:wr (pC l m+nx l (nn l m) 60)=pC l m+nx l (nn l m) 60:=aa;have b:(oX l m).1=pC l m:=rfl;have c:(oX l m).2=pC l m+nx l (nn l m) 60:=a;rw[b,c];omega
def fK(l:List Int):Nat:=(1+nx l 0 3).toNat
def eJ(l:List Int):List (Int×Int):=(List.range (fK l)).map λi=>oX l (gX l i)
theorem sd(l:List Int):1<=fK l/\fK l<=3/\(fK l:Int)=1+nx l 0 3:=by
 have h1:=aQ l 0 (k:=3) (by decide) (by decide);unfold fK;omega
theorem lS(l:List Int):(eJ l).length=fK l:=by simp[eJ]
theorem zM{l:List Int}{x:Int×Int}(h:x∈eJ l):-40<=x.1/\x.1<=x.2/\x.2<=100:=by
 simp only[eJ,Ur]at h;obtain⟨i,_,rfl⟩:=h;have:=HH l (gX l i);exact⟨this.1,this.2.1,this.2.2.1⟩
theorem Ea{l:List Int}(h:i<fK l):((eJ l).map aC).take i++[aC (oX l (gX l i))]=((eJ l).map aC).take (i+1):=by
 rw[UN (by simpa[eJ]using h)];simp[eJ]
theorem Bw(l:List Int):dj (eJ l)=true:=by
 have h:=sd l;simp only[dj,lS,An,L4];refine⟨⟨h.1,by omega⟩,gR.2 λx a=>?_⟩;have:=zM a;exact gW.2 ⟨by omega,by omega,by omega⟩
def pM(r:List (Int×Int)):Tr:=if dj r then⟨r,[aD aN]⟩else⟨[],[]⟩
theorem HI(h:dj r=true):dk ⟨r,[aD aN]⟩=some [some r]:=by
 have a:gy ⟨r,[aD aN]⟩=true:=by simp[gy,h]
 rw[dk,T8 a];simp only[kB,UZ,VV,List.replicate,mc];rw[ki (t:=⟨r,[]⟩) (b:=r) rfl (qo _),T8 (show eT (aD aN).v=true from Gg)]
theorem Li(h:dj r=false):dk ⟨r,[aD aN]⟩=none:=by
 have a:gy ⟨r,[aD aN]⟩=false:=by simp[gy,h]
 rw[dk,TQ (by simp[a])]
theorem lA(r:List (Int×Int)):aO ⟨r,[aD aN]⟩=dj r:=by
 cases h:dj r with
 |true=>rw[aO,HI h];rfl
 |false=>rw[aO,Li h];rfl
def AI(t:Tr)(l:List Int)(m:Nat):Nat:=(bh t)[(nx l m (bh t).length).toNat]?.getD 0
def DE(t:Tr)(l:List Int)(m:Nat):Int:=nx l (nn l m) t.root.length
def dq(a:Tr)(l:List Int):Nat->Tr×Nat
 |0=>(a,0)
 |k+1=>(cL (dq a l k).1 (AI (dq a l k).1 l (dq a l k).2) (DE (dq a l k).1 l (dq a l k).2),nn l (nn l (dq a l k).2))
def ii(a:Tr)(m0:Nat)(all:List Nat)(l:List Int):Nat->Tr×Nat
 |0=>(a,m0)
 |k+1=>(bP (ii a m0 all l k).1 ((all[k]?.getD 0:Nat):Int) (lz (nx l (ii a m0 all l k).2 5)),nn l (ii a m0 all l k).2)
def mP(t:Tr)(l:List Int)(times:Nat):Tr:=(ii (dq t l times).1 (dq t l times).2 (bh (dq t l times).1) l (bh (dq t l times).1).length).1
def kP(l:List Int):Int:=nx l (gX l (fK l)) 14
def lB(l:List Int):Tr:=mP ⟨eJ l,[aD aN]⟩ l (kP l).toNat
theorem AJ{a:Tr}(l:List Int)(h:aO a=true)(k:Nat):aO (dq a l k).1=true/\(dq a l k).1.root=a.root/\(dq a l k).1.cells.length<=a.cells.length+2*k/\(dq a l k).2<=2*k:=by
 induction k with
 |zero=>exact⟨h,rfl,by simp[dq],by simp[dq]⟩
 |succ k ih=>
  obtain⟨h1,b,c,d⟩:=ih;have:=D9 h1 (AI (dq a l k).1 l (dq a l k).2) (DE (dq a l k).1 l (dq a l k).2);have e:=bt l (dq a l k).2;have f:=bt l (nn l (dq a l k).2);simp only[dq];exact⟨this.1,by rw[this.2.1];exact b,by omega,by omega⟩
theorem AK{a:Tr}(m0:Nat)(all:List Nat)(l:List Int)(h:aO a=true)(k:Nat):aO (ii a m0 all l k).1=true/\(ii a m0 all l k).1.root=a.root/\(ii a m0 all l k).1.cells.length=a.cells.length/\bj (ii a m0 all l k).1=bj a/\(ii a m0 all l k).2<=m0+k:=by
 induction k with
 |zero=>exact⟨h,rfl,rfl,rfl,by simp[ii]⟩
 |succ k ih=>
  obtain⟨h1,b,c,d,h5⟩:=ih;have:=DC h1 ((all[k]?.getD 0:Nat):Int) (lz (nx l (ii a m0 all l k).2 5));have e:=bt l (ii a m0 all l k).2;simp only[ii];exact⟨this.1,by rw[this.2.1];exact b,by rw[this.2.2.1];exact c,by rw[this.2.2.2];exact d,by omega⟩
theorem xA(l:List Int):0<=kP l/\kP l<14:=aQ l _ (by decide) (by decide)
structure MTree(t:Tr):Prop where
 valid:aO t=true
 pos:1<=t.root.length
 three:t.root.length<=3
 rng:∀x∈t.root,-40<=x.1/\x.1<=x.2/\x.2<=100
 cells:t.cells.length<=27
 one:1<=t.cells.length
theorem HJ(l:List Int):MTree (lB l):=by
 have f:aO ⟨eJ l,[aD aN]⟩=true:=by rw[lA];exact Bw l
 have h1:=AJ l f (kP l).toNat;have d:=AK (dq ⟨eJ l,[aD aN]⟩ l (kP l).toNat).2 (bh (dq ⟨eJ l,[aD aN]⟩ l (kP l).toNat).1) l h1.1 (bh (dq ⟨eJ l,[aD aN]⟩ l (kP l).toNat).1).length;have e:=sd l;have i:=xA l
 have a:(lB l).root=eJ l:=by unfold lB mP;rw[d.2.1,h1.2.1]
 have c:(lB l).cells.length<=27:=by
  unfold lB mP;rw[d.2.2.1];have:=h1.2.2.1;simp only[UZ]at this;omega
 have b:aO (lB l)=true:=d.1;refine⟨b,?_,?_,?_,c,(dv.1 (gz b)).1⟩
 .rw[a,lS];exact e.1
 .rw[a,lS];exact e.2.1
 .rw[a];exact λx g=>zM g
def dU(t:Tr)(c:Int):Bx:=(bj t)[c.toNat]?.getD []
theorem mQ(b:aO t=true){c:Int}(h:c.toNat<t.cells.length):(bj t)[c.toNat]?=some (dU t c)/\(dU t c).length=t.root.length/\bT vI (dU t c)=true:=by
 have a:c.toNat<(bj t).length:=by rw[lR b];exact h
 have e:(bj t)[c.toNat]?=some (dU t c):=by simp[dU,an a]
 exact⟨e,Bt e⟩
def DF(t:Tr)(chain:List Int)(j:Nat):Bool:=match chain[j]? with
 |some c=>decide (0<=c)&&decide (c<t.cells.length)&&fT t c.toNat&& !((chain.take j).contains c)&&(decide (j=0)||j0 (dU t (chain[j-1]?.getD 0)) (dU t c))
 |none=>false
theorem Gh{chain:List Int}{c:Int}(a:chain[j]?=some c):DF t chain j=true↔0<=c/\c<t.cells.length/\fT t c.toNat=true/\c∉chain.take j/\(j=0\/j0 (dU t (chain[j-1]?.getD 0)) (dU t c)=true):=by
 simp[DF,a,and_assoc]
structure ChOk(t:Tr)(chain p q:List Int):Prop where
 valid:aO t=true
 hp:Ah t.root p=true
 hq:Ah t.root q=true
 ne:chain≠[]
 all:∀j,j<chain.length->DF t chain j=true
namespace ChOk
variable {t:Tr} {chain p q:List Int}
theorem get(h:ChOk t chain p q)(a:j<chain.length):0<=chain[j]/\chain[j]<t.cells.length/\fT t chain[j].toNat=true/\chain[j]∉chain.take j/\(j=0\/j0 (dU t (chain[j-1]?.getD 0)) (dU t chain[j])=true):=
 (Gh (an a)).1 (h.all j a)
theorem box(h:ChOk t chain p q)(a:j<chain.length):(bj t)[chain[j].toNat]?=some (dU t chain[j])/\(dU t chain[j]).length=t.root.length/\bT vI (dU t chain[j])=true:=by
 have:=h.get a;exact mQ h.valid (by omega)
theorem touch(h:ChOk t chain p q)(a:j+1<chain.length):j0 (dU t chain[j]) (dU t chain[j+1])=true:=by
 have:=(h.get a).2.2.2.2;rcases this with e|e
 .omega
 .rw[Nat.add_sub_cancel,an (by omega)]at e;exact e
end ChOk
structure BS where
 far:List Int
 q:List Nat
section
variable (n:Nat) (may has hasF:Nat->Bool) (tch:Nat->Nat->Bool)
def ay(far:List Int)(i:Nat):Int:=far[i]?.getD 0
def bI:Nat->BS
 |0=>⟨List.replicate n 0,[]⟩
 |i+1=>if may i&&has i then⟨(bI i).far.set i 1,(bI i).q++[i]⟩else bI i
def dy(s:BS)(k:Nat):Nat:=s.q[k]?.getD 0
def HK(s:BS)(k i:Nat):Bool:=(ay s.far i==0)&&may i&&tch i (dy s k)
def rC(s:BS)(k i:Nat):BS:=⟨s.far.set i (ay s.far (dy s k)+1),s.q++[i]⟩
def bJ(s:BS)(k:Nat):Nat->BS
 |0=>s
 |i+1=>if HK may tch (bJ s k i) k i then rC (bJ s k i) k i else bJ s k i
def bK:Nat->BS
 |0=>bI n may has n
 |k+1=>if k<(bK k).q.length then bJ may tch (bK k) k n else bK k
structure BInv2(s:BS):Prop where
 len:s.far.length=n
 cnt:s.far.countP (λx=>x !=0)=s.q.length
 mem:∀j∈s.q,j<n/\1<=ay s.far j
 nn:∀i,0<=ay s.far i
 top:∀i,ay s.far i<=s.q.length
 may':∀i,1<=ay s.far i->may i=true
 back:∀i,1<=ay s.far i->(ay s.far i=1/\has i=true)\/∃p,p<n/\ay s.far p=ay s.far i-1/\1<=ay s.far p/\tch i p=true
variable {n may has hasF tch}
theorem lT(hi:i<far.length):ay (far.set i v) j=if j=i then v else ay far j:=by
 unfold ay;rw[Ub];by_cases h:i=j
 .subst h;simp[hi]
 .rw[TQ h,TQ (λe=>h e.symm)]
theorem BInv2.le{s:BS}(h:BInv2 n may has tch s):s.q.length<=n:=by
 rw[<-h.cnt,<-h.len];exact List.countP_le_length
theorem Lj(hi:i<far.length)(b:ay far i=0)(c:v≠0):(far.set i v).countP (λx=>x !=0)=far.countP (λx=>x !=0)+1:=by
 have a:far[i]=0:=by simpa[ay,an hi]using b
 rw[List.countP_set hi];simp[a,c]
theorem BInv2.put{s:BS}(h:BInv2 n may has tch s)(hi:i<n)(m:ay s.far i=0)(o:1<=v)(r:may i=true)(u:v<=s.q.length+1)
 (f:(v=1/\has i=true)\/∃p,p<n/\ay s.far p=v-1/\1<=ay s.far p/\tch i p=true):BInv2 n may has tch ⟨s.far.set i v,s.q++[i]⟩:=by
 have a:i<s.far.length:=by rw[h.len];exact hi
 refine⟨by simpa using h.len,?_,?_,?_,?_,?_,?_⟩
 .simp only[Um,UZ];rw[Lj a m (by omega),h.cnt]
 .intro j c
  simp only[Ui,UC]at c;simp only[lT a];rcases c with c|rfl
  .refine⟨(h.mem j c).1,?_⟩
   split
   .exact o
   .exact(h.mem j c).2
  .exact⟨hi,by simp[o]⟩
 .intro j;simp only[lT a];split
  .omega
  .exact h.nn j
 .intro j;simp only[lT a,Um,UZ]
  have:=h.top j;split<;>omega
 .intro j;simp only[lT a];split
  .rename_i e;rw[e];exact λ_=>r
  .exact h.may' j
 .have b:∀p,1<=ay s.far p->p≠i:=λp hp e=>by rw[e,m]at hp;omega
  intro j;simp only[lT a];split
  .rename_i e;rw[e];intro _
   rcases f with f|⟨p,g,k,d,l⟩
   .exact .inl f
   .exact .inr ⟨p,g,by rw[TQ (b p d)];exact k,by rw[TQ (b p d)];exact d,l⟩
  .intro c
   rcases h.back j c with f|⟨p,g,k,d,l⟩
   .exact .inl f
   .exact .inr ⟨p,g,by rw[TQ (b p d)];exact k,by rw[TQ (b p d)];exact d,l⟩
theorem vU:∀i,i<=n->BInv2 n may has tch (bI n may has i)/\∀j,i<=j->ay (bI n may has i).far j=0
 |0,_=>by
  have b:∀j,ay (List.replicate n (0:Int)) j=0:=λj=>by simp only[ay,Uv];split<;>rfl
  refine⟨⟨by simp[bI],by simp[bI,List.countP_replicate],by simp[bI],λj=>by simp only[bI,b];omega,λj=>by simp only[bI,b];simp,λj a=>by simp only[bI,b]at a;omega,λj a=>by simp only[bI,b]at a;omega⟩,λj _=>by simp only[bI,b]⟩
 |i+1,hi=>by
  obtain⟨ih,d⟩:=vU i (by omega);simp only[bI];split
  .rename_i c
   simp only[An]at c;refine⟨ih.put (by omega) (d i (Ua _)) (by omega) c.1 (by omega) (.inl ⟨rfl,c.2⟩),λj a=>?_⟩;simp only[lT (show i<(bI n may has i).far.length by rw[ih.len];omega)];rw[TQ (by omega)];exact d j (by omega)
  .exact⟨ih,λj a=>d j (by omega)⟩
theorem DG{s:BS}{k:Nat}(c:BInv2 n may has tch s)(e:k<s.q.length):∀i,i<=n->BInv2 n may has tch (bJ may tch s k i)/\s.q.length<=(bJ may tch s k i).q.length/\dy (bJ may tch s k i) k=dy s k
 |0,_=>⟨c,Ua _,rfl⟩
 |i+1,hi=>by
  obtain⟨ih,f,d⟩:=DG c e i (by omega);simp only[bJ];split
  .rename_i b
   simp only[HK,An,US]at b
   have a:dy (bJ may tch s k i) k∈(bJ may tch s k i).q:=by
    unfold dy;rw[an (by omega:k<(bJ may tch s k i).q.length)];exact Uo _
   have hq:=ih.mem _ a;refine⟨ih.put (by omega) b.1.1 (by omega) b.1.2 (by have:=ih.top (dy (bJ may tch s k i) k);omega) (.inr ⟨_,hq.1,by omega,hq.2,b.2⟩),by simp only[rC,Um,UZ];omega,?_⟩;rw[<-d];simp only[rC,dy];rw[T4 (by omega)]
  .exact⟨ih,f,d⟩
theorem td:∀k,BInv2 n may has tch (bK n may has tch k)
 |0=>(vU n (Ua _)).1
 |k+1=>by
  have ih:=td k;simp only[bK];split
  .rename_i a
   exact(DG ih a n (Ua _)).1
  .exact ih
def aS(far:List Int)(hasF:Nat->Bool):Nat->Int
 |0=>-1
 |i+1=>if decide (0<ay far i)&&hasF i&&(decide (aS far hasF i<0)||decide (ay far i<ay far (aS far hasF i).toNat))then(i:Int)else aS far hasF i
theorem zO{far:List Int}:∀i,-1<=aS far hasF i/\aS far hasF i<i/\(0<=aS far hasF i->0<ay far (aS far hasF i).toNat/\hasF (aS far hasF i).toNat=true)
 |0=>by simp[aS]
 |i+1=>by
  have ih:=zO (far:=far) i;simp only[aS];split
  .rename_i a
   simp only[An,L4]at a;refine⟨by omega,by omega,λ_=>?_⟩;rw[Uk];exact⟨a.1.1,a.1.2⟩
  .exact⟨ih.1,by omega,ih.2.2⟩
def nC(far:List Int)(tch:Nat->Nat->Bool)(at_ i:Nat):Bool:=(ay far i==ay far at_-1)&&tch i at_
def nS(n:Nat)(far:List Int)(tch:Nat->Nat->Bool)(at_:Nat):Nat->Int
 |0=>-1
 |m+1=>if nC far tch at_ (n-1-m)then((n-1-m:Nat):Int)else nS n far tch at_ m
theorem DH{far:List Int}{at_:Nat}:∀m,m<=n->(0<=nS n far tch at_ m->(nS n far tch at_ m).toNat<n/\nC far tch at_ (nS n far tch at_ m).toNat=true)/\(∀i,i<n->n-m<=i->nC far tch at_ i=true->0<=nS n far tch at_ m)/\-1<=nS n far tch at_ m
 |0,_=>by simp[nS];omega
 |m+1,d=>by
  have ih:=DH (far:=far) (at_:=at_) m (by omega);simp only[nS];split
  .rename_i b
   refine⟨λ_=>?_,λ_ _ _ _=>by omega,by omega⟩;rw[Uk];exact⟨by omega,b⟩
  .rename_i b
   refine⟨ih.1,λi h1 c a=>?_,ih.2.2⟩;by_cases e:i=n-1-m
   .rw[e]at a;exact absurd a b
   .exact ih.2.1 i h1 (by omega) a
def DI(n:Nat)(far:List Int)(tch:Nat->Nat->Bool)(at_:Nat):Nat:=(nS n far tch at_ n).toNat
theorem DJ{s:BS}(h:BInv2 n may has tch s)(b:∀i j,i<n->j<n->tch i j=tch j i){a:Nat}(k:a<n)(o:1<ay s.far a):nS n s.far tch a n=(DI n s.far tch a:Int)/\DI n s.far tch a<n/\ay s.far (DI n s.far tch a)=ay s.far a-1/\tch (DI n s.far tch a) a=true:=by
 have d:=DH (n:=n) (tch:=tch) (far:=s.far) (at_:=a) n (Ua _);rcases h.back a (by omega)with⟨e,_⟩|⟨p,f,l,q,m⟩
 .omega
 .have hp:nC s.far tch a p=true:=by
   simp only[nC,l,beq_self_eq_true,Uq];rw[b p a f k];exact m
  have g:=d.2.1 p f (by omega) hp;obtain⟨h1,c⟩:=d.1 g;simp only[nC,An,US]at c;exact⟨by unfold DI;omega,h1,c.1,c.2⟩
def pS(n:Nat)(far:List Int)(tch:Nat->Nat->Bool)(a:Nat):Nat->Nat
 |0=>a
 |r+1=>DI n far tch (pS n far tch a r)
theorem zQ{s:BS}(h:BInv2 n may has tch s)(b:∀i j,i<n->j<n->tch i j=tch j i){a:Nat}(c:a<n)(d:0<ay s.far a):∀r:Nat,(r:Int)<ay s.far a->pS n s.far tch a r<n/\ay s.far (pS n s.far tch a r)=ay s.far a-r
 |0,_=>⟨c,by simp[pS]⟩
 |r+1,g=>by
  obtain⟨e,f⟩:=zQ h b c d r (by omega);have:=DJ h b e (by omega);simp only[pS];exact⟨this.2.1,by rw[this.2.2.1,f];omega⟩
theorem Jy{s:BS}(h:BInv2 n may has tch s)(b:∀i j,i<n->j<n->tch i j=tch j i){a:Nat}(d:a<n)(c:0<ay s.far a){r:Nat}(f:(r:Int)+1<ay s.far a):tch (pS n s.far tch a (r+1)) (pS n s.far tch a r)=true:=by
 obtain⟨e,g⟩:=zQ h b d c r (by omega);exact(DJ h b e (by omega)).2.2.2
end
def wP(n:Nat)(may has hasF:Nat->Bool)(tch:Nat->Nat->Bool):Int:=aS (bK n may has tch n).far hasF n
def fq(n:Nat)(may has hasF:Nat->Bool)(tch:Nat->Nat->Bool):Bool:=decide (0<=wP n may has hasF tch)
def iS(n:Nat)(may has hasF:Nat->Bool)(tch:Nat->Nat->Bool):List Nat:=if fq n may has hasF tch then(List.range (ay (bK n may has tch n).far (wP n may has hasF tch).toNat).toNat).map (pS n (bK n may has tch n).far tch (wP n may has hasF tch).toNat)else[]
theorem Gi{may has hasF:Nat->Bool}{tch:Nat->Nat->Bool}(c:∀i j,i<n->j<n->tch i j=tch j i)(h:fq n may has hasF tch=true):
 let l:=iS n may has hasF tch
 0<l.length/\l.length<=n/\(∀(r:Nat) x,l[r]?=some x->x<n/\may x=true/\x∉l.take r)/\(∀(r:Nat) x y,l[r]?=some x->l[r+1]?=some y->tch x y=true)/\
  (∀x,l[0]?=some x->hasF x=true)/\(∀x,l[l.length-1]?=some x->has x=true):=by
 simp only[fq,L4]at h;have f:=td (n:=n) (may:=may) (has:=has) (tch:=tch) n;have A:=zO (hasF:=hasF) (far:=(bK n may has tch n).far) n
 have v:decide (0<=wP n may has hasF tch)=true:=by simpa using h
 simp only[iS,fq,v,Ul];unfold wP at h|-;obtain⟨G,H,a3⟩:=A;obtain⟨a4,u⟩:=a3 h;generalize I:(aS (bK n may has tch n).far hasF n).toNat=a at *
 have m:a<n:=by omega
 have o:=f.top a;have C:=f.le;generalize bK n may has tch n=s at *;have hp:=zQ f c m a4;have F:=λ{r:Nat}=>Jy (r:=r) f c m a4
 have b:∀(r:Nat) x,((List.range (ay s.far a).toNat).map (pS n s.far tch a))[r]?=some x->(r:Int)<ay s.far a/\x=pS n s.far tch a r:=by
  intro r x d;rw[TR,No]at d;obtain⟨y,g,rfl⟩:=d;obtain⟨h1,e⟩:=th.1 g;simp at h1 e;exact⟨by omega,by rw[e]⟩
 refine⟨by simp;omega,by simp;omega,?_,?_,?_,?_⟩
 .intro r x d
  obtain⟨h1,rfl⟩:=b r x d;obtain⟨e,k⟩:=hp r h1;refine⟨e,f.may' _ (by omega),λD=>?_⟩;obtain⟨q,hq⟩:=UB D;rw[Uu]at hq;split at hq
  .rename_i E
   obtain⟨z,h5⟩:=b q _ hq;have:=(hp q z).2;rw[<-h5,k]at this;omega
  .cases hq
 .intro r x y d g
  obtain⟨h1,rfl⟩:=b r x d;obtain⟨e,rfl⟩:=b (r+1) y g;rw[c _ _ (hp r h1).1 (hp (r+1) e).1];exact F (by omega)
 .intro x d
  obtain⟨h1,rfl⟩:=b 0 x d;exact u
 .intro x d
  obtain⟨h1,rfl⟩:=b _ x d;simp only[Ux,List.length_range]at h1 d|-;obtain⟨e,k⟩:=hp _ h1;rcases f.back _ (show 1<=ay s.far (pS n s.far tch a ((ay s.far a).toNat-1)) by omega)with B|⟨p,J,K,L,M⟩
  .exact B.2
  .omega
set_option maxRecDepth 100000 in
@[simp] theorem RX:ew prog 111:=by
 have hf:=func111;have nt:=ntmps111;have rs:=results111;exact GQ
set_option maxRecDepth 100000 in
@[simp] theorem RY:ew prog 213:=by
 have hf:=func213;have nt:=ntmps213;have rs:=results213;exact GQ
set_option maxRecDepth 100000 in
@[simp] theorem RZ:ew prog 138:=by
 have hf:=func138;have nt:=ntmps138;have rs:=results138;exact xg
set_option maxRecDepth 100000 in
@[simp] theorem R0:ew prog 166:=by
 have hf:=func166;have nt:=ntmps166;have rs:=results166;exact xg
set_option maxRecDepth 100000 in
@[simp] theorem R3:ew prog 181:=by
 have hf:=func181;have nt:=ntmps181;have rs:=results181;exact xg
set_option maxRecDepth 100000 in
@[simp] theorem R4:ew prog 170:=by
 have hf:=func170;have nt:=ntmps170;have rs:=results170;exact xg
theorem Dv(h:1<=t.cells.length):(List.replicate t.cells.length (PV.val (.slice none 0 0))).set 0 (iv t.root)=(kB t).map rA:=by
 obtain⟨n,hn⟩:∃n,t.cells.length=n+1:=⟨t.cells.length-1,by omega⟩;simp[kB,hn,List.replicate_succ,rA]
theorem eg:rA none=.val (.slice none 0 0):=rfl
theorem eh(b:Bx):rA (some b)=iv b:=rfl
theorem dx{L:List α}{x:α}(h:L[i]?=some x)(a:i<L.length):L[i]=x:=(th.1 h).2
theorem set_row{a z:Nat}{x y:Bx}:((L.map rA).set a (iv x)).set z (iv y)=((L.set a (some x)).set z (some y)).map rA:=by
 simp[Vy,rA]
theorem xx(h:kF n i c=false):c.low<=i\/(n:Int)<=c.low\/c.high<=i\/(n:Int)<=c.high\/(c.low==c.high)=true\/n5 c.v=false:=by
 cases a:n5 c.v with
 |false=>exact .inr (.inr (.inr (.inr (.inr rfl))))
 |true=>
  have:¬((i:Int)<c.low/\c.low<n/\(i:Int)<c.high/\c.high<n/\c.low≠c.high/\n5 c.v=true):=by rw[<-jJ,h];simp
  simp only[a,and_true]at this;simp only[US];omega
theorem Jq(t:Tr)(hl:t.cells.length<=9223372036854775807):aR 112 (bZ t) (.tup [.sl ((bj t).map iv),B (aO t)]):=by
 have cv:=RW t.root
 cases Q:gy t with
 |false=>
  have X:=r7 (t:=t) (by simp[dk,Q]);rw[X.1,X.2];by_cases h1:t.cells.length<1
  .have J:(t.cells.length:Int)<1:=by omega
   refine Dp func112 λC hP hN=>?_;exact Gy
  have J:¬(t.cells.length:Int)<1:=by omega
  by_cases h2:2048<t.cells.length
  .have K:(2048:Int)<t.cells.length:=by omega
   refine Dp func112 λC hP hN=>?_;exact Gy
  have K:¬(2048:Int)<t.cells.length:=by omega
  have h3:dj t.root=false:=by
   cases h:dj t.root with
   |false=>rfl
   |true=>simp[gy,h]at Q;omega
  rw[h3]at cv;refine Dp func112 λC hP hN=>?_;exact Gy
 |true=>
  obtain⟨z1,z2,z3,z4,z5⟩:=dv.1 Q
  have h1:¬t.cells.length<1:=by omega
  have h2:¬2048<t.cells.length:=by omega
  have J:¬(t.cells.length:Int)<1:=by omega
  have K:¬(2048:Int)<t.cells.length:=by omega
  have h3:dj t.root=true:=by simp only[gy,An]at Q;exact Q.2
  have V:=Dv z1;rw[h3]at cv;refine Dp func112 λC hP hN=>?_;refine GT (s5 J h1 h2 K V (show(24:Int)*t.cells.length<=281474976710656 by omega) (show(t.cells.length:Int)<=9223372036854775807 by omega) (show 0<t.cells.length by omega)) ?_;refine WP.loopN [7] t.cells.length (λi st=>∃L,BInv t i L/\st.t 4=.pv (Z t.cells.length)/\st.t 5=.arr 27 t.cells.length/\st.t 33=.pv (.sl (t.cells.map br))/\st.t 34=.pv (Z t.cells.length)/\st.t 35=.pv (Z i)/\st.h 7=none/\st.h 27=some (.row 30 1 (L.map rA) 0)) (by exact⟨kB t,Bq Q,by simp[V]⟩) ?_;rintro i st hi ⟨L,G,g4,g5,g,j,k,m,e⟩;have l:=G.bok.len;by_cases a:i<t.cells.length
  .have H:=aj a hl
   have O:i<L.length:=by omega
   generalize y:t.cells[i]=c at *
   have q:t.cells[i]?=some c:=by rw[an a,y]
   have u:gx t.cells.length i c L=none->aO t=false/\bj t=[]:=λh=>r7 (Br G a (by rw[y];exact h));have cl:=Dx c;have cf:=Ju c.v;have S:=RT c.v
   cases f:L[i]? with
   |none=>rw[an O]at f;cases f
   |some x=>
   cases x with
   |none=>
    have o:=dx f O;obtain⟨z,A⟩:=u (by simp[gx,f]);rw[z,A];exact GS (zAa g4 g5 g j k m e a H f o @eg @eh q (gA y l))
   |some b=>
   have o:=dx f O;obtain⟨T,ar⟩:=G.bok.ok i b f
   have p:b≠[]:=by intro h;rw[h]at T;simp at T;omega
   have r:b.isEmpty=false:=by simp[p]
   cases n:dY c with
   |true=>
    rw[n]at cl
    cases hf:eT c.v with
    |true=>
     rw[hf]at cf;have P:=r5 (L':=L) G a (by rw[y,ki (t:=t) f n,hf];rfl);refine GT (zAa g4 g5 g j k m e a H f o @eg @eh q (f7 y l r p)) ?_
     all_goals exact⟨L,P,rfl⟩
    |false=>
     rw[hf]at cf;obtain⟨z,A⟩:=u (by rw[ki (t:=t) f n,hf];rfl);rw[z,A];exact GS (zAa g4 g5 g j k m e a H f o @eg @eh q (f7 y l r p))
   |false=>
    rw[n]at cl
    cases s:kF t.cells.length i c with
    |false=>
     obtain⟨z,A⟩:=u (ly f n (.inl s));rw[z,A];rcases xx s with h|h|h|h|h|h
     all_goals try rw[h]at S
     all_goals
      exact GS (zAa g4 g5 g j k m e a H f o @eg @eh q (go y l r p h))
    |true=>
     obtain⟨i1,i2,i3,i4,i5,i6⟩:=jJ.1 s;rw[i6]at S;have R:=Ii b c.joint (by omega)
     have j1:¬c.low<=i:=by omega
     have j2:¬(t.cells.length:Int)<=c.low:=by omega
     have j3:¬c.high<=i:=by omega
     have j4:¬(t.cells.length:Int)<=c.high:=by omega
     have k1:c.low.toNat<t.cells.length:=by omega
     have k2:c.high.toNat<t.cells.length:=by omega
     have k3:0<=c.low:=by omega
     have k4:0<=c.high:=by omega
     have k5:c.low.toNat<L.length:=by omega
     have k6:c.high.toNat<L.length:=by omega
     cases hh:bL b c.joint with
     |false=>
      obtain⟨z,A⟩:=u (ly f n (.inr (.inl hh)));rw[z,A];rw[hh]at R;exact GS (zAa g4 g5 g j k m e a H f o @eg @eh q (s5 y l r p j1 j2 j3 (gA j4 i5)))
     |true=>
     rw[hh]at R
     cases F:L[c.low.toNat]? with
     |none=>rw[an k5]at F;cases F
     |some xa=>
     have M:=dx F k5
     cases xa with
     |some d=>
      obtain⟨z,A⟩:=u (ly f n (.inr (.inr (.inl ⟨d,F⟩))));rw[z,A];obtain⟨E,_⟩:=G.bok.ok _ d F
      have D:d≠[]:=by intro h;rw[h]at E;simp at E;omega
      have N:d.isEmpty=false:=by simp[D]
      with_reducible repeat' (first|refine Sp.h ?_|((first|refine Wd ?_|refine Ss.h ?_|refine Sc.h (cl) ?_|refine Sc.h (S) ?_|refine Sc.h (R) ?_|(refine Sb.h ?_ ?_ ?_<;>(try intro hgd)<;>try exact Xy))<;>simp -implicitDefEqProofs (maxSteps:=2000000) [hP,hN,g4,g5,g,j,k,m,e,a,H,f,o,eg,eh,q,y,l,r,p,j1,j2,j3,j4,i5,k1,k2,k3,k4,F,M,N,D]<;>try refine Ya ?_)|refine X2 ?_ ?_|(refine Xd ?_ ?_<;>intro hcd<;>try exact Xx))
     |none=>
     cases I:L[c.high.toNat]? with
     |none=>rw[an k6]at I;cases I
     |some xz=>
     have ad:=dx I k6
     cases xz with
     |some d=>
      obtain⟨z,A⟩:=u (ly f n (.inr (.inr (.inr ⟨d,I⟩))));rw[z,A];obtain⟨E,_⟩:=G.bok.ok _ d I
      have D:d≠[]:=by intro h;rw[h]at E;simp at E;omega
      have N:d.isEmpty=false:=by simp[D]
      with_reducible repeat' (first|refine Sp.h ?_|((first|refine Wd ?_|refine Ss.h ?_|refine Sc.h (cl) ?_|refine Sc.h (S) ?_|refine Sc.h (R) ?_|(refine Sb.h ?_ ?_ ?_<;>(try intro hgd)<;>try exact Xy))<;>simp -implicitDefEqProofs (maxSteps:=2000000) [hP,hN,g4,g5,g,j,k,m,e,a,H,f,o,eg,eh,q,y,l,r,p,j1,j2,j3,j4,i5,k1,k2,k3,k4,F,M,I,ad,N,D]<;>try refine Ya ?_)|refine X2 ?_ ?_|(refine Xd ?_ ?_<;>intro hcd<;>try exact Xx))
     |none=>
      have P:=r5 G a (by rw[y];exact qm f n s hh F I)
      with_reducible repeat' (first|refine Sp.h ?_|((first|refine Wd ?_|refine Ss.h ?_|refine Sc.h (cl) ?_|refine Sc.h (S) ?_|refine Sc.h (R) ?_|(refine Sb.h ?_ ?_ ?_<;>(try intro hgd)<;>try exact Xy))<;>simp -implicitDefEqProofs (maxSteps:=2000000) [hP,hN,g4,g5,g,j,k,m,e,a,H,f,o,eg,eh,q,y,l,r,p,j1,j2,j3,j4,i5,k1,k2,k3,k4,F,M,I,ad]<;>try refine Ya ?_)|refine X2 ?_ ?_|(refine Xd ?_ ?_<;>intro hcd<;>try exact Xx))
      all_goals exact⟨_,P,set_row⟩
  .have U:=Bs G a
   have W:=DA U
   have Y:aO t=true:=by simp[aO,U]
   rw[Y,<-W];exact GS (s5 g4 g5 g j k m e (gA a l))
end Go.Ab
