/- The contracts and facts that the laws of this seat need, in one text (AbC, Ab27, Ab37, Ab38, Ab39, M15, M16, Vm2, AbQ, Vm3, Vm4, Cr1, Cr2, Ab32, Ab33, Cr3, Cr4, AbW, TrA, KV, K1, K2, K2b, K3, K4, K5, K5b, K6, K7). -/
import Derived.Test.YtfpagjchfipjkaaGreatU7
import Derived.TacticsIn
import Derived.RangeFuncRecord
import Derived.RangeFuncLeaves
import Derived.RangeFuncCalls
import Derived.RangeFuncSeq
import Derived.RecoverIn
set_option linter.all false
set_option maxRecDepth 10000
set_option maxHeartbeats 16000000
namespace Go.Ab
open IntKind (i64)
open Go.Proofs.Tryz
variable {C:Cx}{F:Fence}{M:Nat->Nat->Prop}{N i id l n p:Nat}{P:Program}{Post:AV->Hp->Prop}{Q:Exit->St->Prop}{a:Act}{assign body c x y:Code}{ats:Array TypeId}{caps:List PV}{f gop:Operand}{fn:Func}{gf:FuncId}{hn kd ts:List Nat}{lb:List Value}{next:Act->World->Prop}{o:Oper}{ob:Obj}{ops:Array Oper}{res:RV}{st:St}{t:Nat->AV}{w w':World}
def rq(ops:Array Oper):Bool:=ops.toList.all λo=>match o.op with|.defer _=>false|_=>true
theorem nU(h:rq ops=true)(b:o∈ops.toList):∀c,o.op≠.defer c:=by
 intro c a;have:=L4.1 h o b;rw[a]at this;cases this
structure Wide(F:Fence):Prop where
 fn:∀f,F.fn f
 depth:F.depth=none
 calls:∀{n:Nat}{P:Program}{f:FuncId}{args:Array Value}{w:World}{R:Ending->World->Prop},Calls P f args w R->CallsIn F n P f args w R
 rows:∀{n:Nat}{P:Program}{row:String}{args:Array Value}{w:World}{R:Value->World->Prop},Rows P row args w R->RowsIn F n P row args w R
theorem iw:Wide Fence.wide:=⟨λ_=>trivial,rfl,λh=>callsIn_wide.2 h,λh c a _=>let⟨v,w',r,s⟩:=h c a;⟨v,w',r,stepsIn_wide.2 s⟩⟩
theorem Ig(l:Nat):Wide (Fence.wide.inRound l):=⟨λ_=>trivial,rfl,λh=>(callsIn_wide.2 h).inRound l,λh=>iw.rows h⟩
theorem GZ(hF:Wide F)(hd:∀c,o.op≠.defer c){Q:Exit->Act->World->Prop}
 (h:o.wp P a w next Q):o.wpIn F n P a w next Q:=by
 refine⟨λf _=>hF.fn f,?_⟩;rw[Oper.semAt_eq _ _ _ hd];unfold Oper.wp at h
 cases e:(execOp a.eval o).run P w with
 |ok nx w'=>
  rw[e]at h
  cases nx with
  |value v=>exact h
  |skip=>exact h
  |defer d=>exact h
  |enter f args=>exact⟨λb=>(by rw[hF.depth]at b;cases b),hF.calls h⟩
  |row r args=>exact⟨λb=>(by rw[hF.depth]at b;cases b),hF.rows h⟩
  |_=>exact h.elim
 |halt k w'=>
  rw[e]at h
  cases k with
  |panic v=>exact h
  |_=>exact h.elim
def gk(C:Cx)(L:Nat->Loc)(st:St)(a:Act)(w:World):Prop:=
 MemL C L st.h w/\a.tmps.size=C.N/\∀n,RepA w (ae C L st.h) L st.h (st.t n) (a.tmps.getD n undef)
theorem gk.put{L:Nat->Loc}(hs:gk C L st a w){d:Option Nat}(hd:dI C.N d=true){v:AV}{W:List (Nat×Blk)}{u:Value}{L':Nat->Loc}
 (c:aH C L st.h w L' (ai st.h W) w')(g:RepA w' (ae C L' (ai st.h W)) L' (ai st.h W) v u):gk C L' (st.put d v W) (a.put d u) w':=by
 obtain⟨i,hN,f⟩:=hs;refine⟨c.1,?_,λn=>?_⟩
 .cases d<;>simp[Act.put,hN]
 .have b:=(f n).mono c.2.1 c.2.2
  cases d with
  |none=>exact b
  |some d=>
   have e:d<a.tmps.size:=by rw[hN];simp only[dI,up,Is]at hd;exact hd.1
   rw[gW e];simp only[St.put,av];split
   .exact g
   .exact b
theorem Ih(st:St)(d:Option Nat)(v:AV)(W:List (Nat×Blk)):(st.put d v W).h=ai st.h W:=by cases d<;>rfl
theorem lA(a:Act)(d:Option Nat)(u:Value):(a.put d u).defers=a.defers:=by cases d<;>rfl
theorem EH{L:Nat->Loc}(hs:gk C L st a w)(v:∀c,o.op≠.defer c)(hd:dI C.N o.dst=true){K:bG->Prop}(e:wD C.P hn o st.ev st.h K){Q:Exit->Act->World->Prop}
 (j:∀f r w' p,K f->gk C p (st.put o.dst f.1 f.2) r w'->aH C L st.h w p (st.put o.dst f.1 f.2).h w'->r.defers=a.defers->next r w'):o.wp C.P a w next Q:=by
 have z:=hs;obtain⟨q,hN,A⟩:=z
 have i:tZ C.P hn o st.ev st.h K->o.wp C.P a w next Q:=λe=>
  Eu q (λ_ _ h=>h) (λd s=>⟨rfl,by rw[s]at hd;simp only[dI,up,Is]at hd;exact hd.2⟩) (λx _=>bE A x) e (λf u w' p O D R=>j f _ _ p O (hs.put hd D R) (by rw[Ih];exact D) (lA _ _ _))
 unfold wD at e;split at e
 .rename_i c k
  exact absurd k (v c)
 .rename_i op t x y t' k
  split at e
  .rename_i E
   simp only[up,ZX,ZW]at E;obtain⟨⟨⟨c1,G⟩,H⟩,l⟩:=E;have T:=zI c1 (bE A y);obtain⟨B,n,c,S⟩:=vW q (bE A x) H
   obtain⟨b,M⟩:∃b:Bool,(op=.eql/\b=B.isNone)\/(op=.neq/\b=!B.isNone):=by
    rcases l with l|l
    .exact⟨_,.inl ⟨l,rfl⟩⟩
    .exact⟨_,.inr ⟨l,rfl⟩⟩
   have m:(execOp a.eval o).run C.P w=.ok (.value (.bool b)) w:=by
    obtain⟨I,U,V,pos,F,g⟩:=o;simp only at k;subst k;exact eZ (BR (rD G) S T M) w
   have J:K (.pv (.val (.bool b)),[]):=by cases b with
    |true=>exact e.1
    |false=>exact e.2
   unfold Oper.wp;rw[m];exact j _ _ _ L J (hs.put hd (W:=[]) (aH.refl q) (.pv (.val _))) (by rw[Ih];exact aH.refl q) (lA _ _ _)
  .exact i e
 .exact i e
theorem im{F:Fence}(hF:Wide F){n:Nat}{C:Cx}{hn:List Nat}{ops:Array Oper}{Q:St->Prop}{Q':Exit->Act->World->Prop}{E:Nat->Loc}{G:Hp}{w0:World}{ds:List Deferred}
 (u:∀st L a w,gk C L st a w->aH C E G w0 L st.h w->a.defers=ds->Q st->Q' .normal a w):
 ∀{l:List Oper}{st:St}{L:Nat->Loc}{a:Act}{w:World},(∀o∈l,∀c,o.op≠.defer c)->gk C L st a w->aH C E G w0 L st.h w->a.defers=ds->bZ C.P hn C.N ops Q l st->wpListIn F n C.P ops Q' l a w
 |[],st,L,a,w,_,q,r,g,e=>u st L a w q r g e
 |o::l,st,L,a,w,s,q,r,g,e=>by
  have B:=q;obtain⟨K,hN,H⟩:=B;simp only[bZ]at e;obtain⟨hd,e⟩:=e;have i:∀D∈l,∀c,D.op≠.defer c:=λD A=>s D (yBe _ A);have v:=s o List.mem_cons_self;unfold wpListIn;split at e
  .rename_i y
   rw[dB H (pM y),Zd rfl];exact GZ hF v (EH q v hd e (λx J w' I z j k m=>im hF u i j (r.trans k) (m.trans g) z))
  .rename_i d b want y
   rw[dB H (me y)];unfold y7 at e;simp only at e;split at e
   .rename_i p
    subst p;rw[Zd (by simp)];exact GZ hF v (EH q v hd e (λx J w' I z j k m=>im hF u i j (r.trans k) (m.trans g) z))
   .rename_i p
    rw[Y6 (by simpa using p)];exact⟨λf _=>hF.fn f,im hF u i (q.put hd (W:=[]) (aH.refl K) (.pv (.val _))) (by rw[Ih];exact r) ((lA _ _ _).trans g) e⟩
  .exact e.elim
def bh(F:Fence)(C:Cx)(c:Code)(Q:Exit->St->Prop)(st:St):Prop:=
 ∀n L a w,gk C L st a w->c.wpIn F n C.P (λe f w'=>∃b d,gk C d b f w'/\aH C L st.h w d b.h w'/\f.defers=a.defers/\Q e b) a w
section
variable {F:Fence} {C:Cx} {Q:Exit->St->Prop} {st:St}
theorem bh.region(hF:Wide F)(a:rq ops=true)(h:bZ C.P hn C.N ops (Q .normal) ops.toList st):bh F C (.region id ops false) Q st:=
 λ_ _ _ _ d=>wpIn_region_list (im hF (λc e _ _ b f hd hq=>⟨c,e,b,f,hd,hq⟩) (λ_ g=>nU a g) d (aH.refl d.1) rfl h)
def DT(F:Fence)(C:Cx)(y:Code)(Q:Exit->St->Prop):Exit->St->Prop
 |.normal,st=>bh F C y Q st
 |e,st=>Q e st
theorem bh.seq(h:bh F C x (DT F C y Q) st):bh F C (.seq x y) Q st:=by
 intro n L a w p;refine wpIn_seq (wpIn_mono (h n L a w p) ?_);rintro e o w' ⟨i,k,b,l,hd,hq⟩
 cases e with
 |normal=>exact wpIn_mono (hq n k o w' b) (λe a2 w2 ⟨j,m,g,c,d,f⟩=>⟨j,m,g,l.trans c,d.trans hd,f⟩)
 |_=>exact⟨i,k,b,l,hd,hq⟩
theorem bh.skip(h:Q .normal st):bh F C .skip Q st:=λ_ L _ _ a=>wpIn_skip ⟨st,L,a,aH.refl a.1,rfl,h⟩
theorem bh.ret(h:Q .ret st):bh F C .ret Q st:=λ_ L _ _ a=>wpIn_ret ⟨st,L,a,aH.refl a.1,rfl,h⟩
theorem bh.exit(h:Q (.exit id) st):bh F C (.exit id) Q st:=λ_ L _ _ a=>wpIn_exit ⟨st,L,a,aH.refl a.1,rfl,h⟩
theorem bh.cond{c:Operand}{b:Bool}(g:st.ev c=.pv (.val (.bool b)))(j:b=true->bh F C x Q st)(hf:b=false->bh F C y Q st):bh F C (.cond c x y) Q st:=by
 intro n L a w f
 have d:a.eval c=.bool b:=by
  have:=bE f.2.2 c;rw[g]at this
  cases this with
  |pv i=>exact aK i
 exact wpIn_cond_split d (λe=>j e n L a w f) (λe=>hf e n L a w f)
theorem bh.block(h:bh F C c (nM id Q) st):bh F C (.block id c) Q st:=by
 intro n L a w j;refine wpIn_block (wpIn_mono (h n L a w j) ?_);rintro e k w' ⟨d,f,b,g,hd,hq⟩
 cases e with
 |exit i=>
  simp only[nM,Exit.inBlock]at hq|-;split
  .rename_i e;rw[Zd e]at hq;exact⟨d,f,b,g,hd,hq⟩
  .rename_i e;rw[Y6 e]at hq;exact⟨d,f,b,g,hd,hq⟩
 |_=>exact⟨d,f,b,g,hd,hq⟩
theorem bh.mono{Q':Exit->St->Prop}(h:bh F C c Q st)(hq:∀e st,Q e st->Q' e st):bh F C c Q' st:=
 λn L a w j=>wpIn_mono (h n L a w j) (λe _ _ ⟨b,g,f,i,hd,d⟩=>⟨b,g,f,i,hd,hq e b d⟩)
end
theorem N8{b o:Nat}{v:Value}(d:w.heap[l]?=some ob)(c:ob.isCells=false)(h:w.cell? ⟨b,o,none⟩=some v):b≠l:=by
 intro e;subst e;obtain⟨f,h1,a⟩:=cells_of_cell h;simp only at h1;rw[d]at h1;injection h1 with h1;subst h1;rw[c]at a;cases a
theorem PO{L:Nat->Loc}{h:Hp}{a:Loc}{blk:Blk}(d:dk w M L h a blk)(k:blk.live a)(g:w.heap[l]?=some ob)(j:ob.isCells=false)(f:∀arr c,ob≠.map arr c):a.b≠l:=by
 intro e;subst e
 cases blk with
 |box m own i=>obtain⟨arr,p,e,_⟩:=d;rw[g]at e;injection e with e;subst e;cases j
 |row e o xs i=>obtain⟨_,_,_,_,h5⟩:=d;obtain⟨_,_,arr,e,_⟩:=h5 k;rw[g]at e;injection e with e;subst e;cases j
 |mp kd n es i=>obtain⟨arr,c,e,_⟩:=d;rw[g]at e;injection e with e;exact f _ _ e
theorem MemL.turn{L:Nat->Loc}{h:Hp}(d:MemL C L h w)(x:C.w0.heap[l]?=some ob)(hS:¬C.S l)(u:ob.isCells=false)(n:∀arr c,ob≠.map arr c)(g:Obj):
 MemL {C with w0:=C.w0.putObj l g} L h (w.putObj l g)/\Pres w (ae C L h) (w.putObj l g) (ae C L h):=by
 have j:l<C.w0.heap.size:=(ZE.1 x).1;have q:w.heap[l]?=some ob:=(d.ext.block l j hS).trans x;have m:l<w.heap.size:=(ZE.1 q).1;have f:Pres w (ae C L h) (w.putObj l g) (ae C L h):=⟨λb o v i hn=>⟨(World.cell?_of_block (World.putObj_heap_other (N8 q u i))).trans i,hn⟩,λb arr c i hn=>⟨(World.putObj_heap_other (by rintro rfl;rw[q]at i;injection i with i;exact n _ _ i)).trans i,hn⟩⟩;refine⟨⟨⟨d.ext.os,d.ext.tape,d.ext.output,by simpa using d.ext.size,λb r z=>?_⟩,λb o r=>by simpa using d.m0 b o r,λk a p=>(d.bl k a p).mono f (KC.refl _ _) (λs=>World.putObj_heap_other (PO (d.bl k a p) s q u n)),d.sep,λk a p=>?_⟩,f⟩
 .by_cases e:b=l
  .subst e
   rw[World.putObj_heap_same m,World.putObj_heap_same j]
  .rw[World.putObj_heap_other e,World.putObj_heap_other e]
   exact d.ext.block b (by simpa using r) z
 .have:=d.own k a p
  cases a with
  |box A own y=>cases own with
   |true=>simpa[dw]using this
   |false=>simpa[dw]using this
  |row e B xs y=>simpa[dw]using this
  |mp=>simpa[dw]using this
theorem zh{o:Obj}(h:w.heap[l]?=some o):w.putObj l o=w:=by
 have:w.heap.setIfInBounds l o=w.heap:=by
  apply Array.ext_getElem?;intro i;rw[Array.getElem?_setIfInBounds];by_cases e:l=i
  .subst e
   rw[Zd rfl,Zd (ZE.1 h).1,h]
  .rw[Y6 e]
 show{w with heap:=w.heap.setIfInBounds l o}=w;rw[this]
theorem vY(w:World)(l:Nat)(o o':Obj):(w.putObj l o).putObj l o'=w.putObj l o':=by
 show{w with heap:=(w.heap.setIfInBounds l o).setIfInBounds l o'}={w with heap:=w.heap.setIfInBounds l o'}
 congr 1
 apply Array.ext_getElem?;intro i;simp only[Array.getElem?_setIfInBounds,Array.size_setIfInBounds];by_cases e:l=i
 .subst e;simp
 .simp[e]
theorem zJ{a:Array Value}{d:Nat}{u:Value}(hd:d<a.size)(n:Nat):(a.setIfInBounds d u).getD n undef=if n=d then u else a.getD n undef:=by
 simp only[Ze];by_cases e:n=d
 .subst e;simp[hd]
 .rw[Y6 e,ZZ (by omega)]
theorem nd{b:Nat}{ps:List PV}(h:kh w M b ps):b<w.heap.size:=by
 obtain⟨arr,a,e,_⟩:=h;exact(ZE.1 e).1
def Ni(P:Program)(gf:FuncId)(caps:List PV)(xs:List (PV×PV)):Prop:=
 bS P gf=true/\∀(n l:Nat)(lb:List Value)(W:World)(M:Nat->Nat->Prop)(J:Nat->(Nat->Nat->Prop)->World->Prop),
  (∀i M W,J i M W->∀b o,M b o->b<W.heap.size)->(∀i M W a,J i M W->Ext (λ_=>False) W a->J i M a)->
  (∀m i x M W v1 v2,xs[i]?=some x->J i M W->Rep W M x.1 v1->Rep W M x.2 v2->YieldAt Fence.wide m P l #[v1,v2] W λe a=>e=.returned (.bool true)/\∃c,J (i+1) c a/\Pres W M a c)->
  J 0 M W->bp W M caps lb->CallsIn Fence.wide n P gf (#[.func (.yield l) #[] #[]]++lb.toArray) W λe a=>(∃v,e=.returned v)/\∃c,J xs.length c a
def ku(ks:List Nat)(hin:Nat->List PV):Hp:=λk=>if ks.contains k=true then some (.box ((hin k).map .pv) false false)else none
def Ii(t:Nat->AV)(p q:Nat)(x:PV×PV):Nat->AV:=av (av t p (.pv x.1)) q (.pv x.2)
theorem La{q:Nat}(hg:a.eval gop=.func (.func gf) #[] lb.toArray)
 {caps:List PV}{xs:List (PV×PV)}(a6:Ni P gf caps xs){M:Nat->Nat->Prop}(hM:∀b o,M b o->b<w.heap.size)(ak:bp w M caps lb)
 {ks:List Nat}{bs:Nat->Nat}{hin:Nat->List PV}(G:∀k∈ks,(∀o,M (bs k) o)/\kh w M (bs k) (hin k))(ar:∀k∈ks,∀k'∈ks,k≠k'->bs k≠bs k')
 (hN:a.tmps.size=N)(hp:p<N)(hq:q<N){t:Nat->AV}(ht:∀m,(∃k∈ks,t m=.ptr k 0/\a.tmps.getD m undef=.pointer (some ⟨bs k,0,none⟩))\/t m=.undef)
 (I:Nat->Hp->Prop)(h0:I 0 (ku ks hin))(hI:∀i h k,k∈ks->I i h->∃cs,h k=some (.box cs false false))
 (R:∀(C C':Cx)(l i:Nat)(x:PV×PV)(h:Hp),C.P=P->C.N=N->C'.P=P->C'.N=N->xs[i]?=some x->I i h->
   bh (Fence.wide.inRound l) C assign (λe cv=>e=.normal/\bh (Fence.wide.inRound l) C' body (λe' b3=>e'=.normal/\I (i+1) b3.h) cv) ⟨Ii t p q x,h⟩):
 (Code.rangeFunc gop #[p,q] assign body).wpIn Fence.wide n P (λe a' w'=>e=.normal/\∃(C:Cx)(L:Nat->Loc)(h:Hp)(D:Nat),C.P=P/\C.N=N/\C.M0=M/\(∀b,C.S b->∃k∈ks,b=bs k)/\
   MemL C L h w'/\I xs.length h/\(∀k∈ks,(L k).b=bs k)/\Ext (λ_=>False) w C.w0/\C.w0.heap[D]?=some (.deferred (some []))/\¬C.S D/\w.heap.size<=D/\a'={a with defers:={target:=.collected D,args:=#[]}::a.defers}) a w:=by
 refine wpIn_rangeFunc ?_;intro fn _;obtain⟨rec,g⟩:∃rec:LoopState->Option Code->Loop,rec=λst pe=>{state:=st,pending:=pe,fn,tmps:=a.tmps,params:=#[p,q],assign,body,defers:=w.heap.size}:=⟨_,rfl⟩;obtain⟨B,K⟩:∃B,(w.alloc (.deferred (some []))).alloc (.loop (rec .ready none))=B:=⟨_,rfl⟩
 have J:Ext (λ_=>False) w B:=by rw[<-K];exact(Ext.alloc _ _ _).trans (Ext.alloc _ _ _) (λ_ _ h=>h)
 have cD:B.heap.size=w.heap.size+2:=by rw[<-K];simp
 have U:B.heap[w.heap.size+1]?=some (.loop (rec .ready none)):=by
  rw[<-K];have:=World.alloc_heap_new (w.alloc (.deferred (some []))) (.loop (rec .ready none));rwa [World.size_alloc]at this
 have b7:B.heap[w.heap.size]?=some (.deferred (some [])):=by
  rw[<-K];exact(RowKit.Below.heap_alloc _ _ _ (by simp)).trans (World.alloc_heap_new w _)
 obtain⟨l,hl⟩:∃l,l=w.heap.size+1:=⟨_,rfl⟩;rw[<-hl]at U;obtain⟨f,d⟩:∃f:Obj->Cx,f=λo=>{P:=P,N:=N,M0:=M,S:=λb=>∃k∈ks,b=bs k,pb:=λk=>if ks.contains k=true then some (bs k)else none,w0:=B.putObj l o}:=⟨_,rfl⟩
 have hS:∀o b,(f o).S b->b<w.heap.size:=by
  intro o b s;rw[d]at s;obtain⟨k,j,rfl⟩:=s;exact nd (G k j).2
 have H:∀o,(f o).w0=B.putObj l o:=λo=>by rw[d]
 have ad:∀o o' L h,ae (f o) L h=ae (f o') L h:=λo o' L h=>by rw[d];rfl
 have V:∀(o:Obj),(f o).w0.heap[l]?=some o:=λo=>by rw[H];exact World.putObj_heap_same (ZE.1 U).1
 have a7:∀o,¬(f o).S l:=λo h=>by have:=hS o l h;omega
 have z:∀{o o':Obj}{L:Nat->Loc}{h:Hp}{W:World},o.isCells=false->(∀arr c,o≠.map arr c)->MemL (f o) L h W->W.heap[l]?=some o/\MemL (f o') L h (W.putObj l o')/\Pres W (ae (f o) L h) (W.putObj l o') (ae (f o') L h):=by
  intro o o' L h W ho ch E;have cc:l<(f o).w0.heap.size:=(ZE.1 (V o)).1;obtain⟨h1,h2⟩:=E.turn (V o) (a7 o) ho ch o';refine⟨(E.ext.block l cc (a7 o)).trans (V o),?_,?_⟩
  .have e:({f o with w0:=(f o).w0.putObj l o'}:Cx)=f o':=by rw[d];simp only[vY]
   rw[e]at h1;exact h1
  .rw[ad o' o];exact h2
 have y:B.putObj l (.loop (rec .ready none))=B:=zh U
 have T:∀{o:Obj}{L:Nat->Loc}{h:Hp}{W:World}{i k:Nat},k∈ks->I i h->MemL (f o) L h W->(L k).b=bs k:=by
  intro o L h W i k j hi E;obtain⟨cs,hc⟩:=hI i h k j hi;have:=(E.own k _ hc).2.1;rw[d]at this
  have Y:ks.contains k=true:=by simpa using j
  simp only[Y,Zp,Za]at this;exact this.symm
 let L0:Nat->Loc:=λk=>⟨bs k,0,false⟩
 have A:∀k r,ku ks hin k=some r->k∈ks/\r=.box ((hin k).map .pv) false false:=by
  intro k r j;unfold ku at j;split at j
  .rename_i hc;injection j with j;exact⟨by simpa using hc,j.symm⟩
  .cases j
 have b8:∀o b o',ae (f o) L0 (ku ks hin) b o'->M b o':=by
  rintro o b o' (s|⟨k,r,j,_,s,_⟩)
  .rw[d]at s;exact s
  .obtain⟨u,_⟩:=A k r j
   rw[<-s];exact(G k u).1 o'
 have F:Pres w M B (ae (f (.loop (rec .ready none))) L0 (ku ks hin)):=Pres.ext J (λ_ _ h=>h.elim) λb o _ h=>b8 _ b o h
 have cd:MemL (f (.loop (rec .ready none))) L0 (ku ks hin) B:=by
  refine⟨by rw[H,y];exact Ext.refl _ _,?_,?_,?_,?_⟩
  .intro b o s
   rw[H,y];rw[d]at s;have:=hM b o s;omega
  .intro k r j
   obtain⟨u,rfl⟩:=A k r j;obtain⟨arr,ty,e1,e2⟩:=(G k u).2;exact⟨arr,ty,(J.block _ (nd (G k u).2) (λh=>h)).trans e1,aD.map_pv (e2.mono F)⟩
  .intro k k' b1 b2 ck j Q _ _
   exact ar k (A k b1 j).1 k' (A k' b2 Q).1 ck
  .intro k r j
   obtain⟨u,rfl⟩:=A k r j
   have Y:ks.contains k=true:=by simpa using u
   refine⟨rfl,?_,?_,?_,?_⟩
   .rw[d];simp only[Y,Zp];rfl
   .rw[d];exact⟨k,u,rfl⟩
   .rw[H,y];have:=nd (G k u).2;show bs k<_;omega
   .intro o;rw[d];exact(G k u).1 o
 refine⟨l,[{target:=.collected w.heap.size,args:=#[]}],B,{target:=.fn (.func gf) lb.toArray,args:=#[.func (.yield l) #[] #[]]},B,gf,#[.func (.yield l) #[] #[]]++lb.toArray,B,?_,?_,λ_ _=>trivial,sP a6.1 _ _ _,λh=>(by cases h),?_⟩
 .rw[<-K,g,hl];exact run_enterLoop_outer _ _ _ _ _
 .simp only[resolve,hg]
  simp[go_sem]
 .refine(a6.2 (n-1) l lb B _ (λi M' W=>∃L h,I i h/\MemL (f (.loop (rec .ready none))) L h W/\M'=ae (f (.loop (rec .ready none))) L h) ?_ ?_ ?_ ⟨L0,_,h0,cd,rfl⟩ (ak.mono F)).mono ?_
  .rintro i M' W ⟨L,h,_,E,rfl⟩ b o s
   exact E.mlt s
  .rintro i M' W W' ⟨L,h,hi,E,rfl⟩ hx
   exact⟨L,h,hi,(E.grow hx).1,rfl⟩
  .
   rintro m i x M' W v1 v2 cu ⟨L,h,hi,E,rfl⟩ cp cq;obtain⟨cb,_,_⟩:=z (o':=.loop (rec .ready none)) rfl (by intro _ _ h;cases h) E;have hy:=run_yield (P:=P) (args:=#[v1,v2]) cb (by rw[g];rfl);rw[g]at hy;refine⟨fn,(a.tmps.setIfInBounds p v1).setIfInBounds q v2,assign,body,by simpa using hy,roundIn_of_wpIn trivial ?_⟩
   have bq:gk (f (.loop (rec .ready none))) L ⟨Ii t p q x,h⟩ {tmps:=(a.tmps.setIfInBounds p v1).setIfInBounds q v2,defers:=[]} W:=by
    refine⟨E,by rw[d];simpa using hN,λk=>?_⟩
    have cn:q<(a.tmps.setIfInBounds p v1).size:=by rw[Array.size_setIfInBounds,hN];exact hq
    have cm:p<a.tmps.size:=by rw[hN];exact hp
    simp only[zJ cn,zJ cm,Ii,av];split
    .exact .pv cq
    .split
     .exact .pv cp
     .rcases ht k with⟨k',Q,e1,e2⟩|e1
      .obtain⟨cs,hc⟩:=hI i h k' Q hi
       rw[e1,e2,<-T Q hi E];exact .ptr hc
      .rw[e1];exact .undef _
   have ah:(f (.loop (rec .ready none))).P=P:=by rw[d]
   have aj:(f (.loop (rec .busy none))).P=P:=by rw[d]
   have hR:=R (f (.loop (rec .ready none))) (f (.loop (rec .busy none))) l i x h ah (by rw[d]) aj (by rw[d]) cu hi m L _ W bq;rw[ah]at hR;refine wpIn_mono hR ?_;rintro e a1 w1 ⟨cz,L1,O,b4,_,rfl,X⟩;obtain⟨ca,cf,a8⟩:=z (o':=.loop (rec .busy none)) rfl (by intro _ _ h;cases h) O.1;refine⟨w1.putObj l (.loop (rec .busy none)),?_,?_⟩
   .have:=run_beginRound (P:=P) ca (by rw[g])
    rw[g]at this|-;exact this
   have ct:gk (f (.loop (rec .busy none))) L1 cz a1 (w1.putObj l (.loop (rec .busy none))):=⟨cf,by have:=O.2.1;rw[d]at this|-;exact this,λk=>(O.2.2 k).mono a8 (KC.refl _ _)⟩;have hB:=X m L1 a1 _ ct;rw[aj]at hB;refine wpIn_mono hB ?_;rintro e2 a2 w2 ⟨cB,L2,cr,b5,_,rfl,b9⟩;obtain⟨Z,cj,hpr⟩:=z (o':=.loop (rec .ready none)) rfl (by intro _ _ h;cases h) cr.1;refine⟨_,_,run_endRound none Z,rfl,_,⟨L2,cB.h,b9,?_,rfl⟩,?_⟩
   .have e:(Obj.loop {rec .busy none with state:=if(none:Option Code).isNone=true then .ready else .done,pending:=none})=.loop (rec .ready none):=by rw[g];rfl
    rw[e];exact cj
   .have e:(Obj.loop {rec .busy none with state:=if(none:Option Code).isNone=true then .ready else .done,pending:=none})=.loop (rec .ready none):=by rw[g];rfl
    rw[e];exact((b4.2.1.trans a8).trans b5.2.1).trans hpr
  .
   rintro e W2 ⟨⟨v,rfl⟩,M',L,h,hi,E,_⟩;obtain⟨Z,cg,_⟩:=z (o':=.loop (rec .exhausted none)) rfl (by intro _ _ h;cases h) E;refine⟨none,W2.putObj l (.loop (rec .exhausted none)),?_,rfl,f (.loop (rec .exhausted none)),L,h,w.heap.size,by rw[d],by rw[d],by rw[d],?_,cg,hi,λk j=>T j hi E,?_,?_,?_,Zf _,rfl⟩
   .have:=run_endLoop (P:=P) Z (by rw[g];simp)
    rw[g]at this|-;exact this
   .intro b s
    rw[d]at s;exact s
   .rw[H]
    refine⟨J.os,J.tape,J.output,by simp;omega,λb s _=>?_⟩;rw[World.putObj_heap_other (by omega)];exact J.block b s (λh=>h)
   .rw[H,World.putObj_heap_other (by omega)];exact b7
   .intro s
    have:=hS _ _ s;omega
def BW(P:Program)(g:FuncId):Prop:=bS P g=true/\∀(n:Nat)(args:Array Value)(w:World),CallsDIn Fence.wide n P g args .returning w λe a w'=>a=.returning/\(∃v,e=.returned v)/\w'=w
def AN(P:Program)(ds:List Deferred):Prop:=∀d∈ds,∃g cap,d.target=.fn (.func g) cap/\BW P g
theorem sS{n:Nat}{P:Program}{fn:Func}{tmps:Array Value}{R:Ending->World->Prop}{w:World}{v:Value}:∀{ds:List Deferred},AN P ds->(results fn tmps).run P w=.ok v w->R (.returned v) w->LeavesInM Fence.wide n P fn tmps R ds .returning w
 |[],_,b,a=>⟨v,b,a⟩
 |d::ds,hq,b,a=>by
  obtain⟨g,cap,f,c⟩:=hq d (by simp);refine⟨by simp,.inr ⟨λh=>(by cases h),.func g,cap,g,d.args++cap,f,by rw[f];exact sP c.1 _ _ _,λ_ _=>trivial,(c.2 _ _ w).mono ?_⟩⟩;rintro e i w' ⟨rfl,⟨j,rfl⟩,rfl⟩;exact sS (λd hd=>hq d (by simp[hd])) b a
def PP(C:Cx)(res:PV):Ending->World->Prop:=λe w'=>∃v,e=.returned v/\Ext (λ_=>False) C.w0 w'/\Rep w' C.M0 res v
theorem G2{L:Nat->Loc}(hs:gk C L st a w){res:PV}(f:iK C.P fn.results.toList [] (.pv res) st):∃u,(results fn a.tmps).run C.P w=.ok u w/\Rep w C.M0 res u:=by
 obtain⟨r,h1,_,W,e⟩:=f;obtain⟨u,c,d⟩:=nN (C:=C) hs.1 hs.2.2 h1;obtain⟨b1,b2,_⟩:=m8 hs.1 (bI.refl _) d e;exact⟨u,c,b2.mono (Pres.sub (λb o h=>.inl h))⟩
def EI:RV->Bool
 |.pv _=>true
 |.nrow _ _ _=>true
 |_=>false
@[simp] theorem Xh{p:PV}:EI (.pv p)=true:=rfl
@[simp] theorem TS{e sz:Nat}{xs:List PV}:EI (.nrow e sz xs)=true:=rfl
def Nj(C:Cx)(res:RV):Ending->World->Prop:=λe w'=>∃v,e=.returned v/\Ext (λ_=>False) C.w0 w'/\Az C.w0 w' C.M0 res v
theorem EJ{L:Nat->Loc}(hs:gk C L st a w)(m:EI res=true)(y:iK C.P fn.results.toList [] res st):∃u,(results fn a.tmps).run C.P w=.ok u w/\∀(w0:World)(M:Nat->Nat->Prop),(∀b o,M b o->C.M0 b o)->(∀b,(C.w0.heap.size<=b\/(C.S b/\∀o,¬C.M0 b o))->w0.heap.size<=b)->Az w0 w M res u:=by
 cases res with
 |pv p=>
  obtain⟨u,h1,D⟩:=G2 hs y;exact⟨u,h1,λw0 M f _=>D.mono (Pres.sub f)⟩
 |nrow e K xs=>
  obtain⟨r,h1,_,l,k,rfl,d⟩:=y;obtain⟨u,q,s⟩:=nN (C:=C) hs.1 hs.2.2 h1;refine⟨u,q,λw0 M f g=>⟨l,L k,?_,λhn=>g _ ((hs.1.own _ _ d).row hn),?_⟩⟩
  .cases s with
   |arr c F G=>
    rw[d]at c;injection c with c;injection c with a1 a2 a3 a4;subst a3;exact G rfl
  .obtain⟨c1,J,z,A,B⟩:=hs.1.bl _ _ d
   refine⟨c1,ZV _,z,A,λhn=>?_⟩;obtain⟨d1,d2,arr,d3,d4,d5⟩:=B hn;refine⟨d1,d2,arr,d3,d4,λi x j p I E=>?_⟩;obtain⟨v,H,n⟩:=d5 i x j p I E;refine⟨v,H,n.mono (Pres.sub ?_)⟩;rintro b o (h|⟨_,rfl⟩)
   .exact .inl (f _ _ h)
   .exact .inr ⟨k,_,d,hn,rfl,by simp[Blk.frz]⟩
 |_=>cases m
theorem dE{F:Fence}{n:Nat}{P:Program}{ops:Array Oper}{Q:Exit->Act->World->Prop}(d:List Oper):∀{g:List Oper}{a:Act}{w:World},
 wpListIn F n P ops (Exit.then (wpListIn F n P ops Q d) Q) g a w->wpListIn F n P ops Q (g++d) a w
 |[],a,w,h=>h
 |o::g,a,w,h=>by
  rw[List.cons_append];unfold wpListIn at h|-;split
  .rename_i f
   rw[Zd f]at h;refine⟨h.1,?_⟩;have b:=h.2;generalize(o.semAt F.round a.eval).run P w=r at b|-;unfold Oper.uponIn at b|-;split<;>simp only at b|-
   .exact dE d b
   .exact dE d b
   .exact dE d b
   .refine⟨b.1,b.2.mono ?_⟩
    intro e w' c
    cases e with
    |returned v=>exact dE d c
    |panicked i=>exact c
    |outgrown=>exact c
   .exact⟨b.1,b.2.mono λv w' c=>dE d c⟩
   .refine⟨b.1,b.2.mono ?_⟩
    intro e w' c
    cases e with
    |returned v=>exact dE d c
    |panicked i=>exact c
    |outgrown=>exact c
   .exact b
  .rename_i f
   rw[Y6 f]at h;exact⟨h.1,dE d h.2⟩
def rJ(C:Cx)(fn:Func)(res:RV)(c:Code)(st:St):Prop:=
 ∀n L a w,gk C L st a w->AN C.P a.defers->c.wpIn Fence.wide n C.P (bodyPostM Fence.wide n C.P fn (Nj C res)) a w
section
variable {C:Cx} {fn:Func} {res:RV} {st:St}
theorem u7{S:Nat->Prop}(hS:∀b,¬S b)(h:Ext S w w'):Ext (λ_=>False) w w':=⟨h.os,h.tape,h.output,h.size,λb a _=>h.block b a (hS b)⟩
def Lb(C:Cx)(fn:Func)(res:RV)(y:Code):Exit->St->Prop
 |.normal,st=>rJ C fn res y st
 |.ret,st=>EI res=true/\iK C.P fn.results.toList [] res st
 |_,_=>False
theorem rJ.seq(f:∀b,¬C.S b)(h:bh Fence.wide C x (Lb C fn res y) st):rJ C fn res (.seq x y) st:=by
 intro n L a w l hq;refine wpIn_seq (wpIn_mono (h n L a w l) ?_);rintro e i w' ⟨m,g,d,o,hd,c⟩
 cases e with
 |normal=>exact c n g i w' d (by rw[hd];exact hq)
 |ret=>
  obtain⟨u,h1,j⟩:=EJ d c.1 c.2;exact sS (by rw[hd];exact hq) h1 ⟨u,rfl,u7 f d.1.ext,j _ _ (λ_ _ h=>h) (λb h=>h.elim id λk=>absurd k.1 (f b))⟩
 |exit=>exact c.elim
 |goto=>exact c.elim
 |panic=>exact c.elim
 |outgrown=>exact c.elim
theorem JD{Q:Exit->Act->World->Prop}(h:o.wp P a w next Q):o.wpIn Fence.wide n P a w next Q:=by
 refine⟨λf _=>trivial,?_⟩
 show o.uponIn Fence.wide n P a next Q ((o.semAt none a.eval).run P w)
 rw[Oper.semAt_none];unfold Oper.wp at h
 cases c:(execOp a.eval o).run P w with
 |ok nx w'=>
  rw[c]at h
  cases nx with
  |value v=>exact h
  |skip=>exact h
  |defer d=>exact h
  |enter f args=>exact⟨λb=>(by cases b),iw.calls h⟩
  |row r args=>exact⟨λb=>(by cases b),iw.rows h⟩
  |_=>exact h.elim
 |halt k w'=>
  rw[c]at h
  cases k with
  |panic v=>exact h
  |_=>exact h.elim
theorem rJ.defer{pre:List Oper}{c:Call}{g:FuncId}(i:ops.toList=pre++[o])(p:∀o∈pre,∀c,o.op≠.defer c)(z:o.op=.defer c)(m:o.guard=none)(hd:o.dst=none)(hf:c.callee=.value f)(x:c.args.size=0)(hq:BW C.P g)
 (h:bZ C.P hn C.N ops (λk=>(∃first caps,k.ev f=.fn (.func g) first caps)/\rJ C fn res y k) pre st):rJ C fn res (.seq (.region id ops false) y) st:=by
 intro n L a w s r;refine wpIn_seq (wpIn_region_list ?_);rw[i];refine dE _ (im iw (ds:=a.defers) ?_ p s (aH.refl s.1) rfl h);intro E u a1 w1 e _ l q;obtain⟨⟨first,caps,A⟩,D⟩:=q;obtain⟨F,v,j⟩:=Jw (by have:=bE e.2.2 f;rw[A]at this;exact this);show wpListIn Fence.wide n C.P ops _ [o] a1 w1;unfold wpListIn
 have B:Region.wanted o (yielded ops a1.tmps)=true:=by unfold Region.wanted;rw[m]
 rw[Zd B];refine JD (Oper.wp_defer z hf x j ?_);rw[hd];refine D n u _ w1 ⟨e.1,e.2.1,e.2.2⟩ ?_;intro d b;rcases Zx.1 b with rfl|b
 .exact⟨g,v,rfl,hq⟩
 .rw[l]at b;exact r d b
theorem rJ.range(A:∀b,¬C.S b){q b0:Nat}{xs:List (PV×PV)}(b8:Ni C.P gf caps xs)(hp:p<C.N)(hq:q<C.N)
 {ks:List Nat}{hin:Nat->List PV}{t:Nat->AV}
 (hx:bh Fence.wide C x (λe f=>e=.normal/\f.ev gop=.pv (.fn (.func gf) [] caps)/\(∀k∈ks,f.h k=some (.box ((hin k).map .pv) true false))/\∀m,(∃k∈ks,t m=.ptr k 0/\f.t m=.ptr k 0)\/t m=.undef) st)
 (I:Nat->Hp->Prop)(h0:I 0 (ku ks hin))(hI:∀i h k,k∈ks->I i h->∃cs,h k=some (.box cs false false))
 (E:∀(C1 g:Cx)(l i:Nat)(x:PV×PV)(h:Hp),C1.P=C.P->C1.N=C.N->g.P=C.P->g.N=C.N->xs[i]?=some x->I i h->
   bh (Fence.wide.inRound l) C1 assign (λe f=>e=.normal/\bh (Fence.wide.inRound l) g body (λe' a7=>e'=.normal/\I (i+1) a7.h) f) ⟨Ii t p q x,h⟩)
 (cc:rq ops=true){hn:List Nat}(O:∀h,I xs.length h->bZ C.P hn C.N ops (λf=>EI res=true/\iK C.P fn.results.toList [] res f) ops.toList ⟨t,h⟩):
 rJ C fn res (.seq (.seq x (.block b0 (.rangeFunc gop #[p,q] assign body))) (.seq (.region id ops false) .ret)) st:=by
 intro n L a w hs cg;refine wpIn_seq (wpIn_seq (wpIn_mono (hx n L a w hs) ?_));rintro e a1 w1 ⟨T,U,c,cq,b5,rfl,hg,y,ak⟩;have M:=bE c.2.2 gop;rw[hg]at M
 obtain⟨us,cm,Y⟩:∃us:List Value,a1.eval gop=.func (.func gf) #[] us.toArray/\bp w1 (ae C U T.h) caps us:=by
  generalize a1.eval gop=u at M
  cases M with
  |pv B=>
   cases B with
   |fn _ _ _ vs us hl j h1 H=>
    have:vs=[]:=ZC hl.symm;subst this;exact⟨us,rfl,j,H⟩
 have b4:∀k∈ks,(∀o,ae C U T.h (U k).b o)/\kh w1 (ae C U T.h) (U k).b (hin k):=by
  intro k j;obtain⟨arr,ty,z,r⟩:=c.1.bl k _ (y k j);exact⟨λo=>.inr ⟨k,_,y k j,trivial,rfl,by simp[Blk.frz]⟩,arr,ty,z,r.map_pv_inv⟩
 refine wpIn_block (wpIn_mono (La (N:=C.N) cm b8 (λb o h=>c.1.mlt h) Y b4 (λk j k' b9 cd=>c.1.sep k k' _ _ cd (y k j) (y k' b9) trivial trivial) c.2.1 hp hq (t:=t) ?_ I h0 hI E) ?_)
 .intro m
  rcases ak m with⟨k,j,z,r⟩|e
  .have B:=c.2.2 m
   rw[r]at B;generalize hv:a1.tmps.getD m undef=v at B
   cases B with
   |ptr _=>exact .inl ⟨k,j,z,rfl⟩
  .exact .inr e
 rintro e a2 w2 ⟨rfl,g,L2,H,D,s,W,bq,X,ca,ad,b3,a6,J,F,cp,rfl⟩;show Code.wpIn Fence.wide n C.P _ _ _ w2
 have aj:gk g L2 ⟨t,H⟩ {a1 with defers:={target:=.collected D,args:=#[]}::a1.defers} w2:=by
  refine⟨ca,by rw[W];exact c.2.1,λm=>?_⟩;show RepA w2 (ae g L2 H) L2 H (t m) (a1.tmps.getD m undef);rcases ak m with⟨k,j,z,r⟩|e
  .have B:=c.2.2 m
   rw[r]at B;obtain⟨cs,hc⟩:=hI _ H k j ad
   have hv:a1.tmps.getD m undef=.pointer (some ⟨(U k).b,0,none⟩):=by
    generalize a1.tmps.getD m undef=v at B
    cases B with
    |ptr _=>rfl
   rw[z,hv,<-b3 k j];exact .ptr hc
  .rw[e];exact .undef _
 refine wpIn_seq (wpIn_region_list ?_);have R:=O H ad;rw[<-s,<-W]at R;rw[s]at R;have Z:=λQ' b2=>im (C:=g) (Q:=λf=>EI res=true/\iK C.P fn.results.toList [] res f) (Q':=Q') (hn:=hn) (ops:=ops) iw (n:=n) b2 (λ_ ho=>nU cc ho) aj (aH.refl aj.1) rfl (by rw[s];exact R);rw[s]at Z;refine Z _ ?_;intro cn L3 a3 G d _ b7 ah;refine wpIn_ret ?_;show LeavesInM Fence.wide n C.P fn a3.tmps (Nj C res) a3.defers .returning G;rw[b7];have V:D<g.w0.heap.size:=(ZE.1 J).1;have a8:G.heap[D]?=some (.deferred (some [])):=(d.1.ext.block D V F).trans J;obtain⟨cb,cf⟩:=d.1.turn J F rfl (by intro _ _ h;cases h) (.deferred none);have ch:gk {g with w0:=g.w0.putObj D (.deferred none)} L3 cn a3 (G.putObj D (.deferred none)):=⟨cb,d.2.1,λm=>(d.2.2 m).mono cf (KC.refl _ _)⟩;obtain⟨u,cj,ck⟩:=EJ ch (fn:=fn) (res:=res) ah.1 (by show iK g.P _ _ _ _;rw[s];exact ah.2)
 have ar:(results fn a3.tmps).run C.P (G.putObj D (.deferred none))=.ok u (G.putObj D (.deferred none)):=by rw[<-s];exact cj
 refine⟨by simp,.inl ⟨D,_,rfl,run_takeDeferred a8,sS (by rw[b5];exact cg) ar ⟨u,rfl,?_,?_⟩⟩⟩
 .
  have z:Ext (λ_=>False) C.w0 w1:=u7 A c.1.ext;have r:Ext (λ_=>False) C.w0 g.w0:=z.trans a6 (λ_ _ h=>h);have cr:=z.size;refine⟨?_,?_,?_,?_,?_⟩
  .show G.os=_;rw[d.1.ext.os];exact r.os
  .show G.tape=_;rw[d.1.ext.tape];exact r.tape
  .show G.output=_;rw[d.1.ext.output];exact r.output
  .simp only[World.putObj_size];exact yAG r.size d.1.ext.size
  .intro b hb _
   rw[World.putObj_heap_other (by omega)];rw[d.1.ext.block b (ZY hb r.size) ?_]
   .exact r.block b hb (λh=>h)
   .intro K
    obtain⟨k,j,rfl⟩:=X b K;have:=c.1.own k _ (y k j);rcases this with this|this
    .omega
    .exact A _ this.1
 .have z:Ext (λ_=>False) C.w0 w1:=u7 A c.1.ext
  have r:Ext (λ_=>False) C.w0 g.w0:=z.trans a6 (λ_ _ h=>h);refine ck _ _ (λb o h=>?_) (λb h=>?_)
  .show g.M0 b o
   rw[bq];exact .inl h
  .rcases h with h|⟨K,_⟩
   .have h9:g.w0.heap.size<=b:=by simpa only[World.putObj_size]using h
    exact yAG r.size h9
   .obtain⟨k,j,rfl⟩:=X b K
    rcases c.1.own k _ (y k j)with this|this
    .exact this
    .exact absurd this.1 (A _)
end
theorem N9{f:FuncId}(hf:P.funcs[f]?=some fn)(z:fn.body=some c)(m:bS P f=true){args:List PV}(I:args.length<=fn.ntmps)
 (h:∀C:Cx,C.P=P->C.N=fn.ntmps->(∀b,¬C.S b)->rJ C fn res c (rH (args.map .pv) [])):aW P f (args.map .pv) [] [] res:=by
 refine⟨m,rfl,λw M J l K D L H u y=>?_⟩;have E:J=[]:=ZC D;subst E
 let C:Cx:={P:=P,N:=fn.ntmps,M0:=M,S:=λ_=>False,pb:=λ_=>none,w0:=w}
 have a:∀k,(rH (args.map .pv) []).h k=none:=by
  intro k;simp only[rH,o6];split
  .rfl
  .simp
 have G:args.length=l.length:=by simpa using u
 have Q:gk C (λ_=>default) (rH (args.map .pv) []) {tmps:=l.toArray++Array.replicate (fn.ntmps-l.toArray.size) undef,defers:=[]} w:=by
  refine⟨⟨Ext.refl _ _,K,λk r g=>(by rw[a]at g;cases g),λk T b1 b2 _ g=>(by rw[a]at g;cases g),λk r g=>(by rw[a]at g;cases g)⟩,?_,λn=>?_⟩
  .show(l.toArray++Array.replicate (fn.ntmps-l.toArray.size) undef).size=fn.ntmps
   simp;omega
  .have s:∀b o,ae C (λ_=>default) (rH (args.map .pv) []).h b o->M b o:=by
    rintro b o (h|⟨k,r,g,_⟩)
    .exact h
    .rw[a]at g;cases g
   show RepA w _ _ _ (Ew (args.map .pv) n) _;simp only[Ew];split
   .rename_i p hp
    have q:n<l.length:=by rw[<-u];exact(th.1 hp).1
    have R:=y n (.pv p) l[n] hp (an q)
    have A:(l.toArray++Array.replicate (fn.ntmps-l.toArray.size) undef).getD n undef=l[n]:=by
     rw[Ze,ZJ (by simpa using q)];simp[q]
    simp only[A];have F:Rep w M p l[n]:=R;exact .pv (F.mono (Pres.sub s))
   .rename_i j hp
    rw[Y7]at hp
    cases hq:args[n]? with
    |none=>rw[hq]at hp;cases hp
    |some x=>rw[hq]at hp;cases hp
   .exact .undef _
 refine(callsIn_wide (n:=0)).1 ((callsIn_of_wp_marks hf z trivial (h C rfl rfl (λ_ h=>h) 0 _ _ w Q (λd hd=>(by simp at hd))) rfl).mono ?_);rintro e w' ⟨v,rfl,B,O⟩;exact⟨v,rfl,⟨B.os,B.tape,B.output,B.size,λb z _=>B.block b z (λh=>h)⟩,λi b U z=>(by simp at z),O⟩
@[simp] theorem PQ:DT F C y Q .normal st=bh F C y Q st:=rfl
@[simp] theorem S9:DT F C y Q .ret st=Q .ret st:=rfl
@[simp] theorem R6:DT F C y Q (.exit i) st=Q (.exit i) st:=rfl
@[simp] theorem RU:Lb C fn res y .normal st=rJ C fn res y st:=rfl
@[simp] theorem TT:Lb C fn res y .ret st=(EI res=true/\iK C.P fn.results.toList [] res st):=rfl
section
variable {F:Fence} {C:Cx} {x y:Code} {Q:Exit->St->Prop} {st:St} {c:Operand}
def ua(F:Fence)(C:Cx)(x y:Code)(Q:Exit->St->Prop)(st:St):AV->Prop
 |.pv (.val (.bool b))=>(b=true->bh F C x Q st)/\(b=false->bh F C y Q st)
 |_=>False
@[simp] theorem RW:ua F C x y Q st (.pv (.val (.bool true)))=bh F C x Q st:=by simp[ua]
@[simp] theorem PU:ua F C x y Q st (.pv (.val (.bool false)))=bh F C y Q st:=by simp[ua]
theorem jF{b:Bool}(h1:b=true->bh F C x Q st)(a:b=false->bh F C y Q st):ua F C x y Q st (.pv (.val (.bool b))):=⟨h1,a⟩
theorem bh.cond'(h:ua F C x y Q st (st.ev c)):bh F C (.cond c x y) Q st:=by
 cases a:st.ev c with
 |pv p=>cases p with
  |val v=>cases v with
   |bool b=>rw[a]at h;exact bh.cond a h.1 h.2
   |_=>rw[a]at h;exact h.elim
  |_=>rw[a]at h;exact h.elim
 |_=>rw[a]at h;exact h.elim
end
def jm(N:Nat)(M:Nat->Nat->Prop)(t:Nat->AV)(a:Act)(w:World):Prop:=a.tmps.size=N/\∀m,t m=.undef\/∃p,t m=.pv p/\Rep w M p (a.tmps.getD m undef)
theorem jm.sim(h:jm N M t a w)(f:∀b o,M b o->b<w.heap.size):gk {P:=P,N:=N,M0:=M,S:=λ_=>False,pb:=λ_=>none,w0:=w} (λ_=>default) ⟨t,λ_=>none⟩ a w:=by
 refine⟨⟨Ext.refl _ _,f,λk d c=>(by cases c),λk i b1 b2 _ c=>(by cases c),λk d c=>(by cases c)⟩,h.1,λm=>?_⟩;rcases h.2 m with e|⟨p,e,g⟩
 .show RepA w _ _ _ (t m) _
  rw[e];exact .undef _
 .show RepA w _ _ _ (t m) _
  rw[e];refine .pv (g.mono (Pres.sub ?_));rintro b o (h|⟨k,d,c,_⟩)
  .exact h
  .cases c
def cy(t:Nat->AV):Nat->AV:=λm=>match t m with
 |.pv p=>.pv p
 |_=>.undef
theorem rt{L:Nat->Loc}(hs:gk C L st a w):jm C.N C.M0 (cy st.t) a w:=by
 refine⟨hs.2.1,λm=>?_⟩;have:=hs.2.2 m;unfold cy;generalize st.t m=v at this
 cases v with
 |pv p=>
  cases this with
  |pv c=>exact .inr ⟨p,rfl,c.mono (Pres.sub λb o h=>.inl h)⟩
 |_=>exact .inl rfl
theorem jm.sub{t':Nat->AV}(h:jm N M t a w)(b:∀m,t' m=.undef\/t' m=t m):jm N M t' a w:=by
 refine⟨h.1,λm=>?_⟩;rcases b m with e|e
 .exact .inl e
 .rw[e];exact h.2 m
theorem jm.mono{M':Nat->Nat->Prop}(h:jm N M t a w)(hp:Pres w M w' M'):jm N M' t a w':=
 ⟨h.1,λm=>(h.2 m).imp id λ⟨p,e,b⟩=>⟨p,e,b.mono hp⟩⟩
theorem jm.step(h:jm N M t a w)(i:∀b o,M b o->b<w.heap.size)
 (j:∀C:Cx,C.P=P->C.N=N->bh Fence.wide C c Q ⟨t,λ_=>none⟩):c.wpIn Fence.wide n P (λe g w'=>∃d,Q e d/\jm N M (cy d.t) g w'/\Ext (λ_=>False) w w'/\g.defers=a.defers) a w:=
 wpIn_mono (j {P:=P,N:=N,M0:=M,S:=λ_=>False,pb:=λ_=>none,w0:=w} rfl rfl n _ a w (h.sim i)) λ_ _ _ ⟨d,_,f,_,hd,hq⟩=>⟨d,hq,rt f,f.1.ext,hd⟩
theorem jm.list{l:List Oper}{Q:St->Prop}{Q':Exit->Act->World->Prop}(h:jm N M t a w)(i:∀b o,M b o->b<w.heap.size)(g:∀o∈l,∀c,o.op≠.defer c)
 (k:bZ P hn N ops Q l ⟨t,λ_=>none⟩)(j:∀d e w',Q d->jm N M (cy d.t) e w'->Ext (λ_=>False) w w'->e.defers=a.defers->Q' .normal e w'):wpListIn Fence.wide n P ops Q' l a w:=
 im (C:={P:=P,N:=N,M0:=M,S:=λ_=>False,pb:=λ_=>none,w0:=w}) iw (λd m e w' f _ hd hq=>j d e w' hq (rt f) f.1.ext hd) g (h.sim i) (aH.refl (h.sim (P:=P) i).1) rfl k
def DK(P:Program)(gf:FuncId)(caps:List PV)(xs:List PV):Prop:=
 bS P gf=true/\∀(n l:Nat)(lb:List Value)(W:World)(M:Nat->Nat->Prop)(J d:Nat->(Nat->Nat->Prop)->World->Prop),
  (∀i M W,J i M W->∀b o,M b o->b<W.heap.size)->(∀i M W a,J i M W->Ext (λ_=>False) W a->J i M a)->
  (∀i M W,d i M W->∀b o,M b o->b<W.heap.size)->(∀i M W a,d i M W->Ext (λ_=>False) W a->d i M a)->
  (∀m i x M W v1,xs[i]?=some x->J i M W->Rep W M x v1->YieldAt Fence.wide m P l #[v1] W λe a=>∃(b:Bool)(c:Nat->Nat->Prop),e=.returned (.bool b)/\(if b=true then J (i+1) c a else d i c a)/\Pres W M a c)->
  J 0 M W->bp W M caps lb->CallsIn Fence.wide n P gf (#[.func (.yield l) #[] #[]]++lb.toArray) W λe a=>(∃v,e=.returned v)/\((∃c,J xs.length c a)\/∃i c,i<xs.length/\d i c a)
def mz(t:Nat->AV)(p:Nat)(x:PV):Nat->AV:=av t p (.pv x)
theorem MemL.kill{L:Nat->Loc}(ks:List Nat)(g:MemL C L st.h w):MemL C L (st.kill ks).h w/\∀b o,ae C L (st.kill ks).h b o->ae C L st.h b o:=by
 have d:∀k a,(st.kill ks).h k=some a->∃c,st.h k=some c/\fx ks c=a/\a.live (L k)=c.live (L k)/\∀o,a.frz o=c.frz o:=by
  intro k a f;simp only[St.kill]at f;split at f
  .cases f
  .simp only[II]at f
   obtain⟨c,h1,rfl⟩:=f;exact⟨c,h1,rfl,by cases c<;>rfl,λo=>by cases c<;>rfl⟩
 have D:∀b o,ae C L (st.kill ks).h b o->ae C L st.h b o:=by
  rintro b o (H|⟨k,a,f,y,K,hf⟩)
  .exact .inl H
  .obtain⟨c,h1,_,I,J⟩:=d k a f
   exact .inr ⟨k,c,h1,I▸y,K,J o▸hf⟩
 have hp:Pres w (ae C L st.h) w (ae C L (st.kill ks).h):=Pres.sub D;refine⟨⟨g.ext,g.m0,?_,?_,?_⟩,D⟩
 .intro k a f
  obtain⟨c,h1,rfl,_,_⟩:=d k a f;have:=g.bl k c h1
  cases c with
  |box G own s=>
   obtain⟨arr,P,r,m⟩:=this;refine⟨arr,P,r,by simpa using m.1,λi p u l B=>?_⟩;simp only[Y7,II]at l;obtain⟨q,hq,rfl⟩:=l;exact wO hp (m.2 i q u hq B)
  |row e Q xs s=>
   obtain⟨a1,a2,a3,a4,a5⟩:=this;refine⟨a1,a2,a3,a4,λhn=>?_⟩;obtain⟨b1,b2,arr,b3,b4,b5⟩:=a5 hn;exact⟨b1,b2,arr,b3,b4,λi x j p O M=>by obtain⟨u,B,N⟩:=b5 i x j p O M;exact⟨u,B,N.mono hp⟩⟩
  |mp kd n es s=>exact this
 .intro k E b1 b2 A f v y z
  obtain⟨c1,d1,_,r,_⟩:=d k b1 f;obtain⟨F,d2,_,m,_⟩:=d E b2 v;exact g.sep k E c1 F A d1 d2 (r▸y) (m▸z)
 .intro k a f
  obtain⟨c,h1,rfl,_,_⟩:=d k a f;have:=g.own k c h1
  cases c with
  |box G own s=>cases own<;>exact this
  |row=>exact this
  |mp=>exact this
def Jh(kd:List Nat)(I:Nat->Hp->Prop)(a:Nat->Hp->Prop)(i:Nat):Exit->St->Prop
 |.normal,st=>I (i+1) (st.kill kd).h
 |.ret,st=>a i st.h
 |_,_=>False
theorem Ji(hg:a.eval gop=.func (.func gf) #[] lb.toArray)
 {caps:List PV}{xs:List PV}(cj:DK P gf caps xs){M:Nat->Nat->Prop}(hM:∀b o,M b o->b<w.heap.size)(cf:bp w M caps lb)
 {ks:List Nat}{bs:Nat->Nat}{hin:Nat->List PV}(O:∀k∈ks,(∀o,M (bs k) o)/\kh w M (bs k) (hin k))(ch:∀k∈ks,∀k'∈ks,k≠k'->bs k≠bs k')
 (hN:a.tmps.size=N)(hp:p<N){t:Nat->AV}(ht:∀m,(∃k∈ks,t m=.ptr k 0/\a.tmps.getD m undef=.pointer (some ⟨bs k,0,none⟩))\/(∃q,t m=.pv q/\Rep w M q (a.tmps.getD m undef))\/t m=.undef)
 (I Ix:Nat->Hp->Prop)(h0:I 0 (ku ks hin))(hI:∀i h k,k∈ks->I i h->∃Y,h k=some (.box Y false false))(cq:∀i h k,k∈ks->Ix i h->∃Y,h k=some (.box Y false false))
 (ad:∀(C C':Cx)(l i:Nat)(x:PV)(h:Hp),C.P=P->C.N=N->C'.P=P->C'.N=N->xs[i]?=some x->I i h->
   bh (Fence.wide.inRound l) C assign (λe c0=>e=.normal/\bh (Fence.wide.inRound l) C' body (Jh kd I Ix i) c0) ⟨mz t p x,h⟩):
 (Code.rangeFunc gop #[p] assign body).wpIn Fence.wide n P (λe a' w'=>∃(C:Cx)(L:Nat->Loc)(h:Hp)(D:Nat),((e=.normal/\I xs.length h)\/(e=.ret/\∃i,i<xs.length/\Ix i h))/\C.P=P/\C.N=N/\C.M0=M/\(∀b,C.S b->∃k∈ks,b=bs k)/\
   MemL C L h w'/\(∀k∈ks,(L k).b=bs k)/\(∀q v,Rep w M q v->Rep w' (ae C L h) q v)/\Ext (λ_=>False) w C.w0/\C.w0.heap[D]?=some (.deferred (some []))/\¬C.S D/\w.heap.size<=D/\a'={a with defers:={target:=.collected D,args:=#[]}::a.defers}) a w:=by
 refine wpIn_rangeFunc ?_;intro fn _;obtain⟨rec,g⟩:∃rec:LoopState->Option Code->Loop,rec=λst pe=>{state:=st,pending:=pe,fn,tmps:=a.tmps,params:=#[p],assign,body,defers:=w.heap.size}:=⟨_,rfl⟩;obtain⟨H,V⟩:∃H,(w.alloc (.deferred (some []))).alloc (.loop (rec .ready none))=H:=⟨_,rfl⟩
 have T:Ext (λ_=>False) w H:=by rw[<-V];exact(Ext.alloc _ _ _).trans (Ext.alloc _ _ _) (λ_ _ h=>h)
 have c3:H.heap.size=w.heap.size+2:=by rw[<-V];simp
 have ar:H.heap[w.heap.size+1]?=some (.loop (rec .ready none)):=by
  rw[<-V];have:=World.alloc_heap_new (w.alloc (.deferred (some []))) (.loop (rec .ready none));rwa [World.size_alloc]at this
 have cp:H.heap[w.heap.size]?=some (.deferred (some [])):=by
  rw[<-V];exact(RowKit.Below.heap_alloc _ _ _ (by simp)).trans (World.alloc_heap_new w _)
 obtain⟨l,hl⟩:∃l,l=w.heap.size+1:=⟨_,rfl⟩;rw[<-hl]at ar;obtain⟨f,d⟩:∃f:Obj->Cx,f=λo=>{P:=P,N:=N,M0:=M,S:=λb=>∃k∈ks,b=bs k,pb:=λk=>if ks.contains k=true then some (bs k)else none,w0:=H.putObj l o}:=⟨_,rfl⟩
 have hS:∀o b,(f o).S b->b<w.heap.size:=by
  intro o b y;rw[d]at y;obtain⟨k,s,rfl⟩:=y;exact nd (O k s).2
 have R:∀o,(f o).w0=H.putObj l o:=λo=>by rw[d]
 have ca:∀o o' L h,ae (f o) L h=ae (f o') L h:=λo o' L h=>by rw[d];rfl
 have bq:∀(o:Obj),(f o).w0.heap[l]?=some o:=λo=>by rw[R];exact World.putObj_heap_same (ZE.1 ar).1
 have ck:∀o,¬(f o).S l:=λo h=>by have:=hS o l h;omega
 have r:∀{o o':Obj}{L:Nat->Loc}{h:Hp}{W:World},o.isCells=false->(∀arr c,o≠.map arr c)->MemL (f o) L h W->W.heap[l]?=some o/\MemL (f o') L h (W.putObj l o')/\Pres W (ae (f o) L h) (W.putObj l o') (ae (f o') L h):=by
  intro o o' L h W ho cP J;have cz:l<(f o).w0.heap.size:=(ZE.1 (bq o)).1;obtain⟨h1,h2⟩:=J.turn (bq o) (ck o) ho cP o';refine⟨(J.ext.block l cz (ck o)).trans (bq o),?_,?_⟩
  .have e:({f o with w0:=(f o).w0.putObj l o'}:Cx)=f o':=by rw[d];simp only[vY]
   rw[e]at h1;exact h1
  .rw[ca o' o];exact h2
 have E:H.putObj l (.loop (rec .ready none))=H:=zh ar
 have aj:∀{K:Nat->Hp->Prop}{o:Obj}{L:Nat->Loc}{h:Hp}{W:World}{i k:Nat},(∀i h k,k∈ks->K i h->∃Y,h k=some (.box Y false false))->k∈ks->K i h->MemL (f o) L h W->(L k).b=bs k:=by
  intro K o L h W i k hK s hi J;obtain⟨Y,hc⟩:=hK i h k s hi;have:=(J.own k _ hc).2.1;rw[d]at this
  have b4:ks.contains k=true:=by simpa using s
  simp only[b4,Zp,Za]at this;exact this.symm
 let L0:Nat->Loc:=λk=>⟨bs k,0,false⟩
 have F:∀k u,ku ks hin k=some u->k∈ks/\u=.box ((hin k).map .pv) false false:=by
  intro k u s;unfold ku at s;split at s
  .rename_i hc;injection s with s;exact⟨by simpa using hc,s.symm⟩
  .cases s
 have cr:∀o b o',ae (f o) L0 (ku ks hin) b o'->M b o':=by
  rintro o b o' (y|⟨k,u,s,_,y,_⟩)
  .rw[d]at y;exact y
  .obtain⟨z,_⟩:=F k u s
   rw[<-y];exact(O k z).1 o'
 have B:Pres w M H (ae (f (.loop (rec .ready none))) L0 (ku ks hin)):=Pres.ext T (λ_ _ h=>h.elim) λb o _ h=>cr _ b o h
 have cB:MemL (f (.loop (rec .ready none))) L0 (ku ks hin) H:=by
  refine⟨by rw[R,E];exact Ext.refl _ _,?_,?_,?_,?_⟩
  .intro b o y
   rw[R,E];rw[d]at y;have:=hM b o y;omega
  .intro k u s
   obtain⟨z,rfl⟩:=F k u s;obtain⟨arr,ty,e1,e2⟩:=(O k z).2;exact⟨arr,ty,(T.block _ (nd (O k z).2) (λh=>h)).trans e1,aD.map_pv (e2.mono B)⟩
  .intro k k' b1 b2 cQ s Z _ _
   exact ch k (F k b1 s).1 k' (F k' b2 Z).1 cQ
  .intro k u s
   obtain⟨z,rfl⟩:=F k u s
   have b4:ks.contains k=true:=by simpa using z
   refine⟨rfl,?_,?_,?_,?_⟩
   .rw[d];simp only[b4,Zp];rfl
   .rw[d];exact⟨k,z,rfl⟩
   .rw[R,E];have:=nd (O k z).2;show bs k<_;omega
   .intro o;rw[d];exact(O k z).1 o
 let Jt:(Nat->Hp->Prop)->Obj->Nat->(Nat->Nat->Prop)->World->Prop:=λK o i G W=>∃L h,K i h/\MemL (f o) L h W/\G=ae (f o) L h/\(∀q v,Rep w M q v->Rep W G q v)
 refine⟨l,[{target:=.collected w.heap.size,args:=#[]}],H,{target:=.fn (.func gf) lb.toArray,args:=#[.func (.yield l) #[] #[]]},H,gf,#[.func (.yield l) #[] #[]]++lb.toArray,H,?_,?_,λ_ _=>trivial,sP cj.1 _ _ _,λh=>(by cases h),?_⟩
 .rw[<-V,g,hl];exact run_enterLoop_outer _ _ _ _ _
 .simp only[resolve,hg]
  simp[go_sem]
 .have cd:∀K o i G W,Jt K o i G W->∀b o',G b o'->b<W.heap.size:=by
   rintro K o i G W ⟨L,h,_,J,rfl,_⟩ b o' y;exact J.mlt y
  have cg:∀K o i G W W',Jt K o i G W->Ext (λ_=>False) W W'->Jt K o i G W':=by
   rintro K o i G W W' ⟨L,h,hi,J,rfl,hq⟩ hx;exact⟨L,h,hi,(J.grow hx).1,rfl,λq v hr=>(hq q v hr).mono (J.grow hx).2⟩
  refine(cj.2 (n-1) l lb H _ (Jt I (.loop (rec .ready none))) (Jt Ix (.loop (rec .done (some .ret)))) (cd _ _) (cg _ _) (cd _ _) (cg _ _) ?_ ⟨L0,_,h0,cB,rfl,λq v hr=>hr.mono B⟩ (cf.mono B)).mono ?_
  .
   rintro m i x G W v1 cX ⟨L,h,hi,J,rfl,hq⟩ cU;obtain⟨cv,_,_⟩:=r (o':=.loop (rec .ready none)) rfl (by intro _ _ h;cases h) J;have hy:=run_yield (P:=P) (args:=#[v1]) cv (by rw[g];rfl);rw[g]at hy;refine⟨fn,a.tmps.setIfInBounds p v1,assign,body,by simpa using hy,roundIn_of_wpIn trivial ?_⟩
   have cn:gk (f (.loop (rec .ready none))) L ⟨mz t p x,h⟩ {tmps:=a.tmps.setIfInBounds p v1,defers:=[]} W:=by
    refine⟨J,by rw[d];simpa using hN,λk=>?_⟩
    have cS:p<a.tmps.size:=by rw[hN];exact hp
    simp only[zJ cS,mz,av];split
    .exact .pv cU
    .rcases ht k with⟨k',Z,e1,e2⟩|⟨q,e1,e2⟩|e1
     .obtain⟨Y,hc⟩:=hI i h k' Z hi
      rw[e1,e2,<-aj hI Z hi J];exact .ptr hc
     .rw[e1];exact .pv (hq q _ e2)
     .rw[e1];exact .undef _
   have cb:(f (.loop (rec .ready none))).P=P:=by rw[d]
   have cc:(f (.loop (rec .busy none))).P=P:=by rw[d]
   have hR:=ad (f (.loop (rec .ready none))) (f (.loop (rec .busy none))) l i x h cb (by rw[d]) cc (by rw[d]) cX hi m L _ W cn;rw[cb]at hR;refine wpIn_mono hR ?_;rintro e a1 w1 ⟨c2,L1,X,b8,_,rfl,b3⟩;obtain⟨cu,cD,b7⟩:=r (o':=.loop (rec .busy none)) rfl (by intro _ _ h;cases h) X.1;refine⟨w1.putObj l (.loop (rec .busy none)),?_,?_⟩
   .have:=run_beginRound (P:=P) cu (by rw[g])
    rw[g]at this|-;exact this
   have cV:gk (f (.loop (rec .busy none))) L1 c2 a1 (w1.putObj l (.loop (rec .busy none))):=⟨cD,by have:=X.2.1;rw[d]at this|-;exact this,λk=>(X.2.2 k).mono b7 (KC.refl _ _)⟩;have hB:=b3 m L1 a1 _ cV;rw[cc]at hB;refine wpIn_mono hB ?_;rintro e2 a2 w2 ⟨U,L2,cm,b9,_,Q⟩
   cases e2 with
   |normal=>
    obtain⟨A,b5,hpr⟩:=r (o':=.loop (rec .ready none)) rfl (by intro _ _ h;cases h) cm.1
    have e:(Obj.loop {rec .busy none with state:=if(none:Option Code).isNone=true then .ready else .done,pending:=none})=.loop (rec .ready none):=by rw[g];rfl
    have j:Pres W (ae (f (.loop (rec .ready none))) L h) (w2.putObj l (.loop (rec .ready none))) (ae (f (.loop (rec .ready none))) L2 U.h):=((b8.2.1.trans b7).trans b9.2.1).trans hpr;obtain⟨cN,ct⟩:=b5.kill kd;have j:=j.trans (Pres.sub ct);refine⟨_,_,run_endRound none A,true,ae (f (.loop (rec .ready none))) L2 (U.kill kd).h,rfl,?_,?_⟩
    .rw[Zd rfl,e]
     exact⟨L2,(U.kill kd).h,Q,cN,rfl,λq v hr=>(hq q v hr).mono j⟩
    .rw[e];exact j
   |ret=>
    obtain⟨A,b5,hpr⟩:=r (o':=.loop (rec .done (some .ret))) rfl (by intro _ _ h;cases h) cm.1
    have e:(Obj.loop {rec .busy none with state:=if(some Code.ret).isNone=true then .ready else .done,pending:=some .ret})=.loop (rec .done (some .ret)):=by rw[g];rfl
    have j:Pres W (ae (f (.loop (rec .ready none))) L h) (w2.putObj l (.loop (rec .done (some .ret)))) (ae (f (.loop (rec .done (some .ret)))) L2 U.h):=((b8.2.1.trans b7).trans b9.2.1).trans hpr;refine⟨_,_,run_endRound (some .ret) A,false,ae (f (.loop (rec .done (some .ret)))) L2 U.h,rfl,?_,?_⟩
    .rw[Y6 (by simp),e]
     exact⟨L2,U.h,Q,b5,rfl,λq v hr=>(hq q v hr).mono j⟩
    .rw[e];exact j
   |exit=>exact Q.elim
   |goto=>exact Q.elim
   |panic=>exact Q.elim
   |outgrown=>exact Q.elim
  .
   have ah:∀(K:Nat->Hp->Prop)(o:Obj)(st:LoopState)(pe:Option Code)(i:Nat)(G:Nat->Nat->Prop)(W2:World),o=.loop (rec st pe)->(∀i h k,k∈ks->K i h->∃Y,h k=some (.box Y false false))->Jt K o i G W2->
    W2.heap[l]?=some o/\∃(C:Cx)(L:Nat->Loc)(h:Hp)(D:Nat),K i h/\C.P=P/\C.N=N/\C.M0=M/\(∀b,C.S b->∃k∈ks,b=bs k)/\
     MemL C L h (W2.putObj l (.loop (rec .exhausted pe)))/\(∀k∈ks,(L k).b=bs k)/\(∀q v,Rep w M q v->Rep (W2.putObj l (.loop (rec .exhausted pe))) (ae C L h) q v)/\Ext (λ_=>False) w C.w0/\C.w0.heap[D]?=some (.deferred (some []))/\¬C.S D/\w.heap.size<=D/\D=w.heap.size:=by
    rintro K o st pe i G W2 rfl hK ⟨L,h,hi,J,rfl,hq⟩;obtain⟨A,cM,cT⟩:=r (o':=.loop (rec .exhausted pe)) rfl (by intro _ _ h;cases h) J;refine⟨A,f (.loop (rec .exhausted pe)),L,h,w.heap.size,hi,by rw[d],by rw[d],by rw[d],?_,cM,λk s=>aj hK s hi J,λq v hr=>(hq q v hr).mono cT,?_,?_,?_,Zf _,rfl⟩
    .intro b y
     rw[d]at y;exact y
    .rw[R]
     refine⟨T.os,T.tape,T.output,by simp;omega,λb y _=>?_⟩;rw[World.putObj_heap_other (by omega)];exact T.block b y (λh=>h)
    .rw[R,World.putObj_heap_other (by omega)];exact cp
    .intro y
     have:=hS _ _ y;omega
   rintro e W2 ⟨⟨v,rfl⟩,⟨G,hj⟩|⟨i,G,hi,hj⟩⟩
   .obtain⟨A,C,L,h,D,a1,a2,a3,a4,a5,a6,a7,ak,a8,a9,a10,a11,rfl⟩:=ah I _ _ _ _ _ _ rfl hI hj
    refine⟨none,W2.putObj l (.loop (rec .exhausted none)),?_,C,L,h,_,.inl ⟨rfl,a1⟩,a2,a3,a4,a5,a6,a7,ak,a8,a9,a10,a11,rfl⟩;have:=run_endLoop (P:=P) A (by rw[g];simp);rw[g]at this|-;exact this
   .obtain⟨A,C,L,h,D,a1,a2,a3,a4,a5,a6,a7,ak,a8,a9,a10,a11,rfl⟩:=ah Ix _ _ _ _ _ _ rfl cq hj
    refine⟨some .ret,W2.putObj l (.loop (rec .exhausted (some .ret))),?_,wpIn_ret ⟨C,L,h,_,.inr ⟨rfl,i,hi,a1⟩,a2,a3,a4,a5,a6,a7,ak,a8,a9,a10,a11,rfl⟩⟩;have:=run_endLoop (P:=P) A (by rw[g];simp);rw[g]at this|-;exact this
theorem y5{c:Cx}{res:PV}{g i:St}{a1 a3:Act}{w1 d:World}{v Q:Nat->Loc}{D:Nat}{ks:List Nat}{bs:Nat->Nat}{hin:Nat->List PV}(l:∀b,¬C.S b)(r:gk C v g a1 w1)(G:∀k∈ks,g.h k=some (.box ((hin k).map .pv) true false))(E:∀k∈ks,bs k=(v k).b)
 (J:AN C.P a1.defers)(q:c.P=C.P)(y:c.M0=ae C v g.h)(z:∀b,c.S b->∃k∈ks,b=bs k)(O:Ext (λ_=>False) w1 c.w0)(f:c.w0.heap[D]?=some (.deferred (some [])))(e:¬c.S D)(T:w1.heap.size<=D)
 (a:gk c Q i a3 d)(F:a3.defers={target:=.collected D,args:=#[]}::a1.defers)(K:iK C.P fn.results.toList [] (.pv res) i):LeavesInM Fence.wide n C.P fn a3.tmps (PP C res) a3.defers .returning d:=by
 rw[F];have p:D<c.w0.heap.size:=(ZE.1 f).1;have x:d.heap[D]?=some (.deferred (some [])):=(a.1.ext.block D p e).trans f;obtain⟨H,I⟩:=a.1.turn f e rfl (by intro _ _ h;cases h) (.deferred none);have L:gk {c with w0:=c.w0.putObj D (.deferred none)} Q i a3 (d.putObj D (.deferred none)):=⟨H,a.2.1,λm=>(a.2.2 m).mono I (KC.refl _ _)⟩;obtain⟨u,M,N⟩:=G2 L (fn:=fn) (res:=res) (by show iK c.P _ _ _ _;rw[q];exact K)
 have s:(results fn a3.tmps).run C.P (d.putObj D (.deferred none))=.ok u (d.putObj D (.deferred none)):=by rw[<-q];exact M
 refine⟨by simp,.inl ⟨D,_,rfl,run_takeDeferred x,sS J s ⟨u,rfl,?_,?_⟩⟩⟩
 .have R:Ext (λ_=>False) C.w0 w1:=u7 l r.1.ext
  have j:Ext (λ_=>False) C.w0 c.w0:=R.trans O (λ_ _ h=>h);have V:=R.size;refine⟨?_,?_,?_,?_,?_⟩
  .show d.os=_;rw[a.1.ext.os];exact j.os
  .show d.tape=_;rw[a.1.ext.tape];exact j.tape
  .show d.output=_;rw[a.1.ext.output];exact j.output
  .simp only[World.putObj_size];exact yAG j.size a.1.ext.size
  .intro b B _
   rw[World.putObj_heap_other (by omega)];rw[a.1.ext.block b (ZY B j.size) ?_]
   .exact j.block b B (λh=>h)
   .intro A
    obtain⟨k,U,rfl⟩:=z b A;rw[E k U]at B;have:=r.1.own k _ (G k U);rcases this with this|this
    .omega
    .exact l _ this.1
 .refine N.mono (Pres.sub ?_)
  intro b o h;show c.M0 b o;rw[y];exact .inl h
theorem rJ.rangeS{res:PV}(X:∀b,¬C.S b){b0:Nat}{xs:List PV}(b8:DK C.P gf caps xs)(hp:p<C.N)
 {ks:List Nat}{hin:Nat->List PV}{t:Nat->AV}
 (hx:bh Fence.wide C x (λe d=>e=.normal/\d.ev gop=.pv (.fn (.func gf) [] caps)/\(∀k∈ks,d.h k=some (.box ((hin k).map .pv) true false))/\∀m,(∃k∈ks,t m=.ptr k 0/\d.t m=.ptr k 0)\/(∃q,t m=.pv q/\d.t m=.pv q)\/t m=.undef) st)
 (I Ix:Nat->Hp->Prop)(h0:I 0 (ku ks hin))(hI:∀i h k,k∈ks->I i h->∃W,h k=some (.box W false false))(Z:∀i h k,k∈ks->Ix i h->∃W,h k=some (.box W false false))
 (A:∀(C1 H:Cx)(l i:Nat)(x:PV)(h:Hp),C1.P=C.P->C1.N=C.N->H.P=C.P->H.N=C.N->xs[i]?=some x->I i h->
   bh (Fence.wide.inRound l) C1 assign (λe d=>e=.normal/\bh (Fence.wide.inRound l) H body (Jh kd I Ix i) d) ⟨mz t p x,h⟩)
 (cb:rq ops=true){hn:List Nat}(R:∀h,I xs.length h->bZ C.P hn C.N ops (λd=>iK C.P fn.results.toList [] (.pv res) d) ops.toList ⟨t,h⟩)
 (O:∀i h,i<xs.length->Ix i h->iK C.P fn.results.toList [] (.pv res) ⟨t,h⟩):
 rJ C fn (.pv res) (.seq (.seq x (.block b0 (.rangeFunc gop #[p] assign body))) (.seq (.region id ops false) .ret)) st:=by
 intro n L a w hs cf;refine wpIn_seq (wpIn_seq (wpIn_mono (hx n L a w hs) ?_));rintro e a1 w1 ⟨U,V,c,ck,b5,rfl,hg,r,a8⟩;have J:=bE c.2.2 gop;rw[hg]at J
 obtain⟨us,cj,ar⟩:∃us:List Value,a1.eval gop=.func (.func gf) #[] us.toArray/\bp w1 (ae C V U.h) caps us:=by
  generalize a1.eval gop=u at J
  cases J with
  |pv f=>
   cases f with
   |fn _ _ _ vs us hl g h1 s=>
    have:vs=[]:=ZC hl.symm;subst this;exact⟨us,rfl,g,s⟩
 have b4:∀k∈ks,(∀o,ae C V U.h (V k).b o)/\kh w1 (ae C V U.h) (V k).b (hin k):=by
  intro k g;obtain⟨arr,ty,y,z⟩:=c.1.bl k _ (r k g);exact⟨λo=>.inr ⟨k,_,r k g,trivial,rfl,by simp[Blk.frz]⟩,arr,ty,y,z.map_pv_inv⟩
 have G:AN C.P a1.defers:=by rw[b5];exact cf
 refine wpIn_block (wpIn_mono (Ji (N:=C.N) cj b8 (λb o h=>c.1.mlt h) ar b4 (λk g k' b9 cc=>c.1.sep k k' _ _ cc (r k g) (r k' b9) trivial trivial) c.2.1 hp (t:=t) ?_ I Ix h0 hI Z A) ?_)
 .intro m
  rcases a8 m with⟨k,g,y,z⟩|⟨q,y,z⟩|e
  .have f:=c.2.2 m
   rw[z]at f;generalize hv:a1.tmps.getD m undef=v at f
   cases f with
   |ptr _=>exact .inl ⟨k,g,y,rfl⟩
  .have f:=c.2.2 m
   rw[z]at f
   cases f with
   |pv f=>exact .inr (.inl ⟨q,y,f⟩)
  .exact .inr (.inr e)
 rintro e a2 w2 ⟨H,L2,s,D,E,j,ah,ad,aj,ca,b3,cd,bq,Y,F,B,rfl⟩
 have ak:∀k∈ks,∃W,s k=some (.box W false false):=by
  intro k g;rcases E with⟨_,hi⟩|⟨_,i,_,hi⟩
  .exact hI _ s k g hi
  .exact Z _ s k g hi
 have M:gk H L2 ⟨t,s⟩ {a1 with defers:={target:=.collected D,args:=#[]}::a1.defers} w2:=by
  refine⟨ca,by rw[ah];exact c.2.1,λm=>?_⟩;show RepA w2 (ae H L2 s) L2 s (t m) (a1.tmps.getD m undef);rcases a8 m with⟨k,g,y,z⟩|⟨q,y,z⟩|e
  .have f:=c.2.2 m
   rw[z]at f;obtain⟨W,hc⟩:=ak k g
   have hv:a1.tmps.getD m undef=.pointer (some ⟨(V k).b,0,none⟩):=by
    generalize a1.tmps.getD m undef=v at f
    cases f with
    |ptr _=>rfl
   rw[y,hv,<-b3 k g];exact .ptr hc
  .have f:=c.2.2 m
   rw[z]at f;rw[y]
   cases f with
   |pv f=>exact .pv (cd q _ f)
  .rw[e];exact .undef _
 rcases E with⟨rfl,K⟩|⟨rfl,i,a7,K⟩
 .show Code.wpIn Fence.wide n C.P _ _ _ w2
  refine wpIn_seq (wpIn_region_list ?_);have T:=R s K;rw[<-j,<-ah]at T;rw[j]at T;have a6:=λQ' b2=>im (C:=H) (Q:=λd=>iK C.P fn.results.toList [] (.pv res) d) (Q':=Q') (hn:=hn) (ops:=ops) iw (n:=n) b2 (λ_ ho=>nU cb ho) M (aH.refl M.1) rfl (by rw[j];exact T);rw[j]at a6;refine a6 _ ?_;intro cm L3 a3 w3 ch _ b7 cg;refine wpIn_ret ?_;exact y5 X c r (λ_ _=>rfl) G j ad aj bq Y F B ch b7 cg
 .show LeavesInM Fence.wide n C.P fn a1.tmps (PP C res) ({target:=.collected D,args:=#[]}::a1.defers) .returning w2
  exact y5 (a3:={a1 with defers:={target:=.collected D,args:=#[]}::a1.defers}) X c r (λ_ _=>rfl) G j ad aj bq Y F B M rfl (O i s a7 K)
theorem M9{f:FuncId}(hf:P.funcs[f]?=some fn){args:List AV}{e:Hp}(b:LookH e)(h:∀C:Cx,C.P=P->C.N=fn.ntmps->WP C c (HY P fn.results.toList e Post) (D3 args e))
 (g:fn.body=some c:=by rfl)(a:bS P f=true:=by kernel_rfl)(d:args.length<=fn.ntmps:=by exact of_decide_eq_true (by kernel_rfl)):mQ P f args e Post:=NZ hf g a d b h
theorem BF{rs:List ResultVar}{i H:Hp}{r:AV}(h1:mf P st rs=some r)(m:mZ r=true)(l:∀k,inK k=true->st.h k=H k)(hL:LookH H)(hp:Post r H)
 (c:∀k d f,i k=some (.box d false f)->∃a,H k=some (.box a false false)):uF P rs i Post st:=by
 have e:qp st.h=H:=by
  funext k
  unfold qp;split
  .rename_i hi;exact l k hi
  .rename_i hi
   cases g:H k with
   |none=>rfl
   |some b=>exact absurd (hL.keys k b g) hi
 refine⟨r,h1,m,by rw[e];exact hL,by rw[e];exact hp,λk d f g=>?_⟩;obtain⟨a,j⟩:=c k d f g;exact⟨a,by rw[l k (hL.keys k _ j)];exact j⟩
theorem WP.takeAt(n:Nat){xs:List Operand}(b:ops.toList[n]?=some o)(a:o.op=.call {callee:=.value f,args:=xs.toArray,argTypes:=ats})(d:o.guard=none)
 (hq:bZ C.P hn C.N ops (DM C (bZ C.P hn C.N ops (Q .normal) (ops.toList.drop (n+1))) f xs o.dst) (ops.toList.take n) st):WP C (.region id ops false) Q st:=by
 refine WP.take (pre:=ops.toList.take n) (post:=ops.toList.drop (n+1)) (o:=o) ?_ a d hq;have e:=(th.1 b).1;have c:=(th.1 b).2;rw[<-c,yAu,Z5]
def D7(x:Nat):Nat:=match Nat.ble 300 x with
 |true=>300
 |false=>x
theorem wt(x:Nat):∀l:List Nat,l.contains x=true->(l.map D7).contains (D7 x)=true
 |[],h=>h
 |a::l,h=>by
  rw[List.contains_cons,ZX,ZW]at h;rw[yAf,List.contains_cons,ZX,ZW];rcases h with h|h
  .exact .inl (by rw[h])
  .exact .inr (wt x l h)
theorem D8{a b:List Nat}(h:EB (a.map D7) (b.map D7)=true):EB a b=true:=by
 unfold EB at *;rw[L4]at *;intro x d;have:=h (D7 x) (List.mem_map_of_mem d);rw[ZK]at *;rw[<-Bool.not_eq_true];intro c;rw[wt x b c]at this;cases this
def K2(acc:nP):nP:=acc.map λx=>(x.1.map D7,x.2.map D7)
theorem Jl{acc:nP}(h:gS ts (K2 acc)=true):gS ts acc=true:=by
 unfold gS K2 at *;rw[ZB]at h;rw[L4]at *;intro j f;have h1:=h j f;rw[L4]at *;intro i hi;have c:=h1 i hi;rw[Y7,Y7]at c
 cases d:acc[i]? with
 |none=>rfl
 |some a=>cases e:acc[j]? with
  |none=>rfl
  |some b=>
   rw[d,e]at c;simp only[ZS,ZX,up]at c|-;exact c.imp (λh=>⟨D8 h.1,D8 h.2⟩) id
theorem Yc{acc:nP}{b:Prop}(h:b)(k:gS ts (K2 acc)=true:=by kernel_rfl):gS ts acc=true/\b:=⟨Jl k,h⟩
theorem ik{cs:List AV}{x:AV}(h:i<cs.length):cs.take i++x::cs.drop (i+1)=cs.set i x:=by
 rw[List.set_eq_take_append_cons_drop,Zd h]
open Go.Proofs Go.Sort
section
variable {C:Cx} {Q:Exit->St->Prop} {st:St}
theorem WP.sortAt(n:Nat){x:Operand}(b:ops.toList[n]?=some o)(a:o.op=.call {callee:=.value f,args:=#[x],argTypes:=ats})(d:o.guard=none)
 (hq:bZ C.P hn C.N ops (Nm C (bZ C.P hn C.N ops (Q .normal) (ops.toList.drop (n+1))) f x o.dst) (ops.toList.take n) st):WP C (.region id ops false) Q st:=by
 refine WP.sort (pre:=ops.toList.take n) (post:=ops.toList.drop (n+1)) (o:=o) ?_ a d hq;have e:=(th.1 b).1;have c:=(th.1 b).2;rw[<-c,yAu,Z5]
end
theorem FU{f:Nat->List Int}{h:Hp}:∀(l:List Nat),(∀v∈l,h (v+300)=some (.row 3 1 (fH (f v)) 0))->∃W,dZ h (l.map λv=>.arr (v+300) (f v).length)=some (l.map λv=>.sl (fH (f v)),W)
 |[],_=>⟨[],rfl⟩
 |v::l,a=>by
  obtain⟨W,c⟩:=FU l λw d=>a w (by simp[d]);have h1:=a v (by simp)
  have b:(fH (f v)).length=(f v).length:=by simp
  refine⟨[(v+300,.row 3 1 (fH (f v)) (fH (f v)).length)]++W,?_⟩;simp only[yAf,dZ,iT,h1,b,Zp,c]
def c1(i n:Nat):List AV:=(List.range n).map λw=>if w<i then .arr (w+300) 1 else fY
theorem Kq(i n:Nat):(c1 i n).length=n:=by simp[c1]
theorem OV(n:Nat):c1 0 n=List.replicate n fY:=by
 simp[c1,List.map_const']
theorem OW(x:AV):((c1 i n).set i x).set i (.arr (i+300) 1)=c1 (i+1) n:=by
 rw[List.set_set];apply ZM;intro w;rw[Zg];simp only[Kq];by_cases a:w<n
 .by_cases e:i=w
  .subst e;simp[c1,a]
  .simp[c1,a,e,show(w<i+1↔w<i) by omega]
 .by_cases e:i=w
  .subst e;simp[c1,a]
  .simp[c1,a,e]
def cF(f:Nat->List Int)(n:Nat):List AV:=(List.range n).map λv=>.arr (v+300) (f v).length
def rF(f:Nat->List Int)(n:Nat)(h:Hp):Prop:=∀v,v<n->h (v+300)=some (.row 3 1 (fH (f v)) 0)
theorem Rx(n:Nat)(es:List aB):c1 n n=cF (λv=>dP es v 0) n:=by
 unfold c1 cF;refine List.map_congr_left λv a=>?_;rw[Zd (ZL.1 a)];rfl
theorem OX(i n:Nat):(c1 i n).map (dK [])=c1 i n:=by
 unfold c1;rw[List.map_map];refine List.map_congr_left λw _=>?_;simp only[Function.comp];split<;>simp[oZ,fw]
theorem uz(f:Nat->List Int)(n:Nat):(cF f n).map (dK [])=cF f n:=by
 unfold cF;rw[List.map_map];refine List.map_congr_left λw _=>?_;simp[oZ,fw]
theorem Bn(f:Nat->List Int)(n:Nat):(cF f n).length=n:=by simp[cF]
theorem IY(f:Nat->List Int){v:Nat}(h:v<n):(cF f n)[v]?=some (.arr (v+300) (f v).length):=by simp[cF,h]
theorem uA{f:Nat->List Int}(h:rF f n st.h):rF f n (St.kill [] st).h:=by
 intro v a;have:=h v a;simp only[St.kill,List.contains_nil,Y9,Zk,this];rfl
theorem OY{f g:Nat->List Int}{u v:Nat}(k:u<n)(l:v<n)(j:¬u=v)(h1:(g u).length=(f u).length+1)(d:(g v).length=(f v).length+1)(i:∀w,w≠u->w≠v->(g w).length=(f w).length):
 ((cF f n).set u (.arr (u+300) ((f u).length+1))).set v (.arr (v+300) ((f v).length+1))=cF g n:=by
 apply ZM;intro w;rw[Zg,Zg];simp only[yAt,Bn];by_cases b:w<n
 .by_cases a:v=w
  .subst a;simp[cF,b,d]
  .by_cases c:u=w
   .subst c;simp[cF,b,a,h1]
   .simp[cF,b,c,a,i w (λe=>c e.symm) (λe=>a e.symm)]
 .rw[Y6 (by omega),Y6 (by omega)]
  simp[cF,b]
theorem Tv(m:eR)(cx:dc m=true):aR 35 (bf m) (.sl ((List.range m.np.length).map λv=>zs (jh m v))):=by
 have S:=cx;simp only[dc,up,Is]at S;obtain⟨hn,he,b4⟩:=S;obtain⟨n,b3⟩:∃n,n=m.np.length:=⟨_,rfl⟩;rw[<-b3]at hn b4|-
 have q1:((n:Int))*24<=281474976710656:=by omega
 have q2:(24*(n:Int))<=281474976710656:=by omega
 have q3:(n:Int)<=9223372036854775807:=by omega
 refine Dp func35 λC hP hN=>?_
 with_reducible repeat' (first|refine Sp.h ?_|((first|refine Wh [1000011] ?_|refine Wi [1000011] ?_|refine Ss.h ?_|(refine Sb.h ?_ ?_ ?_<;>(try intro hgd)<;>try exact Xy))<;>simp -implicitDefEqProofs [hP,hN,b3.symm,q1,q2,q3]<;>try refine Ya ?_)|refine X2 ?_ ?_|(refine Xd ?_ ?_<;>intro hcd<;>try exact Xx))
 refine WP.loopN [] n (λi st=>st.t 1=.ptr 1 0/\st.h 1=some (.box [.pv (.sl m.np),.pv (gp m.es)] true false)/\st.t 3=.ext (.barr 11 n n)/\st.t 13=.pv (Z n)/\st.t 14=.pv (Z i)/\st.h 11=some (.box (c1 i n) true false)/\(∀w,w<i->st.h (w+300)=some (.row 3 1 [Z w] 0))/\(∀w,i<=w->st.h (w+300)=none)/\st.h 20=none) (by simp[OV];intro w;simp[o6,show¬w+300=11 by omega,show¬w+300=1 by omega,show¬1000000<=w+300\/True by simp]) ?_;rintro i st hi ⟨g1,b1,g3,D,F,a,hr,V,B⟩;by_cases K:i<n
 .have z:=ab K (by omega)
  obtain⟨cs,b⟩:∃cs,cs=c1 i n:=⟨_,rfl⟩;rw[<-b]at a
  have g:cs.length=n:=by rw[b,Kq]
  have Y:cs.take i++AV.arr 20 1::cs.drop (i+1)=cs.set i (.arr 20 1):=ik (by omega);have a8:i+1<=n:=K
  have bq:(i:Int)<(n:Int):=by omega
  with_reducible iterate 10 any_goals (first|refine Sp.h ?_|((first|refine Wh [20] ?_|refine Ss.h ?_)<;>simp -implicitDefEqProofs [hP,hN,g1,b1,g3,D,F,a,B,K,a8,bq,g,Y]))
  refine WP.rename 11 i 20 (i+300) (blk:=.row 3 1 [Z i] 0) (x:=.arr 20 1) (y:=.arr (i+300) 1) (cs:=cs.set i (.arr 20 1)) (own:=true) (fb:=false) (by simp) (by simp[V i (Zf _),show¬i+300=11 by omega,show¬i+300=20 by omega]) (by omega) (by simp) (by simp[g,K]) ⟨rfl,rfl⟩ ?_ ?_
  .intro w c hc cj
   rw[Zg,Y6 (λe=>cj e.symm),b]at hc;simp only[c1,Y7,II]at hc;obtain⟨q,hq,rfl⟩:=hc;split<;>simp[oZ,fw]
  rw[b,OW]
  with_reducible repeat' (first|refine Sp.h ?_|((first|refine Wd ?_|refine Ss.h ?_|(refine Sb.h ?_ ?_ ?_<;>(try intro hgd)<;>try exact Xy))<;>simp -implicitDefEqProofs [hP,hN,nW,g1,b1,g3,D,F,a,B,z]<;>try refine Ya ?_)|refine X2 ?_ ?_|(refine Xd ?_ ?_<;>intro hcd<;>try exact Xx))
  refine⟨by simp[OX],λw S=>?_,λw S=>?_⟩
  .by_cases e:w=i
   .subst e;exact⟨_,Zd rfl,rfl⟩
   .rw[Y6 e,hr w (by omega)];exact⟨_,rfl,rfl⟩
  .rw[Y6 (by omega),V w (by omega)];rfl
 .have cd:i=n:=by omega
  subst cd;rw[Rx i m.es]at a;have d:rF (λv=>dP m.es v 0) i st.h:=λv r=>hr v r;clear hr V;have Y:=ju b4;obtain⟨E,hE⟩:∃E,E=m.es.length:=⟨_,rfl⟩
  with_reducible repeat' (first|refine Sp.h ?_|((first|refine Wd ?_|refine Ss.h ?_|(refine Sb.h ?_ ?_ ?_<;>(try intro hgd)<;>try exact Xy))<;>simp -implicitDefEqProofs [hP,hN,g1,b1,g3,D,F,a,B]<;>try refine Ya ?_)|refine X2 ?_ ?_|(refine Xd ?_ ?_<;>intro hcd<;>try exact Xx))
  refine WP.loopN [] E (λj st=>st.t 1=.ptr 1 0/\st.h 1=some (.box [.pv (.sl m.np),.pv (gp m.es)] true false)/\st.t 3=.ext (.barr 11 i i)/\st.t 25=.pv (Z E)/\st.t 26=.pv (Z j)/\st.h 11=some (.box (cF (λv=>dP m.es v j) i) true false)/\rF (λv=>dP m.es v j) i st.h) (by simp[g1,b1,g3,a,hE,uz];exact uA (st:=⟨_,st.h⟩) d) ?_;clear g1 b1 g3 D F a B d;rintro j st hj ⟨g1,b1,g3,G,H,a,d⟩;by_cases U:j<E
  .have z:=ab U (by omega)
   have l:j<m.es.length:=by omega
   have ar:(j:Int)<(E:Int):=by omega
   have ad:m.es[j]?=some m.es[j]:=an l;have cc:=(Y.1 _ (Zs l)).1;generalize hx:m.es[j]=e at *;simp only[tS,up,Is]at cc;obtain⟨u,R⟩:∃u:Nat,e.u=u:=⟨e.u.toNat,by omega⟩;obtain⟨v,r⟩:∃v:Nat,e.v=v:=⟨e.v.toNat,by omega⟩
   have cN:u<v/\v<i:=by omega
   have o:∀w,dP m.es w (j+1)=dP m.es w j++sF (some e) w:=λw=>by rw[dP,ad]
   by_cases A:e.s=1
   .obtain⟨cs,b⟩:∃cs,cs=cF (λv=>dP m.es v j) i:=⟨_,rfl⟩
    rw[<-b]at a
    have g:cs.length=i:=by rw[b,Bn]
    have cr:u+1<=i:=by omega
    have ct:v+1<=i:=by omega
    have M:u<i:=by omega
    have N:v<i:=by omega
    have P:¬u=v:=by omega
    have b2:¬v=u:=by omega
    have ru:st.h (u+300)=some (.row 3 1 (fH (dP m.es u j)) 0):=d u M;have rv:st.h (v+300)=some (.row 3 1 (fH (dP m.es v j)) 0):=d v N
    have cu:cs[u]?=some (.arr (u+300) (dP m.es u j).length):=by rw[b];exact IY _ M
    have cv:cs[v]?=some (.arr (v+300) (dP m.es v j).length):=by rw[b];exact IY _ N
    have b5:∀h,cs[u]'h=.arr (u+300) (dP m.es u j).length:=λh=>(th.1 cu).2;have b7:∀h,cs[v]'h=.arr (v+300) (dP m.es v j).length:=λh=>(th.1 cv).2;have su:∀x,cs.take u++x::cs.drop (u+1)=cs.set u x:=λx=>ik (by omega);have sv:∀x y,(cs.set u x).take v++y::(cs.set u x).drop (v+1)=(cs.set u x).set v y:=λx y=>ik (by simp;omega);have lu:=yP m.es u j;have lv:=yP m.es v j
    have ak:(cs.set u (.arr (u+300) ((dP m.es u j).length+1))).set v (.arr (v+300) ((dP m.es v j).length+1))=cF (λv=>dP m.es v (j+1)) i:=by
     rw[b];exact OY M N P (by rw[o];simp[sF,A,R]) (by rw[o];simp[sF,A,R,r];rw[Y6 (by omega)];rfl) (λw h1 h2=>by rw[o];simp only[sF,A,R,r,Zp];rw[Y6 (by omega),Y6 (by omega)];simp)
    have cg:¬u+300=11:=by omega
    have ch:¬v+300=11:=by omega
    have b8:dP m.es u (j+1)=dP m.es u j++[e.v]:=by rw[o];simp[sF,A,R]
    have b9:dP m.es v (j+1)=dP m.es v j++[e.u]:=by rw[o];simp only[sF,A,R,r,Zp];rw[Y6 (by omega)]
    have ca:∀w,w≠u->w≠v->dP m.es w (j+1)=dP m.es w j:=λw h1 h2=>by rw[o];simp only[sF,A,R,r,Zp];rw[Y6 (by omega),Y6 (by omega)];simp
    generalize cz:dP m.es u j=zu at *;generalize cB:dP m.es v j=zv at *
    have cD:(fH zu).length=zu.length:=by simp
    have cM:(fH zv).length=zv.length:=by simp
    with_reducible repeat' (first|refine Sp.h ?_|((first|refine Wd ?_|refine Ss.h ?_|(refine Sb.h ?_ ?_ ?_<;>(try intro hgd)<;>try exact Xy))<;>simp -implicitDefEqProofs [hP,hN,g1,b1,g3,G,H,a,l,ar,z,hx,ad,A,R,r,g,cr,ct,M,N,P,b2,ru,rv,cu,cv,b5,b7,su,sv,cD,cM,cg,ch,show¬11=u+300 by omega,show¬11=v+300 by omega,show u+300<2000000 by omega,show v+300<2000000 by omega,hE.symm,show(zu.length+1)*8<=140737488355328 by omega,show(zv.length+1)*8<=140737488355328 by omega,show zu.length+1<=9223372036854775807 by omega,show zv.length+1<=9223372036854775807 by omega]<;>try refine Yc ?_)|refine X2 ?_ ?_|(refine Xd ?_ ?_<;>intro hcd<;>try exact Xx))
    refine⟨U,by rw[show cs.map (dK [])=cs by rw[b];exact uz _ _];exact ak,uA (st:=⟨_,_⟩) ?_⟩;intro w S;by_cases T:w=v
    .subst T;simp[b9,cB,R]
    .by_cases e2:w=u
     .subst e2;simp[b8,cz,r,T]
     .have:=d w S
      simp[ca w e2 T,T,e2,this]
   .have X:(λw=>dP m.es w (j+1))=λw=>dP m.es w j:=by
     funext w;rw[o];simp[sF,A]
    have cq:(e.s==1)=false:=by simp[A]
    rw[X]
    with_reducible repeat' (first|refine Sp.h ?_|((first|refine Wd ?_|refine Ss.h ?_|(refine Sb.h ?_ ?_ ?_<;>(try intro hgd)<;>try exact Xy))<;>simp -implicitDefEqProofs [hP,hN,g1,b1,g3,G,H,a,l,ar,z,hx,ad,A,cq,hE.symm]<;>try refine Ya ?_)|refine X2 ?_ ?_|(refine Xd ?_ ?_<;>intro hcd<;>try exact Xx))
    all_goals exact⟨U,uz _ _,uA (st:=⟨_,st.h⟩) d⟩
  .have l:j=E:=by omega
   subst l
   have l:¬j<m.es.length:=by omega
   with_reducible repeat' (first|refine Sp.h ?_|((first|refine Wd ?_|refine Ss.h ?_|(refine Sb.h ?_ ?_ ?_<;>(try intro hgd)<;>try exact Xy))<;>simp -implicitDefEqProofs [hP,hN,g1,b1,g3,G,H,a,l,hE.symm]<;>try refine Ya ?_)|refine X2 ?_ ?_|(refine Xd ?_ ?_<;>intro hcd<;>try exact Xx))
   refine WP.loopN [] i (λk st=>st.t 3=.ext (.barr 11 i i)/\st.t 78=.pv (Z i)/\st.t 79=.pv (Z k)/\st.h 11=some (.box (cF (λv=>dP m.es v j) i) true false)/\rF (λv=>if v<k then jh m v else dP m.es v j) i st.h) (by simp[g3,a,uz];exact uA (st:=⟨_,st.h⟩) d) ?_;clear g1 b1 g3 G H a d;rintro k st hk ⟨g3,I,J,a,d⟩;by_cases p:k<i
   .have z:=ab p (by omega)
    have a6:(k:Int)<(i:Int):=by omega
    obtain⟨cs,b⟩:∃cs,cs=cF (λv=>dP m.es v j) i:=⟨_,rfl⟩;rw[<-b]at a
    have g:cs.length=i:=by rw[b,Bn]
    have ck:cs[k]?=some (.arr (k+300) (dP m.es k j).length):=by rw[b];exact IY _ p
    have ah:∀h,cs[k]'h=.arr (k+300) (dP m.es k j).length:=λh=>(th.1 ck).2;have O:k+1<=i:=p
    have rk:st.h (k+300)=some (.row 3 1 (fH (dP m.es k j)) 0):=by have:=d k p;simpa only[Nat.lt_irrefl,Zk]using this
    with_reducible iterate 9 any_goals (first|refine Sp.h ?_|((first|refine Ss.h ?_)<;>simp -implicitDefEqProofs [hP,hN,g3,I,J,a,p,O,a6,g,ck,ah]))
    refine WP.sortAt (hn:=[]) 4 rfl rfl rfl ?_;simp -implicitDefEqProofs (maxSteps:=2000000) [hP,hN,g3,I,J,a,p,O,a6,g,ck,ah];have a7:=yP m.es k j;refine⟨72,k+300,3,dP m.es k j,rfl,by rw[hP];exact KO,by simp,rk,by intro h9;rw[h9]at a7;simp at a7,by omega,by simp[hN],?_⟩
    have cm:(dP m.es k j).mergeSort (λx y=>decide (x<=y))=jh m k:=by rw[jh,<-hE]
    rw[cm];simp -implicitDefEqProofs (maxSteps:=2000000) [hP,hN]
    with_reducible repeat' (first|refine Sp.h ?_|((first|refine Wd ?_|refine Ss.h ?_|(refine Sb.h ?_ ?_ ?_<;>(try intro hgd)<;>try exact Xy))<;>simp -implicitDefEqProofs [hP,hN,g3,I,J,a,z]<;>try refine Ya ?_)|refine X2 ?_ ?_|(refine Xd ?_ ?_<;>intro hcd<;>try exact Xx))
    refine⟨by rw[show cs.map (dK [])=cs by rw[b];exact uz _ _];exact b,uA (st:=⟨_,_⟩) ?_⟩;intro w S;by_cases T:w=k
    .subst T;simp
    .have:=d w S
     simp only at this|-
     rw[show(if w<k+1 then jh m w else dP m.es w j)=if w<k then jh m w else dP m.es w j by
      by_cases h9:w<k
      .rw[Zd h9,Zd (by omega)]
      .rw[Y6 h9,Y6 (by omega)]]
     simp[T,this]
   .have cf:k=i:=by omega
    subst cf
    have cb:cF (λv=>dP m.es v j) k=cF (jh m) k:=by
     unfold cF;refine List.map_congr_left λv _=>?_;simp[jh,<-hE]
    rw[cb]at a
    have cp:rF (jh m) k st.h:=λv r=>by have:=d v r;simpa[r]using this
    obtain⟨W,hW⟩:=FU (f:=jh m) (h:=st.h) (List.range k) (λv r=>cp v (ZL.1 r));obtain⟨cs,b⟩:∃cs,cs=cF (jh m) k:=⟨_,rfl⟩
    have aj:dZ st.h cs=some ((List.range k).map (λv=>.sl (fH (jh m v))),W):=by rw[b];exact hW
    rw[<-b]at a
    have g:cs.length=k:=by rw[b,Bn]
    obtain⟨ps,L⟩:∃ps,ps=(List.range k).map (λv=>PV.sl (fH (jh m v))):=⟨_,rfl⟩;rw[<-L]at aj
    have Q:ps.all jl=true:=by rw[L,L4];intro x hx;obtain⟨v,_,rfl⟩:=Zv.1 hx;rfl
    rw[show((List.range k).map λv=>zs (jh m v))=ps from L.symm];have cn:=L4.1 Q
    with_reducible repeat' (first|refine Sp.h ?_|((first|refine Wd ?_|refine Ss.h ?_|(refine Sb.h ?_ ?_ ?_<;>(try intro hgd)<;>try exact Xy))<;>simp -implicitDefEqProofs [hP,hN,g3,I,J,a,aj,g,Q]<;>try refine Ya ?_)|refine X2 ?_ ?_|(refine Xd ?_ ?_<;>intro hcd<;>try exact Xx))
    all_goals (intro x hx;rw[L]at hx;obtain⟨v,_,rfl⟩:=Zv.1 hx;rfl)
end Go.Ab
namespace Go.Ab
open IntKind (i64)
open Go.Proofs.Tryz
open Go.Proofs
variable {P:List (List Int)}{Q:Exit->St->Prop}{a a0 a1 a10 a11 a12 a13 a14 a15 a16 a17 a18 a19 a2 a20 a21 a22 a23 a3 a4 a5 a6 a7 a8 a9 b b0 b1 b2 b3 b4 b5 c d v0 v1 v2 v3 v4 v5:Int}{e:aB}{es:List aB}{f:Nat->Int}{i j k m n:Nat}{js:List J}{ms:List Ms}{st:St}{x:List Int}{α:Type}{ρ:Operand->AV}{p:α->Bool}{xs:List α}
theorem tw:∀(es:List (List Int×Value))(a:List Int)(u:Value)(js:List Int),iS (lS es a u) js=if a=js then some u else iS es js
 |[],a,u,js=>by simp[lS,iS]
 |(k,v)::r,a,u,js=>by
  simp only[lS];by_cases h1:k=a
  .subst h1
   rw[Zd rfl];by_cases b:k=js<;>simp[iS,b]
  .rw[Y6 h1]
   simp only[iS];rw[tw r a u js];by_cases b:k=js
   .subst b
    simp[show¬a=k from λe=>h1 e.symm]
   .simp[b]
def Kr(b:Bool)(es:List (List Int×Value))(k:List Int):List (List Int×Value):=if b=true then lS es k (.bool true)else es
def cE(plan:List (List Int))(b:Int)(tick:Nat)(es:List (List Int×Value))(c:Mov×Mov):List (List Int×Value):=
 Kr (c.2.a==b&&lK plan c.1 tick) (Kr (c.1.a==b&&lK plan c.2 tick) es [c.1.f,c.1.t]) [c.2.f,c.2.t]
def oL(cs:List (Mov×Mov))(plan:List (List Int))(a:Int)(tick:Nat):Nat->List (List Int×Value)
 |0=>[]
 |i+1=>match cs[i]? with
  |some c=>cE plan a tick (oL cs plan a tick i) c
  |none=>oL cs plan a tick i
theorem HH(cs:List (Mov×Mov))(plan:List (List Int))(b:Int)(tick:Nat)(f d:Int):∀i,iS (oL cs plan b tick i) [f,d]=if(cs.take i).any (Ga plan b tick f d)=true then some (.bool true)else none
 |0=>by simp[oL,iS]
 |i+1=>by
  have ih:=HH cs plan b tick f d i;by_cases hi:i<cs.length
  .rw[oL,an hi]
   simp only;generalize m:cs[i]=c;rw[ZR hi,List.any_append,m];have l:Ga plan b tick f d c=((c.1.a==b&&(lK plan c.2 tick&&(c.1.f==f&&c.1.t==d)))||(c.2.a==b&&(lK plan c.1 tick&&(c.2.f==f&&c.2.t==d)))):=rfl;generalize(cs.take i).any (Ga plan b tick f d)=r at *;simp only[List.any_cons,List.any_nil,Bool.or_false,l,cE,Kr];cases h1:(c.1.a==b&&lK plan c.2 tick)<;>cases k:(c.2.a==b&&lK plan c.1 tick)
   .simp only[Y9,Zk,ih,<-Bool.and_assoc,h1,k,ZI,Bool.or_false]
   .simp only[Y9,Zk,Zp,tw,ih,<-Bool.and_assoc,h1,k,ZI,Zu,Bool.false_or]
    by_cases e:c.2.f=f/\c.2.t=d
    .simp[e.1,e.2]
    .have:(c.2.f==f&&c.2.t==d)=false:=by simpa using λh=>λg=>e ⟨h,g⟩
     rw[this,Bool.or_false,Y6 (by simpa using λh=>λg=>e ⟨h,g⟩)]
   .simp only[Y9,Zk,Zp,tw,ih,<-Bool.and_assoc,h1,k,ZI,Zu,Bool.or_false]
    by_cases e:c.1.f=f/\c.1.t=d
    .simp[e.1,e.2]
    .have:(c.1.f==f&&c.1.t==d)=false:=by simpa using λh=>λg=>e ⟨h,g⟩
     rw[this,Bool.or_false,Y6 (by simpa using λh=>λg=>e ⟨h,g⟩)]
   .simp only[Zp,tw,ih,<-Bool.and_assoc,h1,k,Zu]
    by_cases e:c.1.f=f/\c.1.t=d
    .by_cases j:c.2.f=f/\c.2.t=d
     .simp[j.1,j.2]
     .have:(c.2.f==f&&c.2.t==d)=false:=by simpa using λh=>λg=>j ⟨h,g⟩
      rw[this,Bool.or_false,Y6 (by simpa using λh=>λg=>j ⟨h,g⟩)];simp[e.1,e.2]
    .have h5:(c.1.f==f&&c.1.t==d)=false:=by simpa using λh=>λg=>e ⟨h,g⟩
     rw[h5,Bool.false_or];by_cases j:c.2.f=f/\c.2.t=d
     .simp[j.1,j.2]
     .have:(c.2.f==f&&c.2.t==d)=false:=by simpa using λh=>λg=>j ⟨h,g⟩
      rw[this,Bool.or_false,Y6 (by simpa using λh=>λg=>j ⟨h,g⟩),Y6 (by simpa using λh=>λg=>e ⟨h,g⟩)]
  .rw[oL,Zh (by omega)]
   simp only[ih,Zw (show cs.length<=i by omega),Zw (show cs.length<=i+1 by omega)]
theorem OZ{plan:List (List Int)}{m:Mov}{tick:Nat}{l:List Int}(c:0<=m.a)(b:plan[m.a.toNat]?=some l):lK plan m tick=(decide (0<l.length)&&(l[tick]?==some m.f&&l[tick+1]?==some m.t)):=by
 unfold lK;rw[b];rfl
theorem Tw(plan:List (List Int))(m:Mov)(tick T:Nat)(r:0<=m.a)(h1:m.a.toNat<plan.length)(hp:∀l∈plan,l=[]\/l.length=T+1)(v:tick<T)(u:T<=64):aW prog 73 [.pv (bQ m),.pv (Z tick),.bx 0] [[.sl (plan.map zs)]] [[.sl (plan.map zs)]] (.pv (B (lK plan m tick))):=by
 obtain⟨m1,m2,s⟩:=m;simp only at r h1;obtain⟨k,rfl⟩:∃k:Nat,m1=k:=⟨m1.toNat,by omega⟩;rw[Zo]at h1;have n:plan[k]?=some plan[k]:=an h1;have b:=hp _ (Zs h1);rw[OZ (plan:=plan) (m:=⟨k,m2,s⟩) (l:=plan[k]) (by simp) (by simpa using n)];generalize f:plan[k]=l at *;rcases b with g|g
 .subst g
  refine yk func73 rfl (by kernel_rfl) (by simp[f73]) rfl (by intro i j h;rcases i with _|_|_|i<;>simp_all) ?_;intro C hP hN;simp only[f73]at hN|-;exact Gy
 .have w1:(0:Int)<(l.length:Int):=by omega
  have w2:0<l.length:=by omega
  have q:i64.wrap ((tick:Int)+1)=((tick+1:Nat):Int):=by rw[IntKind.wrap_i64];omega
  obtain⟨t1,c⟩:∃t1,t1=tick+1:=⟨_,rfl⟩;rw[<-c]at q|-
  have o:tick<l.length:=by omega
  have p:t1<l.length:=by omega
  have a0:=l6 o;have a1:=l6 p;generalize d:l[tick]=x at *;generalize e:l[t1]=y at *;rw[a0,a1,ZH w2,Zu];refine yk func73 rfl (by kernel_rfl) (by simp[f73]) rfl (by intro i j h;rcases i with _|_|_|i<;>simp_all) ?_;intro C hP hN;simp only[f73]at hN|-
  with_reducible repeat' (first|refine Sp.h ?_|((first|refine Wd ?_|refine Ss.h ?_|(refine Sb.h ?_ ?_ ?_<;>(try intro hgd)<;>try exact Xy))<;>simp -implicitDefEqProofs [hP,hN,n,f,h1,w1,w2,q,o,p,a0,a1,d,e]<;>try refine Ya ?_)|refine X2 ?_ ?_|(refine Xd ?_ ?_<;>intro hcd<;>try exact Xx))
  all_goals simp_all
abbrev IZ(es:List (List Int×Value)):PV:=.mp .i64 2 es
theorem XU(ms:List PV)(tick:Nat)(f a:Int)(es:List (List Int×Value))(p:Bool)(d:ms[tick]?=some (IZ es))(c:iS es [f,a]=if p=true then some (.bool true)else none):lR 74 (Z tick) (Z f) (Z a) (.rptr (.sl ms) 0) (B (!p)):=by
 have e:=(th.1 d).1;have g:=(th.1 d).2;refine Dp func74 λC hP hN=>?_
 cases p with
 |true=>
  have b:iS es [f,a]=some (.bool true):=c;exact Gy
 |false=>
  have b:iS es [f,a]=none:=c;exact Gy
def mC(i n:Nat):List AV:=(List.range n).map λw=>if w<i then .ext (.mp (w+300))else .pv (.val (.map none))
theorem Bo(i n:Nat):(mC i n).length=n:=by simp[mC]
theorem O0(n:Nat):mC 0 n=List.replicate n (.pv (.val (.map none))):=by
 simp[mC,List.map_const']
theorem O1(x:AV):((mC i n).set i x).set i (.ext (.mp (i+300)))=mC (i+1) n:=by
 rw[List.set_set];apply ZM;intro w;rw[Zg];simp only[Bo];by_cases a:w<n
 .by_cases e:i=w
  .subst e;simp[mC,a]
  .simp[mC,a,e,show(w<i+1↔w<i) by omega]
 .by_cases e:i=w
  .subst e;simp[mC,a]
  .simp[mC,a,e]
theorem SM{w:Nat}(h:w<i)(hn:w<n):(mC i n)[w]?=some (.ext (.mp (w+300))):=by simp[mC,hn,h]
theorem HI(ks:List Nat)(a:∀k∈ks,k<300)(i n:Nat):(mC i n).map (dK ks)=mC i n:=by
 unfold mC;rw[List.map_map];refine List.map_congr_left λw _=>?_
 have:ks.contains (w+300)=false:=by
  rw[<-Bool.not_eq_true];intro h;have:=a _ (List.contains_iff_mem.1 h);omega
 simp only[Function.comp];split<;>simp[oZ,fw,this];intro h;have:=a _ h;omega
def mF(g:Nat->List (List Int×Value))(n:Nat)(h:Hp):Prop:=∀v,v<n->h (v+300)=some (.mp .i64 2 (g v) false)
theorem Cy{ks:List Nat}(b:∀k∈ks,k<300){g:Nat->List (List Int×Value)}(h:mF g n st.h):mF g n (St.kill ks st).h:=by
 intro v c;have:=h v c
 have a:ks.contains (v+300)=false:=by
  rw[<-Bool.not_eq_true];intro h;have:=b _ (List.contains_iff_mem.1 h);omega
 simp only[St.kill,a,Y9,Zk,this];rfl
theorem FV{g:Nat->List (List Int×Value)}{h:Hp}:∀(l:List Nat),(∀v∈l,h (v+300)=some (.mp .i64 2 (g v) false))->sM h (l.map λv=>.ext (.mp (v+300)))=some (l.map λv=>IZ (g v))
 |[],_=>rfl
 |v::l,a=>by
  have h1:=a v (by simp);have b:=FV l λw c=>a w (by simp[c]);simp only[yAf,sM,wx,h1,b]
def sG(cs:List (Mov×Mov))(plan:List (List Int))(a:Int)(T:Nat):List PV:=(List.range T).map λv=>IZ (oL cs plan a v cs.length)
abbrev SN(cs:List (Mov×Mov))(plan:List (List Int))(a:Int)(T:Nat):PV:=.fn (.func 74) [] [.rptr (.sl (sG cs plan a T)) 0]
theorem XW(t:fQ)(plan:List (List Int))(b:Int)(T:Nat)(U:fv t=true)(b2:t.conf.length<=4096)(hp:plan.length=t.maps.length)(a6:∀l∈plan,l=[]\/l.length=T+1)(hT:T<=64):aW prog 36 [.pv (kA t),.pv (.sl (plan.map zs)),.pv (Z b),.pv (Z T)] [] [] (.new (SN t.conf plan b T)):=by
 have V:∀c∈t.conf,(0<=c.1.a/\c.1.a.toNat<plan.length)/\(0<=c.2.a/\c.2.a.toNat<plan.length):=by
  intro c bq;have h:=U;simp only[fv,up,L4]at h;have:=h.2.2.2.2 c bq;simp only[By,jr,up,dT]at this;omega
 refine Dp func36 λC hP hN=>?_
 with_reducible repeat' (first|refine Sp.h ?_|((first|refine Wh [1000015] ?_|refine Wi [1000015] ?_|refine Ss.h ?_|(refine Sb.h ?_ ?_ ?_<;>(try intro hgd)<;>try exact Xy))<;>simp -implicitDefEqProofs [hP,hN,show(T:Int)*8<=281474976710656 by omega,show 8*(T:Int)<=281474976710656 by omega,show(T:Int)<=9223372036854775807 by omega]<;>try refine Ya ?_)|refine X2 ?_ ?_|(refine Xd ?_ ?_<;>intro hcd<;>try exact Xx))
 refine WP.loopN [] T (λi st=>st.t 4=.ptr 4 0/\st.h 4=some (.box [.pv (.sl (t.maps.map bf)),.pv (.sl (t.conf.map bR))] true false)/\st.t 2=.pv (Z b)/\st.h 5=some (.box [.pv (.sl (plan.map zs))] true false)/\st.t 9=.ptr 9 0/\st.h 9=some (.box [.ext (.barr 15 T T)] true false)/\st.t 10=.fn (.func 73) [] [.ptr 5 0]/\st.t 18=.pv (Z T)/\st.t 19=.pv (Z i)/\st.h 15=some (.box (mC i T) true false)/\mF (λw=>oL t.conf plan b w t.conf.length) i st.h/\(∀w,i<=w->st.h (w+300)=none)/\st.h 24=none/\st.h 13=none) (by simp[O0,mF];try (intro w;simp[o6])) ?_;rintro i st hi ⟨g4,b4,g2,b5,H,G,o,p,r,d,A,z,n,m⟩;by_cases u:i<T
 .have cd:=ab u (by omega)
  have aj:i+1<=T:=u
  have ak:(i:Int)<(T:Int):=by omega
  obtain⟨cs,B⟩:∃cs,cs=mC i T:=⟨_,rfl⟩;rw[<-B]at d
  have J:cs.length=T:=by rw[B,Bo]
  have ca:cs.take i++AV.ext (.mp 24)::cs.drop (i+1)=cs.set i (.ext (.mp 24)):=ik (by omega)
  with_reducible iterate 12 any_goals (first|refine Sp.h ?_|((first|refine Ss.h ?_)<;>simp -implicitDefEqProofs [hP,hN,g4,b4,g2,b5,H,G,o,p,r,d,n,m,u,aj,ak,J,ca]))
  refine WP.rename 15 i 24 (i+300) (blk:=.mp .i64 2 [] false) (x:=.ext (.mp 24)) (y:=.ext (.mp (i+300))) (cs:=cs.set i (.ext (.mp 24))) (own:=true) (fb:=false) (by simp) (by simp[z i (Zf _)]) (by omega) (by simp) (by simp[J,u]) ⟨rfl,rfl⟩ ?_ ?_
  .intro w c U b8
   rw[Zg,Y6 (λe=>b8 e.symm),B]at U;simp only[mC,Y7,II]at U;obtain⟨q,hq,rfl⟩:=U;split<;>simp[oZ,fw]
  rw[B,O1];obtain⟨f,W⟩:∃f,f=t.conf:=⟨_,rfl⟩;rw[<-W]at V A b2 b4|-
  with_reducible iterate 2 any_goals (first|refine Sp.h ?_|((first|refine Ss.h ?_)<;>simp -implicitDefEqProofs [hP,hN,nW,g4,b4,g2,b5,H,G,o,p,r,d,n,m]))
  refine WP.loopN [13] f.length (λj st=>st.t 4=.ptr 4 0/\st.h 4=some (.box [.pv (.sl (t.maps.map bf)),.pv (.sl (f.map bR))] true false)/\st.t 2=.pv (Z b)/\st.h 5=some (.box [.pv (.sl (plan.map zs))] true false)/\st.t 9=.ptr 9 0/\st.h 9=some (.box [.ext (.barr 15 T T)] true false)/\st.t 10=.fn (.func 73) [] [.ptr 5 0]/\st.t 18=.pv (Z T)/\st.t 19=.pv (Z i)/\st.t 11=.pv (Z i)/\st.t 27=.pv (.sl (f.map bR))/\st.t 28=.pv (Z f.length)/\st.t 29=.pv (Z j)/\st.h 15=some (.box (mC (i+1) T) true false)/\mF (λw=>oL f plan b w f.length) i st.h/\st.h (i+300)=some (.mp .i64 2 (oL f plan b i j) false)/\(∀w,i+1<=w->st.h (w+300)=none)/\st.h 24=none/\st.h 13=none) (by
   simp[nW,g4,b4,g2,b5,H,G,o,p,r,d,n,m,oL];refine⟨HI _ (by simp) _ _,Cy (by simp) (st:=⟨_,_⟩) ?_,λw N=>by rw[Y6 (by omega),z w (by omega)];rfl⟩;intro v K
   simp[nW,A v K,show¬v=i by omega]) ?_
  clear g4 b4 g2 b5 H G o p r d n m A z;rintro j st hj ⟨g4,b4,g2,b5,H,G,o,p,r,P,Q,R,S,d,A,L,z,n,m⟩;obtain⟨D,s⟩:∃cs,cs=mC (i+1) T:=⟨_,rfl⟩
  have ad:D.length=T:=by rw[s,Bo]
  have ck:D[i]?=some (.ext (.mp (i+300))):=by rw[s];exact SM (by omega) u
  have a8:∀h,D[i]'h=.ext (.mp (i+300)):=λh=>(th.1 ck).2
  have X:∀ks:List Nat,(∀k∈ks,k<300)->D.map (dK ks)=D:=λks hk=>by rw[s];exact HI ks hk _ _
  have I:=X [] (by simp);have Y:=X [13] (by simp);by_cases E:j<f.length
  .have cc:=ab E (by omega)
   have a7:f[j]?=some f[j]:=an E;have F:=V _ (Zs E)
   have hE:oL f plan b i (j+1)=cE plan b i (oL f plan b i j) f[j]:=by rw[oL,a7]
   have O:=Tw plan f[j].2 i T F.2.1 F.2.2 a6 u hT;have cB:=Tw plan f[j].1 i T F.1.1 F.1.2 a6 u hT;generalize hx:f[j]=c at *;obtain⟨⟨c1,c2,c3⟩,⟨d1,d2,d3⟩⟩:=c;simp only at O cB;simp only[cE]at hE;generalize lK plan ⟨d1,d2,d3⟩ i=mA at *;generalize lK plan ⟨c1,c2,c3⟩ i=mB at *;generalize oL f plan b i (j+1)=cg at *;generalize oL f plan b i j=es at *;rw[<-s]at d|-;cases e1:(c1==b)<;>cases mA<;>cases e3:(d1==b)<;>cases mB
   all_goals
    simp only[e1,e3,Kr,Zu,ZI,Y9,Zp,Zk]at hE
    skip
    with_reducible repeat' (first|refine Sp.h ?_|((first|refine Wd ?_|refine Ss.h ?_|refine Sc.h (O) ?_|refine Sc.h (cB) ?_|(refine Sb.h ?_ ?_ ?_<;>(try intro hgd)<;>try exact Xy))<;>simp -implicitDefEqProofs [hP,hN,g4,b4,g2,b5,H,G,o,p,r,P,Q,R,S,d,L,n,m,E,cc,hx,a7,e1,e3,ad,ck,a8,u,I,Y]<;>try refine Yc ?_)|refine X2 ?_ ?_|(refine Xd ?_ ?_<;>intro hcd<;>try exact Xx))
   all_goals
    refine⟨Cy (by simp) (st:=⟨_,_⟩) ?_,hE.symm,by first|exact z|(intro w N;rw[Y6 (by omega)];exact z w N)|(intro w N;rw[Y6 (by omega),Y6 (by omega)];exact z w N)⟩;intro v K
    have cb:¬v=i:=by omega
    simp[A v K,cb]
  .have b7:j=f.length:=by omega
   rw[b7]at L;rw[<-s]at d|-
   with_reducible repeat' (first|refine Sp.h ?_|((first|refine Wd ?_|refine Ss.h ?_|(refine Sb.h ?_ ?_ ?_<;>(try intro hgd)<;>try exact Xy))<;>simp -implicitDefEqProofs [hP,hN,g4,b4,g2,b5,H,G,o,p,r,P,Q,R,S,d,n,m,E,cd,I]<;>try refine Ya ?_)|refine X2 ?_ ?_|(refine Xd ?_ ?_<;>intro hcd<;>try exact Xx))
   refine⟨Cy (by simp) (st:=⟨_,_⟩) ?_,λw N=>by rw[z w N]⟩;intro v K;by_cases e:v=i
   .subst e;exact L
   .exact A v (by omega)
 .have b3:i=T:=by omega
  subst b3
  have B:mC i i=(List.range i).map λv=>.ext (.mp (v+300)):=by
   unfold mC;refine List.map_congr_left λv K=>?_;rw[Zd (ZL.1 K)]
  have hW:=FV (g:=λw=>oL t.conf plan b w t.conf.length) (h:=st.h) (List.range i) (λv K=>A v (ZL.1 K));have M:sG t.conf plan b i=(List.range i).map λv=>IZ (oL t.conf plan b v t.conf.length):=rfl;rw[<-M,<-B]at hW;have ah:(mC i i).length=i:=Bo i i
  have ar:(sG t.conf plan b i).all jl=true:=by rw[M,L4];intro x hx;obtain⟨v,_,rfl⟩:=Zv.1 hx;rfl
  generalize sG t.conf plan b i=ps at *;generalize mC i i=cs at *
  with_reducible repeat' (first|refine Sp.h ?_|((first|refine Wd ?_|refine Ss.h ?_|(refine Sb.h ?_ ?_ ?_<;>(try intro hgd)<;>try exact Xy))<;>simp -implicitDefEqProofs [hP,hN,g4,b4,g2,b5,H,G,o,p,r,d,n,m,hW,ah]<;>try refine Ya ?_)|refine X2 ?_ ?_|(refine Xd ?_ ?_<;>intro hcd<;>try exact Xx))
  all_goals rw[Zd (by intro x hx;exact L4.1 ar x hx)]
  all_goals (simp;exact M)
def lp(x:List Int):List Int:=x++List.replicate (10-x.length) 0
theorem MR(h:x.length<=10):(lp x).length=10:=by simp[lp];omega
theorem MS{y:List Int}(h:x.length=y.length)(e:lp x=lp y):x=y:=by
 unfold lp at e;exact(List.append_inj e h).1
def zx(js:List J)(ms:List Ms)(acc:List (List Int))(x:List Int):List (List Int):=if aY js ms x=true then(if acc.contains x=true then acc else acc++[x])else acc
def jv(js:List J)(ms:List Ms)(P:List (List Int)):List (List Int):=P.foldl (zx js ms) []
theorem pI(h:P[i]?=some x):jv js ms (P.take (i+1))=zx js ms (jv js ms (P.take i)) x:=by
 obtain⟨hi,a⟩:=th.1 h;unfold jv;rw[ZR hi,yA5,a];rfl
theorem CM(js:List J)(ms:List Ms)(P:List (List Int)):∀i,(jv js ms (P.take i)).length<=i
 |0=>by simp[jv]
 |i+1=>by
  have ih:=CM js ms P i;by_cases hi:i<P.length
  .rw[pI (an hi)]
   unfold zx;split
   .split
    .omega
    .simp only[Zq,Z6];omega
   .omega
  .rw[Zw (by omega)]
   rw[Zw (by omega)]at ih;omega
theorem KU(js:List J)(ms:List Ms)(P:List (List Int)):∀i,∀y∈jv js ms (P.take i),aY js ms y=true
 |0=>by simp[jv]
 |i+1=>by
  have ih:=KU js ms P i;by_cases hi:i<P.length
  .rw[pI (an hi)]
   unfold zx;split
   .rename_i h1
    split
    .exact ih
    .intro y a
     rcases Zm.1 a with a|a
     .exact ih y a
     .simp at a;subst a;exact h1
   .exact ih
  .rw[Zw (by omega)]
   rw[Zw (by omega)]at ih;exact ih
def xU(acc:List (List Int)):List (List Int×Value):=acc.map λx=>(lp x,.bool true)
theorem Gh{n:Nat}{x:List Int}(d:x.length=n):∀(acc:List (List Int)),(∀y∈acc,y.length=n)->iS (xU acc) (lp x)=if acc.contains x=true then some (.bool true)else none
 |[],_=>by simp[xU,iS]
 |y::r,h=>by
  have ih:=Gh d r λz f=>h z (by simp[f]);have g:=h y (by simp);simp only[xU,yAf,iS];by_cases e:y=x
  .subst e;simp
  .have a:¬lp y=lp x:=λc=>e (MS (by omega) c)
   rw[Y6 a]
   have b:(x==y)=false:=by simp;exact λh=>e h.symm
   rw[show iS (List.map (λx=>(lp x,Value.bool true)) r) (lp x)=iS (xU r) (lp x) from rfl,ih,List.contains_cons,b,Bool.false_or]
theorem MT{acc:List (List Int)}(h:iS (xU acc) (lp x)=none):lS (xU acc) (lp x) (.bool true)=xU (acc++[x]):=by
 have:∀(es:List (List Int×Value))(k:List Int),iS es k=none->lS es k (.bool true)=es++[(k,.bool true)]:=by
  intro es k
  induction es with
  |nil=>intro _;rfl
  |cons a r ih=>
   obtain⟨c,v⟩:=a;intro h;simp only[iS]at h;split at h
   .cases h
   .rename_i b
    simp only[lS,Y6 b,ih h,List.cons_append]
 rw[this _ _ h];simp[xU]
theorem lM(h:aY js ms x=true):x.length=js.length/\1<=x.length/\x.length<=10:=by
 simp only[aY,up,Is]at h;have:=Ij h.1.1;omega
theorem RO(xs:List Int)(c:xs.length<=16777216)(b:xs≠[]):aR 111 (zs xs) (zs xs):=by
 have a:xs.isEmpty=false:=by simp[b]
 refine Dp func111 λC hP hN=>?_;exact Ta [5] (go b a (show xs.length*8<=140737488355328 by omega) (show xs.length<=9223372036854775807 by omega))
theorem Gi:∀K:List Int,jk (K.map λz=>AV.pv (Z z))=some (K.map Z)
 |[]=>rfl
 |z::r=>by simp only[yAf,jk,Gi r,ZS]
theorem DD:∀K:List Int,cW (K.map Z)=some (K.map (Value.int .i64))
 |[]=>rfl
 |z::r=>by simp only[yAf,cW,DD r,ZS]
theorem DE:∀K:List Int,mc .i64 (K.map (Value.int .i64))=some K
 |[]=>rfl
 |z::r=>by simp only[yAf,mc,Zp,DE r,ZS]
theorem YE(js:List J)(ms:List Ms)(P:List (List Int))(hl:js.length<=9223372036854775807)(hm:ms.length<=9223372036854775807)(ad:P.length<=1024):aF 66 (eK js ms) (.sl (P.map zs)) (.sl ((jv js ms P).map zs)):=by
 have X:=λ(x:List Int)=>Ld js ms x hl hm
 have B:jv js ms (P.take P.length)=jv js ms P:=by rw[yAS]
 refine Dp func66 λC hP hN=>?_;refine ki [5] trivial ?_;refine WP.loopN [9] P.length (λi st=>st.t 2=.ptr 2 0/\st.h 2=some (.box [.pv (.sl (js.map aO)),.pv (.sl (ms.map aX))] true false)/\st.t 5=.arr 5 (jv js ms (P.take i)).length/\st.h 5=some (.row 61 1 ((jv js ms (P.take i)).map zs) 0)/\st.t 6=.ext (.mp 10)/\st.h 10=some (.mp .i64 10 (xU (jv js ms (P.take i))) false)/\st.t 11=.pv (.sl (P.map zs))/\st.t 12=.pv (Z P.length)/\st.t 13=.pv (Z i)/\st.h 9=none) (by simp[jv,xU]) ?_;rintro i st hi ⟨g2,b2,g5,b5,m,a,b,c,d,I⟩;have hL:=CM js ms P i;by_cases k:i<P.length
 case neg=>
  have L:i=P.length:=by omega
  subst L;rw[B]at g5 b5 a;exact Gy
 have R:=ab k (by omega);have H:P[i]?=some P[i]:=an k;have u:=pI (js:=js) (ms:=ms) H;have M:=KU js ms P i;have c1:=X P[i];generalize v:P[i]=x at *;generalize jv js ms (P.take i)=acc at *
 have s:((acc.length:Int)==1024)=false:=by simp;omega
 cases g:aY js ms x with
 |false=>
  rw[g]at c1
  have f:jv js ms (P.take (i+1))=acc:=by rw[u,zx,Y6 (by rw[g];decide)]
  exact GS (zAe g2 b2 g5 b5 m a b c d I k R H v (gA s f))
 |true=>
  rw[g]at c1;obtain⟨x0,V,W⟩:=lM g;have p:=MR W;have D:=Gh (x:=x) x0 acc λy hy=>(lM (M y hy)).1;have Q:=λh=>MT (acc:=acc) (x:=x) h
  have n:x.map (λz=>AV.pv (Z z))++(List.replicate (10-x.length) (AV.pv (Z 0)))=(lp x).map λz=>AV.pv (Z z):=by simp[lp]
  have A:(List.replicate 10 (AV.pv (Z 0))).drop x.length=List.replicate (10-x.length) (AV.pv (Z 0)):=by rw[List.drop_replicate]
  generalize lp x=K at *;obtain⟨j,hj,N⟩:∃j,prog.info? 2=some j/\j.size=1:=⟨_,rfl,rfl⟩
  with_reducible repeat' (first|refine Sp.h ?_|((with_unfolding_all refine WP.copyArr rfl rfl rfl rfl rfl rfl rfl rfl rfl (by intro Y;cases Y) (by decide) ?_);simp -implicitDefEqProofs (maxSteps:=2000000) [hP,hN,g2,b2,g5,b5,m,a,b,c,d,I,k,H,v,s])|((first|refine Ss.h ?_|refine Sc.h (c1) ?_|(refine Sb.h ?_ ?_ ?_<;>(try intro hgd)<;>try exact Xy))<;>simp -implicitDefEqProofs (maxSteps:=2000000) [hP,hN,g2,b2,g5,b5,m,a,b,c,d,I,k,H,v,s])|refine X2 ?_ ?_|(refine Xd ?_ ?_<;>intro hcd<;>try exact Xx))
  refine⟨by intro e;subst e;simp at V,10,W,rfl,2,⟨rfl,rfl⟩,rfl,j,hj,N,?_⟩
  have q1:(acc.length+1)*24<=140737488355328:=by omega
  have q2:acc.length+1<=9223372036854775807:=by omega
  have cl:=RO x (by omega) (by intro e;subst e;simp at V);obtain⟨o,l⟩:∃o,o=K.map λz=>AV.pv (Z z):=⟨_,rfl⟩;refine WP.of_st (P:=λst=>st.t 2=.ptr 2 0/\st.h 2=some (.box [.pv (.sl (js.map aO)),.pv (.sl (ms.map aX))] true false)/\st.t 5=.arr 5 acc.length/\st.h 5=some (.row 61 1 (acc.map zs) 0)/\st.t 6=.ext (.mp 10)/\st.h 10=some (.mp .i64 10 (xU acc) false)/\st.t 11=.pv (.sl (P.map zs))/\st.t 12=.pv (Z P.length)/\st.t 13=.pv (Z i)/\st.t 8=.pv (zs x)/\st.t 9=.ptr 9 0/\st.h 9=some (.box o true false)) ⟨?_,?_⟩
  .refine⟨by simp[g2],by simp[b2],by simp[g5],by simp[b5],by simp[m],by simp[a],by simp[b],by simp[c],by simp[d],by simp,by simp,?_⟩
   rw[l,<-n,<-A];simp
  obtain⟨E,q⟩:∃E,E=K.map Z:=⟨_,rfl⟩;obtain⟨F,r⟩:∃F,F=K.map (Value.int .i64):=⟨_,rfl⟩
  have k1:o.length=10:=by rw[l];simp[p]
  have k2:o.take 10=o:=Zw (by omega)
  have k3:jk o=some E:=by rw[l,q];exact Gi K
  have k4:cW E=some F:=by rw[q,r];exact DD K
  have k5:mc .i64 F=some K:=by rw[r];exact DE K
  clear l q r n A g2 b2 g5 b5 m a b c d I st;rintro st ⟨g2,b2,g5,b5,m,a,b,c,d,T,U,S⟩
  cases G:acc.contains x with
  |true=>
   rw[Zd G]at D
   have f:jv js ms (P.take (i+1))=acc:=by rw[u,zx,Zd g,Zd G]
   exact GS (zAe g2 b2 g5 b5 m a b c d T U S R k1 (zAa k2 k3 k4 k5 p D f))
  |false=>
   rw[Y6 (by rw[G];decide)]at D;have O:=Q D
   have f:jv js ms (P.take (i+1))=acc++[x]:=by rw[u,zx,Zd g,Y6 (by rw[G];decide)]
   exact GS (zAe g2 b2 g5 b5 m a b c d T U S R k1 (zAc k2 k3 k4 k5 p D O f q1 q2))
theorem qk(_:m=n)(a:Array Value):∀k,k<n->k<a.size+(n-a.size):=by intro k h;omega
theorem PW{P:Program}{g:FuncId}(h:gR P g:=by
 refine⟨by kernel_rfl,λargs w=>?_⟩;refine callsD_of_wpS hf rfl λd f e=>?_;apply wpS_seq;apply wpS_region;have a:=qk nt args;have b:=a 0 (by decide);have h1:=a 1 (by decide);have c:=a 2 (by decide);simp[wpOpsS,go_sem,recoverD,e,nt,Exit.thenS,b,h1,c];refine wpS_cond (t:=false) (by simp[Act.eval,b,h1,c]) ?_;simp only[Y9,Zk];refine wpS_of_wp (wp_skip ?_);cases d
 simp_all[bodyPostS,results,rs]):gR P g:=h
theorem PX{P:Program}{g:FuncId}(h:gR P g:=by
 refine⟨by kernel_rfl,λargs w=>?_⟩;refine callsD_of_wpS hf rfl λe i f=>?_;apply wpS_seq;apply wpS_region;have a:=qk nt args;have b:=a 0 (by decide);have h1:=a 1 (by decide);have c:=a 2 (by decide);have d:=a 3 (by decide);simp[wpOpsS,go_sem,recoverD,f,nt,Exit.thenS,b,h1,c,d];refine wpS_cond (t:=false) (by simp[Act.eval,b,h1,c,d]) ?_;simp only[Y9,Zk];refine wpS_of_wp (wp_skip ?_);cases e
 simp_all[bodyPostS,results,rs]):gR P g:=h
def cO(P:List (List Int))(u:Int):List Int:=(P[u.toNat]?).getD []
def fy(js:List J)(ms:List Ms)(P:List (List Int))(e:aB):Bool:=ln P.length e&&(decide (e.u<e.v)&&(decide (e.c=ew js ms (cO P e.u) (cO P e.v))&&((decide (0<=e.s)&&(decide (e.s<=3)&&decide (e.rest.k1=vN e.s)))&&(decide (e.s≠0)||rf e.rest))))
def uD(js:List J)(ms:List Ms)(P:List (List Int)):Bool:=decide ((jv js ms P).length=P.length)
def lq(js:List J)(ms:List Ms)(P:List (List Int))(es:List aB):Bool:=decide (aP js ms=0)&&(decide (P.length<=1024)&&(decide (es.length<=8192)&&(uD js ms P&&(jq P.length es&&es.all (fy js ms P)))))
def vO(es:List aB)(i:Nat)(e:aB):Bool:=match i with
 |0=>true
 |i+1=>match es[i]? with
  |some a=>decide (a.u<e.u\/(a.u=e.u/\a.v<e.v))
  |none=>true
theorem MU{y:aB}(h:es[m]?=some y):vO es (m+1) e=decide (y.u<e.u\/(y.u=e.u/\y.v<e.v)):=by unfold vO;simp only[h]
theorem KV(c:es[i]?=some e)(h:ln n e=true)(f:e.u<e.v):xJ n (gq es i) e=vO es i e:=by
 simp only[ln,eY,up,Is]at h
 cases i with
 |zero=>
  unfold xJ gq vO;simp;omega
 |succ i=>
  have d:=(th.1 c).1;have a:es[i]?=some es[i]:=an (by omega)
  have b:vO es (i+1) e=decide (es[i].u<e.u\/(es[i].u=e.u/\es[i].v<e.v)):=by unfold vO;simp only[a]
  rw[xI a,b];unfold xJ;rw[Bool.eq_iff_iff];simp;omega
theorem vP(h:fy js ms P e=true):ln P.length e=true/\e.u<e.v:=by
 simp only[fy,up,Is]at h;exact⟨h.1,h.2.1⟩
def HT(js:List J)(ms:List Ms)(P:List (List Int))(es:List aB)(i:Nat):Prop:=∀j e,j<i->es[j]?=some e->fy js ms P e=true/\vO es j e=true
theorem Pw(h:HT js ms P es i)(hi:¬i<es.length):(jq P.length es&&es.all (fy js ms P))=true:=by
 rw[up];refine⟨pH.2 λj e b a=>?_,L4.2 λe a=>?_⟩
 .obtain⟨h1,c⟩:=h j e (by omega) a
  obtain⟨d,f⟩:=vP h1;rw[KV a d f];exact c
 .obtain⟨j,b⟩:=ZF a
  exact(h j e (by have:=(th.1 b).1;omega) b).1
theorem MV(a:es[i]?=some e)(h:(fy js ms P e&&vO es i e)=false):(jq P.length es&&es.all (fy js ms P))=false:=by
 rw[<-Bool.not_eq_true,up];rintro⟨h1,c⟩;have b:=L4.1 c e (An a);obtain⟨d,h5⟩:=vP b;have h6:=pH.1 h1 i e (th.1 a).1 a;rw[KV a d h5]at h6;rw[b,h6]at h;cases h
theorem HU{js:List J}{ms:List Ms}{P:List (List Int)}{k:Nat}(a:k<=P.length)(h:(jv js ms (P.take k)).length+1<=k):∀d,k+d<=P.length->(jv js ms (P.take (k+d))).length+1<=k+d
 |0,_=>h
 |d+1,hd=>by
  have ih:=HU a h d (by omega);rw[show k+(d+1)=k+d+1 by omega,pI (an (show k+d<P.length by omega))];unfold zx;split
  .split
   .omega
   .simp only[Zq,Z6];omega
  .omega
theorem Gj(a:P[i]?=some x)(h:aY js ms x=false\/(jv js ms (P.take i)).contains x=true):uD js ms P=false:=by
 have hi:=(th.1 a).1
 have h1:(jv js ms (P.take (i+1))).length+1<=i+1:=by
  rw[pI a];have:=CM js ms P i;unfold zx;rcases h with h|h
  .rw[Y6 (by rw[h];decide)];omega
  .split
   .first|omega|(rw[Zd h];omega)
   .omega
 have b:=HU (show i+1<=P.length by omega) h1 (P.length-(i+1)) (by omega);rw[show i+1+(P.length-(i+1))=P.length by omega,yAS]at b;unfold uD;exact Z9 (by omega)
theorem lN(h:uD js ms P=true):∀x∈P,aY js ms x=true:=by
 intro x b;obtain⟨i,hi⟩:=ZF b
 cases a:aY js ms x with
 |true=>rfl
 |false=>rw[Gj hi (.inl a)]at h;cases h
theorem YF(js:List J)(ms:List Ms)(P:List (List Int))(es:List aB)(e:aB)(N:js.length<=9223372036854775807)(O:ms.length<=9223372036854775807)(M:P.length<=1024)(hp:∀x∈P,x.length<=9223372036854775807):gu 67 (eK js ms) (bf ⟨P.map zs,es⟩) (iV e) (B (fy js ms P e)):=by
 have p:=WQ ⟨P.map zs,es⟩ e (by simp;omega);have I:=WR e.s;have E:=WS e.rest;rw[show(⟨P.map zs,es⟩:eR).np.length=P.length by simp]at p
 cases h1:ln P.length e with
 |false=>
  rw[h1]at p;rw[show fy js ms P e=false by unfold fy;rw[h1];rfl];refine Dp func67 λC hP hN=>?_;exact Gy
 |true=>
 rw[h1]at p;by_cases q:e.u<e.v
 case neg=>
  rw[show fy js ms P e=false by unfold fy;rw[h1];simp[q]]
  have f:e.v<=e.u:=by omega
  refine Dp func67 λC hP hN=>?_;exact Gy
 have f:¬e.v<=e.u:=by omega
 have k:=h1;simp only[ln,eY,up,Is]at k;obtain⟨u,z⟩:∃u:Nat,e.u=u:=⟨e.u.toNat,by omega⟩;obtain⟨v,A⟩:∃v:Nat,e.v=v:=⟨e.v.toNat,by omega⟩
 have b:u<P.length:=by omega
 have d:v<P.length:=by omega
 have l:cO P e.u=P[u]:=by rw[cO,z,Zo,an b];rfl
 have m:cO P e.v=P[v]:=by rw[cO,A,Zo,an d];rfl
 have Q:=Um js ms P[u] P[v] N O (hp _ (Zs b)) (hp _ (Zs d));have n:P[u]?=some P[u]:=an b;have o:P[v]?=some P[v]:=an d
 have H:fy js ms P e=(decide (e.c=ew js ms P[u] P[v])&&((decide (0<=e.s)&&(decide (e.s<=3)&&decide (e.rest.k1=vN e.s)))&&(decide (e.s≠0)||rf e.rest))):=by
  unfold fy;rw[h1,l,m,ZH q,Zu,Zu]
 rw[H];clear H l m h1 k;generalize ew js ms P[u] P[v]=F at *;generalize g:P[u]=S at *;generalize i:P[v]=pv at *;obtain⟨R,ev,G,a,rest⟩:=e;simp only at p I E z A q f|-;subst z A;generalize rf rest=T at *;obtain⟨k1,k2,k3,k4,k5,k6,k7,k8⟩:=rest;simp only at E|-;generalize vN a=D at *;by_cases r:G=F
 case neg=>
  have K:(G !=F)=true:=by simp[r]
  rw[Z9 r,ZI];refine Dp func67 λC hP hN=>?_;exact Gy
 subst r;rw[ZH rfl,Zu];by_cases L:a<0
 .rw[Z9 (show¬0<=a by omega),ZI,ZI]
  refine Dp func67 λC hP hN=>?_;exact Gy
 rw[ZH (show 0<=a by omega),Zu];by_cases h5:3<a
 .rw[Z9 (show¬a<=3 by omega),ZI,ZI]
  refine Dp func67 λC hP hN=>?_;exact Gy
 rw[ZH (show a<=3 by omega),Zu];by_cases h6:k1=D
 case neg=>
  have j:(k1 !=D)=true:=by simp[h6]
  rw[Z9 h6,ZI];refine Dp func67 λC hP hN=>?_;exact Gy
 have j:(k1 !=D)=false:=by simp[h6]
 rw[ZH h6,Zu];by_cases h7:a=0
 .subst h7
  refine Dp func67 λC hP hN=>?_;exact GS (zAb f b d n o g i j)
 .have y:(a !=0)=true:=by simp[h7]
  rw[ZH h7];refine Dp func67 λC hP hN=>?_;exact GS (zAc f b d n o g i L h5 (gA j y))
set_option maxRecDepth 100000 in
@[simp] theorem Xb:gR prog 64:=by
 have hf:=func64;have nt:=ntmps64;have rs:=results64;exact PW
theorem YG(js:List J)(ms:List Ms)(P:List (List Int))(es:List aB)(z:js.length<=9223372036854775807)(D:ms.length<=9223372036854775807)(Y:P.length<=9223372036854775807)(q:es.length<=9223372036854775807)(hp:∀x∈P,x.length<=9223372036854775807):aF 30 (eK js ms) (bf ⟨P.map zs,es⟩) (B (lq js ms P es)):=by
 have O:=C7 js ms z D;by_cases h1:aP js ms=0
 case neg=>
  have X:(aP js ms !=0)=true:=by simp[h1]
  rw[show lq js ms P es=false by unfold lq;rw[Z9 h1];rfl];refine Dp func30 λC hP hN=>?_;exact Gy
 rw[h1]at O;by_cases h2:1024<P.length
 .have l:(1024:Int)<P.length:=by omega
  rw[show lq js ms P es=false by unfold lq;rw[Z9 (show¬P.length<=1024 by omega)];simp];refine Dp func30 λC hP hN=>?_;exact Gy
 have l:¬(1024:Int)<P.length:=by omega
 by_cases h3:8192<es.length
 .have n:(8192:Int)<es.length:=by omega
  rw[show lq js ms P es=false by unfold lq;rw[Z9 (show¬es.length<=8192 by omega)];simp];refine Dp func30 λC hP hN=>?_;exact Gy
 have n:¬(8192:Int)<es.length:=by omega
 have cd:=YE js ms P z D (by omega)
 have K:lq js ms P es=(uD js ms P&&(jq P.length es&&es.all (fy js ms P))):=by
  unfold lq;rw[ZH h1,ZH (show P.length<=1024 by omega),ZH (show es.length<=8192 by omega)];simp
 rw[K];clear K;by_cases G:(jv js ms P).length=P.length
 case neg=>
  have o:(((jv js ms P).length:Int)!=P.length)=true:=by simp;omega
  rw[show uD js ms P=false from Z9 G,ZI];refine Dp func30 λC hP hN=>?_;exact Gy
 rw[show uD js ms P=true from ZH G,Zu]
 have o:(((jv js ms P).length:Int)!=P.length)=false:=by simp;omega
 have S:=λ(e:aB)=>YF js ms P es e z D (by omega) hp;have Q:=YA;have hS:=λ(i:Nat)(e:aB)(f:es[i]?=some e)=>MV (js:=js) (ms:=ms) (P:=P) f;have H:=λ(h:HT js ms P es es.length)=>Pw h (Nat.lt_irrefl _);obtain⟨N,a⟩:∃R,R=(jq P.length es&&es.all (fy js ms P)):=⟨_,rfl⟩;rw[<-a]at H|-;simp only[<-a]at hS;clear a;refine Dp func30 λC hP hN=>?_;refine Gz ?_;refine WP.loopN [6] es.length (λi st=>st.t 2=.ptr 2 0/\st.h 2=some (.box [.pv (.sl (js.map aO)),.pv (.sl (ms.map aX))] true false)/\st.t 3=.ptr 3 0/\st.h 3=some (.box [.pv (.sl (P.map zs)),.pv (gp es)] true false)/\st.t 4=.ptr 4 0/\st.h 4=some (.box [.pv (B false)] true false)/\st.t 33=.pv (gp es)/\st.t 34=.pv (Z es.length)/\st.t 35=.pv (Z i)/\st.h 6=none/\HT js ms P es i) (by simp[HT]) ?_;rintro i st hi ⟨g2,b2,g3,b3,g4,b4,T,U,V,n6,hq⟩;by_cases g:i<es.length
 case neg=>
  have r:i=es.length:=by omega
  subst r;rw[H hq];exact Gy
 have hw:=ab g q;have L:es[i]?=some es[i]:=an g;have b:=hS i es[i] L;have c1:=S es[i]
 have I:fy js ms P es[i]=true->vO es i es[i]=true->HT js ms P es (i+1):=λh5 h6 j e hj f=>by
  by_cases s:j=i
  .subst s
   have:e=es[j]:=by rw[L]at f;exact(ZQ f).symm
   subst this;exact⟨h5,h6⟩
  .exact hq j e (by omega) f
 by_cases W:i=0
 .subst W
  generalize E:es[0]=x at *
  cases h5:fy js ms P x with
  |false=>
   rw[h5]at c1;rw[b (by rw[h5];rfl)];exact Gy
  |true=>
   rw[h5]at c1;have p:HT js ms P es 1:=I h5 rfl;have ah:i64.wrap 1=1:=hw;exact Gy
 .obtain⟨m,k⟩:∃m,i=m+1:=⟨i-1,by omega⟩
  have A:m<es.length:=by omega
  have F:es[m]?=some es[m]:=an A;have c2:=Q es[m] es[i];have c:=MU (e:=es[i]) F;rw[<-k]at c;have d:=Pv es[m] es[i]
  have aj:i64.wrap ((i:Int)-1)=(m:Int):=by rw[IntKind.wrap_i64];omega
  have ad:0<i:=by omega
  generalize E:es[i]=x at *;generalize M:es[m]=y at *;clear k
  cases h5:fy js ms P x with
  |false=>
   rw[h5]at c1;rw[b (by rw[h5];rfl)];exact Gy
  |true=>
   rw[h5]at c1;by_cases h6:(y.u<x.u\/(y.u=x.u/\y.v<x.v))
   .rw[ZH h6]at c
    have h7:¬0<=CK y x:=by rw[d];exact λh=>h h6
    have p:=I h5 c;exact Gy
   .rw[Z9 h6]at c
    have h7:0<=CK y x:=by rw[d];exact h6
    rw[b (by rw[h5,c];rfl)];exact Gy
def MW(js:List J)(ms:List Ms)(P:List (List Int))(e:aB):Bool:=decide (e.c=ew js ms (cO P e.u) (cO P e.v))&&((decide (0<=e.s)&&(decide (e.s<=3)&&decide (e.rest.k1=vN e.s)))&&(decide (e.s≠0)||rf e.rest))
theorem MX(h:jq P.length es=true)(b:es[i]?=some e):fy js ms P e=MW js ms P e/\ln P.length e=true/\e.u<e.v:=by
 have h1:=pH.1 h i e (th.1 b).1 b;simp only[xJ,up,Is]at h1
 have a:ln P.length e=true:=by simp only[ln,eY,up,Is];omega
 refine⟨?_,a,h1.2.1⟩;unfold fy MW;rw[a,ZH h1.2.1,Zu,Zu]
def KW(js:List J)(ms:List Ms)(P:List (List Int))(es:List aB)(i:Nat):Prop:=∀j e,j<i->es[j]?=some e->fy js ms P e=true
theorem Px(h:KW js ms P es i)(hi:¬i<es.length):es.all (fy js ms P)=true:=
 L4.2 λe b=>by
  obtain⟨j,a⟩:=ZF b;exact h j e (by have:=(th.1 a).1;omega) a
theorem MY(c:es[i]?=some e)(h:fy js ms P e=false):es.all (fy js ms P)=false:=by
 rw[<-Bool.not_eq_true];intro a;have b:=L4.1 a e (An c);rw[b]at h;cases h
def xV(js:List J)(ms:List Ms)(P:List (List Int))(i:Nat):Prop:=jv js ms (P.take i)=P.take i
theorem MZ(h:xV js ms P i)(c:P[i]?=some x)(h1:aY js ms x=true)(d:¬0<=DC (P.take i) x):xV js ms P (i+1):=by
 obtain⟨hi,f⟩:=th.1 c;unfold xV at h|-;rw[pI c,zx,Zd h1,h,Y6,ZR hi,f];intro b;apply d;have a:=kR (λy=>decide (y=x)) (P.take i)
 have e:(P.take i).any (λy=>decide (y=x))=true:=by
  rw[yAT];rw[List.contains_iff_mem]at b;exact⟨x,b,by simp⟩
 rw[e,Is]at a;exact a
theorem Py(h:xV js ms P i)(d:P[i]?=some x)(a:aY js ms x=false\/0<=DC (P.take i) x):uD js ms P=false:=by
 refine Gj d (a.imp_right λa=>?_);unfold xV at h;rw[h,List.contains_iff_mem];have b:=kR (λy=>decide (y=x)) (P.take i);have h5:decide (0<=lV (λy=>decide (y=x)) (P.take i))=true:=ZH a;rw[h5]at b;obtain⟨y,e,c⟩:=yAT.1 b.symm;simp at c;subst c;exact e
theorem Pz(h:xV js ms P P.length):uD js ms P=true:=by
 unfold xV at h;rw[yAS]at h;unfold uD;rw[h];simp
theorem PA{R:List PV}(h:R.all (pV 1)=true)(c:k<=R.length)(z:Option Value)(e n b:Nat)(y:Option Value):iW {size:=n,zero:=z,kind:=TK.slice e 1 b y} (.pv (.sl R)) none (some (.pv (.val (.int .i64 (k:Int)))))=some (.pv (.sl (R.take k))):=by
 have a:(0:Int)<=(k:Int):=by omega
 simp only[iW,Zd a,Zo];rw[Zd ⟨by omega,c,by decide,h⟩,yBl]
theorem YH(js:List J)(ms:List Ms)(P:List (List Int))(es:List aB)(V:js.length<=9223372036854775807)(W:ms.length<=9223372036854775807)(D:P.length<=9223372036854775807)(I:es.length<=9223372036854775807)(hp:∀x∈P,x.length<=9223372036854775807):aF 59 (eK js ms) (bf ⟨P.map zs,es⟩) (B (lq js ms P es)):=by
 have cc:=qF js ms V W;have co:=Yj ⟨P.map zs,es⟩ (by simpa using D) I;by_cases h1:aP js ms=0
 case neg=>
  have q:(aP js ms !=0)=true:=by simp[h1]
  rw[show lq js ms P es=false by unfold lq;rw[Z9 h1];rfl];refine Dp func59 λC hP hN=>?_;exact Gy
 rw[h1]at cc
 have X:sH ⟨P.map zs,es⟩=(jq P.length es&&(decide (P.length<=1024)&&decide (es.length<=8192))):=by unfold sH;simp
 have hV:lq js ms P es=(sH ⟨P.map zs,es⟩&&(uD js ms P&&es.all (fy js ms P))):=by
  rw[X];unfold lq;rw[ZH h1];cases decide (P.length<=1024)<;>cases decide (es.length<=8192)<;>cases uD js ms P<;>cases jq P.length es<;>simp
 rw[hV]
 cases r:sH ⟨P.map zs,es⟩with
 |false=>
  rw[r]at co;refine Dp func59 λC hP hN=>?_;exact Gy
 |true=>
 rw[r]at co;rw[Zu]
 have Y:jq P.length es=true:=by rw[X,up]at r;exact r.1
 have hS:=λ(i:Nat)(e:aB)(H:es[i]?=some e)=>MY (js:=js) (ms:=ms) (P:=P) H;have hE:=λ(h:KW js ms P es es.length)=>Px h (Nat.lt_irrefl _);have hB:=λ(i:Nat)(x:List Int)(h:xV js ms P i)(d:P[i]?=some x)=>Py h d;have hF:=λ(h:xV js ms P P.length)=>Pz h;have ci:=λ(x:List Int)=>Nn js ms x V W;have cp:=λ(i:Nat)(x:List Int)(d:x.length<=9223372036854775807)=>TA (P.take i) x (by rw[ZP];omega) (λy hy=>hp y (yAO hy)) d;have cd:=λ(x y:List Int)(d:x∈P)(hy:y∈P)=>Qc js ms x y V W (hp x d) (hp y hy);have ck:=YC;have cz:=YD;clear X hV r;refine Dp func59 λC hP hN=>?_;refine Gz ?_;refine WP.loopN [] P.length (λi st=>st.t 2=.ptr 2 0/\st.h 2=some (.box [.pv (.sl (js.map aO)),.pv (.sl (ms.map aX))] true false)/\st.t 3=.ptr 3 0/\st.h 3=some (.box [.pv (.sl (P.map zs)),.pv (gp es)] true false)/\st.t 5=.pv (Z i)/\st.h 7=none/\xV js ms P i) (by simp[xV,jv]) ?_;rintro i st hi ⟨g2,b2,g3,b3,g5,Q,hq⟩;by_cases c:i<P.length
 .have hw:=ab c D
  have d:P[i]?=some P[i]:=an c;have c1:=ci P[i];have O:=cp i P[i] (hp _ (Zs c));have F:=hB i P[i] hq d;rw[List.map_take]at O
  have T:i<=P.length:=by omega
  have ak:=PA (R:=P.map zs) (k:=i) (by simp[pV,PV.cells]) (by simpa using T)
  cases h5:aY js ms P[i]with
  |false=>
   rw[h5]at c1;rw[F (.inl h5),ZI];generalize f:P[i]=x at *;exact Gy
  |true=>
   rw[h5]at c1;by_cases h6:0<=DC (P.take i) P[i]
   .rw[F (.inr h6),ZI]
    generalize f:P[i]=x at *;exact Gy
   .have n:=MZ hq d h5 h6
    generalize f:P[i]=x at *;exact Gy
 have A:i=P.length:=by omega
 subst A;rw[hF hq,Zu];clear hF hB cp ci;obtain⟨ad,g⟩:∃R,R=es.all (fy js ms P):=⟨_,rfl⟩;rw[<-g]at hE|-;simp only[<-g]at hS;clear g hq;refine Gz ?_;refine WP.loopN [7] es.length (λi st=>st.t 2=.ptr 2 0/\st.h 2=some (.box [.pv (.sl (js.map aO)),.pv (.sl (ms.map aX))] true false)/\st.t 3=.ptr 3 0/\st.h 3=some (.box [.pv (.sl (P.map zs)),.pv (gp es)] true false)/\st.t 6=.pv (Z i)/\st.h 7=none/\KW js ms P es i) (by simp[KW, *]) ?_;clear g2 b2 g3 b3 g5 Q st;rintro i st hi ⟨g2,b2,g3,b3,g6,Q,hq⟩;by_cases c:i<es.length
 case neg=>
  have A:i=es.length:=by omega
  subst A;rw[hE hq];exact Gy
 have hw:=ab c I;have d:es[i]?=some es[i]:=an c;have a:=hS i es[i] d;obtain⟨G,q,r⟩:=MX (js:=js) (ms:=ms) Y d
 have n:fy js ms P es[i]=true->KW js ms P es (i+1):=λh5 j e hj H=>by
  by_cases U:j=i
  .subst U
   have:e=es[j]:=by rw[d]at H;exact(ZQ H).symm
   subst this;exact h5
  .exact hq j e (by omega) H
 generalize f:es[i]=e at *;simp only[ln,eY,up,Is]at q;obtain⟨u,hu⟩:∃u:Nat,e.u=u:=⟨e.u.toNat,by omega⟩;obtain⟨v,hv⟩:∃v:Nat,e.v=v:=⟨e.v.toNat,by omega⟩
 have l:u<P.length:=by omega
 have m:v<P.length:=by omega
 have K:cO P e.u=P[u]:=by rw[cO,hu,Zo,an l];rfl
 have L:cO P e.v=P[v]:=by rw[cO,hv,Zo,an m];rfl
 have c1:=cd P[u] P[v] (Zs l) (Zs m);have O:=ck e.s;have c3:=cz e.rest;have M:P[u]?=some P[u]:=an l;have N:P[v]?=some P[v]:=an m;rw[G,MW,K,L]at a n;clear cd ck cz G K L q hS;generalize ew js ms P[u] P[v]=dd at *;generalize o:P[u]=pu at *;generalize p:P[v]=pv at *;obtain⟨eu,ev,ec,b,rest⟩:=e;simp only at O c3 hu hv r a n;subst hu hv;generalize rf rest=zz at *;obtain⟨k1,k2,k3,k4,k5,k6,k7,k8⟩:=rest;simp only at O c3 a n d f;generalize vN b=kk at *;by_cases S:ec=dd
 case neg=>
  have ah:(ec !=dd)=true:=by simp[S]
  rw[a (by rw[Z9 S,ZI])];exact Gy
 subst S;rw[ZH rfl,Zu]at a n;by_cases h4:b<0
 .rw[a (by rw[Z9 (show¬0<=b by omega),ZI,ZI])]
  exact Gy
 rw[ZH (show 0<=b by omega),Zu]at a n;by_cases h5:3<b
 .rw[a (by rw[Z9 (show¬b<=3 by omega),ZI,ZI])]
  exact Gy
 rw[ZH (show b<=3 by omega),Zu]at a n;by_cases h6:k1=kk
 case neg=>
  have z:(k1 !=kk)=true:=by simp[h6]
  rw[a (by rw[Z9 h6,ZI])];exact Gy
 have z:(k1 !=kk)=false:=by simp[h6]
 rw[ZH h6,Zu]at a n;by_cases h7:b=0
 .subst h7
  cases zz with
  |false=>
   rw[a (by simp)];exact GS (zAe g2 b2 g3 b3 g6 Q c d f l m M N o (gA p z))
  |true=>
   have E:=n (by simp);exact GS (zAe g2 b2 g3 b3 g6 Q c d f l m M N o (go p z hw E))
 .have aj:(b==0)=false:=by simp[h7]
  have E:=n (by rw[ZH h7];rfl);exact Gy
def JS:R8:=⟨0,[],0,0,[],0,[],[]⟩
def lW(u v d:Int):aB:=⟨u,v,d,0,JS⟩
def tc(u v:Int)(e:aB):Bool:=decide (u<e.u)||(decide (e.u=u)&&decide (v<=e.v))
def yx(u v:Int)(e:aB):Bool:=decide (e.u=u)&&decide (e.v=v)
def tL(u v d:Int)(a:List aB×Bool)(e:aB):List aB×Bool:=
 if a.2=false/\tc u v e=true then((if yx u v e=true then a.1 else a.1++[lW u v d])++[e],true)else(a.1++[e],a.2)
def xg(u v d:Int)(es:List aB):List aB×Bool:=es.foldl (tL u v d) ([],false)
def E6(u v d:Int)(es:List aB):List aB:=if(xg u v d es).2=true then(xg u v d es).1 else(xg u v d es).1++[lW u v d]
abbrev JT(u v d:Int):PV:=.agg [Z u,Z v,Z d,Z 0,Z 0,.sl [],Z 0,Z 0,.sl [],Z 0,.sl [],.sl []]
def rW(u v d:Int)(a:List PV×Bool)(e:aB):List PV×Bool:=
 if a.2=false/\tc u v e=true then((if yx u v e=true then a.1 else a.1++[JT u v d])++[iV e],true)else(a.1++[iV e],a.2)
def lX(u v d:Int)(es:List aB)(i:Nat):List PV×Bool:=(es.take i).foldl (rW u v d) ([],false)
theorem JU(h:es[i]?=some e):lX a b d es (i+1)=rW a b d (lX a b d es i) e:=by
 obtain⟨hi,c⟩:=th.1 h;unfold lX;rw[ZR hi,yA5,c];rfl
theorem Lz(a b d:Int)(es:List aB):∀i,(lX a b d es i).1.length<=2*es.length:=by
 intro i
 have h:∀(l:List aB)(c:List PV×Bool),(l.foldl (rW a b d) c).1.length<=c.1.length+2*l.length:=by
  intro l
  induction l with
  |nil=>intro c;simp
  |cons e l ih=>
   intro c;refine yAG (ih _) ?_;unfold rW;split
   .split<;>simp<;>omega
   .simp;omega
 refine yAG (h (es.take i) ([],false)) ?_;simp only[ZP,yAW];omega
theorem Qj(u v d:Int)(es:List aB)(i:Nat):lX u v d es i=((xg u v d (es.take i)).1.map iV,(xg u v d (es.take i)).2):=by
 have h:∀(l:List aB)(c:List aB×Bool),l.foldl (rW u v d) (c.1.map iV,c.2)=((l.foldl (tL u v d) c).1.map iV,(l.foldl (tL u v d) c).2):=by
  intro l
  induction l with
  |nil=>intro c;rfl
  |cons e l ih=>
   intro c;rw[yAv,yAv,<-ih]
   congr 1
   unfold rW tL;simp only;split
   .split<;>simp[lW,JS]
   .simp
 exact h (es.take i) ([],false)
theorem Nv(h:n<=2*m)(a:m<=100000):((n+1)*160<=140737488355328/\n+1<=9223372036854775807)/\((n+1+1)*160<=140737488355328/\n+1+1<=9223372036854775807):=by omega
theorem Xs(js:List J)(ms:List Ms)(P:List (List Int))(es:List aB)(u v:Nat)(hu:u<P.length)(hv:v<P.length)(hl:js.length<=9223372036854775807)(hm:ms.length<=9223372036854775807)(hP:P.length<=1024)(N:es.length<=100000)(hp:∀x∈P,x.length<=9223372036854775807):lR 56 (eK js ms) (bf ⟨P.map zs,es⟩) (Z u) (Z v) (gp (E6 (min u v:Nat) (max u v:Nat) (ew js ms (cO P (min u v:Nat)) (cO P (max u v:Nat))) es)):=by
 obtain⟨a,ha⟩:∃a,a=min u v:=⟨_,rfl⟩;obtain⟨b,hb⟩:∃b,b=max u v:=⟨_,rfl⟩;rw[<-ha,<-hb]
 have U:(if v<u then(v:Int)else u)=a:=by split<;>omega
 have V:(if u<v then(v:Int)else u)=b:=by split<;>omega
 have l:a<P.length:=by omega
 have m:b<P.length:=by omega
 have q:P[a]?=some P[a]:=an l;have r:P[b]?=some P[b]:=an m;have cd:=Qc js ms P[a] P[b] hl hm (hp _ (Zs l)) (hp _ (Zs m))
 have O:cO P (a:Int)=P[a]:=by rw[cO,Zo,q];rfl
 have Q:cO P (b:Int)=P[b]:=by rw[cO,Zo,r];rfl
 rw[O,Q];clear O Q ha hb;generalize ew js ms P[a] P[b]=d at *;generalize j:P[a]=pa at *;generalize k:P[b]=pb at *;refine Dp func56 λC hP hN=>?_;refine ki [9] (gA U V) ?_;refine WP.loopN [12] es.length (λi st=>st.t 2=.pv (Z a)/\st.t 3=.pv (Z b)/\st.t 4=.ptr 4 0/\st.h 4=some (.box [.pv (.sl (js.map aO)),.pv (.sl (ms.map aX))] true false)/\st.t 5=.ptr 5 0/\st.h 5=some (.box [.pv (.sl (P.map zs)),.pv (gp es)] true false)/\st.t 9=.arr 9 (lX a b d es i).1.length/\st.h 9=some (.row 126 12 (lX a b d es i).1 0)/\st.t 10=.pv (B (lX a b d es i).2)/\st.t 11=.pv (Z i)/\st.h 12=none) (by simp[lX]) ?_;rintro i st hi ⟨g2,g3,g4,b4,g5,b5,E,A,f,o,y⟩;have z:=Lz a b d es i;by_cases g:i<es.length
 .have M:=ab g (by omega)
  have H:es[i]?=some es[i]:=an g;have p:=JU (a:=a) (b:=b) (d:=d) H;generalize s:es[i]=e at *;obtain⟨D,ev,L,n,rest⟩:=e;generalize lX a b d es i=Y at *;obtain⟨X,R⟩:=Y;simp only at E A f z;obtain⟨⟨F,G⟩,q3,q4⟩:=Nv z N
  cases R with
  |true=>
   have c:lX a b d es (i+1)=(X++[iV ⟨D,ev,L,n,rest⟩],true):=by rw[p];rfl
   exact GS (zAe g2 g3 g4 b4 g5 b5 E A f o y g M H (go s c F G))
  |false=>
   by_cases k1:(a:Int)<D
   .have k2:¬D=a:=by omega
    have I:(D==(a:Int))=false:=by simp[k2]
    have ad:(D !=(a:Int))=true:=by simp[k2]
    have c:lX a b d es (i+1)=(X++[JT a b d]++[iV ⟨D,ev,L,n,rest⟩],true):=by rw[p];simp[rW,tc,yx,k1,k2]
    exact GS (zAe g2 g3 g4 b4 g5 b5 E A f o y g M H (zAe s l m q r j k c F G q3 q4 k1 k2 (gA I ad)))
   by_cases k2:D=a
   case neg=>
    have I:(D==(a:Int))=false:=by simp[k2]
    have c:lX a b d es (i+1)=(X++[iV ⟨D,ev,L,n,rest⟩],false):=by rw[p];simp[rW,tc,k1,k2]
    exact GS (zAe g2 g3 g4 b4 g5 b5 E A f o y g M H (zAd s l m q r j k c F G k1 (gA k2 I)))
   subst k2;by_cases k3:(b:Int)<=ev
   case neg=>
    have c:lX a b d es (i+1)=(X++[iV ⟨a,ev,L,n,rest⟩],false):=by rw[p];simp[rW,tc,k3]
    exact GS (zAe g2 g3 g4 b4 g5 b5 E A f o y g M H (zAd s l m q r j k c F G k1 k3))
   by_cases k4:ev=b
   .have K:(ev !=(b:Int))=false:=by simp[k4]
    have c:lX a b d es (i+1)=(X++[iV ⟨a,ev,L,n,rest⟩],true):=by rw[p];simp[rW,tc,yx,k3,k4]
    exact GS (zAe g2 g3 g4 b4 g5 b5 E A f o y g M H (zAd s l m q r j k c F G k1 (gA k3 K)))
   .have K:(ev !=(b:Int))=true:=by simp[k4]
    have c:lX a b d es (i+1)=(X++[JT a b d]++[iV ⟨a,ev,L,n,rest⟩],true):=by rw[p];simp[rW,tc,yx,k3,k4]
    exact GS (zAe g2 g3 g4 b4 g5 b5 E A f o y g M H (zAe s l m q r j k c F G q3 q4 k1 k3 K))
 .have W:i=es.length:=by omega
  subst W;have S:=Qj a b d es es.length;rw[yAS]at S;rw[S]at E A f z;obtain⟨⟨F,G⟩,-,-⟩:=Nv z N;unfold E6;clear S;generalize xg a b d es=T at *;obtain⟨X,R⟩:=T;simp only at E A f z F G;simp only[ZB]at F G
  cases R with
  |true=>
   rw[Zd rfl];exact Gy
  |false=>
   rw[Y6 (by simp)];rw[show gp ((X,false).1++[lW a b d])=.sl (X.map iV++[JT a b d]) by simp[lW,JS]];exact Gy
def A8(f:Int->Int)(d:Int):Nat->List Int->List Int
 |0,l=>l
 |n+1,l=>if d<f ((l[n]?).getD 0)then A8 f d n ((l.set (n+1) ((l[n]?).getD 0)).set n ((l[n+1]?).getD 0))else l
def B5(f:Int->Int)(nt:Int)(acc:List Int)(i:Nat):List Int:=if(i:Int)=nt then acc else A8 f (f i) acc.length (acc++[(i:Int)])
def od(f:Int->Int)(nt:Int)(n:Nat):List Int:=(List.range n).foldl (B5 f nt) []
theorem Ha(f:Int->Int)(d:Int):∀(n:Nat)(l:List Int),(A8 f d n l).length=l.length
 |0,l=>rfl
 |n+1,l=>by
  unfold A8;split
  .rw[Ha f d n];simp
  .rfl
theorem zQ(f:Int->Int)(nt:Int)(n:Nat):od f nt (n+1)=B5 f nt (od f nt n) n:=by
 unfold od;rw[yAs,yA5];rfl
theorem B6(f:Int->Int)(nt:Int):∀n,(od f nt n).length<=n
 |0=>by simp[od]
 |n+1=>by
  have ih:=B6 f nt n;rw[zQ];unfold B5;split
  .omega
  .rw[Ha];simp;omega
theorem Hb(f:Int->Int)(d:Int){p:Int->Prop}:∀(n:Nat)(l:List Int),n<l.length->(∀x∈l,p x)->∀x∈A8 f d n l,p x
 |0,l,_,h=>h
 |n+1,l,hn,h=>by
  unfold A8;split
  .refine Hb f d n _ (by simp;omega) ?_
   intro x a;rcases ZT a with a|rfl
   .rcases ZT a with a|rfl
    .exact h x a
    .rw[an (by omega)];exact h _ (Zs _)
   .rw[an hn];exact h _ (Zs _)
  .exact h
theorem B7(f:Int->Int)(nt:Int):∀n,∀x∈od f nt n,0<=x/\x<n
 |0=>by simp[od]
 |n+1=>by
  intro x b;have ih:=B7 f nt n;rw[zQ,B5]at b;split at b
  .have:=ih x b;omega
  .refine Hb f (f n) (p:=λx=>0<=x/\x<((n+1:Nat):Int)) _ _ (by simp) ?_ x b
   intro y a;rcases Zm.1 a with a|a
   .have:=ih y a;omega
   .simp at a;omega
def Ip(l:List Int)(m:Nat):List Int:=(l.set m ((l[m-1]?).getD 0)).set (m-1) ((l[m]?).getD 0)
def Iq(l:List Int)(m:Nat):Nat->List Int
 |0=>l
 |n+1=>Ip (Iq l m n) (m-n)
theorem E7(l:List Int)(m:Nat):∀n,(Iq l m n).length=l.length
 |0=>rfl
 |n+1=>by unfold Iq Ip;simp[E7 l m n]
theorem Xt(js:List J)(ms:List Ms)(P:List (List Int))(q:List Int)(nt:Int)(hl:js.length<=9223372036854775807)(hm:ms.length<=9223372036854775807)(hP:P.length<=1024)(hq:q.length<=9223372036854775807)(hp:∀x∈P,x.length<=9223372036854775807):lR 55 (eK js ms) (.sl (P.map zs)) (zs q) (Z nt) (zs (od (λi=>ew js ms (cO P i) q) nt P.length)):=by
 have cd:=λ(x:List Int)(p:x∈P)=>Qc js ms x q hl hm (hp x p) hq;obtain⟨f,hf⟩:∃f:Int->Int,f=λi=>ew js ms (cO P i) q:=⟨_,rfl⟩;rw[<-hf];have s0:od f nt 0=[]:=rfl;have s1:=zQ f nt;have s2:=B6 f nt
 have s3:∀n,n<=P.length->∀x∈od f nt n,0<=x/\x<P.length:=λn hn x p=>by have:=B7 f nt n x p;omega
 refine Dp func55 λC hP hN=>?_;refine ki [9] trivial ?_;refine WP.loopN [] P.length (λi st=>st.t 1=.pv (.sl (P.map zs))/\st.t 2=.pv (zs q)/\st.t 3=.pv (Z nt)/\st.t 4=.ptr 4 0/\st.h 4=some (.box [.pv (.sl (js.map aO)),.pv (.sl (ms.map aX))] true false)/\st.t 9=.arr 9 (od f nt i).length/\st.h 9=some (.row 3 1 (fH (od f nt i)) 0)/\st.t 10=.pv (Z i)) (by simp[s0]) ?_;rintro i st hi ⟨g1,g2,g3,g4,b4,s,r,c⟩;by_cases j:i<P.length
 case neg=>
  have a6:i=P.length:=by omega
  subst a6;exact Gy
 have W:=ab j (by omega);have t1:=s1 i;have t2:=s2 i;by_cases hn:(i:Int)=nt
 .have t3:od f nt (i+1)=od f nt i:=by rw[t1,B5,Zd hn]
  have v:((i:Int)==nt)=true:=by simp[hn]
  exact GS (zAd g1 g2 g3 g4 b4 s r c j W v t3)
 generalize hL:od f nt i=L at *
 have t3:od f nt (i+1)=A8 f (f i) L.length (L++[(i:Int)]):=by rw[t1,B5,Y6 hn]
 have ah:∀x∈L++[(i:Int)],0<=x/\x<P.length:=by
  intro x p;rcases Zm.1 p with p|p
  .exact s3 i (by omega) x (hL▸p)
  .simp at p;omega
 have v:((i:Int)==nt)=false:=by simp[hn]
 have R:P[i]?=some P[i]:=an j;have c1:=cd P[i] (Zs j)
 have ar:f i=ew js ms P[i] q:=by rw[hf];simp[cO,R]
 rw[<-ar]at c1;generalize bq:od f nt (i+1)=B at *
 have H:(L++[(i:Int)]).length=L.length+1:=by simp
 generalize ad:L++[(i:Int)]=Y at *
 have G:fH L++[Z (i:Int)]=fH Y:=by rw[<-ad];simp
 generalize a8:P[i]=x at *;generalize hd:f i=d at *;refine GT (zAe g1 g2 g3 g4 b4 s r c j R a8 v G (show(L.length+1)*8<=140737488355328 by omega) (gA (show L.length+1<=9223372036854775807 by omega) (show L.length<=9223372036854775806 by omega))) ?_;obtain⟨S,hS⟩:∃S,S=Iq Y L.length:=⟨_,rfl⟩
 have u0:S 0=Y:=by rw[hS];rfl
 have u1:∀n,S (n+1)=Ip (S n) (L.length-n):=λn=>by rw[hS];rfl
 have u2:∀n,(S n).length=L.length+1:=λn=>by rw[hS,E7,H]
 have cq:∀(a:Int),0<=a->a<P.length->∃y,P[a.toNat]?=some y/\gu 96 (eK js ms) (zs y) (zs q) (Z (f a)):=by
  intro a h1 h2;have V:P[a.toNat]?=some (P[a.toNat]'(by omega)):=an (by omega);refine⟨_,V,?_⟩
  have e:f a=ew js ms (P[a.toNat]'(by omega)) q:=by rw[hf];simp[cO,V]
  rw[e];exact cd _ (Zs _)
 clear hS hf cd;refine WP.loopN [] L.length (λn st=>st.t 1=.pv (.sl (P.map zs))/\st.t 2=.pv (zs q)/\st.t 3=.pv (Z nt)/\st.t 4=.ptr 4 0/\st.h 4=some (.box [.pv (.sl (js.map aO)),.pv (.sl (ms.map aX))] true false)/\st.t 9=.arr 9 (L.length+1)/\st.h 9=some (.row 3 1 (fH (S n)) 0)/\st.t 10=.pv (Z i)/\st.t 11=.pv (Z ((L.length-n:Nat):Int))/\st.t 12=.pv (Z d)/\A8 f d (L.length-n) (S n)=B/\∀x∈S n,0<=x/\x<P.length) (by simp[u0,H,g1,g2,g3,g4,b4,s,r,c];exact⟨t3.symm,ah⟩) ?_;clear g1 g2 g3 g4 b4 s r c st;rintro n st b2 ⟨g1,g2,g3,g4,b4,s,r,c,g,u,o,hM⟩;have v1:=u1 n;have v2:=u2 n;have v3:=u2 (n+1);generalize S (n+1)=S2 at *;generalize S n=l at *;obtain⟨m,hm⟩:∃m,m=L.length-n:=⟨_,rfl⟩;rw[<-hm]at g o v1;by_cases h0:n<L.length
 case neg=>
  have:m=0:=by omega
  subst this;have ak:l=B:=o;subst ak;exact GS (zAd g1 g2 g3 g4 b4 s r c g u W v2)
 obtain⟨m,rfl⟩:∃k,m=k+1:=⟨m-1,by omega⟩;have D:l[m]?=some (l[m]'(by omega)):=an (by omega);have A:l[m+1]?=some (l[m+1]'(by omega)):=an (by omega);have V:=hM _ (An D);unfold A8 at o;unfold Ip at v1;simp only[Nat.add_sub_cancel,D,A,Zn]at o v1;generalize l[m]'(by omega)=a at *;generalize l[m+1]'(by omega)=b at *
 have a7:m=L.length-(n+1):=by omega
 obtain⟨M,aj⟩:∃M,M=m+1:=⟨_,rfl⟩;rw[<-aj]at g o v1 A;obtain⟨a,rfl⟩:∃k:Nat,a=k:=⟨a.toNat,by omega⟩;obtain⟨y,X,c2⟩:=cq a (by omega) (by omega);rw[Zo]at X
 have K:a<P.length:=by omega
 have T:P[a]=y:=(th.1 X).2;generalize f (a:Int)=fa at *
 have Q:i64.wrap ((M:Int)-1)=(m:Int):=by rw[IntKind.wrap_i64];omega
 have N:0<M:=by omega
 have O:m<L.length+1:=by omega
 have I:M<L.length+1:=by omega
 have E:(l[m]'(by omega))=(a:Int):=(th.1 D).2;have F:(l[M]'(by omega))=b:=(th.1 A).2;by_cases h1:d<fa
 .rw[Zd h1,<-v1]at o
  refine GT (zAe g1 g2 g3 g4 b4 s r c g u W v2 K X (zAc T Q N O I h1 D A E F)) ?_;refine⟨h0,?_,by omega,?_,?_⟩
  .rw[v1];simp only[yAz]
  .rw[<-a7];exact o
  .rw[v1]
   intro z U;rcases ZT U with U|rfl
   .rcases ZT U with U|rfl
    .exact hM z U
    .exact V
   .exact hM _ (An A)
 .rw[Y6 h1]at o
  subst o;exact GS (zAe g1 g2 g3 g4 b4 s r c g u W v2 K X (zAc T Q N O I h1 D A E F))
theorem WP.freeze{C:Cx}{c:Code}(s:Nat){e sz fz:Nat}{xs:List PV}(j:st.h k=some (.row e sz xs fz))(r:st.t s=.arr k xs.length)(h:WP C c Q ⟨av st.t s (.pv (.sl xs)),av st.h k (some (.row e sz xs xs.length))⟩):WP C c Q st:=by
 intro a w q;obtain⟨L,o,hN,i,f⟩:=q;obtain⟨g,m⟩:=uQ o j;refine h a w ⟨L,g.1,hN,i,λn=>?_⟩;have d:=(f n).mono g.2.1 g.2.2;show RepA w _ L _ (av st.t s (.pv (.sl xs)) n) _;by_cases hn:n=s
 .subst hn
  rw[aG];have l:=f n;rw[r]at l
  cases l with
  |arr b p u=>
   rw[j]at b;injection b with b;injection b with _ _ a3 _;subst a3;rw[u rfl];exact .pv m
 .rw[bc hn];exact d
theorem Gm{P:Program}{o:Oper}{t t':TypeId}{x y:Operand}{a b c:Bool}(d:o.op=.binOp .neq t x y t')(e:ρ x=.pv (.val (.bool a)))(f:ρ y=.pv (.val (.bool b)))
 (i:P.eqGuardType P.depth t=false)(h:ag P (Op.equal t (.bool a) (.bool b))=some c):aU P o ρ=some (.pv (.val (.bool !c)),[]):=by
 refine dF (by rw[d];simp[Op.operands,e,f,er]) ?_;unfold execOp;rw[d];simp only[(bt e).2,(bt f).2]
 have h1:ag P (eqGuard .neq t x y (.bool a) (.bool b))=some ():=by
  unfold eqGuard;simp only[yAC,Y9,Zk,af,i8,Zi,i,yBo,Zp];rfl
 have g:ag P (binOp .neq t (.bool a) (.bool b))=some (.bool !c):=by
  simp only[binOp,af,h,Zi];rfl
 simp only[af,h1,g,Zi];rfl
theorem WP.nilsl{C:Cx}{c:Code}(s:Nat)(j:st.t s=.pv (.val (.slice none 0 0)))(h:WP C c Q ⟨av st.t s (.pv (.sl [])),st.h⟩):WP C c Q st:=by
 intro a w i;obtain⟨L,f,hN,d,b⟩:=i;refine h a w ⟨L,f,hN,d,λn=>?_⟩;show RepA w _ L _ (av st.t s (.pv (.sl [])) n) _;by_cases hn:n=s
 .subst hn
  rw[aG];have e:=b n;rw[j]at e
  cases e with
  |pv g=>rw[aK g];exact .pv (.sl0 none 0)
 .rw[bc hn];exact b n
theorem WP.freezeB{C:Cx}{c:Code}(l j:Nat){e sz fz:Nat}{xs:List PV}{cs:List AV}{own fb:Bool}(r:st.h l=some (.box cs own fb))(H:cs[j]?=some (.arr k xs.length))(s:st.h k=some (.row e sz xs fz))
 (h:WP C c Q ⟨st.t,av (av st.h k (some (.row e sz xs xs.length))) l (some (.box (cs.set j (.pv (.sl xs))) own fb))⟩):WP C c Q st:=by
 intro a w K;obtain⟨L,z,hN,y,B⟩:=K;obtain⟨f,F⟩:=uQ z s
 have A:l≠k:=by intro e;subst e;rw[r]at s;cases s
 have m:(av st.h k (some (.row e sz xs xs.length))) l=some (.box cs own fb):=by rw[bc A];exact r
 have M:∀u,RepA w (ae C L st.h) L st.h (.arr k xs.length) u->u=(L k).slice xs.length:=λu g=>by
  cases g with
  |arr b J g=>
   rw[s]at b;injection b with b;injection b with _ _ a3 _;subst a3;exact g rfl
 have x:=z.bl l _ r;obtain⟨arr,N,G,I,E⟩:=x;have q:=z.own l _ r;have d:=MemL.touch_pk (w':=w) f.1 (blk':=.box (cs.set j (.pv (.sl xs))) own fb) m (λ_ _ _=>rfl) (λ_ _ _ _ h=>h) (λo h=>h) rfl yAn;have v:=MemL.touch (w':=w) f.1 (blk':=.box (cs.set j (.pv (.sl xs))) own fb) m (λ_ _ _=>rfl) (Zf _) rfl rfl rfl (λ_ _ _ _ h=>h) (λo h=>h) rfl yAn (by cases own<;>exact q) ⟨arr,N,G,by simpa using I,λi p u hp g=>?_⟩
 .refine h a w ⟨L,v.1,hN,y,λn=>?_⟩
  exact((B n).mono f.2.1 f.2.2).mono v.2.1 v.2.2
 .rw[Zg]at hp
  by_cases D:j=i
  .subst D
   rw[Zd rfl]at hp;split at hp
   .injection hp with hp;subst hp
    have:=M u (E j _ u H g);subst this;exact(RepA.pv F).mono d.1 d.2
   .cases hp
  .rw[Y6 D]at hp
   exact((E i p u hp g).mono f.2.1 f.2.2).mono d.1 d.2
theorem LC(u v d:Int)(es:List aB):(E6 u v d es).length<=es.length+1:=by
 have h:∀(l:List aB)(a:List aB×Bool),(l.foldl (tL u v d) a).1.length+(if(l.foldl (tL u v d) a).2=true then 0 else 1)<=a.1.length+(if a.2=true then 0 else 1)+l.length:=by
  intro l
  induction l with
  |nil=>intro a;exact Zf _
  |cons e l ih=>
   intro a;refine yAG (ih _) ?_
   have:(tL u v d a e).1.length+(if(tL u v d a e).2=true then 0 else 1)<=a.1.length+(if a.2=true then 0 else 1)+1:=by
    obtain⟨m,b⟩:=a
    cases b with
    |true=>simp[tL]
    |false=>
     unfold tL;by_cases h1:tc u v e=true
     .by_cases c:yx u v e=true<;>simp[h1,c]
     .simp[h1]
   simp only[yAE];omega
 have:=h es ([],false);unfold E6;change (xg u v d es).1.length+_<=_ at this;change _+(if(xg u v d es).2=true then 0 else 1)<=_ at this;split
 .rename_i h;rw[h]at this;simp at this;omega
 .rename_i h;simp only[h]at this;simp at this|-;omega
def Nw(js:List J)(ms:List Ms)(P:List (List Int))(u:Nat)(E:List aB)(v:Int):List aB:=E6 (min u v.toNat:Nat) (max u v.toNat:Nat) (ew js ms (cO P (min u v.toNat:Nat)) (cO P (max u v.toNat:Nat))) E
def ug(js:List J)(ms:List Ms)(P:List (List Int))(u:Nat):List Int:=od (λi=>ew js ms (cO P i) (cO P u)) u P.length
def td(js:List J)(ms:List Ms)(P:List (List Int))(u:Nat)(E:List aB)(j:Nat):List aB:=((ug js ms P u).take j).foldl (Nw js ms P u) E
def xh(js:List J)(ms:List Ms)(P:List (List Int))(k:Nat):Nat->List aB
 |0=>[]
 |u+1=>td js ms P u (xh js ms P k u) k
theorem E8{u:Nat}{E:List aB}{v:Int}(h:(ug js ms P u)[j]?=some v):td js ms P u E (j+1)=Nw js ms P u (td js ms P u E j) v:=by
 obtain⟨hi,a⟩:=th.1 h;unfold td;rw[ZR hi,yA5,a];rfl
theorem B8(js:List J)(ms:List Ms)(P:List (List Int))(u:Nat)(E:List aB):∀j,(td js ms P u E j).length<=E.length+j
 |0=>by simp[td]
 |j+1=>by
  have ih:=B8 js ms P u E j;by_cases h:j<(ug js ms P u).length
  .rw[E8 (an h)]
   have:=LC (min u ((ug js ms P u)[j]).toNat:Nat) (max u ((ug js ms P u)[j]).toNat:Nat) (ew js ms (cO P (min u ((ug js ms P u)[j]).toNat:Nat)) (cO P (max u ((ug js ms P u)[j]).toNat:Nat))) (td js ms P u E j);unfold Nw;omega
  .unfold td at ih|-
   rw[Zw (by omega)]at ih|-;omega
theorem LD{u:Nat}{E:List aB}(h:¬j<(ug js ms P u).length)(a:j<=k):td js ms P u E j=td js ms P u E k:=by
 unfold td;rw[Zw (by omega),Zw (by omega)]
theorem Hc(js:List J)(ms:List Ms)(P:List (List Int))(k:Nat):∀u,(xh js ms P k u).length<=u*k
 |0=>by simp[xh]
 |u+1=>by
  have ih:=Hc js ms P k u;have:=B8 js ms P u (xh js ms P k u) k;unfold xh;rw[Nat.succ_mul];omega
theorem Xu(js:List J)(ms:List Ms)(P:List (List Int))(k:Nat)(M:js.length<=9223372036854775807)(N:ms.length<=9223372036854775807)(h0:aP js ms=0)(b2:0<P.length)(a7:P.length*k<=8192)(F:P.length<=1024)(X:k<=1024)(hp:∀x∈P,x.length<=100)(hin:∀x∈P,aY js ms x=true)(Y:∀(i:Nat) x,P[i]?=some x->DC (P.take i) x<0):gu 25 (eK js ms) (.sl (P.map zs)) (Z k) (bf ⟨P.map zs,xh js ms P k P.length⟩):=by
 have cc:=qF js ms M N;rw[h0]at cc
 have c:∀x∈P,x.length<=9223372036854775807:=λx f=>by have:=hp x f;omega
 have ci:=λ(x:List Int)=>Nn js ms x M N;have cp:=λ(i:Nat)(x:List Int)(f:x.length<=9223372036854775807)=>TA (P.take i) x (by rw[ZP];omega) (λy hy=>c y (yAO hy)) f;refine Dp func25 λC hP hN=>?_;refine Gz ?_;refine WP.nilRowsE (λk=>decide (k=52)||decide (k=53)) (λk=>if k=52 then(61,1)else(126,12)) 7 (cs:=[fY,fY]) (cs':=[.arr 52 0,.arr 53 0]) (own:=true) (fb:=false) (by simp) ?_ rfl ?_ ?_
 .intro k X
  rw[ZX,Is,Is]at X;rcases X with rfl|rfl<;>simp
 .intro i x f
  rcases i with _|_|i<;>simp at f<;>subst f<;>simp
 refine WP.freezeB 7 1 (k:=53) (xs:=[]) (cs:=[.arr 52 0,.arr 53 0]) (e:=126) (sz:=12) (fz:=0) (own:=true) (fb:=false) (by simp) (by simp) (by simp) ?_
 refine WP.loopN [50,53] P.length (λi st=>st.t 1=.pv (.sl (P.map zs))/\st.t 2=.pv (Z k)/\st.t 3=.ptr 3 0/\st.h 3=some (.box [.pv (.sl (js.map aO)),.pv (.sl (ms.map aX))] true false)/\st.t 6=.ptr 6 0/\st.h 6=some (.box [fY,fY] true false)/\st.t 7=.ptr 7 0/\st.t 8=.pv (Z i)/\st.h 50=none/\
  st.h 7=some (.box [.arr 52 i,.pv (.sl [])] true false)/\st.h 52=some (.row 61 1 ((P.map zs).take i) 0)) (by simp) ?_
 rintro i st hi ⟨g1,g2,g3,b3,q,b6,r,g8,L,m,o⟩;by_cases a:i<P.length
 .have hw:=ab a (by omega)
  have f:P[i]?=some P[i]:=an a;have g:=Zs a;have b9:=hp _ g;have c1:=ci P[i];rw[hin _ g]at c1;have c2:=cp i P[i] (c _ g);have hz:=Y i _ f;generalize DC (P.take i) P[i]=z at *;rw[List.map_take]at c2
  have I:(i:Int)<1024:=by omega
  have A:(P.map zs).take (i+1)=(P.map zs).take i++[zs P[i]]:=by rw[ZR (by simpa using a)];simp
  have ad:((P.map zs).take i).length=i:=by simp;omega
  generalize K:P[i]=x at *;generalize(P.map zs).take (i+1)=T' at *;generalize(P.map zs).take i=T at *;refine GT (zAe g1 g2 g3 b3 q b6 r g8 L m o a f K (zAb hw hz I ad (show x.length*8<=140737488355328 by omega) (show x.length<=9223372036854775807 by omega) (show(i+1)*24<=140737488355328 by omega) (show i+1<=9223372036854775807 by omega))) ?_
  all_goals exact A.symm
 .have s:i=P.length:=by omega
  subst s;have A:(P.map zs).take P.length=P.map zs:=Zw (by simp);rw[A]at o;refine Gz ?_;refine WP.freezeB 7 0 (k:=52) (xs:=P.map zs) (cs:=[.arr 52 P.length,.pv (.sl [])]) (e:=61) (sz:=1) (fz:=0) (own:=true) (fb:=false) (by simp[m]) (by simp) (by simp[o]) ?_;obtain⟨G,B⟩:∃G,G=xh js ms P k:=⟨_,rfl⟩
  have O:G 0=[]:=by rw[B];rfl
  refine WP.loopN [52] P.length (λu st=>st.t 2=.pv (Z k)/\st.t 3=.ptr 3 0/\st.h 3=some (.box [.pv (.sl (js.map aO)),.pv (.sl (ms.map aX))] true false)/\st.t 6=.ptr 6 0/\st.h 6=some (.box [fY,fY] true false)/\st.t 7=.ptr 7 0/\st.t 9=.pv (Z u)/\st.h 7=some (.box [.pv (.sl (P.map zs)),.pv (gp (G u))] true false)) (by simp[g2,g3,b3,q,b6,r,m,O]) ?_;clear g1 g2 g3 b3 q b6 r g8 L m o a hi st;rintro u st hu ⟨g2,g3,b3,q,b6,r,S,m⟩;have p:=Hc js ms P k
  have Q:∀u,G (u+1)=td js ms P u (G u) k:=λu=>by rw[B];rfl
  rw[<-B]at p;by_cases a:u<P.length
  case neg=>
   have s:u=P.length:=by omega
   subst s;have:=p P.length;rw[<-B];clear B O Q;generalize G P.length=E at *
   have hE:¬(8192:Int)<E.length:=by omega
   exact Gy
  have hw:=ab a (by omega);have f:P[u]?=some P[u]:=an a;have g:=Zs a;have cb:=Xt js ms P P[u] u M N F (c _ g) c
  have hL:od (λi=>ew js ms (cO P i) P[u]) u P.length=ug js ms P u:=by
   unfold ug
   have:cO P (u:Int)=P[u]:=by rw[cO,Zo,f];rfl
   rw[this]
  rw[hL]at cb;have U:∀v∈ug js ms P u,0<=v/\v<P.length:=B7 _ _ P.length;have a6:(ug js ms P u).length<=P.length:=B6 _ _ P.length;have hR:=B8 js ms P u (G u);have d:=λj v=>E8 (js:=js) (ms:=ms) (P:=P) (u:=u) (E:=G u) (j:=j) (v:=v);have b:=λj=>LD (js:=js) (ms:=ms) (P:=P) (u:=u) (E:=G u) (j:=j) (k:=k);have hn:=Q u;have ar:=p u
  have ak:u*k+k<=8192:=by
   have:(u+1)*k<=P.length*k:=Zt k a;rw[Nat.succ_mul]at this;omega
  have r0:td js ms P u (G u) 0=G u:=rfl;have D:=λ(v:Nat)(E:List aB)(hv:v<P.length)(hE:E.length<=100000)=>Xs js ms P E u v a hv M N F hE c;obtain⟨R,H⟩:∃R,R=td js ms P u (G u):=⟨_,rfl⟩;rw[<-H]at hR d b hn r0;clear H B O Q p;generalize G (u+1)=GN at *;generalize G u=GU at *;generalize ug js ms P u=l at *;clear hL;generalize K:P[u]=x at *;refine Gz ?_;refine WP.loopN [] k (λj st=>st.t 2=.pv (Z k)/\st.t 3=.ptr 3 0/\st.h 3=some (.box [.pv (.sl (js.map aO)),.pv (.sl (ms.map aX))] true false)/\st.t 6=.ptr 6 0/\st.h 6=some (.box [fY,fY] true false)/\st.t 7=.ptr 7 0/\st.t 9=.pv (Z u)/\st.h 7=some (.box [.pv (.sl (P.map zs)),.pv (gp (R j))] true false)/\st.t 10=.pv (zs l)/\st.t 11=.pv (Z j)/\j<=l.length) (by simp[g2,g3,b3,q,b6,r,S,m,r0]) ?_;clear g2 g3 b3 q b6 r S m st;rintro j st hj ⟨g2,g3,b3,q,b6,r,S,m,ah,aj,bq⟩;by_cases h1:j<l.length
  case neg=>
   have V:=b j h1 hj;rw[V,<-hn]at m;exact Gy
  by_cases h2:j<k
  case neg=>
   have W:j=k:=by omega
   subst W;rw[<-hn]at m;exact Gy
  have b8:=ab h1 (by omega);have hv:l[j]?=some l[j]:=an h1;have b5:=U _ (Zs h1);have hs:=d j _ hv;have a8:=hR j;generalize b4:l[j]=v at *;obtain⟨v,rfl⟩:∃n:Nat,v=n:=⟨v.toNat,by omega⟩;unfold Nw at hs;rw[Zo]at hs;have c1:=D v (R j) (by omega) (by omega);rw[<-hs]at c1;generalize R (j+1)=Rn at *;generalize R j=Rj at *;refine Gz ?_
  all_goals omega
theorem Uo(es:List aB)(e:Nat)(x:aB)(y:PV)(h:iV x=y):(es.map iV).set e y=(es.set e x).map iV:=by
 rw[<-h,yAz]
theorem Xv(np:List PV)(es:List aB)(e u v:Nat)(d:Int)(a:es[e]?=some (lW u v d))(c:es.length<=100000):gu 58 (bf ⟨np,es⟩) (Z e) (Rw F6) (.tup [bf ⟨np,es.set e (vK u v d)⟩,B true]):=by
 obtain⟨hi,b⟩:=th.1 a;have f:=Uo es e (vK u v d) _ rfl;refine Dp func58 λC hP hN=>?_;refine GT (zAb hi b a @lW.eq_1 @JS.eq_1 (show F6.k1=1 from rfl) (show es.length*160<=140737488355328 by omega) (show es.length<=9223372036854775807 by omega)) ?_
 all_goals rfl
theorem GV{S G H:Prop}(s:S)(x:H)(h:S->Hid H->G:=by
 intro hS hG0
 repeat' (first
  |with_reducible refine bh.seq ?_
  |(with_reducible ((first|refine bh.region hF (hn:=[]) (by kernel_rfl) ?_|refine rI (by first|assumption|apply_assumption) ?_|refine bh.cond' ?_);simp -implicitDefEqProofs (maxSteps:=2000000) [hP,hN,hS]))
  |(with_reducible refine mU (by simp[hS]) (λhgd=>?_) (λhgd=>?_)<;>first|(exfalso;simp at hgd;done)|(exfalso;simp at hgd;omega)|simp -implicitDefEqProofs (maxSteps:=2000000) [hP,hN,hS])
  |with_reducible refine jV ?_ ?_
  |(with_reducible refine jF (λhcd=>?_) (λhcd=>?_)<;>(try (exfalso;clear hP hN;simp_all;done))<;>(try (exfalso;simp at *;omega)))
  |with_reducible refine bh.block ?_
  |(with_reducible ((first|refine bh.skip ?_|refine bh.exit ?_|refine bh.ret ?_);simp[hS])))
 exact hG0.h):G:=h s ⟨x⟩
structure Verd where
 kind:Int
 nor:List (Int×Int×Int)
 pair:Int
 left:List Int
 right:List Int
structure Cel where
 joint:Int
 low:Int
 high:Int
 v:Verd
structure Tr where
 root:List (Int×Int)
 cells:List Cel
variable {t:Tr}
abbrev al(v:Int×Int×Int):PV:=.val (.agg #[.int .i64 v.1,.int .i64 v.2.1,.int .i64 v.2.2])
abbrev aw(l:List (Int×Int×Int)):PV:=.sl (l.map al)
def D0(c:Cel):Bool:=c.joint==-1&&c.low==-1&&c.high==-1
def KP(p:Int)(l r:List Int):Bool:=p==0&&(l.length:Int)==0&&(r.length:Int)==0
def HR(v:Verd):Bool:=if v.kind=0\/v.kind=1 then KP v.pair v.left v.right else if v.kind=2 then((v.nor.length:Int)==0)else false
def NU(v:Verd):Bool:=v.kind==0&&((v.nor.length:Int)==0)&&KP v.pair v.left v.right
def KQ(r:List (Int×Int)):Bool:=decide (1<=r.length)&&decide (r.length<=10)&&bF vI r
theorem li:bF p xs=true↔∀x∈xs,p x=true:=L4
abbrev Bx:=List (Int×Int)
variable {y:Option Bx}
abbrev OL:=List (Option Bx)
def xQ(n i:Nat)(c:Cel):Bool:=decide ((i:Int)<c.low)&&decide (c.low<n)&&decide ((i:Int)<c.high)&&decide (c.high<n)&&decide (c.low≠c.high)&&NU c.v
def yW(n i:Nat)(c:Cel)(L:OL):Option OL:=
 match L[i]? with
 |some (some b)=>
  if D0 c then(if HR c.v then some L else none)
  else if xQ n i c then
   if kp b c.joint then
    match L[c.low.toNat]?,L[c.high.toNat]? with
    |some none,some none=>some ((L.set c.low.toNat (some (rQ b c.joint))).set c.high.toNat (some (rR b c.joint)))
    |_,_=>none
   else none
  else none
 |_=>none
def Gb(n:Nat):List Cel->Nat->OL->Option OL
 |[],_,L=>some L
 |c::b,i,L=>match yW n i c L with
  |some a=>Gb n b (i+1) a
  |none=>none
def yX(t:Tr):OL:=some t.root::List.replicate (t.cells.length-1) none
def xR(t:Tr):Bool:=decide (1<=t.cells.length)&&decide (t.cells.length<=2048)&&KQ t.root
def oQ(t:Tr):Option OL:=if xR t then Gb t.cells.length t.cells 0 (yX t)else none
def Gc(t:Tr):Bool:=(oQ t).isSome
def my(t:Tr):List Bx:=match oQ t with
 |some L=>L.map λx=>x.getD []
 |none=>[]
theorem I8{c:Cel}{L L':OL}(h:yW n i c L=some L'):∃b,L[i]?=some (some b)/\
 ((D0 c=true/\HR c.v=true/\L'=L)\/
  (D0 c=false/\xQ n i c=true/\kp b c.joint=true/\L[c.low.toNat]?=some none/\L[c.high.toNat]?=some none/\
    L'=(L.set c.low.toNat (some (rQ b c.joint))).set c.high.toNat (some (rR b c.joint)))):=by
 unfold yW at h;split at h
 .rename_i b e
  refine⟨b,e,?_⟩;split at h
  .rename_i a
   split at h
   .rename_i hf
    injection h with h;exact .inl ⟨a,hf,h.symm⟩
   .cases h
  .rename_i a
   split at h
   .rename_i hi
    split at h
    .rename_i f
     split at h
     .rename_i h1 d
      injection h with h;exact .inr ⟨by simpa using a,hi,f,h1,d,h.symm⟩
     .cases h
    .cases h
   .cases h
 .cases h
theorem I9{c:Cel}:xQ n i c=true↔(i:Int)<c.low/\c.low<n/\(i:Int)<c.high/\c.high<n/\c.low≠c.high/\NU c.v=true:=by
 simp[xQ,and_assoc]
theorem Gd{n:Nat}{P:Nat->OL->Prop}:∀(cs:List Cel)(i:Nat)(L L':OL),Gb n cs i L=some L'->P i L->
 (∀k c L L',cs[k]?=some c->P (i+k) L->yW n (i+k) c L=some L'->P (i+k+1) L')->P (i+cs.length) L'
 |[],i,L,L',h,a,_=>by simp[Gb]at h;subst h;exact a
 |c::cs,i,L,L',h,a,g=>by
  simp only[Gb]at h;split at h
  .rename_i b h1
   have l:=g 0 c L b rfl a h1
   have:=Gd cs (i+1) b L' h l (λk d M j m hp f=>by
    have e:i+1+k=i+(k+1):=by omega
    rw[e]at hp f|-
    exact g (k+1) d M j (by simpa using m) hp f)
   have e:i+(c::cs).length=i+1+cs.length:=by simp;omega
   rw[e];exact this
  .cases h
theorem KR{L:OL}{P:Nat->OL->Prop}(h:oQ t=some L)(e:P 0 (yX t))
 (hs:∀i c L a,t.cells[i]?=some c->P i L->yW t.cells.length i c L=some a->P (i+1) a):P t.cells.length L:=by
 unfold oQ at h;split at h
 .have:=Gd t.cells 0 _ _ h e (λk c M d f hp b=>by
   rw[Z7]at hp b|-;exact hs k c M d f hp b)
  simpa using this
 .cases h
theorem GK{L:OL}(h:oQ t=some L):xR t=true:=by
 unfold oQ at h;split at h
 .assumption
 .cases h
theorem Ja:xR t=true↔1<=t.cells.length/\t.cells.length<=2048/\1<=t.root.length/\t.root.length<=10/\bF vI t.root=true:=by
 simp[xR,KQ,and_assoc]
structure BOk(t:Tr)(i:Nat)(L:OL):Prop where
 len:L.length=t.cells.length
 pre:∀j,j<i->∃b,L[j]?=some (some b)
 ok:∀(j:Nat) b,L[j]?=some (some b)->b.length=t.root.length/\bF vI b=true
theorem DB{b:Bx}{j:Int}(h:kp b j=true):(rQ b j).length=b.length/\(rR b j).length=b.length:=by
 unfold rQ rR;rw[h];simp only[Zp];unfold kp at h;split<;>simp_all
theorem lL{lo hi:Int}:aS lo hi=true↔-2147483648<=lo/\lo<=hi/\hi<=2147483648:=by
 simp[aS,and_assoc]
theorem HS{x:Int×Int}(h:aS x.1 x.2=true):rP x=(x.1+x.2)/2:=by
 unfold rP;have a:=lL.1 h;rw[h,Zd rfl,show wr (x.1+x.2)=x.1+x.2 from aa (by omega) (by omega),Int.fdiv_eq_ediv];simp
theorem Ge{b:Bx}{j:Int}:kp b j=true↔0<=j/\bF vI b=true/\∃x,b[j.toNat]?=some x/\2<=x.2-x.1:=by
 unfold kp;constructor
 .intro h
  simp only[up,Is]at h;obtain⟨⟨h1,a⟩,d⟩:=h;refine⟨h1,a,?_⟩;split at d
  .rename_i x c
   refine⟨x,c,?_⟩;have e:=lL.1 (li.1 a _ (An c));rw[Is,AS,Zd (li.1 a _ (An c)),show wr (x.2-x.1)=x.2-x.1 from aa (by omega) (by omega)]at d;exact d
  .cases d
 .rintro⟨h1,a,x,c,d⟩
  have e:=lL.1 (li.1 a _ (An c))
  have f:AS x=x.2-x.1:=by
   rw[AS,Zd (li.1 a _ (An c))];exact aa (by omega) (by omega)
  simp[h1,a,c,f,d]
theorem MM{b:Bx}{j:Int}(h:kp b j=true):∃x,b[j.toNat]?=some x/\aS x.1 x.2=true/\2<=x.2-x.1/\rQ b j=b.set j.toNat (x.1,(x.1+x.2)/2)/\rR b j=b.set j.toNat ((x.1+x.2)/2,x.2):=by
 obtain⟨_,d,x,a,e⟩:=Ge.1 h;have c:aS x.1 x.2=true:=li.1 d _ (An a);refine⟨x,a,c,e,?_,?_⟩
 .simp[rQ,h,a,HS c]
 .simp[rR,h,a,HS c]
theorem zw{b:Bx}{j:Int}(h:kp b j=true):bF vI (rQ b j)=true/\bF vI (rR b j)=true:=by
 obtain⟨x,k,f,i,d,e⟩:=MM h;have a:=(Ge.1 h).2.1;have g:=lL.1 f;rw[d,e];constructor<;>refine li.2 λy c=>?_
 .rcases ZT c with h|rfl
  .exact li.1 a _ h
  .exact lL.2 ⟨by omega,by simp only;omega,by simp only;omega⟩
 .rcases ZT c with h|rfl
  .exact li.1 a _ h
  .exact lL.2 ⟨by simp only;omega,by simp only;omega,by omega⟩
theorem MN(h:xR t=true):BOk t 0 (yX t):=by
 obtain⟨h1,c,d,e,h5⟩:=Ja.1 h;refine⟨by simp[yX];omega,λj f=>by omega,λj b a=>?_⟩
 cases j with
 |zero=>simp[yX]at a;subst a;exact⟨rfl,h5⟩
 |succ j=>simp[yX,Zz]at a
theorem MO{L:OL}{a z:Nat}{x:Option Bx}(d:a≠z)(c:a<L.length)(e:z<L.length):((L.set a x).set z y)[j]?=if j=z then some y else if j=a then some x else L[j]?:=by
 rw[Zg];by_cases h1:z=j
 .subst h1;simp[e]
 .rw[Y6 h1,Y6 (λh=>h1 h.symm),Zg]
  by_cases b:a=j
  .subst b;simp[c]
  .rw[Y6 b,Y6 (λh=>b h.symm)]
theorem Gf{c:Cel}{L:OL}{x:Option Bx}(e:L.length=t.cells.length)(hi:xQ t.cells.length i c=true):((L.set c.low.toNat x).set c.high.toNat y)[j]?=if j=c.high.toNat then some y else if j=c.low.toNat then some x else L[j]?:=by
 obtain⟨h1,a,b,d,h5,_⟩:=I9.1 hi;exact MO (by omega) (by omega) (by omega)
theorem MP{c:Cel}{L L':OL}(h:BOk t i L)(hs:yW t.cells.length i c L=some L'):BOk t (i+1) L':=by
 obtain⟨b,g,⟨_,_,rfl⟩|⟨_,hi,f,m,k,rfl⟩⟩:=I8 hs
 .refine⟨h.len,λj l=>?_,h.ok⟩
  by_cases e:j=i
  .subst e;exact⟨b,g⟩
  .exact h.pre j (by omega)
 .have a:=h.ok i b g
  refine⟨by simpa using h.len,λj l=>?_,λj d hd=>?_⟩
  .rw[Gf h.len hi]
   split
   .exact⟨_,rfl⟩
   .split
    .exact⟨_,rfl⟩
    .by_cases e:j=i
     .subst e;exact⟨b,g⟩
     .exact h.pre j (by omega)
  .rw[Gf h.len hi]at hd
   split at hd
   .injection hd with hd;injection hd with hd;subst hd
    exact⟨by rw[(DB f).2];exact a.1,(zw f).2⟩
   .split at hd
    .injection hd with hd;injection hd with hd;subst hd
     exact⟨by rw[(DB f).1];exact a.1,(zw f).1⟩
    .exact h.ok j d hd
theorem xT{L:OL}(h:oQ t=some L):BOk t t.cells.length L:=
 KR h (MN (GK h)) (λ_ _ _ _ _ hp a=>MP hp a)
theorem BB{L:OL}(h:oQ t=some L):L=(my t).map some:=by
 have ok:=xT h;rw[my,h];simp only[List.map_map];apply ZM;intro j;by_cases c:j<L.length
 .obtain⟨b,a⟩:=ok.pre j (by rw[<-ok.len];exact c)
  simp[a]
 .simp[Zh (by omega:L.length<=j)]
theorem Jb(h:Gc t=true):(my t).length=t.cells.length:=by
 obtain⟨L,hL⟩:=ZA.1 h;have:=(xT hL).len;rw[BB hL]at this;simpa using this
theorem KS{b:Bx}(a:(my t)[j]?=some b):b.length=t.root.length/\bF vI b=true:=by
 cases hL:oQ t with
 |none=>simp[my,hL]at a
 |some L=>
  have:=(xT hL).ok j b;rw[BB hL]at this;exact this (by simp[a])
def Jc(t:Tr)(i:Nat):Bool:=match t.cells[i]? with
 |some c=>D0 c
 |none=>false
def kD(t:Tr)(c:Int):Bx:=(my t)[c.toNat]?.getD []
theorem MQ(b:Gc t=true)(h:c.toNat<t.cells.length):(my t)[c.toNat]?=some (kD t c)/\(kD t c).length=t.root.length/\bF vI (kD t c)=true:=by
 have a:c.toNat<(my t).length:=by rw[Jb b];exact h
 have e:(my t)[c.toNat]?=some (kD t c):=by simp[kD,an a]
 exact⟨e,KS e⟩
def Gg(t:Tr)(chain:List Int)(j:Nat):Bool:=match chain[j]? with
 |some c=>decide (0<=c)&&decide (c<t.cells.length)&&Jc t c.toNat&& !((chain.take j).contains c)&&(decide (j=0)||EO (kD t (chain[j-1]?.getD 0)) (kD t c))
 |none=>false
theorem Jd{chain:List Int}(a:chain[j]?=some c):Gg t chain j=true↔0<=c/\c<t.cells.length/\Jc t c.toNat=true/\c∉chain.take j/\(j=0\/EO (kD t (chain[j-1]?.getD 0)) (kD t c)=true):=by
 simp[Gg,a,and_assoc]
structure ChOk(t:Tr)(chain p q:List Int):Prop where
 valid:Gc t=true
 hp:P3 t.root p=true
 hq:P3 t.root q=true
 ne:chain≠[]
 all:∀j,j<chain.length->Gg t chain j=true
namespace ChOk
variable {t:Tr} {chain p q:List Int}
theorem get(h:ChOk t chain p q)(a:j<chain.length):0<=chain[j]/\chain[j]<t.cells.length/\Jc t chain[j].toNat=true/\chain[j]∉chain.take j/\(j=0\/EO (kD t (chain[j-1]?.getD 0)) (kD t chain[j])=true):=
 (Jd (an a)).1 (h.all j a)
theorem box(h:ChOk t chain p q)(a:j<chain.length):(my t)[chain[j].toNat]?=some (kD t chain[j])/\(kD t chain[j]).length=t.root.length/\bF vI (kD t chain[j])=true:=by
 have:=h.get a;exact MQ h.valid (by omega)
end ChOk
section
variable (n:Nat) (may has hasF:Nat->Bool) (tch:Nat->Nat->Bool)
variable {n may has hasF tch}
end
theorem OT{P:Program}(D:Nat){t e:TypeId}(k:P.underlying t=some (.array 3 e))(hs:ag P (sizeOf e)=some 1)(i:∀x y:Int,ag P (Op.equalIn D e (.int .i64 x) (.int .i64 y))=some (x==y)){xs ys:Array Value}{d f g:Int}
 (p0:ag P (part e xs (0*1))=some (.int .i64 a))(l:ag P (part e xs (1*1))=some (.int .i64 b))(m:ag P (part e xs (2*1))=some (.int .i64 c))
 (n:ag P (part e ys (0*1))=some (.int .i64 d))(o:ag P (part e ys (1*1))=some (.int .i64 f))(p:ag P (part e ys (2*1))=some (.int .i64 g)):
 ag P (Op.equalIn (D+1) t (.agg xs) (.agg ys))=some (a==d&&b==f&&c==g):=by
 simp only[Op.equalIn,af,i9 k,Zi];simp only[hs,Zi,Std.Legacy.Range.forIn_eq_forIn_range',Std.Legacy.Range.size]
 have j:List.range' 0 ((3-0+1-1)/1) 1=[0,1,2]:=by decide
 rw[j];simp only[List.forIn_cons,List.forIn_nil,af,p0,n,i,Zi];cases h1:(a==d)
 .simp[cH]
 simp only[yAC,Y9,Zk,cH,Zi,af,l,o,i];cases q:(b==f)
 .simp[cH]
 simp only[yAC,Y9,Zk,cH,Zi,af,m,p,i];cases r:(c==g)
 all_goals simp[cH]
theorem NP(a b e c d f:Int):ag prog (Op.equal 60 (.agg #[.int .i64 a,.int .i64 b,.int .i64 e]) (.agg #[.int .i64 c,.int .i64 d,.int .i64 f]))=some (a==c&&b==d&&e==f):=
 OT 9999 Tryz.underlying60 (by kernel_rfl) (λx y=>kQ (P:=prog) 9998 2 .i64 .i64 x y Tryz.underlying2) (by kernel_rfl) (by kernel_rfl) (by kernel_rfl) (by kernel_rfl) (by kernel_rfl) (by kernel_rfl)
def yM(x:AV):Option (Int×Int×Int):=match x with
 |.pv (.val (.agg d))=>match d.toList with
  |[.int .i64 a,.int .i64 b,.int .i64 c]=>some (a,b,c)
  |_=>none
 |_=>none
theorem rc{x:AV}(h:yM x=some (a,b,c)):x=.pv (al (a,b,c)):=by
 unfold yM at h;split at h
 .split at h
  .rename_i e _ f g i d
   injection h with h;injection h with h1 h2;injection h2 with h2 h3;subst h1;subst h2;subst h3;rw[<-Array.toArray_toList (xs:=e),d]
  .cases h
 .cases h
def Mm(x y:AV)(fb:Option bG):Option bG:=match yM x,yM y with
 |some (a,b,e),some (c,d,f)=>some (.pv (.val (.bool !(a==c&&b==d&&e==f))),[])
 |_,_=>fb
@[simp] theorem Tu(a b e c d f:Int)(fb:Option bG):Mm (.pv (.val (.agg #[.int .i64 a,.int .i64 b,.int .i64 e]))) (.pv (.val (.agg #[.int .i64 c,.int .i64 d,.int .i64 f]))) fb=some (.pv (.val (.bool !(a==c&&b==d&&e==f))),[]):=rfl
@[simp] theorem XS{dst:Option Nat}{ty:TypeId}{pos:String}{aft:Array Edge}{g:Option (Nat×Bool)}(x y:Operand):
 aU prog ⟨dst,.binOp .neq 60 x y 60,ty,pos,aft,g⟩ ρ=Mm (ρ x) (ρ y) (jH prog ⟨dst,.binOp .neq 60 x y 60,ty,pos,aft,g⟩ ρ):=by
 unfold Mm;split
 .rename_i a b e c d f i j
  exact AM rfl (rc i) (rc j) (by kernel_rfl) (NP a b e c d f)
 .rfl
def IX(x y:AV)(fb:Option bG):Option bG:=match yM x,yM y with
 |some (a,b,e),some (c,d,f)=>some (.pv (.val (.bool (a==c&&b==d&&e==f))),[])
 |_,_=>fb
abbrev Iv:=Int×Int
def fe(a:Int):Int:=min (max a (-2147483648)) 2147483648
def cZ(a m:Int):Int:=-((-a)/m)
theorem bj(m n:Nat)(e:-(m:Int)<=a)(c:a<=m)(f:-(n:Int)<=b)(d:b<=n):-((m*n:Nat):Int)<=a*b/\a*b<=((m*n:Nat):Int):=by
 have h1:(a*b).natAbs<=m*n:=by
  rw[Int.natAbs_mul];exact yAp (by omega) (by omega)
 omega
theorem J7(a:Int)(m:Nat):a.fdiv (m:Int)=a/(m:Int):=Int.fdiv_eq_ediv_of_nonneg a (by omega)
theorem Qw(a:Int):a.fdiv 65536=a/65536:=J7 a 65536
theorem Qx(a:Int):a.fdiv 16384=a/16384:=J7 a 16384
theorem Qy(a:Int):a.fdiv 1073741824=a/1073741824:=J7 a 1073741824
theorem Fk(a:Int)(f:-4611686018427387904<=a)(g:a<=4611686018427387904):aF 284 (Z a) (Z 16) (Z (cZ a 65536)):=by
 have h1:a.fdiv (2^min 16 i64.bits)=a/65536:=Qw a
 have d:i64.wrap (a/65536*2^min 16 i64.bits)=a/65536*65536:=by
  show i64.wrap (a/65536*65536)=_;exact aa (by omega) (by omega)
 have e:i64.wrap (a/65536+1)=a/65536+1:=aa;by_cases b:a/65536*65536=a
 .have hf:cZ a 65536=a/65536:=by unfold cZ;omega
  rw[hf];refine Dp func284 λC hP hN=>?_;exact Gy
 .have hf:cZ a 65536=a/65536+1:=by unfold cZ;omega
  rw[hf]
  have c:(a/65536*65536==a)=false:=by simpa using b
  refine Dp func284 λC hP hN=>?_;exact Gy
theorem Qz(a:Int):aF 255 (Z a) (Z 16) (Z (a/65536)):=by
 have h1:a.fdiv (2^min 16 i64.bits)=a/65536:=Qw a;refine Dp func255 λC hP hN=>?_;exact Gy
theorem UC(a:Int)(f:-4611686018427387904<=a)(g:a<=4611686018427387904):aF 284 (Z a) (Z 14) (Z (cZ a 16384)):=by
 have h1:a.fdiv (2^min 14 i64.bits)=a/16384:=Qx a
 have d:i64.wrap (a/16384*2^min 14 i64.bits)=a/16384*16384:=by
  show i64.wrap (a/16384*16384)=_;exact aa (by omega) (by omega)
 have e:i64.wrap (a/16384+1)=a/16384+1:=aa;by_cases b:a/16384*16384=a
 .have hf:cZ a 16384=a/16384:=by unfold cZ;omega
  rw[hf];refine Dp func284 λC hP hN=>?_;exact Gy
 .have hf:cZ a 16384=a/16384+1:=by unfold cZ;omega
  rw[hf]
  have c:(a/16384*16384==a)=false:=by simpa using b
  refine Dp func284 λC hP hN=>?_;exact Gy
theorem UD(a:Int):aF 255 (Z a) (Z 14) (Z (a/16384)):=by
 have h1:a.fdiv (2^min 14 i64.bits)=a/16384:=Qx a;refine Dp func255 λC hP hN=>?_;exact Gy
theorem UE(a:Int)(f:-4611686018427387904<=a)(g:a<=4611686018427387904):aF 284 (Z a) (Z 30) (Z (cZ a 1073741824)):=by
 have h1:a.fdiv (2^min 30 i64.bits)=a/1073741824:=Qy a
 have d:i64.wrap (a/1073741824*2^min 30 i64.bits)=a/1073741824*1073741824:=by
  show i64.wrap (a/1073741824*1073741824)=_;exact aa (by omega) (by omega)
 have e:i64.wrap (a/1073741824+1)=a/1073741824+1:=aa;by_cases b:a/1073741824*1073741824=a
 .have hf:cZ a 1073741824=a/1073741824:=by unfold cZ;omega
  rw[hf];refine Dp func284 λC hP hN=>?_;exact Gy
 .have hf:cZ a 1073741824=a/1073741824+1:=by unfold cZ;omega
  rw[hf]
  have c:(a/1073741824*1073741824==a)=false:=by simpa using b
  refine Dp func284 λC hP hN=>?_;exact Gy
theorem UF(a:Int):aF 255 (Z a) (Z 30) (Z (a/1073741824)):=by
 have h1:a.fdiv (2^min 30 i64.bits)=a/1073741824:=Qy a;refine Dp func255 λC hP hN=>?_;exact Gy
def ff(x y:Iv):Iv:=if aS x.1 x.2&&aS y.1 y.2 then(fe (x.1+y.1),fe (x.2+y.2))else(0,0)
def gX(x:Iv):Iv:=if aS x.1 x.2 then(-x.2,-x.1)else(0,0)
def en(x y:Iv):Iv:=if aS x.1 x.2&&aS y.1 y.2 then
 (fe (min (x.1*y.1) (min (x.1*y.2) (min (x.2*y.1) (x.2*y.2)))/65536),fe (cZ (max (x.1*y.1) (max (x.1*y.2) (max (x.2*y.1) (x.2*y.2)))) 65536))else(0,0)
def qf(x:Int):Iv:=(fe x,fe x)
theorem dV:aS a b=true↔-2147483648<=a/\a<=b/\b<=2147483648:=by
 simp only[aS,up,Is];constructor
 .rintro⟨⟨h1,c⟩,d⟩;exact⟨h1,c,d⟩
 .rintro⟨h1,c,d⟩;exact⟨⟨h1,c⟩,d⟩
theorem NA(a b:Int):aF 315 (Z a) (Z b) (I (fe a) (fe b)):=PZ a b
theorem Cc(a:Int):aR 297 (Z a) (I (fe a) (fe a)):=tG a
theorem Cd:aF 312 (I a b) (I c d) (aJ (ff (a,b) (c,d))):=by
 cases e:(aS a b&&aS c d)with
 |false=>
  have f:ff (a,b) (c,d)=(0,0):=by simp[ff,e]
  rw[f];refine Dp func312 λC hP hN=>?_;have i:=@EL;exact GS e
 |true=>
  have f:ff (a,b) (c,d)=(fe (a+c),fe (b+d)):=by simp only[ff,e,Zp]
  rw[f];have g:=e;rw[up,dV,dV]at g;have w1:i64.wrap (a+c)=a+c:=aa;have w2:i64.wrap (b+d)=b+d:=aa;refine Dp func312 λC hP hN=>?_
  with_reducible repeat' (first|refine Sp.h ?_|((first|refine Ss.h ?_|refine Sc.h (EL _ _ _ _) ?_|refine Sc.h (NA _ _) ?_|(refine Sb.h ?_ ?_ ?_<;>(try intro hgd)<;>try exact Xy))<;>simp -implicitDefEqProofs (maxSteps:=2000000) [hP,hN,e,w1,w2])|refine X2 ?_ ?_|(refine Xd ?_ ?_<;>intro hcd<;>try exact Xx))
theorem LI:aR 340 (I a b) (aJ (gX (a,b))):=by
 cases c:aS a b with
 |false=>
  have d:gX (a,b)=(0,0):=by simp[gX,c]
  rw[d];refine Dp func340 λC hP hN=>?_;have f:=@jY;exact GS c
 |true=>
  have d:gX (a,b)=(-b,-a):=by simp only[gX,c,Zp]
  rw[d];have e:=c;rw[dV]at e;have w1:i64.wrap (-b)=-b:=aa;have w2:i64.wrap (-a)=-a:=aa;have g:i64.wrap (0-b)=-b:=(aa (n:=0-b) (by omega) (by omega)).trans (by omega);have i:i64.wrap (0-a)=-a:=(aa (n:=0-a) (by omega) (by omega)).trans (by omega);refine Dp func340 λC hP hN=>?_;have f:=@jY;exact GS (it c w1 w2 g i)
theorem UG(a b:Int)(c:-4611686018427387904<=b)(d:b<=4611686018427387904):aF 324 (Z a) (Z b) (I (fe (a/65536)) (fe (cZ b 65536))):=by
 refine Dp func324 λC hP hN=>?_
 with_reducible repeat' (first|refine Sp.h ?_|((first|refine Ss.h ?_|refine Sc.h (Qz _) ?_|refine Sc.h (Fk _ c d) ?_|refine Sc.h (NA _ _) ?_|(refine Sb.h ?_ ?_ ?_<;>(try intro hgd)<;>try exact Xy))<;>simp -implicitDefEqProofs (maxSteps:=2000000) [hP,hN])|refine X2 ?_ ?_|(refine Xd ?_ ?_<;>intro hcd<;>try exact Xx))
@[simp] theorem Sr:i64.wrap 1=1:=by decide
@[simp] theorem Su:i64.wrap 2=2:=by decide
@[simp] theorem Sv:i64.wrap 3=3:=by decide
@[simp] theorem YT:i64.wrap 4=4:=by decide
theorem UH(h:i<=4):i=0\/i=1\/i=2\/i=3\/i=4:=by omega
theorem QA:aF 313 (I a b) (I c d) (aJ (en (a,b) (c,d))):=by
 cases j:(aS a b&&aS c d)with
 |false=>
  have p:en (a,b) (c,d)=(0,0):=by simp[en,j]
  rw[p];refine Dp func313 λC hP hN=>?_;have E:=@EL;exact GS j
 |true=>
  have q:=j;rw[up,dV,dV]at q;have m1:=bj (a:=a) (b:=c) 2147483648 2147483648 (by omega) (by omega) (by omega) (by omega);have m2:=bj (a:=a) (b:=d) 2147483648 2147483648 (by omega) (by omega) (by omega) (by omega);have B:=bj (a:=b) (b:=c) 2147483648 2147483648 (by omega) (by omega) (by omega) (by omega);have D:=bj (a:=b) (b:=d) 2147483648 2147483648 (by omega) (by omega) (by omega) (by omega);have w1:i64.wrap (a*c)=a*c:=aa;have w2:i64.wrap (a*d)=a*d:=aa;have y:i64.wrap (b*c)=b*c:=aa;have z:i64.wrap (b*d)=b*d:=aa
  have p:en (a,b) (c,d)=(fe (min (a*c) (min (a*d) (min (b*c) (b*d)))/65536),fe (cZ (max (a*c) (max (a*d) (max (b*c) (b*d)))) 65536)):=by simp only[en,j,Zp]
  rw[p];generalize l:a*c=e at *;generalize m:a*d=f at *;generalize n:b*c=g at *;generalize o:b*d=k at *;have A:=UG (min e (min f (min g k))) (max e (max f (max g k))) (by omega) (by omega);refine Dp func313 λC hP hN=>?_
  with_reducible repeat' (first|refine Sp.h ?_|((first|refine Wd ?_|refine Ss.h ?_|refine Sc.h (EL _ _ _ _) ?_|(refine Sb.h ?_ ?_ ?_<;>(try intro hgd)<;>try exact Xy))<;>simp -implicitDefEqProofs (maxSteps:=2000000) [hP,hN,j,w1,w2,y,z,l,m,n,o]<;>try refine Ya ?_)|refine X2 ?_ ?_|(refine Xd ?_ ?_<;>intro hcd<;>try exact Xx))
  refine WP.loopN [] 4 (λi st=>st.t 4=.ptr 4 0/\st.h 4=some (.box [.pv (Z 0),.pv (Z 0)] true false)/\st.t 40=.pv (.val (.agg #[.int .i64 e,.int .i64 f,.int .i64 g,.int .i64 k]))/\st.t 41=.pv (Z i)/\
   st.t 6=.pv (Z (if i<=1 then e else if i=2 then min e f else if i=3 then min e (min f g)else min e (min f (min g k))))/\st.t 7=.pv (Z (if i<=1 then e else if i=2 then max e f else if i=3 then max e (max f g)else max e (max f (max g k))))) (by simp) ?_
  rintro i st hi ⟨g4,x,r,s,u,v⟩;rcases UH hi with rfl|rfl|rfl|rfl|rfl
  all_goals (simp at u v)
  all_goals
   exact Gy
def eg(x:Int):Nat->Int
 |0=>1073741824
 |1=>x*6746518852/65536
 |k+2=>eg x (k+1)*(x*6746518852/65536)/1073741824
def eh(x:Int):Nat->Int
 |0=>1073741824
 |1=>cZ (x*6746518853) 65536
 |k+2=>cZ (eh x (k+1)*cZ (x*6746518853) 65536) 1073741824
theorem pn{x:Int}(b:0<=x)(h1:x<=8192):∀k,0<=eg x k/\eg x k<=1073741824
 |0=>by simp[eg]
 |1=>by simp only[eg];omega
 |k+2=>by
  have h:=pn b h1 (k+1)
  have a:0<=x*6746518852/65536/\x*6746518852/65536<=1073741824:=by omega
  simp only[eg];generalize x*6746518852/65536=y at *;have c:=Z8 h.1 a.1;have d:=yBn h.2 a.2 a.1 (by decide:(0:Int)<=1073741824);omega
theorem po{x:Int}(b:0<=x)(h1:x<=8192):∀k,0<=eh x k/\eh x k<=1073741824
 |0=>by simp[eh]
 |1=>by simp only[eh,cZ];omega
 |k+2=>by
  have h:=po b h1 (k+1)
  have a:0<=cZ (x*6746518853) 65536/\cZ (x*6746518853) 65536<=1073741824:=by unfold cZ;omega
  simp only[eh];generalize cZ (x*6746518853) 65536=y at *;have c:=Z8 h.1 a.1;have d:=yBn h.2 a.2 a.1 (by decide:(0:Int)<=1073741824);unfold cZ;omega
theorem um{x:Int}(b:0<=x)(h1:x<=8192)(j:Nat):0<=eg x j*eg x 1/\eg x j*eg x 1<=1152921504606846976:=by
 have h:=pn b h1 j;have a:=pn b h1 1;have c:=Z8 h.1 a.1;have d:=yBn h.2 a.2 a.1 (by decide:(0:Int)<=1073741824);omega
theorem pA{x:Int}(b:0<=x)(h1:x<=8192)(j:Nat):0<=eh x j*eh x 1/\eh x j*eh x 1<=1152921504606846976:=by
 have h:=po b h1 j;have a:=po b h1 1;have c:=Z8 h.1 a.1;have d:=yBn h.2 a.2 a.1 (by decide:(0:Int)<=1073741824);omega
def iR(f:Nat->Int)(n:Nat):List AV:=[.pv (Z (if 0<n then f 0 else 0)),.pv (Z (if 1<n then f 1 else 0)),.pv (Z (if 2<n then f 2 else 0)),.pv (Z (if 3<n then f 3 else 0)),.pv (Z (if 4<n then f 4 else 0)),.pv (Z (if 5<n then f 5 else 0)),
 .pv (Z (if 6<n then f 6 else 0)),.pv (Z (if 7<n then f 7 else 0)),.pv (Z (if 8<n then f 8 else 0)),.pv (Z (if 9<n then f 9 else 0)),.pv (Z (if 10<n then f 10 else 0))]
abbrev DV(f:Nat->Int):PV:=.val (.agg #[.int .i64 (f 0),.int .i64 (f 1),.int .i64 (f 2),.int .i64 (f 3),.int .i64 (f 4),.int .i64 (f 5),.int .i64 (f 6),.int .i64 (f 7),.int .i64 (f 8),.int .i64 (f 9),.int .i64 (f 10)])
@[simp] theorem YX:i64.wrap 5=5:=by decide
@[simp] theorem YY:i64.wrap 6=6:=by decide
@[simp] theorem YZ:i64.wrap 7=7:=by decide
@[simp] theorem Y0:i64.wrap 8=8:=by decide
@[simp] theorem Y1:i64.wrap 9=9:=by decide
@[simp] theorem XC:i64.wrap 10=10:=by decide
@[simp] theorem XD:i64.wrap 11=11:=by decide
set_option maxRecDepth 4000 in
theorem QK(x:Int)(m:0<=x)(h1:x<=8192):aR 354 (Z x) (.tup [DV (eg x),DV (eh x)]):=by
 have w1:i64.wrap (x*6746518852)=x*6746518852:=aa;have w2:i64.wrap (x*6746518853)=x*6746518853:=aa;have c1:aW prog 255 [.pv (Z (x*6746518852)),.pv (Z 16)] [] [] (.pv (Z (eg x 1))):=Qz _;have q:aW prog 284 [.pv (Z (x*6746518853)),.pv (Z 16)] [] [] (.pv (Z (eh x 1))):=Fk _ (by omega) (by omega);have m1:∀j,i64.wrap (eg x j*eg x 1)=eg x j*eg x 1:=λj=>aa (by have:=um m h1 j;omega) (by have:=um m h1 j;omega);have m2:∀j,i64.wrap (eh x j*eh x 1)=eh x j*eh x 1:=λj=>aa (by have:=pA m h1 j;omega) (by have:=pA m h1 j;omega);have k:∀j,aW prog 255 [.pv (Z (eg x (j+1)*eg x 1)),.pv (Z 30)] [] [] (.pv (Z (eg x (j+2)))):=λj=>UF _;have l:∀j,aW prog 284 [.pv (Z (eh x (j+1)*eh x 1)),.pv (Z 30)] [] [] (.pv (Z (eh x (j+2)))):=λj=>UE _ (by have:=pA m h1 (j+1);omega) (by have:=pA m h1 (j+1);omega);have o:eg x 0=1073741824:=rfl;have p:eh x 0=1073741824:=rfl;generalize eg x=f at *;generalize eh x=g at *;refine Dp func354 λC hP hN=>?_;refine Gz ?_;refine WP.loopN [] 9 (λi st=>st.t 2=.ptr 2 0/\st.t 3=.ptr 3 0/\st.t 4=.ptr 4 0/\st.t 5=.ptr 5 0/\st.t 6=.pv (Z (i+2:Nat))/\st.h 2=some (.box (iR f 0) true false)/\st.h 3=some (.box (iR f 0) true false)/\st.h 4=some (.box (iR f (i+2)) true false)/\st.h 5=some (.box (iR g (i+2)) true false)) (by simp[iR,o,p]) ?_;rintro i st hi ⟨g2,g3,g4,g5,e,a,b,c,d⟩
 have n:i=0\/i=1\/i=2\/i=3\/i=4\/i=5\/i=6\/i=7\/i=8\/i=9:=by omega
 rcases n with rfl|rfl|rfl|rfl|rfl|rfl|rfl|rfl|rfl|rfl
 all_goals (simp only[iR]at a b c d;simp at e a b c d)
 all_goals skip
 .skip
  with_reducible repeat' (first|refine Sp.h ?_|((first|refine Wd ?_|refine Ss.h ?_|refine Sc.h (k 0) ?_|refine Sc.h (l 0) ?_)<;>simp -implicitDefEqProofs [hP,hN,g2,g3,g4,g5,e,a,b,c,d,m1,m2,iR]<;>try refine Ya ?_))
 .skip
  with_reducible repeat' (first|refine Sp.h ?_|((first|refine Wd ?_|refine Ss.h ?_|refine Sc.h (k 1) ?_|refine Sc.h (l 1) ?_)<;>simp -implicitDefEqProofs [hP,hN,g2,g3,g4,g5,e,a,b,c,d,m1,m2,iR]<;>try refine Ya ?_))
 .skip
  with_reducible repeat' (first|refine Sp.h ?_|((first|refine Wd ?_|refine Ss.h ?_|refine Sc.h (k 2) ?_|refine Sc.h (l 2) ?_)<;>simp -implicitDefEqProofs [hP,hN,g2,g3,g4,g5,e,a,b,c,d,m1,m2,iR]<;>try refine Ya ?_))
 .skip
  with_reducible repeat' (first|refine Sp.h ?_|((first|refine Wd ?_|refine Ss.h ?_|refine Sc.h (k 3) ?_|refine Sc.h (l 3) ?_)<;>simp -implicitDefEqProofs [hP,hN,g2,g3,g4,g5,e,a,b,c,d,m1,m2,iR]<;>try refine Ya ?_))
 .skip
  with_reducible repeat' (first|refine Sp.h ?_|((first|refine Wd ?_|refine Ss.h ?_|refine Sc.h (k 4) ?_|refine Sc.h (l 4) ?_)<;>simp -implicitDefEqProofs [hP,hN,g2,g3,g4,g5,e,a,b,c,d,m1,m2,iR]<;>try refine Ya ?_))
 .skip
  with_reducible repeat' (first|refine Sp.h ?_|((first|refine Wd ?_|refine Ss.h ?_|refine Sc.h (k 5) ?_|refine Sc.h (l 5) ?_)<;>simp -implicitDefEqProofs [hP,hN,g2,g3,g4,g5,e,a,b,c,d,m1,m2,iR]<;>try refine Ya ?_))
 .skip
  with_reducible repeat' (first|refine Sp.h ?_|((first|refine Wd ?_|refine Ss.h ?_|refine Sc.h (k 6) ?_|refine Sc.h (l 6) ?_)<;>simp -implicitDefEqProofs [hP,hN,g2,g3,g4,g5,e,a,b,c,d,m1,m2,iR]<;>try refine Ya ?_))
 .skip
  with_reducible repeat' (first|refine Sp.h ?_|((first|refine Wd ?_|refine Ss.h ?_|refine Sc.h (k 7) ?_|refine Sc.h (l 7) ?_)<;>simp -implicitDefEqProofs [hP,hN,g2,g3,g4,g5,e,a,b,c,d,m1,m2,iR]<;>try refine Ya ?_))
 .skip
  with_reducible repeat' (first|refine Sp.h ?_|((first|refine Wd ?_|refine Ss.h ?_|refine Sc.h (k 8) ?_|refine Sc.h (l 8) ?_)<;>simp -implicitDefEqProofs [hP,hN,g2,g3,g4,g5,e,a,b,c,d,m1,m2,iR]<;>try refine Ya ?_))
 .skip
  exact Gy
def mr(i:Nat):Int:=if i%2=0 then 1 else -1
def oD(xs:List Int):Nat->Int
 |0=>0
 |i+1=>oD xs i+mr i*(xs[i]?).getD 0
def eG(xs:List Int):Int:=oD xs xs.length
theorem Hs(i:Nat)(x:Int):(mr i*x=x\/mr i*x=-x):=by unfold mr;split<;>simp
theorem Fz(i:Nat):mr (i+1)=-mr i:=by unfold mr;split<;>split<;>omega
theorem vu{xs:List Int}(a:∀x∈xs,-1099511627776<=x/\x<=1099511627776):∀i:Nat,-((i:Int)*1099511627776)<=oD xs i/\oD xs i<=(i:Int)*1099511627776
 |0=>by simp[oD]
 |i+1=>by
  have h:=vu a i
  have c:-1099511627776<=(xs[i]?).getD 0/\(xs[i]?).getD 0<=1099511627776:=by
   cases b:xs[i]? with
   |none=>simp
   |some y=>exact a y (An b)
  have d:=Hs i ((xs[i]?).getD 0);simp only[oD];omega
theorem IF(xs:List Int)(k:xs.length<=1000)(c:∀x∈xs,-1099511627776<=x/\x<=1099511627776):aR 355 (zs xs) (Z (eG xs)):=by
 refine Dp func355 λC hP hN=>?_;refine Gz ?_;refine WP.loopN [] xs.length (λi st=>st.t 3=.pv (Z (oD xs i))/\st.t 4=.pv (Z (mr i))/\st.t 7=.pv (zs xs)/\st.t 8=.pv (Z xs.length)/\st.t 9=.pv (Z i)) (by simp[oD,mr]) ?_;rintro i st hi ⟨g3,g4,d,e,f⟩;by_cases a:i<xs.length
 .have m:=ab a (by omega)
  have b:xs[i]?=some xs[i]:=an a;have l:=c xs[i] (Zs a);have j:=vu c i;have g:=Hs i xs[i];have w1:i64.wrap (mr i*xs[i])=mr i*xs[i]:=aa;have w2:i64.wrap (oD xs i+mr i*xs[i])=oD xs (i+1):=(aa (by omega) (by omega)).trans (by simp[oD,b])
  have n:i64.wrap (-mr i)=mr (i+1):=by
   rw[Fz];unfold mr;split<;>decide
  have o:i64.wrap (0-mr i)=mr (i+1):=by
   rw[Fz];unfold mr;split<;>decide
  exact Gy
 .skip
  refine Gz ?_
  all_goals (have:i=xs.length:=by omega
             subst this;rfl)
def aM(n d:Int):Int:=(n+d-1)/d
theorem vw(n d:Int)(hn:0<=n)(b:n<=1099511627776)(hd:1<=d)(a:d<=1099511627776):aF 356 (Z n) (Z d) (Z (aM n d)):=by
 have w1:i64.wrap (n+d)=n+d:=aa;have w2:i64.wrap (n+d-1)=n+d-1:=aa;have hq:(n+d-1).tdiv d=(n+d-1)/d:=Zr (by omega);have e:0<=(n+d-1)/d:=yAY (by omega) (by omega);have f:(n+d-1)/d<=n+d-1:=yBq _ (by omega);have g:i64.wrap ((n+d-1)/d)=(n+d-1)/d:=aa
 have c:d≠0:=by omega
 refine Dp func356 λC hP hN=>?_;refine Gz ?_
 all_goals rfl
def tQ(lo hi:Int):Iv:=(max 0 (lo/16384),min 65536 (cZ hi 16384))
theorem QL(lo hi:Int)(h1:-4611686018427387904<=hi)(a:hi<=4611686018427387904):aF 357 (Z lo) (Z hi) (aJ (tQ lo hi)):=by
 refine Dp func357 λC hP hN=>?_;have b:=@UD;have c:=UC _ h1 a;refine GT trivial ?_
 all_goals simp[tQ]
def oE(f g:Nat->Int):List Int:=[f 1,aM (g 3) 6,f 5/120,aM (g 7) 5040]
def lH(f g:Nat->Int):List Int:=[g 1,f 3/6,aM (g 5) 120,f 7/5040,aM (g 9) 362880]
def sf(f g:Nat->Int):List Int:=[1073741824,aM (g 2) 2,f 4/24,aM (g 6) 720,f 8/40320,aM (g 10) 3628800]
def pB(f g:Nat->Int):List Int:=[1073741824,f 2/2,aM (g 4) 24,f 6/720,aM (g 8) 40320]
def vA(x:Int):Iv:=tQ (eG (oE (eg x) (eh x))) (eG (lH (eg x) (eh x)))
def zX(x:Int):Iv:=tQ (eG (sf (eg x) (eh x))) (eG (pB (eg x) (eh x)))
theorem dX{n:Int}(e:0<=n)(h1:n<=1073741824)(hd:1<=d)(a:d<=4000000):0<=aM n d/\aM n d<=1099511627776:=by
 unfold aM;have b:0<=(n+d-1)/d:=yAY (by omega) (by omega);have c:(n+d-1)/d<=n+d-1:=yBq _ (by omega);omega
theorem FA(hf:∀j,0<=f j/\f j<=1073741824)(j:Nat)(d:Int):(f j).tdiv d=f j/d:=Zr (hf j).1
theorem sg(hf:∀j,0<=f j/\f j<=1073741824)(j:Nat)(hd:0<d):0<=f j/d/\f j/d<=1073741824:=by
 have h:=hf j;have a:0<=f j/d:=yAY (by omega) (by omega);have b:f j/d<=f j:=yBq _ (by omega);omega
theorem FB(hf:∀j,0<=f j/\f j<=1073741824)(j:Nat)(hd:0<d):i64.wrap (f j/d)=f j/d:=by
 have:=sg hf j hd;exact aa (by omega) (by omega)
theorem U7(x:Int)(c:0<=x)(h1:x<=8192):aR 352 (Z x) (aJ (vA x)):=by
 have o:=QK x c h1;have hf:=pn c h1;have a:=po c h1;show aW _ _ _ _ _ (.pv (aJ (tQ (eG (oE (eg x) (eh x))) (eG (lH (eg x) (eh x))))));generalize eg x=f at *;generalize eh x=g at *
 have k1:∀y∈oE f g,-1099511627776<=y/\y<=1099511627776:=by
  intro y b;have a1:=hf 1;have a2:=dX (d:=6) (a 3).1 (a 3).2 (by decide) (by decide);have a3:=sg hf 5 (d:=120) (by decide);have a4:=dX (d:=5040) (a 7).1 (a 7).2 (by decide) (by decide);simp only[oE,Zx,ZD,Z4]at b;rcases b with rfl|rfl|rfl|rfl<;>omega
 have k2:∀y∈lH f g,-1099511627776<=y/\y<=1099511627776:=by
  intro y b;have a1:=a 1;have a2:=dX (d:=120) (a 5).1 (a 5).2 (by decide) (by decide);have a3:=sg hf 3 (d:=6) (by decide);have a4:=dX (d:=362880) (a 9).1 (a 9).2 (by decide) (by decide);have a5:=sg hf 7 (d:=5040) (by decide);simp only[lH,Zx,ZD,Z4]at b;rcases b with rfl|rfl|rfl|rfl|rfl<;>omega
 have b2:=vu k2 5;have b3:-(((5:Nat):Int)*1099511627776)<=eG (lH f g)/\eG (lH f g)<=((5:Nat):Int)*1099511627776:=b2;have l:aW prog 355 [.pv (.sl [Z (f 1),Z (aM (g 3) 6),Z (f 5/120),Z (aM (g 7) 5040)])] [] [] (.pv (Z (eG (oE f g)))):=IF (oE f g) (by simp[oE]) k1;have m:aW prog 355 [.pv (.sl [Z (g 1),Z (f 3/6),Z (aM (g 5) 120),Z (f 7/5040),Z (aM (g 9) 362880)])] [] [] (.pv (Z (eG (lH f g)))):=IF (lH f g) (by simp[lH]) k2;have e:=vw (g 3) 6 (a 3).1 (by have:=a 3;omega) (by decide) (by decide);have j:=vw (g 7) 5040 (a 7).1 (by have:=a 7;omega) (by decide) (by decide);have i:=vw (g 5) 120 (a 5).1 (by have:=a 5;omega) (by decide) (by decide);have k:=vw (g 9) 362880 (a 9).1 (by have:=a 9;omega) (by decide) (by decide);have n:=QL (eG (oE f g)) (eG (lH f g)) (by omega) (by omega);generalize eG (oE f g)=lo at *;generalize eG (lH f g)=hi at *;have t1:=FA hf 5 120;have t2:=FA hf 3 6;have t3:=FA hf 7 5040;have w1:=FB hf 5 (d:=120) (by decide);have w2:=FB hf 3 (d:=6) (by decide);have p:=FB hf 7 (d:=5040) (by decide);refine Dp func352 λC hP hN=>?_;exact Gy
theorem U8(x:Int)(c:0<=x)(h1:x<=8192):aR 353 (Z x) (aJ (zX x)):=by
 have o:=QK x c h1;have hf:=pn c h1;have a:=po c h1;show aW _ _ _ _ _ (.pv (aJ (tQ (eG (sf (eg x) (eh x))) (eG (pB (eg x) (eh x))))));generalize eg x=f at *;generalize eh x=g at *
 have k1:∀y∈sf f g,-1099511627776<=y/\y<=1099511627776:=by
  intro y b;have a2:=dX (d:=2) (a 2).1 (a 2).2 (by decide) (by decide);have a3:=sg hf 4 (d:=24) (by decide);have a4:=dX (d:=720) (a 6).1 (a 6).2 (by decide) (by decide);have a5:=sg hf 8 (d:=40320) (by decide);have a6:=dX (d:=3628800) (a 10).1 (a 10).2 (by decide) (by decide);simp only[sf,Zx,ZD,Z4]at b;rcases b with rfl|rfl|rfl|rfl|rfl|rfl<;>omega
 have k2:∀y∈pB f g,-1099511627776<=y/\y<=1099511627776:=by
  intro y b;have a2:=dX (d:=24) (a 4).1 (a 4).2 (by decide) (by decide);have a3:=sg hf 2 (d:=2) (by decide);have a4:=dX (d:=40320) (a 8).1 (a 8).2 (by decide) (by decide);have a5:=sg hf 6 (d:=720) (by decide);simp only[pB,Zx,ZD,Z4]at b;rcases b with rfl|rfl|rfl|rfl|rfl<;>omega
 have b2:=vu k2 5;have b3:-(((5:Nat):Int)*1099511627776)<=eG (pB f g)/\eG (pB f g)<=((5:Nat):Int)*1099511627776:=b2;have l:aW prog 355 [.pv (.sl [Z 1073741824,Z (aM (g 2) 2),Z (f 4/24),Z (aM (g 6) 720),Z (f 8/40320),Z (aM (g 10) 3628800)])] [] [] (.pv (Z (eG (sf f g)))):=IF (sf f g) (by simp[sf]) k1;have m:aW prog 355 [.pv (.sl [Z 1073741824,Z (f 2/2),Z (aM (g 4) 24),Z (f 6/720),Z (aM (g 8) 40320)])] [] [] (.pv (Z (eG (pB f g)))):=IF (pB f g) (by simp[pB]) k2;have i:=vw (g 2) 2 (a 2).1 (by have:=a 2;omega) (by decide) (by decide);have c6:=vw (g 6) 720 (a 6).1 (by have:=a 6;omega) (by decide) (by decide);have e:=vw (g 10) 3628800 (a 10).1 (by have:=a 10;omega) (by decide) (by decide);have j:=vw (g 4) 24 (a 4).1 (by have:=a 4;omega) (by decide) (by decide);have k:=vw (g 8) 40320 (a 8).1 (by have:=a 8;omega) (by decide) (by decide);have n:=QL (eG (sf f g)) (eG (pB f g)) (by omega) (by omega);generalize eG (sf f g)=lo at *;generalize eG (pB f g)=hi at *;have t1:=FA hf 4 24;have t2:=FA hf 8 40320;have t3:=FA hf 2 2;have t4:=FA hf 6 720;have w1:=FB hf 4 (d:=24) (by decide);have w2:=FB hf 8 (d:=40320) (by decide);have p:=FB hf 2 (d:=2) (by decide);have q:=FB hf 6 (d:=720) (by decide);refine Dp func353 λC hP hN=>?_;exact Gy
def ek(r:Int):Iv:=if r<=8192 then vA r else zX (16384-r)
theorem QM(r:Int)(b:0<=r)(h1:r<=16384):aR 350 (Z r) (aJ (ek r)):=by
 have w1:i64.wrap (16384-r)=16384-r:=aa;by_cases h:r<=8192
 .have hf:ek r=vA r:=by simp[ek,h]
  have a:=U7 r b h;rw[hf];generalize vA r=y at *;refine Dp func350 λC hP hN=>?_;exact Gy
 .have hf:ek r=zX (16384-r):=by simp[ek,h]
  have a:=U8 (16384-r) (by omega) (by omega);rw[hf];generalize zX (16384-r)=y at *;refine Dp func350 λC hP hN=>?_;exact Gy
theorem SG(a:Int):BK .and .i64 a 65535=a%65536:=by
 unfold BK
 have h1:(BitVec.ofInt 64 a &&& BitVec.ofInt 64 65535).toNat=(a%65536).toNat:=by
  rw[BitVec.toNat_and,BitVec.toNat_ofInt,BitVec.toNat_ofInt]
  have c:((65535:Int)%((2^64:Nat):Int)).toNat=2^16-1:=by decide
  rw[c,Nat.and_two_pow_sub_one_eq_mod];have d:0<=a%((2^64:Nat):Int):=yAg _ (by decide);have e:(a%((2^64:Nat):Int))%65536=a%65536:=Int.emod_emod_of_dvd a (by decide);omega
 show i64.wrap ((BitVec.ofInt 64 a &&& BitVec.ofInt 64 65535).toNat:Int)=_;rw[h1,IntKind.wrap_i64];have:=yAg a (b:=65536) (by decide);have:=yAi a (b:=65536) (by decide);omega
theorem LV(a:Int):aR 349 (Z a) (Z (a%65536)):=by
 refine Dp func349 λC hP hN=>?_;exact GS @SG
def qC(m:Int):Iv:=if m/16384=0 then ek (m%16384)else if m/16384=1 then ek (16384-m%16384)else if m/16384=2 then gX (ek (m%16384))else gX (ek (16384-m%16384))
def pC(a:Int):Iv:=qC (a%65536)
theorem QN(a:Int):aR 345 (Z a) (aJ (pC a)):=by
 have j:=LV a;show aW _ _ _ _ _ (.pv (aJ (qC (a%65536))));have d:=yAg a (b:=65536) (by decide);have k:=yAi a (b:=65536) (by decide);generalize a%65536=m at *;have t1:m.tmod 16384=m%16384:=yBm d;have t2:m.tdiv 16384=m/16384:=Zr d;have w1:i64.wrap (m/16384)=m/16384:=aa;have w2:i64.wrap (m%16384)=m%16384:=aa;have e:i64.wrap (16384-m%16384)=16384-m%16384:=aa;have g:=QM (m%16384) (by omega) (by omega);have i:=QM (16384-m%16384) (by omega) (by omega)
 have key:m/16384=0\/m/16384=1\/m/16384=2\/m/16384=3:=by omega
 rcases key with c|c|c|c
 .have hf:qC m=ek (m%16384):=by simp[qC,c]
  rw[hf];generalize ek (m%16384)=y at *;refine Dp func345 λC hP hN=>?_;exact Gy
 .have hf:qC m=ek (16384-m%16384):=by simp[qC,c]
  rw[hf];generalize ek (16384-m%16384)=y at *;refine Dp func345 λC hP hN=>?_;exact Gy
 .have hf:qC m=gX (ek (m%16384)):=by simp[qC,c]
  rw[hf];generalize ek (m%16384)=y at *;refine Dp func345 λC hP hN=>?_;have f:=@LI;exact GS (so t1 t2 w1 w2 e c)
 .have hf:qC m=gX (ek (16384-m%16384)):=by simp[qC,c]
  rw[hf];generalize ek (16384-m%16384)=y at *;refine Dp func345 λC hP hN=>?_;have f:=@LI;exact GS (so t1 t2 w1 w2 e c)
def vB(a:Int):Iv:=pC (a%65536+16384)
theorem U9(a:Int):aR 344 (Z a) (aJ (vB a)):=by
 have c:=LV a;show aW _ _ _ _ _ (.pv (aJ (pC (a%65536+16384))));have e:=yAg a (b:=65536) (by decide);have f:=yAi a (b:=65536) (by decide);generalize a%65536=m at *;have w1:i64.wrap (m+16384)=m+16384:=aa;have d:=QN (m+16384);generalize pC (m+16384)=y at *;refine Dp func344 λC hP hN=>?_;exact Gy
def mt(a:Iv)(t:Int):Bool:=aS a.1 a.2&&decide (a.1<=a.1+(t-a.1)%65536)&&decide (a.1+(t-a.1)%65536<=a.2)
theorem QO(t:Int)(h1:-2147483648<=a)(d:a<=2147483648)(e:-2147483648<=t)(f:t<=2147483648):aF 348 (I a b) (Z t) (B (mt (a,b) t)):=by
 have w1:i64.wrap (t-a)=t-a:=aa;have i:=yAg (t-a) (b:=65536) (by decide);have j:=yAi (t-a) (b:=65536) (by decide);have w2:i64.wrap (a+(t-a)%65536)=a+(t-a)%65536:=aa;have c:=LV (t-a);refine Dp func348 λC hP hN=>?_;have g:=@T4;refine GT (gA w1 w2) ?_
 all_goals (try simp[mt])
def iQ(a:Iv)(v:Int->Iv)(t b:Int):Iv:=if aS a.1 a.2=false then(0,0)else if 65536<=a.2-a.1 then(-65536,65536)else
 let h:=gb (v a.1) (v a.2)
 let h1:=if mt a t then gb h (qf 65536)else h
 if mt a b then gb h1 (qf (-65536))else h1
theorem QP(f:FuncId)(v:Int->Iv)(t u:Int)(hf:∀x,aW prog f [.pv (Z x)] [] [] (.pv (aJ (v x))))(q:-2147483648<=t)(j:t<=2147483648)(r:-2147483648<=u)(k:u<=2147483648):lR 343 (I a b) (Fv f) (Z t) (Z u) (aJ (iQ (a,b) v t u)):=by
 cases c:aS a b with
 |false=>
  have d:iQ (a,b) v t u=(0,0):=by simp[iQ,c]
  rw[d];refine Dp func343 λC hP hN=>?_;have l:=@jY;exact GS c
 |true=>
  have s:=dV.1 c;have w1:i64.wrap (b-a)=b-a:=aa;have m:=QO (a:=a) (b:=b) t (by omega) (by omega) q j;have n:=QO (a:=a) (b:=b) u (by omega) (by omega) r k;have z:aW prog 297 [.pv (Z 65536)] [] [] (.pv (I 65536 65536)):=Cc 65536;have A:aW prog 297 [.pv (Z (-65536))] [] [] (.pv (I (-65536) (-65536))):=Cc (-65536);by_cases e:65536<=b-a
  .have d:iQ (a,b) v t u=(-65536,65536):=by simp[iQ,c,e]
   rw[d];refine Dp func343 λC hP hN=>?_;have l:=@jY;have y:=@EM;exact GS (be c w1 e)
  .have d:iQ (a,b) v t u=(let h:=gb (v a) (v b);let h1:=if mt (a,b) t then gb h (65536,65536)else h;if mt (a,b) u then gb h1 (-65536,-65536)else h1):=by
    have o:qf 65536=(65536,65536):=by decide
    have p:qf (-65536)=(-65536,-65536):=by decide
    simp[iQ,c,e,o,p]
   rw[d];cases g:mt (a,b) t<;>cases i:mt (a,b) u<;>rw[g]at m<;>rw[i]at n
   all_goals
    refine Dp func343 λC hP hN=>?_;have l:=@jY;have y:=@EM;have B:=@hf;have D:=@Ik;exact GS (be c w1 e)
    all_goals (try simp)
def sh(a:Iv):Iv:=iQ a pC 16384 49152
def si(a:Iv):Iv:=iQ a vB 0 32768
theorem Va:aR 339 (I a b) (aJ (sh (a,b))):=by
 have c:=QP (a:=a) (b:=b) 345 pC 16384 49152 QN (by decide) (by decide) (by decide) (by decide);refine Dp func339 λC hP hN=>?_;refine Gz ?_
 all_goals exact⟨rfl,rfl⟩
theorem Vb:aR 338 (I a b) (aJ (si (a,b))):=by
 have c:=QP (a:=a) (b:=b) 344 vB 0 32768 U9 (by decide) (by decide) (by decide) (by decide);refine Dp func338 λC hP hN=>?_;refine Gz ?_
 all_goals exact⟨rfl,rfl⟩
abbrev aq:=Iv×Iv×Iv
abbrev oF:=aq×aq×aq
abbrev oG:=oF×aq
abbrev V6(x0 x1 x2 x3 x4 x5:Int):PV:=.val (.agg #[.int .i64 x0,.int .i64 x1,.int .i64 x2,.int .i64 x3,.int .i64 x4,.int .i64 x5])
abbrev FC(x0 x1 x2 x3 x4 x5 j k l m a b c d e f g i:Int):PV:=.val (.agg #[.int .i64 x0,.int .i64 x1,.int .i64 x2,.int .i64 x3,.int .i64 x4,.int .i64 x5,.int .i64 j,.int .i64 k,.int .i64 l,.int .i64 m,.int .i64 a,.int .i64 b,.int .i64 c,.int .i64 d,.int .i64 e,.int .i64 f,.int .i64 g,.int .i64 i])
abbrev zn(x0 x1 x2 x3 x4 x5 p q r s a b c d e f g i j k l m n o:Int):PV:=.val (.agg #[.int .i64 x0,.int .i64 x1,.int .i64 x2,.int .i64 x3,.int .i64 x4,.int .i64 x5,.int .i64 p,.int .i64 q,.int .i64 r,.int .i64 s,.int .i64 a,.int .i64 b,.int .i64 c,.int .i64 d,.int .i64 e,.int .i64 f,.int .i64 g,.int .i64 i,.int .i64 j,.int .i64 k,.int .i64 l,.int .i64 m,.int .i64 n,.int .i64 o])
abbrev bi(v:aq):PV:=V6 v.1.1 v.1.2 v.2.1.1 v.2.1.2 v.2.2.1 v.2.2.2
abbrev yF(m:oF):PV:=FC m.1.1.1 m.1.1.2 m.1.2.1.1 m.1.2.1.2 m.1.2.2.1 m.1.2.2.2 m.2.1.1.1 m.2.1.1.2 m.2.1.2.1.1 m.2.1.2.1.2 m.2.1.2.2.1 m.2.1.2.2.2 m.2.2.1.1 m.2.2.1.2 m.2.2.2.1.1 m.2.2.2.1.2 m.2.2.2.2.1 m.2.2.2.2.2
abbrev bA(p:oG):PV:=zn p.1.1.1.1 p.1.1.1.2 p.1.1.2.1.1 p.1.1.2.1.2 p.1.1.2.2.1 p.1.1.2.2.2 p.1.2.1.1.1 p.1.2.1.1.2 p.1.2.1.2.1.1 p.1.2.1.2.1.2 p.1.2.1.2.2.1 p.1.2.1.2.2.2 p.1.2.2.1.1 p.1.2.2.1.2 p.1.2.2.2.1.1 p.1.2.2.2.1.2 p.1.2.2.2.2.1 p.1.2.2.2.2.2 p.2.1.1 p.2.1.2 p.2.2.1.1 p.2.2.1.2 p.2.2.2.1 p.2.2.2.2
def g3(v:α×α×α):Nat->α
 |0=>v.1
 |1=>v.2.1
 |_=>v.2.2
@[simp] theorem Z0(v:α×α×α):g3 v 0=v.1:=rfl
@[simp] theorem Z1(v:α×α×α):g3 v 1=v.2.1:=rfl
@[simp] theorem Z2(v:α×α×α):g3 v 2=v.2.2:=rfl
def jp(m v:aq):Nat->Iv
 |0=>(0,0)
 |n+1=>ff (jp m v n) (en (g3 m n) (g3 v n))
def sj(a b:aq):aq:=(ff a.1 b.1,ff a.2.1 b.2.1,ff a.2.2 b.2.2)
def un(m:oF)(v:aq):aq:=(jp m.1 v 3,jp m.2.1 v 3,jp m.2.2 v 3)
def xr(x:Int):Int:=min (max x (-65536)) 65536
def IG(x:Iv):Iv:=(xr x.1,xr x.2)
def eQ(b:oF)(c:Nat):aq:=(g3 b.1 c,g3 b.2.1 c,g3 b.2.2 c)
def uo(a b:oF)(r c:Nat):Iv:=IG (jp (g3 a r) (eQ b c) 3)
def Bi(a b:oF):oF:=((uo a b 0 0,uo a b 0 1,uo a b 0 2),(uo a b 1 0,uo a b 1 1,uo a b 1 2),(uo a b 2 0,uo a b 2 1,uo a b 2 2))
def dq(v:Int×Int×Int):aq:=(qf v.1,qf v.2.1,qf v.2.2)
def mu:oF:=(((65536,65536),(0,0),(0,0)),((0,0),(65536,65536),(0,0)),((0,0),(0,0),(65536,65536)))
def ba:aq:=((0,0),(0,0),(0,0))
def eO(b:Int)(a:Iv):oF:=if aS a.1 a.2 then
 (if b=0 then(((65536,65536),(0,0),(0,0)),((0,0),si a,gX (sh a)),((0,0),sh a,si a))
  else if b=1 then((si a,(0,0),sh a),((0,0),(65536,65536),(0,0)),(gX (sh a),(0,0),si a))
  else if b=2 then((si a,gX (sh a),(0,0)),(sh a,si a,(0,0)),((0,0),(0,0),(65536,65536)))
  else(ba,ba,ba))else(ba,ba,ba)
def dr(v:aq):oG:=(mu,v)
def gz(b:Int)(a:Iv):oG:=(eO b a,ba)
def oH(a b:oG):oG:=(Bi a.1 b.1,sj a.2 (un a.1 b.2))
def ie(p:oG)(v:aq):aq:=sj p.2 (un p.1 v)
theorem dA(h:i<=3):i=0\/i=1\/i=2\/i=3:=by omega
def pick(b:Bool)(x:Iv):Iv:=if b then x else(0,0)
@[simp] theorem XE(x:Iv):pick true x=x:=rfl
@[simp] theorem XF(x:Iv):pick false x=(0,0):=rfl
def c6(v:aq)(i:Nat):List AV:=[.pv (Z (pick (decide (0<i)) (g3 v 0)).1),.pv (Z (pick (decide (0<i)) (g3 v 0)).2),.pv (Z (pick (decide (1<i)) (g3 v 1)).1),.pv (Z (pick (decide (1<i)) (g3 v 1)).2),.pv (Z (pick (decide (2<i)) (g3 v 2)).1),.pv (Z (pick (decide (2<i)) (g3 v 2)).2)]
theorem LW(x y z:Int):aR 279 (oa x y z) (bi (dq (x,y,z))):=by
 have f:=λa=>Cc a;refine Dp func279 λC hP hN=>?_;refine Gz ?_;refine WP.loopN [] 3 (λi st=>st.t 1=.ptr 1 0/\st.t 2=.ptr 2 0/\st.t 3=.ptr 3 0/\st.t 5=.pv (Z i)/\st.h 1=some (.box [.pv (Z x),.pv (Z y),.pv (Z z)] true false)/\st.h 2=some (.box (c6 (dq (x,y,z)) 0) true false)/\st.h 3=some (.box (c6 (dq (x,y,z)) i) true false)) (by simp[c6]) ?_;rintro i st hi ⟨g1,g2,e,g5,b,c,d⟩;rcases dA hi with rfl|rfl|rfl|rfl
 all_goals (simp[c6,dq,qf]at g5 b c d)
 all_goals
  have g:=@f;exact GS (zAc g1 g2 e g5 b c d @c6.eq_1 @dq.eq_1 @qf.eq_1)
theorem Ve:aF 310 (V6 a0 a1 a2 a3 a4 a5) (V6 b0 b1 b2 b3 b4 b5) (bi (sj ((a0,a1),(a2,a3),(a4,a5)) ((b0,b1),(b2,b3),(b4,b5)))):=by
 refine Dp func310 λC hP hN=>?_;refine Gz ?_;refine WP.loopN [] 3 (λi st=>st.t 2=.ptr 2 0/\st.t 3=.ptr 3 0/\st.t 4=.ptr 4 0/\st.t 5=.ptr 5 0/\st.t 7=.pv (Z i)/\st.h 2=some (.box [.pv (Z a0),.pv (Z a1),.pv (Z a2),.pv (Z a3),.pv (Z a4),.pv (Z a5)] true false)/\st.h 3=some (.box [.pv (Z b0),.pv (Z b1),.pv (Z b2),.pv (Z b3),.pv (Z b4),.pv (Z b5)] true false)/\st.h 4=some (.box (c6 ba 0) true false)/\st.h 5=some (.box (c6 (sj ((a0,a1),(a2,a3),(a4,a5)) ((b0,b1),(b2,b3),(b4,b5))) i) true false)) (by simp[c6]) ?_;rintro i st hi ⟨g2,e,g4,g5,f,a,b,c,d⟩;rcases dA hi with rfl|rfl|rfl|rfl
 all_goals (simp[c6,sj]at f a b c d)
 all_goals
  have g:=@Cd;exact GS (zAc g2 e g4 g5 f a b c d (gA @c6.eq_1 @sj.eq_1))
def cI(i:Nat):List AV:=[.pv (Z (if 0<i then 65536 else 0)),.pv (Z (if 0<i then 65536 else 0)),.pv (Z 0),.pv (Z 0),.pv (Z 0),.pv (Z 0),.pv (Z 0),.pv (Z 0),.pv (Z (if 1<i then 65536 else 0)),.pv (Z (if 1<i then 65536 else 0)),.pv (Z 0),.pv (Z 0),.pv (Z 0),.pv (Z 0),.pv (Z 0),.pv (Z 0),.pv (Z (if 2<i then 65536 else 0)),.pv (Z (if 2<i then 65536 else 0))]
theorem Vf:BC 296 (yF mu):=by
 have d:aW prog 297 [.pv (Z 65536)] [] [] (.pv (I 65536 65536)):=Cc 65536;refine Dp func296 λC hP hN=>?_;refine Gz ?_;refine WP.loopN [] 3 (λi st=>st.t 0=.ptr 0 0/\st.t 1=.ptr 1 0/\st.t 3=.pv (Z i)/\st.h 0=some (.box (cI 0) true false)/\st.h 1=some (.box (cI i) true false)) (by simp[cI]) ?_;rintro i st hi ⟨g0,g1,a,b,c⟩;rcases dA hi with rfl|rfl|rfl|rfl
 all_goals (simp[cI]at a b c)
 all_goals
  exact GS (zAa g0 g1 a b c @cI.eq_1 @mu.eq_1)
def sm(m:oF)(v:aq)(i k r:Nat):Iv:=if r<i then jp (g3 m r) v 3 else if r=i then jp (g3 m r) v k else(0,0)
def cA(m:oF)(v:aq)(i k:Nat):List AV:=[.pv (Z (sm m v i k 0).1),.pv (Z (sm m v i k 0).2),.pv (Z (sm m v i k 1).1),.pv (Z (sm m v i k 1).2),.pv (Z (sm m v i k 2).1),.pv (Z (sm m v i k 2).2)]
theorem Vg:aF 311 (FC a0 a1 a2 a3 a4 a5 a6 a7 a8 a9 a10 a11 a12 a13 a14 a15 a16 a17) (V6 v0 v1 v2 v3 v4 v5) (bi (un (((a0,a1),(a2,a3),(a4,a5)),((a6,a7),(a8,a9),(a10,a11)),((a12,a13),(a14,a15),(a16,a17))) ((v0,v1),(v2,v3),(v4,v5)))):=by
 obtain⟨A,o⟩:∃A:oF,A=(((a0,a1),(a2,a3),(a4,a5)),((a6,a7),(a8,a9),(a10,a11)),((a12,a13),(a14,a15),(a16,a17))):=⟨_,rfl⟩;obtain⟨D,p⟩:∃D:aq,D=((v0,v1),(v2,v3),(v4,v5)):=⟨_,rfl⟩;obtain⟨r,e⟩:∃l:List AV,l=[a0,a1,a2,a3,a4,a5,a6,a7,a8,a9,a10,a11,a12,a13,a14,a15,a16,a17].map λx=>.pv (Z x):=⟨_,rfl⟩;simp only[yAf,yBk]at e;rw[<-o,<-p];refine Dp func311 λC hP hN=>?_
 with_reducible repeat' (first|refine Sp.h ?_|((first|refine Wd ?_|refine Ss.h ?_|(refine Sb.h ?_ ?_ ?_<;>(try intro hgd)<;>try exact Xy))<;>simp -implicitDefEqProofs (maxSteps:=2000000) [hP,hN,e]<;>try refine Ya ?_)|refine X2 ?_ ?_|(refine Xd ?_ ?_<;>intro hcd<;>try exact Xx))
 refine WP.loopN [] 3 (λi st=>st.t 2=.ptr 2 0/\st.t 3=.ptr 3 0/\st.t 4=.ptr 4 0/\st.t 5=.ptr 5 0/\st.h 2=some (.box r true false)/\st.h 3=some (.box [.pv (Z v0),.pv (Z v1),.pv (Z v2),.pv (Z v3),.pv (Z v4),.pv (Z v5)] true false)/\st.h 4=some (.box (cA A D 0 0) true false)/\st.t 8=.pv (Z i)/\st.h 5=some (.box (cA A D i 0) true false)) (by simp[cA,sm,jp,e]) ?_;rintro i st hi ⟨g2,f,g4,g5,a,g,b,m,c⟩;rw[e]at a;by_cases q:i=3
 .simp[cA,sm,q]at m b c
  with_reducible repeat' (first|refine Sp.h ?_|((first|refine Wd ?_|refine Ss.h ?_|(refine Sb.h ?_ ?_ ?_<;>(try intro hgd)<;>try exact Xy))<;>simp -implicitDefEqProofs (maxSteps:=2000000) [hP,hN,g2,f,g4,g5,m,a,g,b,c,un,q]<;>try refine Ya ?_)|refine X2 ?_ ?_|(refine Xd ?_ ?_<;>intro hcd<;>try exact Xx))
 have d:i=0\/i=1\/i=2:=by omega
 rcases d with d|d|d
 all_goals
  with_reducible repeat' (first|refine Sp.h ?_|((first|refine Wd ?_|refine Ss.h ?_|(refine Sb.h ?_ ?_ ?_<;>(try intro hgd)<;>try exact Xy))<;>simp -implicitDefEqProofs (maxSteps:=2000000) [hP,hN,g2,f,g4,g5,m,a,g,b,c,d]<;>try refine Ya ?_)|refine X2 ?_ ?_|(refine Xd ?_ ?_<;>intro hcd<;>try exact Xx))
  refine WP.loopN [] 3 (λk st=>st.t 2=.ptr 2 0/\st.t 3=.ptr 3 0/\st.t 4=.ptr 4 0/\st.t 5=.ptr 5 0/\st.h 2=some (.box r true false)/\st.h 3=some (.box [.pv (Z v0),.pv (Z v1),.pv (Z v2),.pv (Z v3),.pv (Z v4),.pv (Z v5)] true false)/\st.h 4=some (.box (cA A D 0 0) true false)/\st.t 8=.pv (Z i)/\st.t 6=.pv (Z i)/\st.t 11=.pv (Z k)/\st.h 5=some (.box (cA A D i k) true false)) (by simp[cA,sm,jp,e,g2,f,g4,g5,m,a,g,b,c,d]) ?_;clear g2 f g4 g5 m a g b c;rintro k st u ⟨g2,f,g4,g5,a,g,b,m,s,n,c⟩;rw[e]at a;rcases dA u with j|j|j|j
  all_goals
   simp[cA,sm,jp,o,p,d,j]at n b c
   with_reducible repeat' (first|refine Sp.h ?_|((first|refine Wd ?_|refine Ss.h ?_|refine Sc.h (QA) ?_|refine Sc.h (Cd) ?_|(refine Sb.h ?_ ?_ ?_<;>(try intro hgd)<;>try exact Xy))<;>simp -implicitDefEqProofs (maxSteps:=2000000) [hP,hN,g2,f,g4,g5,s,m,n,a,g,b,c,e,cA,sm,jp,o,p,d,j]<;>try refine Ya ?_)|refine X2 ?_ ?_|(refine Xd ?_ ?_<;>intro hcd<;>try exact Xx))
theorem Vh(x:Int):aR 314 (Z x) (Z (xr x)):=by
 refine Dp func314 λC hP hN=>?_
 with_reducible repeat' (first|refine Sp.h ?_|((first|refine Ss.h ?_|(refine Sb.h ?_ ?_ ?_<;>(try intro hgd)<;>try exact Xy))<;>simp -implicitDefEqProofs (maxSteps:=2000000) [hP,hN])|refine X2 ?_ ?_|(refine Xd ?_ ?_<;>intro hcd<;>try exact Xx))
 all_goals (try simp[xr])
def iz(a b:oF)(i k r c:Nat):Iv:=if r<i\/(r=i/\c<k)then uo a b r c else(0,0)
def cC(a b:oF)(i k:Nat):List AV:=[.pv (Z (iz a b i k 0 0).1),.pv (Z (iz a b i k 0 0).2),.pv (Z (iz a b i k 0 1).1),.pv (Z (iz a b i k 0 1).2),.pv (Z (iz a b i k 0 2).1),.pv (Z (iz a b i k 0 2).2),.pv (Z (iz a b i k 1 0).1),.pv (Z (iz a b i k 1 0).2),.pv (Z (iz a b i k 1 1).1),.pv (Z (iz a b i k 1 1).2),.pv (Z (iz a b i k 1 2).1),.pv (Z (iz a b i k 1 2).2),.pv (Z (iz a b i k 2 0).1),.pv (Z (iz a b i k 2 0).2),.pv (Z (iz a b i k 2 1).1),.pv (Z (iz a b i k 2 1).2),.pv (Z (iz a b i k 2 2).1),.pv (Z (iz a b i k 2 2).2)]
def tn(a b:List AV)(A B:oF)(st:St):Prop:=st.t 2=.ptr 2 0/\st.t 3=.ptr 3 0/\st.t 4=.ptr 4 0/\st.t 5=.ptr 5 0/\st.h 2=some (.box a true false)/\st.h 3=some (.box b true false)/\st.h 4=some (.box (cC A B 0 0) true false)
theorem Vi{b6 L M N z D E F G H I J:Int}:aF 295 (FC a0 a1 a2 a3 a4 a5 a6 a7 a8 a9 a10 a11 a12 a13 a14 a15 a16 a17) (FC b0 b1 b2 b3 b4 b5 b6 L M N z D E F G H I J) (yF (Bi (((a0,a1),(a2,a3),(a4,a5)),((a6,a7),(a8,a9),(a10,a11)),((a12,a13),(a14,a15),(a16,a17))) (((b0,b1),(b2,b3),(b4,b5)),((b6,L),(M,N),(z,D)),((E,F),(G,H),(I,J))))):=by
 obtain⟨A,T⟩:∃A:oF,A=(((a0,a1),(a2,a3),(a4,a5)),((a6,a7),(a8,a9),(a10,a11)),((a12,a13),(a14,a15),(a16,a17))):=⟨_,rfl⟩;obtain⟨B,U⟩:∃B:oF,B=(((b0,b1),(b2,b3),(b4,b5)),((b6,L),(M,N),(z,D)),((E,F),(G,H),(I,J))):=⟨_,rfl⟩;rw[<-T,<-U];obtain⟨P,p⟩:∃l:List AV,l=[a0,a1,a2,a3,a4,a5,a6,a7,a8,a9,a10,a11,a12,a13,a14,a15,a16,a17].map λx=>.pv (Z x):=⟨_,rfl⟩;obtain⟨lb,q⟩:∃l:List AV,l=[b0,b1,b2,b3,b4,b5,b6,L,M,N,z,D,E,F,G,H,I,J].map λx=>.pv (Z x):=⟨_,rfl⟩;simp only[yAf,yBk]at p q;have X:∀i k,IG (jp (g3 A i) (eQ B k) 3)=uo A B i k:=λ_ _=>rfl;have d1:∀m v n,jp m v (n+1)=ff (jp m v n) (en (g3 m n) (g3 v n)):=λ_ _ _=>rfl
 have W:g3 (g3 A 0) 0=(a0,a1)/\g3 (g3 A 0) 1=(a2,a3)/\g3 (g3 A 0) 2=(a4,a5)/\g3 (g3 A 1) 0=(a6,a7)/\g3 (g3 A 1) 1=(a8,a9)/\g3 (g3 A 1) 2=(a10,a11)/\g3 (g3 A 2) 0=(a12,a13)/\g3 (g3 A 2) 1=(a14,a15)/\g3 (g3 A 2) 2=(a16,a17)/\g3 (eQ B 0) 0=(b0,b1)/\g3 (eQ B 1) 0=(b2,b3)/\g3 (eQ B 2) 0=(b4,b5)/\g3 (eQ B 0) 1=(b6,L)/\g3 (eQ B 1) 1=(M,N)/\g3 (eQ B 2) 1=(z,D)/\g3 (eQ B 0) 2=(E,F)/\g3 (eQ B 1) 2=(G,H)/\g3 (eQ B 2) 2=(I,J):=by
  rw[T,U]
  repeat' (first|rfl|constructor)
 refine Dp func295 λC hP hN=>?_
 with_reducible repeat' (first|refine Sp.h ?_|((first|refine Wd ?_|refine Ss.h ?_|(refine Sb.h ?_ ?_ ?_<;>(try intro hgd)<;>try exact Xy))<;>simp -implicitDefEqProofs (maxSteps:=2000000) [hP,hN,p,q]<;>try refine Ya ?_)|refine X2 ?_ ?_|(refine Xd ?_ ?_<;>intro hcd<;>try exact Xx))
 refine WP.loopN [8] 3 (λi st=>tn P lb A B st/\st.t 10=.pv (Z i)/\st.h 5=some (.box (cC A B i 0) true false)/\st.h 8=none) (by simp[tn,cC,iz,p,q]) ?_;rintro i st hi ⟨⟨g2,o,g4,g5,a,b,c⟩,g,d,r⟩;rw[p]at a;rw[q]at b;by_cases S:i=3
 .simp[cC,iz,S]at g c d
  with_reducible repeat' (first|refine Sp.h ?_|((first|refine Wd ?_|refine Ss.h ?_|(refine Sb.h ?_ ?_ ?_<;>(try intro hgd)<;>try exact Xy))<;>simp -implicitDefEqProofs (maxSteps:=2000000) [hP,hN,g2,o,g4,g5,g,a,b,c,d,r,Bi,S]<;>try refine Ya ?_)|refine X2 ?_ ?_|(refine Xd ?_ ?_<;>intro hcd<;>try exact Xx))
 have f:i=0\/i=1\/i=2:=by omega
 rcases f with f|f|f
 all_goals
  with_reducible repeat' (first|refine Sp.h ?_|((first|refine Wd ?_|refine Ss.h ?_|(refine Sb.h ?_ ?_ ?_<;>(try intro hgd)<;>try exact Xy))<;>simp -implicitDefEqProofs (maxSteps:=2000000) [hP,hN,g2,o,g4,g5,g,a,b,c,d,r,f]<;>try refine Ya ?_)|refine X2 ?_ ?_|(refine Xd ?_ ?_<;>intro hcd<;>try exact Xx))
  refine WP.loopN [8] 3 (λk st=>tn P lb A B st/\st.t 10=.pv (Z i)/\st.t 6=.pv (Z i)/\st.t 13=.pv (Z k)/\st.h 5=some (.box (cC A B i k) true false)/\st.h 8=none) (by simp[tn,cC,iz,p,q,g2,o,g4,g5,g,a,b,c,d,f]) ?_;clear g2 o g4 g5 g a b c d r;rintro k st hk ⟨⟨g2,o,g4,g5,a,b,c⟩,g,K,u,d,r⟩;rw[p]at a;rw[q]at b;by_cases k3:k=3
  .simp[cC,iz,f,k3]at u c d
   with_reducible repeat' (first|refine Sp.h ?_|((first|refine Wd ?_|refine Ss.h ?_|(refine Sb.h ?_ ?_ ?_<;>(try intro hgd)<;>try exact Xy))<;>simp -implicitDefEqProofs (maxSteps:=2000000) [hP,hN,g2,o,g4,g5,K,g,u,a,b,c,d,r,tn,p,q,cC,iz,f,k3]<;>try refine Ya ?_)|refine X2 ?_ ?_|(refine Xd ?_ ?_<;>intro hcd<;>try exact Xx))
  have s:k=0\/k=1\/k=2:=by omega
  rcases s with s|s|s
  all_goals
   with_reducible repeat' (first|refine Sp.h ?_|((first|refine Wd ?_|refine Ss.h ?_|(refine Sb.h ?_ ?_ ?_<;>(try intro hgd)<;>try exact Xy))<;>simp -implicitDefEqProofs (maxSteps:=2000000) [hP,hN,g2,o,g4,g5,K,g,u,a,b,c,d,r,f,s]<;>try refine Ya ?_)|refine X2 ?_ ?_|(refine Xd ?_ ?_<;>intro hcd<;>try exact Xx))
   refine WP.loopN [] 3 (λj st=>tn P lb A B st/\st.t 10=.pv (Z i)/\st.t 6=.pv (Z i)/\st.t 13=.pv (Z k)/\st.t 7=.pv (Z k)/\st.t 16=.pv (Z j)/\st.h 5=some (.box (cC A B i k) true false)/\st.t 8=.ptr 8 0/\st.h 8=some (.box [.pv (Z (jp (g3 A i) (eQ B k) j).1),.pv (Z (jp (g3 A i) (eQ B k) j).2)] true false)) (by simp[tn,cC,iz,jp,p,q,g2,o,g4,g5,K,g,u,a,b,c,d,f,s]) ?_;clear g2 o g4 g5 K g u a b c d r;rintro j st hj ⟨⟨g2,o,g4,g5,a,b,c⟩,g,K,u,Q,O,d,R,r⟩;rw[p]at a;rw[q]at b;by_cases Y:j=3
   .subst Y
    have e:=X i k;generalize jp (g3 A i) (eQ B k) 3=V at *;simp[cC,iz,f,s]at c d e
    with_reducible repeat' (first|refine Sp.h ?_|((first|refine Wd ?_|refine Ss.h ?_|refine Sc.h (Vh _) ?_|(refine Sb.h ?_ ?_ ?_<;>(try intro hgd)<;>try exact Xy))<;>simp -implicitDefEqProofs (maxSteps:=2000000) [hP,hN,g2,o,g4,g5,K,Q,R,g,u,O,a,b,c,d,r,tn,p,q,cC,iz,<-e,IG,f,s]<;>try refine Ya ?_)|refine X2 ?_ ?_|(refine Xd ?_ ?_<;>intro hcd<;>try exact Xx))
   have y:j=0\/j=1\/j=2:=by omega
   have e:=d1 (g3 A i) (eQ B k) j;generalize jp (g3 A i) (eQ B k) (j+1)=nx at *;generalize jp (g3 A i) (eQ B k) j=V at *;rcases y with y|y|y
   all_goals
    simp only[f,s,y,W]at e
    with_reducible repeat' (first|refine Sp.h ?_|((first|refine Wd ?_|refine Ss.h ?_|refine Sc.h (QA) ?_|refine Sc.h (Cd) ?_|(refine Sb.h ?_ ?_ ?_<;>(try intro hgd)<;>try exact Xy))<;>simp -implicitDefEqProofs (maxSteps:=2000000) [hP,hN,g2,o,g4,g5,K,Q,R,g,u,O,a,b,c,d,r,e,f,s,y,tn,p,q,cC,iz]<;>try refine Ya ?_)|refine X2 ?_ ?_|(refine Xd ?_ ?_<;>intro hcd<;>try exact Xx))
@[simp] theorem Y2:i64.wrap 0=0:=by decide
theorem Vj(x:Int):aF 335 (Z x) (I a b) (yF (eO x (a,b))):=by
 have m:aW prog 297 [.pv (Z 65536)] [] [] (.pv (I 65536 65536)):=Cc 65536;have n:aW prog 297 [.pv (Z 0)] [] [] (.pv (I 0 0)):=Cc 0
 cases c:aS a b with
 |false=>
  have d:eO x (a,b)=(ba,ba,ba):=by simp[eO,c]
  rw[d];refine Dp func335 λC hP hN=>?_
  with_reducible repeat' (first|refine Sp.h ?_|((first|refine Ss.h ?_|refine Sc.h (jY _ _) ?_)<;>simp -implicitDefEqProofs [hP,hN,c,ba]))
 |true=>
  have l:=Va (a:=a) (b:=b);have j:=Vb (a:=a) (b:=b);generalize hS:sh (a,b)=S at *;generalize e:si (a,b)=Q at *;have k:=LI (a:=S.1) (b:=S.2);by_cases f:x=0
  .have d:eO x (a,b)=(((65536,65536),(0,0),(0,0)),((0,0),Q,gX S),((0,0),S,Q)):=by simp[eO,c,f,hS,e]
   rw[d];subst f;refine Dp func335 λC hP hN=>?_;have i:=@jY;exact GS c
  by_cases h1:x=1
  .have d:eO x (a,b)=((Q,(0,0),S),((0,0),(65536,65536),(0,0)),(gX S,(0,0),Q)):=by simp[eO,c,h1,hS,e]
   rw[d];subst h1;refine Dp func335 λC hP hN=>?_;have i:=@jY;exact GS c
  by_cases g:x=2
  .have d:eO x (a,b)=((Q,gX S,(0,0)),(S,Q,(0,0)),((0,0),(0,0),(65536,65536))):=by simp[eO,c,g,hS,e]
   rw[d];subst g;refine Dp func335 λC hP hN=>?_;have i:=@jY;exact GS c
  .have d:eO x (a,b)=(ba,ba,ba):=by simp[eO,c,f,h1,g]
   rw[d];refine Dp func335 λC hP hN=>?_
   with_reducible repeat' (first|refine Sp.h ?_|((first|refine Wd ?_|refine Ss.h ?_|refine Sc.h (jY _ _) ?_|refine Sc.h (l) ?_|refine Sc.h (j) ?_|refine Sc.h (k) ?_|refine Sc.h (m) ?_|refine Sc.h (n) ?_|(refine Sb.h ?_ ?_ ?_<;>(try intro hgd)<;>try exact Xy))<;>simp -implicitDefEqProofs [hP,hN,c,f,h1,g,ba]<;>try refine Ya ?_)|refine X2 ?_ ?_|(refine Xd ?_ ?_<;>intro hcd<;>try exact Xx))
theorem QQ:BC 276 (bi ba):=by
 have a:aW prog 279 [.pv (oa 0 0 0)] [] [] (.pv (bi ba)):=LW 0 0 0;refine Dp func276 λC hP hN=>?_;exact Gy
theorem FD:aR 275 (V6 v0 v1 v2 v3 v4 v5) (bA (dr ((v0,v1),(v2,v3),(v4,v5)))):=by
 refine Dp func275 λC hP hN=>?_;have a:=@Vf;refine GT trivial ?_
 all_goals (try simp[dr])
def gh:oG:=(mu,ba)
theorem LX:BC 237 (bA gh):=by
 have a:aW prog 275 [.pv (bi ba)] [] [] (.pv (bA gh)):=FD;refine Dp func237 λC hP hN=>?_;have b:=@QQ;exact GS trivial
theorem Vk(x:Int):aF 322 (Z x) (I a b) (bA (gz x (a,b))):=by
 have d:=Vj (a:=a) (b:=b) x;have c:gz x (a,b)=(eO x (a,b),ba):=rfl;rw[c];generalize eO x (a,b)=m at *;refine Dp func322 λC hP hN=>?_;have e:=@QQ;exact GS trivial
abbrev Vl(p:PV):PV:=.fn (.func 309) [] [.rptr p 0]
theorem QR:aR 294 (zn a0 a1 a2 a3 a4 a5 a6 a7 a8 a9 a10 a11 a12 a13 a14 a15 a16 a17 a18 a19 a20 a21 a22 a23) (Vl (zn a0 a1 a2 a3 a4 a5 a6 a7 a8 a9 a10 a11 a12 a13 a14 a15 a16 a17 a18 a19 a20 a21 a22 a23)):=by
 refine Dp func294 λC hP hN=>?_;exact Gy
theorem QS:aF 309 (V6 v0 v1 v2 v3 v4 v5) (.rptr (zn a0 a1 a2 a3 a4 a5 a6 a7 a8 a9 a10 a11 a12 a13 a14 a15 a16 a17 a18 a19 a20 a21 a22 a23) 0) (bi (ie ((((a0,a1),(a2,a3),(a4,a5)),((a6,a7),(a8,a9),(a10,a11)),((a12,a13),(a14,a15),(a16,a17))),((a18,a19),(a20,a21),(a22,a23))) ((v0,v1),(v2,v3),(v4,v5)))):=by
 refine Dp func309 λC hP hN=>?_;have a:=@Vg;have b:=@Ve;refine GT trivial ?_
 all_goals (try simp[ie])
theorem Vm:aF 278 (zn a0 a1 a2 a3 a4 a5 a6 a7 a8 a9 a10 a11 a12 a13 a14 a15 a16 a17 a18 a19 a20 a21 a22 a23) (V6 v0 v1 v2 v3 v4 v5) (bi (ie ((((a0,a1),(a2,a3),(a4,a5)),((a6,a7),(a8,a9),(a10,a11)),((a12,a13),(a14,a15),(a16,a17))),((a18,a19),(a20,a21),(a22,a23))) ((v0,v1),(v2,v3),(v4,v5)))):=by
 refine Dp func278 λC hP hN=>?_;have a:=@QR;have b:=@QS;exact GS trivial
theorem xu{b6 p q r a b c d e f g i j k l m n o:Int}:aF 274 (zn a0 a1 a2 a3 a4 a5 a6 a7 a8 a9 a10 a11 a12 a13 a14 a15 a16 a17 a18 a19 a20 a21 a22 a23) (zn b0 b1 b2 b3 b4 b5 b6 p q r a b c d e f g i j k l m n o) (bA (oH ((((a0,a1),(a2,a3),(a4,a5)),((a6,a7),(a8,a9),(a10,a11)),((a12,a13),(a14,a15),(a16,a17))),((a18,a19),(a20,a21),(a22,a23))) ((((b0,b1),(b2,b3),(b4,b5)),((b6,p),(q,r),(a,b)),((c,d),(e,f),(g,i))),((j,k),(l,m),(n,o))))):=by
 refine Dp func274 λC hP hN=>?_;have s:=@QR;have u:=@QS;have v:=@Vi;refine GT trivial ?_
 all_goals (try simp[oH,ie])
theorem LY(x:Int):aF 306 (Z x) (I a b) (bA (gz x (a,b))):=by
 have c:=Vk (a:=a) (b:=b) x;generalize gz x (a,b)=m at *;refine Dp func306 λC hP hN=>?_;exact Gy
theorem Vn(x:Int):aF 308 (Z x) (I a b) (bA gh):=by
 refine Dp func308 λC hP hN=>?_;have c:=@LX;exact GS trivial
theorem Vo:aF 307 (Z 0) (I a b) (bA (dr ((a,b),(0,0),(0,0)))):=by
 have c:=FD (v0:=((a,b),(0,0),(0,0)).1.1) (v1:=((a,b),(0,0),(0,0)).1.2) (v2:=((a,b),(0,0),(0,0)).2.1.1) (v3:=((a,b),(0,0),(0,0)).2.1.2) (v4:=((a,b),(0,0),(0,0)).2.2.1) (v5:=((a,b),(0,0),(0,0)).2.2.2);refine Dp func307 λC hP hN=>?_;exact Gy
theorem Vp:aF 307 (Z 1) (I a b) (bA (dr ((0,0),(a,b),(0,0)))):=by
 have c:=FD (v0:=((0,0),(a,b),(0,0)).1.1) (v1:=((0,0),(a,b),(0,0)).1.2) (v2:=((0,0),(a,b),(0,0)).2.1.1) (v3:=((0,0),(a,b),(0,0)).2.1.2) (v4:=((0,0),(a,b),(0,0)).2.2.1) (v5:=((0,0),(a,b),(0,0)).2.2.2);refine Dp func307 λC hP hN=>?_;exact Gy
theorem Vq:aF 307 (Z 2) (I a b) (bA (dr ((0,0),(0,0),(a,b)))):=by
 have c:=FD (v0:=((0,0),(0,0),(a,b)).1.1) (v1:=((0,0),(0,0),(a,b)).1.2) (v2:=((0,0),(0,0),(a,b)).2.1.1) (v3:=((0,0),(0,0),(a,b)).2.1.2) (v4:=((0,0),(0,0),(a,b)).2.2.1) (v5:=((0,0),(0,0),(a,b)).2.2.2);refine Dp func307 λC hP hN=>?_;exact Gy
abbrev FE(f:FuncId)(k:Int):Value:=.func (.func f) #[.int .i64 k] #[]
@[simp] theorem Vr:lw prog 359 0=some (false,0,1):=by kernel_rfl
theorem Vs:aR 293 (Z 0) (.val (.agg #[FE 308 0])):=by
 refine Dp func293 λC hP hN=>?_;exact Gy
theorem Vt:aR 293 (Z 1) (.val (.agg #[FE 306 0])):=by
 refine Dp func293 λC hP hN=>?_;exact Gy
theorem Vu:aR 293 (Z 2) (.val (.agg #[FE 306 1])):=by
 refine Dp func293 λC hP hN=>?_;exact Gy
theorem Vv:aR 293 (Z 3) (.val (.agg #[FE 306 2])):=by
 refine Dp func293 λC hP hN=>?_;exact Gy
theorem Vw:aR 293 (Z 4) (.val (.agg #[FE 307 0])):=by
 refine Dp func293 λC hP hN=>?_;exact Gy
theorem Vx:aR 293 (Z 5) (.val (.agg #[FE 307 1])):=by
 refine Dp func293 λC hP hN=>?_;exact Gy
theorem Vy:aR 293 (Z 6) (.val (.agg #[FE 307 2])):=by
 refine Dp func293 λC hP hN=>?_;exact Gy
def fp(k:Int)(v:Iv):oG:=if k=1 then gz 0 v else if k=2 then gz 1 v else if k=3 then gz 2 v else if k=4 then dr (v,(0,0),(0,0))else if k=5 then dr ((0,0),v,(0,0))else if k=6 then dr ((0,0),(0,0),v)else gh
def mv(j:J)(v:Iv):oG:=oH (dr (dq (j.ox,j.oy,j.oz))) (fp j.kind v)
theorem Vz(j:J)(m:0<=j.kind)(h6:j.kind<=6):aF 273 (aO j) (I a b) (bA (mv j (a,b))):=by
 have l:=LW j.ox j.oy j.oz;have k:mv j (a,b)=oH (dr (dq (j.ox,j.oy,j.oz))) (fp j.kind (a,b)):=rfl;rw[k];generalize dq (j.ox,j.oy,j.oz)=pv at *;have i:=FD (v0:=pv.1.1) (v1:=pv.1.2) (v2:=pv.2.1.1) (v3:=pv.2.1.2) (v4:=pv.2.2.1) (v5:=pv.2.2.2);have i:aW prog 275 [.pv (bi pv)] [] [] (.pv (bA (dr pv))):=i;generalize dr pv=sp at *
 have key:j.kind=0\/j.kind=1\/j.kind=2\/j.kind=3\/j.kind=4\/j.kind=5\/j.kind=6:=by omega
 rcases key with c|c|c|c|c|c|c
 .have d:fp j.kind (a,b)=gh:=by simp[fp,c]
  have e:=Vn (a:=a) (b:=b) 0;have f:=Vs;rw[d];generalize gh=mp at *;refine Dp func273 λC hP hN=>?_;have g:=@xu;exact GS c
 .have d:fp j.kind (a,b)=gz 0 (a,b):=by simp[fp,c]
  have e:=LY (a:=a) (b:=b) 0;have f:=Vt;rw[d];generalize gz 0 (a,b)=mp at *;refine Dp func273 λC hP hN=>?_;have g:=@xu;exact GS c
 .have d:fp j.kind (a,b)=gz 1 (a,b):=by simp[fp,c]
  have e:=LY (a:=a) (b:=b) 1;have f:=Vu;rw[d];generalize gz 1 (a,b)=mp at *;refine Dp func273 λC hP hN=>?_;have g:=@xu;exact GS c
 .have d:fp j.kind (a,b)=gz 2 (a,b):=by simp[fp,c]
  have e:=LY (a:=a) (b:=b) 2;have f:=Vv;rw[d];generalize gz 2 (a,b)=mp at *;refine Dp func273 λC hP hN=>?_;have g:=@xu;exact GS c
 .have d:fp j.kind (a,b)=dr ((a,b),(0,0),(0,0)):=by simp[fp,c]
  have e:=Vo (a:=a) (b:=b);have f:=Vw;rw[d];generalize dr ((a,b),(0,0),(0,0))=mp at *;refine Dp func273 λC hP hN=>?_;have g:=@xu;exact GS c
 .have d:fp j.kind (a,b)=dr ((0,0),(a,b),(0,0)):=by simp[fp,c]
  have e:=Vp (a:=a) (b:=b);have f:=Vx;rw[d];generalize dr ((0,0),(a,b),(0,0))=mp at *;refine Dp func273 λC hP hN=>?_;have g:=@xu;exact GS c
 .have d:fp j.kind (a,b)=dr ((0,0),(0,0),(a,b)):=by simp[fp,c]
  have e:=Vq (a:=a) (b:=b);have f:=Vy;rw[d];generalize dr ((0,0),(0,0),(a,b))=mp at *;refine Dp func273 λC hP hN=>?_;have g:=@xu;exact GS c
abbrev Vc:=Int×Int×Int
structure Sh where
 link:Int
 rad:Int
 pts:List Vc
structure Sce where
 js:List J
 ms:List Ms
 shs:List Sh
 sks:List (Int×Int)
abbrev aZ(s:Sh):PV:=.agg [Z s.link,Z s.rad,aw s.pts]
abbrev aN(s:Sce):PV:=.agg [.sl (s.js.map aO),.sl (s.ms.map aX),.sl (s.shs.map aZ),.sl (s.sks.map aJ)]
def ay(m:Int)(v:Vc):Bool:=fA v.1 m&&fA v.2.1 m&&fA v.2.2 m
theorem bu{m:Int}{v:Vc}:ay m v=true↔fA v.1 m=true/\fA v.2.1 m=true/\fA v.2.2 m=true:=by
 simp only[ay,up];constructor
 .rintro⟨⟨a,b⟩,c⟩;exact⟨a,b,c⟩
 .rintro⟨a,b,c⟩;exact⟨⟨a,b⟩,c⟩
theorem aV{x m:Int}:fA x m=true↔¬x< -m/\¬m<x:=by
 simp only[fA,up,Is];omega
theorem pD(hq:∀k x,k<i->xs[k]?=some x->p x=true)(h:¬i<xs.length):xs.all p=true:=by
 rw[L4];intro x b;obtain⟨k,a⟩:=ZF b;exact hq k x (by have:=(th.1 a).1;omega) a
theorem mY{v:α}(b:xs[i]?=some v)(hq:∀k x,k<i->xs[k]?=some x->p x=true)(hp:p v=true):∀k x,k<i+1->xs[k]?=some x->p x=true:=by
 intro k x c a;by_cases e:k=i
 .subst e;rw[b]at a;injection a with a;subst a;exact hp
 .exact hq k x (by omega) a
def fJ(s:Sh):Bool:=decide (1<=s.rad)&&decide (s.rad<=1048576)&&decide (1<=s.pts.length)&&decide (s.pts.length<=8)&&s.pts.all (ay 4194304)
theorem VA(s:Sh)(U:s.pts.length<=9223372036854775807):aR 277 (aZ s) (B (fJ s)):=by
 by_cases T:s.rad<1\/1048576<s.rad\/s.pts.length<1\/8<s.pts.length
 .have hf:fJ s=false:=by
   cases r:fJ s with
   |false=>rfl
   |true=>
    exfalso;unfold fJ at r;simp only[up,Is]at r;obtain⟨⟨⟨⟨b1,b2⟩,b3⟩,b4⟩,_⟩:=r;omega
  rw[hf]
  have u:s.rad<1\/1048576<s.rad\/(s.pts.length:Int)<1\/(8:Int)<s.pts.length:=by omega
  rcases u with h|h|h|h
  all_goals
   refine Dp func277 λC hP hN=>?_;exact Gy
 have h1:¬s.rad<1:=by omega
 have Q:¬1048576<s.rad:=by omega
 have R:¬(s.pts.length:Int)<1:=by omega
 have S:¬(8:Int)<s.pts.length:=by omega
 have M:¬s.pts.length<1:=by omega
 have N:¬8<s.pts.length:=by omega
 have hf:fJ s=s.pts.all (ay 4194304):=by
  have I:decide (1<=s.rad)=true:=by simp;omega
  have J:decide (s.rad<=1048576)=true:=by simp;omega
  have K:decide (1<=s.pts.length)=true:=by simp;omega
  have L:decide (s.pts.length<=8)=true:=by simp;omega
  simp only[fJ,I,J,K,L,Zu]
 rw[hf];refine Dp func277 λC hP hN=>?_
 cases e:s.pts.all (ay 4194304)with
 |true=>
  refine Gz ?_;refine WP.loopN [4] s.pts.length (λi st=>True/\st.t 28=.pv (aw s.pts)/\st.t 29=.pv (Z s.pts.length)/\st.t 30=.pv (Z i)/\st.h 4=none) (by simp) ?_;rintro i st hi ⟨g1,g,j,f,l⟩;by_cases d:i<s.pts.length
  .have q:=ab d (by omega)
   have O:=bu.1 (L4.1 e _ (Zs d));obtain⟨A,D,E⟩:=O;rw[aV]at A D E;generalize m:s.pts[i]=v at *
   have G:s.pts[i]?=some v:=by rw[an d,m]
   refine Gz ?_;refine WP.loopN [] 3 (λk st=>True/\st.t 28=.pv (aw s.pts)/\st.t 29=.pv (Z s.pts.length)/\st.t 30=.pv (Z i)/\st.t 34=.pv (al v)/\st.t 35=.pv (Z k)) (by simp[g1,g,j,f]) ?_;clear g1 g j f l;rintro k st y ⟨g1,g,j,f,gA,o⟩;rcases dA y with rfl|rfl|rfl|rfl
   all_goals
    exact Gy
  .skip
   exact Gy
 |false=>
  refine Gz ?_;refine WP.loopN [4] s.pts.length (λi st=>True/\st.t 28=.pv (aw s.pts)/\st.t 29=.pv (Z s.pts.length)/\st.t 30=.pv (Z i)/\st.h 4=none/\∀k x,k<i->s.pts[k]?=some x->ay 4194304 x=true) (by simp) ?_;rintro i st hi ⟨g1,g,j,f,l,hq⟩;by_cases d:i<s.pts.length
  .have q:=ab d (by omega)
   generalize m:s.pts[i]=v at *
   have G:s.pts[i]?=some v:=by rw[an d,m]
   have z:=mY (p:=ay 4194304) G hq;refine Gz ?_;refine WP.loopN [] 3 (λk st=>True/\st.t 28=.pv (aw s.pts)/\st.t 29=.pv (Z s.pts.length)/\st.t 30=.pv (Z i)/\st.t 34=.pv (al v)/\st.t 35=.pv (Z k)/\(0<k->fA v.1 4194304=true)/\(1<k->fA v.2.1 4194304=true)/\(2<k->fA v.2.2 4194304=true)) (by simp[g1,g,j,f]) ?_;clear g1 g j f l hq;rintro k st y ⟨g1,g,j,f,gA,o,F,H,P⟩;rcases dA y with rfl|rfl|rfl|rfl
   .skip
    with_reducible repeat' (first|refine Sp.h ?_|((first|refine Ss.h ?_|(refine Sb.h ?_ ?_ ?_<;>(try intro hgd)<;>try exact Xy))<;>simp -implicitDefEqProofs (maxSteps:=2000000) [hP,hN,g1,g,j,f,gA,o,q])|refine X2 ?_ ?_|(refine Xd ?_ ?_<;>intro hcd<;>try exact Xx))
    all_goals (try (rw[aV];simp only[Zj,Is]at hgd hcd;omega))
   .skip
    with_reducible repeat' (first|refine Sp.h ?_|((first|refine Ss.h ?_|(refine Sb.h ?_ ?_ ?_<;>(try intro hgd)<;>try exact Xy))<;>simp -implicitDefEqProofs (maxSteps:=2000000) [hP,hN,g1,g,j,f,gA,o,q])|refine X2 ?_ ?_|(refine Xd ?_ ?_<;>intro hcd<;>try exact Xx))
    all_goals (try (exact⟨F (by omega),by rw[aV];simp only[Zj,Is]at hgd hcd;omega⟩))
   .skip
    with_reducible repeat' (first|refine Sp.h ?_|((first|refine Ss.h ?_|(refine Sb.h ?_ ?_ ?_<;>(try intro hgd)<;>try exact Xy))<;>simp -implicitDefEqProofs (maxSteps:=2000000) [hP,hN,g1,g,j,f,gA,o,q])|refine X2 ?_ ?_|(refine Xd ?_ ?_<;>intro hcd<;>try exact Xx))
    all_goals (try (exact⟨F (by omega),H (by omega),by rw[aV];simp only[Zj,Is]at hgd hcd;omega⟩))
   .have hn:ay 4194304 v=true:=bu.2 ⟨F (by omega),H (by omega),P (by omega)⟩
    have n:=z hn;refine Gz ?_
    all_goals (try exact λk a b c=>n k (a,b,c))
  .have:=pD hq d
   rw[this]at e;cases e
abbrev aE(l:List aq):PV:=.sl (l.map bi)
def db(x:Iv):Bool:=!(decide (x.1< -268435456)||decide (x.2<x.1)||decide (268435456<x.2))
def bL(v:aq):Bool:=db v.1&&db v.2.1&&db v.2.2
def au(l:List aq):Bool:=decide (1<=l.length)&&decide (l.length<=8)&&l.all bL
theorem fg{x:Iv}:db x=true↔¬x.1< -268435456/\¬x.2<x.1/\¬268435456<x.2:=by
 simp only[db,ZK,yAk,Zj];constructor
 .rintro⟨⟨a,b⟩,c⟩;exact⟨a,b,c⟩
 .rintro⟨a,b,c⟩;exact⟨⟨a,b⟩,c⟩
theorem fC{v:aq}:bL v=true↔db v.1=true/\db v.2.1=true/\db v.2.2=true:=by
 simp only[bL,up];constructor
 .rintro⟨⟨a,b⟩,c⟩;exact⟨a,b,c⟩
 .rintro⟨a,b,c⟩;exact⟨⟨a,b⟩,c⟩
theorem vD(xs:List aq)(U:xs.length<=9223372036854775807):aR 214 (aE xs) (B (au xs)):=by
 by_cases T:xs.length<1\/8<xs.length
 .have hf:au xs=false:=by
   cases z:au xs with
   |false=>rfl
   |true=>
    exfalso;unfold au at z;simp only[up,Is]at z;obtain⟨⟨b1,b2⟩,_⟩:=z;omega
  rw[hf]
  have A:(xs.length:Int)<1\/(8:Int)<xs.length:=by omega
  rcases A with h|h
  all_goals
   refine Dp func214 λC hP hN=>?_;exact Gy
 .have R:¬(xs.length:Int)<1:=by omega
  have S:¬(8:Int)<xs.length:=by omega
  have N:¬xs.length<1:=by omega
  have O:¬8<xs.length:=by omega
  have hf:au xs=xs.all bL:=by
   have L:decide (1<=xs.length)=true:=by simp;omega
   have M:decide (xs.length<=8)=true:=by simp;omega
   simp only[au,L,M,Zu]
  rw[hf];refine Dp func214 λC hP hN=>?_
  cases l:xs.all bL with
  |true=>
   refine Gz ?_;refine WP.loopN [4,6] xs.length (λi st=>st.t 15=.pv (aE xs)/\st.t 16=.pv (Z xs.length)/\st.t 17=.pv (Z i)/\st.h 4=none/\st.h 6=none) (by simp) ?_;rintro i st hi ⟨n,o,m,q,g⟩;by_cases j:i<xs.length
   .have y:=ab j (by omega)
    have P:=fC.1 (L4.1 l _ (Zs j));obtain⟨F,G,H⟩:=P;rw[fg]at F G H;generalize r:xs[i]=v at *
    have J:xs[i]?=some v:=by rw[an j,r]
    refine Gz ?_;refine WP.loopN [6] 3 (λk st=>st.t 15=.pv (aE xs)/\st.t 16=.pv (Z xs.length)/\st.t 17=.pv (Z i)/\st.t 21=.pv (bi v)/\st.t 22=.pv (Z k)/\st.h 6=none) (by simp[n,o,m,g]) ?_;clear n o m q g;rintro k st D ⟨n,o,m,gA,u,g⟩;rcases dA D with rfl|rfl|rfl|rfl
    all_goals
     exact Gy
   .skip
    exact Gy
  |false=>
   refine Gz ?_;refine WP.loopN [4,6] xs.length (λi st=>st.t 15=.pv (aE xs)/\st.t 16=.pv (Z xs.length)/\st.t 17=.pv (Z i)/\st.h 4=none/\st.h 6=none/\∀k x,k<i->xs[k]?=some x->bL x=true) (by simp) ?_;rintro i st hi ⟨n,o,m,q,g,hq⟩;by_cases j:i<xs.length
   .have y:=ab j (by omega)
    generalize r:xs[i]=v at *
    have J:xs[i]?=some v:=by rw[an j,r]
    have E:=mY (p:=bL) J hq;refine Gz ?_;refine WP.loopN [6] 3 (λk st=>st.t 15=.pv (aE xs)/\st.t 16=.pv (Z xs.length)/\st.t 17=.pv (Z i)/\st.t 21=.pv (bi v)/\st.t 22=.pv (Z k)/\st.h 6=none/\(0<k->db v.1=true)/\(1<k->db v.2.1=true)/\(2<k->db v.2.2=true)) (by simp[n,o,m,g]) ?_;clear n o m q hq g;rintro k st D ⟨n,o,m,gA,u,g,I,K,Q⟩;rcases dA D with rfl|rfl|rfl|rfl
    .skip
     with_reducible repeat' (first|refine Sp.h ?_|((first|refine Ss.h ?_|(refine Sb.h ?_ ?_ ?_<;>(try intro hgd)<;>try exact Xy))<;>simp -implicitDefEqProofs (maxSteps:=2000000) [hP,hN,n,o,m,gA,u,g,y])|refine X2 ?_ ?_|(refine Xd ?_ ?_<;>intro hcd<;>try exact Xx))
     all_goals (try (rw[fg];simp only[Zj,Is]at *;omega))
    .skip
     with_reducible repeat' (first|refine Sp.h ?_|((first|refine Ss.h ?_|(refine Sb.h ?_ ?_ ?_<;>(try intro hgd)<;>try exact Xy))<;>simp -implicitDefEqProofs (maxSteps:=2000000) [hP,hN,n,o,m,gA,u,g,y])|refine X2 ?_ ?_|(refine Xd ?_ ?_<;>intro hcd<;>try exact Xx))
     all_goals (try (exact⟨I (by omega),by rw[fg];simp only[Zj,Is]at *;omega⟩))
    .skip
     with_reducible repeat' (first|refine Sp.h ?_|((first|refine Ss.h ?_|(refine Sb.h ?_ ?_ ?_<;>(try intro hgd)<;>try exact Xy))<;>simp -implicitDefEqProofs (maxSteps:=2000000) [hP,hN,n,o,m,gA,u,g,y])|refine X2 ?_ ?_|(refine Xd ?_ ?_<;>intro hcd<;>try exact Xx))
     all_goals (try (exact⟨I (by omega),K (by omega),by rw[fg];simp only[Zj,Is]at *;omega⟩))
    .have hn:bL v=true:=fC.2 ⟨I (by omega),K (by omega),Q (by omega)⟩
     have s:=E hn;refine Gz ?_
     all_goals (try exact λk a b c d e f=>s k ((a,b),(c,d),(e,f)))
   .have:=pD hq j
    rw[this]at l;cases l
theorem QT(r:Int):aR 258 (Z r) (B (aT r 0 1048576)):=by
 refine Dp func258 λC hP hN=>?_
 with_reducible repeat' (first|refine Sp.h ?_|((first|refine Ss.h ?_|(refine Sb.h ?_ ?_ ?_<;>(try intro hgd)<;>try exact Xy))<;>simp -implicitDefEqProofs (maxSteps:=2000000) [hP,hN])|refine X2 ?_ ?_|(refine Xd ?_ ?_<;>intro hcd<;>try exact Xx))
 all_goals (first|(simp_all[aT];done)|((try simp_all[aT])<;>(try omega)<;>grind))
theorem QU(r:Int):aR 240 (Z r) (B (aT r 0 1048576)):=by
 refine Dp func240 λC hP hN=>?_
 with_reducible repeat' (first|refine Sp.h ?_|((first|refine Ss.h ?_|(refine Sb.h ?_ ?_ ?_<;>(try intro hgd)<;>try exact Xy))<;>simp -implicitDefEqProofs (maxSteps:=2000000) [hP,hN])|refine X2 ?_ ?_|(refine Xd ?_ ?_<;>intro hcd<;>try exact Xx))
 all_goals (first|(simp_all[aT];done)|((try simp_all[aT])<;>(try omega)<;>grind))
def lZ(x:Iv):Int:=if aS x.1 x.2 then(x.1+x.2)/2 else 0
theorem LZ:aR 215 (I a b) (Z (lZ (a,b))):=by
 have h:=T3 a b
 have e:(if aS a b=true then(wr (a+b)).fdiv 2 else 0)=lZ (a,b):=by
  unfold lZ;split
  .rename_i c
   have c:=dV.1 c;rw[aa (by omega) (by omega)];exact J7 (a+b) 2
  .rfl
 rw[e]at h;exact h
def i4(v:aq):Vc:=(lZ v.1,lZ v.2.1,lZ v.2.2)
def ax(l:List aq):List Vc:=if au l then l.map i4 else[]
def bD(n:Nat):Nat:=if n=0 then 0 else Nat.log2 n+1
theorem pE(h:2^k<=n):bD n=k+bD (n/2^k):=by
 have a:0<2^k:=Nat.two_pow_pos k
 have hn:n≠0:=by omega
 have hd:n/2^k≠0:=by
  have:1<=n/2^k:=(yBa a).2 (by omega);omega
 unfold bD;rw[Y6 hn,Y6 hd];have h1:=(Nat.log2_eq_iff hd (k:=Nat.log2 (n/2^k))).1 rfl
 have b:Nat.log2 n=Nat.log2 (n/2^k)+k:=by
  rw[Nat.log2_eq_iff hn];refine⟨?_,?_⟩
  .rw[Nat.pow_add];exact(yBa a).1 h1.1
  .have:=(Nat.div_lt_iff_lt_mul a).1 h1.2
   rw[show Nat.log2 (n/2^k)+k+1=(Nat.log2 (n/2^k)+1)+k from by omega,Nat.pow_add];exact this
 omega
theorem QV(n:Nat):n<2^bD n:=by
 unfold bD;split
 .rename_i h;subst h;decide
 .rename_i h;exact((Nat.log2_eq_iff h (k:=Nat.log2 n)).1 rfl).2
theorem oI(h:n<2^k):bD n<=k:=by
 unfold bD;split
 .omega
 .rename_i a
  have:=((Nat.log2_eq_iff a (k:=Nat.log2 n)).1 rfl).1;have b:2^Nat.log2 n<2^k:=Nat.lt_of_le_of_lt this h;have:=(Nat.pow_lt_pow_iff_right (by decide:1<2)).1 b;omega
abbrev U6(n:Int):PV:=.val (.int .u64 n)
def L8:ByteArray:=⟨((List.range 256).map λi=>(bD i).toUInt8).toArray⟩
theorem FH:∀i,i<256->L8[i]?=some (bD i).toUInt8/\(bD i).toUInt8.toNat=bD i:=by decide +kernel
theorem nu(h:i<256):L8[i]?=some (bD i).toUInt8:=(FH i h).1
theorem k9(h:i<256):(bD i).toUInt8.toNat=bD i:=(FH i h).2
@[simp] theorem XG:i64.wrap 16=16:=by decide
@[simp] theorem XH:i64.wrap 24=24:=by decide
@[simp] theorem XI:i64.wrap 40=40:=by decide
@[simp] theorem XJ:i64.wrap 48=48:=by decide
@[simp] theorem XK:i64.wrap 8=8:=by decide
@[simp] theorem XL:i64.wrap 56=56:=by decide
@[simp] theorem Y4:IntKind.u64.bits=64:=rfl
theorem zY(B:Nat)(h:n/B=m):(n:Int).fdiv (B:Int)=(m:Int):=by
 rw[J7,<-h];exact(Int.natCast_ediv n B).symm
theorem Dl(h:n<256):IntKind.u8.wrap (n:Int)=n:=by
 have e:(n:Int)%256=n:=by omega
 unfold IntKind.wrap;simp[IntKind.signed,IntKind.bits,e]
set_option maxRecDepth 100000 in
theorem VM(n:Nat)(hn:n<18446744073709551616):aR 183 (U6 n) (Z (bD n)):=by
 refine Dp func183 λC hP hN=>?_
 conv in (ByteArray.mk _)=>change L8
 by_cases a7:4294967296<=n
 .have ah:bD n=32+bD (n/4294967296):=pE (n:=n) (k:=32) (by omega)
  have Y:n/4294967296<4294967296:=by omega
  have ak:(n:Int).fdiv 4294967296=((n/4294967296:Nat):Int):=zY 4294967296 rfl;generalize U:n/4294967296=b at *
  have D:(4294967296:Int)<=(n:Int):=by omega
  by_cases L:65536<=b
  .have H:bD b=16+bD (b/65536):=pE (n:=b) (k:=16) (by omega)
   have G:b/65536<65536:=by omega
   have I:(b:Int).fdiv 65536=((b/65536:Nat):Int):=zY 65536 rfl;generalize E:b/65536=a at *
   have o:(65536:Int)<=(b:Int):=by omega
   by_cases F:256<=a
   .have z:bD a=8+bD (a/256):=pE (n:=a) (k:=8) (by omega)
    have y:a/256<256:=by omega
    have A:(a:Int).fdiv 256=((a/256:Nat):Int):=zY 256 rfl;generalize x:a/256=c at *
    have m:(256:Int)<=(a:Int):=by omega
    have s:=nu (i:=c) (by omega);have u:=Dl (n:=c) (by omega);have g:=k9 (i:=c) (by omega);have j:bD c<=8:=oI (by omega);have v:i64.wrap ((56:Int)+(bD c:Int))=56+(bD c:Int):=aa;have l:i64.wrap (bD c:Int)=(bD c:Int):=aa;refine Gz ?_
    all_goals (first|omega|(simp;done)|(simp;omega)|trace_state)
   .have m:¬(256:Int)<=(a:Int):=by omega
    have s:=nu (i:=a) (by omega);have u:=Dl (n:=a) (by omega);have g:=k9 (i:=a) (by omega);have j:bD a<=8:=oI (by omega);have v:i64.wrap ((48:Int)+(bD a:Int))=48+(bD a:Int):=aa;have l:i64.wrap (bD a:Int)=(bD a:Int):=aa;refine Gz ?_
    all_goals (first|omega|(simp;done)|(simp;omega)|trace_state)
  .have o:¬(65536:Int)<=(b:Int):=by omega
   by_cases W:256<=b
   .have P:bD b=8+bD (b/256):=pE (n:=b) (k:=8) (by omega)
    have N:b/256<256:=by omega
    have R:(b:Int).fdiv 256=((b/256:Nat):Int):=zY 256 rfl;generalize K:b/256=f at *
    have r:(256:Int)<=(b:Int):=by omega
    have s:=nu (i:=f) (by omega);have u:=Dl (n:=f) (by omega);have g:=k9 (i:=f) (by omega);have j:bD f<=8:=oI (by omega);have v:i64.wrap ((40:Int)+(bD f:Int))=40+(bD f:Int):=aa;have l:i64.wrap (bD f:Int)=(bD f:Int):=aa;refine Gz ?_
    all_goals (first|omega|(simp;done)|(simp;omega)|trace_state)
   .have r:¬(256:Int)<=(b:Int):=by omega
    have s:=nu (i:=b) (by omega);have u:=Dl (n:=b) (by omega);have g:=k9 (i:=b) (by omega);have j:bD b<=8:=oI (by omega);have v:i64.wrap ((32:Int)+(bD b:Int))=32+(bD b:Int):=aa;have l:i64.wrap (bD b:Int)=(bD b:Int):=aa;exact Gy
    all_goals (first|omega|(simp;done)|(simp;omega)|trace_state)
 .have D:¬(4294967296:Int)<=(n:Int):=by omega
  by_cases a6:65536<=n
  .have ad:bD n=16+bD (n/65536):=pE (n:=n) (k:=16) (by omega)
   have X:n/65536<65536:=by omega
   have aj:(n:Int).fdiv 65536=((n/65536:Nat):Int):=zY 65536 rfl;generalize T:n/65536=d at *
   have B:(65536:Int)<=(n:Int):=by omega
   by_cases V:256<=d
   .have O:bD d=8+bD (d/256):=pE (n:=d) (k:=8) (by omega)
    have M:d/256<256:=by omega
    have Q:(d:Int).fdiv 256=((d/256:Nat):Int):=zY 256 rfl;generalize J:d/256=e at *
    have q:(256:Int)<=(d:Int):=by omega
    have s:=nu (i:=e) (by omega);have u:=Dl (n:=e) (by omega);have g:=k9 (i:=e) (by omega);have j:bD e<=8:=oI (by omega);have v:i64.wrap ((24:Int)+(bD e:Int))=24+(bD e:Int):=aa;have l:i64.wrap (bD e:Int)=(bD e:Int):=aa;refine Gz ?_
    all_goals (first|omega|(simp;done)|(simp;omega)|trace_state)
   .have q:¬(256:Int)<=(d:Int):=by omega
    have s:=nu (i:=d) (by omega);have u:=Dl (n:=d) (by omega);have g:=k9 (i:=d) (by omega);have j:bD d<=8:=oI (by omega);have v:i64.wrap ((16:Int)+(bD d:Int))=16+(bD d:Int):=aa;have l:i64.wrap (bD d:Int)=(bD d:Int):=aa;exact Gy
    all_goals (first|omega|(simp;done)|(simp;omega)|trace_state)
  .have B:¬(65536:Int)<=(n:Int):=by omega
   by_cases g:256<=n
   .have bq:bD n=8+bD (n/256):=pE (n:=n) (k:=8) (by omega)
    have a8:n/256<256:=by omega
    have b2:(n:Int).fdiv 256=((n/256:Nat):Int):=zY 256 rfl;generalize ar:n/256=p at *
    have S:(256:Int)<=(n:Int):=by omega
    have s:=nu (i:=p) (by omega);have u:=Dl (n:=p) (by omega);have g:=k9 (i:=p) (by omega);have j:bD p<=8:=oI (by omega);have v:i64.wrap ((8:Int)+(bD p:Int))=8+(bD p:Int):=aa;have l:i64.wrap (bD p:Int)=(bD p:Int):=aa;exact Gy
    all_goals (first|omega|(simp;done)|(simp;omega)|trace_state)
   .have S:¬(256:Int)<=(n:Int):=by omega
    have s:=nu (i:=n) (by omega);have u:=Dl (n:=n) (by omega);have g:=k9 (i:=n) (by omega);have j:bD n<=8:=oI (by omega);have v:i64.wrap ((0:Int)+(bD n:Int))=0+(bD n:Int):=aa;have l:i64.wrap (bD n:Int)=(bD n:Int):=aa;exact Gy
    all_goals (first|omega|(simp;done)|(simp;omega)|trace_state)
def mN(n:Nat):Nat->Nat->Nat
 |0,r=>r
 |k+1,r=>mN n k (if(r+2^k)*(r+2^k)<=n then r+2^k else r)
theorem vG{n:Nat}:∀(k r:Nat),r*r<=n->n<(r+2^k)*(r+2^k)->mN n k r*mN n k r<=n/\n<(mN n k r+1)*(mN n k r+1)
 |0,r,h1,a=>⟨h1,by simpa[mN]using a⟩
 |k+1,r,h1,a=>by
  simp only[mN];split
  .rename_i h
   refine vG k _ h ?_;rw[yAB,<-Nat.two_mul,<-Nat.pow_succ'];exact a
  .rename_i h
   exact vG k r h1 (by omega)
def cY(n:Nat):Nat:=mN n 32 0
theorem sB(h:n<18446744073709551616):cY n*cY n<=n/\n<(cY n+1)*(cY n+1):=vG 32 0 (ZV _) (by simpa using h)
theorem Dm{a b:Nat}(h1:a*a<=n)(c:n<(a+1)*(a+1))(d:b*b<=n)(e:n<(b+1)*(b+1)):a=b:=by
 rcases yAK a b with h|h|h
 .have:=yAp (show a+1<=b from h) (show a+1<=b from h);omega
 .exact h
 .have:=yAp (show b+1<=a from h) (show b+1<=a from h);omega
theorem OJ(h:n<18446744073709551616)(c:n<2^k*2^k):mN n k 0=cY n:=by
 have a:=vG (n:=n) k 0 (ZV _) (by simpa using c);have b:=sB h;exact Dm a.1 a.2 b.1 b.2
theorem tR(hn:n<4611686018427387904):cY n<2147483648:=by
 have h:=(sB (n:=n) (by omega)).1;rcases Nat.lt_or_ge (cY n) 2147483648 with a|a
 .exact a
 .have:=yAp a a;omega
def ir(n w:Nat):Nat->Nat
 |0=>0
 |i+1=>if(ir n w i+2^(w-i-1))*(ir n w i+2^(w-i-1))<=n then ir n w i+2^(w-i-1)else ir n w i
theorem Hw{n w:Nat}:∀i,i<=w->mN n (w-i) (ir n w i)=mN n w 0
 |0,_=>rfl
 |i+1,h=>by
  rw[<-Hw i (by omega)];obtain⟨m,c⟩:∃m,w-i=m+1:=⟨w-i-1,by omega⟩
  have a:w-(i+1)=m:=by omega
  have b:w-i-1=m:=by omega
  rw[c,a];simp only[ir,mN,b]
theorem zZ{n w:Nat}:∀i,i<=w->ir n w i+2^(w-i)<=2^w
 |0,_=>by simp[ir]
 |i+1,h=>by
  have ih:=zZ (n:=n) (w:=w) i (by omega);obtain⟨m,c⟩:∃m,w-i=m+1:=⟨w-i-1,by omega⟩
  have a:w-(i+1)=m:=by omega
  have b:w-i-1=m:=by omega
  rw[c,yBj]at ih;simp only[ir,a,b];split<;>omega
theorem Kf(h:n<18446744073709551616):IntKind.u64.wrap (n:Int)=n:=by
 have e:(n:Int)%18446744073709551616=n:=by omega
 unfold IntKind.wrap;simp[IntKind.signed,IntKind.bits,e]
theorem VN(n:Nat)(hn:n<4611686018427387904):aR 301 (Z n) (Z (cY n)):=by
 by_cases J:n=0
 .subst J
  have hf:cY 0=0:=by decide +kernel
  rw[hf];refine Dp func301 λC hP hN=>?_;exact Gy
 have cl:=VM n (by omega);have x:=QV n;have L:bD n<=62:=oI hn
 have o:¬(n:Int)<=0:=by omega
 have B:IntKind.u64.wrap (n:Int)=n:=Kf (by omega);obtain⟨w,S⟩:∃w,w=(bD n+1)/2:=⟨_,rfl⟩
 have s:w<=31:=by omega
 have P:bD n<=2*w:=by omega
 have y:n<2^w*2^w:=by
  rw[<-Nat.pow_add];exact ZY x (Nat.pow_le_pow_right (by decide) (by omega))
 have z:=OJ (n:=n) (k:=w) (by omega) y
 have A:((bD n:Int)+1).tdiv 2=(w:Int):=by
  rw[Zr (by omega)];omega
 have w1:i64.wrap ((bD n:Int)+1)=(bD n:Int)+1:=aa;have w2:i64.wrap (w:Int)=w:=aa;have F:2^w<=2^31:=Nat.pow_le_pow_right (by decide) s
 have Q:IntKind.u64.wrap (2^min w 64)=((2^w:Nat):Int):=by
  rw[Nat.min_eq_left (by omega)];have e:((2^w:Nat):Int)=(2:Int)^w:=Int.natCast_pow 2 w;rw[<-e];exact Kf (by omega)
 refine Dp func301 λC hP hN=>?_;refine GT (so o B w1 w2 A Q) ?_;refine WP.loopN [] w (λi st=>st.t 0=.pv (Z n)/\st.t 16=.pv (Z w)/\st.t 17=.pv (Z i)/\st.t 4=.pv (U6 (ir n w i))/\st.t 5=.pv (U6 ((2^(w-i):Nat):Int))) (by simp[ir]) ?_;rintro i st hi ⟨g0,f,g,g4,g5⟩;by_cases l:i<w
 .have c:(i:Int)<(w:Int):=by omega
  have d:i64.wrap ((i:Int)+1)=(i:Int)+1:=aa;obtain⟨m,M⟩:∃m,w-i=m+1:=⟨w-i-1,by omega⟩
  have D:w-(i+1)=m:=by omega
  have K:w-i-1=m:=by omega
  have b:=zZ (n:=n) (w:=w) i hi;rw[M]at g5 b;rw[yBj]at b
  have d1:((2^(m+1):Nat):Int).tdiv 2=((2^m:Nat):Int):=by
   rw[Zr (by omega),yBj];omega
  have u:ir n w (i+1)=if(ir n w i+2^m)*(ir n w i+2^m)<=n then ir n w i+2^m else ir n w i:=by simp only[ir,K]
  generalize ir n w i=r at *;generalize hq:2^m=q at *;generalize 2^(m+1)=T at *
  have p:r+q<=2^31:=by omega
  have O:(r+q)*(r+q)<=2^31*2^31:=yAp p p;have G:IntKind.u64.wrap (q:Int)=q:=Kf (by omega)
  have H:IntKind.u64.wrap ((r:Int)+(q:Int))=(r:Int)+(q:Int):=by have:=Kf (n:=r+q) (by omega);simpa using this
  have I:IntKind.u64.wrap (((r:Int)+(q:Int))*((r:Int)+(q:Int)))=((r:Int)+(q:Int))*((r:Int)+(q:Int)):=by
   have:=Kf (n:=(r+q)*(r+q)) (by omega);simpa using this
  have E:(((r:Int)+(q:Int))*((r:Int)+(q:Int))<=(n:Int))↔(r+q)*(r+q)<=n:=by
   have e:((r:Int)+(q:Int))*((r:Int)+(q:Int))=(((r+q)*(r+q):Nat):Int):=by simp
   rw[e];omega
  by_cases a:(r+q)*(r+q)<=n
  .have j:=E.2 a
   rw[Zd a]at u;refine GT (zAd g0 f g g4 g5 c d d1 G H I (be j B l)) ?_
   all_goals (simp[u,D,hq];rw[<-hq];exact Int.natCast_pow 2 m)
  .have j:¬((r:Int)+(q:Int))*((r:Int)+(q:Int))<=(n:Int):=λh=>a (E.1 h)
   rw[Y6 a]at u;refine GT (zAd g0 f g g4 g5 c d d1 G H I (be j B l)) ?_
   all_goals (simp[u,D,hq];rw[<-hq];exact Int.natCast_pow 2 m)
 .have v:i=w:=by omega
  subst v
  have hf:ir n i i=cY n:=by
   have:=Hw (n:=n) (w:=i) i (Zf _);rw[yAR]at this;rw[<-z,<-this];rfl
  have b:=zZ (n:=n) (w:=i) i (Zf _);rw[hf]at g4 b;have N:=tR hn;have R:i64.wrap (cY n:Int)=cY n:=aa;exact GS (so g0 f g g4 g5 R)
def tu(n:Nat):Nat:=if cY n*cY n<n then cY n+1 else cY n
theorem VO(n:Nat)(hn:n<4611686018427387904):aR 286 (Z n) (Z (tu n)):=by
 have d:=VN n hn;have f:=tR hn
 have b:tu n=if cY n*cY n<n then cY n+1 else cY n:=rfl
 rw[b];generalize cY n=r at *;have c:r*r<=2147483648*2147483648:=yAp (by omega) (by omega)
 have w1:i64.wrap ((r:Int)*(r:Int))=((r*r:Nat):Int):=by
  have e:((r:Int)*(r:Int))=((r*r:Nat):Int):=by simp
  rw[e];exact aa (by omega) (by omega)
 have w2:i64.wrap ((r:Int)+1)=(r:Int)+1:=aa;by_cases h:r*r<n
 .have a:((r*r:Nat):Int)<(n:Int):=by omega
  rw[Zd h];refine Dp func286 λC hP hN=>?_;exact Gy
  all_goals (first|done|(simp[w1,w2,a]at *;done)|(exfalso;simp at *;omega))
 .have a:¬((r*r:Nat):Int)<(n:Int):=by omega
  rw[Y6 h];refine Dp func286 λC hP hN=>?_;exact Gy
  all_goals (first|done|(simp[w1,w2,a]at *;done)|(exfalso;simp at *;omega))
theorem QW(v:Vc):aR 280 (al v) (B (ay 16384 v)):=by
 cases a:ay 16384 v with
 |true=>
  have j:=bu.1 a;obtain⟨d,e,f⟩:=j;rw[aV]at d e f;refine Dp func280 λC hP hN=>?_;refine Gz ?_;refine WP.loopN [] 3 (λk st=>st.t 5=.pv (al v)/\st.t 6=.pv (Z k)) (by simp) ?_;rintro k st c ⟨g5,b⟩;rcases dA c with rfl|rfl|rfl|rfl
  all_goals
   exact Gy
 |false=>
  refine Dp func280 λC hP hN=>?_;refine Gz ?_;refine WP.loopN [] 3 (λk st=>st.t 5=.pv (al v)/\st.t 6=.pv (Z k)/\(0<k->fA v.1 16384=true)/\(1<k->fA v.2.1 16384=true)/\(2<k->fA v.2.2 16384=true)) (by simp) ?_;rintro k st c ⟨g5,b,g,i,l⟩;rcases dA c with rfl|rfl|rfl|rfl
  .skip
   with_reducible repeat' (first|refine Sp.h ?_|((first|refine Ss.h ?_|(refine Sb.h ?_ ?_ ?_<;>(try intro hgd)<;>try exact Xy))<;>simp -implicitDefEqProofs (maxSteps:=2000000) [hP,hN,g5,b])|refine X2 ?_ ?_|(refine Xd ?_ ?_<;>intro hcd<;>try exact Xx))
   all_goals (try (rw[aV];simp only[Zj,Is]at hgd hcd;omega))
  .skip
   with_reducible repeat' (first|refine Sp.h ?_|((first|refine Ss.h ?_|(refine Sb.h ?_ ?_ ?_<;>(try intro hgd)<;>try exact Xy))<;>simp -implicitDefEqProofs (maxSteps:=2000000) [hP,hN,g5,b])|refine X2 ?_ ?_|(refine Xd ?_ ?_<;>intro hcd<;>try exact Xx))
   all_goals (try (exact⟨g (by omega),by rw[aV];simp only[Zj,Is]at hgd hcd;omega⟩))
  .skip
   with_reducible repeat' (first|refine Sp.h ?_|((first|refine Ss.h ?_|(refine Sb.h ?_ ?_ ?_<;>(try intro hgd)<;>try exact Xy))<;>simp -implicitDefEqProofs (maxSteps:=2000000) [hP,hN,g5,b])|refine X2 ?_ ?_|(refine Xd ?_ ?_<;>intro hcd<;>try exact Xx))
   all_goals (try (exact⟨g (by omega),i (by omega),by rw[aV];simp only[Zj,Is]at hgd hcd;omega⟩))
  .have hn:ay 16384 v=true:=bu.2 ⟨g (by omega),i (by omega),l (by omega)⟩
   rw[hn]at a;cases a
def nz(v:Vc):Bool:=!(v.1==0&&v.2.1==0&&v.2.2==0)
def aI(v:Vc):Bool:=ay 16384 v&&nz v
theorem FI(v:Vc):aR 241 (al v) (B (aI v)):=by
 have c:=QW v;have a:aI v=(ay 16384 v&& !(v.1==0&&v.2.1==0&&v.2.2==0)):=rfl;rw[a];generalize ay 16384 v=b at *;refine Dp func241 λC hP hN=>?_;cases b
 all_goals
  exact Gy
def lI(v:Vc):Vc:=(v.1.tdiv 2,v.2.1.tdiv 2,v.2.2.tdiv 2)
def kg:Nat->Vc->Vc
 |0,v=>v
 |n+1,v=>if ay 16384 v then v else kg n (lI v)
def bb(v:Vc):Vc:=kg 64 v
def em(b:Int)(v:Vc):Prop:=(-b<=v.1/\v.1<=b)/\(-b<=v.2.1/\v.2.1<=b)/\(-b<=v.2.2/\v.2.2<=b)
theorem IM{x:Int}(h:-(2*b)<=x/\x<=2*b):-b<=x.tdiv 2/\x.tdiv 2<=b:=by
 have c:0<=b:=by omega
 rcases yA7 0 x with a|a
 .rw[Zr a];omega
 .have e:x.tdiv 2=-((-x).tdiv 2):=by rw[Int.neg_tdiv,Int.neg_neg]
  rw[e,Zr (by omega)];omega
theorem FJ{v:Vc}(h:em (2*b) v):em b (lI v):=⟨IM h.1,IM h.2.1,IM h.2.2⟩
theorem QX(v:Vc)(h:em 1099511627776 v):aR 249 (al v) (.tup [al (bb v),B (nz (bb v))]):=by
 have l:nz (bb v)=!((bb v).1==0&&(bb v).2.1==0&&(bb v).2.2==0):=rfl;rw[l];refine Dp func249 λC hP hN=>?_;refine Gz ?_;refine WP.loopN [] 41 (λi st=>∃w:Vc,st.t 1=.ptr 1 0/\st.t 2=.ptr 2 0/\st.h 1=some (.box [.pv (Z w.1),.pv (Z w.2.1),.pv (Z w.2.2)] true false)/\st.h 2=some (.box [.pv (Z 0),.pv (Z 0),.pv (Z 0)] true false)/\kg (64-i) w=bb v/\em ((2^(40-i):Nat):Int) w) (by simp;exact⟨v.1,v.2.1,v.2.2,⟨rfl,rfl,rfl⟩,rfl,h⟩) ?_;rintro i st hi ⟨w,g1,g2,a,c,hn,g⟩;have o:=QW w;obtain⟨m,A⟩:∃m,64-i=m+1:=⟨64-i-1,by omega⟩;rw[A]at hn;simp only[kg]at hn
 cases d:ay 16384 w with
 |true=>
  rw[d]at o;rw[Zd d]at hn;subst hn;exact Gy
 |false=>
  rw[d]at o;rw[Y6 (by rw[d];simp)]at hn
  have r:i<40:=by
   rcases Nat.lt_or_ge i 40 with p|p
   .exact p
   .have e:40-i=0:=by omega
    rw[e]at g
    have:ay 16384 w=true:=by
     obtain⟨⟨a1,a2⟩,⟨a3,a4⟩,a5,a6⟩:=g;rw[bu,aV,aV,aV];omega
    rw[this]at d;cases d
  have b:em ((2^(40-(i+1)):Nat):Int) (lI w):=by
   obtain⟨q,hq⟩:∃q,40-i=q+1:=⟨40-i-1,by omega⟩
   have s:40-(i+1)=q:=by omega
   rw[hq,yBj]at g;rw[s];refine FJ ?_
   have u:((2^q*2:Nat):Int)=2*((2^q:Nat):Int):=by omega
   rw[<-u];exact g
  have j:kg (63-i) (lI w)=bb v:=by rw[show 63-i=m by omega];exact hn
  have f:em ((2:Int)^(39-i)) (lI w):=by
   have e:((2^(40-(i+1)):Nat):Int)=(2:Int)^(39-i):=by rw[show 40-(i+1)=39-i by omega];exact Int.natCast_pow 2 (39-i)
   rw[<-e];exact b
  have z:((2^(40-(i+1)):Nat):Int)<=1099511627776:=by
   have:=Nat.pow_le_pow_right (n:=2) (by decide) (show 40-(i+1)<=40 by omega);omega
  have w1:i64.wrap (w.1.tdiv 2)=w.1.tdiv 2:=by have:=b.1;simp only[lI]at this;exact aa (by omega) (by omega)
  have w2:i64.wrap (w.2.1.tdiv 2)=w.2.1.tdiv 2:=by have:=b.2.1;simp only[lI]at this;exact aa (by omega) (by omega)
  have D:i64.wrap (w.2.2.tdiv 2)=w.2.2.tdiv 2:=by have:=b.2.2;simp only[lI]at this;exact aa (by omega) (by omega)
  refine Gz ?_;refine WP.loopN [] 3 (λk st=>st.t 1=.ptr 1 0/\st.t 2=.ptr 2 0/\st.h 2=some (.box [.pv (Z 0),.pv (Z 0),.pv (Z 0)] true false)/\st.t 8=.pv (Z k)/\st.h 1=some (.box [.pv (Z (if 0<k then w.1.tdiv 2 else w.1)),.pv (Z (if 1<k then w.2.1.tdiv 2 else w.2.1)),.pv (Z (if 2<k then w.2.2.tdiv 2 else w.2.2))] true false)) (by simp[g1,g2,a,c]) ?_;clear g1 g2 a c;rintro k st y ⟨g1,g2,c,x,a⟩;rcases dA y with rfl|rfl|rfl|rfl
  all_goals (simp at x a)
  .skip
   exact Gy
  .skip
   exact Gy
  .skip
   exact Gy
  .skip
   refine Gz ?_
   all_goals (refine⟨by omega,_,_,_,⟨rfl,rfl,rfl⟩,?_,?_⟩<;>first|exact j|exact f)
def xx(v:Vc):Nat:=(v.1*v.1+v.2.1*v.2.1+v.2.2*v.2.2).toNat
def eV(v:Vc):Int:=if aI v then(tu (xx v):Int)else 0
theorem QZ(v:Vc):aR 252 (al v) (Z (eV v)):=by
 have f:=FI v
 cases c:aI v with
 |false=>
  have d:eV v=0:=by simp[eV,c]
  rw[d];rw[c]at f;refine Dp func252 λC hP hN=>?_;exact Gy
 |true=>
  have d:eV v=(tu (xx v):Int):=by simp[eV,c]
  rw[d];rw[c]at f
  have g:ay 16384 v=true:=by simp only[aI,up]at c;exact c.1
  rw[bu,aV,aV,aV]at g;obtain⟨v1,v2,v3⟩:=v;simp only at g;have m1:=bj (a:=v1) (b:=v1) 16384 16384 (by omega) (by omega) (by omega) (by omega);have m2:=bj (a:=v2) (b:=v2) 16384 16384 (by omega) (by omega) (by omega) (by omega);have j:=bj (a:=v3) (b:=v3) 16384 16384 (by omega) (by omega) (by omega) (by omega)
  have k:0<=v1*v1:=by rcases yA7 0 v1 with h|h;exact Z8 h h;exact yAZ h h
  have l:0<=v2*v2:=by rcases yA7 0 v2 with h|h;exact Z8 h h;exact yAZ h h
  have m:0<=v3*v3:=by rcases yA7 0 v3 with h|h;exact Z8 h h;exact yAZ h h
  have e:xx (v1,v2,v3)=(v1*v1+v2*v2+v3*v3).toNat:=rfl;rw[e];have w1:i64.wrap (v1*v1)=v1*v1:=aa;have w2:i64.wrap (v2*v2)=v2*v2:=aa;have n:i64.wrap (v3*v3)=v3*v3:=aa;have o:i64.wrap (v1*v1+v2*v2)=v1*v1+v2*v2:=aa;have p:i64.wrap (v1*v1+v2*v2+v3*v3)=v1*v1+v2*v2+v3*v3:=aa;have i:=VO (v1*v1+v2*v2+v3*v3).toNat (by omega);rw[Int.toNat_of_nonneg (by omega)]at i;generalize(v1*v1+v2*v2+v3*v3).toNat=q at *;refine Dp func252 λC hP hN=>?_;exact Gy
end Go.Ab
