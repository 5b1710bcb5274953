/- The contracts and facts that the laws of this seat need, in one text (AbY, Py1, Py2, Py3, Py4, Py5, Py6). -/
import Derived.Test.YtfpagjchfipjkaaGreatU3
import Derived.Shelf.Sort.Plain
set_option linter.all false
set_option maxRecDepth 10000
namespace Go.Ab
open IntKind (i64)
open Go.Sort
def JG(P:Program)(g:FuncId):Prop:=bS P g=true/\∀(a cap:Nat)(zs:List Int)(w:World),Holds (Value.int .i64) w a 0 zs.toArray->a<w.heap.size->zs.length<4611686018427387904->
 Calls P g #[.slice (some ⟨a,0,none⟩) zs.length cap] w λe b=>e=.returned (.tuple #[])/\∃n os,b=Sort.grow (putRow (Value.int .i64) (Sort.ahead w n) a 0 (zs.mergeSort λx y=>decide (x<=y)).toArray) os
section
variable {C:Cx} {Q:Exit->St->Prop} {st:St}
def Nm(C:Cx)(Q:St->Prop)(f x:Operand)(d:Option Nat)(st:St):Prop:=
 ∃g k e zs,bC (st.ev f)=some (g,[],[])/\JG C.P g/\st.ev x=.arr k zs.length/\st.h k=some (.row e 1 (fH zs) 0)/\zs≠[]/\zs.length<4611686018427387904/\dI C.N d=true/\
  Q (st.put d (.pv (.val (.tuple #[]))) [(k,.row e 1 (fH (zs.mergeSort λx y=>decide (x<=y))) 0)])
theorem WP.sort{hn:List Nat}{id:Nat}{ops:Array Oper}{pre post:List Oper}{o:Oper}{f x:Operand}{q:Array TypeId}(m:ops.toList=pre++o::post)(B:o.op=.call {callee:=.value f,args:=#[x],argTypes:=q})(hg:o.guard=none)
 (hq:bZ C.P hn C.N ops (Nm C (bZ C.P hn C.N ops (Q .normal) post) f x o.dst) pre st):WP C (.region id ops false) Q st:=by
 intro a w hs;refine wp_region_list ?_;rw[m];refine fD (λaj a1 w1 G E=>?_) hs hq;obtain⟨g,k,e,zs,r,⟨c,Z⟩,hx,z,W,H,s,hQ⟩:=E;obtain⟨L,A,hN,u,I⟩:=G;refine wpList_step (λK hK=>?_);rw[eI hg,Zd rfl];obtain⟨vs,us,v,M,O⟩:=jC (bE I f) r;have R:=M.nil_inv;have J:=O.nil_inv;subst R;subst J;obtain⟨l,arr,U,h4,h5,X,h6⟩:=G3 A z W
 have S:a1.eval x=.slice (some ⟨(L k).b,0,none⟩) zs.length (L k).cap:=by
  have V:=bE I x;rw[hx]at V
  cases V with
  |arr i ah hu=>
   rw[z]at i;injection i with i;injection i with _ _ a3 _;subst a3;rw[hu (by simp)];unfold Loc.slice;rw[Y6 (by rw[l];decide)]
 have d:=Z (L k).b (L k).cap zs w1 (holds_of_blockI U h6) (ri U) H
 have p:(execOp a1.eval o).run C.P w1=.ok (.enter g #[a1.eval x]) w1:=by
  unfold bS at c
  cases j:C.P.funcs[g]? with
  |none=>rw[j]at c;cases c
  |some fn=>
   rw[j]at c;simp only[up,ZK,yAb,ne_eq]at c
   have hb:fn.body.isNone=false:=by cases ad:fn.body<;>simp_all
   unfold execOp;rw[B];simp only[resolve,v,Deferred.ofValue,pure_bind,Sem.run_bind,Result.andThen_ok,invoke,callFunc,program,Sem.run,j];simp[c.2,hb]
 unfold Oper.wp;rw[p,S];simp only[Oper.upon];refine d.mono ?_;rintro ee w' ⟨rfl,n,os,rfl⟩;have Y:=A.sorted (n:=n) (os:=os) (zs':=zs.mergeSort λx y=>decide (x<=y)) z W (by simp);refine hK _ _ ?_;exact fW (λT a' w' F D=>⟨T,F,D⟩) (dM.put A hN u I s Y (.pv (.val _))) hQ
end
end Go.Ab
namespace Go.Ab
open IntKind (i64)
section
variable (n:Nat) (lg:Nat->Nat->Bool) (ps:Nat->Nat->Nat->Bool)
def kl:Nat->Nat->Nat->Nat->Prop
 |_,0,v,w=>v=w
 |i,k+1,v,w=>∃u,u<n/\lg v u=true/\ps i v u=true/\kl (i+1) k u w
theorem kl.snoc{n:Nat}{lg:Nat->Nat->Bool}{ps:Nat->Nat->Nat->Bool}:∀{k i v w:Nat},w<n->(kl n lg ps i (k+1) v w↔∃u,(u=v\/u<n)/\kl n lg ps i k v u/\lg u w=true/\ps (i+k) u w=true)
 |0,i,v,w,f=>by
  simp only[kl];constructor
  .rintro⟨u,h1,c,d,rfl⟩;exact⟨v,.inl rfl,rfl,c,d⟩
  .rintro⟨u,_,rfl,c,d⟩;exact⟨w,f,c,d,rfl⟩
 |k+1,i,v,w,f=>by
  rw[kl];constructor
  .rintro⟨u,h1,c,d,g⟩
   obtain⟨x,h5,h6,h7,h8⟩:=(kl.snoc f).1 g;refine⟨x,.inr ?_,⟨u,h1,c,d,h6⟩,h7,by rwa [show i+(k+1)=i+1+k from by omega]⟩;rcases h5 with rfl|h5
   .exact h1
   .exact h5
  .rintro⟨x,h5,⟨u,h1,c,d,h6⟩,h7,h8⟩
   refine⟨u,h1,c,d,(kl.snoc f).2 ⟨x,?_,h6,h7,by rwa [show i+1+k=i+(k+1) from by omega]⟩⟩;by_cases e:x=u
   .exact .inl e
   .
    right
    cases k with
    |zero=>exact absurd h6.symm e
    |succ k=>
     rcases h5 with rfl|h5
     .
      have:∀{k i a b:Nat},kl n lg ps i (k+1) a b->b<n:=by
       intro k
       induction k with
       |zero=>rintro i a b ⟨u,h1,_,_,rfl⟩;exact h1
       |succ k ih=>rintro i a b ⟨u,_,_,_,h⟩;exact ih h
      exact this h6
     .exact h5
theorem kl.lt{n:Nat}{lg:Nat->Nat->Bool}{ps:Nat->Nat->Nat->Bool}:∀{k i a b:Nat},kl n lg ps i (k+1) a b->b<n
 |0,_,_,_,⟨_,h1,_,_,e⟩=>by cases e;exact h1
 |_+1,_,_,_,⟨_,_,_,_,h⟩=>h.lt
theorem kl.lt'{n:Nat}{lg:Nat->Nat->Bool}{ps:Nat->Nat->Nat->Bool}{k i a b:Nat}(h:kl n lg ps i k a b)(c:a<n):b<n:=by
 cases k with
 |zero=>cases h;exact c
 |succ k=>exact h.lt
def wm(start:Nat):Nat->Nat->Bool
 |0,v=>v==start
 |i+1,v=>(List.range n).any λu=>wm start i u&&lg u v&&ps i u v
def mw(goal a:Nat):Nat->Nat->Bool
 |0,v=>v==goal
 |k+1,v=>(List.range n).any λu=>lg v u&&(mw goal a k u&&ps (a-(k+1)) v u)
def eS(goal:Nat):Nat->Nat
 |0=>0
 |s+1=>if ps s goal goal=true then eS goal s else s+1
variable {n lg ps}
theorem F8{start:Nat}(hs:start<n):∀{i v:Nat},v<n->(wm n lg ps start i v=true↔kl n lg ps 0 i start v)
 |0,v,e=>by simp only[wm,kl,ZW];exact eq_comm
 |i+1,v,e=>by
  rw[kl.snoc e,wm];simp only[yAT,ZL,up];constructor
  .rintro⟨u,h1,⟨a,b⟩,c⟩
   exact⟨u,.inr h1,(F8 hs h1).1 a,b,by simpa using c⟩
  .rintro⟨u,h1,a,b,c⟩
   have d:=a.lt' hs;exact⟨u,d,⟨(F8 hs d).2 a,b⟩,by simpa using c⟩
theorem xM{goal a:Nat}:∀{k v:Nat},k<=a->(mw n lg ps goal a k v=true↔kl n lg ps (a-k) k v goal)
 |0,v,_=>by simp[mw,kl]
 |k+1,v,f=>by
  rw[kl,mw];simp only[yAT,ZL,up]
  have e:a-(k+1)+1=a-k:=by omega
  constructor
  .rintro⟨u,h1,c,d,b⟩
   exact⟨u,h1,c,b,by rw[e];exact(xM (by omega)).1 d⟩
  .rintro⟨u,h1,c,d,b⟩
   rw[e]at b;exact⟨u,h1,c,(xM (by omega)).2 b,d⟩
theorem vL(ps:Nat->Nat->Nat->Bool)(goal:Nat):∀s,eS ps goal s<=s
 |0=>Zf _
 |s+1=>by rw[eS];have:=vL ps goal s;split<;>omega
theorem kl.trans:∀{k l i a b c:Nat},kl n lg ps i k a b->kl n lg ps (i+k) l b c->kl n lg ps i (k+l) a c
 |0,l,i,a,b,c,h1,d=>by cases h1;simpa using d
 |k+1,l,i,a,b,c,⟨u,e,f,h5,h6⟩,d=>by
  rw[show k+1+l=k+l+1 from by omega];exact⟨u,e,f,h5,h6.trans (by rwa [show i+1+k=i+(k+1) from by omega])⟩
variable (n lg ps)
variable {n lg ps}
def KH(n:Nat)(lg:Nat->Nat->Bool)(ps:Nat->Nat->Nat->Bool)(goal b i v a:Nat):Prop:=i<=a/\a<=b/\eS ps goal b<=a/\kl n lg ps i (a-i) v goal
def ld(p:Nat->Bool):Nat->Nat->Option Nat
 |_,0=>none
 |s,k+1=>if p s=true then some s else ld p (s+1) k
theorem zt(p:Nat->Bool):∀(k s:Nat),(ld p s k=none↔∀j,s<=j->j<s+k->p j=false)/\∀m,(ld p s k=some m↔s<=m/\m<s+k/\p m=true/\∀j,s<=j->j<m->p j=false)
 |0,s=>by
  refine⟨by simp[ld];omega,λm=>?_⟩;simp only[ld,reduceCtorEq,false_iff];rintro⟨h1,c,_⟩;omega
 |k+1,s=>by
  obtain⟨h1,c⟩:=zt p k (s+1);rw[ld];split
  .rename_i hp
   refine⟨?_,λm=>?_⟩
   .simp only[reduceCtorEq,false_iff]
    intro h;have:=h s (Zf _) (by omega);rw[hp]at this;cases this
   .simp only[Za]
    constructor
    .rintro rfl;exact⟨Zf _,by omega,hp,λj a b=>by omega⟩
    .rintro⟨a,b,h5,h6⟩
     rcases Nat.lt_or_ge s m with h|h
     .have:=h6 s (Zf _) h;rw[hp]at this;cases this
     .omega
  .rename_i hp
   have hp:p s=false:=by simpa using hp
   refine⟨?_,λm=>?_⟩
   .rw[h1]
    constructor
    .intro h j a b
     by_cases e:j=s
     .subst e;exact hp
     .exact h j (by omega) (by omega)
    .intro h j a b;exact h j (by omega) (by omega)
   .rw[c m]
    constructor
    .rintro⟨a,b,h5,h6⟩
     refine⟨by omega,by omega,h5,λj h7 h8=>?_⟩;by_cases e:j=s
     .subst e;exact hp
     .exact h6 j (by omega) h8
    .rintro⟨a,b,h5,h6⟩
     have:m≠s:=by rintro rfl;rw[hp]at h5;cases h5
     exact⟨by omega,by omega,h5,λj h7 h8=>h6 j (by omega) h8⟩
variable (n lg ps)
def gt(start goal b:Nat):Option Nat:=ld (λa=>wm n lg ps start a goal) (eS ps goal b) (b+1-eS ps goal b)
def gU(start goal A:Nat):Nat->Nat
 |0=>start
 |i+1=>if i<A then((List.range n).find? λu=>lg (gU start goal A i) u&&(mw n lg ps goal A (A-(i+1)) u&&ps i (gU start goal A i) u)).getD 0 else goal
variable {n lg ps}
theorem F9{start goal b:Nat}(hs:start<n)(l:goal<n):(∀m,gt n lg ps start goal b=some m↔KH n lg ps goal b 0 start m/\∀a,KH n lg ps goal b 0 start a->m<=a)/\(gt n lg ps start goal b=none↔∀a,¬KH n lg ps goal b 0 start a):=by
 have i:=vL ps goal b;obtain⟨h1,k⟩:=zt (λa=>wm n lg ps start a goal) (b+1-eS ps goal b) (eS ps goal b)
 have key:∀a,KH n lg ps goal b 0 start a↔eS ps goal b<=a/\a<eS ps goal b+(b+1-eS ps goal b)/\wm n lg ps start a goal=true:=by
  intro a;unfold KH;rw[F8 hs l,Nat.sub_zero];constructor
  .rintro⟨_,c,d,h5⟩;exact⟨d,by omega,h5⟩
  .rintro⟨c,d,h5⟩;exact⟨ZV _,by omega,c,h5⟩
 refine⟨λm=>?_,?_⟩
 .unfold gt
  rw[k m,key];constructor
  .rintro⟨c,d,h5,h6⟩
   refine⟨⟨c,d,h5⟩,λa f=>?_⟩;obtain⟨h7,h8,e⟩:=(key a).1 f;rcases Nat.lt_or_ge a m with h|h
   .have:=h6 a h7 h;rw[e]at this;cases this
   .exact h
  .rintro⟨⟨c,d,h5⟩,h6⟩
   refine⟨c,d,h5,λj h7 h8=>?_⟩
   cases g:wm n lg ps start j goal with
   |false=>rfl
   |true=>have:=h6 j ((key j).2 ⟨h7,by omega,g⟩);omega
 .unfold gt
  rw[h1];constructor
  .intro h a f
   obtain⟨h7,h8,e⟩:=(key a).1 f;have:=h a h7 h8;rw[e]at this;cases this
  .intro h j h7 h8
   cases g:wm n lg ps start j goal with
   |false=>rfl
   |true=>exact absurd ((key j).2 ⟨h7,h8,g⟩) (h j)
theorem Bw{p:Nat->Bool}{u:Nat}(a:u<n)(hp:p u=true):∃x,(List.range n).find? p=some x/\x<n/\p x=true:=by
 cases h:(List.range n).find? p with
 |none=>exact absurd hp (by simpa using yAh.1 h u (ZL.2 a))
 |some x=>exact⟨x,rfl,ZL.1 (List.mem_of_find?_eq_some h),yAJ h⟩
theorem CJ{start goal b A:Nat}(hs:start<n)(m:gt n lg ps start goal b=some A)(q:goal<n):
 ∀i,i<=A->gU n lg ps start goal A i<n/\kl n lg ps i (A-i) (gU n lg ps start goal A i) goal/\(∀j,j<i->lg (gU n lg ps start goal A j) (gU n lg ps start goal A (j+1))=true/\ps j (gU n lg ps start goal A j) (gU n lg ps start goal A (j+1))=true):=by
 obtain⟨⟨_,r,_,s⟩,_⟩:=((F9 hs q).1 A).1 m;intro i
 induction i with
 |zero=>intro _;exact⟨hs,s,λj h=>by omega⟩
 |succ i ih=>
  intro hi;obtain⟨h1,f,k⟩:=ih (by omega);rw[show A-i=(A-(i+1))+1 from by omega]at f;obtain⟨u,v,l,h5,h6⟩:=f
  have o:mw n lg ps goal A (A-(i+1)) u=true:=by rw[xM (by omega)];rwa [show A-(A-(i+1))=i+1 from by omega]
  obtain⟨x,c,d,a⟩:=Bw (p:=λu=>lg (gU n lg ps start goal A i) u&&(mw n lg ps goal A (A-(i+1)) u&&ps i (gU n lg ps start goal A i) u)) v (by simp[l,h5,o])
  have e:gU n lg ps start goal A (i+1)=x:=by rw[gU,Zd (by omega),c];rfl
  simp only[up]at a;rw[e];refine⟨d,?_,λj y=>?_⟩
  .have:=(xM (by omega)).1 a.2.1
   rwa [show A-(A-(i+1))=i+1 from by omega]at this
  .by_cases g:j=i
   .subst g;rw[e];exact⟨a.1,a.2.2⟩
   .exact k j (by omega)
theorem Pn{start goal a A:Nat}(hs:start<n)(b:gt n lg ps start goal a=some A)(c:goal<n){i:Nat}(h:A<=i):gU n lg ps start goal A i=goal:=by
 by_cases e:i=A
 .subst e
  have:=(CJ hs b c i (Zf _)).2.1;rw[yAR]at this;exact this
 .obtain⟨k,rfl⟩:∃k,i=k+1:=⟨i-1,by omega⟩
  rw[gU,Y6 (by omega)]
theorem I6{l:List Nat}{p q:Nat->Bool}(h:∀u∈l,p u=q u):l.find? p=l.find? q:=by
 induction l with
 |nil=>rfl
 |cons a l ih=>
  rw[List.find?_cons,List.find?_cons,h a (by simp),ih λu b=>h u (by simp[b])]
end
structure Edg(α:Type) where
 u:Int
 v:Int
 c:Int
 s:Int
 rest:α
structure Rmp(α β:Type) where
 np:List β
 es:List (Edg α)
structure Mov where
 a:Int
 f:Int
 t:Int
 deriving DecidableEq
structure Tem(α β:Type) where
 maps:List (Rmp α β)
 conf:List (Mov×Mov)
section
variable {α β:Type}
def eY(n:Nat)(x:Int):Bool:=decide (0<=x)&&decide (x<n)
def l7(t:Tem α β)(k:Nat):Nat:=((t.maps[k]?).map λm=>m.np.length).getD 0
def MD(t:Tem α β)(k:Nat):List (Edg α):=((t.maps[k]?).map λm=>m.es).getD []
def jP(es:List (Edg α))(u v:Int):Bool:=es.any λe=>e.u==u&&(e.v==v&&e.s==1)
def jr(t:Tem α β)(m:Mov):Bool:=eY t.maps.length m.a&&(eY (l7 t m.a.toNat) m.f&&(eY (l7 t m.a.toNat) m.t&&(m.f==m.t||jP (MD t m.a.toNat) (min m.f m.t) (max m.f m.t))))
def tS(n:Nat)(e:Edg α):Bool:=decide (0<=e.u)&&(decide (e.u<e.v)&&(decide (e.v<n)&&(decide (0<=e.c)&&decide (e.c<=1099511627776))))
def eH(n:Nat):Int->Int->List (Edg α)->Bool
 |_,_,[]=>true
 |u,v,e::r=>tS n e&&(!(decide (e.u<u)||(e.u==u&&decide (e.v<=v)))&&eH n e.u e.v r)
def dc(m:Rmp α β):Bool:=decide (m.np.length<=1024)&&(decide (m.es.length<=8192)&&eH m.np.length (-1) (-1) m.es)
def By(t:Tem α β)(c:Mov×Mov):Bool:=jr t c.1&&(jr t c.2&&c.1.a !=c.2.a)
def fv(t:Tem α β):Bool:=decide (1<=t.maps.length)&&(decide (t.maps.length<=4)&&(decide (t.conf.length<=4096)&&(t.maps.all dc&&t.conf.all (By t))))
def KI(a b:Mov)(c:Mov×Mov):Bool:=(c.1==a&&c.2==b)||(c.1==b&&c.2==a)
def Bz(t:Tem α β)(a b:Mov):Bool:=t.conf.any (KI a b)
theorem ME(t:Tem α β)(a b:Mov):Bz t a b=Bz t b a:=by
 unfold Bz
 congr 1;funext c;unfold KI;exact Bool.or_comm _ _
def vM(l:List Int)(a:Int)(tick:Nat):Mov:=⟨a,(l[min tick (l.length-1)]?).getD 0,(l[min (tick+1) (l.length-1)]?).getD 0⟩
def lK(plan:List (List Int))(m:Mov)(tick:Nat):Bool:=decide (0<((plan[m.a.toNat]?).getD []).length)&&(((plan[m.a.toNat]?).getD [])[tick]?==some m.f&&((plan[m.a.toNat]?).getD [])[tick+1]?==some m.t)
def Ga(plan:List (List Int))(b:Int)(tick:Nat)(f d:Int)(c:Mov×Mov):Bool:=
 (c.1.a==b&&(lK plan c.2 tick&&(c.1.f==f&&c.1.t==d)))||(c.2.a==b&&(lK plan c.1 tick&&(c.2.f==f&&c.2.t==d)))
def SR(t:Tem α β)(plan:List (List Int))(a:Int)(tick:Nat)(f b:Int):Bool:=!t.conf.any (Ga plan a tick f b)
theorem dT{n:Nat}{x:Int}:eY n x=true↔0<=x/\x<n:=by simp[eY]
def Ai(t:Tem α β)(a:Nat)(plan:List (List Int)):Prop:=plan.length=t.maps.length/\∀l∈plan,l=[]\/l.length=a+1
def qK(t:Tem α β)(k v u:Nat):Bool:=jr t ⟨k,v,u⟩
def NT(t:Tem α β)(plan:List (List Int))(k i v u:Nat):Bool:=SR t plan k i v u
def DZ(t:Tem α β)(plan:List (List Int))(k start goal a:Nat):Option (List Int):=
 (gt (l7 t k) (qK t k) (NT t plan k) start goal a).map λA=>(List.range (a+1)).map λi=>((gU (l7 t k) (qK t k) (NT t plan k) start goal A i:Nat):Int)
end
section
variable {n:Nat} {lg:Nat->Nat->Bool} {ps ps':Nat->Nat->Nat->Bool}
end
section
variable {α β:Type}
def uB(step:List (List Int)->Nat->Option (List Int)):List Nat->List (List Int)->Option (List (List Int))
 |[],a=>some a
 |k::r,a=>match step a k with
  |some l=>uB step r (a.set k l)
  |none=>none
def sI(l:List Int):Nat->Nat
 |0=>0
 |i+1=>if l[i]?=l[i+1]? then sI l i else i+1
def lf(l:List Int):Nat:=sI l (l.length-1)
def mO(plan:List (List Int)):Nat:=plan.foldl (λm l=>max m (lf l)) 1
def xP(plan:List (List Int)):List (List Int):=plan.map (List.take (mO plan+1))
def l8(t:Tem α β)(at_:List Int):Bool:=decide (at_.length=t.maps.length)&&(List.range at_.length).all λk=>eY (l7 t k) ((at_[k]?).getD 0)
def kC(order:List Int)(n:Nat):Bool:=decide (order.length=n)&&(List.range n).all λk=>order.contains (k:Int)
def oV(l:List Int)(k:Nat):Nat:=((l[k]?).getD 0).toNat
def I7(t:Tem α β)(b goals order:List Int)(a:Int):Bool:=fv t&&(l8 t b&&(l8 t goals&&(decide (1<=a)&&(decide (a<=64)&&kC order t.maps.length))))
def yU(t:Tem α β)(a goals order:List Int)(b:Int):Option (List (List Int)):=
 if I7 t a goals order b=true then(uB (λc k=>DZ t c k (oV a k) (oV goals k) b.toNat) (order.map Int.toNat) (List.replicate t.maps.length [])).map xP else none
theorem KJ{t:Tem α β}{plan:List (List Int)}{k start goal a:Nat}{l:List Int}(h:DZ t plan k start goal a=some l):l.length=a+1:=by
 unfold DZ at h;simp only[II]at h;obtain⟨A,_,rfl⟩:=h;simp
theorem Ai.set{t:Tem α β}{plan:List (List Int)}{a k:Nat}{l:List Int}(hp:Ai t a plan)(b:l.length=a+1):Ai t a (plan.set k l):=by
 refine⟨by rw[yAt];exact hp.1,λx c=>?_⟩;rcases ZT c with h|h
 .exact hp.2 x h
 .subst h;exact .inr b
theorem Ai.init(t:Tem α β)(a:Nat):Ai t a (List.replicate t.maps.length []):=⟨by simp,λl b=>.inl (List.eq_of_mem_replicate b)⟩
theorem HP{t:Tem α β}{l:List Int}(h:l8 t l=true){k:Nat}(a:k<t.maps.length):oV l k<l7 t k:=by
 simp only[l8,up,Is,L4,ZL]at h;have:=h.2 k (by omega);rw[dT]at this;unfold oV;omega
theorem Po{order:List Int}{n:Nat}(h:kC order n=true):∀k∈order.map Int.toNat,k<n:=by
 simp only[kC,up,Is,L4,ZL,List.contains_iff_mem]at h;obtain⟨f,c⟩:=h
 have key:∀(n:Nat)(l:List Int),l.length<=n->(∀k,k<n->((k:Nat):Int)∈l)->∀x∈l,0<=x/\x<n:=by
  intro n
  induction n with
  |zero=>intro l f _ x a;have:l=[]:=List.length_eq_zero_iff.1 (by omega)
         rw[this]at a;cases a
  |succ n ih=>
   intro l f c x a;have b:=c n (by omega);have g:(l.erase ((n:Nat):Int)).length=l.length-1:=List.length_erase_of_mem b
   have:=ih (l.erase ((n:Nat):Int)) (by omega) (λk d=>by
    rw[List.mem_erase_of_ne (by omega)];exact c k (by omega))
   by_cases e:x=(n:Nat)
   .omega
   .have:=this x ((List.mem_erase_of_ne e).2 a);omega
 intro k d;obtain⟨x,a,rfl⟩:=Zv.1 d;have:=key n order (by omega) c x a;omega
end
section
variable {α β:Type}
def ig(t:Tem α β)(plan:List (List Int))(tick k:Nat):Bool:=
 jr t (vM ((plan[k]?).getD []) k tick)&&(List.range k).all λi=>!Bz t (vM ((plan[k]?).getD []) k tick) (vM ((plan[i]?).getD []) i tick)
def ji(plan:List (List Int))(a goals:List Int)(n k:Nat):Bool:=
 decide (((plan[k]?).getD []).length=n)&&((((plan[k]?).getD [])[0]?).getD 0==(a[k]?).getD 0&&(((plan[k]?).getD [])[n-1]?).getD 0==(goals[k]?).getD 0)
def MF(t:Tem α β)(a goals:List Int)(plan:List (List Int)):Bool:=
 fv t&&(decide (a.length=t.maps.length)&&(decide (goals.length=t.maps.length)&&(decide (plan.length=t.maps.length) &&
  (decide (1<=((plan[0]?).getD []).length)&&(decide (((plan[0]?).getD []).length<=65)&&((List.range plan.length).all (ji plan a goals ((plan[0]?).getD []).length) &&
    (List.range (max 1 (((plan[0]?).getD []).length-1))).all λtick=>(List.range plan.length).all (ig t plan tick)))))))
theorem MG{order:List Int}{n:Nat}(h:kC order n=true):∀k,k<n->k∈order.map Int.toNat:=by
 simp only[kC,up,L4,ZL,List.contains_iff_mem]at h;intro k a;exact Zv.2 ⟨_,h.2 k a,rfl⟩
theorem DA(f:List Int->Nat):∀(l:List (List Int))(m:Nat),m<=l.foldl (λm l=>max m (f l)) m/\(∀x∈l,f x<=l.foldl (λm l=>max m (f l)) m)/\(l.foldl (λm l=>max m (f l)) m=m\/∃x∈l,l.foldl (λm l=>max m (f l)) m=f x)
 |[],m=>⟨Zf _,by simp,.inl rfl⟩
 |a::l,m=>by
  obtain⟨h1,d,b⟩:=DA f l (max m (f a));rw[yAv];refine⟨by omega,λx c=>?_,?_⟩
  .rcases Zx.1 c with rfl|c
   .omega
   .exact d x c
  .rcases b with b|⟨x,c,b⟩
   .rw[b]
    rcases Nat.le_total m (f a)with h|h
    .right;exact⟨a,by simp,by omega⟩
    .left;omega
   .exact .inr ⟨x,by simp[c],b⟩
theorem KK{t:Tem α β}{b goals order:List Int}{a:Int}(h:I7 t b goals order a=true):fv t=true/\t.conf.all (By t)=true/\l8 t b=true/\l8 t goals=true/\(1<=a/\a<=64)/\kC order t.maps.length=true/\1<=t.maps.length:=by
 simp only[I7,up,Is]at h;obtain⟨h1,c,d,e,h5,h6⟩:=h;have h7:=h1;simp only[fv,up,Is]at h7;exact⟨h1,h7.2.2.2.2,c,d,⟨e,h5⟩,h6,h7.1⟩
end
section
variable {α β:Type}
theorem ju{n:Nat}:∀{es:List (Edg α)}{d v0:Int},eH n d v0 es=true->(∀e∈es,tS n e=true/\(d<e.u\/(d=e.u/\v0<e.v)))/\∀(i j:Nat) e f,es[i]?=some e->es[j]?=some f->i<j->e.u<f.u\/(e.u=f.u/\e.v<f.v)
 |[],_,_,_=>⟨by simp,λi j e f h=>by simp at h⟩
 |e::r,d,v0,h=>by
  simp only[eH,up,ZK,yAk,Zj,Bool.and_eq_false_iff,yAb]at h;obtain⟨h1,⟨q,g⟩,o⟩:=h;obtain⟨h5,h6⟩:=ju o
  have m:d<e.u\/(d=e.u/\v0<e.v):=by
   by_cases l:e.u=d
   .right;refine⟨l.symm,?_⟩
    rcases g with g|g
    .exact absurd l g
    .omega
   .left;omega
  refine⟨λx c=>?_,λi j x y c k p=>?_⟩
  .rcases Zx.1 c with rfl|c
   .exact⟨h1,m⟩
   .obtain⟨a,b⟩:=h5 x c
    exact⟨a,by omega⟩
  .cases j with
   |zero=>omega
   |succ j=>
    simp only[yA1]at k
    cases i with
    |zero=>
     simp only[yAj,Za]at c;subst c;exact(h5 y (An k)).2
    |succ i=>exact h6 i j x y (by simpa using c) k (by omega)
end
end Go.Ab
