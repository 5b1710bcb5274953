/- The contracts and facts that the laws of this seat need, in one text (AbY, Py1, Py2, Py3, Py4, Py5, Py6). -/
import Derived.Test.YtfpagjchfipjkaaGreatV3
import Derived.Shelf.Sort.Plain
set_option linter.all false
set_option maxRecDepth 10000
namespace Go.Ab
open IntKind (i64)
open Go.Sort
def JZ(P:Program)(g:FuncId):Prop:=bR P g=true/\∀(a cap:Nat)(zs:List Int)(w:World),Holds (Value.int .i64) w a 0 zs.toArray->a<w.heap.size->zs.length<4611686018427387904->
 Calls P g #[.slice (some ⟨a,0,none⟩) zs.length cap] w λe b=>e=.returned (.tuple #[])/\∃n os,b=Sort.grow (putRow (Value.int .i64) (Sort.ahead w n) a 0 (zs.mergeSort λx y=>decide (x<=y)).toArray) os
section
variable {C:Cx} {Q:Exit->St->Prop} {st:St}
def Np(C:Cx)(Q:St->Prop)(f x:Operand)(d:Option Nat)(st:St):Prop:=
 ∃g k e zs,bA (st.ev f)=some (g,[],[])/\JZ C.P g/\st.ev x=.arr k zs.length/\st.h k=some (.row e 1 (fI zs) 0)/\zs≠[]/\zs.length<4611686018427387904/\dJ C.N d=true/\
  Q (st.put d (.pv (.val (.tuple #[]))) [(k,.row e 1 (fI (zs.mergeSort λx y=>decide (x<=y))) 0)])
theorem WP.sort{hn:List Nat}{id:Nat}{ops:Array Oper}{pre post:List Oper}{o:Oper}{f x:Operand}{q:Array TypeId}(m:ops.toList=pre++o::post)(B:o.op=.call {callee:=.value f,args:=#[x],argTypes:=q})(hg:o.guard=none)
 (hq:cw C.P hn C.N ops (Np C (cw C.P hn C.N ops (Q .normal) post) f x o.dst) pre st):WP C (.region id ops false) Q st:=by
 intro a w hs;refine wp_region_list ?_;rw[m];refine fh (λaj a1 w1 G E=>?_) hs hq;obtain⟨g,k,e,zs,r,⟨c,Y⟩,hx,z,V,H,s,hQ⟩:=E;obtain⟨L,A,hN,u,I⟩:=G;refine wpList_step (λK Z=>?_);rw[eI hg,YY rfl];obtain⟨vs,us,v,M,O⟩:=jH (bB I f) r;have R:=M.nil_inv;have J:=O.nil_inv;subst R;subst J;obtain⟨l,arr,h3,h4,h5,W,h6⟩:=G8 A z V
 have S:a1.eval x=.slice (some ⟨(L k).b,0,none⟩) zs.length (L k).cap:=by
  have U:=bB I x;rw[hx]at U
  cases U with
  |arr i ah hu=>
   rw[z]at i;injection i with i;injection i with _ _ a3 _;subst a3;rw[hu (by simp)];unfold Loc.slice;rw[YR (by rw[l];decide)]
 have d:=Y (L k).b (L k).cap zs w1 (holds_of_blockI h3 h6) (rt h3) H
 have p:(execOp a1.eval o).run C.P w1=.ok (.enter g #[a1.eval x]) w1:=by
  unfold bR at c
  cases j:C.P.funcs[g]? with
  |none=>rw[j]at c;cases c
  |some fn=>
   rw[j]at c;simp only[up,Zv,ZW,ne_eq]at c
   have hb:fn.body.isNone=false:=by cases ad:fn.body<;>simp_all
   unfold execOp;rw[B];simp only[resolve,v,Deferred.ofValue,pure_bind,Sem.run_bind,Result.andThen_ok,invoke,callFunc,program,Sem.run,j];simp[c.2,hb]
 unfold Oper.wp;rw[p,S];simp only[Oper.upon];refine d.mono ?_;rintro ee w' ⟨rfl,n,os,rfl⟩;have X:=A.sorted (n:=n) (os:=os) (zs':=zs.mergeSort λx y=>decide (x<=y)) z V (by simp);refine Z _ _ ?_;exact fu (λT a' w' F D=>⟨T,F,D⟩) (dH.put A hN u I s X (.pv (.val _))) hQ
end
end Go.Ab
namespace Go.Ab
open IntKind (i64)
section
variable (n:Nat) (lg:Nat->Nat->Bool) (ps:Nat->Nat->Nat->Bool)
def jT:Nat->Nat->Nat->Nat->Prop
 |_,0,v,w=>v=w
 |i,k+1,v,w=>∃u,u<n/\lg v u=true/\ps i v u=true/\jT (i+1) k u w
theorem jT.snoc{n:Nat}{lg:Nat->Nat->Bool}{ps:Nat->Nat->Nat->Bool}:∀{k i v w:Nat},w<n->(jT n lg ps i (k+1) v w↔∃u,(u=v\/u<n)/\jT n lg ps i k v u/\lg u w=true/\ps (i+k) u w=true)
 |0,i,v,w,c=>by
  simp only[jT];constructor
  .rintro⟨u,h1,h2,h3,rfl⟩;exact⟨v,.inl rfl,rfl,h2,h3⟩
  .rintro⟨u,_,rfl,h2,h3⟩;exact⟨w,c,h2,h3,rfl⟩
 |k+1,i,v,w,c=>by
  rw[jT];constructor
  .rintro⟨u,h1,h2,h3,h4⟩
   obtain⟨x,h5,h6,h7,h8⟩:=(jT.snoc c).1 h4;refine⟨x,.inr ?_,⟨u,h1,h2,h3,h6⟩,h7,by rwa [show i+(k+1)=i+1+k from by omega]⟩;rcases h5 with rfl|h5
   .exact h1
   .exact h5
  .rintro⟨x,h5,⟨u,h1,h2,h3,h6⟩,h7,h8⟩
   refine⟨u,h1,h2,h3,(jT.snoc c).2 ⟨x,?_,h6,h7,by rwa [show i+1+k=i+(k+1) from by omega]⟩⟩;by_cases e:x=u
   .exact .inl e
   .
    right
    cases k with
    |zero=>exact absurd h6.symm e
    |succ k=>
     rcases h5 with rfl|h5
     .
      have:∀{k i a b:Nat},jT n lg ps i (k+1) a b->b<n:=by
       intro k
       induction k with
       |zero=>rintro i a b ⟨u,h1,_,_,rfl⟩;exact h1
       |succ k ih=>rintro i a b ⟨u,_,_,_,h⟩;exact ih h
      exact this h6
     .exact h5
theorem jT.lt{n:Nat}{lg:Nat->Nat->Bool}{ps:Nat->Nat->Nat->Bool}:∀{k i a b:Nat},jT n lg ps i (k+1) a b->b<n
 |0,_,_,_,⟨_,h1,_,_,e⟩=>by cases e;exact h1
 |_+1,_,_,_,⟨_,_,_,_,h⟩=>h.lt
theorem jT.lt'{n:Nat}{lg:Nat->Nat->Bool}{ps:Nat->Nat->Nat->Bool}{k i a b:Nat}(h:jT n lg ps i k a b)(ha:a<n):b<n:=by
 cases k with
 |zero=>cases h;exact ha
 |succ k=>exact h.lt
def wu(start:Nat):Nat->Nat->Bool
 |0,v=>v==start
 |i+1,v=>(List.range n).any λu=>wu start i u&&lg u v&&ps i u v
def my(goal a:Nat):Nat->Nat->Bool
 |0,v=>v==goal
 |k+1,v=>(List.range n).any λu=>lg v u&&(my goal a k u&&ps (a-(k+1)) v u)
def du(goal:Nat):Nat->Nat
 |0=>0
 |s+1=>if ps s goal goal=true then du goal s else s+1
variable {n lg ps}
theorem Gb{start:Nat}(hs:start<n):∀{i v:Nat},v<n->(wu n lg ps start i v=true↔jT n lg ps 0 i start v)
 |0,v,b=>by simp only[wu,jT,ZH];exact eq_comm
 |i+1,v,b=>by
  rw[jT.snoc b,wu];simp only[yAF,Zw,up];constructor
  .rintro⟨u,h1,⟨h2,h3⟩,h4⟩
   exact⟨u,.inr h1,(Gb hs h1).1 h2,h3,by simpa using h4⟩
  .rintro⟨u,h1,h2,h3,h4⟩
   have a:=h2.lt' hs;exact⟨u,a,⟨(Gb hs a).2 h2,h3⟩,by simpa using h4⟩
theorem xP{goal a:Nat}:∀{k v:Nat},k<=a->(my n lg ps goal a k v=true↔jT n lg ps (a-k) k v goal)
 |0,v,_=>by simp[my,jT]
 |k+1,v,b=>by
  rw[jT,my];simp only[yAF,Zw,up]
  have e:a-(k+1)+1=a-k:=by omega
  constructor
  .rintro⟨u,h1,h2,h3,h4⟩
   exact⟨u,h1,h2,h4,by rw[e];exact(xP (by omega)).1 h3⟩
  .rintro⟨u,h1,h2,h3,h4⟩
   rw[e]at h4;exact⟨u,h1,h2,(xP (by omega)).2 h4,h3⟩
theorem pY{goal:Nat}:∀{s a:Nat},a<=s->(du ps goal s<=a↔∀j,a<=j->j<s->ps j goal goal=true)
 |0,a,h=>by simp[du]
 |s+1,a,h=>by
  rw[du];split
  .rename_i hp
   by_cases e:a<=s
   .rw[pY e]
    constructor
    .intro h1 j h2 h3
     by_cases b:j=s
     .subst b;exact hp
     .exact h1 j h2 (by omega)
    .intro h1 j h2 h3;exact h1 j h2 (by omega)
   .have:du ps goal s<=s:=by
     clear hp e h
     induction s with
     |zero=>exact Y0 _
     |succ s ih=>rw[du];split<;>omega
    constructor
    .intro _ j h2 h3;omega
    .intro _;omega
  .rename_i hp
   constructor
   .intro h1 j h2 h3;omega
   .intro h1
    rcases Nat.lt_or_ge s a with h2|h2
    .omega
    .exact absurd (h1 s h2 (by omega)) hp
theorem vT(ps:Nat->Nat->Nat->Bool)(goal:Nat):∀s,du ps goal s<=s
 |0=>Y0 _
 |s+1=>by rw[du];have:=vT ps goal s;split<;>omega
theorem jT.trans:∀{k l i a b c:Nat},jT n lg ps i k a b->jT n lg ps (i+k) l b c->jT n lg ps i (k+l) a c
 |0,l,i,a,b,c,h1,h2=>by cases h1;simpa using h2
 |k+1,l,i,a,b,c,⟨u,h3,h4,h5,h6⟩,h2=>by
  rw[show k+1+l=k+l+1 from by omega];exact⟨u,h3,h4,h5,h6.trans (by rwa [show i+1+k=i+(k+1) from by omega])⟩
variable (n lg ps)
variable {n lg ps}
def HZ(n:Nat)(lg:Nat->Nat->Bool)(ps:Nat->Nat->Nat->Bool)(goal b i v a:Nat):Prop:=i<=a/\a<=b/\du ps goal b<=a/\jT n lg ps i (a-i) v goal
def lq(p:Nat->Bool):Nat->Nat->Option Nat
 |_,0=>none
 |s,k+1=>if p s=true then some s else lq p (s+1) k
theorem zG(p:Nat->Bool):∀(k s:Nat),(lq p s k=none↔∀j,s<=j->j<s+k->p j=false)/\∀m,(lq p s k=some m↔s<=m/\m<s+k/\p m=true/\∀j,s<=j->j<m->p j=false)
 |0,s=>by
  refine⟨by simp[lq];omega,λm=>?_⟩;simp only[lq,reduceCtorEq,false_iff];rintro⟨h1,h2,_⟩;omega
 |k+1,s=>by
  obtain⟨h1,h2⟩:=zG p k (s+1);rw[lq];split
  .rename_i hp
   refine⟨?_,λm=>?_⟩
   .simp only[reduceCtorEq,false_iff]
    intro h;have:=h s (Y0 _) (by omega);rw[hp]at this;cases this
   .simp only[YV]
    constructor
    .rintro rfl;exact⟨Y0 _,by omega,hp,λj h3 h4=>by omega⟩
    .rintro⟨h3,h4,h5,h6⟩
     rcases Nat.lt_or_ge s m with h|h
     .have:=h6 s (Y0 _) h;rw[hp]at this;cases this
     .omega
  .rename_i hp
   have hp:p s=false:=by simpa using hp
   refine⟨?_,λm=>?_⟩
   .rw[h1]
    constructor
    .intro h j h3 h4
     by_cases e:j=s
     .subst e;exact hp
     .exact h j (by omega) (by omega)
    .intro h j h3 h4;exact h j (by omega) (by omega)
   .rw[h2 m]
    constructor
    .rintro⟨h3,h4,h5,h6⟩
     refine⟨by omega,by omega,h5,λj h7 h8=>?_⟩;by_cases e:j=s
     .subst e;exact hp
     .exact h6 j (by omega) h8
    .rintro⟨h3,h4,h5,h6⟩
     have:m≠s:=by rintro rfl;rw[hp]at h5;cases h5
     exact⟨by omega,by omega,h5,λj h7 h8=>h6 j (by omega) h8⟩
variable (n lg ps)
def fq(start goal b:Nat):Option Nat:=lq (λa=>wu n lg ps start a goal) (du ps goal b) (b+1-du ps goal b)
def fX(start goal A:Nat):Nat->Nat
 |0=>start
 |i+1=>if i<A then((List.range n).find? λu=>lg (fX start goal A i) u&&(my n lg ps goal A (A-(i+1)) u&&ps i (fX start goal A i) u)).getD 0 else goal
variable {n lg ps}
theorem oR{start goal b:Nat}(hs:start<n)(e:goal<n):(∀m,fq n lg ps start goal b=some m↔HZ n lg ps goal b 0 start m/\∀a,HZ n lg ps goal b 0 start a->m<=a)/\(fq n lg ps start goal b=none↔∀a,¬HZ n lg ps goal b 0 start a):=by
 have d:=vT ps goal b;obtain⟨h1,h2⟩:=zG (λa=>wu n lg ps start a goal) (b+1-du ps goal b) (du ps goal b)
 have key:∀a,HZ n lg ps goal b 0 start a↔du ps goal b<=a/\a<du ps goal b+(b+1-du ps goal b)/\wu n lg ps start a goal=true:=by
  intro a;unfold HZ;rw[Gb hs e,Nat.sub_zero];constructor
  .rintro⟨_,h3,h4,h5⟩;exact⟨h4,by omega,h5⟩
  .rintro⟨h3,h4,h5⟩;exact⟨ZG _,by omega,h3,h5⟩
 refine⟨λm=>?_,?_⟩
 .unfold fq
  rw[h2 m,key];constructor
  .rintro⟨h3,h4,h5,h6⟩
   refine⟨⟨h3,h4,h5⟩,λa ha=>?_⟩;obtain⟨h7,h8,h9⟩:=(key a).1 ha;rcases Nat.lt_or_ge a m with h|h
   .have:=h6 a h7 h;rw[h9]at this;cases this
   .exact h
  .rintro⟨⟨h3,h4,h5⟩,h6⟩
   refine⟨h3,h4,h5,λj h7 h8=>?_⟩
   cases c:wu n lg ps start j goal with
   |false=>rfl
   |true=>have:=h6 j ((key j).2 ⟨h7,by omega,c⟩);omega
 .unfold fq
  rw[h1];constructor
  .intro h a ha
   obtain⟨h7,h8,h9⟩:=(key a).1 ha;have:=h a h7 h8;rw[h9]at this;cases this
  .intro h j h7 h8
   cases c:wu n lg ps start j goal with
   |false=>rfl
   |true=>exact absurd ((key j).2 ⟨h7,h8,c⟩) (h j)
theorem BG{p:Nat->Bool}{u:Nat}(a:u<n)(hp:p u=true):∃x,(List.range n).find? p=some x/\x<n/\p x=true:=by
 cases h:(List.range n).find? p with
 |none=>exact absurd hp (by simpa using Z2.1 h u (Zw.2 a))
 |some x=>exact⟨x,rfl,Zw.1 (List.mem_of_find?_eq_some h),yAv h⟩
theorem pO{start goal b A:Nat}(hs:start<n)(g:fq n lg ps start goal b=some A)(k:goal<n):
 ∀i,i<=A->fX n lg ps start goal A i<n/\jT n lg ps i (A-i) (fX n lg ps start goal A i) goal/\(∀j,j<i->lg (fX n lg ps start goal A j) (fX n lg ps start goal A (j+1))=true/\ps j (fX n lg ps start goal A j) (fX n lg ps start goal A (j+1))=true):=by
 obtain⟨⟨_,l,_,m⟩,_⟩:=((oR hs k).1 A).1 g;intro i
 induction i with
 |zero=>intro _;exact⟨hs,m,λj h=>by omega⟩
 |succ i ih=>
  intro hi;obtain⟨h1,h2,h3⟩:=ih (by omega);rw[show A-i=(A-(i+1))+1 from by omega]at h2;obtain⟨u,o,h4,h5,h6⟩:=h2
  have hb:my n lg ps goal A (A-(i+1)) u=true:=by rw[xP (by omega)];rwa [show A-(A-(i+1))=i+1 from by omega]
  obtain⟨x,c,d,a⟩:=BG (p:=λu=>lg (fX n lg ps start goal A i) u&&(my n lg ps goal A (A-(i+1)) u&&ps i (fX n lg ps start goal A i) u)) o (by simp[h4,h5,hb])
  have e:fX n lg ps start goal A (i+1)=x:=by rw[fX,YY (by omega),c];rfl
  simp only[up]at a;rw[e];refine⟨d,?_,λj q=>?_⟩
  .have:=(xP (by omega)).1 a.2.1
   rwa [show A-(A-(i+1))=i+1 from by omega]at this
  .by_cases f:j=i
   .subst f;rw[e];exact⟨a.1,a.2.2⟩
   .exact h3 j (by omega)
theorem nD{start goal a A:Nat}(hs:start<n)(b:fq n lg ps start goal a=some A)(c:goal<n){i:Nat}(h:A<=i):fX n lg ps start goal A i=goal:=by
 by_cases e:i=A
 .subst e
  have:=(pO hs b c i (Y0 _)).2.1;rw[yAD]at this;exact this
 .obtain⟨k,rfl⟩:∃k,i=k+1:=⟨i-1,by omega⟩
  rw[fX,YR (by omega)]
theorem Jm{l:List Nat}{p q:Nat->Bool}(h:∀u∈l,p u=q u):l.find? p=l.find? q:=by
 induction l with
 |nil=>rfl
 |cons a l ih=>
  rw[List.find?_cons,List.find?_cons,h a (by simp),ih λu b=>h u (by simp[b])]
end
variable {goal k n start ticks:Nat}{goals l order starts:List Int}{plan q:List (List Int)}
def yY(l:List Nat):Nat->Nat
 |0=>0
 |i+1=>if l[i]?=l[i+1]? then yY l i else i+1
def Jn(l:List Nat):Nat:=yY l (l.length-1)
theorem BH(l:List Nat):∀i a,a<=i->(∀j,a<=j->j<i->l[j]?=l[j+1]?)->(a=0\/l[a-1]?≠l[a]?)->yY l i=a
 |0,a,h,_,_=>by have:a=0:=by omega
                subst this;rfl
 |i+1,a,h,h1,h2=>by
  rw[yY];by_cases e:a=i+1
  .subst e
   rw[YR];rcases h2 with h2|h2
   .omega
   .simpa using h2
  .rw[YY (h1 i (by omega) (by omega))]
   exact BH l i a (by omega) (λj h3 h4=>h1 j h3 (by omega)) h2
section
variable {n:Nat} {lg:Nat->Nat->Bool} {ps:Nat->Nat->Nat->Bool}
theorem Pi{A m:Nat}(hs:start<n)(b:fq n lg ps start goal ticks=some A)(c:goal<n)(q:A<=m):Jn ((List.range (m+1)).map (fX n lg ps start goal A))=A:=by
 have get:∀j,j<=m->((List.range (m+1)).map (fX n lg ps start goal A))[j]?=some (fX n lg ps start goal A j):=by
  intro j u;rw[YS,List.getElem?_range (by omega)];rfl
 unfold Jn;rw[Zm,List.length_range,Nat.add_sub_cancel];refine BH _ _ _ q (λj h1 h2=>?_) ?_
 .rw[get j (by omega),get (j+1) (by omega),nD hs b c h1,nD hs b c (by omega)]
 .rcases Nat.eq_zero_or_pos A with h|h
  .exact .inl h
  .right
   rw[get (A-1) (by omega),get A q];intro e;injection e with e;rw[nD hs b c (Y0 A)]at e;obtain⟨⟨_,k,f,_⟩,d⟩:=((oR hs c).1 A).1 b;obtain⟨_,_,a⟩:=pO hs b c A (Y0 _);obtain⟨b1,p⟩:=a (A-1) (by omega);rw[show A-1+1=A from by omega,e,nD hs b c (Y0 A)]at b1 p;have o:=(pY k).1 f
   have g:HZ n lg ps goal ticks 0 start (A-1):=by
    refine⟨ZG _,by omega,?_,?_⟩
    .rw[pY (by omega)]
     intro j h1 h2;by_cases s:j=A-1
     .subst s;exact p
     .exact o j (by omega) h2
    .rw[Nat.sub_zero]
     have pre:∀i,i<=A->jT n lg ps 0 i start (fX n lg ps start goal A i):=by
      intro i
      induction i with
      |zero=>intro _;rfl
      |succ i ih=>
       intro hi;obtain⟨c1,r⟩:=a i (by omega);have l:=(pO hs b c (i+1) hi).1;exact(jT.snoc l).2 ⟨_,.inr (pO hs b c i (by omega)).1,ih (by omega),c1,by simpa using r⟩
     have:=pre (A-1) (by omega)
     rwa [e]at this
   have:=d _ g;omega
end
section
variable (n:Nat) (adj:Nat->Nat->Bool)
variable {n adj}
end
structure Edg(α:Type) where
 u:Int
 v:Int
 c:Int
 s:Int
 rest:α
structure Rmp(α β:Type) where
 np:List β
 es:List (Edg α)
structure Mov where
 a:Int
 f:Int
 t:Int
 deriving DecidableEq
structure Tem(α β:Type) where
 maps:List (Rmp α β)
 conf:List (Mov×Mov)
section
variable {α β:Type}
def gp(n:Nat)(x:Int):Bool:=decide (0<=x)&&decide (x<n)
def gU(t:Tem α β)(k:Nat):Nat:=((t.maps[k]?).map λm=>m.np.length).getD 0
def Jo(t:Tem α β)(k:Nat):List (Edg α):=((t.maps[k]?).map λm=>m.es).getD []
def l8(es:List (Edg α))(u v:Int):Bool:=es.any λe=>e.u==u&&(e.v==v&&e.s==1)
def gw(t:Tem α β)(m:Mov):Bool:=gp t.maps.length m.a&&(gp (gU t m.a.toNat) m.f&&(gp (gU t m.a.toNat) m.t&&(m.f==m.t||l8 (Jo t m.a.toNat) (min m.f m.t) (max m.f m.t))))
def t6(n:Nat)(e:Edg α):Bool:=decide (0<=e.u)&&(decide (e.u<e.v)&&(decide (e.v<n)&&(decide (0<=e.c)&&decide (e.c<=1099511627776))))
def eH(n:Nat):Int->Int->List (Edg α)->Bool
 |_,_,[]=>true
 |u,v,e::r=>t6 n e&&(!(decide (e.u<u)||(e.u==u&&decide (e.v<=v)))&&eH n e.u e.v r)
def dt(m:Rmp α β):Bool:=decide (m.np.length<=1024)&&(decide (m.es.length<=8192)&&eH m.np.length (-1) (-1) m.es)
def uI(t:Tem α β)(c:Mov×Mov):Bool:=gw t c.1&&(gw t c.2&&c.1.a !=c.2.a)
def fy(t:Tem α β):Bool:=decide (1<=t.maps.length)&&(decide (t.maps.length<=4)&&(decide (t.conf.length<=4096)&&(t.maps.all dt&&t.conf.all (uI t))))
def zH(a b:Mov)(c:Mov×Mov):Bool:=(c.1==a&&c.2==b)||(c.1==b&&c.2==a)
def qR(t:Tem α β)(a b:Mov):Bool:=t.conf.any (zH a b)
theorem Gc(t:Tem α β)(a b:Mov):qR t a b=qR t b a:=by
 unfold qR
 congr 1;funext c;unfold zH;exact Bool.or_comm _ _
def fC(l:List Int)(a:Int)(tick:Nat):Mov:=⟨a,(l[min tick (l.length-1)]?).getD 0,(l[min (tick+1) (l.length-1)]?).getD 0⟩
def xQ(t:Tem α β)(m:Mov)(tick i:Nat)(l:List Int):Bool:=!(decide (0<l.length)&&(decide ((i:Int)≠m.a)&&qR t m (fC l i tick)))
def KU(t:Tem α β)(plan:List (List Int))(m:Mov)(tick:Nat):Bool:=(List.range plan.length).all λi=>xQ t m tick i ((plan[i]?).getD [])
def iU(plan:List (List Int))(m:Mov)(tick:Nat):Bool:=decide (0<((plan[m.a.toNat]?).getD []).length)&&(((plan[m.a.toNat]?).getD [])[tick]?==some m.f&&((plan[m.a.toNat]?).getD [])[tick+1]?==some m.t)
def Au(plan:List (List Int))(b:Int)(tick:Nat)(f d:Int)(c:Mov×Mov):Bool:=
 (c.1.a==b&&(iU plan c.2 tick&&(c.1.f==f&&c.1.t==d)))||(c.2.a==b&&(iU plan c.1 tick&&(c.2.f==f&&c.2.t==d)))
def BI(t:Tem α β)(plan:List (List Int))(a:Int)(tick:Nat)(f b:Int):Bool:=!t.conf.any (Au plan a tick f b)
theorem dV{x:Int}:gp n x=true↔0<=x/\x<n:=by simp[gp]
def t7(t:Tem α β)(a:Nat)(plan:List (List Int)):Prop:=plan.length=t.maps.length/\∀l∈plan,l=[]\/l.length=a+1
theorem lO{tick:Nat}{a:Int}(b:l.length=ticks+1)(h:tick<ticks):fC l a tick=⟨a,(l[tick]?).getD 0,(l[tick+1]?).getD 0⟩:=by
 unfold fC;rw[b,Nat.add_sub_cancel,Nat.min_eq_left (by omega),Nat.min_eq_left (by omega)]
theorem Jp{t:Tem α β}(hc:t.conf.all (uI t)=true)(hp:t7 t ticks plan){tick:Nat}(H:tick<ticks)(f A:Int):
 KU t plan ⟨k,f,A⟩ tick=BI t plan k tick f A:=by
 rw[Bool.eq_iff_iff]
 have D:∀c∈t.conf,gw t c.1=true/\gw t c.2=true/\c.1.a≠c.2.a:=by
  intro c C;have:=L4.1 hc c C;simp only[uI,up,bne_iff_ne,ne_eq]at this;exact this
 have full:∀(i:Nat)(l:List Int),plan[i]?=some l->0<l.length->l.length=ticks+1:=by
  intro i l b g;rcases hp.2 l (An b)with h|h
  .subst h;simp at g
  .exact h
 have made:∀m:Mov,0<=m.a->iU plan m tick=true->∃l,plan[m.a.toNat]?=some l/\0<l.length/\fC l m.a tick=m:=by
  intro m g h;unfold iU at h;simp only[up,Is,ZH]at h
  cases b:plan[m.a.toNat]? with
  |none=>rw[b]at h;simp at h
  |some l=>
   rw[b]at h;simp only[Y8]at h;refine⟨l,rfl,h.1,?_⟩;rw[lO (full _ l b h.1) H,h.2.1,h.2.2];rfl
 have o:∀(i:Nat) l,plan[i]?=some l->0<l.length->iU plan (fC l i tick) tick=true:=by
  intro i l b g;have s:=full i l b g;rw[lO s H];unfold iU;have p:l[tick]?=some (l[tick]'(by omega)):=an _;have q:l[tick+1]?=some (l[tick+1]'(by omega)):=an _;simp[b,g,p,q]
 constructor
 .intro h
  unfold BI;rw[Zv,yAx];intro c d hb;obtain⟨h1,h2,h3⟩:=D c d;simp only[Au,ZI,up,ZH]at hb
  have key:∀x y:Mov,x.a=k->gw t y=true->x.a≠y.a->iU plan y tick=true->x.f=f->x.t=A->zH x y c=true->False:=by
   intro x y G I u B hf v j
   have z:0<=y.a:=by simp only[gw,up,dV]at I;exact I.1.1
   obtain⟨l,b,E,F⟩:=made y z B;have n:=(th.1 b).1;have:=L4.1 h y.a.toNat (Zw.2 n);simp only[xQ,b,Y8,E,yAz,Zf,Zv,Bool.and_eq_false_iff,Y4]at this;have e:((y.a.toNat:Nat):Int)=y.a:=Int.toNat_of_nonneg z;rw[e,F]at this
   have J:(⟨k,f,A⟩:Mov)=x:=by cases x;simp only at G hf v;subst G;subst hf;subst v;rfl
   rcases this with h9|h9
   .exact h9 (by show y.a≠(k:Int);rw[<-G];exact λe=>u e.symm)
   .rw[J]at h9
    have:qR t x y=true:=yAF.2 ⟨c,d,j⟩;rw[this]at h9;cases h9
  rcases hb with⟨h4,h5,h6,h7⟩|⟨h4,h5,h6,h7⟩
  .exact key c.1 c.2 h4 h2 h3 h5 h6 h7 (by simp[zH])
  .exact key c.2 c.1 h4 h1 (λe=>h3 e.symm) h5 h6 h7 (by simp[zH])
 .intro h
  unfold BI at h;rw[Zv,yAx]at h;unfold KU;rw[L4];intro i hi;have n:=Zw.1 hi;have b:plan[i]?=some plan[i]:=an n;rw[b,Y8]
  cases h9:xQ t ⟨k,f,A⟩ tick i plan[i]with
  |true=>rfl
  |false=>
   simp only[xQ,Bool.not_eq_false',up,Is]at h9;obtain⟨g,u,j⟩:=h9;obtain⟨c,d,r⟩:=yAF.1 j;have B:=o i plan[i] b g;refine absurd ?_ (h c d);simp only[zH,ZI,up,ZH]at r;simp only[Au,ZI,up,ZH];rcases r with⟨p,q⟩|⟨p,q⟩
   .left;rw[p,q];exact⟨rfl,B,rfl,rfl⟩
   .right;rw[p,q];exact⟨rfl,B,rfl,rfl⟩
def sN(t:Tem α β)(k v u:Nat):Bool:=gw t ⟨k,v,u⟩
def Gd(t:Tem α β)(plan:List (List Int))(k i v u:Nat):Bool:=BI t plan k i v u
def tE(t:Tem α β)(plan:List (List Int))(k start goal a:Nat):Option (List Int):=
 (fq (gU t k) (sN t k) (Gd t plan k) start goal a).map λA=>(List.range (a+1)).map λi=>((fX (gU t k) (sN t k) (Gd t plan k) start goal A i:Nat):Int)
end
section
variable {n:Nat} {lg:Nat->Nat->Bool} {ps ps':Nat->Nat->Nat->Bool}
end
section
variable {α β:Type}
theorem MP{t:Tem α β}{v:Nat}(a:k<t.maps.length)(b:v<gU t k):sN t k v v=true:=by
 simp only[sN,gw,Y9,up,dV,beq_self_eq_true,Bool.true_or];refine⟨⟨?_,?_⟩,⟨?_,?_⟩,⟨?_,?_⟩,trivial⟩<;>omega
def oS(step:List (List Int)->Nat->Option (List Int)):List Nat->List (List Int)->Option (List (List Int))
 |[],plan=>some plan
 |k::r,plan=>match step plan k with
  |some l=>oS step r (plan.set k l)
  |none=>none
def oT(l:List Int):Nat->Nat
 |0=>0
 |i+1=>if l[i]?=l[i+1]? then oT l i else i+1
def fY(l:List Int):Nat:=oT l (l.length-1)
def fZ(plan:List (List Int)):Nat:=plan.foldl (λm l=>max m (fY l)) 1
def kr(plan:List (List Int)):List (List Int):=plan.map (List.take (fZ plan+1))
def jU(t:Tem α β)(at_:List Int):Bool:=decide (at_.length=t.maps.length)&&(List.range at_.length).all λk=>gp (gU t k) ((at_[k]?).getD 0)
def kI(order:List Int)(n:Nat):Bool:=decide (order.length=n)&&(List.range n).all λk=>order.contains (k:Int)
def j0(l:List Int)(k:Nat):Nat:=((l[k]?).getD 0).toNat
def Ge(t:Tem α β)(b goals order:List Int)(a:Int):Bool:=fy t&&(jU t b&&(jU t goals&&(decide (1<=a)&&(decide (a<=64)&&kI order t.maps.length))))
def oU(t:Tem α β)(a goals order:List Int)(b:Int):Option (List (List Int)):=
 if Ge t a goals order b=true then(oS (λplan k=>tE t plan k (j0 a k) (j0 goals k) b.toNat) (order.map Int.toNat) (List.replicate t.maps.length [])).map kr else none
theorem DI{t:Tem α β}(h:tE t plan k start goal ticks=some l):l.length=ticks+1:=by
 unfold tE at h;simp only[II]at h;obtain⟨A,_,rfl⟩:=h;simp
theorem t7.set{t:Tem α β}(hp:t7 t ticks plan)(a:l.length=ticks+1):t7 t ticks (plan.set k l):=by
 refine⟨by rw[yAe];exact hp.1,λx b=>?_⟩;rcases ZE b with h|h
 .exact hp.2 x h
 .subst h;exact .inr a
theorem t7.init(t:Tem α β)(a:Nat):t7 t a (List.replicate t.maps.length []):=⟨by simp,λl b=>.inl (List.eq_of_mem_replicate b)⟩
theorem yZ{t:Tem α β}(h:jU t l=true)(a:k<t.maps.length):j0 l k<gU t k:=by
 simp only[jU,up,Is,L4,Zw]at h;have:=h.2 k (by omega);rw[dV]at this;unfold j0;omega
theorem H1(h:kI order n=true):∀k∈order.map Int.toNat,k<n:=by
 simp only[kI,up,Is,L4,Zw,List.contains_iff_mem]at h;obtain⟨f,c⟩:=h
 have key:∀(n:Nat)(l:List Int),l.length<=n->(∀k,k<n->((k:Nat):Int)∈l)->∀x∈l,0<=x/\x<n:=by
  intro n
  induction n with
  |zero=>intro l f _ x a;have:l=[]:=List.length_eq_zero_iff.1 (by omega)
         rw[this]at a;cases a
  |succ n ih=>
   intro l f c x a;have b:=c n (by omega);have g:(l.erase ((n:Nat):Int)).length=l.length-1:=List.length_erase_of_mem b
   have:=ih (l.erase ((n:Nat):Int)) (by omega) (λk d=>by
    rw[List.mem_erase_of_ne (by omega)];exact c k (by omega))
   by_cases e:x=(n:Nat)
   .omega
   .have:=this x ((List.mem_erase_of_ne e).2 a);omega
 intro k d;obtain⟨x,a,rfl⟩:=Zg.1 d;have:=key n order (by omega) c x a;omega
end
section
variable {α β:Type}
def ga(t:Tem α β)(plan:List (List Int))(tick k:Nat):Bool:=
 gw t (fC ((plan[k]?).getD []) k tick)&&(List.range k).all λi=>!qR t (fC ((plan[k]?).getD []) k tick) (fC ((plan[i]?).getD []) i tick)
def il(plan:List (List Int))(a goals:List Int)(n k:Nat):Bool:=
 decide (((plan[k]?).getD []).length=n)&&((((plan[k]?).getD [])[0]?).getD 0==(a[k]?).getD 0&&(((plan[k]?).getD [])[n-1]?).getD 0==(goals[k]?).getD 0)
def sO(t:Tem α β)(a goals:List Int)(plan:List (List Int)):Bool:=
 fy t&&(decide (a.length=t.maps.length)&&(decide (goals.length=t.maps.length)&&(decide (plan.length=t.maps.length) &&
  (decide (1<=((plan[0]?).getD []).length)&&(decide (((plan[0]?).getD []).length<=65)&&((List.range plan.length).all (il plan a goals ((plan[0]?).getD []).length) &&
    (List.range (max 1 (((plan[0]?).getD []).length-1))).all λtick=>(List.range plan.length).all (ga t plan tick)))))))
structure LOk(t:Tem α β)(k start goal ticks:Nat)(l:List Int)(A:Nat):Prop where
 len:l.length=ticks+1
 st:l[0]?=some (start:Int)
 le:A<=ticks
 arr:fY l=A
 arrT:∀m,A<=m->m<=ticks->fY (l.take (m+1))=A
 goal:∀i,A<=i->i<=ticks->l[i]?=some (goal:Int)
 leg:∀i,i<ticks->gw t ⟨k,(l[i]?).getD 0,(l[i+1]?).getD 0⟩=true
theorem DJ(l:List Nat):∀i,i<l.length->oT (l.map λx=>((x:Nat):Int)) i=yY l i
 |0,_=>rfl
 |i+1,h=>by
  rw[oT,yY,DJ l i (by omega)];have a:l[i]?=some (l[i]'(by omega)):=an _;have b:l[i+1]?=some (l[i+1]'(by omega)):=an _;simp only[YS,a,b,ZD,YV,Int.natCast_inj]
theorem Pj{l:List Nat}(h:l≠[]):fY (l.map λx=>((x:Nat):Int))=Jn l:=by
 unfold fY Jn;rw[Zm];exact DJ l _ (by have:=List.length_pos_iff.2 h;omega)
theorem Pk{t:Tem α β}(n:k<t.maps.length)(hs:start<gU t k)(c:goal<gU t k)(h:tE t plan k start goal ticks=some l):
 ∃A,fq (gU t k) (sN t k) (Gd t plan k) start goal ticks=some A/\LOk t k start goal ticks l A/\∀i,i<ticks->BI t plan k i ((l[i]?).getD 0) ((l[i+1]?).getD 0)=true:=by
 unfold tE at h;simp only[II]at h;obtain⟨A,a,rfl⟩:=h;have d:=((oR (lg:=sN t k) hs c).1 A).1 a |>.1.2.1;have g:=((oR (lg:=sN t k) hs c).1 A).1 a |>.1.2.2.1;have j:=(pY d).1 g
 let f:=fX (gU t k) (sN t k) (Gd t plan k) start goal A
 have get:∀i,i<=ticks->((List.range (ticks+1)).map λi=>((f i:Nat):Int))[i]?=some ((f i:Nat):Int):=by
  intro i hi;rw[YS,List.getElem?_range (by omega)];rfl
 have step:∀i,i<ticks->sN t k (f i) (f (i+1))=true/\Gd t plan k i (f i) (f (i+1))=true:=by
  intro i hi;by_cases e:i<A
  .exact(pO hs a c A (Y0 _)).2.2 i e
  .rw[show f i=goal from nD hs a c (by omega),show f (i+1)=goal from nD hs a c (by omega)]
   exact⟨MP n c,j i (by omega) hi⟩
 have b:∀m,A<=m->fY ((List.range (m+1)).map λi=>((f i:Nat):Int))=A:=by
  intro m o
  have:((List.range (m+1)).map λi=>((f i:Nat):Int))=((List.range (m+1)).map f).map λx=>((x:Nat):Int):=by rw[List.map_map];rfl
  rw[this,Pj (by simp),Pi hs a c o]
 refine⟨A,a,⟨by simp,?_,d,b ticks d,λm h1 h2=>?_,λi h1 h2=>?_,λi hi=>?_⟩,λi hi=>?_⟩
 .rw[get 0 (by omega)];rfl
 .rw[<-List.map_take,List.take_range,Nat.min_eq_left (by omega)];exact b m h1
 .rw[get i h2];congr 2;exact nD hs a c h1
 .rw[get i (by omega),get (i+1) (by omega)];exact(step i hi).1
 .rw[get i (by omega),get (i+1) (by omega)];exact(step i hi).2
structure PInv(t:Tem α β)(s g:Nat->Nat)(ticks:Nat)(plan:List (List Int)):Prop where
 ok:t7 t ticks plan
 lst:∀(k:Nat)(l:List Int),plan[k]?=some l->l≠[]->∃A,LOk t k (s k) (g k) ticks l A
 ap:∀(k k':Nat) l l',plan[k]?=some l->plan[k']?=some l'->l≠[]->l'≠[]->k≠k'->∀i,i<ticks->qR t (fC l k i) (fC l' k' i)=false
theorem PInv.step{t:Tem α β}(hc:t.conf.all (uI t)=true){s g:Nat->Nat}(hp:PInv t s g ticks plan)(C:k<t.maps.length)(hs:s k<gU t k)(B:g k<gU t k)
 (h:tE t plan k (s k) (g k) ticks=some l):PInv t s g ticks (plan.set k l):=by
 obtain⟨A,_,y,u⟩:=Pk C hs B h;have c:=y.len
 have get:∀(q:Nat) x,(plan.set k l)[q]?=some x->(q=k/\x=l)\/(q≠k/\plan[q]?=some x):=by
  intro q x a;rw[Y1]at a;split at a
  .rename_i e
   split at a
   .injection a with a;exact .inl ⟨e.symm,a.symm⟩
   .cases a
  .rename_i e;exact .inr ⟨λz=>e z.symm,a⟩
 have key:∀(q:Nat) x,plan[q]?=some x->x≠[]->q≠k->∀i,i<ticks->qR t (fC l k i) (fC x q i)=false:=by
  intro q x a b hq i hi;have h1:=u i hi;rw[<-Jp hc hp.ok hi]at h1;have r:=(th.1 a).1;have h2:=L4.1 h1 q (Zw.2 r);have j:0<x.length:=List.length_pos_iff.2 b
  have v:(q:Int)≠k:=by omega
  simp only[xQ,a,Y8,j,yAz,Zf,Zv,Bool.and_eq_false_iff,Y4,v,not_false_eq_true,yAi,false_or,ne_eq]at h2;rw[lO c hi];exact h2
 refine⟨hp.ok.set c,λq x a b=>?_,λq o x p a n b d f i hi=>?_⟩
 .rcases get q x a with⟨rfl,rfl⟩|⟨_,h1⟩
  .exact⟨A,y⟩
  .exact hp.lst q x h1 b
 .rcases get q x a with⟨rfl,rfl⟩|⟨hq,h1⟩
  .rcases get o p n with⟨rfl,rfl⟩|⟨m,h2⟩
   .exact absurd rfl f
   .exact key o p h2 d m i hi
  .rcases get o p n with⟨rfl,rfl⟩|⟨m,h2⟩
   .rw[Gc];exact key q x h1 b hq i hi
   .exact hp.ap q o x p h1 h2 b d f i hi
theorem BJ{t:Tem α β}(hc:t.conf.all (uI t)=true){s g:Nat->Nat}{a:Nat}(hs:∀k,k<t.maps.length->s k<gU t k)(j:∀k,k<t.maps.length->g k<gU t k):
 ∀{order:List Nat}{plan p:List (List Int)},(∀k∈order,k<t.maps.length)->PInv t s g a plan->oS (λplan k=>tE t plan k (s k) (g k) a) order plan=some p->
  PInv t s g a p/\(∀k∈order,∃l:List Int,p[k]?=some l/\l≠[])/\∀(k:Nat)(l:List Int),plan[k]?=some l->l≠[]->∃n,p[k]?=some n/\n≠[]
 |[],plan,p,_,hp,h=>by
  simp only[oS,YV]at h;subst h;exact⟨hp,by simp,λk l h1 h2=>⟨l,h1,h2⟩⟩
 |k::r,plan,p,m,hp,h=>by
  have d:=m k (by simp);simp only[oS]at h;split at h
  .rename_i l hb
   have c:l≠[]:=by
    have:=DI hb;intro e;subst e;simp at this
   obtain⟨h1,h2,h3⟩:=BJ hc hs j (λx f=>m x (by simp[f])) (hp.step hc d (hs k d) (j k d) hb) h
   have b:(plan.set k l)[k]?=some l:=by rw[Y1,YY rfl,YY (by rw[hp.ok.1];exact d)]
   refine⟨h1,λq hq=>?_,λq x f i=>?_⟩
   .rcases Zi.1 hq with rfl|hq
    .exact h3 q l b c
    .exact h2 q hq
   .by_cases e:q=k
    .subst e;exact h3 q l b c
    .exact h3 q x (by rw[Y1,YR (λo=>e o.symm)];exact f) i
  .cases h
theorem Gf(h:kI order n=true):∀k,k<n->k∈order.map Int.toNat:=by
 simp only[kI,up,L4,Zw,List.contains_iff_mem]at h;intro k a;exact Zg.2 ⟨_,h.2 k a,rfl⟩
theorem xR(f:List Int->Nat):∀(l:List (List Int))(m:Nat),m<=l.foldl (λm l=>max m (f l)) m/\(∀x∈l,f x<=l.foldl (λm l=>max m (f l)) m)/\(l.foldl (λm l=>max m (f l)) m=m\/∃x∈l,l.foldl (λm l=>max m (f l)) m=f x)
 |[],m=>⟨Y0 _,by simp,.inl rfl⟩
 |a::l,m=>by
  obtain⟨h1,h2,h3⟩:=xR f l (max m (f a));rw[yAh];refine⟨by omega,λx b=>?_,?_⟩
  .rcases Zi.1 b with rfl|b
   .omega
   .exact h2 x b
  .rcases h3 with h3|⟨x,b,h3⟩
   .rw[h3]
    rcases Nat.le_total m (f a)with h|h
    .right;exact⟨a,by simp,by omega⟩
    .left;omega
   .exact .inr ⟨x,by simp[b],h3⟩
structure POk(t:Tem α β)(s g:Nat->Nat)(ticks:Nat)(p:List (List Int)):Prop where
 len:p.length=t.maps.length
 lst:∀(k:Nat)(l:List Int),p[k]?=some l->∃A,LOk t k (s k) (g k) ticks l A
 ap:∀(k k':Nat) l l',p[k]?=some l->p[k']?=some l'->k≠k'->∀i,i<ticks->qR t (fC l k i) (fC l' k' i)=false
theorem tF{t:Tem α β}{a:Int}(h:Ge t starts goals order a=true):fy t=true/\t.conf.all (uI t)=true/\jU t starts=true/\jU t goals=true/\(1<=a/\a<=64)/\kI order t.maps.length=true/\1<=t.maps.length:=by
 simp only[Ge,up,Is]at h;obtain⟨h1,h2,h3,h4,h5,h6⟩:=h;have h7:=h1;simp only[fy,up,Is]at h7;exact⟨h1,h7.2.2.2.2,h2,h3,⟨h4,h5⟩,h6,h7.1⟩
theorem BK{t:Tem α β}{a:Int}(h:oU t starts goals order a=some q):
 Ge t starts goals order a=true/\∃p,q=kr p/\POk t (j0 starts) (j0 goals) a.toNat p:=by
 unfold oU at h;split at h
 .rename_i c
  obtain⟨_,hc,n,m,_,j,_⟩:=tF c;simp only[II]at h;obtain⟨p,hp,rfl⟩:=h
  have init:PInv t (j0 starts) (j0 goals) a.toNat (List.replicate t.maps.length []):=by
   refine⟨t7.init t _,λk l h1 h2=>?_,λk i l f h1 _ h3=>?_⟩
   .exact absurd (List.eq_of_mem_replicate (An h1)) h2
   .exact absurd (List.eq_of_mem_replicate (An h1)) h3
  obtain⟨h1,h2,_⟩:=BJ hc (λk d=>yZ n d) (λk d=>yZ m d) (H1 j) init hp
  have all:∀(k:Nat)(l:List Int),p[k]?=some l->l≠[]:=by
   intro k l b
   have d:k<t.maps.length:=by rw[<-h1.ok.1];exact(th.1 b).1
   obtain⟨f,h3,h4⟩:=h2 k (Gf j k d);rw[b]at h3;injection h3 with h3;subst h3;exact h4
  exact⟨c,p,rfl,h1.ok.1,λk l b=>h1.lst k l b (all k l b),λk i l f b e g=>h1.ap k i l f b e (all k l b) (all i f e) g⟩
 .cases h
theorem BL{t:Tem α β}{b:Int}(h:oU t starts goals order b=some q):
 sO t starts goals q=true/\q.length=t.maps.length/\(∃l,q[0]?=some l/\2<=l.length/\l.length<=b.toNat+1/\q.foldl (λm l=>max m (fY l)) 1=l.length-1):=by
 obtain⟨z,p,rfl,hP⟩:=BK h;obtain⟨v,_,K,I,V,_,y⟩:=tF z;have hL:=xR fY p 1;have d:fZ p=p.foldl (λm l=>max m (fY l)) 1:=rfl;rw[<-d]at hL;obtain⟨Q,s,G⟩:=hL
 have u:fZ p<=b.toNat:=by
  rcases G with h|⟨x,r,h⟩
  .omega
  .obtain⟨k,c⟩:=Z6.1 r
   obtain⟨A,f⟩:=hP.lst k x c;rw[h,f.arr];exact f.le
 have get:∀k,k<t.maps.length->∃(l:List Int)(A:Nat),p[k]?=some l/\(kr p)[k]?=some (l.take (fZ p+1))/\LOk t k (j0 starts k) (j0 goals k) b.toNat l A/\A<=fZ p:=by
  intro k c;have n:p[k]?=some (p[k]'(by rw[hP.len];exact c)):=an _;obtain⟨A,f⟩:=hP.lst k _ n;refine⟨_,A,n,by rw[kr,YS,n];rfl,f,?_⟩;have:=s _ (An n);rw[f.arr]at this;exact this
 have e:∀{l:List Int},l.length=b.toNat+1->(l.take (fZ p+1)).length=fZ p+1:=by
  intro l n;rw[ZA];omega
 have hq:(kr p).length=t.maps.length:=by rw[kr,Zm,hP.len]
 obtain⟨W,U,R,B,H,P⟩:=get 0 y;have g:=e H.len
 have C:∀{l:List Int}{k tick:Nat},l.length=b.toNat+1->tick<fZ p->fC (l.take (fZ p+1)) k tick=fC l k tick:=by
  intro l k tick n j;rw[lO n (by omega),lO (e n) j,List.getElem?_take_of_lt (by omega),List.getElem?_take_of_lt (by omega)]
 refine⟨?_,hq,_,B,by rw[g];omega,by rw[g];omega,?_⟩
 .have L:starts.length=t.maps.length:=by simp only[jU,up,Is]at K;exact K.1
  have J:goals.length=t.maps.length:=by simp only[jU,up,Is]at I;exact I.1
  have o:∀{at_:List Int},jU t at_=true->∀k,k<t.maps.length->(((j0 at_ k:Nat):Int))=(at_[k]?).getD 0:=by
   intro at_ h k c;simp only[jU,up,Is,L4,Zw]at h;have:=h.2 k (by omega);rw[dV]at this;unfold j0;omega
  simp only[sO,B,Y8,g,up,Is,L4,Zw,hq];refine⟨v,L,J,trivial,by omega,by omega,λk c=>?_,λtick M k c=>?_⟩
  .obtain⟨l,A,h1,h2,h3,h4⟩:=get k c
   simp only[il,h2,Y8,e h3.len,yAz,Zf,up,ZH];rw[List.getElem?_take_of_lt (by omega),h3.st,List.getElem?_take_of_lt (by omega),Nat.add_sub_cancel,h3.goal _ h4 u,Y8,Y8,o K k c,o I k c];exact⟨rfl,rfl⟩
  .have j:tick<fZ p:=by omega
   obtain⟨l,A,h1,h2,h3,h4⟩:=get k c;simp only[ga,h2,Y8,C h3.len j,up,L4,Zw];refine⟨?_,λi hi=>?_⟩
   .rw[lO h3.len (by omega)];exact h3.leg tick (by omega)
   .obtain⟨S,T,D,E,F,O⟩:=get i (by omega)
    rw[E,Y8,C F.len j,hP.ap k i l S h1 D (by omega) tick (by omega)];rfl
 .rw[g,Nat.add_sub_cancel,d]
  have:∀(l:List (List Int))(m:Nat),(∀x∈l,fY (x.take (fZ p+1))=fY x)->(l.map (List.take (fZ p+1))).foldl (λm l=>max m (fY l)) m=l.foldl (λm l=>max m (fY l)) m:=by
   intro l
   induction l with
   |nil=>intro m _;rfl
   |cons a l ih=>
    intro m r;rw[Z0,yAh,yAh,r a (by simp)];exact ih _ λx N=>r x (by simp[N])
  unfold kr;refine this p 1 λx r=>?_;obtain⟨k,c⟩:=Z6.1 r;obtain⟨A,f⟩:=hP.lst k x c;have:=s x r;rw[f.arr]at this;rw[f.arr,f.arrT _ this u]
end
section
variable {α β:Type}
theorem jA{n:Nat}:∀{es:List (Edg α)}{d v0:Int},eH n d v0 es=true->(∀e∈es,t6 n e=true/\(d<e.u\/(d=e.u/\v0<e.v)))/\∀(i j:Nat) e f,es[i]?=some e->es[j]?=some f->i<j->e.u<f.u\/(e.u=f.u/\e.v<f.v)
 |[],_,_,_=>⟨by simp,λi j e f h=>by simp at h⟩
 |e::r,d,v0,h=>by
  simp only[eH,up,Zv,Z5,Y4,Bool.and_eq_false_iff,ZW]at h;obtain⟨h1,⟨h2,h3⟩,h4⟩:=h;obtain⟨h5,h6⟩:=jA h4
  have l:d<e.u\/(d=e.u/\v0<e.v):=by
   by_cases k:e.u=d
   .right;refine⟨k.symm,?_⟩
    rcases h3 with h3|h3
    .exact absurd k h3
    .omega
   .left;omega
  refine⟨λx c=>?_,λi j x y c g m=>?_⟩
  .rcases Zi.1 c with rfl|c
   .exact⟨h1,l⟩
   .obtain⟨a,b⟩:=h5 x c
    exact⟨a,by omega⟩
  .cases j with
   |zero=>omega
   |succ j=>
    simp only[yAN]at g
    cases i with
    |zero=>
     simp only[Z4,YV]at c;subst c;exact(h5 y (An g)).2
    |succ i=>exact h6 i j x y (by simpa using c) g (by omega)
end
end Go.Ab
