/- The contracts and facts that the laws of this seat need, in one text (ClA). -/
import Derived.Test.YtfpagjchfipjkaaGreatV11
import Derived.ReadAgain
import Derived.ChangeBears
import Derived.ChangeArms
import Derived.ChangeSame
import Derived.OpenShut
import Derived.Deep.Frames
import Derived.ProofKit
import Derived.JoinedCond
import Derived.JoinedOf
set_option linter.all false
set_option maxRecDepth 10000
namespace Go.Ab
open IntKind (i64)
open Go.ChangeShapes Go.WideShapes
mutual
def je{H:Type}:DataW H->List PV
 |.lit (.bool b)=>[.val (.bool b)]
 |.lit (.int k n)=>[.val (.int k n)]
 |.lit (.float k b)=>[.val (.float k b)]
 |.lit (.string s)=>[.val (.string ⟨s.toArray⟩)]
 |.lit .nil=>[.sl []]
 |.nil=>[.sl []]
 |.slice es _=>[.sl (Bc es)]
 |.agg a=>Hc a
 |_=>[]
def Bc{H:Type}:List (DataW H)->List PV
 |[]=>[]
 |d::r=>iC d::Bc r
def Hc{H:Type}:List (DataW H)->List PV
 |[]=>[]
 |d::r=>je d++Hc r
def iC{H:Type}:DataW H->PV
 |.lit (.bool b)=>.val (.bool b)
 |.lit (.int k n)=>.val (.int k n)
 |.lit (.float k b)=>.val (.float k b)
 |.lit (.string s)=>.val (.string ⟨s.toArray⟩)
 |.slice es _=>.sl (Bc es)
 |.agg a=>j5 (Hc a)
 |_=>.sl []
end
variable {handsOn:Bool}{s:ChangeSpec}{w':World}
def i5(P:Program):Nat->TypeId->Bool
 |0,_=>false
 |n+1,t=>match P.underlying t with
  |some .bool=>true
  |some (.int _)=>true
  |some .string=>true
  |some (.slice e)=>i5 P n e&&decide (0<P.cellsOf e)
  |_=>false
def ju{H:Type}(P:Program):Nat->TypeId->DataW H->Prop
 |0,_,_=>False
 |n+1,t,d=>match P.underlying t with
  |some .bool=>∃b,d=.lit (.bool b)
  |some (.int k)=>∃i,d=.lit (.int k i)/\(Lit.int k i).wf=true
  |some .string=>∃s,d=.lit (.string s)
  |some (.slice e)=>d=.nil\/∃es sp,d=.slice es sp/\es.length<=maxLen/\∀x∈es,ju P n e x
  |_=>False
abbrev td:Nat->Nat->Prop:=λ_ _=>False
theorem Oh{H:Type}(ds:List (DataW H)):Bc ds=ds.map iC:=by
 induction ds with
 |nil=>simp[Bc]
 |cons d r ih=>simp[Bc,ih]
theorem E2{H:Type}(ds:List (DataW H)):Hc ds=ds.flatMap je:=by
 induction ds with
 |nil=>simp[Hc]
 |cons d r ih=>simp[Hc,ih]
theorem bn.append{w:World}{M:Nat->Nat->Prop}{ps qs:List PV}{us vs:List Value}(h:bn w M ps us)(h':bn w M qs vs):bn w M (ps++qs) (us++vs):=by
 refine⟨by simp[h.1,h'.1],λi p u hp a=>?_⟩;by_cases hi:i<ps.length
 .rw[YT hi]at hp
  rw[YT (by have:=h.1;omega)]at a;exact h.2 i p u hp a
 .rw[YX (by omega)]at hp
  rw[YX (by have:=h.1;omega)]at a;refine h'.2 _ p u hp ?_;rw[h.1];exact a
section
variable {H:Type} {enc:TypeId×Value->H} {P:Program} {w:World} {base:Nat} {spare:Nat->Bool} {held:Bool}
theorem Lx(K:Kids P (·< P.types.size)):∀(n m:Nat)(t:TypeId)(cs:List Value)(x:DataW H×List MemPlace),t<P.types.size->i5 P m t=true->
 DataW.trod enc P w base spare held n t cs=some x->bn w td (je x.1) cs/\ju P n t x.1/\(iC x.1).cells=je x.1:=by
 intro n
 induction n with
 |zero=>intro m t cs x _ _ h;simp[DataW.trod]at h
 |succ n ih=>
  intro m t cs x Q B h
  cases m with
  |zero=>simp[i5]at B
  |succ m=>
  have ad:=B;simp only[i5]at B;have one:∀{p:PV}{u:Value},Rep w td p u->bn w td [p] [u]:=λhq=>.cons hq .nil
  cases l:P.underlying t with
  |none=>rw[l]at B;simp at B
  |some u=>
  rw[l]at B
  cases u with
  |bool=>
   unfold DataW.trod at h;rw[l]at h;split at h<;>simp_all;subst h;simp only[je,iC,ju,l];exact⟨one (.val _),⟨_,rfl⟩,by simp[PV.cells,Value.cells]⟩
  |int k=>
   obtain⟨i,rfl,rfl,X⟩:=DataW.trod_int l h;simp only[je,iC,ju,l];exact⟨one (.val _),⟨i,rfl,X⟩,by simp[PV.cells,Value.cells]⟩
  |string=>
   obtain⟨s,rfl,rfl,X⟩:=DataW.trod_string l h
   have e:(⟨s.data.toList.toArray⟩:ByteArray)=s:=by cases s;simp
   simp only[je,iC,ju,l];rw[e];exact⟨one (.val _),⟨_,rfl⟩,by simp[PV.cells,Value.cells]⟩
  |slice e=>
   simp only[up,Is]at B;have R:=K.slice Q l;rcases DataW.trod_slice l h with⟨rfl,rfl⟩|⟨a,len,cap,elems,rest,k,W,rfl,rfl,hb,hl,ah,z,S,ak,aj⟩
   .simp only[je,iC,ju,l]
    exact⟨one (.sl0 _ _),.inl trivial,by simp[PV.cells]⟩
   .obtain rfl:k=n:=by omega
    have each:∀i y,elems[i]?=some y->∃g,w.cells? base (a.add (i*P.cellsOf e)) (P.cellsOf e)=some g/\bn w td (je y.1) g/\ju P k e y.1/\(iC y.1).cells=je y.1:=by
     intro i y c
     have hi:i<len:=by rw[<-z];exact(th.1 c).1
     have:=S i hi;rw[c,Option.bind_eq_some_iff]at this;obtain⟨g,h1,h2⟩:=this;exact⟨g,h1,ih m e g y R B.1 h2⟩
    simp only[je,iC,ju,l];refine⟨one ?_,.inr ⟨_,_,rfl,by simp only[Zm];omega,?_⟩,by simp[PV.cells]⟩
    .rw[Oh,List.map_map]
     cases D:elems with
     |nil=>subst D;simp at z;subst z;exact .sl0 _ _
     |cons y0 ys=>
      have Z:elems[0]?=some y0:=by rw[D];rfl
      rw[<-D]
      have G:a.spot=none:=by
       obtain⟨g,h1,h2,_,_⟩:=each 0 y0 Z;obtain⟨_,h3,h4⟩:=World.cells?_some h1;have h5:=h4 0 B.2;have h6:g[0]?=some g[0]:=an (by omega);rw[h6]at h5
       have Y:((a.add (0*P.cellsOf e)).add 0)=a:=by simp[Addr.add]
       rw[Y]at h5;unfold World.cell? at h5;split at h5
       .split at h5
        .cases h5
        .rename_i hs;cases N:a.spot with
         |none=>rfl
         |some _=>simp[N]at hs
       .cases h5
      obtain⟨b,o,sp⟩:=a;simp only at G;subst G
      have C:∀i y,elems[i]?=some y->∀j p,(je y.1)[j]?=some p->∃v,w.cell? ⟨b,o+(i*P.cellsOf e+j),none⟩=some v/\Rep w td p v:=by
       intro i y c j p hp;obtain⟨g,h1,h2,_,_⟩:=each i y c;obtain⟨_,h3,h4⟩:=World.cells?_some h1;have T:j<(je y.1).length:=(th.1 hp).1
       have U:j<g.length:=by rw[<-h2.1];exact T
       have h5:=h4 j (by omega);have h6:g[j]?=some g[j]:=an U;rw[h6,fo,fo]at h5;exact⟨_,by rw[<-Nat.add_assoc];exact h5,h2.2 j p _ hp h6⟩
      have F:(elems.map (iC∘λx=>x.1)).length=len:=by simp[z]
      have E:=Rep.sl (w:=w) (M:=td) (elems.map (iC∘λx=>x.1)) b o cap (P.cellsOf e) (λi j=>(w.cell? ⟨b,o+(i*P.cellsOf e+j),none⟩).getD default) (by rw[F];exact hl)
       (by
         intro i x A;simp only[YS,II]at A;obtain⟨y,c,rfl⟩:=A;obtain⟨g,h1,h2,_,h3⟩:=each i y c;obtain⟨_,h4,_⟩:=World.cells?_some h1;simp only[Function.comp]
         rw[h3,h2.1,h4])
       (by
         intro i x j p A hp;simp only[YS,II]at A;obtain⟨y,c,rfl⟩:=A;obtain⟨_,_,_,_,h3⟩:=each i y c;simp only[Function.comp]at hp;rw[h3]at hp;obtain⟨v,V,_⟩:=C i y c j p hp
         simp[V,td])
       (by
         intro i x j p A hp;simp only[YS,II]at A;obtain⟨y,c,rfl⟩:=A;obtain⟨_,_,_,_,h3⟩:=each i y c;simp only[Function.comp]at hp;rw[h3]at hp;obtain⟨v,V,hr⟩:=C i y c j p hp
         simpa[V]using hr)
      rw[F]at E;exact E
    .intro x A
     obtain⟨y,c,rfl⟩:=Zg.1 A;obtain⟨i,hi⟩:=Zq c;obtain⟨_,_,_,hf,_⟩:=each i y hi;exact hf
  |_=>simp at B
theorem Ly(K:Kids P (·< P.types.size)){m:Nat}{t:TypeId}{v:Value}{d:DataW H}{ps:List MemPlace}{W:World}{r:Reach}{b0:Nat}(s:t<P.types.size)(f:i5 P m t=true)
 (a:Value.okWide P W r b0 t v)(h:DataW.Trod enc P w base spare held t v d ps):Rep w td (iC d) v/\∃n,ju P n t d:=by
 obtain⟨n,hn⟩:=h;obtain⟨h1,h2,h3⟩:=Lx K n m t _ _ s f hn;refine⟨?_,n,h2⟩
 cases n with
 |zero=>simp[DataW.trod]at hn
 |succ n=>
 cases m with
 |zero=>simp[i5]at f
 |succ m=>
 simp only[i5]at f
 cases c:P.underlying t with
 |none=>rw[c]at f;simp at f
 |some u=>
 rw[c]at f
 have one:∀{p:PV},je d=[p]->iC d=p->v.cells.toList=[v]->Rep w td (iC d) v:=by
  intro p l o q;rw[l,q]at h1;obtain⟨u,z,e,x,_⟩:=h1.cons_inv;injection e with e _;rw[o,e];exact x
 simp only[Value.okWide,c]at a;simp only[ju,c]at h2
 cases u with
 |bool=>
  obtain⟨b,rfl⟩:=h2
  have:v.cells.toList=[v]:=by simp only[Cell.okWide,c]at a;cases v<;>simp_all[Cell.ok,Value.cells]
  exact one (by simp[je];rfl) (by simp[iC]) this
 |int k=>
  obtain⟨i,rfl,_⟩:=h2
  have:v.cells.toList=[v]:=by simp only[Cell.okWide,c]at a;cases v<;>simp_all[Cell.ok,Value.cells]
  exact one (by simp[je];rfl) (by simp[iC]) this
 |string=>
  obtain⟨i,rfl⟩:=h2
  have:v.cells.toList=[v]:=by simp only[Cell.okWide,c]at a;cases v<;>simp_all[Cell.ok,Value.cells]
  exact one (by simp[je];rfl) (by simp[iC]) this
 |slice e=>
  have:v.cells.toList=[v]:=by simp only[Cell.okWide,c]at a;cases v<;>simp_all[Cell.ok,Value.cells]
  rcases h2 with rfl|⟨es,sp,rfl,_⟩
  all_goals exact one (by simp[je];rfl) (by simp[iC]) this
 |_=>simp at f
end
open Go.ChangeAt Go.RowKit
def xe{H:Type}(P:Program):List TypeId->List (DataW H)->Prop
 |[],[]=>True
 |t::b,d::a=>(∃n,ju P n t d)/\xe P b a
 |_,_=>False
section
variable {H:Type} {enc:TypeId×Value->H} {P:Program} {w:World} {base:Nat} {spare:Nat->Bool} {held:Bool}
theorem zt(K:Kids P (·< P.types.size)){W:World}{r:Reach}{b0:Nat}:∀{e:List TypeId}{vs:List Value}{ds:List (DataW H)}{ps:List MemPlace},(∀t∈e,t<P.types.size/\i5 P 20 t=true)->
 (∀(j:Nat) t v,e[j]?=some t->vs[j]?=some v->Value.okWide P W r b0 t v)->DataW.TrodAll enc P w base spare held e vs ds ps->
 xe P e ds/\vs.length=ds.length/\ds.length=e.length/\∀(i:Nat) d v,ds[i]?=some d->vs[i]?=some v->Rep w td (iC d) v
 |[],vs,ds,ps,_,_,h=>by
  obtain⟨rfl,rfl,rfl⟩:=trodAll_nil h;exact⟨trivial,rfl,rfl,λi d v h=>by simp at h⟩
 |t::e,vs,ds,ps,hp,f,h=>by
  obtain⟨v,y,d,k,a,b,rfl,rfl,rfl,h1,h2⟩:=trodAll_cons h;obtain⟨m,n⟩:=hp t (by simp);obtain⟨s,f1⟩:=Ly K m n (f 0 t v rfl rfl) h1;obtain⟨f2,p,q,u⟩:=zt K (λt o=>hp t (by simp[o])) (λj t v h l=>f (j+1) t v (by simpa using h) (by simpa using l)) h2;refine⟨⟨f1,f2⟩,by simp[p],by simp[q],λi g x hd c=>?_⟩
  cases i with
  |zero=>simp at hd c;subst hd;subst c;exact s
  |succ i=>exact u i g x (by simpa using hd) (by simpa using c)
theorem Ext.sameAt{w:World}(h:Ext (·∈([]:List Nat)) w w'){p:MemPlace}(hp:p.block<w.heap.size):w.sameAt w' p:=by
 cases p with
 |cell b o=>exact h.cell hp (by simp)
 |map b=>exact h.block b hp (by simp)
theorem Ext.kept{w:World}(h:Ext (·∈([]:List Nat)) w w')(a:MemPlace->Prop):w.keptBut w' a:=by
 refine⟨h.os,h.output,λi hi=>?_⟩;rw[h.block i hi (by simp)];have:w.heap[i]?=some w.heap[i]:=Zy hi;rw[this]
 cases w.heap[i]with
 |cells c t b=>exact⟨rfl,rfl,rfl,λ_ _=>rfl⟩
 |map es clock=>exact Or.inr ⟨rfl,rfl⟩
 |_=>rfl
theorem wh{w w':World}:∀{c:List TypeId}{vs:List Value}{ds:List (DataW H)}{ps:List MemPlace},DataW.TrodAll enc P w base spare held c vs ds ps->(∀p∈ps,w.sameAt w' p)->DataW.TrodAll enc P w' base spare held c vs ds ps
 |[],vs,ds,ps,h,_=>by
  obtain⟨rfl,rfl,rfl⟩:=trodAll_nil h;exact trodAll_mk0
 |t::c,vs,ds,ps,h,e=>by
  obtain⟨v,g,d,f,a,b,rfl,rfl,rfl,⟨n,h1⟩,h2⟩:=trodAll_cons h;exact⟨a,b,⟨n,DataW.trod_carry n _ _ _ h1 (λp hp=>e p (by simp at hp|-;exact .inl hp))⟩,wh h2 (λp hp=>e p (by simp[hp])),rfl⟩
theorem GJ{w:World}(h:Ext (·∈([]:List Nat)) w w'){a:Addr}(ha:a.block<w.heap.size):w'.frozen? a=w.frozen? a:=by
 unfold World.frozen?;rw[h.block _ ha (by simp)]
theorem J5{f:Func}{apart fresh again:Bool}{W k:World}{args:Array Value}{v:Value}{ds l:List (DataW H)}{before pa pv:List MemPlace}
 (o:DataW.Whole enc P f.params.toList s.vars apart W args.toList ds l before)
 (i:∀(b:Nat)(sp:Nat->Bool)(hd:Bool),DataW.TrodAll enc P k b sp hd f.resultTypes.toList (v.resultList f.resultTypes.size) (s.fn H (ds++l)).results [])
 (c:∀sp:Nat->Bool,(∀p∈before,sp p.block=true)->DataW.TrodAll enc P k 0 sp true f.params.toList args.toList (s.fn H (ds++l)).args pa)
 (d:∀sp:Nat->Bool,(∀p∈before,sp p.block=true)->DataW.TrodVars enc P k sp s.vars (s.fn H (ds++l)).vars pv)
 (e:before=pa++pv)(y:W.keptBut k (·∈before))(q:∀a:Addr,a.block<W.heap.size->k.frozen? a=W.frozen? a)
 (u:∀(j:Nat)(t:TypeId)(r:Value),f.resultTypes[j]?=some t->(v.resultList f.resultTypes.size)[j]?=some r->Value.okWide P k .any 0 t r):
 s.post enc P f apart fresh handsOn again W args v k:=by
 have m:∀p∈before,p.block<W.heap.size:=o.lt
 have g:∀p∈before,(λb=>decide (b<W.heap.size)) p.block=true:=λp hp=>by simpa using m p hp
 refine⟨ds,l,before,[],pa,pv,o,i _ _ _,c _ g,d _ g,World.keptBut_mono (λp hp=>⟨hp,?_⟩) y,λ_=>?_⟩
 .rw[e,Y7]at hp
  exact Or.inr hp
 .obtain⟨_,_,_,_,_,z,hn⟩:=o
  refine⟨u,_,_,([]++pa)++pv,⟨[]++pa,pv,trodAll_append (c _ (λ_ _=>rfl)) (i _ _ _),d _ (λ_ _=>rfl),rfl,?_,?_⟩,?_⟩
  .intro b n hp
   have x:MemPlace.cell b n∈before:=by rw[e];simpa using hp
   rw[q _ (m _ x)];exact z b n x
  .intro ha
   have:=hn ha;rw[e]at this;simpa using this
  .intro p hp _
   rw[e];simpa using hp
theorem E3{f:FuncId}{fn:Func}{tb:TypeId}{apart fresh again:Bool}(K:Kids P (·< P.types.size))(full:∀t e,t<P.types.size->P.underlying t=some (.slice e)->0<P.cellsOf e)
 (r:(fn.params.toList.all λt=>decide (t<P.types.size)&&i5 P 20 t)=true)(k:fn.resultTypes=#[tb])(A:P.underlying tb=some .bool)(l:s.vars=[])
 (W:World)(base:Nat)(args:Array Value)(ds R:List (DataW H))(before:List MemPlace)
 (B:∀(j:Nat) t v,fn.params[j]?=some t->args[j]?=some v->Value.okWide P W .any base t v)
 (Q:DataW.Whole enc P fn.params.toList s.vars apart W args.toList ds R before)
 (m:xe P fn.params.toList ds->s.fn H ds={results:=[.lit (.bool true)],args:=ds})
 (y:xe P fn.params.toList ds->aS P f (ds.map λd=>.pv (iC d)) [] [] (.pv (.val (.bool true)))):
 Calls P f args W λe C=>∃v,e=.returned v/\s.post enc P fn apart fresh handsOn again W args v C:=by
 have o:∀t∈fn.params.toList,t<P.types.size/\i5 P 20 t=true:=λt L=>by
  have:=L4.1 r t L;simpa using this
 have x:=Q;obtain⟨p,q,N,O,rfl,U,X⟩:=Q;rw[l]at O;obtain⟨rfl,rfl⟩:=trodVars_none O;obtain⟨n,E,V,z⟩:=zt K o (λj t v h S=>B j t v (by simpa using h) (by simpa using S)) N;obtain⟨D,_,hc⟩:=y n
 have c:s.fn H (ds++[])={results:=[.lit (.bool true)],args:=ds}:=by rw[yAJ];exact m n
 have G:∀u∈p++[],u.block<W.heap.size:=λu g=>x.lt u g
 have:=hc W td [] args.toList (λ_ _ h=>h.elim) rfl List.nodup_nil (λi b ps h=>by simp at h) (by simp[E]) (by
  intro i a v ha Z;simp only[YS,II]at ha;obtain⟨d,hd,rfl⟩:=ha
  exact z i d v hd Z)
 simp only[Array.toArray_toList]at this;refine this.mono λe C ⟨v,T,M,_,Y⟩=>⟨v,T,?_⟩;have I:Rep C td (.val (.bool true)) v:=Y;cases I
 have F:fn.resultTypes.size=1:=by rw[k];rfl
 refine J5 (pa:=p) (pv:=[]) x (λb sp hd=>?_) (λsp J=>?_) (λsp _=>?_) rfl (M.kept _) (λa ha=>GJ M ha) ?_
 .rw[c,k]
  exact trodAll_cons_mk (shut_bool A true) trodAll_mk0
 .rw[c]
  exact(wh (N.respare K full (λt L=>(o t L).1) (λu g=>J u (by simp[g]))) (λu g=>M.sameAt (G u (by simp[g]))))
 .rw[l,c];rfl
 .exact ok_one k rfl (okWide_bool_mk A true)
end
end Go.Ab
namespace Go.Ab
open IntKind (i64)
mutual
def E4{H:Type}:DataW H->Nat
 |.lit (.string bytes)=>bytes.length+1
 |.lit _=>1
 |.nil=>1
 |.slice elems spare=>yx elems+yx spare+1
 |.agg parts=>yx parts+1
 |_=>1
def yx{H:Type}:List (DataW H)->Nat
 |[]=>0
 |d::r=>E4 d+yx r
end
section
variable {H:Type} {P:Program}
def Xb(P:Program)(t:TypeId)(d:DataW H):Prop:=∃n,ju P n t d
def Bd(H:Type)(P:Program)(t:TypeId){α:Type}(e:α->PV)(Q:α->Prop)(sz:α->Nat):Prop:=∀d:DataW H,Xb P t d->∃a,iC d=e a/\Q a/\sz a<=E4 d
theorem J6{t:TypeId}{k:IntKind}(b:P.underlying t=some (.int k)):Bd H P t (λi=>.val (.int k i)) (λi=>k.min<=i/\i<=k.max) (λ_=>1):=by
 rintro d ⟨n,h⟩
 cases n with
 |zero=>exact h.elim
 |succ n=>
  simp only[ju,b]at h;obtain⟨i,rfl,a⟩:=h;simp only[Lit.wf,up,Is]at a;exact⟨i,by simp[iC],a,by simp[E4]⟩
theorem GK{t i:TypeId}{α:Type}{e:α->PV}{Q:α->Prop}{sz:α->Nat}(k:P.underlying t=some (.slice i))(h:Bd H P i e Q sz):
 Bd H P t (λl:List α=>.sl (l.map e)) (λl=>l.length<=9223372036854775807/\∀a∈l,Q a) (λl=>(l.map sz).sum+1):=by
 rintro d ⟨n,hf⟩
 cases n with
 |zero=>exact hf.elim
 |succ n=>
  simp only[ju,k]at hf;rcases hf with rfl|⟨es,sp,rfl,b,f⟩
  .exact⟨[],by simp[iC],by simp,by simp[E4]⟩
  .have c:∀es:List (DataW H),(∀x∈es,ju P n i x)->∃l:List α,Bc es=l.map e/\l.length=es.length/\(∀a∈l,Q a)/\(l.map sz).sum<=yx es:=by
    intro es
    induction es with
    |nil=>intro _;exact⟨[],by simp[Bc],rfl,by simp,by simp⟩
    |cons x r ih=>
     intro j;obtain⟨l,h1,g,h2,h3⟩:=ih (λy m=>j y (by simp[m]));obtain⟨a,g1,g2,g3⟩:=h x ⟨n,j x (by simp)⟩;refine⟨a::l,by simp[Bc,h1,g1],by simp[g],by simpa using⟨g2,h2⟩,?_⟩;simp only[Z0,List.sum_cons,yx];omega
   obtain⟨l,h1,g,h2,h3⟩:=c es f;refine⟨l,by simp[iC,h1],⟨by rw[g];exact b,h2⟩,?_⟩;simp only[E4];omega
end
end Go.Ab
