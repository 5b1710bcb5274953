/- The contracts and facts that the laws of this seat need, in one text (ClA). -/
import Derived.Test.YtfpagjchfipjkaaGreatU11
import Derived.ReadAgain
import Derived.ChangeBears
import Derived.ChangeArms
import Derived.ChangeSame
import Derived.OpenShut
import Derived.Deep.Frames
import Derived.ProofKit
import Derived.JoinedCond
import Derived.JoinedOf
set_option linter.all false
set_option maxRecDepth 10000
namespace Go.Ab
open IntKind (i64)
open Go.ChangeShapes Go.WideShapes
mutual
def eU{H:Type}:DataW H->List PV
 |.lit (.bool b)=>[.val (.bool b)]
 |.lit (.int k n)=>[.val (.int k n)]
 |.lit (.float k b)=>[.val (.float k b)]
 |.lit (.string s)=>[.val (.string ⟨s.toArray⟩)]
 |.lit .nil=>[.sl []]
 |.nil=>[.sl []]
 |.slice es _=>[.sl (A2 es)]
 |.agg a=>sY a
 |_=>[]
def A2{H:Type}:List (DataW H)->List PV
 |[]=>[]
 |d::r=>eo d::A2 r
def sY{H:Type}:List (DataW H)->List PV
 |[]=>[]
 |d::r=>eU d++sY r
def eo{H:Type}:DataW H->PV
 |.lit (.bool b)=>.val (.bool b)
 |.lit (.int k n)=>.val (.int k n)
 |.lit (.float k b)=>.val (.float k b)
 |.lit (.string s)=>.val (.string ⟨s.toArray⟩)
 |.slice es _=>.sl (A2 es)
 |.agg a=>fE (sY a)
 |_=>.sl []
end
variable {handsOn:Bool}{s:ChangeSpec}{w':World}
def iZ(P:Program):Nat->TypeId->Bool
 |0,_=>false
 |n+1,t=>match P.underlying t with
  |some .bool=>true
  |some (.int _)=>true
  |some .string=>true
  |some (.slice e)=>iZ P n e&&decide (0<P.cellsOf e)
  |some (.struct a)=>a.toList.all λf=>iZ P n f.type
  |some (.array _ e)=>iZ P n e
  |_=>false
def f8{H:Type}(P:Program):Nat->TypeId->DataW H->Prop
 |0,_,_=>False
 |n+1,t,d=>match P.underlying t with
  |some .bool=>∃b,d=.lit (.bool b)
  |some (.int k)=>∃i,d=.lit (.int k i)/\(Lit.int k i).wf=true
  |some .string=>∃s,d=.lit (.string s)
  |some (.slice e)=>d=.nil\/∃es sp,d=.slice es sp/\es.length<=maxLen/\∀x∈es,f8 P n e x
  |some (.struct c)=>∃a,d=.agg a/\a.length=c.size/\∀(i:Nat) f x,c[i]?=some f->a[i]?=some x->f8 P n f.type x
  |some (.array m e)=>∃a,d=.agg a/\a.length=m/\∀x∈a,f8 P n e x
  |_=>False
abbrev sZ:Nat->Nat->Prop:=λ_ _=>False
theorem Oj{H:Type}(ds:List (DataW H)):A2 ds=ds.map eo:=by
 induction ds with
 |nil=>simp[A2]
 |cons d r ih=>simp[A2,ih]
theorem EU{H:Type}(ds:List (DataW H)):sY ds=ds.flatMap eU:=by
 induction ds with
 |nil=>simp[sY]
 |cons d r ih=>simp[sY,ih]
theorem bp.append{w:World}{M:Nat->Nat->Prop}{ps b:List PV}{us vs:List Value}(h:bp w M ps us)(h':bp w M b vs):bp w M (ps++b) (us++vs):=by
 refine⟨by simp[h.1,h'.1],λi p u hp a=>?_⟩;by_cases hi:i<ps.length
 .rw[Y8 hi]at hp
  rw[Y8 (by have:=h.1;omega)]at a;exact h.2 i p u hp a
 .rw[Zc (by omega)]at hp
  rw[Zc (by have:=h.1;omega)]at a;refine h'.2 _ p u hp ?_;rw[h.1];exact a
theorem wX{H α:Type}{w:World}{M:Nat->Nat->Prop}{g:α->List Value}:∀{fs:List α}{ds:List (DataW H)},fs.length=ds.length->
 (∀(i:Nat) f d,fs[i]?=some f->ds[i]?=some d->bp w M (eU d) (g f))->bp w M (ds.flatMap eU) (fs.flatMap g)
 |[],[],_,_=>by simpa using bp.nil
 |f::fs,d::ds,a,h=>by
  simp only[List.flatMap_cons];exact(h 0 f d rfl rfl).append (wX (by simpa using a) (λi c b h1 e=>h (i+1) c b (by simpa using h1) (by simpa using e)))
 |[],_::_,a,_=>by simp at a
 |_::_,[],a,_=>by simp at a
theorem Qd{cs:List Value}(cell:Field->Nat):∀(fs:List Field)(o:Nat),(∀(j:Nat) f,fs[j]?=some f->f.offset=o+((fs.take j).map cell).sum)->cs.length=o+(fs.map cell).sum->
 cs.drop o=fs.flatMap λf=>(cs.drop f.offset).take (cell f)
 |[],o,_,a=>by simp at a;simp[List.drop_of_length_le (by omega:cs.length<=o)]
 |f::fs,o,h,a=>by
  have c:f.offset=o:=by simpa using h 0 f rfl
  have ih:=Qd (cs:=cs) cell fs (o+cell f) (λj b d=>by
   have:=h (j+1) b (by simpa using d);simp only[List.take_succ_cons,yAf,List.sum_cons]at this
   omega) (by simp only[yAf,List.sum_cons]at a;omega)
  simp only[List.flatMap_cons];rw[<-ih,c,<-List.drop_drop,Z5]
theorem Nt{cs:List Value}(c:Nat):∀(n o:Nat),cs.length=o*c+n*c->cs.drop (o*c)=(List.range' o n).flatMap λi=>(cs.drop (i*c)).take c
 |0,o,a=>by simp;omega
 |n+1,o,a=>by
  have ih:=Nt c n (o+1) (by rw[a,ZO,ZO];omega);simp only[List.range'_succ,List.flatMap_cons];rw[<-ih,ZO,Nat.one_mul,<-List.drop_drop,Z5]
section
variable {H:Type} {enc:TypeId×Value->H} {P:Program} {w:World} {base:Nat} {spare:Nat->Bool} {held:Bool}
theorem Lq(K:Kids P (·< P.types.size)):∀(n m:Nat)(t:TypeId)(cs:List Value)(x:DataW H×List MemPlace),t<P.types.size->iZ P m t=true->
 DataW.trod enc P w base spare held n t cs=some x->bp w sZ (eU x.1) cs/\f8 P n t x.1/\(eo x.1).cells=eU x.1:=by
 intro n
 induction n with
 |zero=>intro m t cs x _ _ h;simp[DataW.trod]at h
 |succ n ih=>
  intro m t cs x T B h
  cases m with
  |zero=>simp[iZ]at B
  |succ m=>
  have ad:=B;simp only[iZ]at B;have one:∀{p:PV}{u:Value},Rep w sZ p u->bp w sZ [p] [u]:=λhq=>.cons hq .nil
  cases l:P.underlying t with
  |none=>rw[l]at B;simp at B
  |some u=>
  rw[l]at B
  cases u with
  |bool=>
   unfold DataW.trod at h;rw[l]at h;split at h<;>simp_all;subst h;simp only[eU,eo,f8,l];exact⟨one (.val _),⟨_,rfl⟩,by simp[PV.cells,Value.cells]⟩
  |int k=>
   obtain⟨i,rfl,rfl,hw⟩:=DataW.trod_int l h;simp only[eU,eo,f8,l];exact⟨one (.val _),⟨i,rfl,hw⟩,by simp[PV.cells,Value.cells]⟩
  |string=>
   obtain⟨s,rfl,rfl,hw⟩:=DataW.trod_string l h
   have e:(⟨s.data.toList.toArray⟩:ByteArray)=s:=by cases s;simp
   simp only[eU,eo,f8,l];rw[e];exact⟨one (.val _),⟨_,rfl⟩,by simp[PV.cells,Value.cells]⟩
  |slice e=>
   simp only[up,Is]at B;have U:=K.slice T l;rcases DataW.trod_slice l h with⟨rfl,rfl⟩|⟨a,len,cap,elems,rest,k,Z,rfl,rfl,hb,hl,ah,z,V,ak,aj⟩
   .simp only[eU,eo,f8,l]
    exact⟨one (.sl0 _ _),.inl trivial,by simp[PV.cells]⟩
   .obtain rfl:k=n:=by omega
    have each:∀i y,elems[i]?=some y->∃g,w.cells? base (a.add (i*P.cellsOf e)) (P.cellsOf e)=some g/\bp w sZ (eU y.1) g/\f8 P k e y.1/\(eo y.1).cells=eU y.1:=by
     intro i y c
     have hi:i<len:=by rw[<-z];exact(th.1 c).1
     have:=V i hi;rw[c,Option.bind_eq_some_iff]at this;obtain⟨g,h1,L⟩:=this;exact⟨g,h1,ih m e g y U B.1 L⟩
    simp only[eU,eo,f8,l];refine⟨one ?_,.inr ⟨_,_,rfl,by simp only[ZB];omega,?_⟩,by simp[PV.cells]⟩
    .rw[Oj,List.map_map]
     cases D:elems with
     |nil=>subst D;simp at z;subst z;exact .sl0 _ _
     |cons y0 ys=>
      have h0:elems[0]?=some y0:=by rw[D];rfl
      rw[<-D]
      have G:a.spot=none:=by
       obtain⟨g,h1,L,_,_⟩:=each 0 y0 h0;obtain⟨_,N,Q⟩:=World.cells?_some h1;have h5:=Q 0 B.2;have h6:g[0]?=some g[0]:=an (by omega);rw[h6]at h5
       have e1:((a.add (0*P.cellsOf e)).add 0)=a:=by simp[Addr.add]
       rw[e1]at h5;unfold World.cell? at h5;split at h5
       .split at h5
        .cases h5
        .rename_i hs;cases R:a.spot with
         |none=>rfl
         |some _=>simp[R]at hs
       .cases h5
      obtain⟨b,o,sp⟩:=a;simp only at G;subst G
      have C:∀i y,elems[i]?=some y->∀j p,(eU y.1)[j]?=some p->∃v,w.cell? ⟨b,o+(i*P.cellsOf e+j),none⟩=some v/\Rep w sZ p v:=by
       intro i y c j p hp;obtain⟨g,h1,L,_,_⟩:=each i y c;obtain⟨_,N,Q⟩:=World.cells?_some h1;have W:j<(eU y.1).length:=(th.1 hp).1
       have X:j<g.length:=by rw[<-L.1];exact W
       have h5:=Q j (by omega);have h6:g[j]?=some g[j]:=an X;rw[h6,fo,fo]at h5;exact⟨_,by rw[<-Nat.add_assoc];exact h5,L.2 j p _ hp h6⟩
      have F:(elems.map (eo∘λx=>x.1)).length=len:=by simp[z]
      have E:=Rep.sl (w:=w) (M:=sZ) (elems.map (eo∘λx=>x.1)) b o cap (P.cellsOf e) (λi j=>(w.cell? ⟨b,o+(i*P.cellsOf e+j),none⟩).getD default) (by rw[F];exact hl)
       (by
         intro i x A;simp only[Y7,II]at A;obtain⟨y,c,rfl⟩:=A;obtain⟨g,h1,L,_,N⟩:=each i y c;obtain⟨_,Q,_⟩:=World.cells?_some h1;simp only[Function.comp]
         rw[N,L.1,Q])
       (by
         intro i x j p A hp;simp only[Y7,II]at A;obtain⟨y,c,rfl⟩:=A;obtain⟨_,_,_,_,N⟩:=each i y c;simp only[Function.comp]at hp;rw[N]at hp;obtain⟨v,Y,_⟩:=C i y c j p hp
         simp[Y,sZ])
       (by
         intro i x j p A hp;simp only[Y7,II]at A;obtain⟨y,c,rfl⟩:=A;obtain⟨_,_,_,_,N⟩:=each i y c;simp only[Function.comp]at hp;rw[N]at hp;obtain⟨v,Y,hr⟩:=C i y c j p hp
         simpa[Y]using hr)
      rw[F]at E;exact E
    .intro x A
     obtain⟨y,c,rfl⟩:=Zv.1 A;obtain⟨i,hi⟩:=ZF c;obtain⟨_,_,_,hf,_⟩:=each i y hi;exact hf
  |struct S=>
   obtain⟨xs,k,Z,rfl,O,r,A⟩:=DataW.trod_struct l h
   obtain rfl:k=n:=by omega
   obtain⟨k1,k2,k3⟩:=K.struct T l
   have each:∀(i:Nat) f y,S[i]?=some f->xs[i]?=some y->bp w sZ (eU y.1) ((cs.drop f.offset).take (P.cellsOf f.type))/\f8 P k f.type y.1/\(eo y.1).cells=eU y.1:=by
    intro i f y hf c
    have J:f∈S.toList:=by
     have:S.toList[i]?=some f:=by simpa using hf
     exact An this
    exact ih m f.type _ y (k1 f J) (L4.1 B f J) (by rw[A i f hf,c])
   have q:=Qd (cs:=cs) (λf=>P.cellsOf f.type) S.toList 0 (λj f W=>by simpa using k3 j f W) (by rw[O,k2];simp);simp only[yBl]at q;simp only[eU,eo,f8,l,EU,ko];refine⟨?_,⟨_,rfl,by simp[r],λi f x hf I=>?_⟩,trivial⟩
   .rw[q]
    refine wX (by simp[r]) (λi f d hf hd=>?_);simp only[Y7,II]at hd;obtain⟨y,c,rfl⟩:=hd;exact(each i f y (by simpa using hf) c).1
   .simp only[Y7,II]at I
    obtain⟨y,c,rfl⟩:=I;exact(each i f y hf c).2.1
  |array len e=>
   obtain⟨xs,k,Z,rfl,O,r,A⟩:=DataW.trod_array l h
   obtain rfl:k=n:=by omega
   obtain⟨k1,k2⟩:=K.array T l
   have each:∀(i:Nat) y,xs[i]?=some y->bp w sZ (eU y.1) ((cs.drop (i*P.cellsOf e)).take (P.cellsOf e))/\f8 P k e y.1/\(eo y.1).cells=eU y.1:=by
    intro i y c
    have hi:i<len:=by rw[<-r];exact(th.1 c).1
    exact ih m e _ y k1 B (by rw[A i hi,c])
   have q:=Nt (cs:=cs) (P.cellsOf e) len 0 (by rw[O,k2];omega);simp only[yBi,yBl]at q;simp only[eU,eo,f8,l,EU,ko];refine⟨?_,⟨_,rfl,by simp[r],λx I=>?_⟩,trivial⟩
   .rw[q]
    refine wX (by simp[r]) (λi f d hf hd=>?_);simp only[Y7,II]at hd;obtain⟨y,c,rfl⟩:=hd
    have hi:i<len:=by rw[<-r];exact(th.1 c).1
    rw[List.getElem?_range' hi]at hf
    obtain rfl:i=f:=by simp at hf;omega
    exact(each i y c).1
   .obtain⟨y,c,rfl⟩:=Zv.1 I
    obtain⟨i,hi⟩:=ZF c;exact(each i y hi).2.1
  |_=>simp at B
theorem Lr(K:Kids P (·< P.types.size)){m:Nat}{t:TypeId}{v:Value}{d:DataW H}{ps:List MemPlace}{W:World}{r:Reach}{b0:Nat}(x:t<P.types.size)(g:iZ P m t=true)
 (a:Value.okWide P W r b0 t v)(h:DataW.Trod enc P w base spare held t v d ps):Rep w sZ (eo d) v/\∃n,f8 P n t d:=by
 obtain⟨n,hn⟩:=h;obtain⟨h1,c,A⟩:=Lq K n m t _ _ x g hn;refine⟨?_,n,c⟩
 cases n with
 |zero=>simp[DataW.trod]at hn
 |succ n=>
 cases m with
 |zero=>simp[iZ]at g
 |succ m=>
 simp only[iZ]at g
 cases f:P.underlying t with
 |none=>rw[f]at g;simp at g
 |some u=>
 rw[f]at g
 have one:∀{p:PV},eU d=[p]->eo d=p->v.cells.toList=[v]->Rep w sZ (eo d) v:=by
  intro p o q s;rw[o,s]at h1;obtain⟨u,B,e,y,_⟩:=h1.cons_inv;injection e with e _;rw[q,e];exact y
 simp only[Value.okWide,f]at a;simp only[f8,f]at c
 cases u with
 |bool=>
  obtain⟨b,rfl⟩:=c
  have:v.cells.toList=[v]:=by simp only[Cell.okWide,f]at a;cases v<;>simp_all[Cell.ok,Value.cells]
  exact one (by simp[eU];rfl) (by simp[eo]) this
 |int k=>
  obtain⟨i,rfl,_⟩:=c
  have:v.cells.toList=[v]:=by simp only[Cell.okWide,f]at a;cases v<;>simp_all[Cell.ok,Value.cells]
  exact one (by simp[eU];rfl) (by simp[eo]) this
 |string=>
  obtain⟨i,rfl⟩:=c
  have:v.cells.toList=[v]:=by simp only[Cell.okWide,f]at a;cases v<;>simp_all[Cell.ok,Value.cells]
  exact one (by simp[eU];rfl) (by simp[eo]) this
 |slice e=>
  have:v.cells.toList=[v]:=by simp only[Cell.okWide,f]at a;cases v<;>simp_all[Cell.ok,Value.cells]
  rcases c with rfl|⟨es,sp,rfl,_⟩
  all_goals exact one (by simp[eU];rfl) (by simp[eo]) this
 |struct z=>
  obtain⟨l,rfl,_⟩:=c;obtain⟨j,rfl,_⟩:=a;simp only[eU,Value.cells]at h1;simp only[eo];have:=kH h1;simpa using this
 |array len e=>
  obtain⟨l,rfl,_⟩:=c;obtain⟨j,rfl,_⟩:=a;simp only[eU,Value.cells]at h1;simp only[eo];have:=kH h1;simpa using this
 |_=>simp at g
end
open Go.ChangeAt Go.RowKit
def wY{H:Type}(P:Program):List TypeId->List (DataW H)->Prop
 |[],[]=>True
 |t::b,d::a=>(∃n,f8 P n t d)/\wY P b a
 |_,_=>False
section
variable {H:Type} {enc:TypeId×Value->H} {P:Program} {w:World} {base:Nat} {spare:Nat->Bool} {held:Bool}
theorem zl(K:Kids P (·< P.types.size)){W:World}{r:Reach}{b0:Nat}:∀{e:List TypeId}{vs:List Value}{ds:List (DataW H)}{ps:List MemPlace},(∀t∈e,t<P.types.size/\iZ P 20 t=true)->
 (∀(j:Nat) t v,e[j]?=some t->vs[j]?=some v->Value.okWide P W r b0 t v)->DataW.TrodAll enc P w base spare held e vs ds ps->
 wY P e ds/\vs.length=ds.length/\ds.length=e.length/\∀(i:Nat) d v,ds[i]?=some d->vs[i]?=some v->Rep w sZ (eo d) v
 |[],vs,ds,ps,_,_,h=>by
  obtain⟨rfl,rfl,rfl⟩:=trodAll_nil h;exact⟨trivial,rfl,rfl,λi d v h=>by simp at h⟩
 |t::e,vs,ds,ps,hp,f,h=>by
  obtain⟨v,z,d,k,a,b,rfl,rfl,rfl,h1,m⟩:=trodAll_cons h;obtain⟨n,o⟩:=hp t (by simp);obtain⟨u,f1⟩:=Lr K n o (f 0 t v rfl rfl) h1;obtain⟨f2,q,s,x⟩:=zl K (λt p=>hp t (by simp[p])) (λj t v h l=>f (j+1) t v (by simpa using h) (by simpa using l)) m;refine⟨⟨f1,f2⟩,by simp[q],by simp[s],λi g y hd c=>?_⟩
  cases i with
  |zero=>simp at hd c;subst hd;subst c;exact u
  |succ i=>exact x i g y (by simpa using hd) (by simpa using c)
theorem Ext.sameAt{w:World}(h:Ext (·∈([]:List Nat)) w w'){p:MemPlace}(hp:p.block<w.heap.size):w.sameAt w' p:=by
 cases p with
 |cell b o=>exact h.cell hp (by simp)
 |map b=>exact h.block b hp (by simp)
theorem Ext.kept{w:World}(h:Ext (·∈([]:List Nat)) w w')(a:MemPlace->Prop):w.keptBut w' a:=by
 refine⟨h.os,h.output,λi hi=>?_⟩;rw[h.block i hi (by simp)];have:w.heap[i]?=some w.heap[i]:=ZN hi;rw[this]
 cases w.heap[i]with
 |cells c t b=>exact⟨rfl,rfl,rfl,λ_ _=>rfl⟩
 |map es clock=>exact Or.inr ⟨rfl,rfl⟩
 |_=>rfl
theorem vZ{w w':World}:∀{c:List TypeId}{vs:List Value}{ds:List (DataW H)}{ps:List MemPlace},DataW.TrodAll enc P w base spare held c vs ds ps->(∀p∈ps,w.sameAt w' p)->DataW.TrodAll enc P w' base spare held c vs ds ps
 |[],vs,ds,ps,h,_=>by
  obtain⟨rfl,rfl,rfl⟩:=trodAll_nil h;exact trodAll_mk0
 |t::c,vs,ds,ps,h,e=>by
  obtain⟨v,i,d,f,a,b,rfl,rfl,rfl,⟨n,h1⟩,g⟩:=trodAll_cons h;exact⟨a,b,⟨n,DataW.trod_carry n _ _ _ h1 (λp hp=>e p (by simp at hp|-;exact .inl hp))⟩,vZ g (λp hp=>e p (by simp[hp])),rfl⟩
theorem GF{w:World}(h:Ext (·∈([]:List Nat)) w w'){a:Addr}(b:a.block<w.heap.size):w'.frozen? a=w.frozen? a:=by
 unfold World.frozen?;rw[h.block _ b (by simp)]
theorem JO{f:Func}{apart fresh again:Bool}{W k:World}{args:Array Value}{v:Value}{ds l:List (DataW H)}{before pa pv:List MemPlace}
 (o:DataW.Whole enc P f.params.toList s.vars apart W args.toList ds l before)
 (i:∀(b:Nat)(sp:Nat->Bool)(hd:Bool),DataW.TrodAll enc P k b sp hd f.resultTypes.toList (v.resultList f.resultTypes.size) (s.fn H (ds++l)).results [])
 (c:∀sp:Nat->Bool,(∀p∈before,sp p.block=true)->DataW.TrodAll enc P k 0 sp true f.params.toList args.toList (s.fn H (ds++l)).args pa)
 (d:∀sp:Nat->Bool,(∀p∈before,sp p.block=true)->DataW.TrodVars enc P k sp s.vars (s.fn H (ds++l)).vars pv)
 (e:before=pa++pv)(z:W.keptBut k (·∈before))(q:∀a:Addr,a.block<W.heap.size->k.frozen? a=W.frozen? a)
 (u:∀(j:Nat)(t:TypeId)(r:Value),f.resultTypes[j]?=some t->(v.resultList f.resultTypes.size)[j]?=some r->Value.okWide P k .any 0 t r):
 s.post enc P f apart fresh handsOn again W args v k:=by
 have m:∀p∈before,p.block<W.heap.size:=o.lt
 have g:∀p∈before,(λb=>decide (b<W.heap.size)) p.block=true:=λp hp=>by simpa using m p hp
 refine⟨ds,l,before,[],pa,pv,o,i _ _ _,c _ g,d _ g,World.keptBut_mono (λp hp=>⟨hp,?_⟩) z,λ_=>?_⟩
 .rw[e,Zm]at hp
  exact Or.inr hp
 .obtain⟨_,_,_,_,_,A,hn⟩:=o
  refine⟨u,_,_,([]++pa)++pv,⟨[]++pa,pv,trodAll_append (c _ (λ_ _=>rfl)) (i _ _ _),d _ (λ_ _=>rfl),rfl,?_,?_⟩,?_⟩
  .intro b n hp
   have x:MemPlace.cell b n∈before:=by rw[e];simpa using hp
   rw[q _ (m _ x)];exact A b n x
  .intro y
   have:=hn y;rw[e]at this;simpa using this
  .intro p hp _
   rw[e];simpa using hp
theorem EV{f:FuncId}{fn:Func}{tb:TypeId}{apart fresh again:Bool}(K:Kids P (·< P.types.size))(full:∀t e,t<P.types.size->P.underlying t=some (.slice e)->0<P.cellsOf e)
 (r:(fn.params.toList.all λt=>decide (t<P.types.size)&&iZ P 20 t)=true)(k:fn.resultTypes=#[tb])(A:P.underlying tb=some .bool)(l:s.vars=[])
 (W:World)(base:Nat)(args:Array Value)(ds S:List (DataW H))(before:List MemPlace)
 (B:∀(j:Nat) t v,fn.params[j]?=some t->args[j]?=some v->Value.okWide P W .any base t v)
 (R:DataW.Whole enc P fn.params.toList s.vars apart W args.toList ds S before)
 (m:wY P fn.params.toList ds->s.fn H ds={results:=[.lit (.bool true)],args:=ds})
 (y:wY P fn.params.toList ds->aW P f (ds.map λd=>.pv (eo d)) [] [] (.pv (.val (.bool true)))):
 Calls P f args W λe D=>∃v,e=.returned v/\s.post enc P fn apart fresh handsOn again W args v D:=by
 have o:∀t∈fn.params.toList,t<P.types.size/\iZ P 20 t=true:=λt M=>by
  have:=L4.1 r t M;simpa using this
 have x:=R;obtain⟨p,q,O,Q,rfl,X,Z⟩:=R;rw[l]at Q;obtain⟨rfl,rfl⟩:=trodVars_none Q;obtain⟨n,F,Y,z⟩:=zl K o (λj t v h T=>B j t v (by simpa using h) (by simpa using T)) O;obtain⟨E,_,U⟩:=y n
 have c:s.fn H (ds++[])={results:=[.lit (.bool true)],args:=ds}:=by rw[yAX];exact m n
 have I:∀u∈p++[],u.block<W.heap.size:=λu g=>x.lt u g
 have:=U W sZ [] args.toList (λ_ _ h=>h.elim) rfl List.nodup_nil (λi b ps h=>by simp at h) (by simp[F]) (by
  intro i a v C hv;simp only[Y7,II]at C;obtain⟨d,hd,rfl⟩:=C
  exact z i d v hd hv)
 simp only[Array.toArray_toList]at this;refine this.mono λe D ⟨v,V,N,_,hr⟩=>⟨v,V,?_⟩;have J:Rep D sZ (.val (.bool true)) v:=hr;cases J
 have G:fn.resultTypes.size=1:=by rw[k];rfl
 refine JO (pa:=p) (pv:=[]) x (λb sp hd=>?_) (λsp L=>?_) (λsp _=>?_) rfl (N.kept _) (λa C=>GF N C) ?_
 .rw[c,k]
  exact trodAll_cons_mk (shut_bool A true) trodAll_mk0
 .rw[c]
  exact(vZ (O.respare K full (λt M=>(o t M).1) (λu g=>L u (by simp[g]))) (λu g=>N.sameAt (I u (by simp[g]))))
 .rw[l,c];rfl
 .exact ok_one k rfl (okWide_bool_mk A true)
end
end Go.Ab
namespace Go.Ab
open IntKind (i64)
mutual
def rT{H:Type}:DataW H->Nat
 |.lit (.string bytes)=>bytes.length+1
 |.lit _=>1
 |.nil=>1
 |.slice elems spare=>s9 elems+s9 spare+1
 |.agg parts=>s9 parts+1
 |_=>1
def s9{H:Type}:List (DataW H)->Nat
 |[]=>0
 |d::r=>rT d+s9 r
end
section
variable {H:Type} {P:Program}
def kv(P:Program)(t:TypeId)(d:DataW H):Prop:=∃n,f8 P n t d
def iO(H:Type)(P:Program)(t:TypeId){α:Type}(e:α->PV)(Q:α->Prop)(sz:α->Nat):Prop:=∀d:DataW H,kv P t d->∃a,eo d=e a/\Q a/\sz a<=rT d
theorem C9{t:TypeId}{k:IntKind}(b:P.underlying t=some (.int k)):iO H P t (λi=>.val (.int k i)) (λi=>k.min<=i/\i<=k.max) (λ_=>1):=by
 rintro d ⟨n,h⟩
 cases n with
 |zero=>exact h.elim
 |succ n=>
  simp only[f8,b]at h;obtain⟨i,rfl,a⟩:=h;simp only[Lit.wf,up,Is]at a;exact⟨i,by simp[eo],a,by simp[rT]⟩
theorem fc{t j:TypeId}{α:Type}{e:α->PV}{Q:α->Prop}{sz:α->Nat}(o:P.underlying t=some (.slice j))(h:iO H P j e Q sz):
 iO H P t (λl:List α=>.sl (l.map e)) (λl=>l.length<=9223372036854775807/\∀a∈l,Q a) (λl=>(l.map sz).sum+1):=by
 rintro d ⟨n,hf⟩
 cases n with
 |zero=>exact hf.elim
 |succ n=>
  simp only[f8,o]at hf;rcases hf with rfl|⟨es,sp,rfl,b,g⟩
  .exact⟨[],by simp[eo],by simp,by simp[rT]⟩
  .have c:∀es:List (DataW H),(∀x∈es,f8 P n j x)->∃l:List α,A2 es=l.map e/\l.length=es.length/\(∀a∈l,Q a)/\(l.map sz).sum<=s9 es:=by
    intro es
    induction es with
    |nil=>intro _;exact⟨[],by simp[A2],rfl,by simp,by simp⟩
    |cons x r ih=>
     intro k;obtain⟨l,h1,i,f,m⟩:=ih (λy p=>k y (by simp[p]));obtain⟨a,g1,g2,g3⟩:=h x ⟨n,k x (by simp)⟩;refine⟨a::l,by simp[A2,h1,g1],by simp[i],by simpa using⟨g2,f⟩,?_⟩;simp only[yAf,List.sum_cons,s9];omega
   obtain⟨l,h1,i,f,m⟩:=c es g;refine⟨l,by simp[eo,h1],⟨by rw[i];exact b,f⟩,?_⟩;simp only[rT];omega
theorem df{t:TypeId}{k:IntKind}{d:DataW H}(b:P.underlying t=some (.int k))(h:kv P t d):∃i,d=.lit (.int k i)/\k.min<=i/\i<=k.max:=by
 obtain⟨n,h⟩:=h
 cases n with
 |zero=>exact h.elim
 |succ n=>
  simp only[f8,b]at h;obtain⟨i,rfl,a⟩:=h;simp only[Lit.wf,up,Is]at a;exact⟨i,rfl,a⟩
theorem Io{t:TypeId}{d:DataW H}(a:P.underlying t=some .string)(h:kv P t d):∃s,d=.lit (.string s):=by
 obtain⟨n,h⟩:=h
 cases n with
 |zero=>exact h.elim
 |succ n=>
  simp only[f8,a]at h;exact h
theorem BX{α:Type}{l:List α}(h:l.length=3):∃a b c,l=[a,b,c]:=by
 match l,h with
 |[a,b,c],_=>exact⟨a,b,c,rfl⟩
theorem Ls{α:Type}{l:List α}(h:l.length=2):∃a b,l=[a,b]:=by
 match l,h with
 |[a,b],_=>exact⟨a,b,rfl⟩
theorem R9{α:Type}{l:List α}(h:l.length=10):∃a0 a1 a b c d e f g i,l=[a0,a1,a,b,c,d,e,f,g,i]:=by
 match l,h with
 |[a0,a1,a,b,c,d,e,f,g,i],_=>exact⟨a0,a1,a,b,c,d,e,f,g,i,rfl⟩
theorem BY{t g:TypeId}{d:DataW H}(i:P.underlying t=some (.array 3 g))(f:P.underlying g=some (.int .i64)){d:DataW H}(h:kv P t d):∃x y z,d=.agg [.lit (.int .i64 x),.lit (.int .i64 y),.lit (.int .i64 z)]:=by
 obtain⟨n,hf⟩:=h
 cases n with
 |zero=>exact hf.elim
 |succ n=>
  simp only[f8,i]at hf;obtain⟨j,rfl,h1,e⟩:=hf;obtain⟨a,b,c,rfl⟩:=BX h1;obtain⟨x,rfl,_⟩:=df (H:=H) f ⟨n,e a (by simp)⟩;obtain⟨y,rfl,_⟩:=df (H:=H) f ⟨n,e b (by simp)⟩;obtain⟨z,rfl,_⟩:=df (H:=H) f ⟨n,e c (by simp)⟩;exact⟨x,y,z,rfl⟩
theorem ue{α:Type}(sz:α->Nat)(h:∀a,1<=sz a):∀l:List α,l.length<=(l.map sz).sum
 |[]=>by simp
 |a::l=>by have:=ue sz h l;have:=h a;simp only[yAf,List.sum_cons,yAE];omega
theorem fI{t:TypeId}{fs:Array Field}{d:DataW H}(e:P.underlying t=some (.struct fs))(h:kv P t d):
 ∃a,d=.agg a/\a.length=fs.size/\∀(i:Nat) f x,fs[i]?=some f->a[i]?=some x->kv P f.type x:=by
 obtain⟨n,hf⟩:=h
 cases n with
 |zero=>exact hf.elim
 |succ n=>
  simp only[f8,e]at hf;obtain⟨a,rfl,h1,c⟩:=hf;exact⟨a,rfl,h1,λi f x h b=>⟨n,c i f x h b⟩⟩
end
end Go.Ab
