/- The contracts and facts that the laws of this seat need, in one text (ClA, AbG). -/
import Derived.Test.YtidomjacfogjlaaGreatT2
import Derived.ReadAgain
import Derived.ChangeBears
import Derived.ChangeArms
import Derived.ChangeSame
import Derived.OpenShut
import Derived.Deep.Frames
import Derived.ProofKit
import Derived.JoinedCond
import Derived.JoinedOf
set_option linter.all false
set_option maxRecDepth 10000
namespace Go.Ab
open IntKind (i64)
open Go.ChangeShapes Go.WideShapes
mutual
def jA{H:Type}:DataW H->List PV
 |.lit (.bool b)=>[.val (.bool b)]
 |.lit (.int k n)=>[.val (.int k n)]
 |.lit (.float k b)=>[.val (.float k b)]
 |.lit (.string s)=>[.val (.string ⟨s.toArray⟩)]
 |.lit .nil=>[.sl []]
 |.nil=>[.sl []]
 |.slice c _=>[.sl (BT c)]
 |.agg a=>Im a
 |_=>[]
def BT{H:Type}:List (DataW H)->List PV
 |[]=>[]
 |d::r=>iu d::BT r
def Im{H:Type}:List (DataW H)->List PV
 |[]=>[]
 |d::r=>jA d++Im r
def iu{H:Type}:DataW H->PV
 |.lit (.bool b)=>.val (.bool b)
 |.lit (.int k n)=>.val (.int k n)
 |.lit (.float k b)=>.val (.float k b)
 |.lit (.string s)=>.val (.string ⟨s.toArray⟩)
 |.slice c _=>.sl (BT c)
 |.agg a=>kq (Im a)
 |_=>.sl []
end
variable {handsOn:Bool}{s:ChangeSpec}{w':World}
def jm(P:Program):Nat->TypeId->Bool
 |0,_=>false
 |n+1,t=>match P.underlying t with
  |some .bool=>true
  |some (.int _)=>true
  |some .string=>true
  |some (.slice e)=>jm P n e&&decide (0<P.cellsOf e)
  |some (.struct a)=>a.toList.all λf=>jm P n f.type
  |some (.array _ e)=>jm P n e
  |_=>false
def jL{H:Type}(P:Program):Nat->TypeId->DataW H->Prop
 |0,_,_=>False
 |n+1,t,d=>match P.underlying t with
  |some .bool=>∃b,d=.lit (.bool b)
  |some (.int k)=>∃i,d=.lit (.int k i)/\(Lit.int k i).wf=true
  |some .string=>∃s,d=.lit (.string s)
  |some (.slice e)=>d=.nil\/∃c sp,d=.slice c sp/\c.length<=maxLen/\∀x∈c,jL P n e x
  |some (.struct g)=>∃a,d=.agg a/\a.length=g.size/\∀(i:Nat) f x,g[i]?=some f->a[i]?=some x->jL P n f.type x
  |some (.array m e)=>∃a,d=.agg a/\a.length=m/\∀x∈a,jL P n e x
  |_=>False
abbrev sH:Nat->Nat->Prop:=λ_ _=>False
theorem Qs{H:Type}(a:List (DataW H)):BT a=a.map iu:=by
 induction a with
 |nil=>simp[BT]
 |cons d r ih=>simp[BT,ih]
theorem Gd{H:Type}(a:List (DataW H)):Im a=a.flatMap jA:=by
 induction a with
 |nil=>simp[Im]
 |cons d r ih=>simp[Im,ih]
theorem bR.append{w:World}{M:Nat->Nat->Prop}{ps qs:List PV}{us vs:List Value}(h:bR w M ps us)(h':bR w M qs vs):bR w M (ps++qs) (us++vs):=by
 refine⟨by simp[h.1,h'.1],λi p u hp a=>?_⟩;by_cases hi:i<ps.length
 .rw[ZX hi]at hp
  rw[ZX (by have:=h.1;omega)]at a;exact h.2 i p u hp a
 .rw[yAa (by omega)]at hp
  rw[yAa (by have:=h.1;omega)]at a;refine h'.2 _ p u hp ?_;rw[h.1];exact a
theorem xq{H α:Type}{w:World}{M:Nat->Nat->Prop}{g:α->List Value}:∀{fs:List α}{b:List (DataW H)},fs.length=b.length->
 (∀(i:Nat) f d,fs[i]?=some f->b[i]?=some d->bR w M (jA d) (g f))->bR w M (b.flatMap jA) (fs.flatMap g)
 |[],[],_,_=>by simpa using bR.nil
 |f::fs,d::b,a,h=>by
  simp only[List.flatMap_cons];exact(h 0 f d rfl rfl).append (xq (by simpa using a) (λi e c j k=>h (i+1) e c (by simpa using j) (by simpa using k)))
 |[],_::_,a,_=>by simp at a
 |_::_,[],a,_=>by simp at a
theorem R2{cs:List Value}(cell:Field->Nat):∀(fs:List Field)(o:Nat),(∀(j:Nat) f,fs[j]?=some f->f.offset=o+((fs.take j).map cell).sum)->cs.length=o+(fs.map cell).sum->
 cs.drop o=fs.flatMap λf=>(cs.drop f.offset).take (cell f)
 |[],o,_,a=>by simp at a;simp[List.drop_of_length_le (by omega:cs.length<=o)]
 |f::fs,o,h,a=>by
  have c:f.offset=o:=by simpa using h 0 f rfl
  have ih:=R2 (cs:=cs) cell fs (o+cell f) (λj b d=>by
   have:=h (j+1) b (by simpa using d);simp only[List.take_succ_cons,yBa,List.sum_cons]at this
   omega) (by simp only[yBa,List.sum_cons]at a;omega)
  simp only[List.flatMap_cons];rw[<-ih,c,<-List.drop_drop,List.take_append_drop]
theorem Py{cs:List Value}(c:Nat):∀(n o:Nat),cs.length=o*c+n*c->cs.drop (o*c)=(List.range' o n).flatMap λi=>(cs.drop (i*c)).take c
 |0,o,a=>by simp;omega
 |n+1,o,a=>by
  have ih:=Py c n (o+1) (by rw[a,yAM,yAM];omega);simp only[List.range'_succ,List.flatMap_cons];rw[<-ih,yAM,Nat.one_mul,<-List.drop_drop,List.take_append_drop]
section
variable {H:Type} {enc:TypeId×Value->H} {P:Program} {w:World} {base:Nat} {spare:Nat->Bool} {held:Bool}
theorem Nz(K:Kids P (·< P.types.size)):∀(n m:Nat)(t:TypeId)(cs:List Value)(x:DataW H×List MemPlace),t<P.types.size->jm P m t=true->
 DataW.trod enc P w base spare held n t cs=some x->bR w sH (jA x.1) cs/\jL P n t x.1/\(iu x.1).cells=jA x.1:=by
 intro n
 induction n with
 |zero=>intro m t cs x _ _ h;simp[DataW.trod]at h
 |succ n ih=>
  intro m t cs x W B h
  cases m with
  |zero=>simp[jm]at B
  |succ m=>
  have ax:=B;simp only[jm]at B;have one:∀{p:PV}{u:Value},Rep w sH p u->bR w sH [p] [u]:=λhq=>.cons hq .nil
  cases l:P.underlying t with
  |none=>rw[l]at B;simp at B
  |some u=>
  rw[l]at B
  cases u with
  |bool=>
   unfold DataW.trod at h;rw[l]at h;split at h<;>simp_all;subst h;simp only[jA,iu,jL,l];exact⟨one (.val _),⟨_,rfl⟩,by simp[PV.cells,Value.cells]⟩
  |int k=>
   obtain⟨i,rfl,rfl,hw⟩:=DataW.trod_int l h;simp only[jA,iu,jL,l];exact⟨one (.val _),⟨i,rfl,hw⟩,by simp[PV.cells,Value.cells]⟩
  |string=>
   obtain⟨s,rfl,rfl,hw⟩:=DataW.trod_string l h
   have e:(⟨s.data.toList.toArray⟩:ByteArray)=s:=by cases s;simp
   simp only[jA,iu,jL,l];rw[e];exact⟨one (.val _),⟨_,rfl⟩,by simp[PV.cells,Value.cells]⟩
  |slice e=>
   simp only[An,Is]at B;have X:=K.slice W l;rcases DataW.trod_slice l h with⟨rfl,rfl⟩|⟨a,len,cap,elems,rest,k,hk,rfl,rfl,hb,hl,ay,z,Y,a2,a1⟩
   .simp only[jA,iu,jL,l]
    exact⟨one (.sl0 _ _),.inl trivial,by simp[PV.cells]⟩
   .obtain rfl:k=n:=by omega
    have each:∀i y,elems[i]?=some y->∃g,w.cells? base (a.add (i*P.cellsOf e)) (P.cellsOf e)=some g/\bR w sH (jA y.1) g/\jL P k e y.1/\(iu y.1).cells=jA y.1:=by
     intro i y c
     have hi:i<len:=by rw[<-z];exact(th.1 c).1
     have:=Y i hi;rw[c,Option.bind_eq_some_iff]at this;obtain⟨g,N,O⟩:=this;exact⟨g,N,ih m e g y X B.1 O⟩
    simp only[jA,iu,jL,l];refine⟨one ?_,.inr ⟨_,_,rfl,by simp only[yAz];omega,?_⟩,by simp[PV.cells]⟩
    .rw[Qs,List.map_map]
     cases D:elems with
     |nil=>subst D;simp at z;subst z;exact .sl0 _ _
     |cons y0 ys=>
      have h0:elems[0]?=some y0:=by rw[D];rfl
      rw[<-D]
      have G:a.spot=none:=by
       obtain⟨g,N,O,_,_⟩:=each 0 y0 h0;obtain⟨_,Q,S⟩:=World.cells?_some N;have I:=S 0 B.2;have V:g[0]?=some g[0]:=an (by omega);rw[V]at I
       have e1:((a.add (0*P.cellsOf e)).add 0)=a:=by simp[Addr.add]
       rw[e1]at I;unfold World.cell? at I;split at I
       .split at I
        .cases I
        .rename_i hs;cases T:a.spot with
         |none=>rfl
         |some _=>simp[T]at hs
       .cases I
      obtain⟨b,o,sp⟩:=a;simp only at G;subst G
      have C:∀i y,elems[i]?=some y->∀j p,(jA y.1)[j]?=some p->∃v,w.cell? ⟨b,o+(i*P.cellsOf e+j),none⟩=some v/\Rep w sH p v:=by
       intro i y c j p hp;obtain⟨g,N,O,_,_⟩:=each i y c;obtain⟨_,Q,S⟩:=World.cells?_some N;have Z:j<(jA y.1).length:=(th.1 hp).1
       have ad:j<g.length:=by rw[<-O.1];exact Z
       have I:=S j (by omega);have V:g[j]?=some g[j]:=an ad;rw[V,gG,gG]at I;exact⟨_,by rw[<-Nat.add_assoc];exact I,O.2 j p _ hp V⟩
      have F:(elems.map (iu∘λx=>x.1)).length=len:=by simp[z]
      have E:=Rep.sl (w:=w) (M:=sH) (elems.map (iu∘λx=>x.1)) b o cap (P.cellsOf e) (λi j=>(w.cell? ⟨b,o+(i*P.cellsOf e+j),none⟩).getD default) (by rw[F];exact hl)
       (by
         intro i x A;simp only[ZW,II]at A;obtain⟨y,c,rfl⟩:=A;obtain⟨g,N,O,_,Q⟩:=each i y c;obtain⟨_,S,_⟩:=World.cells?_some N;simp only[Function.comp]
         rw[Q,O.1,S])
       (by
         intro i x j p A hp;simp only[ZW,II]at A;obtain⟨y,c,rfl⟩:=A;obtain⟨_,_,_,_,Q⟩:=each i y c;simp only[Function.comp]at hp;rw[Q]at hp;obtain⟨v,hv,_⟩:=C i y c j p hp
         simp[hv,sH])
       (by
         intro i x j p A hp;simp only[ZW,II]at A;obtain⟨y,c,rfl⟩:=A;obtain⟨_,_,_,_,Q⟩:=each i y c;simp only[Function.comp]at hp;rw[Q]at hp;obtain⟨v,hv,hr⟩:=C i y c j p hp
         simpa[hv]using hr)
      rw[F]at E;exact E
    .intro x A
     obtain⟨y,c,rfl⟩:=yAt.1 A;obtain⟨i,hi⟩:=yAD c;obtain⟨_,_,_,hf,_⟩:=each i y hi;exact hf
  |struct U=>
   obtain⟨xs,k,hk,rfl,R,r,A⟩:=DataW.trod_struct l h
   obtain rfl:k=n:=by omega
   obtain⟨k1,k2,k3⟩:=K.struct W l
   have each:∀(i:Nat) f y,U[i]?=some f->xs[i]?=some y->bR w sH (jA y.1) ((cs.drop f.offset).take (P.cellsOf f.type))/\jL P k f.type y.1/\(iu y.1).cells=jA y.1:=by
    intro i f y hf c
    have L:f∈U.toList:=by
     have:U.toList[i]?=some f:=by simpa using hf
     exact In this
    exact ih m f.type _ y (k1 f L) (IV.1 B f L) (by rw[A i f hf,c])
   have q:=R2 (cs:=cs) (λf=>P.cellsOf f.type) U.toList 0 (λj f Z=>by simpa using k3 j f Z) (by rw[R,k2];simp);simp only[yCh]at q;simp only[jA,iu,jL,l,Gd,kX];refine⟨?_,⟨_,rfl,by simp[r],λi f x hf J=>?_⟩,trivial⟩
   .rw[q]
    refine xq (by simp[r]) (λi f d hf hd=>?_);simp only[ZW,II]at hd;obtain⟨y,c,rfl⟩:=hd;exact(each i f y (by simpa using hf) c).1
   .simp only[ZW,II]at J
    obtain⟨y,c,rfl⟩:=J;exact(each i f y hf c).2.1
  |array len e=>
   obtain⟨xs,k,hk,rfl,R,r,A⟩:=DataW.trod_array l h
   obtain rfl:k=n:=by omega
   obtain⟨k1,k2⟩:=K.array W l
   have each:∀(i:Nat) y,xs[i]?=some y->bR w sH (jA y.1) ((cs.drop (i*P.cellsOf e)).take (P.cellsOf e))/\jL P k e y.1/\(iu y.1).cells=jA y.1:=by
    intro i y c
    have hi:i<len:=by rw[<-r];exact(th.1 c).1
    exact ih m e _ y k1 B (by rw[A i hi,c])
   have q:=Py (cs:=cs) (P.cellsOf e) len 0 (by rw[R,k2];omega);simp only[yCe,yCh]at q;simp only[jA,iu,jL,l,Gd,kX];refine⟨?_,⟨_,rfl,by simp[r],λx J=>?_⟩,trivial⟩
   .rw[q]
    refine xq (by simp[r]) (λi f d hf hd=>?_);simp only[ZW,II]at hd;obtain⟨y,c,rfl⟩:=hd
    have hi:i<len:=by rw[<-r];exact(th.1 c).1
    rw[List.getElem?_range' hi]at hf
    obtain rfl:i=f:=by simp at hf;omega
    exact(each i y c).1
   .obtain⟨y,c,rfl⟩:=yAt.1 J
    obtain⟨i,hi⟩:=yAD c;exact(each i y hi).2.1
  |_=>simp at B
theorem NA(K:Kids P (·< P.types.size)){m:Nat}{t:TypeId}{v:Value}{d:DataW H}{ps:List MemPlace}{W:World}{r:Reach}{l:Nat}(z:t<P.types.size)(g:jm P m t=true)
 (a:Value.okWide P W r l t v)(h:DataW.Trod enc P w base spare held t v d ps):Rep w sH (iu d) v/\∃n,jL P n t d:=by
 obtain⟨n,hn⟩:=h;obtain⟨j,c,D⟩:=Nz K n m t _ _ z g hn;refine⟨?_,n,c⟩
 cases n with
 |zero=>simp[DataW.trod]at hn
 |succ n=>
 cases m with
 |zero=>simp[jm]at g
 |succ m=>
 simp only[jm]at g
 cases f:P.underlying t with
 |none=>rw[f]at g;simp at g
 |some u=>
 rw[f]at g
 have one:∀{p:PV},jA d=[p]->iu d=p->v.cells.toList=[v]->Rep w sH (iu d) v:=by
  intro p s x y;rw[s,y]at j;obtain⟨u,E,e,A,_⟩:=j.cons_inv;injection e with e _;rw[x,e];exact A
 simp only[Value.okWide,f]at a;simp only[jL,f]at c
 cases u with
 |bool=>
  obtain⟨b,rfl⟩:=c
  have:v.cells.toList=[v]:=by simp only[Cell.okWide,f]at a;cases v<;>simp_all[Cell.ok,Value.cells]
  exact one (by simp[jA];rfl) (by simp[iu]) this
 |int k=>
  obtain⟨i,rfl,_⟩:=c
  have:v.cells.toList=[v]:=by simp only[Cell.okWide,f]at a;cases v<;>simp_all[Cell.ok,Value.cells]
  exact one (by simp[jA];rfl) (by simp[iu]) this
 |string=>
  obtain⟨i,rfl⟩:=c
  have:v.cells.toList=[v]:=by simp only[Cell.okWide,f]at a;cases v<;>simp_all[Cell.ok,Value.cells]
  exact one (by simp[jA];rfl) (by simp[iu]) this
 |slice e=>
  have:v.cells.toList=[v]:=by simp only[Cell.okWide,f]at a;cases v<;>simp_all[Cell.ok,Value.cells]
  rcases c with rfl|⟨B,sp,rfl,_⟩
  all_goals exact one (by simp[jA];rfl) (by simp[iu]) this
 |struct C=>
  obtain⟨q,rfl,_⟩:=c;obtain⟨o,rfl,_⟩:=a;simp only[jA,Value.cells]at j;simp only[iu];have:=lF j;simpa using this
 |array len e=>
  obtain⟨q,rfl,_⟩:=c;obtain⟨o,rfl,_⟩:=a;simp only[jA,Value.cells]at j;simp only[iu];have:=lF j;simpa using this
 |_=>simp at g
end
open Go.ChangeAt Go.RowKit
def uj{H:Type}(P:Program):List TypeId->List (DataW H)->Prop
 |[],[]=>True
 |t::b,d::a=>(∃n,jL P n t d)/\uj P b a
 |_,_=>False
section
variable {H:Type} {enc:TypeId×Value->H} {P:Program} {w:World} {base:Nat} {spare:Nat->Bool} {held:Bool}
theorem z8(K:Kids P (·< P.types.size)){W:World}{r:Reach}{k:Nat}:∀{f:List TypeId}{vs:List Value}{c:List (DataW H)}{ps:List MemPlace},(∀t∈f,t<P.types.size/\jm P 20 t=true)->
 (∀(j:Nat) t v,f[j]?=some t->vs[j]?=some v->Value.okWide P W r k t v)->DataW.TrodAll enc P w base spare held f vs c ps->
 uj P f c/\vs.length=c.length/\c.length=f.length/\∀(i:Nat) d v,c[i]?=some d->vs[i]?=some v->Rep w sH (iu d) v
 |[],vs,c,ps,_,_,h=>by
  obtain⟨rfl,rfl,rfl⟩:=trodAll_nil h;exact⟨trivial,rfl,rfl,λi d v h=>by simp at h⟩
 |t::f,vs,c,ps,hp,g,h=>by
  obtain⟨v,C,d,m,a,b,rfl,rfl,rfl,o,p⟩:=trodAll_cons h;obtain⟨q,s⟩:=hp t (by simp);obtain⟨z,f1⟩:=NA K q s (g 0 t v rfl rfl) o;obtain⟨f2,x,y,A⟩:=z8 K (λt u=>hp t (by simp[u])) (λj t v h n=>g (j+1) t v (by simpa using h) (by simpa using n)) p;refine⟨⟨f1,f2⟩,by simp[x],by simp[y],λi l B hd e=>?_⟩
  cases i with
  |zero=>simp at hd e;subst hd;subst e;exact z
  |succ i=>exact A i l B (by simpa using hd) (by simpa using e)
theorem Ext.sameAt{w:World}(h:Ext (·∈([]:List Nat)) w w'){p:MemPlace}(hp:p.block<w.heap.size):w.sameAt w' p:=by
 cases p with
 |cell b o=>exact h.cell hp (by simp)
 |map b=>exact h.block b hp (by simp)
theorem Ext.kept{w:World}(h:Ext (·∈([]:List Nat)) w w')(may:MemPlace->Prop):w.keptBut w' may:=by
 refine⟨h.os,h.output,λi hi=>?_⟩;rw[h.block i hi (by simp)];have:w.heap[i]?=some w.heap[i]:=yAL hi;rw[this]
 cases w.heap[i]with
 |cells c t fr=>exact⟨rfl,rfl,rfl,λ_ _=>rfl⟩
 |map a clock=>exact Or.inr ⟨rfl,rfl⟩
 |_=>rfl
theorem ww{w w':World}:∀{e:List TypeId}{vs:List Value}{c:List (DataW H)}{ps:List MemPlace},DataW.TrodAll enc P w base spare held e vs c ps->(∀p∈ps,w.sameAt w' p)->DataW.TrodAll enc P w' base spare held e vs c ps
 |[],vs,c,ps,h,_=>by
  obtain⟨rfl,rfl,rfl⟩:=trodAll_nil h;exact trodAll_mk0
 |t::e,vs,c,ps,h,f=>by
  obtain⟨v,k,d,g,a,b,rfl,rfl,rfl,⟨n,i⟩,j⟩:=trodAll_cons h;exact⟨a,b,⟨n,DataW.trod_carry n _ _ _ i (λp hp=>f p (by simp at hp|-;exact .inl hp))⟩,ww j (λp hp=>f p (by simp[hp])),rfl⟩
theorem HS{w:World}(h:Ext (·∈([]:List Nat)) w w'){a:Addr}(b:a.block<w.heap.size):w'.frozen? a=w.frozen? a:=by
 unfold World.frozen?;rw[h.block _ b (by simp)]
theorem K9{f:Func}{apart fresh again:Bool}{W k:World}{args:Array Value}{v:Value}{l m:List (DataW H)}{before pa pv:List MemPlace}
 (q:DataW.Whole enc P f.params.toList s.vars apart W args.toList l m before)
 (i:∀(b:Nat)(sp:Nat->Bool)(hd:Bool),DataW.TrodAll enc P k b sp hd f.resultTypes.toList (v.resultList f.resultTypes.size) (s.fn H (l++m)).results [])
 (c:∀sp:Nat->Bool,(∀p∈before,sp p.block=true)->DataW.TrodAll enc P k 0 sp true f.params.toList args.toList (s.fn H (l++m)).args pa)
 (d:∀sp:Nat->Bool,(∀p∈before,sp p.block=true)->DataW.TrodVars enc P k sp s.vars (s.fn H (l++m)).vars pv)
 (e:before=pa++pv)(A:W.keptBut k (·∈before))(u:∀a:Addr,a.block<W.heap.size->k.frozen? a=W.frozen? a)
 (x:∀(j:Nat)(t:TypeId)(r:Value),f.resultTypes[j]?=some t->(v.resultList f.resultTypes.size)[j]?=some r->Value.okWide P k .any 0 t r):
 s.post enc P f apart fresh handsOn again W args v k:=by
 have n:∀p∈before,p.block<W.heap.size:=q.lt
 have g:∀p∈before,(λb=>decide (b<W.heap.size)) p.block=true:=λp hp=>by simpa using n p hp
 refine⟨l,m,before,[],pa,pv,q,i _ _ _,c _ g,d _ g,World.keptBut_mono (λp hp=>⟨hp,?_⟩) A,λ_=>?_⟩
 .rw[e,yAk]at hp
  exact Or.inr hp
 .obtain⟨_,_,_,_,_,B,hn⟩:=q
  refine⟨x,_,_,([]++pa)++pv,⟨[]++pa,pv,trodAll_append (c _ (λ_ _=>rfl)) (i _ _ _),d _ (λ_ _=>rfl),rfl,?_,?_⟩,?_⟩
  .intro b o hp
   have y:MemPlace.cell b o∈before:=by rw[e];simpa using hp
   rw[u _ (n _ y)];exact B b o y
  .intro z
   have:=hn z;rw[e]at this;simpa using this
  .intro p hp _
   rw[e];simpa using hp
theorem xr{f:FuncId}{fn:Func}{tb:TypeId}{apart fresh again:Bool}(K:Kids P (·< P.types.size))(full:∀t e,t<P.types.size->P.underlying t=some (.slice e)->0<P.cellsOf e)
 (u:(fn.params.toList.all λt=>decide (t<P.types.size)&&jm P 20 t)=true)(k:fn.resultTypes=#[tb])(B:P.underlying tb=some .bool)(l:s.vars=[])
 (W:World)(base:Nat)(args:Array Value)(n T:List (DataW H))(before:List MemPlace)
 (C:∀(j:Nat) t v,fn.params[j]?=some t->args[j]?=some v->Value.okWide P W .any base t v)
 (S:DataW.Whole enc P fn.params.toList s.vars apart W args.toList n T before)
 (m:uj P fn.params.toList n->s.fn H n={results:=[.lit (.bool true)],args:=n})
 (z:uj P fn.params.toList n->aO P f (n.map λd=>.pv (iu d)) [] [] (.pv (.val (.bool true)))):
 Calls P f args W λe E=>∃v,e=.returned v/\s.post enc P fn apart fresh handsOn again W args v E:=by
 have r:∀t∈fn.params.toList,t<P.types.size/\jm P 20 t=true:=λt N=>by
  have:=IV.1 u t N;simpa using this
 have y:=S;obtain⟨p,q,Q,R,rfl,Y,ad⟩:=S;rw[l]at R;obtain⟨rfl,rfl⟩:=trodVars_none R;obtain⟨o,G,Z,A⟩:=z8 K r (λj t v h U=>C j t v (by simpa using h) (by simpa using U)) Q;obtain⟨F,_,V⟩:=z o
 have c:s.fn H (n++[])={results:=[.lit (.bool true)],args:=n}:=by rw[yBU];exact m o
 have J:∀x∈p++[],x.block<W.heap.size:=λx g=>y.lt x g
 have:=V W sH [] args.toList (λ_ _ h=>h.elim) rfl List.nodup_nil (λi b ps h=>by simp at h) (by simp[G]) (by
  intro i a v D hv;simp only[ZW,II]at D;obtain⟨d,hd,rfl⟩:=D
  exact A i d v hd hv)
 simp only[Array.toArray_toList]at this;refine this.mono λe E ⟨v,X,O,_,hr⟩=>⟨v,X,?_⟩;have L:Rep E sH (.val (.bool true)) v:=hr;cases L
 have I:fn.resultTypes.size=1:=by rw[k];rfl
 refine K9 (pa:=p) (pv:=[]) y (λb sp hd=>?_) (λsp M=>?_) (λsp _=>?_) rfl (O.kept _) (λa D=>HS O D) ?_
 .rw[c,k]
  exact trodAll_cons_mk (shut_bool B true) trodAll_mk0
 .rw[c]
  exact(ww (Q.respare K full (λt N=>(r t N).1) (λx g=>M x (by simp[g]))) (λx g=>O.sameAt (J x (by simp[g]))))
 .rw[l,c];rfl
 .exact ok_one k rfl (okWide_bool_mk B true)
end
end Go.Ab
namespace Go.Ab
open IntKind (i64)
mutual
def Ge{H:Type}:DataW H->Nat
 |.lit (.string bytes)=>bytes.length+1
 |.lit _=>1
 |.nil=>1
 |.slice elems spare=>yZ elems+yZ spare+1
 |.agg parts=>yZ parts+1
 |_=>1
def yZ{H:Type}:List (DataW H)->Nat
 |[]=>0
 |d::r=>Ge d+yZ r
end
section
variable {H:Type} {P:Program}
def Y4(P:Program)(t:TypeId)(d:DataW H):Prop:=∃n,jL P n t d
def BU(H:Type)(P:Program)(t:TypeId){α:Type}(e:α->PV)(Q:α->Prop)(sz:α->Nat):Prop:=∀d:DataW H,Y4 P t d->∃a,iu d=e a/\Q a/\sz a<=Ge d
theorem La{t:TypeId}{k:IntKind}(b:P.underlying t=some (.int k)):BU H P t (λi=>.val (.int k i)) (λi=>k.min<=i/\i<=k.max) (λ_=>1):=by
 rintro d ⟨n,h⟩
 cases n with
 |zero=>exact h.elim
 |succ n=>
  simp only[jL,b]at h;obtain⟨i,rfl,a⟩:=h;simp only[Lit.wf,An,Is]at a;exact⟨i,by simp[iu],a,by simp[Ge]⟩
theorem HT{t m:TypeId}{α:Type}{e:α->PV}{Q:α->Prop}{sz:α->Nat}(u:P.underlying t=some (.slice m))(h:BU H P m e Q sz):
 BU H P t (λl:List α=>.sl (l.map e)) (λl=>l.length<=9223372036854775807/\∀a∈l,Q a) (λl=>(l.map sz).sum+1):=by
 rintro d ⟨n,hf⟩
 cases n with
 |zero=>exact hf.elim
 |succ n=>
  simp only[jL,u]at hf;rcases hf with rfl|⟨b,sp,rfl,c,j⟩
  .exact⟨[],by simp[iu],by simp,by simp[Ge]⟩
  .have f:∀b:List (DataW H),(∀x∈b,jL P n m x)->∃l:List α,BT b=l.map e/\l.length=b.length/\(∀a∈l,Q a)/\(l.map sz).sum<=yZ b:=by
    intro b
    induction b with
    |nil=>intro _;exact⟨[],by simp[BT],rfl,by simp,by simp⟩
    |cons x r ih=>
     intro o;obtain⟨l,g,k,i,s⟩:=ih (λy v=>o y (by simp[v]));obtain⟨a,p,q,g3⟩:=h x ⟨n,o x (by simp)⟩;refine⟨a::l,by simp[BT,g,p],by simp[k],by simpa using⟨q,i⟩,?_⟩;simp only[yBa,List.sum_cons,yZ];omega
   obtain⟨l,g,k,i,s⟩:=f b j;refine⟨l,by simp[iu,g],⟨by rw[k];exact c,i⟩,?_⟩;simp only[Ge];omega
end
structure Hid(H:Prop):Prop where
 h:H
variable {G H S:Prop}
theorem Gy(h:G:=by
 with_reducible repeat' (first|refine Sp.h ?_|((first|refine Wd ?_|refine Ss.h ?_|refine Sc.h (by assumption) ?_|(refine Sb.h ?_ ?_ ?_<;>(try intro hgd)<;>try exact Xy))<;>simp -implicitDefEqProofs (maxSteps:=2000000) [hP,hN, *]<;>try refine Ya ?_)|refine X2 ?_ ?_|(refine Xd ?_ ?_<;>intro hcd<;>try exact Xx))):G:=h
theorem Gz(x:H)(h:Hid H->G:=by
 intro hG0
 with_reducible repeat' (first|refine Sp.h ?_|((first|refine Wd ?_|refine Ss.h ?_|refine Sc.h (by assumption) ?_|(refine Sb.h ?_ ?_ ?_<;>(try intro hgd)<;>try exact Xy))<;>simp -implicitDefEqProofs (maxSteps:=2000000) [hP,hN, *]<;>try refine Ya ?_)|refine X2 ?_ ?_|(refine Xd ?_ ?_<;>intro hcd<;>try exact Xx))
 exact hG0.h):G:=h ⟨x⟩
theorem gA{a b:Prop}(x:a)(y:b):a/\b:=⟨x,y⟩
theorem be{p0 a b:Prop}(c:p0)(h1:a)(d:b):p0∧a∧b:=⟨c,h1,d⟩
theorem go{p0 a b c:Prop}(d:p0)(h1:a)(e:b)(f:c):p0∧a∧b∧c:=⟨d,h1,e,f⟩
theorem it{p0 a b c d:Prop}(e:p0)(h1:a)(f:b)(g:c)(i:d):p0∧a∧b∧c∧d:=⟨e,h1,f,g,i⟩
theorem so{p0 a b c d e:Prop}(f:p0)(h1:a)(g:b)(i:c)(j:d)(k:e):p0∧a∧b∧c∧d∧e:=⟨f,h1,g,i,j,k⟩
theorem zAa{p0 a b c d e f:Prop}(g:p0)(h1:a)(i:b)(j:c)(k:d)(l:e)(m:f):p0∧a∧b∧c∧d∧e∧f:=⟨g,h1,i,j,k,l,m⟩
theorem zAb{p0 a b c d e f g:Prop}(i:p0)(h1:a)(j:b)(k:c)(l:d)(m:e)(n:f)(o:g):p0∧a∧b∧c∧d∧e∧f∧g:=⟨i,h1,j,k,l,m,n,o⟩
theorem zAc{p0 a b c d e f g i p9:Prop}(j:p0)(h1:a)(k:b)(l:c)(m:d)(n:e)(o:f)(p:g)(q:i)(r:p9):p0∧a∧b∧c∧d∧e∧f∧g∧i∧p9:=⟨j,h1,k,l,m,n,o,p,q,r⟩
theorem zAd{p0 e f g i j k l m p9 a b:Prop}(n:p0)(h1:e)(o:f)(p:g)(q:i)(r:j)(s:k)(u:l)(v:m)(x:p9)(c:a)(d:b):p0∧e∧f∧g∧i∧j∧k∧l∧m∧p9∧a∧b:=⟨n,h1,o,p,q,r,s,u,v,x,c,d⟩
theorem zAe{p0 l m n o p q r s p9 a b c d e:Prop}(u:p0)(h1:l)(v:m)(x:n)(y:o)(z:p)(A:q)(B:r)(C:s)(D:p9)(f:a)(g:b)(i:c)(j:d)(k:e):p0∧l∧m∧n∧o∧p∧q∧r∧s∧p9∧a∧b∧c∧d∧e:=⟨u,h1,v,x,y,z,A,B,C,D,f,g,i,j,k⟩
structure Lw(l:List Nat):Prop where
 u:True
section
variable {C:Cx} {Q:Exit->St->Prop} {st:St} {id:Nat} {ops:Array Oper} {hn:List Nat}
theorem Wl(_:Lw hn)(h:fW C.P hn C.N ops (Q .normal) ops.toList st):WP C (.region id ops false) Q st:=WP.region h
theorem Wm(_:Lw hn)(h:mT C.P hn C.N ops (λb st=>qG (mR ops.toList []) b=true/\Q .normal st) ops.toList [] st)(c:C.P.follows .mixedOrders=true:=by rw[hP];kernel_rfl)(a:mS ops=true:=by kernel_rfl):WP C (.region id ops true) Q st:=Wi hn h c a
end
theorem GS(s:S)(h:S->G:=by
 intro hS
 with_reducible repeat' (first|refine Sp.h ?_|((first|refine Wd ?_|refine Ss.h ?_|refine Sc.h (by first|assumption|apply_assumption) ?_|(refine Sb.h ?_ ?_ ?_<;>(try intro hgd)<;>try exact Xy))<;>simp -implicitDefEqProofs (maxSteps:=2000000) [hP,hN,hS]<;>try refine Ya ?_)|refine X2 ?_ ?_|(refine Xd ?_ ?_<;>intro hcd<;>try exact Xx))):G:=h s
theorem GT(s:S)(x:H)(h:S->Hid H->G:=by
 intro hS hG0
 with_reducible repeat' (first|refine Sp.h ?_|((first|refine Wd ?_|refine Ss.h ?_|refine Sc.h (by first|assumption|apply_assumption) ?_|(refine Sb.h ?_ ?_ ?_<;>(try intro hgd)<;>try exact Xy))<;>simp -implicitDefEqProofs (maxSteps:=2000000) [hP,hN,hS]<;>try refine Ya ?_)|refine X2 ?_ ?_|(refine Xd ?_ ?_<;>intro hcd<;>try exact Xx))
 exact hG0.h):G:=h s ⟨x⟩
theorem rG(l:List Nat)(s:S)(x:H)(h:Lw l->S->Hid H->G:=by
 intro hL hS hG0
 with_reducible repeat' (first|refine Sp.h ?_|((first|refine Wl hL ?_|refine Wm hL ?_|refine Ss.h ?_|refine Sc.h (by first|assumption|apply_assumption) ?_|(refine Sb.h ?_ ?_ ?_<;>(try intro hgd)<;>try exact Xy))<;>simp -implicitDefEqProofs (maxSteps:=2000000) [hP,hN,hS]<;>try refine Ya ?_)|refine X2 ?_ ?_|(refine Xd ?_ ?_<;>intro hcd<;>try exact Xx))
 exact hG0.h):G:=h ⟨trivial⟩ s ⟨x⟩
end Go.Ab
