/- The contracts and facts that the laws of this seat need, in one text (ClA, AbG). -/
import Derived.Test.YtidomjacfogjlaaGreatU2
import Derived.ReadAgain
import Derived.ChangeBears
import Derived.ChangeArms
import Derived.ChangeSame
import Derived.OpenShut
import Derived.Deep.Frames
import Derived.ProofKit
import Derived.JoinedCond
import Derived.JoinedOf
set_option linter.all false
set_option maxRecDepth 10000
namespace Go.Ab
open IntKind (i64)
open Go.ChangeShapes Go.WideShapes
mutual
def fo{H:Type}:DataW H->List PV
 |.lit (.bool b)=>[.val (.bool b)]
 |.lit (.int k n)=>[.val (.int k n)]
 |.lit (.float k b)=>[.val (.float k b)]
 |.lit (.string s)=>[.val (.string ⟨s.toArray⟩)]
 |.lit .nil=>[.sl []]
 |.nil=>[.sl []]
 |.slice c _=>[.sl (zp c)]
 |.agg a=>n9 a
 |_=>[]
def zp{H:Type}:List (DataW H)->List PV
 |[]=>[]
 |d::r=>eS d::zp r
def n9{H:Type}:List (DataW H)->List PV
 |[]=>[]
 |d::r=>fo d++n9 r
def eS{H:Type}:DataW H->PV
 |.lit (.bool b)=>.val (.bool b)
 |.lit (.int k n)=>.val (.int k n)
 |.lit (.float k b)=>.val (.float k b)
 |.lit (.string s)=>.val (.string ⟨s.toArray⟩)
 |.slice c _=>.sl (zp c)
 |.agg a=>fF (n9 a)
 |_=>.sl []
end
variable {handsOn:Bool}{s:ChangeSpec}{w':World}
def jr(P:Program):Nat->TypeId->Bool
 |0,_=>false
 |n+1,t=>match P.underlying t with
  |some .bool=>true
  |some (.int _)=>true
  |some .string=>true
  |some (.slice e)=>jr P n e&&decide (0<P.cellsOf e)
  |some (.struct a)=>a.toList.all λf=>jr P n f.type
  |some (.array _ e)=>jr P n e
  |_=>false
def gO{H:Type}(P:Program):Nat->TypeId->DataW H->Prop
 |0,_,_=>False
 |n+1,t,d=>match P.underlying t with
  |some .bool=>∃b,d=.lit (.bool b)
  |some (.int k)=>∃i,d=.lit (.int k i)/\(Lit.int k i).wf=true
  |some .string=>∃s,d=.lit (.string s)
  |some (.slice e)=>d=.nil\/∃c sp,d=.slice c sp/\c.length<=maxLen/\∀x∈c,gO P n e x
  |some (.struct g)=>∃a,d=.agg a/\a.length=g.size/\∀(i:Nat) f x,g[i]?=some f->a[i]?=some x->gO P n f.type x
  |some (.array m e)=>∃a,d=.agg a/\a.length=m/\∀x∈a,gO P n e x
  |_=>False
abbrev rQ:Nat->Nat->Prop:=λ_ _=>False
theorem KN{H:Type}(ds:List (DataW H)):zp ds=ds.map eS:=by
 induction ds with
 |nil=>simp[zp]
 |cons d r ih=>simp[zp,ih]
theorem CA{H:Type}(ds:List (DataW H)):n9 ds=ds.flatMap fo:=by
 induction ds with
 |nil=>simp[n9]
 |cons d r ih=>simp[n9,ih]
theorem bS.append{w:World}{M:Nat->Nat->Prop}{ps qs:List PV}{us vs:List Value}(h:bS w M ps us)(h':bS w M qs vs):bS w M (ps++qs) (us++vs):=by
 refine⟨by simp[h.1,h'.1],λi p u hp a=>?_⟩;by_cases hi:i<ps.length
 .rw[T4 hi]at hp
  rw[T4 (by have:=h.1;omega)]at a;exact h.2 i p u hp a
 .rw[T7 (by omega)]at hp
  rw[T7 (by have:=h.1;omega)]at a;refine h'.2 _ p u hp ?_;rw[h.1];exact a
theorem vn{H α:Type}{w:World}{M:Nat->Nat->Prop}{g:α->List Value}:∀{fs:List α}{ds:List (DataW H)},fs.length=ds.length->
 (∀(i:Nat) f d,fs[i]?=some f->ds[i]?=some d->bS w M (fo d) (g f))->bS w M (ds.flatMap fo) (fs.flatMap g)
 |[],[],_,_=>by simpa using bS.nil
 |f::fs,d::ds,a,h=>by
  simp only[List.flatMap_cons];exact(h 0 f d rfl rfl).append (vn (by simpa using a) (λi c b e j=>h (i+1) c b (by simpa using e) (by simpa using j)))
 |[],_::_,a,_=>by simp at a
 |_::_,[],a,_=>by simp at a
theorem Mb{cs:List Value}(cell:Field->Nat):∀(fs:List Field)(o:Nat),(∀(j:Nat) f,fs[j]?=some f->f.offset=o+((fs.take j).map cell).sum)->cs.length=o+(fs.map cell).sum->
 cs.drop o=fs.flatMap λf=>(cs.drop f.offset).take (cell f)
 |[],o,_,a=>by simp at a;simp[List.drop_of_length_le (by omega:cs.length<=o)]
 |f::fs,o,h,a=>by
  have c:f.offset=o:=by simpa using h 0 f rfl
  have ih:=Mb (cs:=cs) cell fs (o+cell f) (λj b d=>by
   have:=h (j+1) b (by simpa using d);simp only[List.take_succ_cons,U9,List.sum_cons]at this
   omega) (by simp only[U9,List.sum_cons]at a;omega)
  simp only[List.flatMap_cons];rw[<-ih,c,<-List.drop_drop,UY]
theorem J2{cs:List Value}(c:Nat):∀(n o:Nat),cs.length=o*c+n*c->cs.drop (o*c)=(List.range' o n).flatMap λi=>(cs.drop (i*c)).take c
 |0,o,a=>by simp;omega
 |n+1,o,a=>by
  have ih:=J2 c n (o+1) (by rw[a,UK,UK];omega);simp only[List.range'_succ,List.flatMap_cons];rw[<-ih,UK,Nat.one_mul,<-List.drop_drop,UY]
section
variable {H:Type} {enc:TypeId×Value->H} {P:Program} {w:World} {base:Nat} {spare:Nat->Bool} {held:Bool}
theorem Iu(K:Kids P (·< P.types.size)):∀(n m:Nat)(t:TypeId)(cs:List Value)(x:DataW H×List MemPlace),t<P.types.size->jr P m t=true->
 DataW.trod enc P w base spare held n t cs=some x->bS w rQ (fo x.1) cs/\gO P n t x.1/\(eS x.1).cells=fo x.1:=by
 intro n
 induction n with
 |zero=>intro m t cs x _ _ h;simp[DataW.trod]at h
 |succ n ih=>
  intro m t cs x U B h
  cases m with
  |zero=>simp[jr]at B
  |succ m=>
  have ad:=B;simp only[jr]at B;have one:∀{p:PV}{u:Value},Rep w rQ p u->bS w rQ [p] [u]:=λhq=>.cons hq .nil
  cases l:P.underlying t with
  |none=>rw[l]at B;simp at B
  |some u=>
  rw[l]at B
  cases u with
  |bool=>
   unfold DataW.trod at h;rw[l]at h;split at h<;>simp_all;subst h;simp only[fo,eS,gO,l];exact⟨one (.val _),⟨_,rfl⟩,by simp[PV.cells,Value.cells]⟩
  |int k=>
   obtain⟨i,rfl,rfl,hw⟩:=DataW.trod_int l h;simp only[fo,eS,gO,l];exact⟨one (.val _),⟨i,rfl,hw⟩,by simp[PV.cells,Value.cells]⟩
  |string=>
   obtain⟨s,rfl,rfl,hw⟩:=DataW.trod_string l h
   have e:(⟨s.data.toList.toArray⟩:ByteArray)=s:=by cases s;simp
   simp only[fo,eS,gO,l];rw[e];exact⟨one (.val _),⟨_,rfl⟩,by simp[PV.cells,Value.cells]⟩
  |slice e=>
   simp only[An,L4]at B;have V:=K.slice U l;rcases DataW.trod_slice l h with⟨rfl,rfl⟩|⟨a,len,cap,elems,rest,k,hk,rfl,rfl,hb,hl,ar,z,W,a2,a1⟩
   .simp only[fo,eS,gO,l]
    exact⟨one (.sl0 _ _),.inl trivial,by simp[PV.cells]⟩
   .obtain rfl:k=n:=by omega
    have each:∀i y,elems[i]?=some y->∃g,w.cells? base (a.add (i*P.cellsOf e)) (P.cellsOf e)=some g/\bS w rQ (fo y.1) g/\gO P k e y.1/\(eS y.1).cells=fo y.1:=by
     intro i y c
     have hi:i<len:=by rw[<-z];exact(th.1 c).1
     have:=W i hi;rw[c,Option.bind_eq_some_iff]at this;obtain⟨g,L,N⟩:=this;exact⟨g,L,ih m e g y V B.1 N⟩
    simp only[fo,eS,gO,l];refine⟨one ?_,.inr ⟨_,_,rfl,by simp only[Ux];omega,?_⟩,by simp[PV.cells]⟩
    .rw[KN,List.map_map]
     cases D:elems with
     |nil=>subst D;simp at z;subst z;exact .sl0 _ _
     |cons y0 ys=>
      have h0:elems[0]?=some y0:=by rw[D];rfl
      rw[<-D]
      have G:a.spot=none:=by
       obtain⟨g,L,N,_,_⟩:=each 0 y0 h0;obtain⟨_,O,R⟩:=World.cells?_some L;have h5:=R 0 B.2;have h6:g[0]?=some g[0]:=an (by omega);rw[h6]at h5
       have e1:((a.add (0*P.cellsOf e)).add 0)=a:=by simp[Addr.add]
       rw[e1]at h5;unfold World.cell? at h5;split at h5
       .split at h5
        .cases h5
        .rename_i hs;cases S:a.spot with
         |none=>rfl
         |some _=>simp[S]at hs
       .cases h5
      obtain⟨b,o,sp⟩:=a;simp only at G;subst G
      have C:∀i y,elems[i]?=some y->∀j p,(fo y.1)[j]?=some p->∃v,w.cell? ⟨b,o+(i*P.cellsOf e+j),none⟩=some v/\Rep w rQ p v:=by
       intro i y c j p hp;obtain⟨g,L,N,_,_⟩:=each i y c;obtain⟨_,O,R⟩:=World.cells?_some L;have X:j<(fo y.1).length:=(th.1 hp).1
       have Y:j<g.length:=by rw[<-N.1];exact X
       have h5:=R j (by omega);have h6:g[j]?=some g[j]:=an Y;rw[h6,eV,eV]at h5;exact⟨_,by rw[<-VA];exact h5,N.2 j p _ hp h6⟩
      have F:(elems.map (eS∘λx=>x.1)).length=len:=by simp[z]
      have E:=Rep.sl (w:=w) (M:=rQ) (elems.map (eS∘λx=>x.1)) b o cap (P.cellsOf e) (λi j=>(w.cell? ⟨b,o+(i*P.cellsOf e+j),none⟩).getD default) (by rw[F];exact hl)
       (by
         intro i x A;simp only[TR,No]at A;obtain⟨y,c,rfl⟩:=A;obtain⟨g,L,N,_,O⟩:=each i y c;obtain⟨_,R,_⟩:=World.cells?_some L;simp only[Function.comp]
         rw[O,N.1,R])
       (by
         intro i x j p A hp;simp only[TR,No]at A;obtain⟨y,c,rfl⟩:=A;obtain⟨_,_,_,_,O⟩:=each i y c;simp only[Function.comp]at hp;rw[O]at hp;obtain⟨v,Z,_⟩:=C i y c j p hp
         simp[Z,rQ])
       (by
         intro i x j p A hp;simp only[TR,No]at A;obtain⟨y,c,rfl⟩:=A;obtain⟨_,_,_,_,O⟩:=each i y c;simp only[Function.comp]at hp;rw[O]at hp;obtain⟨v,Z,hr⟩:=C i y c j p hp
         simpa[Z]using hr)
      rw[F]at E;exact E
    .intro x A
     obtain⟨y,c,rfl⟩:=Ur.1 A;obtain⟨i,hi⟩:=UB c;obtain⟨_,_,_,hf,_⟩:=each i y hi;exact hf
  |struct T=>
   obtain⟨xs,k,hk,rfl,Q,r,A⟩:=DataW.trod_struct l h
   obtain rfl:k=n:=by omega
   obtain⟨k1,k2,k3⟩:=K.struct U l
   have each:∀(i:Nat) f y,T[i]?=some f->xs[i]?=some y->bS w rQ (fo y.1) ((cs.drop f.offset).take (P.cellsOf f.type))/\gO P k f.type y.1/\(eS y.1).cells=fo y.1:=by
    intro i f y hf c
    have J:f∈T.toList:=by
     have:T.toList[i]?=some f:=by simpa using hf
     exact Is this
    exact ih m f.type _ y (k1 f J) (TP.1 B f J) (by rw[A i f hf,c])
   have q:=Mb (cs:=cs) (λf=>P.cellsOf f.type) T.toList 0 (λj f X=>by simpa using k3 j f X) (by rw[Q,k2];simp);simp only[WF]at q;simp only[fo,eS,gO,l,CA,kJ];refine⟨?_,⟨_,rfl,by simp[r],λi f x hf I=>?_⟩,trivial⟩
   .rw[q]
    refine vn (by simp[r]) (λi f d hf hd=>?_);simp only[TR,No]at hd;obtain⟨y,c,rfl⟩:=hd;exact(each i f y (by simpa using hf) c).1
   .simp only[TR,No]at I
    obtain⟨y,c,rfl⟩:=I;exact(each i f y hf c).2.1
  |array len e=>
   obtain⟨xs,k,hk,rfl,Q,r,A⟩:=DataW.trod_array l h
   obtain rfl:k=n:=by omega
   obtain⟨k1,k2⟩:=K.array U l
   have each:∀(i:Nat) y,xs[i]?=some y->bS w rQ (fo y.1) ((cs.drop (i*P.cellsOf e)).take (P.cellsOf e))/\gO P k e y.1/\(eS y.1).cells=fo y.1:=by
    intro i y c
    have hi:i<len:=by rw[<-r];exact(th.1 c).1
    exact ih m e _ y k1 B (by rw[A i hi,c])
   have q:=J2 (cs:=cs) (P.cellsOf e) len 0 (by rw[Q,k2];omega);simp only[WB,WF]at q;simp only[fo,eS,gO,l,CA,kJ];refine⟨?_,⟨_,rfl,by simp[r],λx I=>?_⟩,trivial⟩
   .rw[q]
    refine vn (by simp[r]) (λi f d hf hd=>?_);simp only[TR,No]at hd;obtain⟨y,c,rfl⟩:=hd
    have hi:i<len:=by rw[<-r];exact(th.1 c).1
    rw[List.getElem?_range' hi]at hf
    obtain rfl:i=f:=by simp at hf;omega
    exact(each i y c).1
   .obtain⟨y,c,rfl⟩:=Ur.1 I
    obtain⟨i,hi⟩:=UB c;exact(each i y hi).2.1
  |_=>simp at B
theorem Iw(K:Kids P (·< P.types.size)){m:Nat}{t:TypeId}{v:Value}{d:DataW H}{ps:List MemPlace}{W:World}{r:Reach}{l:Nat}(z:t<P.types.size)(g:jr P m t=true)
 (a:Value.okWide P W r l t v)(h:DataW.Trod enc P w base spare held t v d ps):Rep w rQ (eS d) v/\∃n,gO P n t d:=by
 obtain⟨n,hn⟩:=h;obtain⟨j,c,D⟩:=Iu K n m t _ _ z g hn;refine⟨?_,n,c⟩
 cases n with
 |zero=>simp[DataW.trod]at hn
 |succ n=>
 cases m with
 |zero=>simp[jr]at g
 |succ m=>
 simp only[jr]at g
 cases f:P.underlying t with
 |none=>rw[f]at g;simp at g
 |some u=>
 rw[f]at g
 have one:∀{p:PV},fo d=[p]->eS d=p->v.cells.toList=[v]->Rep w rQ (eS d) v:=by
  intro p s x y;rw[s,y]at j;obtain⟨u,E,e,A,_⟩:=j.cons_inv;injection e with e _;rw[x,e];exact A
 simp only[Value.okWide,f]at a;simp only[gO,f]at c
 cases u with
 |bool=>
  obtain⟨b,rfl⟩:=c
  have:v.cells.toList=[v]:=by simp only[Cell.okWide,f]at a;cases v<;>simp_all[Cell.ok,Value.cells]
  exact one (by simp[fo];rfl) (by simp[eS]) this
 |int k=>
  obtain⟨i,rfl,_⟩:=c
  have:v.cells.toList=[v]:=by simp only[Cell.okWide,f]at a;cases v<;>simp_all[Cell.ok,Value.cells]
  exact one (by simp[fo];rfl) (by simp[eS]) this
 |string=>
  obtain⟨i,rfl⟩:=c
  have:v.cells.toList=[v]:=by simp only[Cell.okWide,f]at a;cases v<;>simp_all[Cell.ok,Value.cells]
  exact one (by simp[fo];rfl) (by simp[eS]) this
 |slice e=>
  have:v.cells.toList=[v]:=by simp only[Cell.okWide,f]at a;cases v<;>simp_all[Cell.ok,Value.cells]
  rcases c with rfl|⟨B,sp,rfl,_⟩
  all_goals exact one (by simp[fo];rfl) (by simp[eS]) this
 |struct C=>
  obtain⟨q,rfl,_⟩:=c;obtain⟨o,rfl,_⟩:=a;simp only[fo,Value.cells]at j;simp only[eS];have:=k9 j;simpa using this
 |array len e=>
  obtain⟨q,rfl,_⟩:=c;obtain⟨o,rfl,_⟩:=a;simp only[fo,Value.cells]at j;simp only[eS];have:=k9 j;simpa using this
 |_=>simp at g
end
open Go.ChangeAt Go.RowKit
def sR{H:Type}(P:Program):List TypeId->List (DataW H)->Prop
 |[],[]=>True
 |t::b,d::a=>(∃n,gO P n t d)/\sR P b a
 |_,_=>False
section
variable {H:Type} {enc:TypeId×Value->H} {P:Program} {w:World} {base:Nat} {spare:Nat->Bool} {held:Bool}
theorem xl(K:Kids P (·< P.types.size)){W:World}{r:Reach}{g:Nat}:∀{e:List TypeId}{vs:List Value}{ds:List (DataW H)}{ps:List MemPlace},(∀t∈e,t<P.types.size/\jr P 20 t=true)->
 (∀(j:Nat) t v,e[j]?=some t->vs[j]?=some v->Value.okWide P W r g t v)->DataW.TrodAll enc P w base spare held e vs ds ps->
 sR P e ds/\vs.length=ds.length/\ds.length=e.length/\∀(i:Nat) d v,ds[i]?=some d->vs[i]?=some v->Rep w rQ (eS d) v
 |[],vs,ds,ps,_,_,h=>by
  obtain⟨rfl,rfl,rfl⟩:=trodAll_nil h;exact⟨trivial,rfl,rfl,λi d v h=>by simp at h⟩
 |t::e,vs,ds,ps,hp,f,h=>by
  obtain⟨v,D,d,l,a,b,rfl,rfl,rfl,p,q⟩:=trodAll_cons h;obtain⟨s,u⟩:=hp t (by simp);obtain⟨A,m⟩:=Iw K s u (f 0 t v rfl rfl) p;obtain⟨n,y,z,B⟩:=xl K (λt x=>hp t (by simp[x])) (λj t v h o=>f (j+1) t v (by simpa using h) (by simpa using o)) q;refine⟨⟨m,n⟩,by simp[y],by simp[z],λi k C hd c=>?_⟩
  cases i with
  |zero=>simp at hd c;subst hd;subst c;exact A
  |succ i=>exact B i k C (by simpa using hd) (by simpa using c)
theorem Ext.sameAt{w:World}(h:Ext (·∈([]:List Nat)) w w'){p:MemPlace}(hp:p.block<w.heap.size):w.sameAt w' p:=by
 cases p with
 |cell b o=>exact h.cell hp (by simp)
 |map b=>exact h.block b hp (by simp)
theorem Ext.kept{w:World}(h:Ext (·∈([]:List Nat)) w w')(may:MemPlace->Prop):w.keptBut w' may:=by
 refine⟨h.os,h.output,λi hi=>?_⟩;rw[h.block i hi (by simp)];have:w.heap[i]?=some w.heap[i]:=UJ hi;rw[this]
 cases w.heap[i]with
 |cells c t b=>exact⟨rfl,rfl,rfl,λ_ _=>rfl⟩
 |map a clock=>exact Or.inr ⟨rfl,rfl⟩
 |_=>rfl
theorem uJ{w f:World}:∀{c:List TypeId}{vs:List Value}{ds:List (DataW H)}{ps:List MemPlace},DataW.TrodAll enc P w base spare held c vs ds ps->(∀p∈ps,w.sameAt f p)->DataW.TrodAll enc P f base spare held c vs ds ps
 |[],vs,ds,ps,h,_=>by
  obtain⟨rfl,rfl,rfl⟩:=trodAll_nil h;exact trodAll_mk0
 |t::c,vs,ds,ps,h,e=>by
  obtain⟨v,k,d,g,a,b,rfl,rfl,rfl,⟨n,i⟩,j⟩:=trodAll_cons h;exact⟨a,b,⟨n,DataW.trod_carry n _ _ _ i (λp hp=>e p (by simp at hp|-;exact .inl hp))⟩,uJ j (λp hp=>e p (by simp[hp])),rfl⟩
theorem D1{w:World}(h:Ext (·∈([]:List Nat)) w w'){a:Addr}(b:a.block<w.heap.size):w'.frozen? a=w.frozen? a:=by
 unfold World.frozen?;rw[h.block _ b (by simp)]
theorem G3{f:Func}{apart fresh again:Bool}{W k:World}{args:Array Value}{v:Value}{ds l:List (DataW H)}{before pa pv:List MemPlace}
 (o:DataW.Whole enc P f.params.toList s.vars apart W args.toList ds l before)
 (i:∀(b:Nat)(sp:Nat->Bool)(hd:Bool),DataW.TrodAll enc P k b sp hd f.resultTypes.toList (v.resultList f.resultTypes.size) (s.fn H (ds++l)).results [])
 (c:∀sp:Nat->Bool,(∀p∈before,sp p.block=true)->DataW.TrodAll enc P k 0 sp true f.params.toList args.toList (s.fn H (ds++l)).args pa)
 (d:∀sp:Nat->Bool,(∀p∈before,sp p.block=true)->DataW.TrodVars enc P k sp s.vars (s.fn H (ds++l)).vars pv)
 (e:before=pa++pv)(z:W.keptBut k (·∈before))(q:∀a:Addr,a.block<W.heap.size->k.frozen? a=W.frozen? a)
 (u:∀(j:Nat)(t:TypeId)(r:Value),f.resultTypes[j]?=some t->(v.resultList f.resultTypes.size)[j]?=some r->Value.okWide P k .any 0 t r):
 s.post enc P f apart fresh handsOn again W args v k:=by
 have m:∀p∈before,p.block<W.heap.size:=o.lt
 have g:∀p∈before,(λb=>decide (b<W.heap.size)) p.block=true:=λp hp=>by simpa using m p hp
 refine⟨ds,l,before,[],pa,pv,o,i _ _ _,c _ g,d _ g,World.keptBut_mono (λp hp=>⟨hp,?_⟩) z,λ_=>?_⟩
 .rw[e,Ui]at hp
  exact Or.inr hp
 .obtain⟨_,_,_,_,_,A,hn⟩:=o
  refine⟨u,_,_,([]++pa)++pv,⟨[]++pa,pv,trodAll_append (c _ (λ_ _=>rfl)) (i _ _ _),d _ (λ_ _=>rfl),rfl,?_,?_⟩,?_⟩
  .intro b n hp
   have x:MemPlace.cell b n∈before:=by rw[e];simpa using hp
   rw[q _ (m _ x)];exact A b n x
  .intro y
   have:=hn y;rw[e]at this;simpa using this
  .intro p hp _
   rw[e];simpa using hp
theorem vo{f:FuncId}{fn:Func}{tb:TypeId}{apart fresh again:Bool}(K:Kids P (·< P.types.size))(full:∀t e,t<P.types.size->P.underlying t=some (.slice e)->0<P.cellsOf e)
 (r:(fn.params.toList.all λt=>decide (t<P.types.size)&&jr P 20 t)=true)(k:fn.resultTypes=#[tb])(A:P.underlying tb=some .bool)(l:s.vars=[])
 (W:World)(base:Nat)(args:Array Value)(ds S:List (DataW H))(before:List MemPlace)
 (B:∀(j:Nat) t v,fn.params[j]?=some t->args[j]?=some v->Value.okWide P W .any base t v)
 (R:DataW.Whole enc P fn.params.toList s.vars apart W args.toList ds S before)
 (m:sR P fn.params.toList ds->s.fn H ds={results:=[.lit (.bool true)],args:=ds})
 (y:sR P fn.params.toList ds->aP P f (ds.map λd=>.pv (eS d)) [] [] (.pv (.val (.bool true)))):
 Calls P f args W λe D=>∃v,e=.returned v/\s.post enc P fn apart fresh handsOn again W args v D:=by
 have o:∀t∈fn.params.toList,t<P.types.size/\jr P 20 t=true:=λt M=>by
  have:=TP.1 r t M;simpa using this
 have x:=R;obtain⟨p,q,O,Q,rfl,X,Z⟩:=R;rw[l]at Q;obtain⟨rfl,rfl⟩:=trodVars_none Q;obtain⟨n,F,Y,z⟩:=xl K o (λj t v h T=>B j t v (by simpa using h) (by simpa using T)) O;obtain⟨E,_,U⟩:=y n
 have c:s.fn H (ds++[])={results:=[.lit (.bool true)],args:=ds}:=by rw[V9];exact m n
 have I:∀u∈p++[],u.block<W.heap.size:=λu g=>x.lt u g
 have:=U W rQ [] args.toList (λ_ _ h=>h.elim) rfl List.nodup_nil (λi b ps h=>by simp at h) (by simp[F]) (by
  intro i a v C hv;simp only[TR,No]at C;obtain⟨d,hd,rfl⟩:=C
  exact z i d v hd hv)
 simp only[Array.toArray_toList]at this;refine this.mono λe D ⟨v,V,N,_,hr⟩=>⟨v,V,?_⟩;have J:Rep D rQ (.val (.bool true)) v:=hr;cases J
 have G:fn.resultTypes.size=1:=by rw[k];rfl
 refine G3 (pa:=p) (pv:=[]) x (λb sp hd=>?_) (λsp L=>?_) (λsp _=>?_) rfl (N.kept _) (λa C=>D1 N C) ?_
 .rw[c,k]
  exact trodAll_cons_mk (shut_bool A true) trodAll_mk0
 .rw[c]
  exact(uJ (O.respare K full (λt M=>(o t M).1) (λu g=>L u (by simp[g]))) (λu g=>N.sameAt (I u (by simp[g]))))
 .rw[l,c];rfl
 .exact ok_one k rfl (okWide_bool_mk A true)
end
end Go.Ab
namespace Go.Ab
open IntKind (i64)
mutual
def fB{H:Type}:DataW H->Nat
 |.lit (.string bytes)=>bytes.length+1
 |.lit _=>1
 |.nil=>1
 |.slice elems spare=>iP elems+iP spare+1
 |.agg parts=>iP parts+1
 |_=>1
def iP{H:Type}:List (DataW H)->Nat
 |[]=>0
 |d::r=>fB d+iP r
end
section
variable {H:Type} {P:Program}
def mi(P:Program)(t:TypeId)(d:DataW H):Prop:=∃n,gO P n t d
def iQ(H:Type)(P:Program)(t:TypeId){α:Type}(e:α->PV)(Q:α->Prop)(sz:α->Nat):Prop:=∀d:DataW H,mi P t d->∃a,eS d=e a/\Q a/\sz a<=fB d
theorem A5{t:TypeId}{k:IntKind}(b:P.underlying t=some (.int k)):iQ H P t (λi=>.val (.int k i)) (λi=>k.min<=i/\i<=k.max) (λ_=>1):=by
 rintro d ⟨n,h⟩
 cases n with
 |zero=>exact h.elim
 |succ n=>
  simp only[gO,b]at h;obtain⟨i,rfl,a⟩:=h;simp only[Lit.wf,An,L4]at a;exact⟨i,by simp[eS],a,by simp[fB]⟩
theorem ge{t m:TypeId}{α:Type}{e:α->PV}{Q:α->Prop}{sz:α->Nat}(q:P.underlying t=some (.slice m))(h:iQ H P m e Q sz):
 iQ H P t (λl:List α=>.sl (l.map e)) (λl=>l.length<=9223372036854775807/\∀a∈l,Q a) (λl=>(l.map sz).sum+1):=by
 rintro d ⟨n,hf⟩
 cases n with
 |zero=>exact hf.elim
 |succ n=>
  simp only[gO,q]at hf;rcases hf with rfl|⟨b,sp,rfl,c,j⟩
  .exact⟨[],by simp[eS],by simp,by simp[fB]⟩
  .have f:∀b:List (DataW H),(∀x∈b,gO P n m x)->∃l:List α,zp b=l.map e/\l.length=b.length/\(∀a∈l,Q a)/\(l.map sz).sum<=iP b:=by
    intro b
    induction b with
    |nil=>intro _;exact⟨[],by simp[zp],rfl,by simp,by simp⟩
    |cons x r ih=>
     intro o;obtain⟨l,g,k,i,p⟩:=ih (λy s=>o y (by simp[s]));obtain⟨a,g1,g2,g3⟩:=h x ⟨n,o x (by simp)⟩;refine⟨a::l,by simp[zp,g,g1],by simp[k],by simpa using⟨g2,i⟩,?_⟩;simp only[U9,List.sum_cons,iP];omega
   obtain⟨l,g,k,i,p⟩:=f b j;refine⟨l,by simp[eS,g],⟨by rw[k];exact c,i⟩,?_⟩;simp only[fB];omega
theorem dW{t:TypeId}{k:IntKind}{d:DataW H}(b:P.underlying t=some (.int k))(h:mi P t d):∃i,d=.lit (.int k i)/\k.min<=i/\i<=k.max:=by
 obtain⟨n,h⟩:=h
 cases n with
 |zero=>exact h.elim
 |succ n=>
  simp only[gO,b]at h;obtain⟨i,rfl,a⟩:=h;simp only[Lit.wf,An,L4]at a;exact⟨i,rfl,a⟩
theorem FB{t:TypeId}{d:DataW H}(a:P.underlying t=some .string)(h:mi P t d):∃s,d=.lit (.string s):=by
 obtain⟨n,h⟩:=h
 cases n with
 |zero=>exact h.elim
 |succ n=>
  simp only[gO,a]at h;exact h
theorem Ai{α:Type}{l:List α}(h:l.length=3):∃a b c,l=[a,b,c]:=by
 match l,h with
 |[a,b,c],_=>exact⟨a,b,c,rfl⟩
theorem FC{α:Type}{l:List α}(h:l.length=2):∃a b,l=[a,b]:=by
 match l,h with
 |[a,b],_=>exact⟨a,b,rfl⟩
theorem N1{α:Type}{l:List α}(h:l.length=10):∃a0 a b a3 a4 c d e f g,l=[a0,a,b,a3,a4,c,d,e,f,g]:=by
 match l,h with
 |[a0,a,b,a3,a4,c,d,e,f,g],_=>exact⟨a0,a,b,a3,a4,c,d,e,f,g,rfl⟩
theorem wC{t g:TypeId}{d:DataW H}(j:P.underlying t=some (.array 3 g))(f:P.underlying g=some (.int .i64)){d:DataW H}(h:mi P t d):∃x y z,d=.agg [.lit (.int .i64 x),.lit (.int .i64 y),.lit (.int .i64 z)]:=by
 obtain⟨n,hf⟩:=h
 cases n with
 |zero=>exact hf.elim
 |succ n=>
  simp only[gO,j]at hf;obtain⟨k,rfl,i,e⟩:=hf;obtain⟨a,b,c,rfl⟩:=Ai i;obtain⟨x,rfl,_⟩:=dW (H:=H) f ⟨n,e a (by simp)⟩;obtain⟨y,rfl,_⟩:=dW (H:=H) f ⟨n,e b (by simp)⟩;obtain⟨z,rfl,_⟩:=dW (H:=H) f ⟨n,e c (by simp)⟩;exact⟨x,y,z,rfl⟩
theorem kM{α:Type}(sz:α->Nat)(h:∀a,1<=sz a):∀l:List α,l.length<=(l.map sz).sum
 |[]=>by simp
 |a::l=>by have:=kM sz h l;have:=h a;simp only[U9,List.sum_cons,VE];omega
theorem gm{t:TypeId}{fs:Array Field}{d:DataW H}(g:P.underlying t=some (.struct fs))(h:mi P t d):
 ∃a,d=.agg a/\a.length=fs.size/\∀(i:Nat) f x,fs[i]?=some f->a[i]?=some x->mi P f.type x:=by
 obtain⟨n,hf⟩:=h
 cases n with
 |zero=>exact hf.elim
 |succ n=>
  simp only[gO,g]at hf;obtain⟨a,rfl,c,e⟩:=hf;exact⟨a,rfl,c,λi f x h b=>⟨n,e i f x h b⟩⟩
end
structure Hid(H:Prop):Prop where
 h:H
variable {G H S:Prop}
theorem Gy(h:G:=by
 with_reducible repeat' (first|refine Sp.h ?_|((first|refine Wd ?_|refine Ss.h ?_|refine Sc.h (by assumption) ?_|(refine Sb.h ?_ ?_ ?_<;>(try intro hgd)<;>try exact Xy))<;>simp -implicitDefEqProofs (maxSteps:=2000000) [hP,hN, *]<;>try refine Ya ?_)|refine X2 ?_ ?_|(refine Xd ?_ ?_<;>intro hcd<;>try exact Xx))):G:=h
theorem Gz(x:H)(h:Hid H->G:=by
 intro hG0
 with_reducible repeat' (first|refine Sp.h ?_|((first|refine Wd ?_|refine Ss.h ?_|refine Sc.h (by assumption) ?_|(refine Sb.h ?_ ?_ ?_<;>(try intro hgd)<;>try exact Xy))<;>simp -implicitDefEqProofs (maxSteps:=2000000) [hP,hN, *]<;>try refine Ya ?_)|refine X2 ?_ ?_|(refine Xd ?_ ?_<;>intro hcd<;>try exact Xx))
 exact hG0.h):G:=h ⟨x⟩
theorem gA{a b:Prop}(x:a)(y:b):a/\b:=⟨x,y⟩
theorem be{p0 a b:Prop}(c:p0)(h1:a)(d:b):p0∧a∧b:=⟨c,h1,d⟩
theorem f7{p0 a b c:Prop}(d:p0)(h1:a)(e:b)(f:c):p0∧a∧b∧c:=⟨d,h1,e,f⟩
theorem go{p0 a b c d:Prop}(e:p0)(h1:a)(f:b)(g:c)(i:d):p0∧a∧b∧c∧d:=⟨e,h1,f,g,i⟩
theorem it{p0 a b c d e:Prop}(f:p0)(h1:a)(g:b)(i:c)(j:d)(h5:e):p0∧a∧b∧c∧d∧e:=⟨f,h1,g,i,j,h5⟩
theorem so{p0 a b c d e f:Prop}(g:p0)(h1:a)(i:b)(j:c)(k:d)(h5:e)(h6:f):p0∧a∧b∧c∧d∧e∧f:=⟨g,h1,i,j,k,h5,h6⟩
theorem s5{p0 a b c d e f g:Prop}(i:p0)(h1:a)(j:b)(k:c)(l:d)(h5:e)(h6:f)(h7:g):p0∧a∧b∧c∧d∧e∧f∧g:=⟨i,h1,j,k,l,h5,h6,h7⟩
theorem s6{p0 a b c d e f g i p9:Prop}(j:p0)(h1:a)(k:b)(l:c)(m:d)(h5:e)(h6:f)(h7:g)(h8:i)(n:p9):p0∧a∧b∧c∧d∧e∧f∧g∧i∧p9:=⟨j,h1,k,l,m,h5,h6,h7,h8,n⟩
theorem s7{p0 c d e f g i j k p9 a b:Prop}(l:p0)(h1:c)(m:d)(n:e)(o:f)(h5:g)(h6:i)(h7:j)(h8:k)(p:p9)(h10:a)(h11:b):p0∧c∧d∧e∧f∧g∧i∧j∧k∧p9∧a∧b:=⟨l,h1,m,n,o,h5,h6,h7,h8,p,h10,h11⟩
theorem zAa{p0 j k l m n o p q p9 a b c d e:Prop}(r:p0)(h1:j)(s:k)(u:l)(v:m)(h5:n)(h6:o)(h7:p)(h8:q)(x:p9)(h10:a)(h11:b)(f:c)(g:d)(i:e):p0∧j∧k∧l∧m∧n∧o∧p∧q∧p9∧a∧b∧c∧d∧e:=⟨r,h1,s,u,v,h5,h6,h7,h8,x,h10,h11,f,g,i⟩
structure Lw(l:List Nat):Prop where
 u:True
section
variable {C:Cx} {Q:Exit->St->Prop} {st:St} {id:Nat} {ops:Array Oper} {hn:List Nat}
theorem Wl(_:Lw hn)(h:dK C.P hn C.N ops (Q .normal) ops.toList st):WP C (.region id ops false) Q st:=WP.region h
theorem Wm(_:Lw hn)(h:kS C.P hn C.N ops (λb st=>jz (jX ops.toList []) b=true/\Q .normal st) ops.toList [] st)(c:C.P.follows .mixedOrders=true:=by rw[hP];kernel_rfl)(a:jY ops=true:=by kernel_rfl):WP C (.region id ops true) Q st:=Wi hn h c a
end
theorem GS(s:S)(h:S->G:=by
 intro hS
 with_reducible repeat' (first|refine Sp.h ?_|((first|refine Wd ?_|refine Ss.h ?_|refine Sc.h (by first|assumption|apply_assumption) ?_|(refine Sb.h ?_ ?_ ?_<;>(try intro hgd)<;>try exact Xy))<;>simp -implicitDefEqProofs (maxSteps:=2000000) [hP,hN,hS]<;>try refine Ya ?_)|refine X2 ?_ ?_|(refine Xd ?_ ?_<;>intro hcd<;>try exact Xx))):G:=h s
theorem GT(s:S)(x:H)(h:S->Hid H->G:=by
 intro hS hG0
 with_reducible repeat' (first|refine Sp.h ?_|((first|refine Wd ?_|refine Ss.h ?_|refine Sc.h (by first|assumption|apply_assumption) ?_|(refine Sb.h ?_ ?_ ?_<;>(try intro hgd)<;>try exact Xy))<;>simp -implicitDefEqProofs (maxSteps:=2000000) [hP,hN,hS]<;>try refine Ya ?_)|refine X2 ?_ ?_|(refine Xd ?_ ?_<;>intro hcd<;>try exact Xx))
 exact hG0.h):G:=h s ⟨x⟩
theorem AZ(l:List Nat)(s:S)(h:Lw l->S->G:=by
 intro hL hS
 with_reducible repeat' (first|refine Sp.h ?_|((first|refine Wl hL ?_|refine Wm hL ?_|refine Ss.h ?_|refine Sc.h (by first|assumption|apply_assumption) ?_|(refine Sb.h ?_ ?_ ?_<;>(try intro hgd)<;>try exact Xy))<;>simp -implicitDefEqProofs (maxSteps:=2000000) [hP,hN,hS]<;>try refine Ya ?_)|refine X2 ?_ ?_|(refine Xd ?_ ?_<;>intro hcd<;>try exact Xx))):G:=h ⟨trivial⟩ s
theorem sP(l:List Nat)(s:S)(x:H)(h:Lw l->S->Hid H->G:=by
 intro hL hS hG0
 with_reducible repeat' (first|refine Sp.h ?_|((first|refine Wl hL ?_|refine Wm hL ?_|refine Ss.h ?_|refine Sc.h (by first|assumption|apply_assumption) ?_|(refine Sb.h ?_ ?_ ?_<;>(try intro hgd)<;>try exact Xy))<;>simp -implicitDefEqProofs (maxSteps:=2000000) [hP,hN,hS]<;>try refine Ya ?_)|refine X2 ?_ ?_|(refine Xd ?_ ?_<;>intro hcd<;>try exact Xx))
 exact hG0.h):G:=h ⟨trivial⟩ s ⟨x⟩
end Go.Ab
