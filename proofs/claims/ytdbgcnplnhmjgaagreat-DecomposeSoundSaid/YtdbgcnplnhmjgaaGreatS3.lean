/- The contracts and facts that the laws of this seat need, in one text (ClA, AbG). -/
import Derived.Test.YtdbgcnplnhmjgaaGreatS2
import Derived.ReadAgain
import Derived.ChangeBears
import Derived.ChangeArms
import Derived.ChangeSame
import Derived.OpenShut
import Derived.Deep.Frames
import Derived.ProofKit
import Derived.JoinedCond
import Derived.JoinedOf
set_option linter.all false
set_option maxRecDepth 10000
namespace Go.Ab
open Go.ChangeShapes Go.WideShapes
mutual
def hC{H:Type}:DataW H->List PV
 |.lit (.bool b)=>[.val (.bool b)]
 |.lit (.int k n)=>[.val (.int k n)]
 |.lit (.float k b)=>[.val (.float k b)]
 |.lit (.string s)=>[.val (.string ⟨s.toArray⟩)]
 |.lit .nil=>[.sl []]
 |.nil=>[.sl []]
 |.slice es _=>[.sl (AB es)]
 |.agg ds=>wc ds
 |_=>[]
def AB{H:Type}:List (DataW H)->List PV
 |[]=>[]
 |d::r=>gu d::AB r
def wc{H:Type}:List (DataW H)->List PV
 |[]=>[]
 |d::r=>hC d++wc r
def gu{H:Type}:DataW H->PV
 |.lit (.bool b)=>.val (.bool b)
 |.lit (.int k n)=>.val (.int k n)
 |.lit (.float k b)=>.val (.float k b)
 |.lit (.string s)=>.val (.string ⟨s.toArray⟩)
 |.slice es _=>.sl (AB es)
 |.agg ds=>iA (wc ds)
 |_=>.sl []
end
variable {handsOn:Bool}{s:ChangeSpec}{w':World}
def jO(P:Program):Nat->TypeId->Bool
 |0,_=>false
 |n+1,t=>match P.underlying t with
  |some .bool=>true
  |some (.int _)=>true
  |some .string=>true
  |some (.slice e)=>jO P n e&&decide (0<P.cellsOf e)
  |some (.struct fs)=>fs.toList.all λf=>jO P n f.type
  |some (.array _ e)=>jO P n e
  |_=>false
def iI{H:Type}(P:Program):Nat->TypeId->DataW H->Prop
 |0,_,_=>False
 |n+1,t,d=>match P.underlying t with
  |some .bool=>∃b,d=.lit (.bool b)
  |some (.int k)=>∃i,d=.lit (.int k i)∧(Lit.int k i).wf=true
  |some .string=>∃s,d=.lit (.string s)
  |some (.slice e)=>d=.nil∨∃es sp,d=.slice es sp∧es.length<=maxLen∧∀x∈es,iI P n e x
  |some (.struct fs)=>∃ds,d=.agg ds∧ds.length=fs.size∧∀(i:Nat) f x,fs[i]?=some f->ds[i]?=some x->iI P n f.type x
  |some (.array m e)=>∃ds,d=.agg ds∧ds.length=m∧∀x∈ds,iI P n e x
  |_=>False
abbrev sZ:Nat->Nat->Prop:=λ_ _=>False
theorem L9{H:Type}(ds:List (DataW H)):AB ds=ds.map gu:=by
 induction ds with
 |nil=>simp[AB]
 |cons d r ih=>simp[AB,ih]
theorem Dv{H:Type}(ds:List (DataW H)):wc ds=ds.flatMap hC:=by
 induction ds with
 |nil=>simp[wc]
 |cons d r ih=>simp[wc,ih]
theorem cO.append{w:World}{M:Nat->Nat->Prop}{ps qs:List PV}{us vs:List Value}(h:cO w M ps us)(h':cO w M qs vs):cO w M (ps++qs) (us++vs):=by
 refine⟨by simp[h.1,h'.1],λi p u hp hu=>?_⟩;by_cases hi:i<ps.length
 .rw[Iz hi]at hp
  rw[Iz (by have:=h.1;omega)]at hu;exact h.2 i p u hp hu
 .rw[IN (by omega)]at hp
  rw[IN (by have:=h.1;omega)]at hu;refine h'.2 _ p u hp ?_;rw[h.1];exact hu
theorem wU{H α:Type}{w:World}{M:Nat->Nat->Prop}{g:α->List Value}:∀{fs:List α}{ds:List (DataW H)},fs.length=ds.length->
 (∀(i:Nat) f d,fs[i]?=some f->ds[i]?=some d->cO w M (hC d) (g f))->cO w M (ds.flatMap hC) (fs.flatMap g)
 |[],[],_,_=>by simpa using cO.nil
 |f::fs,d::ds,hl,h=>by
  simp only[List.flatMap_cons];exact(h 0 f d rfl rfl).append (wU (by simpa using hl) (λi f' d' h1 h2=>h (i+1) f' d' (by simpa using h1) (by simpa using h2)))
 |[],_::_,hl,_=>by simp at hl
 |_::_,[],hl,_=>by simp at hl
theorem Nw{cs:List Value}(cell:Field->Nat):∀(fs:List Field)(o:Nat),(∀(j:Nat) f,fs[j]?=some f->f.offset=o+((fs.take j).map cell).sum)->cs.length=o+(fs.map cell).sum->
 cs.drop o=fs.flatMap λf=>(cs.drop f.offset).take (cell f)
 |[],o,_,hl=>by simp at hl;simp[List.drop_of_length_le (by omega:cs.length<=o)]
 |f::fs,o,h,hl=>by
  have h0:f.offset=o:=by simpa using h 0 f rfl
  have ih:=Nw (cs:=cs) cell fs (o+cell f) (λj f' hj=>by
   have:=h (j+1) f' (by simpa using hj);simp only[List.take_succ_cons,Ot,List.sum_cons]at this
   omega) (by simp only[Ot,List.sum_cons]at hl;omega)
  simp only[List.flatMap_cons];rw[<-ih,h0,<-List.drop_drop,NI]
theorem Lg{cs:List Value}(c:Nat):∀(n o:Nat),cs.length=o*c+n*c->cs.drop (o*c)=(List.range' o n).flatMap λi=>(cs.drop (i*c)).take c
 |0,o,hl=>by simp;omega
 |n+1,o,hl=>by
  have ih:=Lg c n (o+1) (by rw[hl,MB,MB];omega);simp only[List.range'_succ,List.flatMap_cons];rw[<-ih,MB,Nat.one_mul,<-List.drop_drop,NI]
section
variable {H:Type} {enc:TypeId×Value->H} {P:Program} {w:World} {base:Nat} {spare:Nat->Bool} {held:Bool}
theorem JF(K:Kids P (·< P.types.size)):∀(n m:Nat)(t:TypeId)(cs:List Value)(x:DataW H×List MemPlace),t<P.types.size->jO P m t=true->
 DataW.trod enc P w base spare held n t cs=some x->cO w sZ (hC x.1) cs∧iI P n t x.1∧(gu x.1).cells=hC x.1:=by
 intro n
 induction n with
 |zero=>intro m t cs x _ _ h;simp[DataW.trod]at h
 |succ n ih=>
  intro m t cs x hT hm h
  cases m with
  |zero=>simp[jO]at hm
  |succ m=>
  have hm0:=hm;simp only[jO]at hm;have one:∀{p:PV}{u:Value},Rep w sZ p u->cO w sZ [p] [u]:=λhq=>.cons hq .nil
  cases hu:P.underlying t with
  |none=>rw[hu]at hm;simp at hm
  |some u=>
  rw[hu]at hm
  cases u with
  |bool=>
   unfold DataW.trod at h;rw[hu]at h;split at h<;>simp_all;subst h;simp only[hC,gu,iI,hu];exact⟨one (.val _),⟨_,rfl⟩,by simp[PV.cells,Value.cells]⟩
  |int k=>
   obtain⟨i,rfl,rfl,hw⟩:=DataW.trod_int hu h;simp only[hC,gu,iI,hu];exact⟨one (.val _),⟨i,rfl,hw⟩,by simp[PV.cells,Value.cells]⟩
  |string=>
   obtain⟨s,rfl,rfl,hw⟩:=DataW.trod_string hu h
   have e:(⟨s.data.toList.toArray⟩:ByteArray)=s:=by cases s;simp
   simp only[hC,gu,iI,hu];rw[e];exact⟨one (.val _),⟨_,rfl⟩,by simp[PV.cells,Value.cells]⟩
  |slice e=>
   simp only[An,HX]at hm;have hTe:=K.slice hT hu;rcases DataW.trod_slice hu h with⟨rfl,rfl⟩|⟨a,len,cap,elems,rest,k,hk,rfl,rfl,hb,hl,hmx,hlen,hel,hsp,hns⟩
   .simp only[hC,gu,iI,hu]
    exact⟨one (.sl0 _ _),.inl trivial,by simp[PV.cells]⟩
   .obtain rfl:k=n:=by omega
    have each:∀i y,elems[i]?=some y->∃cs',w.cells? base (a.add (i*P.cellsOf e)) (P.cellsOf e)=some cs'∧cO w sZ (hC y.1) cs'∧iI P k e y.1∧(gu y.1).cells=hC y.1:=by
     intro i y hy
     have hi:i<len:=by rw[<-hlen];exact(th.1 hy).1
     have:=hel i hi;rw[hy,Option.bind_eq_some_iff]at this;obtain⟨cs',h1,h2⟩:=this;exact⟨cs',h1,ih m e cs' y hTe hm.1 h2⟩
    simp only[hC,gu,iI,hu];refine⟨one ?_,.inr ⟨_,_,rfl,by simp only[Lf];omega,?_⟩,by simp[PV.cells]⟩
    .rw[L9,List.map_map]
     cases hel0:elems with
     |nil=>subst hel0;simp at hlen;subst hlen;exact .sl0 _ _
     |cons y0 ys=>
      have h0:elems[0]?=some y0:=by rw[hel0];rfl
      rw[<-hel0]
      have hspot:a.spot=none:=by
       obtain⟨cs',h1,h2,_,_⟩:=each 0 y0 h0;obtain⟨_,h3,h4⟩:=World.cells?_some h1;have h5:=h4 0 hm.2;have h6:cs'[0]?=some cs'[0]:=an (by omega);rw[h6]at h5
       have e1:((a.add (0*P.cellsOf e)).add 0)=a:=by simp[Addr.add]
       rw[e1]at h5;unfold World.cell? at h5;split at h5
       .split at h5
        .cases h5
        .rename_i hs;cases hsp':a.spot with
         |none=>rfl
         |some _=>simp[hsp']at hs
       .cases h5
      obtain⟨b,o,sp⟩:=a;simp only at hspot;subst hspot
      have hcell:∀i y,elems[i]?=some y->∀j p,(hC y.1)[j]?=some p->∃v,w.cell? ⟨b,o+(i*P.cellsOf e+j),none⟩=some v∧Rep w sZ p v:=by
       intro i y hy j p hp;obtain⟨cs',h1,h2,_,_⟩:=each i y hy;obtain⟨_,h3,h4⟩:=World.cells?_some h1;have hj:j<(hC y.1).length:=(th.1 hp).1
       have hj':j<cs'.length:=by rw[<-h2.1];exact hj
       have h5:=h4 j (by omega);have h6:cs'[j]?=some cs'[j]:=an hj';rw[h6,fy,fy]at h5;exact⟨_,by rw[<-QN];exact h5,h2.2 j p _ hp h6⟩
      have hlen2:(elems.map (gu∘λx=>x.1)).length=len:=by simp[hlen]
      have hgoal:=Rep.sl (w:=w) (M:=sZ) (elems.map (gu∘λx=>x.1)) b o cap (P.cellsOf e) (λi j=>(w.cell? ⟨b,o+(i*P.cellsOf e+j),none⟩).getD default) (by rw[hlen2];exact hl)
       (by
         intro i x hx;simp only[Is,Ii]at hx;obtain⟨y,hy,rfl⟩:=hx;obtain⟨cs',h1,h2,_,h3⟩:=each i y hy;obtain⟨_,h4,_⟩:=World.cells?_some h1;simp only[Function.comp]
         rw[h3,h2.1,h4])
       (by
         intro i x j p hx hp;simp only[Is,Ii]at hx;obtain⟨y,hy,rfl⟩:=hx;obtain⟨_,_,_,_,h3⟩:=each i y hy;simp only[Function.comp]at hp;rw[h3]at hp;obtain⟨v,hv,_⟩:=hcell i y hy j p hp
         simp[hv,sZ])
       (by
         intro i x j p hx hp;simp only[Is,Ii]at hx;obtain⟨y,hy,rfl⟩:=hx;obtain⟨_,_,_,_,h3⟩:=each i y hy;simp only[Function.comp]at hp;rw[h3]at hp;obtain⟨v,hv,hr⟩:=hcell i y hy j p hp
         simpa[hv]using hr)
      rw[hlen2]at hgoal;exact hgoal
    .intro x hx
     obtain⟨y,hy,rfl⟩:=KB.1 hx;obtain⟨i,hi⟩:=LV hy;obtain⟨_,_,_,hf,_⟩:=each i y hi;exact hf
  |struct fs=>
   obtain⟨xs,k,hk,rfl,hcl,hxl,hx⟩:=DataW.trod_struct hu h
   obtain rfl:k=n:=by omega
   obtain⟨k1,k2,k3⟩:=K.struct hT hu
   have each:∀(i:Nat) f y,fs[i]?=some f->xs[i]?=some y->cO w sZ (hC y.1) ((cs.drop f.offset).take (P.cellsOf f.type))∧iI P k f.type y.1∧(gu y.1).cells=hC y.1:=by
    intro i f y hf hy
    have hmem:f∈fs.toList:=by
     have:fs.toList[i]?=some f:=by simpa using hf
     exact HW this
    exact ih m f.type _ y (k1 f hmem) (Ij.1 hm f hmem) (by rw[hx i f hf,hy])
   have hseg:=Nw (cs:=cs) (λf=>P.cellsOf f.type) fs.toList 0 (λj f hj=>by simpa using k3 j f hj) (by rw[hcl,k2];simp);simp only[VT]at hseg;simp only[hC,gu,iI,hu,Dv,lw];refine⟨?_,⟨_,rfl,by simp[hxl],λi f x hf hx'=>?_⟩,trivial⟩
   .rw[hseg]
    refine wU (by simp[hxl]) (λi f d hf hd=>?_);simp only[Is,Ii]at hd;obtain⟨y,hy,rfl⟩:=hd;exact(each i f y (by simpa using hf) hy).1
   .simp only[Is,Ii]at hx'
    obtain⟨y,hy,rfl⟩:=hx';exact(each i f y hf hy).2.1
  |array len e=>
   obtain⟨xs,k,hk,rfl,hcl,hxl,hx⟩:=DataW.trod_array hu h
   obtain rfl:k=n:=by omega
   obtain⟨k1,k2⟩:=K.array hT hu
   have each:∀(i:Nat) y,xs[i]?=some y->cO w sZ (hC y.1) ((cs.drop (i*P.cellsOf e)).take (P.cellsOf e))∧iI P k e y.1∧(gu y.1).cells=hC y.1:=by
    intro i y hy
    have hi:i<len:=by rw[<-hxl];exact(th.1 hy).1
    exact ih m e _ y k1 hm (by rw[hx i hi,hy])
   have hseg:=Lg (cs:=cs) (P.cellsOf e) len 0 (by rw[hcl,k2];omega);simp only[VQ,VT]at hseg;simp only[hC,gu,iI,hu,Dv,lw];refine⟨?_,⟨_,rfl,by simp[hxl],λx hx'=>?_⟩,trivial⟩
   .rw[hseg]
    refine wU (by simp[hxl]) (λi f d hf hd=>?_);simp only[Is,Ii]at hd;obtain⟨y,hy,rfl⟩:=hd
    have hi:i<len:=by rw[<-hxl];exact(th.1 hy).1
    rw[List.getElem?_range' hi]at hf
    obtain rfl:i=f:=by simp at hf;omega
    exact(each i y hy).1
   .obtain⟨y,hy,rfl⟩:=KB.1 hx'
    obtain⟨i,hi⟩:=LV hy;exact(each i y hi).2.1
  |_=>simp at hm
theorem JG(K:Kids P (·< P.types.size)){m:Nat}{t:TypeId}{v:Value}{d:DataW H}{ps:List MemPlace}{W:World}{r:Reach}{b0:Nat}(hT:t<P.types.size)(hm:jO P m t=true)
 (hval:Value.okWide P W r b0 t v)(h:DataW.Trod enc P w base spare held t v d ps):Rep w sZ (gu d) v∧∃n,iI P n t d:=by
 obtain⟨n,hn⟩:=h;obtain⟨h1,h2,h3⟩:=JF K n m t _ _ hT hm hn;refine⟨?_,n,h2⟩
 cases n with
 |zero=>simp[DataW.trod]at hn
 |succ n=>
 cases m with
 |zero=>simp[jO]at hm
 |succ m=>
 simp only[jO]at hm
 cases hu:P.underlying t with
 |none=>rw[hu]at hm;simp at hm
 |some u=>
 rw[hu]at hm
 have one:∀{p:PV},hC d=[p]->gu d=p->v.cells.toList=[v]->Rep w sZ (gu d) v:=by
  intro p e1 e2 e3;rw[e1,e3]at h1;obtain⟨u,us,e,hr,_⟩:=h1.cons_inv;injection e with e _;rw[e2,e];exact hr
 simp only[Value.okWide,hu]at hval;simp only[iI,hu]at h2
 cases u with
 |bool=>
  obtain⟨b,rfl⟩:=h2
  have:v.cells.toList=[v]:=by simp only[Cell.okWide,hu]at hval;cases v<;>simp_all[Cell.ok,Value.cells]
  exact one (by simp[hC];rfl) (by simp[gu]) this
 |int k=>
  obtain⟨i,rfl,_⟩:=h2
  have:v.cells.toList=[v]:=by simp only[Cell.okWide,hu]at hval;cases v<;>simp_all[Cell.ok,Value.cells]
  exact one (by simp[hC];rfl) (by simp[gu]) this
 |string=>
  obtain⟨i,rfl⟩:=h2
  have:v.cells.toList=[v]:=by simp only[Cell.okWide,hu]at hval;cases v<;>simp_all[Cell.ok,Value.cells]
  exact one (by simp[hC];rfl) (by simp[gu]) this
 |slice e=>
  have:v.cells.toList=[v]:=by simp only[Cell.okWide,hu]at hval;cases v<;>simp_all[Cell.ok,Value.cells]
  rcases h2 with rfl|⟨es,sp,rfl,_⟩
  all_goals exact one (by simp[hC];rfl) (by simp[gu]) this
 |struct fs=>
  obtain⟨ds,rfl,_⟩:=h2;obtain⟨cs,rfl,_⟩:=hval;simp only[hC,Value.cells]at h1;simp only[gu];have:=lM h1;simpa using this
 |array len e=>
  obtain⟨ds,rfl,_⟩:=h2;obtain⟨cs,rfl,_⟩:=hval;simp only[hC,Value.cells]at h1;simp only[gu];have:=lM h1;simpa using this
 |_=>simp at hm
end
open Go.ChangeAt Go.RowKit
def wV{H:Type}(P:Program):List TypeId->List (DataW H)->Prop
 |[],[]=>True
 |t::ts,d::ds=>(∃n,iI P n t d)∧wV P ts ds
 |_,_=>False
section
variable {H:Type} {enc:TypeId×Value->H} {P:Program} {w:World} {base:Nat} {spare:Nat->Bool} {held:Bool}
theorem yJ(K:Kids P (·< P.types.size)){W:World}{r:Reach}{b0:Nat}:∀{ts:List TypeId}{vs:List Value}{ds:List (DataW H)}{ps:List MemPlace},(∀t∈ts,t<P.types.size∧jO P 20 t=true)->
 (∀(j:Nat) t v,ts[j]?=some t->vs[j]?=some v->Value.okWide P W r b0 t v)->DataW.TrodAll enc P w base spare held ts vs ds ps->
 wV P ts ds∧vs.length=ds.length∧ds.length=ts.length∧∀(i:Nat) d v,ds[i]?=some d->vs[i]?=some v->Rep w sZ (gu d) v
 |[],vs,ds,ps,_,_,h=>by
  obtain⟨rfl,rfl,rfl⟩:=trodAll_nil h;exact⟨trivial,rfl,rfl,λi d v h=>by simp at h⟩
 |t::ts,vs,ds,ps,hp,hv,h=>by
  obtain⟨v,vs1,d,ds1,a,b,rfl,rfl,rfl,h1,h2⟩:=trodAll_cons h;obtain⟨hT,hm⟩:=hp t (by simp);obtain⟨r1,f1⟩:=JG K hT hm (hv 0 t v rfl rfl) h1;obtain⟨f2,l2,l3,r2⟩:=yJ K (λt ht=>hp t (by simp[ht])) (λj t v h h'=>hv (j+1) t v (by simpa using h) (by simpa using h')) h2;refine⟨⟨f1,f2⟩,by simp[l2],by simp[l3],λi d' v' hd hv'=>?_⟩
  cases i with
  |zero=>simp at hd hv';subst hd;subst hv';exact r1
  |succ i=>exact r2 i d' v' (by simpa using hd) (by simpa using hv')
theorem Ext.sameAt{w:World}(h:Ext (·∈([]:List Nat)) w w'){p:MemPlace}(hp:p.block<w.heap.size):w.sameAt w' p:=by
 cases p with
 |cell b o=>exact h.cell hp (by simp)
 |map b=>exact h.block b hp (by simp)
theorem Ext.kept{w:World}(h:Ext (·∈([]:List Nat)) w w')(may:MemPlace->Prop):w.keptBut w' may:=by
 refine⟨h.os,h.output,λi hi=>?_⟩;rw[h.block i hi (by simp)];have:w.heap[i]?=some w.heap[i]:=MA hi;rw[this]
 cases w.heap[i]with
 |cells c t fr=>exact⟨rfl,rfl,rfl,λ_ _=>rfl⟩
 |map es clock=>exact Or.inr ⟨rfl,rfl⟩
 |_=>rfl
theorem we{w w':World}:∀{ts:List TypeId}{vs:List Value}{ds:List (DataW H)}{ps:List MemPlace},DataW.TrodAll enc P w base spare held ts vs ds ps->(∀p∈ps,w.sameAt w' p)->DataW.TrodAll enc P w' base spare held ts vs ds ps
 |[],vs,ds,ps,h,_=>by
  obtain⟨rfl,rfl,rfl⟩:=trodAll_nil h;exact trodAll_mk0
 |t::ts,vs,ds,ps,h,hs=>by
  obtain⟨v,vs1,d,ds1,a,b,rfl,rfl,rfl,⟨n,h1⟩,h2⟩:=trodAll_cons h;exact⟨a,b,⟨n,DataW.trod_carry n _ _ _ h1 (λp hp=>hs p (by simp at hp|-;exact .inl hp))⟩,we h2 (λp hp=>hs p (by simp[hp])),rfl⟩
theorem ES{w:World}(h:Ext (·∈([]:List Nat)) w w'){a:Addr}(ha:a.block<w.heap.size):w'.frozen? a=w.frozen? a:=by
 unfold World.frozen?;rw[h.block _ ha (by simp)]
theorem HY{f:Func}{apart fresh again:Bool}{W W':World}{args:Array Value}{v:Value}{ds gs:List (DataW H)}{before pa pv:List MemPlace}
 (hW:DataW.Whole enc P f.params.toList s.vars apart W args.toList ds gs before)
 (hres:∀(b:Nat)(sp:Nat->Bool)(hd:Bool),DataW.TrodAll enc P W' b sp hd f.resultTypes.toList (v.resultList f.resultTypes.size) (s.fn H (ds++gs)).results [])
 (hargs:∀sp:Nat->Bool,(∀p∈before,sp p.block=true)->DataW.TrodAll enc P W' 0 sp true f.params.toList args.toList (s.fn H (ds++gs)).args pa)
 (hvars:∀sp:Nat->Bool,(∀p∈before,sp p.block=true)->DataW.TrodVars enc P W' sp s.vars (s.fn H (ds++gs)).vars pv)
 (hps:before=pa++pv)(hk:W.keptBut W' (·∈before))(hfz:∀a:Addr,a.block<W.heap.size->W'.frozen? a=W.frozen? a)
 (hok:∀(j:Nat)(t:TypeId)(r:Value),f.resultTypes[j]?=some t->(v.resultList f.resultTypes.size)[j]?=some r->Value.okWide P W' .any 0 t r):
 s.post enc P f apart fresh handsOn again W args v W':=by
 have hlt:∀p∈before,p.block<W.heap.size:=hW.lt
 have hold:∀p∈before,(λb=>decide (b<W.heap.size)) p.block=true:=λp hp=>by simpa using hlt p hp
 refine⟨ds,gs,before,[],pa,pv,hW,hres _ _ _,hargs _ hold,hvars _ hold,World.keptBut_mono (λp hp=>⟨hp,?_⟩) hk,λ_=>?_⟩
 .rw[hps,JS]at hp
  exact Or.inr hp
 .obtain⟨_,_,_,_,_,hz,hn⟩:=hW
  refine⟨hok,_,_,([]++pa)++pv,⟨[]++pa,pv,trodAll_append (hargs _ (λ_ _=>rfl)) (hres _ _ _),hvars _ (λ_ _=>rfl),rfl,?_,?_⟩,?_⟩
  .intro b off hp
   have hm:MemPlace.cell b off∈before:=by rw[hps];simpa using hp
   rw[hfz _ (hlt _ hm)];exact hz b off hm
  .intro ha
   have:=hn ha;rw[hps]at this;simpa using this
  .intro p hp _
   rw[hps];simpa using hp
theorem Dw{f:FuncId}{fn:Func}{tb:TypeId}{apart fresh again:Bool}(K:Kids P (·< P.types.size))(full:∀t e,t<P.types.size->P.underlying t=some (.slice e)->0<P.cellsOf e)
 (hpar0:(fn.params.toList.all λt=>decide (t<P.types.size)&&jO P 20 t)=true)(hres:fn.resultTypes=#[tb])(htb:P.underlying tb=some .bool)(hvars:s.vars=[])
 (W:World)(base:Nat)(args:Array Value)(ds gs:List (DataW H))(before:List MemPlace)
 (hval:∀(j:Nat) t v,fn.params[j]?=some t->args[j]?=some v->Value.okWide P W .any base t v)
 (hW:DataW.Whole enc P fn.params.toList s.vars apart W args.toList ds gs before)
 (hspec0:wV P fn.params.toList ds->s.fn H ds={results:=[.lit (.bool true)],args:=ds})
 (hdet:wV P fn.params.toList ds->ab P f (ds.map λd=>.pv (gu d)) [] [] (.pv (.val (.bool true)))):
 Calls P f args W λe W'=>∃v,e=.returned v∧s.post enc P fn apart fresh handsOn again W args v W':=by
 have hpar:∀t∈fn.params.toList,t<P.types.size∧jO P 20 t=true:=λt ht=>by
  have:=Ij.1 hpar0 t ht;simpa using this
 have hW':=hW;obtain⟨p,q,hA,hV,rfl,hfz,hnd⟩:=hW;rw[hvars]at hV;obtain⟨rfl,rfl⟩:=trodVars_none hV;obtain⟨hfit,hl1,hl2,hrep⟩:=yJ K hpar (λj t v h h'=>hval j t v (by simpa using h) (by simpa using h')) hA;obtain⟨hcall,_,hc⟩:=hdet hfit
 have hspec:s.fn H (ds++[])={results:=[.lit (.bool true)],args:=ds}:=by rw[Uq];exact hspec0 hfit
 have hlt:∀p'∈p++[],p'.block<W.heap.size:=λp' hp'=>hW'.lt p' hp'
 have:=hc W sZ [] args.toList (λ_ _ h=>h.elim) rfl List.nodup_nil (λi b ps h=>by simp at h) (by simp[hl1]) (by
  intro i a v ha hv;simp only[Is,Ii]at ha;obtain⟨d,hd,rfl⟩:=ha
  exact hrep i d v hd hv)
 simp only[Array.toArray_toList]at this;refine this.mono λe W' ⟨v,he,hx,_,hr⟩=>⟨v,he,?_⟩;have hr':Rep W' sZ (.val (.bool true)) v:=hr;cases hr'
 have hlen1:fn.resultTypes.size=1:=by rw[hres];rfl
 refine HY (pa:=p) (pv:=[]) hW' (λb sp hd=>?_) (λsp hsp=>?_) (λsp _=>?_) rfl (hx.kept _) (λa ha=>ES hx ha) ?_
 .rw[hspec,hres]
  exact trodAll_cons_mk (shut_bool htb true) trodAll_mk0
 .rw[hspec]
  exact(we (hA.respare K full (λt ht=>(hpar t ht).1) (λp' hp'=>hsp p' (by simp[hp']))) (λp' hp'=>hx.sameAt (hlt p' (by simp[hp']))))
 .rw[hvars,hspec];rfl
 .exact ok_one hres rfl (okWide_bool_mk htb true)
end
end Go.Ab
namespace Go.Ab
mutual
def sg{H:Type}:DataW H->Nat
 |.lit (.string bytes)=>bytes.length+1
 |.lit _=>1
 |.nil=>1
 |.slice elems spare=>s9 elems+s9 spare+1
 |.agg parts=>s9 parts+1
 |_=>1
def s9{H:Type}:List (DataW H)->Nat
 |[]=>0
 |d::r=>sg d+s9 r
end
section
variable {H:Type} {P:Program}
def ui(P:Program)(t:TypeId)(d:DataW H):Prop:=∃n,iI P n t d
def lE(H:Type)(P:Program)(t:TypeId){α:Type}(e:α->PV)(Q:α->Prop)(sz:α->Nat):Prop:=∀d:DataW H,ui P t d->∃a,gu d=e a∧Q a∧sz a<=sg d
theorem BU{t:TypeId}{k:IntKind}(hu:P.underlying t=some (.int k)):lE H P t (λi=>.val (.int k i)) (λi=>k.min<=i∧i<=k.max) (λ_=>1):=by
 rintro d ⟨n,h⟩
 cases n with
 |zero=>exact h.elim
 |succ n=>
  simp only[iI,hu]at h;obtain⟨i,rfl,hw⟩:=h;simp only[Lit.wf,An,HX]at hw;exact⟨i,by simp[gu],hw,by simp[sg]⟩
theorem kl{t te:TypeId}{α:Type}{e:α->PV}{Q:α->Prop}{sz:α->Nat}(hu:P.underlying t=some (.slice te))(h:lE H P te e Q sz):
 lE H P t (λl:List α=>.sl (l.map e)) (λl=>l.length<=9223372036854775807∧∀a∈l,Q a) (λl=>(l.map sz).sum+1):=by
 rintro d ⟨n,hf⟩
 cases n with
 |zero=>exact hf.elim
 |succ n=>
  simp only[iI,hu]at hf;rcases hf with rfl|⟨es,sp,rfl,hlen,hes⟩
  .exact⟨[],by simp[gu],by simp,by simp[sg]⟩
  .have aux:∀es:List (DataW H),(∀x∈es,iI P n te x)->∃l:List α,AB es=l.map e∧l.length=es.length∧(∀a∈l,Q a)∧(l.map sz).sum<=s9 es:=by
    intro es
    induction es with
    |nil=>intro _;exact⟨[],by simp[AB],rfl,by simp,by simp⟩
    |cons x r ih=>
     intro hx;obtain⟨l,h1,hl,h2,h3⟩:=ih (λy hy=>hx y (by simp[hy]));obtain⟨a,g1,g2,g3⟩:=h x ⟨n,hx x (by simp)⟩;refine⟨a::l,by simp[AB,h1,g1],by simp[hl],by simpa using⟨g2,h2⟩,?_⟩;simp only[Ot,List.sum_cons,s9];omega
   obtain⟨l,h1,hl,h2,h3⟩:=aux es hes;refine⟨l,by simp[gu,h1],⟨by rw[hl];exact hlen,h2⟩,?_⟩;simp only[sg];omega
end
structure Hid(H:Prop):Prop where
 h:H
variable {G H S:Prop}
theorem Gy(h:G:=by
 with_reducible repeat' (first|refine Sp.h ?_|((first|refine Wd ?_|refine Ss.h ?_|refine Sc.h (by assumption) ?_|(refine Sb.h ?_ ?_ ?_<;>(try intro hgd)<;>try exact Xy))<;>simp -implicitDefEqProofs (maxSteps:=2000000) [hP,hN, *]<;>try refine Ya ?_)|refine X2 ?_ ?_|(refine Xd ?_ ?_<;>intro hcd<;>try exact Xx))):G:=h
theorem Gz(x:H)(h:Hid H->G:=by
 intro hG0
 with_reducible repeat' (first|refine Sp.h ?_|((first|refine Wd ?_|refine Ss.h ?_|refine Sc.h (by assumption) ?_|(refine Sb.h ?_ ?_ ?_<;>(try intro hgd)<;>try exact Xy))<;>simp -implicitDefEqProofs (maxSteps:=2000000) [hP,hN, *]<;>try refine Ya ?_)|refine X2 ?_ ?_|(refine Xd ?_ ?_<;>intro hcd<;>try exact Xx))
 exact hG0.h):G:=h ⟨x⟩
theorem gA{a b:Prop}(x:a)(y:b):a∧b:=⟨x,y⟩
structure Lw(l:List Nat):Prop where
 u:True
section
variable {C:Cx} {Q:Exit->St->Prop} {st:St} {id:Nat} {ops:Array Oper} {hn:List Nat}
theorem Wl(_:Lw hn)(h:dX C.P hn C.N ops (Q .normal) ops.toList st):WP C (.region id ops false) Q st:=WP.region h
theorem Wm(_:Lw hn)(h:lD C.P hn C.N ops (λacc st=>jV (UT ops.toList []) acc=true∧Q .normal st) ops.toList [] st)(hmx:C.P.follows .mixedOrders=true:=by rw[hP];kernel_rfl)(hslot:kB ops=true:=by kernel_rfl):WP C (.region id ops true) Q st:=Wi hn h hmx hslot
end
theorem GS(s:S)(h:S->G:=by
 intro hS
 with_reducible repeat' (first|refine Sp.h ?_|((first|refine Wd ?_|refine Ss.h ?_|refine Sc.h (by first|assumption|apply_assumption) ?_|(refine Sb.h ?_ ?_ ?_<;>(try intro hgd)<;>try exact Xy))<;>simp -implicitDefEqProofs (maxSteps:=2000000) [hP,hN,hS]<;>try refine Ya ?_)|refine X2 ?_ ?_|(refine Xd ?_ ?_<;>intro hcd<;>try exact Xx))):G:=h s
theorem GT(s:S)(x:H)(h:S->Hid H->G:=by
 intro hS hG0
 with_reducible repeat' (first|refine Sp.h ?_|((first|refine Wd ?_|refine Ss.h ?_|refine Sc.h (by first|assumption|apply_assumption) ?_|(refine Sb.h ?_ ?_ ?_<;>(try intro hgd)<;>try exact Xy))<;>simp -implicitDefEqProofs (maxSteps:=2000000) [hP,hN,hS]<;>try refine Ya ?_)|refine X2 ?_ ?_|(refine Xd ?_ ?_<;>intro hcd<;>try exact Xx))
 exact hG0.h):G:=h s ⟨x⟩
theorem Dn(l:List Nat)(s:S)(h:Lw l->S->G:=by
 intro hL hS
 with_reducible repeat' (first|refine Sp.h ?_|((first|refine Wl hL ?_|refine Wm hL ?_|refine Ss.h ?_|refine Sc.h (by first|assumption|apply_assumption) ?_|(refine Sb.h ?_ ?_ ?_<;>(try intro hgd)<;>try exact Xy))<;>simp -implicitDefEqProofs (maxSteps:=2000000) [hP,hN,hS]<;>try refine Ya ?_)|refine X2 ?_ ?_|(refine Xd ?_ ?_<;>intro hcd<;>try exact Xx))):G:=h ⟨trivial⟩ s
theorem ud(l:List Nat)(s:S)(x:H)(h:Lw l->S->Hid H->G:=by
 intro hL hS hG0
 with_reducible repeat' (first|refine Sp.h ?_|((first|refine Wl hL ?_|refine Wm hL ?_|refine Ss.h ?_|refine Sc.h (by first|assumption|apply_assumption) ?_|(refine Sb.h ?_ ?_ ?_<;>(try intro hgd)<;>try exact Xy))<;>simp -implicitDefEqProofs (maxSteps:=2000000) [hP,hN,hS]<;>try refine Ya ?_)|refine X2 ?_ ?_|(refine Xd ?_ ?_<;>intro hcd<;>try exact Xx))
 exact hG0.h):G:=h ⟨trivial⟩ s ⟨x⟩
end Go.Ab
