/- The contracts and facts that the laws of this seat need, in one text (AbB). -/
import Derived.Test.YtidomjacfogjlaaGreatU1
import Derived.MapKept
import Derived.Laws.StructEq
set_option linter.all false
set_option maxRecDepth 10000
set_option maxHeartbeats 16000000
namespace Go.Ab
open IntKind (i64)
variable {C:Cx}{F:Bool->St->Prop}{K:cK->Prop}{L:Nat->Loc}{M M':Nat->Nat->Prop}{P:Program}{Q:Exit->St->Prop}{W W0:List (Nat×Blk)}{a:Act}{args caps first:List AV}{as:List Arg}{b want:Bool}{c y:Code}{cs xs ys:Array Value}{d i id j k n:Nat}{f g:FuncId}{fn:Func}{h:Hp}{hin hout:List (List PV)}{hn ks:List Nat}{ls:Nat->Bool}{name:String}{o:Oper}{op:BinOp}{ops:Array Oper}{p:PV}{res:RV}{rs:List ResultVar}{st:St}{t t':TypeId}{ti:TI}{ts:List TypeId}{u v:Value}{us:List Value}{w:World}{x:AV}{ρ ρ':Operand->AV}{σ:Operand->Value}
theorem mg{α:Type}{P:Program}:∀{s:Sem α}{a:α},ak P s=some a->∀w,s.run P w=.ok a w
 |.pure a,b,e,w=>by simp only[ak,T6]at e;subst e;rfl
 |.program k,b,e,w=>by simp only[ak]at e;exact mg (s:=k P) e w
 |.load _ _ _,_,e,_=>by simp[ak]at e
 |.store _ _ _ _,_,e,_=>by simp[ak]at e
 |.new _ _,_,e,_=>by simp[ak]at e
 |.shape _ _,_,e,_=>by simp[ak]at e
 |.freeze _ _ _,_,e,_=>by simp[ak]at e
 |.frozen _ _,_,e,_=>by simp[ak]at e
 |.getObj _ _,_,e,_=>by simp[ak]at e
 |.setObj _ _ _,_,e,_=>by simp[ak]at e
 |.choose _ _,_,e,_=>by simp[ak]at e
 |.sys _ _,_,e,_=>by simp[ak]at e
 |.mark _ _,_,e,_=>by simp[ak]at e
 |.halt _,_,e,_=>by simp[ak]at e
theorem qN(off:Nat):∀(l:List Value)(s:Nat)(arr:Array Value),off+s+l.length<=arr.size->
 ((l.zipIdx s).foldl (λcs(p:Value×Nat)=>cs.setIfInBounds (off+p.2) p.1) arr).toList=df arr.toList (off+s) l
 |[],s,arr,_=>by simp[df]
 |v::r,s,arr,h=>by
  simp only[List.zipIdx_cons,Vu];rw[qN off r (s+1) _ (by simp at h|-;omega)];simp only[Array.toList_setIfInBounds,df,VE];have:=list_seg_step arr.toList (off+s) v r (by simp at h|-;omega);rw[<-VA off s 1];rw[show off+s+(r.length+1)=off+s+(r.length+1) from rfl];exact this
section
variable {C:Cx} {L:Nat->Loc} {h1 h:Hp} {w:World} {M:Nat->Nat->Prop}
theorem tD(place:Nat->Option (Nat×Nat)):∀{ps:List (Nat×List AV)}{vs:List (Nat×Value)}{cells f:List AV}{arr:Array Value},aA w M L h cells arr.toList->
 (ps.length=vs.length/\∀(q:Nat)(i:Nat) cs(m:Nat)(v:Value),ps[q]?=some (i,cs)->vs[q]?=some (m,v)->m=i/\aA w M L h cs v.cells.toList)->tv place cells ps=some f->
 ∃k,Instr.fill place arr vs=some k/\aA w M L h f k.toList
 |[],vs,cells,f,arr,r,hp,e=>by
  simp only[tv,T6]at e;subst e;have:vs=[]:=Uy (by have:=hp.1;simpa using this.symm);subst this;exact⟨arr,rfl,r⟩
 |(i,cs)::ps,vs,cells,f,arr,r,hp,e=>by
  cases vs with
  |nil=>exact absurd hp.1 (by simp)
  |cons iv vs=>
   obtain⟨m,v⟩:=iv;obtain⟨rfl,y⟩:=hp.2 0 i cs m v rfl rfl;simp only[tv]at e;simp only[Instr.fill]
   cases l:place m with
   |none=>rw[l]at e;cases e
   |some os=>
    obtain⟨g,size⟩:=os;rw[l]at e;simp only at e|-;split at e
    .cases e
    .rename_i j
     have B:cs.length=v.cells.size:=by have:=y.1;simpa using this
     have A:cells.length=arr.size:=by have:=r.1;simpa using this
     have n:cs.length=size:=Classical.not_not.1 (λh=>j (.inl h));have o:¬g+cs.length>cells.length:=λh=>j (.inr h)
     have s:¬((v.cells.size≠size||g+v.cells.size>arr.size)=true):=by simp;omega
     simp only[TQ s]
     have u:(v.cells.zipIdx.foldl (λcs(p:Value×Nat)=>cs.setIfInBounds (g+p.2) p.1) arr).toList=df arr.toList g v.cells.toList:=by
      have:=qN g v.cells.toList 0 arr (by simp;omega);rw[<-Array.foldl_toList,Array.toList_zipIdx];simpa using this
     refine tD place (cells:=df cells g cs) ?_ ⟨by have:=hp.1;simpa using this,λq a b c d h1 z=>hp.2 (q+1) a b c d (by simpa using h1) (by simpa using z)⟩ e;have x:=r.splice_ y g;rw[<-u]at x;exact x
theorem uB(j:∀k b,h1 k=some b->h k=some b){ρ:Operand->AV}{σ:Operand->Value}:∀{ps:List (Nat×Operand)}{qs:List (Nat×List AV)},(∀x∈ps.map (·.2),RepA w M L h (ρ x) (σ x))->qu h1 ρ ps=some qs->
 qs.length=(ps.map λ(i,x)=>(i,σ x)).length/\∀(q:Nat)(i:Nat) cs(f:Nat)(v:Value),qs[q]?=some (i,cs)->(ps.map λ(i,x)=>(i,σ x))[q]?=some (f,v)->f=i/\aA w M L h cs v.cells.toList
 |[],qs,_,e=>by simp only[qu,T6]at e;subst e;exact⟨rfl,λq i cs f v h=>by simp at h⟩
 |(i,x)::ps,qs,g,e=>by
  simp only[qu]at e;split at e
  .rename_i cs s n o
   injection e with e;subst e;obtain⟨p,r⟩:=uB j (λy l=>g y (by simp at l|-;exact .inr l)) o;refine⟨by simpa using p,λq a c m v hq d=>?_⟩
   cases q with
   |zero=>
    simp at hq d;obtain⟨rfl,rfl⟩:=hq;obtain⟨rfl,rfl⟩:=d;exact⟨rfl,pH j (g x (by simp)) n⟩
   |succ q=>exact r q a c m v (by simpa using hq) (by simpa using d)
  .cases e
theorem y3{P:Program}(w:World):∀(fs:List Field),(∀f∈fs,∃i,P.info? f.type=some i)->
 (fs.mapM (m:=Sem) λf=>do pure (f.offset,<-sizeOf f.type)).run P w=.ok (fs.map λf=>(f.offset,od P f.type)) w
 |[],_=>by simp
 |f::fs,hf=>by
  obtain⟨i,hi⟩:=hf f (by simp);simp only[List.mapM_cons,Sem.run_bind,gj hi,Result.andThen_ok,Sem.run_pure,y3 w fs (λg a=>hf g (by simp[a]))];simp[od,hi]
theorem BE(K:af C.P t=some ti){qs:List (Nat×List AV)}{vs:List (Nat×Value)}(hp:qs.length=vs.length/\∀(q:Nat)(i:Nat) cs(N:Nat)(v:Value),qs[q]?=some (i,cs)->vs[q]?=some (N,v)->N=i/\aA w M L h cs v.cells.toList)
 {v:AV}(e:wg ti qs=some v):∃r,(Instr.build t vs.toArray).run C.P w=.ok r w/\RepA w M L h v r:=by
 obtain⟨i,d,hi,hd,Q,S,b⟩:=gY K;have l:=y2 K;unfold wg at e;split at e
 .cases e
 .rename_i z I
  have F:i.zero=some z:=by rw[<-S];exact I
  have o:aA w M L h (z.cells.toList.map λv=>AV.pv (.val v)) z.cells.toList:=by
   refine⟨by simp,λq p u hp s=>?_⟩;simp only[TR,No]at hp;obtain⟨y,R,rfl⟩:=hp;rw[R]at s;injection s with s;subst s;exact .pv (.val _)
  have c:(zeroValue t).run C.P w=.ok z w:=by simp[zeroValue,mU hi,F]
  split at e
  .rename_i fs a
   rw[b]at a;split at a
   .rename_i g
    injection a with a;simp only[No]at e;obtain⟨cells,A,rfl⟩:=e;obtain⟨arr,D,E⟩:=tD (arr:=z.cells) _ o hp A;refine⟨.agg arr,?_,?_⟩
    .have k:∀f∈g.toList,∃i,C.P.info? f.type=some i:=by
      unfold md at l;rw[hd]at l;intro f hf;exact Uw.1 (TP.1 l f hf)
     have H:=y3 (P:=C.P) w g.toList k;simp only[Instr.build,Sem.run_bind,c,Result.andThen_ok,dF hd,Array.mapM_eq_mapM_toList,Sem.run_map,H]
     have m:(λ(x:Nat)=>(List.map (λf=>(f.offset,od C.P f.type)) g.toList).toArray[x]?)=λ(i:Nat)=>fs[i]?:=by funext x;rw[<-a];simp
     simp only[m,D];rfl
    .have:=sf E
     simpa using this
   .cases a
   .split at a<;>cases a
   .cases a
  .rename_i n B a
   rw[b]at a;split at a
   .cases a
   .rename_i T O
    injection a with _ a;simp only[No]at e;obtain⟨cells,A,rfl⟩:=e;obtain⟨arr,D,E⟩:=tD (arr:=z.cells) _ o hp A;refine⟨.agg arr,?_,?_⟩
    .have k:∃j,C.P.info? O=some j:=by
      unfold md at l;rw[hd]at l;exact Uw.1 l
     obtain⟨j,J⟩:=k
     have G:j.size=B:=by rw[<-a];simp[od,J]
     simp only[Instr.build,Sem.run_bind,c,Result.andThen_ok,dF hd,gj J,G,D];rfl
    .have:=sf E
     simpa using this
   .split at a<;>cases a
   .cases a
  .cases e
theorem wZ(g:∀k b,h1 k=some b->h k=some b){e sz fz:Nat}{xs:List PV}(f:h k=some (.row e sz xs fz))(a:sH h1 k n=true):xs.length=n:=by
 unfold sH at a;split at a
 .rename_i l i j d c
  have:=g _ _ c;rw[f]at this;injection this with this;injection this with _ _ a3 _;subst a3;simpa using a
 .cases a
theorem wQ(S:af C.P t=some ti){v:AV}{f:Nat}(O:∀k b,h1 k=some b->h k=some b)(K:RepA w M L h x u)(e:oM ti x f h1=some v):
 ∃r,(Instr.fieldAt t u f).run C.P w=.ok r w/\RepA w M L h v r:=by
 obtain⟨i,d,hi,hd,R,W,m⟩:=gY S;unfold oM at e;split at e
 .rename_i fs a
  rw[m]at a;split at a
  .rename_i G
   injection a with a;split at e
   .rename_i o s hf
    split at e
    .cases e
    .rename_i Q
     rw[<-a]at hf;simp only[TR,No,Ug]at hf;obtain⟨p,H,rfl,g⟩:=hf
     have l:∃j,C.P.info? p.type=some j/\j.size≠0:=by
      unfold od at g
      cases E:C.P.info? p.type with
      |none=>rw[E]at g;simp at g;omega
      |some j=>rw[E]at g;simp at g;exact⟨j,rfl,by omega⟩
     obtain⟨j,E,I⟩:=l
     have A:G[f]?=some p:=by rw[<-UQ];exact H
     have c:∀b q,(Instr.fieldAt t (.pointer (some ⟨b,q,none⟩)) f).run C.P w=.ok (.pointer (some ⟨b,q+p.offset,none⟩)) w:=by
      intro b q;simp only[Instr.fieldAt,Sem.run_bind,dF hd,Result.andThen_ok,A,Instr.sureAddr,Sem.run_pure,fieldPlace,gj E,I,Uf,eV]
     split at e
     .injection e with e;subst e
      cases K with
      |ptr F=>exact⟨_,c _ _,.ptr F⟩
     .rename_i y D
      injection e with e;subst e
      cases K with
      |pv J=>cases J with
       |rptr _ b U _ V N J=>exact⟨_,c _ _,.pv (by rw[VA];exact .rptr y b U (D+p.offset) V N J)⟩
     .rename_i k n X D
      split at e
      .rename_i z
       injection e with e;subst e
       cases K with
       |eptr F hn T=>
        obtain⟨B,rfl⟩:=T (wZ O F z);exact⟨_,c _ _,.eptr F hn (λ_=>⟨B,by rw[VA]⟩)⟩
      .cases e
     .cases e
   .cases e
  .cases a
  .split at a<;>cases a
  .cases a
 .cases e
end
section
variable {C:Cx} {L:Nat->Loc} {h1 h:Hp} {w:World}
theorem wR(hs:∀k b,h1 k=some b->h k=some b)(X:af C.P t=some ti){v:AV}{n:Int}{kk:IntKind}(O:RepA w M L h x u)
 (I:∀k e S xs fz,h k=some (.row e S xs fz)->(L k).isNil=true->xs=[])(e:oN ti x n h1=some v):
 ∃r,(Instr.indexAt t u (.int kk n)).run C.P w=.ok r w/\RepA w M L h v r:=by
 obtain⟨i,d,hi,hd,J,hz,U⟩:=gY X;unfold oN at e;split at e
 .rename_i et q eb ez s
  obtain⟨N,jt,A,rfl,rfl,_⟩:=dO X s
  have a:∀b o len cap,0<=n->n.toNat<len->(Instr.indexAt t (.slice (some ⟨b,o,none⟩) len cap) (.int kk n)).run C.P w=.ok (.pointer (some ⟨b,o+n.toNat*jt.size,none⟩)) w:=by
   intro b o len cap B l;have g:0<=n/\n<(len:Int):=⟨B,by omega⟩;simp only[Instr.indexAt,asIntOf,Sem.run_bind,Sem.run_pure,Result.andThen_ok,dF N,g,and_self,Ul,gj A,eV]
  split at e
  .rename_i xs
   split at e
   .rename_i B
    split at e
    .rename_i y Q
     split at e
     .rename_i Z
      injection e with e;subst e;have l:n.toNat<xs.length:=(th.1 Q).1
      cases O with
      |pv E=>cases E with
       |sl0=>simp at Q
       |sl _ b o c S uu ar J g E=>
        refine⟨_,a b o _ c B l,.pv ?_⟩
        have K:S=jt.size:=by rw[<-J _ y Q];exact Z
        subst K;have:=Rep.rptr (w:=w) (M:=M) y b (o+n.toNat*jt.size) 0 (λj=>uu n.toNat j) (λj p A=>by have:=g _ y j p Q A;rwa [<-VA]at this) (λj p A=>E _ y j p Q A);exact this
     .cases e
    .cases e
   .cases e
  .rename_i k m
   split at e
   .rename_i e0 S xs fz s
    split at e
    .rename_i g
     obtain⟨W,F,B,l⟩:=g;injection e with e;subst e;have D:=hs _ _ s
     cases O with
     |arr z a5 Y=>
      rw[D]at z;injection z with z;injection z with a1 a2 a3 a4;subst a1;subst a2;subst a3;subst a4;rw[Y W]
      cases f:(L k).isNil with
      |true=>rw[I k _ _ _ _ D f]at W;simp at W;omega
      |false=>
       simp only[Loc.slice,f,T5,Uf];refine⟨_,a _ _ _ _ B l,.eptr D (by omega) (λ_=>⟨f,?_⟩)⟩;rw[F];simp
    .cases e
   .cases e
  .cases e
 .rename_i len q s
  split at e
  .rename_i g
   obtain⟨B,l⟩:=g
   have G:∃R,d=.array len R/\od C.P R=q:=by
    grind
   obtain⟨R,rfl,F⟩:=G
   have V:∃j,C.P.info? R=some j:=by
    have:=y2 X
    grind [md,Option.isSome_iff_exists]
   obtain⟨j,A⟩:=V
   have T:j.size=q:=by rw[<-F];simp[od,A]
   have a:∀b o,(Instr.indexAt t (.pointer (some ⟨b,o,none⟩)) (.int kk n)).run C.P w=.ok (.pointer (some ⟨b,o+n.toNat*q,none⟩)) w:=by
    intro b o;have g:0<=n/\n<(len:Int):=⟨B,by omega⟩;simp only[Instr.indexAt,asIntOf,Sem.run_bind,Sem.run_pure,Result.andThen_ok,dF hd,Instr.sureAddr,g,and_self,Ul,gj A,eV,T]
   split at e
   .injection e with e;subst e
    cases O with
    |ptr s=>exact⟨_,a _ _,.ptr s⟩
   .rename_i y ad
    injection e with e;subst e
    cases O with
    |pv E=>cases E with
     |rptr _ b o' _ uu g E=>exact⟨_,a _ _,.pv (by rw[VA];exact .rptr y b o' _ uu g E)⟩
   .rename_i k m j' ad
    split at e
    .rename_i H
     injection e with e;subst e
     cases O with
     |eptr s hn Y=>
      obtain⟨f,rfl⟩:=Y (wZ hs s H);exact⟨_,a _ _,.eptr s hn (λ_=>⟨f,by rw[VA]⟩)⟩
    .cases e
   .cases e
  .cases e
 .cases e
theorem z9(S:∀k b,h1 k=some b->h k=some b)(D:af C.P t=some ti){v:AV}{n:Int}{kk:IntKind}(E:RepA w M L h x u)(e:tu ti x n h1=some v):
 ∃r,(Instr.indexAt t u (.int kk n)).run C.P w=.ok r w/\RepA w M L h v r:=by
 unfold tu at e;split at e
 .rename_i K I N k m V s
  obtain⟨a,F,q,i,_,_⟩:=dO D s;split at e
  .rename_i g
   injection e with e;subst e
   cases E with
   |ext j=>cases j with
    |barr Q d=>
     have p:0<=n/\n<(m:Int):=⟨g.1,by omega⟩;refine⟨.pointer (some ⟨(L k).b,n.toNat,none⟩),?_,.ptr d⟩;simp only[Instr.indexAt,asIntOf,Sem.run_bind,Sem.run_pure,Result.andThen_ok,dF a,p,and_self,Ul,gj q,eV,i,VF,U0]
  .cases e
 .rename_i K J I N k o m X s
  obtain⟨a,F,q,i,_,_⟩:=dO D s;split at e
  .rename_i e0 U xs W y
   split at e
   .rename_i g
    obtain⟨G,H,B,l⟩:=g;injection e with e;subst e;have d:=S _ _ y
    cases E with
    |ext j=>cases j with
     |suf _ f R z T=>
      rw[d]at f;injection f with f;injection f with _ a2 a3 _;subst a2;subst a3;obtain⟨A,c,rfl,O⟩:=T G;rcases O with⟨g1,rfl,g3⟩|⟨g1,_,_⟩
      .have p:0<=n/\n<(m:Int):=⟨B,(Int.toNat_lt B).1 l⟩
       refine⟨.pointer (some ⟨(L k).b,o*U+n.toNat*F.size,none⟩),?_,.eptr d z (λ_=>⟨g1,?_⟩)⟩
       .simp only[Instr.indexAt,asIntOf,Sem.run_bind,Sem.run_pure,Result.andThen_ok,dF a,p,and_self,Ul,gj q,eV]
       .rw[i,<-H,UK,Wg]
      .rw[g1]at l;exact absurd l (Nat.not_lt_zero _)
   .cases e
  .cases e
 .cases e
theorem Cb{x y:Option AV}{v:AV}(e:zV x y=some v):x=some v\/y=some v:=by
 cases x with
 |some a=>exact .inl e
 |none=>exact .inr e
theorem Cc{x y:Option cK}{v:cK}(e:zW x y=some v):x=some v\/y=some v:=by
 cases x with
 |some a=>exact .inl e
 |none=>exact .inr e
theorem DR(I:∀k b,h1 k=some b->h k=some b){ty:TypeId}(m:af C.P t=some ti){v:AV}(p:RepA w M L h x u)
 (H:∀k e F xs z,h k=some (.row e F xs z)->(L k).isNil=true->xs=[])(e:BI ti x h1=some v):
 ∃r,(Builtin.len_ #[t] ty #[u]).run C.P w=.ok r w/\RepA w M L h v r:=by
 unfold BI at e;split at e
 .rename_i s i q y xs f
  obtain⟨d,_⟩:=dO m f;injection e with e;subst e
  have:∃A c,u=.slice A xs.length c:=by
   cases p with
   |pv E=>cases E with
    |sl0 a c=>exact⟨a,c,rfl⟩
    |sl _ b o c=>exact⟨_,c,rfl⟩
  obtain⟨A,c,rfl⟩:=this;exact⟨_,by simp[Builtin.len_,dF d,goInt],.pv (.val _)⟩
 .rename_i s i q y n f
  obtain⟨d,_⟩:=dO m f;injection e with e;subst e
  cases p with
  |pv E=>cases E with
   |hd _ A c=>exact⟨_,by simp[Builtin.len_,dF d,goInt],.pv (.val _)⟩
 .rename_i s i q y k n f
  obtain⟨d,_⟩:=dO m f;split at e
  .rename_i e0 F xs z f
   split at e
   .rename_i G
    injection e with e;subst e;have l:=I _ _ f
    have:∃A c,u=.slice A n c:=by
     cases p with
     |arr g D J=>
      grind [Loc.slice]
    obtain⟨A,c,rfl⟩:=this;exact⟨_,by simp[Builtin.len_,dF d,goInt],.pv (.val _)⟩
   .cases e
  .cases e
 .rename_i s i q y k n N f
  obtain⟨d,_⟩:=dO m f;injection e with e;subst e
  cases p with
  |ext j=>cases j with
   |barr _ _=>exact⟨_,by simp[Builtin.len_,dF d,goInt],.pv (.val _)⟩
 .rename_i s i q y k o n O f
  obtain⟨d,_⟩:=dO m f;split at e
  .rename_i e0 F xs z B
   split at e
   .rename_i G
    injection e with e;subst e;have l:=I _ _ B
    cases p with
    |ext j=>cases j with
     |suf _ g D K J=>
      rw[l]at g;injection g with g;injection g with _ a2 a3 _;subst a2;subst a3;obtain⟨A,c,rfl,_⟩:=J G;exact⟨_,by simp[Builtin.len_,dF d,goInt],.pv (.val _)⟩
   .cases e
  .cases e
 .cases e
def Lu(ul:Option Value)(y:Nat):Sem Nat:=match ul with|some v=>Instr.sliceBound v y .sliceB|none=>pure 0
def Lv(uh:Option Value)(n c:Nat):Sem Nat:=match uh with|some v=>Instr.sliceBound v c .sliceAcap|none=>pure n
theorem uC(ht:af C.P t=some ti){v:AV}(U:RepA w M L h x u){lo hi:Option AV}{ul uh:Option Value}
 (S:∀a,lo=some a->∃b,ul=some b/\RepA w M L h a b)(G:lo=none->ul=none)(R:∀a,hi=some a->∃b,uh=some b/\RepA w M L h a b)(D:hi=none->uh=none)
 (e:lE ti x lo hi=some v):
 ∃r,(Instr.sliceAt t u ul uh none).run C.P w=.ok r w/\RepA w M L h v r:=by
 unfold lE at e;split at e
 .rename_i et Y eb ez xs hk
  obtain⟨J,m,E,rfl,rfl,_⟩:=dO ht hk;simp only at e;split at e
  .rename_i l r g d
   split at e
   .rename_i hc
    obtain⟨V,W,c3,X⟩:=hc;injection e with e;subst e
    have Z:∃A c,u=.slice A xs.length c/\xs.length<=c:=by
     cases U with
     |pv d=>cases d with
      |sl0 a c=>exact⟨a,c,rfl,UR _⟩
      |sl _ b o c _ _ z=>exact⟨_,c,rfl,z⟩
    obtain⟨A,c,rfl,a1⟩:=Z
    have O:∀y,l<=y->(Lu ul y).run C.P w=.ok l w:=by
     intro y k
     cases lo with
     |none=>rw[G rfl];simp at g;subst g;rfl
     |some a=>
      obtain⟨b,rfl,q⟩:=S a rfl
      cases a with
      |pv p=>cases p with
       |val T=>cases T with
        |int kk n=>
         cases q with
         |pv q=>
          rw[aM q];simp only at g;split at g
          .rename_i N
           injection g with g;have:0<=n/\n<=(y:Int):=⟨N,by omega⟩;simp[Lu,Instr.sliceBound,asIntOf,this,g]
          .cases g
        |_=>simp at g
       |_=>simp at g
      |_=>simp at g
    have ar:(Lv uh xs.length c).run C.P w=.ok r w:=by
     cases hi with
     |none=>rw[D rfl];simp at d;subst d;rfl
     |some a=>
      obtain⟨b,rfl,q⟩:=R a rfl
      cases a with
      |pv p=>cases p with
       |val T=>cases T with
        |int kk n=>
         cases q with
         |pv q=>
          rw[aM q];simp only at d;split at d
          .rename_i N
           injection d with d;have:0<=n/\n<=(c:Int):=⟨N,by omega⟩;simp[Lv,Instr.sliceBound,asIntOf,this,d]
          .cases d
        |_=>simp at d
       |_=>simp at d
      |_=>simp at d
    refine⟨.slice (if c=l then A else A.map (·.add (l*m.size))) (r-l) (c-l),?_,?_⟩
    .have ad:=O r V
     have key:(Instr.sliceBounds true xs.length c ul uh none).run C.P w=.ok (l,r,c) w:=by
      unfold Instr.sliceBounds;cases uh<;>cases ul<;>simp_all[Lu,Lv]
     simp only[Instr.sliceAt,Sem.run_bind,dF J,Result.andThen_ok,Instr.slice,key,gj E,Sem.run_pure]
    .have F:((xs.take r).drop l).length=r-l:=by simp;omega
     refine .pv ?_;by_cases hz:r-l=0
     .have:(xs.take r).drop l=[]:=Uy (by omega)
      rw[this,hz];exact .sl0 _ _
     .cases U with
      |pv s=>cases s with
       |sl0=>simp at W;omega
       |sl _ b o _ sz uu a2 H B s=>
        have Q:¬c=l:=by omega
        rw[TQ Q]
        have I:sz=m.size:=by
         have K:0<xs.length:=by omega
         rw[<-H 0 xs[0] (an K)];have:=TP.1 X xs[0] (Uo K);simp[pN]at this;exact this.1
        subst I;simp only[UO,eV];rw[<-F]
        have f:∀(i:Nat) y,((xs.take r).drop l)[i]?=some y->xs[l+i]?=some y:=by
         intro i y k;rw[UW,Uu]at k;split at k
         .exact k
         .cases k
        refine .sl _ b (o+l*m.size) _ m.size (λi j=>uu (l+i) j) (by omega) (λi y k=>H _ y (f i y k)) (λi y j p k E=>?_) (λi y j p k E=>s _ y j p (f i y k) E);have:=B _ y j p (f i y k) E;rw[UK]at this;rw[show o+l*m.size+(i*m.size+j)=o+(l*m.size+i*m.size+j) from by omega];exact this
   .cases e
  .cases e
 .cases e
theorem Fl{a:Bool}(b:MemL C L h w)(hf:cY h1 h)(d:RepA w (ab C L h) L h x u)(e:Fd a h1 x=some (p,W)):
 aI C L h w L (ai h W) w/\Rep w (ab C L (ai h W)) p u/\cY h1 (ai h W):=by
 unfold Fd at e;split at e
 .injection e with e;injection e with e1 e2;subst e1;subst e2
  cases d with
  |pv c=>exact⟨aI.refl b,c,hf⟩
 grind [mT]
theorem uD{ρ:Operand->AV}{σ:Operand->Value}{b:Nat}{m:Bool}:∀{ps:List (Nat×Operand)}{k:Nat}{h:Hp}(_:MemL C L h w)(_:cY h1 h)(_:∀x∈ps.map (·.2),RepA w (ab C L h) L h (ρ x) (σ x)){xs:List PV}{W:List (Nat×Blk)},
 qv h1 ρ b m k ps=some (xs,W)->aI C L h w L (ai h W) w/\cY h1 (ai h W)/\xs.length=ps.length/\(∀x∈xs,x.cells.length=b)/\
  (∀(q:Nat)(i:Nat)(v:Value),(ps.map λ(i,x)=>(i,σ x))[q]?=some (i,v)->i=k+q/\∃p,xs[q]?=some p/\Rep w (ab C L (ai h W)) p v)
 |[],k,h,f,hf,j,xs,W,e=>by
  simp only[qv,T6,Ug]at e;obtain⟨rfl,rfl⟩:=e;exact⟨aI.refl f,hf,rfl,by simp,λq i v h=>by simp at h⟩
 |(i,x)::ps,k,h,f,hf,j,xs,W,e=>by
  simp only[qv]at e;split at e
  .rename_i d
   subst d;split at e
   .rename_i p I H J D E
    split at e
    .rename_i g
     injection e with e;injection e with ea eb;subst ea;subst eb;obtain⟨c,o,a3⟩:=Fl f hf (j x (by simp)) D;obtain⟨n,r,s,u,z⟩:=uD c.1 a3 (λy a=>(j y (by simp at a|-;exact .inr a)).mono c.2.1 c.2.2) E;rw[cO];refine⟨c.trans n,r,by simp[s],?_,?_⟩
     .intro y a
      rcases Ut.1 a with rfl|a
      .exact g
      .exact u y a
     .intro q F v l
      cases q with
      |zero=>simp at l;obtain⟨rfl,rfl⟩:=l;exact⟨by omega,p,rfl,o.mono n.2.1⟩
      |succ q=>
       obtain⟨K,G,A,B⟩:=z q F v (by simpa using l);exact⟨by omega,G,by simpa using A,B⟩
    .cases e
   .cases e
  .cases e
theorem uZ{c:Nat}:∀{vs:List (Nat×Value)}{k:Nat}{arr:Array Value},(∀(q:Nat) i v,vs[q]?=some (i,v)->i=k+q/\v.cells.size=c)->arr.size=(k+vs.length)*c->
 ∃d,Instr.fill (λi=>some (i*c,c)) arr vs=some d/\d.size=arr.size/\(∀q,q<k*c->d[q]?=arr[q]?)/\
  ∀(q:Nat) i v(j:Nat),vs[q]?=some (i,v)->j<c->d[(k+q)*c+j]?=v.cells[j]?
 |[],k,arr,_,o=>⟨arr,rfl,rfl,λ_ _=>rfl,λq i v j h=>by simp at h⟩
 |(i,v)::vs,k,arr,s,o=>by
  obtain⟨u,y⟩:=s 0 i v rfl
  obtain rfl:k=i:=by omega
  have x:k*c+c<=arr.size:=by rw[o];simp only[VE];rw[UK,UK];omega
  have m:¬((v.cells.size≠c||k*c+v.cells.size>arr.size)=true):=by simp;omega
  simp only[Instr.fill,TQ m]
  have e:(v.cells.zipIdx.foldl (λcs(p:Value×Nat)=>cs.setIfInBounds (k*c+p.2) p.1) arr).toList=df arr.toList (k*c) v.cells.toList:=by
   have:=qN (k*c) v.cells.toList 0 arr (by simp;omega);rw[<-Array.foldl_toList,Array.toList_zipIdx];simpa using this
  generalize B:v.cells.zipIdx.foldl (λcs(p:Value×Nat)=>cs.setIfInBounds (k*c+p.2) p.1) arr=A at e
  have g:A.size=arr.size:=by
   have:A.toList.length=arr.size:=by rw[e];simp[df];omega
   simpa using this
  obtain⟨d,g1,g2,g3,g4⟩:=uZ (vs:=vs) (k:=k+1) (arr:=A) (λq i r hq=>by
   obtain⟨a,b⟩:=s (q+1) i r (by simpa using hq);exact⟨by omega,b⟩) (by rw[g,o];simp only[VE];congr 1;omega)
  have f:∀q,q<k*c->A[q]?=arr[q]?:=by
   intro q hq;rw[<-UQ,e];unfold df;rw[U7,T4 (by simp;omega),Uu,T8 hq];simp
  have l:∀j,j<c->A[k*c+j]?=v.cells[j]?:=by
   intro j n;rw[<-UQ,e];unfold df;rw[U7,T7 (by simp;omega),T4 (by simp;omega)];simp only[UL,U5];rw[show k*c+j-min (k*c) arr.size=j from by omega];simp
  refine⟨d,g1,by omega,λq hq=>?_,λq z r j hq n=>?_⟩
  .rw[g3 q (by rw[UK];omega),f q hq]
  .cases q with
   |zero=>
    simp at hq;obtain⟨rfl,rfl⟩:=hq;rw[Wg,g3 _ (by rw[UK];omega),l j n]
   |succ q=>
    have:=g4 q z r j (by simpa using hq) n;rw[show k+(q+1)=k+1+q from by omega];exact this
end
section
variable {C:Cx} {L:Nat->Loc} {h1 h:Hp} {w:World}
theorem Cd(c:∀cs b,o.op≠.select cs b)(k:∀x∈o.op.operands,RepA w M L h (ρ x) (σ x)){v:AV}
 (e:bz C.P o ρ=some (v,W)):∃u,(execOp σ o).run C.P w=.ok (.value u) w/\W=[]/\v=.pv (.val u):=by
 unfold bz at e;split at e
 .rename_i a
  split at e
  .rename_i u g
   injection e with e;injection e with e1 e2;subst e1;subst e2
   have d:execOp σ o=execOp (λx=>pX (ρ x)) o:=by
    refine execOp_congr o c (λx i=>?_);have h1:=TP.1 a x (by simpa using i);have f:=k x i;generalize ρ x=y at h1 f|-
    cases y with
    |pv p=>cases p with
     |val l=>cases f with
      |pv j=>rw[aM j];rfl
     |_=>simp[eZ]at h1
    |_=>simp[eZ]at h1
   grind [mg]
  .cases e
 .cases e
theorem O5{args:List Operand}(e:args.map ρ=[x]):∃a,args=[a]/\ρ a=x:=by
 simp_all
theorem Fm{args:List Operand}{y:AV}(e:args.map ρ=[x,y]):∃a b,args=[a,b]/\ρ a=x/\ρ b=y:=by
 cases args with
 |nil=>simp at e
 |cons a r=>cases r with
  |nil=>simp at e
  |cons b r=>cases r with
   |nil=>simp at e;exact⟨a,b,rfl,e.1,e.2⟩
   |cons=>simp at e
theorem ah{α β:Type}{P:Program}:∀(s:Sem α)(f:α->Sem β),ak P (s >>= f)=(ak P s).bind λa=>ak P (f a)
 |.pure a,f=>rfl
 |.program k,f=>by
  show ak P ((k P) >>= f)=_;rw[ah (k P) f];rfl
 |.load _ _ _,_=>rfl
 |.store _ _ _ _,_=>rfl
 |.new _ _,_=>rfl
 |.shape _ _,_=>rfl
 |.freeze _ _ _,_=>rfl
 |.frozen _ _,_=>rfl
 |.getObj _ _,_=>rfl
 |.setObj _ _ _,_=>rfl
 |.choose _ _,_=>rfl
 |.sys _ _,_=>rfl
 |.mark _ _,_=>rfl
 |.halt _,_=>rfl
theorem dP{α:Type}(a:α):ak P (pure a)=some a:=rfl
theorem d7(h1:(o.op.operands.toList.all λx=>(eZ (ρ x)).isSome)=true)(a:ak P (execOp (λx=>pX (ρ x)) o)=some (.value v)):bz P o ρ=some (.pv (.val v),[]):=by
 grind [bz]
theorem bG(h:x=.pv (.val v)):eZ x=some v/\pX x=v:=by subst h;exact⟨rfl,rfl⟩
theorem DS{y:AV}(e:sI op x y=some v)(P:Program)(t:TypeId)(f g:Operand):
 ∃a b,x=.pv (.val a)/\y=.pv (.val b)/\ak P (do eqGuard op t f g a b;binOp op t a b)=some v:=by
 unfold sI at e;split at e
 .rename_i k a i b
  refine⟨.int k a,.int i b,rfl,rfl,?_⟩
  have d:ak P (eqGuard op t f g (.int k a) (.int i b))=some ():=by unfold eqGuard;cases op<;>rfl
  rw[ah,d];simp only[Ud];cases op<;>simp only at e
  case shl=>
   split at e
   .rename_i h;injection e with e;subst e
    have:¬b<0:=by omega
    simp only[binOp,Op.shift,this,Uf];rfl
   .cases e
  case shr=>
   split at e
   .rename_i h;injection e with e;subst e
    have:¬b<0:=by omega
    simp only[binOp,Op.shift,this,Uf];rfl
   .cases e
  case quo=>
   split at e
   .rename_i h;injection e with e;subst e
    obtain⟨rfl,c⟩:=h;simp only[binOp,ne_eq,Vv,Uf,Op.intDiv,c];rfl
   .cases e
  case rem=>
   split at e
   .rename_i h;injection e with e;subst e
    obtain⟨rfl,c⟩:=h;simp only[binOp,ne_eq,Vv,Uf,Op.intDiv,c];rfl
   .cases e
  all_goals first
   |(split at e
     .rename_i h;injection e with e;subst e;subst h
      simp only[binOp,ne_eq,Vv,Uf];rfl
     .cases e)
   |cases e
 .rename_i a b
  refine⟨.string a,.string b,rfl,rfl,?_⟩
  have d:ak P (eqGuard op t f g (.string a) (.string b))=some ():=by unfold eqGuard;cases op<;>rfl
  rw[ah,d];simp only[Ud]
  cases op<;>simp only at e<;>first|(injection e with e;subst e;rfl)|cases e
 .cases e
theorem HX{x y:Operand}(c:o.op=.binOp op t x y t')(e:sI op (ρ x) (ρ y)=some v):bz P o ρ=some (.pv (.val v),[]):=by
 obtain⟨a,b,d,f,g⟩:=DS e P t x y;refine d7 (by rw[c];simp[Op.operands,d,f,eZ]) ?_;unfold execOp;rw[c];simp only[(bG d).2,(bG f).2];rw[ah,g];rfl
theorem Kt{op:UnOp}{x:Operand}(c:o.op=.unOp op t x)(e:yS op (ρ x)=some v):bz P o ρ=some (.pv (.val v),[]):=by
 unfold yS at e;split at e
 .rename_i b a
  injection e with e;subst e;refine d7 (by rw[c];simp[Op.operands,a,eZ]) ?_;unfold execOp;rw[c];simp only[(bG a).2];rfl
 .rename_i k n a
  injection e with e;subst e;refine d7 (by rw[c];simp[Op.operands,a,eZ]) ?_;unfold execOp;rw[c];simp only[(bG a).2];rfl
 .cases e
theorem uE{k:IntKind}(e:dN P t=some k):P.underlying t=some (.int k):=by
 grind [dN]
theorem ft{d:TypeDesc}(e:P.underlying t=some d):ak P (underlying t)=some d:=by
 unfold underlying;rw[ah];show ak P (match P.underlying t with|some d=>pure d|none=>stuck "no such type")=some d;rw[e];rfl
theorem GC{s d:TypeId}{x:Operand}(a:o.op=.convert s d x)(e:tx P s d (ρ x)=some v):bz P o ρ=some (.pv (.val v),[]):=by
 unfold tx at e;split at e
 .rename_i g k f n h1 c b
  injection e with e;subst e;refine d7 (by rw[a];simp[Op.operands,b,eZ]) ?_;unfold execOp;rw[a];simp only[(bG b).2];rw[ah]
  have:ak P (convert s d (.int f n))=some (.int k (k.wrap n)):=by
   unfold convert;rw[ah,ft (uE h1)];simp only[Ud];rw[ah,ft (uE c)];rfl
  rw[this];rfl
 .cases e
theorem HY{d:List Operand}(f:o.op=.call ⟨.builtin .min,⟨d⟩,⟨ts⟩⟩)(e:wi (d.map ρ)=some v):bz P o ρ=some (.pv (.val v),[]):=by
 unfold wi at e;split at e
 .rename_i k a j b c
  injection e with e;subst e;obtain⟨x,y,rfl,g,i⟩:=Fm c;refine d7 (by rw[f];simp[Op.operands,Call.operands,g,i,eZ]) ?_;unfold execOp;rw[f];simp[resolve,invoke,builtin,Builtin.min_,(bG g).2,(bG i).2,Builtin.min2,ah,dP]
 .cases e
theorem HZ{d:List Operand}(f:o.op=.call ⟨.builtin .max,⟨d⟩,⟨ts⟩⟩)(e:wj (d.map ρ)=some v):bz P o ρ=some (.pv (.val v),[]):=by
 unfold wj at e;split at e
 .rename_i k a j b c
  injection e with e;subst e;obtain⟨x,y,rfl,g,i⟩:=Fm c;refine d7 (by rw[f];simp[Op.operands,Call.operands,g,i,eZ]) ?_;unfold execOp;rw[f];simp[resolve,invoke,builtin,Builtin.max_,(bG g).2,(bG i).2,Builtin.max2,ah,dP]
 .cases e
theorem li{q:Option Value}{e:cK}(h:∀v,q=some v->bz P o ρ=some (.pv (.val v),[]))(a:np P o ρ q=some e):bz P o ρ=some e:=by
 cases q with
 |none=>exact a
 |some v=>rw[h v rfl];exact a
theorem pI{i:TypeInfo}(h:P.info? t=some i):ak P (typeInfo t)=some i:=by
 unfold typeInfo;rw[ah];show(some P).bind _=_;rw[Ud,h];rfl
theorem Ku{x i:Operand}(l:o.op=.index t x i)(e:yT (gG P t) (ρ x) (ρ i)=some v):bz P o ρ=some (.pv (.val v),[]):=by
 unfold yT at e;split at e
 .rename_i s k n B g hi
  have f:P.underlying t=some .string:=by
   grind [gG]
  split at e
  .rename_i p
   simp only[No]at e;obtain⟨b,z,rfl⟩:=e;refine d7 (by rw[l];simp[Op.operands,g,hi,eZ]) ?_;unfold execOp;rw[l];simp only[(bG g).2,(bG hi).2]
   have h1:ak P (Instr.index t (.string s) (.int k n))=some (.int .u8 b.toNat):=by
    unfold Instr.index;simp only[asIntOf,pure_bind];rw[ah,ft f,Ud];simp only[p,Ul,z];rfl
   rw[ah,h1];rfl
  .cases e
 .rename_i m cs k n B g hi
  split at e
  .rename_i p
   have f:∃c d,P.underlying t=some (.array m c)/\P.underlying c=some d/\(∀fs,d≠.struct fs)/\(∀a b,d≠.array a b)/\∃j,P.info? c=some j/\j.size=1:=by
    grind [gG,Option.isSome_iff_exists,od]
   obtain⟨c,d,f,hd,C,y,j,A,r⟩:=f;refine d7 (by rw[l];simp[Op.operands,g,hi,eZ]) ?_;unfold execOp;rw[l];simp only[(bG g).2,(bG hi).2]
   have u:ak P (sizeOf c)=some 1:=by
    unfold sizeOf;rw[ah,pI A,Ud,<-r];rfl
   have q:ak P (isAgg c)=some false:=by
    unfold isAgg;rw[ah,ft hd,Ud]
    cases d<;>first|rfl|exact absurd rfl (C _)|exact absurd rfl (y _ _)
   have h1:ak P (Instr.index t (.agg cs) (.int k n))=some v:=by
    unfold Instr.index;simp only[asIntOf,pure_bind];rw[ah,ft f,Ud];simp only[p,and_self,Ul];rw[ah,u,Ud,VF];unfold part;rw[ah,q,Ud];simp only[T5,Uf,e];rfl
   rw[ah,h1];rfl
  .cases e
 .cases e
def Fo(C:Cx)(L:Nat->Loc)(h:Hp)(w:World)(o:Oper)(σ:Operand->Value)(v:AV)(W:List (Nat×Blk)):Prop:=
 ∃n u b a,(execOp σ o).run C.P w=.ok n b/\(n=.value u\/(n=.skip/\u=undef))/\aI C L h w a (ai h W) b/\RepA b (ab C a (ai h W)) a (ai h W) v u
theorem ed(a:MemL C L h w){v:AV}(b:RepA w (ab C L h) L h v u)(e:(execOp σ o).run C.P w=.ok (.value u) w):Fo C L h w o σ v []:=
 ⟨_,u,w,L,e,.inl rfl,aI.refl a,b⟩
theorem iT(c:MemL C L h w)(a:∀cs b,o.op≠.select cs b)(d:∀x∈o.op.operands,RepA w (ab C L h) L h (ρ x) (σ x)){v:AV}
 (e:bz C.P o ρ=some (v,W)):Fo C L h w o σ v W:=by
 obtain⟨u,h1,rfl,rfl⟩:=Cd a d e;exact ed c (.pv (.val u)) h1
theorem y4(P:Program)(t:TypeId)(v:Value):(newVar t v).run P w=.ok ⟨w.heap.size,0,none⟩ (w.alloc (.cells v.cells t)):=rfl
theorem Ej(c:MemL C L h w):∀k e d xs a,h k=some (.row e d xs a)->(L k).isNil=true->xs=[]:=λk _ _ _ _ b hn=>(c.bl k _ b).2.2.2.1 hn
theorem rG(a:List Operand)(c:∀x∈a,RepA w M L h (ρ x) (σ x)):aA w M L h (a.map ρ) (a.map σ):=by
 refine⟨by simp,λi p u hp b=>?_⟩
 grind
theorem DT{q:Option Bool}(h:yV op q=some b):∃a,q=some a/\((op=.eql/\b=a)\/(op=.neq/\b=!a)):=by
 unfold yV at h
 grind
theorem xU(a:nk x=true)(c:RepA w M L h x u):u=.slice none 0 0:=by
 unfold nk at a;split at a
 .cases c with
  |pv b=>rw[aM b,lh a]
 .cases a
theorem qO(h:mM P t=true):∃e,P.underlying t=some (.slice e):=by
 unfold mM at h;split at h
 .rename_i s z e b c d a
  exact⟨e,(dO a rfl).1⟩
 .cases h
theorem Aa(r:MemL C L h w)(j:∀k b,h1 k=some b->h k=some b)(l:RepA w (ab C L h) L h x u)(e:tA h1 x=some b):∃a n c,u=.slice a n c/\a.isNone=b:=by
 unfold tA at e;split at e
 .rename_i v
  split at e
  .rename_i hn
   injection e with e;subst e
   cases l with
   |pv g=>exact⟨none,0,0,by rw[aM g,lh hn],rfl⟩
  .cases e
 .rename_i xs
  split at e
  .cases e
  .rename_i i
   injection e with e;subst e
   cases l with
   |pv g=>
    cases g with
    |sl0 a c=>simp at i
    |sl xs b o c y u m j f g=>exact⟨_,_,_,rfl,rfl⟩
 .rename_i k n
  split at e
  .rename_i e0 y xs z p
   split at e
   .rename_i f
    injection e with e;subst e
    cases l with
    |arr d s A=>
     rw[j _ _ p]at d;injection d with d;injection d with a1 a2 a3 a4;subst a3
     have q:(L k).isNil=false:=by
      cases hq:(L k).isNil with
      |false=>rfl
      |true=>exact absurd (by rw[(r.bl k _ (j _ _ p)).2.2.2.1 hq]at f;exact f.1.symm) f.2
     grind [Loc.slice]
   .cases e
  .cases e
 .cases e
theorem DU(d:Nat){e:TypeId}(a:Option Addr)(n c:Nat)(h:P.underlying t=some (.slice e)):ak P (Op.equalIn (d+1) t (.slice a n c) (.slice none 0 0))=some a.isNone:=by
 unfold Op.equalIn;rw[ah]
 have:ak P (underlying t)=some (.slice e):=by unfold underlying;rw[ah];show(some P).bind _=_;rw[Ud,h];rfl
 rw[this,Ud];cases a<;>rfl
theorem Ac{dst:Option Nat}{x y:Operand}{ty:TypeId}{pos:String}{aft:Array Edge}{g:Option (Nat×Bool)}(j:∃e,P.underlying t=some (.slice e))
 {a:Option Addr}{n c:Nat}(k:σ x=.slice a n c)(l:σ y=.slice none 0 0){b:Bool}(f:(op=.eql/\b=a.isNone)\/(op=.neq/\b=!a.isNone)):
 ak P (execOp σ ⟨dst,.binOp op t x y t',ty,pos,aft,g⟩)=some (.value (.bool b)):=by
 obtain⟨e,i⟩:=j;unfold execOp;simp only[k,l];have hq:ak P (Op.equal t (.slice a n c) (.slice none 0 0))=some a.isNone:=DU _ a n c i;rcases f with⟨rfl,rfl⟩|⟨rfl,rfl⟩
 .have h1:ak P (eqGuard .eql t x y (.slice a n c) (.slice none 0 0))=some ():=rfl
  have d:ak P (binOp .eql t (.slice a n c) (.slice none 0 0))=some (.bool a.isNone):=by simp only[binOp,ah,hq,Ud];rfl
  simp only[ah,h1,d,Ud];rfl
 .have h1:ak P (eqGuard .neq t x y (.slice a n c) (.slice none 0 0))=some ():=rfl
  have d:ak P (binOp .neq t (.slice a n c) (.slice none 0 0))=some (.bool !a.isNone):=by simp only[binOp,ah,hq,Ud];rfl
  simp only[ah,h1,d,Ud];rfl
theorem DV(cs:Array Value)(off sz:Nat):Value.agg (cs.extract off (off+sz))=xP cs off sz:=by
 unfold xP
 congr 1
 grind
theorem qP{j:TypeInfo}(c:qL P t=some true)(d:P.info? t=some j)(cs:Array Value)(off:Nat):ak P (part t cs off)=some (xP cs off j.size):=by
 have a:ak P (isAgg t)=some true:=by
  unfold qL at c;unfold isAgg;rw[ah];split at c
  .rename_i h;rw[ft h];rfl
  .rename_i h;rw[ft h];rfl
  all_goals grind
 have b:ak P (sizeOf t)=some j.size:=by
  unfold sizeOf;rw[ah,pI d,Ud];rfl
 unfold part;rw[ah,a,Ud];show ak P (do pure (Value.agg (cs.extract off (off+(<-sizeOf t)))))=_;rw[ah,b,Ud,<-DV];rfl
theorem xV(a:qL P t=some false){off:Nat}(e:cs[off]?=some v):ak P (part t cs off)=some v:=by
 have b:ak P (isAgg t)=some false:=by
  unfold qL at a;unfold isAgg;rw[ah];split at a
  .cases a
  .cases a
  .rename_i d c hn h
   rw[ft h,Ud]
   cases d<;>first|rfl|exact(c _ rfl).elim|exact(hn _ _ rfl).elim
  .cases a
 unfold part;rw[ah,b,Ud];simp only[T5,Uf,e];rfl
theorem Kv{x i:Operand}(b:o.op=.index t x i)(e:yU (tz P t) (ρ x) (ρ i)=some v):bz P o ρ=some (.pv (.val v),[]):=by
 unfold yU at e;split at e
 .rename_i n s cs k d a c hi
  split at e
  .rename_i p
   injection e with e;subst e;unfold tz at a;split at a
   .rename_i m f r
    split at a
    .rename_i j q g
     injection a with a;injection a with hk1 hk2;subst hk1;subst hk2;refine d7 (by rw[b];simp[Op.operands,c,hi,eZ]) ?_;unfold execOp;rw[b];simp only[(bG c).2,(bG hi).2]
     have l:ak P (sizeOf f)=some j.size:=by
      unfold sizeOf;rw[ah,pI g,Ud];rfl
     have h1:ak P (Instr.index t (.agg cs) (.int k d))=some (xP cs (d.toNat*j.size) j.size):=by
      unfold Instr.index;simp only[asIntOf,pure_bind]
      grind [ah,ft,qP]
     rw[ah,h1];rfl
    .cases a
   .cases a
  .cases e
 .cases e
theorem H7{x:Operand}{f:Nat}(i:o.op=.field t x f)(e:wk (sJ P t f) (ρ x)=some v):bz P o ρ=some (.pv (.val v),[]):=by
 have key:∀{b c g cs},sJ P t f=some (b,c,g)->ρ x=.pv (.val (.agg cs))->∀v,(∀t',qL P t'=some b->(∃j,P.info? t'=some j/\j.size=g)->ak P (part t' cs c)=some v)->bz P o ρ=some (.pv (.val v),[]):=by
  intro b c g cs a k v hp;unfold sJ at a;split at a
  .rename_i fs l
   split at a
   .rename_i n d
    split at a
    .rename_i m j p q
     injection a with a;injection a with hk1 a;injection a with hk2 hk3;subst hk1;subst hk2;subst hk3;refine d7 (by rw[i];simp[Op.operands,k,eZ]) ?_;unfold execOp;rw[i];simp only[(bG k).2]
     have h1:ak P (Instr.field t (.agg cs) f)=some v:=by
      unfold Instr.field;rw[ah,ft l,Ud];simp only[d,asAgg,pure_bind]
      grind
     rw[ah,h1];rfl
    .cases a
   .cases a
  .cases a
 unfold wk at e
 grind [qP,xV]
theorem Ce{x y:Option Value}(e:wm x y=some v):x=some v\/y=some v:=by
 unfold wm at e
 grind
theorem GD{w:World}{L:Nat->Loc}{h:Hp}(f:Fn){vs:List Value}(h1:aA w M L h first us)(a:aA w M L h caps vs):RepA w M L h (BJ f first caps) (.func f us.toArray vs.toArray):=by
 unfold BJ;split
 .rename_i x r
  have g:=a.nil_inv;subst g;split
  .rename_i i c
   have e:=oZ c;rw[e]at h1;have b:=h1.map_pv_inv;split
   .rename_i j d
    rw[tr d b];exact .pv (.val _)
   .exact .pv (.fn f i [] us [] b.1 rfl b.2 bS.nil.2)
  .exact .fn f _ _ us [] h1.1 rfl h1.2 aA.nil.2
 .exact .fn f first caps us vs h1.1 a.1 h1.2 a.2
theorem xc(h:sK P t=true):∃d,P.underlying t=some d/\∀m,d≠.interface m:=by
 grind [sK]
end
section
variable {P:Program} {kt e0:TypeId} {kd:IntKind} {n:Nat} {j:TypeInfo}
end
section
variable {P:Program} {kt e0:TypeId} {kd:IntKind} {n:Nat} {j:TypeInfo} {w:World}
end
section
variable {C:Cx} {L:Nat->Loc} {h1 h:Hp} {w:World}
theorem Fp(E:MemL C L h w)(Z:∀k b,h1 k=some b->h k=some b)(g:∀d,o.dst=some d->h1 d=h d/\d<2000000)
 (F:∀x∈o.op.operands,RepA w (ab C L h) L h (ρ x) (σ x)){hn:List Nat}{v:AV}{W:List (Nat×Blk)}(e:eP C.P hn o ρ h1=some (v,W)):Fo C L h w o σ v W:=by
 obtain⟨b0,op,type,pos,after,guard⟩:=o;simp only at g
 cases op with
 |move x=>
  simp only[eP,T6,Ug]at e;obtain⟨rfl,rfl⟩:=e;exact ed E (F x (by simp[Op.operands])) rfl
 |assign x=>
  have D:=F x (by simp[Op.operands]);simp only[eP]at e
  have Y:some (ρ x,[])=some (v,W)->Fo C L h w ⟨b0,.assign x,type,pos,after,guard⟩ σ v W:=by
   intro e;simp only[T6,Ug]at e;obtain⟨rfl,rfl⟩:=e;exact ed E D rfl
  split at e
  .rename_i d
   split at e
   .rename_i hc
    simp only[An]at hc;split at e
    .rename_i sz zr et bq eb ez A
     split at e
     .rename_i hd
      injection e with e;injection e with B O;subst B;subst O
      have Q:h d=none:=by rw[<-(g d rfl).1];simpa using hd.1
      have cj:σ x=.slice none 0 0:=by
       have h2:=hc.2;generalize ρ x=y at h2 D;unfold nk at h2;split at h2
       .cases D with
        |pv V=>rw[aM V,lh h2]
       .cases h2
      have J:=kK (e:=et) (sz:=bq) (xs:=[]) (l:=⟨0,0,true⟩) E (Ext.refl _ w) Q (g d rfl).2 (λh=>by cases h)
       ⟨hd.2,UR _,by simp,λ_=>rfl,(λh=>by cases h)⟩
      exact⟨.value (.slice none 0 0),.slice none 0 0,w,_,by simp[execOp,cj],.inl rfl,J.1,J.2⟩
     .cases e
    .cases e
   .exact Y e
  .exact Y e
 |pick c a b=>
  simp only[eP]at e;split at e
  .rename_i t ht
   injection e with e;injection e with B O;subst B;subst O;have hc:=F c (by simp[Op.operands]);rw[ht]at hc
   have cp:σ c=.bool t:=by cases hc with|pv V=>exact aM V
   refine ed E (u:=if t then σ a else σ b) ?_ (by simp[execOp,cp,asBool])
   cases t with
   |true=>exact F a (by simp[Op.operands])
   |false=>exact F b (by simp[Op.operands])
  .cases e
 |alloc elem=>
  simp only[eP]at e;split at e
  .rename_i sz z kd d A
   split at e
   .rename_i hd
    injection e with e;injection e with B O;subst B;subst O
    have Q:h d=none:=by rw[<-(g d rfl).1];simpa using hd
    obtain⟨i,dd,hi,_,_,hz,_⟩:=gY A
    have cH:aA w (ab C L h) L h (z.cells.toList.map λv=>AV.pv (.val v)) z.cells.toList:=by
     refine⟨by simp,λq p u hp hu=>?_⟩;simp only[TR,No]at hp;obtain⟨y,hy,rfl⟩:=hp;rw[hy]at hu;injection hu with hu;subst hu;exact .pv (.val _)
    have hb:=z7 (us:=z.cells) E Q (g d rfl).2 cH elem;refine⟨.value (.pointer (some ⟨w.heap.size,0,none⟩)),_,_,_,?_,.inl rfl,hb.1,hb.2⟩;simp only at hz;simp[execOp,Instr.alloc,zeroValue,mU hi,<-hz,y4]
   .cases e
  .cases e
 |box elem x=>
  simp only[eP]at e;split at e
  .rename_i cs d cn
   split at e
   .rename_i hd
    injection e with e;injection e with B O;subst B;subst O
    have Q:h d=none:=by rw[<-(g d rfl).1];simpa using hd
    have V:=pH Z (F x (by simp[Op.operands])) cn;have hb:=z7 (us:=(σ x).cells) E Q (g d rfl).2 V elem;refine⟨.value (.pointer (some ⟨w.heap.size,0,none⟩)),_,_,_,?_,.inl rfl,hb.1,hb.2⟩;simp[execOp,Instr.box,y4]
   .cases e
  .cases e
 |build t ps=>
  simp only[eP]at e;split at e
  .rename_i ti qs A cx
   simp only[No,Ug]at e;obtain⟨v',B,rfl,rfl⟩:=e;have hp:=uB (σ:=σ) Z (λx D=>F x (by simpa[Op.operands]using D)) cx;obtain⟨r,G,H⟩:=BE A hp B;refine ed E H ?_
   have:(ps.map λ(i,x)=>(i,σ x))=(ps.toList.map λ(i,x)=>(i,σ x)).toArray:=by
    apply Array.ext';simp
   simp only[execOp,Sem.run_bind,this,G,Result.andThen_ok,Sem.run_pure]
  .cases e
 |buildSlice t len ps=>
  simp only[eP]at e;split at e
  .rename_i cN I
   injection e with e;subst e;unfold xQ at I;split at I
   .rename_i d cw
    split at I
    .split at I
     .rename_i s0 z0 et bq eb z1 A
      split at I
      .rename_i hc
       injection I with I;injection I with B O;subst B;subst O;obtain⟨ad,jt,hj,cd,_,cf⟩:=dO A rfl
       have Q:h d=none:=by rw[<-(g d rfl).1];simpa using hc.1
       have J:=kK (e:=et) (sz:=bq) (xs:=[]) (l:=⟨w.heap.size,0,false⟩) E (Ext.alloc (λ_=>False) w (.cells #[] et)) Q (g d rfl).2 (λ_=>Ua _)
        ⟨hc.2,UR _,by simp,λ_=>rfl,λ_=>⟨Ua _,UR _,#[],jL w _,by simp,λi x j p D=>by simp at D⟩⟩
       have ck:ps=#[]:=by apply Array.ext';simpa using cw
       subst ck;refine⟨.value (.slice (some ⟨w.heap.size,0,none⟩) 0 0),_,w.alloc (.cells #[] et),_,?_,.inl rfl,J.1,J.2⟩
       have h0:¬0>2^24:=by omega
       simp only[execOp,Instr.buildSlice,Sem.run_bind,dF ad,Result.andThen_ok,gj hj,WB,Ul,pure_bind,h0,Uf]
       have B:Array.range 0=#[]:=by simp
       rw[B];simp only[List.map_toArray,WE,Instr.fill];rfl
      .cases I
     .cases I
    .cases I
   .cases I
  split at e
  .rename_i s0 z0 et bq eb z1 A
   split at e
   .rename_i xs W' cq
    split at e
    .rename_i hc
     obtain⟨c1,c2,c3⟩:=hc;obtain⟨ad,jt,hj,cd,_,cf⟩:=dO A rfl;subst cd;obtain⟨a1,a2,a3,a4,a5⟩:=uD (σ:=σ) E (cY.of_sub Z) (λx D=>F x (by simpa[Op.operands]using D)) cq
     have ar:(ps.map λ(i,x)=>(i,σ x)).toList=ps.toList.map λ(i,x)=>(i,σ x):=by simp
     have cm:ps.toList.length=len:=by omega
     have ba:∀(q:Nat) i v,(ps.toList.map λ(i,x)=>(i,σ x))[q]?=some (i,v)->i=0+q/\v.cells.size=jt.size:=by
      intro q i v hq;obtain⟨b1,p,b2,b3⟩:=a5 q i v hq;refine⟨b1,?_⟩;have:=b3.cells.1;rw[a4 p (Is b2)]at this;simpa using this.symm
     obtain⟨arr,f1,f2,f3,f4⟩:=uZ (arr:=(Array.range (len*jt.size)).map ((if len*jt.size=0 then #[]else z1.cells:Array Value)[·% (if len*jt.size=0 then #[]else z1.cells:Array Value).size]!)) ba (by simp[cm]);have hg:=a1.1.grow (Ext.alloc (λ_=>False) w (.cells arr et))
     have bH:(execOp σ ⟨b0,.buildSlice t len ps,type,pos,after,guard⟩).run C.P w=.ok (.value (.slice (some ⟨w.heap.size,0,none⟩) len len)) (w.alloc (.cells arr et)):=by
      have ch:¬len*jt.size>2^24:=by omega
      have b8:(zeroValue et).run C.P w=.ok z1 w:=by simp[zeroValue,mU hj,cf]
      by_cases hl:len*jt.size=0
      .simp only[hl,Ul]at f1
       have h0:¬0>2^24:=by omega
       simp only[execOp,Instr.buildSlice,Sem.run_bind,dF ad,Result.andThen_ok,gj hj,hl,h0,Uf,Ul,pure_bind,ar,f1];rfl
      .simp only[hl,Uf]at f1
       simp only[execOp,Instr.buildSlice,Sem.run_bind,dF ad,Result.andThen_ok,gj hj,ch,hl,Uf,pure_bind,b8,ar,f1];rfl
     have bs:∀(i:Nat) x(j:Nat) p,xs[i]?=some x->x.cells[j]?=some p->∃u,arr[i*jt.size+j]?=some u/\Rep w (ab C L (ai h W')) p u:=by
      intro i x j p D U
      have b7:i<(ps.toList.map λ(i,x)=>(i,σ x)).length:=by rw[Ux];have:=(th.1 D).1;omega
      obtain⟨⟨i',vv⟩,X⟩:∃y,(ps.toList.map λ(i,x)=>(i,σ x))[i]?=some y:=⟨_,an b7⟩;obtain⟨b1,p',b2,b3⟩:=a5 i i' vv X;rw[D]at b2;injection b2 with b2;subst b2
      have a6:j<jt.size:=by rw[<-a4 x (Is D)];exact(th.1 U).1
      have M:=f4 i i' vv j X a6;rw[U0]at M
      have bb:j<vv.cells.size:=by rw[(ba i i' vv X).2];exact a6
      rw[UJ bb]at M;exact⟨_,M,b3.cells.2 j p vv.cells[j] U (by simp[bb])⟩
     split at e
     .rename_i d hd
      unfold B5 at hd;split at hd
      .rename_i d' _
       split at hd
       .rename_i b9
        injection hd with hd;subst hd;injection e with e;injection e with B O;subst B;subst O;simp only[An,WJ]at b9
        have Q:h d'=none:=by rw[<-(g d' rfl).1];exact b9.2
        have J:=kK (e:=et) (sz:=jt.size) (xs:=xs) (l:=⟨w.heap.size,len,false⟩) E (Ext.alloc (λ_=>False) w (.cells arr et)) Q (g d' rfl).2 (λ_=>Ua _) (by
         refine⟨c2,UR _,λx D=>a4 x D,(λh=>by cases h),λ_=>⟨by show xs.length<=len;omega,by simp only[maxLen];have:=Nat.le_mul_of_pos_right len c2;omega,arr,jL w _,?_,?_⟩⟩
         .rw[f2];simp
         .intro i x j p D U
          obtain⟨u,hu,V⟩:=bs i x j p D U
          exact⟨u,hu,V.mono (oe (Ext.alloc (λ_=>False) w (.cells arr et)) (λ_=>Ua _))⟩)
        rw[c1]at J;exact⟨_,_,_,_,bH,.inl rfl,J.1,J.2⟩
       .cases hd
      .cases hd
     injection e with e;injection e with B O;subst B;subst O;refine⟨.value (.slice (some ⟨w.heap.size,0,none⟩) len len),_,w.alloc (.cells arr et),L,bH,.inl rfl,a1.trans ⟨hg.1,hg.2,KC.refl _ _⟩,.pv ?_⟩
     .rw[<-c1]
      refine .sl xs w.heap.size 0 xs.length jt.size (λi j=>(arr[i*jt.size+j]?).getD undef) (Ua _) (λi x D=>a4 x (Is D)) ?_ ?_
      all_goals
       intro i x j p D U
       have b7:i<(ps.toList.map λ(i,x)=>(i,σ x)).length:=by rw[Ux];have:=(th.1 D).1;omega
       obtain⟨⟨i',vv⟩,X⟩:∃y,(ps.toList.map λ(i,x)=>(i,σ x))[i]?=some y:=⟨_,an b7⟩;obtain⟨b1,p',b2,b3⟩:=a5 i i' vv X;rw[D]at b2;injection b2 with b2;subst b2
       have a6:j<jt.size:=by rw[<-a4 x (Is D)];exact(th.1 U).1
       have M:=f4 i i' vv j X a6;rw[U0]at M
       have bb:j<vv.cells.size:=by rw[(ba i i' vv X).2];exact a6
       rw[UJ bb]at M
      .refine⟨by rw[eH (jL w _),U0,M];rfl,λhM=>?_⟩
       have:=a1.1.mlt hM;omega
      .simp only[M,Uj]
       have:=b3.cells.2 j p vv.cells[j] U (by simp[bb]);exact this.mono hg.2
    .cases e
   .cases e
  .cases e
 |load t a=>
  simp only[eP]at e;split at e
  .rename_i ti A
   simp only[No,Ug]at e;obtain⟨v',B,rfl,rfl⟩:=e;obtain⟨r,G,H⟩:=uY E Z A (F a (by simp[Op.operands])) B;exact ed E H (by simp[execOp,G])
  .cases e
 |store t a x=>
  simp only[eP]at e;split at e
  .rename_i ti A
   simp only[No,Ug]at e;obtain⟨W',B,rfl,rfl⟩:=e;obtain⟨w',G,H⟩:=BC E Z A (F a (by simp[Op.operands])) (F x (by simp[Op.operands])) B;exact⟨.skip,undef,w',L,by simp[execOp,G],.inr ⟨rfl,rfl⟩,H,.undef _⟩
  .cases e
 |nilCheck x=>
  have D:=F x (by simp[Op.operands]);simp only[eP]at e;split at e
  .rename_i k cM hk
   injection e with e;injection e with B O;subst B;subst O;rw[hk]at D;have bc:=D;generalize hσ:σ x=u at D bc
   cases D with
   |ptr cg=>exact ed E bc (by simp[execOp,hσ])
  .rename_i y cM hk
   injection e with e;injection e with B O;subst B;subst O;rw[hk]at D;have bc:=D;generalize hσ:σ x=u at D bc
   cases D with
   |pv V=>cases V with
    |rptr=>exact ed E bc (by simp[execOp,hσ])
  .cases e
 |fieldAddr s x f=>
  simp only[eP]at e;split at e
  .rename_i ti A
   simp only[No,Ug]at e;obtain⟨v',B,rfl,rfl⟩:=e;obtain⟨r,G,H⟩:=wQ A Z (F x (by simp[Op.operands])) B;exact ed E H (by simp[execOp,G])
  .cases e
 |indexAddr t x ix=>
  simp only[eP]at e;split at e
  .rename_i ti n A hn
   simp only[No,Ug]at e;obtain⟨v',B,rfl,rfl⟩:=e;have cb:=F ix (by simp[Op.operands])
   have ca:∃kk,σ ix=.int kk n:=by
    generalize ρ ix=y at hn cb;unfold B3 at hn;split at hn
    .rename_i kk m
     injection hn with hn;subst hn
     cases cb with
     |pv V=>exact⟨kk,aM V⟩
    .cases hn
   obtain⟨kk,cg⟩:=ca;obtain⟨r,G,H⟩:=(Cb B).elim (wR (kk:=kk) Z A (F x (by simp[Op.operands])) (Ej E)) (z9 (kk:=kk) Z A (F x (by simp[Op.operands])));exact ed E H (by simp[execOp,cg,G])
  .cases e
 |makeInterface t x=>
  simp only[eP]at e;split at e
  .rename_i hp
   split at e
   .rename_i p W' B
    injection e with e;injection e with e1' e2';subst e1';subst e2';obtain⟨b1,b2,_⟩:=mT E (cY.of_sub Z) (F x (by simp[Op.operands])) B;refine⟨.value (.iface t (σ x)),_,w,L,?_,.inl rfl,b1,.pv (.ifc t p _ b2)⟩;obtain⟨d,hd,b4⟩:=xc hp;simp only[execOp,Instr.makeInterface,Sem.run_bind,run_underlying hd,Result.andThen_ok]
    cases d<;>first|rfl|exact(b4 _ rfl).elim
   .cases e
  .cases e
 |typeAssert x xt a' ok=>
  have D:=F x (by simp[Op.operands]);simp only[eP]at e;split at e
  .rename_i t p hk
   split at e
   .rename_i hp
    simp only[No,Ug]at e;obtain⟨v',B,rfl,rfl⟩:=e;rw[hk]at D;generalize hσ:σ x=u at D
    cases D with
    |pv V=>cases V with
     |ifc _ _ v S=>
      obtain⟨d,hd,b4⟩:=xc hp;unfold zY at B
      have a9:(Instr.typeAssert (.iface t v) xt a' ok).run C.P w=(if t=a' then .ok (if ok then .tuple #[v,.bool true]else v) w else if ok then((zeroValue a').run C.P w).andThen λz w=>.ok (.tuple #[z,.bool false]) w else(runtimePanic (.typeAssertion (some xt) (some t) a' ""):Sem Value).run C.P w):=by
       unfold Instr.typeAssert;simp only[Sem.run_bind,dF hd,Result.andThen_ok]
       cases d with
       |interface m=>exact(b4 m rfl).elim
       |_=>split<;>split<;>simp[Sem.run_bind]<;>rfl
      split at B
      .rename_i ht
       injection B with B;subst B;refine ed E (u:=if ok then .tuple #[v,.bool true]else v) ?_ (by simp only[execOp,hσ,Sem.run_bind,a9,T8 ht,Result.andThen_ok];rfl)
       cases ok with
       |false=>exact .pv S
       |true=>exact .pv (.tup [p,.val (.bool true)] [v,.bool true] rfl (bS.cons S (bS.cons (.val _) .nil)).2)
      .rename_i ht
       split at B
       .rename_i ct
        split at B
        .rename_i z hz
         injection B with B;subst B;obtain⟨ti,A,cB⟩:=Option.bind_eq_some_iff.1 hz;obtain⟨i,_,hi,_,_,cr,_⟩:=gY A;subst ct
         have b8:(zeroValue a').run C.P w=.ok z w:=by
          have:i.zero=some z:=cr▸cB;simp[zeroValue,mU hi,this]
         refine ed E (u:=.tuple #[z,.bool false]) ?_ (by simp only[execOp,hσ,Sem.run_bind,a9,TQ ht,Ul,b8,Result.andThen_ok];rfl);exact .pv (.tup [.val z,.val (.bool false)] [z,.bool false] rfl (bS.cons (.val _) (bS.cons (.val _) .nil)).2)
        .cases B
       .cases B
   .cases e
  .cases e
 |makeFunc f first caps=>
  obtain⟨first⟩:=first
  obtain⟨caps⟩:=caps;simp only[eP,T6,Ug]at e;obtain⟨rfl,rfl⟩:=e
  have a1:=rG (σ:=σ) first (λx D=>F x (by simp[Op.operands,D]))
  have a2:=rG (σ:=σ) caps (λx D=>F x (by simp[Op.operands,D]));refine ed E (u:=.func f (first.map σ).toArray (caps.map σ).toArray) ?_ (by simp[execOp,Instr.makeFunc]);exact GD f a1 a2
 |makeSlice t l c=>
  simp only[eP]at e;split at e
  .rename_i ti A
   obtain⟨r,w',L',G,H,a8⟩:=(Cc e).elim (BD E A g (F l (by simp[Op.operands])) (F c (by simp[Op.operands]))) (B9 E A g (F l (by simp[Op.operands])) (F c (by simp[Op.operands])));exact⟨.value r,r,w',L',by simp[execOp,G],.inl rfl,H,a8⟩
  .cases e
 |slice t x lo hi mx=>
  simp only[eP]at e;split at e
  .exact iT E (by intro _ _ h;cases h) F e
  .rename_i k n hk
   split at e
   .rename_i ti A
    unfold JS at e;split at e
    .rename_i p W1 B
     split at e
     .rename_i v1 O
      injection e with e;injection e with ea eb;subst ea;subst eb;have D:=F x (by simp[Op.operands]);rw[hk]at D;obtain⟨a1,a2,_⟩:=nq E (cY.of_sub Z) D B
      obtain⟨r,G,H⟩:=uC (ul:=lo.map σ) (uh:=hi.map σ) A (.pv a2)
       (by intro a K;cases lo with
         |none=>cases K
         |some y=>simp at K;subst K;exact⟨_,rfl,(F y (by simp[Op.operands])).mono a1.2.1 a1.2.2⟩) (by intro K;cases lo with
         |none=>rfl
         |some y=>cases K)
       (by intro a K;cases hi with
         |none=>cases K
         |some y=>simp at K;subst K;exact⟨_,rfl,(F y (by simp[Op.operands])).mono a1.2.1 a1.2.2⟩) (by intro K;cases hi with
         |none=>rfl
         |some y=>cases K) O
      exact⟨.value r,r,w,L,by simp[execOp,G],.inl rfl,a1,H⟩
     .cases e
    .cases e
   .cases e
  .split at e
   .rename_i ti A
    simp only[No,Ug]at e;obtain⟨v',B,rfl,rfl⟩:=e
    obtain⟨r,G,H⟩:=uC (ul:=lo.map σ) (uh:=hi.map σ) A (F x (by simp[Op.operands]))
     (by intro a K;cases lo with
       |none=>cases K
       |some y=>simp at K;subst K;exact⟨_,rfl,F y (by simp[Op.operands])⟩) (by intro K;cases lo with
       |none=>rfl
       |some y=>cases K)
     (by intro a K;cases hi with
       |none=>cases K
       |some y=>simp at K;subst K;exact⟨_,rfl,F y (by simp[Op.operands])⟩) (by intro K;cases hi with
       |none=>rfl
       |some y=>cases K) B
    exact ed E H (by simp[execOp,G])
   .cases e
  .cases e
 |extract t i=>
  have ht:=F t (by simp[Op.operands]);simp only[eP]at e;split at e
  .rename_i vs ar
   simp only[No,Ug]at e;obtain⟨v',B,rfl,rfl⟩:=e;rw[ar]at ht;generalize hσ:σ t=u at ht
   cases ht with
   |tup _ us hl hh=>
    have a7:i<us.length:=by rw[<-hl];exact(th.1 B).1
    exact ed E (hh i v' us[i] B (an a7)) (by simp[execOp,hσ,Instr.extract,a7])
  .rename_i vs ar
   simp only[No,Ug]at e;obtain⟨v',B,rfl,rfl⟩:=e;rw[ar]at ht;generalize hσ:σ t=u at ht
   cases ht with
   |pv V=>cases V with
    |tup _ us hl hh=>
     have a7:i<us.length:=by rw[<-hl];exact(th.1 B).1
     exact ed E (.pv (hh i v' us[i] B (an a7))) (by simp[execOp,hσ,Instr.extract,a7])
  .exact iT E (by intro _ _ h;cases h) F e
  .cases e
 |call c=>
  simp only[eP]at e;split at e
  .rename_i b hb
   obtain⟨callee,args,argTypes⟩:=c;simp only at hb e;subst hb;obtain⟨args⟩:=args;obtain⟨argTypes⟩:=argTypes;simp only at e;have b5:(execOp σ ⟨b0,.call ⟨.builtin b,⟨args⟩,⟨argTypes⟩⟩,type,pos,after,guard⟩)=builtin b ⟨argTypes⟩ type ((⟨args⟩:Array Operand).map λ|.const _=>true|_=>false) ((⟨args⟩:Array Operand).map σ):=rfl;have R:∀x∈args,RepA w (ab C L h) L h (ρ x) (σ x):=λx D=>F x (by simp[Op.operands,Call.operands,D]);unfold uV at e;split at e
   .rename_i _ _ x t N
    .obtain⟨a,rfl,rfl⟩:=O5 N
     split at e
     .exact iT E (by intro _ _ h;cases h) F e
     .split at e
      .rename_i ti A
       simp only[No,Ug]at e;obtain⟨v',B,rfl,rfl⟩:=e;obtain⟨r,G,H⟩:=DR (ty:=type) Z A (R a (by simp)) (Ej E) B;exact ed E H (by rw[b5];simp[builtin,G])
      .cases e
   .rename_i _ _ s x t t' N
    .obtain⟨a,b,rfl,rfl,rfl⟩:=Fm N
     split at e
     .rename_i cz
      subst cz;split at e
      .rename_i ti A
       obtain⟨r,w',L',G,H,a8⟩:=z8 (ty:=type) E Z A g (R a (by simp)) (R b (by simp)) e;exact⟨.value r,r,w',L',by rw[b5];simp[builtin,G],.inl rfl,H,a8⟩
      .cases e
     .cases e
   .rename_i _ _ s x t t' N
    .obtain⟨a,b,rfl,rfl,rfl⟩:=Fm N
     split at e
     .rename_i ti A
      obtain⟨r,w',G,H,a8⟩:=Ca (t':=t') (ty:=type) E Z A (R a (by simp)) (R b (by simp)) e;exact⟨.value r,r,w',L,by rw[b5];simp[builtin,G],.inl rfl,H,a8⟩
     .cases e
   .exact iT E (by intro _ _ h;cases h) F (li (λv S=>HY rfl S) e)
   .exact iT E (by intro _ _ h;cases h) F (li (λv S=>HZ rfl S) e)
   .cases e
  .cases e
 |binOp op t x y t'=>
  simp only[eP]at e;split at e
  .rename_i b hb
   injection e with e;injection e with B O;subst B;subst O;unfold B4 at hb;split at hb
   .rename_i T
    simp only[An]at T;obtain⟨b',hk,cu⟩:=DT hb;have hy:=xU T.1 (F y (by simp[Op.operands]));obtain⟨a,n,c,D,K⟩:=Aa E Z (F x (by simp[Op.operands])) hk;refine ed E (.pv (.val (.bool b))) (mg (Ac (qO T.2) D hy ?_) w);rcases cu with⟨rfl,rfl⟩|⟨rfl,rfl⟩
    .left;exact⟨rfl,by rw[K]⟩
    .right;exact⟨rfl,by rw[K]⟩
   .cases hb
  .exact iT E (by intro _ _ h;cases h) F (li (λv S=>HX rfl S) e)
 |unOp _ _ _=>simp only[eP]at e;exact iT E (by intro _ _ h;cases h) F (li (λv S=>Kt rfl S) e)
 |convert _ _ _=>simp only[eP]at e;exact iT E (by intro _ _ h;cases h) F (li (λv S=>GC rfl S) e)
 |field _ _ _=>simp only[eP]at e;exact iT E (by intro _ _ h;cases h) F (li (λv S=>H7 rfl S) e)
 |index _ _ _=>simp only[eP]at e;exact iT E (by intro _ _ h;cases h) F (li (λv S=>(Ce S).elim (Ku rfl) (Kv rfl)) e)
 |_=>simp[eP]at e
end
section
variable {C:Cx} {L:Nat->Loc} {h1 h:Hp} {w:World}
theorem lj:∀{W:List (Nat×Blk)}{h:Hp}{k:Nat},(∀d∈W,d.1≠k)->ai h W k=h k
 |[],h,k,_=>rfl
 |(q,b)::W,h,k,a=>by
  show ai (ae h q (some b)) W k=h k;rw[lj (λd c=>a d (by simp[c])),bB (λe=>a (q,b) (by simp) e.symm)]
theorem MemL.callStep(n:MemL C L h w){z:World}{h':Hp}(K:Ext (·∈ks.map λk=>(L k).b) w z)(x:hout.length=ks.length)
 (u:∀k,k∉ks->h' k=h k)
 (X:∀(i:Nat) k g,ks[i]?=some k->hout[i]?=some g->∃cs own,h k=some (.box cs own false)/\h' k=some (.box (g.map .pv) own false)/\kD z (ab C L h) (L k).b g):aI C L h w L h' z:=by
 have hin:∀k,k∈ks->∃g cs own,h k=some (.box cs own false)/\h' k=some (.box (g.map .pv) own false)/\kD z (ab C L h) (L k).b g:=by
  intro k hk;obtain⟨i,hi⟩:=Vh.1 hk
  have F:i<hout.length:=by rw[x];exact(th.1 hi).1
  obtain⟨cs,own,a,b,c⟩:=X i k hout[i] hi (an F)
  grind
 have D:∀b o,ab C L h' b o->ab C L h b o:=by
  rintro b o (B|⟨q,d,hq,m,l,hf⟩)
  .exact .inl B
  .by_cases e:q∈ks
   .obtain⟨g,cs,own,a,_,_⟩:=hin q e
    exact .inr ⟨q,_,a,trivial,l,by simp[Blk.frz]⟩
   .rw[u q e]at hq;exact .inr ⟨q,d,hq,m,l,hf⟩
 have J:∀b o,ab C L h b o->ab C L h' b o:=by
  rintro b o (B|⟨q,d,hq,m,l,hf⟩)
  .exact .inl B
  .by_cases e:q∈ks
   .obtain⟨g,cs,own,a,r,_⟩:=hin q e
    exact .inr ⟨q,_,r,trivial,l,by simp[Blk.frz]⟩
   .exact .inr ⟨q,d,by rw[u q e];exact hq,m,l,hf⟩
 have v:KC L h L h':=by
  intro q d hq;by_cases e:q∈ks
  .obtain⟨g,cs,own,a,r,_⟩:=hin q e
   rw[a]at hq;injection hq with hq;subst hq;exact⟨_,r,rfl⟩
  .exact⟨d,by rw[u q e];exact hq,cX _ _⟩
 have A:∀b o,¬ab C L h b o->b∉ks.map λk=>(L k).b:=by
  intro b o hn f;obtain⟨q,hq,rfl⟩:=Ur.1 f;obtain⟨g,cs,own,a,_,_⟩:=hin q hq;exact hn (.inr ⟨q,_,a,trivial,rfl,by simp[Blk.frz]⟩)
 have j:Pres w (ab C L h) z (ab C L h'):=by
  grind [Pres.ext]
 refine⟨⟨?_,n.m0,?_,?_,?_⟩,j,v⟩
 .refine n.ext.trans K (λb Y f=>?_)
  obtain⟨q,hq,rfl⟩:=Ur.1 f;obtain⟨g,cs,own,a,_,_⟩:=hin q hq;have:=n.own q _ a
  cases own with
  |false=>exact this.2.2.1
  |true=>rcases this with I|I
         .omega
         .exact I.1
 .intro q d hq
  by_cases e:q∈ks
  .obtain⟨g,cs,own,a,r,arr,ty,T,U⟩:=hin q e
   rw[r]at hq;injection hq with hq;subst hq;exact⟨arr,ty,T,(aA.map_pv (U.mono (Pres.sub D)))⟩
  .rw[u q e]at hq
   refine(n.bl q d hq).mono j v (λm=>K.block _ ((n.bl q d hq).lt m) (λf=>?_));obtain⟨y,p,Z⟩:=Ur.1 f;obtain⟨g,cs,own,a,_,_⟩:=hin y p;exact n.sep q y _ _ (λS=>e (S▸p)) hq a m trivial Z.symm
 .intro q y M N G hq p m E
  have s:∀q b,h' q=some b->b.live (L q)->∃H,h q=some H/\H.live (L q):=by
   intro q b hq m;by_cases e:q∈ks
   .obtain⟨g,cs,own,a,_,_⟩:=hin q e;exact⟨_,a,trivial⟩
   grind
  obtain⟨O,Q,V⟩:=s q M hq m;obtain⟨P,R,W⟩:=s y N p E;exact n.sep q y O P G Q R V W
 .intro q d hq
  by_cases e:q∈ks
  .obtain⟨g,cs,own,a,r,_⟩:=hin q e
   rw[r]at hq;injection hq with hq;subst hq;have:=n.own q _ a;cases own<;>exact this
  .rw[u q e]at hq;exact n.own q d hq
theorem AS(e:lc h1 x=some (p,W)):∀a∈W,(h1 a.1).isSome=true:=by
 unfold lc at e
 grind
theorem tE:∀{xs:List AV}{p:List PV}{W:List (Nat×Blk)},mF h1 xs=some (p,W)->∀a∈W,(h1 a.1).isSome=true
 |[],p,W,e=>by simp only[mF,T6,Ug]at e;obtain⟨_,rfl⟩:=e;simp
 |x::r,p,W,e=>by
  simp only[mF]at e;split at e
  .rename_i d f
   injection e with e;injection e with _ e;subst e;intro a c;rcases Ui.1 c with b|b
   .exact AS d a b
   .exact tE f a b
  .cases e
theorem u0(e:sg h1 x=some (p,W)):∀b∈W,(h1 b.1).isSome=true:=by
 unfold sg at e;split at e
 .split at e
  .rename_i d
   split at e
   .split at e
    .rename_i c
     split at e
     .injection e with e;injection e with _ e;subst e
      intro b a
      grind [tE,List.mem_singleton]
     .cases e
    .cases e
   .split at e
    .split at e
     .rename_i c
      split at e
      .injection e with e;injection e with _ e;subst e
       intro b a
       grind [tE,List.mem_singleton]
      .cases e
     .cases e
    .cases e
  .cases e
 .exact AS e
theorem pc:∀{xs:List AV}{p:List PV}{W:List (Nat×Blk)},pE h1 xs=some (p,W)->∀a∈W,(h1 a.1).isSome=true
 |[],p,W,e=>by simp only[pE,T6,Ug]at e;obtain⟨_,rfl⟩:=e;simp
 |x::r,p,W,e=>by
  simp only[pE]at e;split at e
  .rename_i d f
   injection e with e;injection e with _ e;subst e;intro a c;rcases Ui.1 c with b|b
   .exact u0 d a b
   .exact pc f a b
  .cases e
theorem xd(e:qK h1 x=some (p,W)):∀c∈W,(h1 c.1).isSome=true:=by
 unfold qK at e;split at e
 .grind
 .split at e
  .rename_i f
   split at e
   .grind
   .split at e
    .rename_i d
     split at e
     all_goals
      injection e with e;injection e with _ e;subst e;intro c b;rcases Ui.1 b with a|a
      .exact pc d c a
      .simp only[UC]at a;subst a;simp[f]
    .cases e
  .cases e
 .cases e
theorem qQ:∀{xs:List AV}{p:List PV}{W:List (Nat×Blk)},kI h1 xs=some (p,W)->∀a∈W,(h1 a.1).isSome=true
 |[],p,W,e=>by simp only[kI,T6,Ug]at e;obtain⟨_,rfl⟩:=e;simp
 |x::r,p,W,e=>by
  simp only[kI]at e;split at e
  .rename_i d f
   injection e with e;injection e with _ e;subst e;intro a c;rcases Ui.1 c with b|b
   .exact xd d a b
   .exact qQ f a b
  .cases e
theorem GE(e:zT h1 x=some (p,W)):∀b∈W,(h1 b.1).isSome=true:=by
 unfold zT at e;split at e
 .split at e
  .rename_i a;injection e with e;injection e with _ e;subst e;exact pc a
  .cases e
 .split at e
  .rename_i a d
   injection e with e;injection e with _ e;subst e;intro b c
   grind [pc,qQ]
  .cases e
 .exact u0 e
theorem tF:∀{xs:List AV}{p:List PV}{W:List (Nat×Blk)},oL h1 xs=some (p,W)->∀a∈W,(h1 a.1).isSome=true
 |[],p,W,e=>by simp only[oL,T6,Ug]at e;obtain⟨_,rfl⟩:=e;simp
 |x::r,p,W,e=>by
  simp only[oL]at e;split at e
  .rename_i d f
   injection e with e;injection e with _ e;subst e;intro a c;rcases Ui.1 c with b|b
   .exact GE d a b
   .exact tF f a b
  .cases e
theorem H8(e:frz h1 x=some (p,W)):∀b∈W,(h1 b.1).isSome=true:=by
 unfold frz at e;split at e
 .split at e
  .rename_i a;injection e with e;injection e with _ e;subst e;exact tF a
  .cases e
 .split at e
  .rename_i a d
   injection e with e;injection e with _ e;subst e;intro b c
   grind [pc,qQ]
  .cases e
 .split at e
  .rename_i a;injection e with e;injection e with _ e;subst e;exact tF a
  .cases e
 .exact u0 e
theorem ny:∀{xs:List AV}{c:List Nat}{h:Hp}(_:MemL C L h w)(_:cY h1 h){us:List Value}(_:aA w (ab C L h) L h xs us){E:List Arg}{ks:List Nat}{W:List (Nat×Blk)},
 jy h1 xs c=some (E,ks,W)->aI C L h w L (ai h W) w/\cY h1 (ai h W)/\(∃y,ks=c++y)/\(c.Nodup->ks.Nodup)/\E.length=us.length/\
  (∀s∈W,(h1 s.1).isSome=true)/\∀(i:Nat) a v,E[i]?=some a->us[i]?=some v->Gx w (ab C L (ai h W)) (ks.map λk=>(L k).b) a v
 |[],c,h,G,hf,us,R,E,ks,W,e=>by
  simp only[jy,T6,Ug]at e;obtain⟨rfl,rfl,rfl⟩:=e;rw[R.nil_inv];exact⟨aI.refl G,hf,⟨[],by simp⟩,id,rfl,by simp,λi a v h=>by simp at h⟩
 |x::r,c,h,G,hf,us,R,E,ks,W,e=>by
  obtain⟨u,Z,rfl,S,o⟩:=R.cons_inv;unfold jy at e;split at e
  .rename_i k Y
   split at e
   .rename_i V
    obtain⟨rfl,O,_⟩:=V;split at e
    .rename_i F J W' l
     injection e with e;injection e with ea eb;injection eb with eb ec;subst ea;subst eb;subst ec;obtain⟨j,z,⟨y,a3⟩,a4,A,B,D⟩:=ny G hf o l;refine⟨j,z,⟨k::y,by rw[a3];simp⟩,λQ=>a4 ?_,by simp[A],B,λi a v d f=>?_⟩
     .rw[VN]
      refine⟨Q,by simp,?_⟩;intro q hq q' H P;simp at H;subst H;subst P;have I:c.contains q=true:=List.contains_iff_mem.2 hq;rw[O]at I;cases I
     .cases i with
      |zero=>
       simp at d f;subst d;subst f;refine⟨(L k).b,by rw[a3];simp,?_⟩
       cases S with
       |ptr _=>rfl
      |succ i=>exact D i a v (by simpa using d) (by simpa using f)
    .cases e
   .split at e
    .split at e
     .rename_i p T F J U l N
      injection e with e;injection e with ea eb;injection eb with eb ec;subst ea;subst eb;subst ec;obtain⟨g,K,M⟩:=uX G hf S l;obtain⟨j,z,a3,a4,A,B,D⟩:=ny g.1 M (o.mono g.2.1 g.2.2) N;rw[cO];refine⟨g.trans j,z,a3,a4,by simp[A],?_,λi a v d f=>?_⟩
      .intro s n
       rcases Ui.1 n with m|m
       .exact xd l s m
       .exact B s m
      .cases i with
       |zero=>simp at d f;subst d;subst f;exact K.mono j.2.1
       |succ i=>exact D i a v (by simpa using d) (by simpa using f)
     .cases e
    .cases e
  .rename_i x' X
   split at e
   .rename_i p T F J U l N
    injection e with e;injection e with ea eb;injection eb with eb ec;subst ea;subst eb;subst ec;obtain⟨g,K,M⟩:=mT G hf S l;obtain⟨j,z,a3,a4,A,B,D⟩:=ny g.1 M (o.mono g.2.1 g.2.2) N;rw[cO];refine⟨g.trans j,z,a3,a4,by simp[A],?_,λi a v d f=>?_⟩
    .intro s n
     rcases Ui.1 n with m|m
     .exact H8 l s m
     .exact B s m
    .cases i with
     |zero=>simp at d f;subst d;subst f;exact K.mono j.2.1
     |succ i=>exact D i a v (by simpa using d) (by simpa using f)
   .cases e
theorem AT:∀{ks:List Nat}{hin:List (List PV)},lW h1 ks=some hin->hin.length=ks.length/\∀(i:Nat) k d,ks[i]?=some k->hin[i]?=some d->∃own,h1 k=some (.box (d.map .pv) own false)
 |[],hin,e=>by simp only[lW,T6]at e;subst e;exact⟨rfl,λi k d h=>by simp at h⟩
 |k::ks,hin,e=>by
  simp only[lW]at e;split at e
  .rename_i cs own j g f
   split at e
   .rename_i d hp
    injection e with e;subst e;obtain⟨a,b⟩:=AT f;refine⟨by simp[a],λi q qs hq c=>?_⟩
    cases i with
    |zero=>simp at hq c;subst hq;subst c;exact⟨own,by rw[<-oZ hp];exact g⟩
    |succ i=>exact b i q qs (by simpa using hq) (by simpa using c)
   .cases e
  .cases e
theorem y5:∀{ks:List Nat}{hout:List (List PV)}{h:Hp},ks.Nodup->hout.length=ks.length->(∀k∈ks,∃cs own j,h1 k=some (.box cs own j))->
 (∀k,k∉ks->ai h (jS h1 ks hout) k=h k)/\(∀r∈jS h1 ks hout,r.1∈ks)/\
 (∀(i:Nat) k b,ks[i]?=some k->hout[i]?=some b->∀cs own j,h1 k=some (.box cs own j)->ai h (jS h1 ks hout) k=some (.box (b.map .pv) own false))
 |[],hout,h,_,_,_=>by
  refine⟨λk _=>?_,?_,λi k b h=>by simp at h⟩
  .cases hout<;>rfl
  .cases hout<;>simp[jS]
 |k::ks,hout,h,e,u,s=>by
  cases hout with
  |nil=>simp at u
  |cons b f=>
   obtain⟨cs,own,j,d⟩:=s k (by simp);have o:k∉ks:=(Wz.1 e).1;have ih:=λ(h:Hp)=>y5 (hout:=f) (h:=h) (Wz.1 e).2 (by simpa using u) (λq hq=>s q (by simp[hq]))
   have p:jS h1 (k::ks) (b::f)=(k,.box (b.map .pv) own false)::jS h1 ks f:=by simp[jS,d]
   rw[p];have v:∀q,ai h ((k,.box (b.map .pv) own false)::jS h1 ks f) q=ai (ae h k (some (.box (b.map .pv) own false))) (jS h1 ks f) q:=λq=>rfl;refine⟨λq hq=>?_,?_,λi q qs hq c l g m a=>?_⟩
   .simp at hq
    rw[v,(ih _).1 q hq.2,bB hq.1]
   .intro r n
    rcases Ut.1 n with rfl|x
    .simp
    .have:=(ih h).2.1 r x;simp[this]
   .rw[v]
    cases i with
    |zero=>
     simp at hq c;subst hq;subst c;rw[(ih _).1 k o,aF];rw[d]at a;injection a with a;injection a with _ h2 _;rw[h2]
    |succ i=>exact(ih _).2.2 i q qs (by simpa using hq) (by simpa using c) l g m a
end
section
variable {C:Cx} {L:Nat->Loc} {h1 h:Hp} {w:World}
theorem iX{c:AV}(d:RepA w M L h c u)(e:bX c=some (g,first,caps)):
 ∃vs us:List Value,u=.func (.func g) vs.toArray us.toArray/\aA w M L h first vs/\aA w M L h caps us:=by
 unfold bX at e;split at e
 .rename_i f fs cs
  simp only[T6,Ug]at e;obtain⟨rfl,rfl,rfl⟩:=e
  cases d with
  |pv k=>
   rw[aM k];refine⟨fs.toList,cs.toList,by simp,?_,?_⟩
   all_goals
    refine⟨by simp,λq p u hp a=>?_⟩;simp only[TR,No]at hp;obtain⟨y,l,rfl⟩:=hp;rw[l]at a;injection a with a;subst a;exact .pv (.val _)
 .simp only[T6,Ug]at e
  obtain⟨rfl,rfl,rfl⟩:=e
  cases d with
  |pv k=>cases k with
   |fn _ _ _ vs us j i h1 b=>exact⟨vs,us,rfl,aA.map_pv ⟨j,h1⟩,aA.map_pv ⟨i,b⟩⟩
 .simp only[T6,Ug]at e
  obtain⟨rfl,rfl,rfl⟩:=e
  cases d with
  |fn _ _ _ vs us j i h1 b=>exact⟨vs,us,rfl,⟨j,h1⟩,⟨i,b⟩⟩
 .cases e
theorem Cf{w:World}(hp:ld p=true)(h:Rep w M p v):Rep w M' p v:=by
 cases h with
 |val v=>exact .val v
 |agg cs vs b a=>
  refine .agg cs vs b (λi q u hq d=>?_);have:=TP.1 hp q (Is hq);have c:=a i q u hq d
  cases q with
  |val e=>rw[aM c];exact .val _
  |_=>cases this
 |_=>cases hp
theorem sM{w:World}{x:PV}(hp:ld x=true)(a:x.cells[j]?=some p)(h:Rep w M p v):Rep w M' p v:=by
 cases x with
 |val u=>
  simp only[PV.cells,TR,No]at a;obtain⟨y,_,rfl⟩:=a;rw[aM h];exact .val _
 |agg cs=>
  have:=TP.1 hp p (Is a)
  cases p with
  |val b=>rw[aM h];exact .val _
  |_=>cases this
 |_=>cases hp
theorem DW{w:World}{l:Loc}{e sz:Nat}{xs:List PV}(s:xs.all ld=true)(h:dJ w M (λ_=>default) (λ_=>none) l (.row e sz xs 0)):dJ w M' (λ_=>default) (λ_=>none) l (.row e sz xs 0):=by
 obtain⟨c,d,f,g,k⟩:=h;refine⟨c,d,f,g,λhn=>?_⟩;obtain⟨m,n,arr,d3,d4,o⟩:=k hn;refine⟨m,n,arr,d3,d4,λi x j p a b=>?_⟩;obtain⟨v,r,q⟩:=o i x j p a b;exact⟨v,r,sM (TP.1 s x (Is a)) b q⟩
theorem oQ{w:World}(hp:qA p=true)(h:Rep w M p v):Rep w M' p v:=by
 cases h with
 |val v=>exact .val v
 |hd n a c=>exact .hd n a c
 |tup cs vs e d=>
  refine .tup cs vs e (λi q u hq f=>?_);have:=TP.1 hp q (Is hq);have b:=d i q u hq f
  cases q with
  |val g=>rw[aM b];exact .val _
  |hd n=>cases b with
   |hd _ a c=>exact .hd n a c
  |_=>cases this
 |agg cs vs e d=>
  refine .agg cs vs e (λi q u hq f=>?_);have:=TP.1 hp q (Is hq);have b:=d i q u hq f
  cases q with
  |val g=>rw[aM b];exact .val _
  |hd n=>cases b with
   |hd _ a c=>exact .hd n a c
  |_=>cases this
 |_=>cases hp
theorem u7(hm:MemL C L h w)(hs:∀k b,h1 k=some b->h k=some b){d:Option Nat}(f:∀q,d=some q->h1 q=h q/\q<2000000){c:AV}(hc:RepA w (ab C L h) L h c u)(ha:aA w (ab C L h) L h args us)
 {K:cK->Prop}(e:gH C.P c args d h1 K):∃g vs cs,u=.func (.func g) vs cs/\da C.P g=true/\∃U:cK,K U/\
  Calls C.P g (vs.toList++us++cs.toList).toArray w λe H=>∃r L',e=.returned r/\aI C L h w L' (ai h U.2) H/\RepA H (ab C L' (ai h U.2)) L' (ai h U.2) U.1 r:=by
 unfold gH at e;split at e
 .exact e.elim
 .rename_i g first caps b9
  obtain⟨vs,cs,rfl,hf,ca⟩:=iX hc b9;split at e
  .exact e.elim
  .rename_i as ks W0 ch
   split at e
   .exact e.elim
   .rename_i bH
    split at e
    .exact e.elim
    .rename_i hin cd
     obtain⟨hout,res,bs,he⟩:=e;have bc:aA w (ab C L h) L h (first++args++caps) (vs++us++cs):=(hf.append ha).append ca;obtain⟨T,a2,⟨ct,a3⟩,a4,a5,a6,a7⟩:=ny hm (cY.of_sub hs) bc ch;have bb:ks.Nodup:=a4 (by simp);obtain⟨b1,b2⟩:=AT cd
     have m:∀k∈ks,∃(G:List PV)(own:Bool),h1 k=some (.box (G.map .pv) own false)/\ai h W0 k=some (.box (G.map .pv) own false):=by
      intro k B;obtain⟨i,hi⟩:=Vh.1 B
      have cf:i<hin.length:=by rw[b1];exact(th.1 hi).1
      obtain⟨own,Q⟩:=b2 i k hin[i] hi (an cf);refine⟨_,own,Q,?_⟩;rw[lj,hs _ _ Q];intro kb D he;apply bH;rw[VX];exact⟨kb,D,List.contains_iff_mem.2 (he▸B)⟩
     obtain⟨a9,ar,hD⟩:=bs
     have cg:(ks.map λk=>(L k).b).Nodup:=by
      rw[List.nodup_iff_pairwise_ne]at bb|-;rw[List.pairwise_map];refine List.Pairwise.imp_of_mem ?_ bb;intro x y j hy ck;obtain⟨_,_,_,cj⟩:=m x j;obtain⟨_,_,_,cm⟩:=m y hy;exact T.1.sep x y _ _ ck cj cm trivial trivial
     have Y:=hD w (ab C L (ai h W0)) (ks.map λk=>(L k).b) (vs++us++cs) (λb o hM=>T.1.mlt hM) (by simp[b1]) cg
      (λi b G hb ad=>by
        simp only[TR,No]at hb;obtain⟨k,B,rfl⟩:=hb;obtain⟨own,Q⟩:=b2 i k G B ad
        have hw:ai h W0 k=some (.box (G.map .pv) own false):=by
         obtain⟨cn,cp,R,h10⟩:=m k (Is B);rw[Q]at R;injection R with R;injection R with h11 h12;rw[h10,h11,h12]
        refine⟨λo=>.inr ⟨k,_,hw,trivial,rfl,by simp[Blk.frz]⟩,?_⟩;obtain⟨arr,ty,e1,e2⟩:=T.1.bl k _ hw
        exact⟨arr,ty,e1,e2.map_pv_inv⟩) a5 a7
     refine⟨g,vs.toArray,cs.toArray,rfl,a9,?_⟩;have O:=y5 (h1:=h1) (h:=ai h W0) bb (by rw[ar,b1]) (λk B=>by obtain⟨G,own,R,_⟩:=m k B;exact⟨_,own,false,R⟩)
     have X:∀H,Ext (·∈ks.map λk=>(L k).b) w H->(∀(i:Nat) b G,(ks.map λk=>(L k).b)[i]?=some b->hout[i]?=some G->kD H (ab C L (ai h W0)) b G)->
      aI C L h w L (ai h (W0++jS h1 ks hout)) H:=by
      intro H j V;rw[cO];refine T.trans (T.1.callStep j (by rw[ar,b1]) O.1 (λi k G B ad=>?_));obtain⟨cn,own,R,h10⟩:=m k (Is B);exact⟨_,own,h10,O.2.2 i k G B ad _ own false R,V i _ G (by simp[B]) ad⟩
     unfold iW lF at he;split at he
     .rename_i e0 a
      refine⟨e0,he,?_⟩
      have bq:(vs.toArray.toList++us++cs.toArray.toList).toArray=(vs++us++cs).toArray:=by simp
      rw[bq];refine Y.mono ?_;rintro e1 H ⟨v,rfl,j,V,s⟩;have hA:=X H j V
      have N:∀q,h q=none->ai h W0 q=none:=by
       intro q hq;rw[lj,hq];intro kb D he;have:=a6 kb D;rw[he]at this;obtain⟨b,hb⟩:=Uw.1 this;rw[hs _ _ hb]at hq;cases hq
      have a8:∀b o,ab C L (ai h (W0++jS h1 ks hout)) b o->ab C L (ai h W0) b o:=by
       rw[cO];rintro b o (h0|⟨q,blk,hq,hl,b4,hf⟩)
       .exact .inl h0
       .by_cases b5:q∈ks
        .obtain⟨G,own,R,h10⟩:=m q b5
         exact .inr ⟨q,_,h10,trivial,b4,by simp[Blk.frz]⟩
        .rw[O.1 q b5]at hq;exact .inr ⟨q,blk,hq,hl,b4,hf⟩
      split at a
      .rename_i p _
       injection a with a;subst a;unfold Ff;split
       .rename_i W
        simp only[An]at W;have ba:ks=[]:=List.isEmpty_iff.1 W.1;subst ba;have z:Ext (λ_=>False) w H:=⟨j.os,j.tape,j.output,j.size,λS n _=>j.block S n (by simp)⟩;obtain⟨g1,g2⟩:=hm.grow z
        have e0:([]++jS h1 [] hout:List (Nat×Blk))=[]:=by cases hout<;>rfl
        show∃r L',_/\aI C L h w L' (ai h ([]++jS h1 [] hout)) H/\_;rw[e0];exact⟨v,L,rfl,⟨g1,g2,KC.refl _ _⟩,.pv (oQ W.2 s)⟩
       .exact⟨v,L,rfl,hA,.pv (Rep.mono (Pres.sub a8) s)⟩
      .rename_i p _
       split at a
       .rename_i ba
        injection a with a;subst a;subst ba;have z:Ext (λ_=>False) w H:=⟨j.os,j.tape,j.output,j.size,λS n _=>j.block S n (by simp)⟩;obtain⟨g1,g2⟩:=hm.grow z;exact⟨v,L,rfl,⟨g1,g2,KC.refl _ _⟩,.pv (Rep.mono (Pres.sub (λb o R=>hm.mlt R)) s)⟩
       .cases a
      .rename_i G q
       split at a
       .rename_i hq
        obtain⟨hq,rfl⟩:=hq;injection a with a;subst a;obtain⟨b,I,rfl,J⟩:=s;have F:=N q (by rw[<-(f q rfl).1];simpa using hq);simp only;rw[cO,iI];obtain⟨arr,ty,e1,e2⟩:=J;have z:Ext (λ_=>False) w H:=⟨j.os,j.tape,j.output,j.size,λS n _=>j.block S n (by simp)⟩
        have A:=T.1.newKey F (f q rfl).2 (l:=⟨b,0,false⟩) (blk:=.box (G.map .pv) true false) z (λ_=>I) (by intro cq cr e;injection e with _ e2;cases e2)
         ⟨arr,ty,e1,aA.map_pv (e2.mono (Pres.sub (λS o' hh=>hh.elim .inl (λR=>.inr R.2))))⟩
        refine⟨_,ae L q ⟨b,0,false⟩,rfl,T.trans A,?_⟩;have:=RepA.ptr (w:=H) (M:=ab C (ae L q ⟨b,0,false⟩) (ae (ai h W0) q (some (.box (G.map .pv) true false)))) (L:=ae L q ⟨b,0,false⟩) (h:=ae (ai h W0) q (some (.box (G.map .pv) true false))) (k:=q) (off:=0) (aF _ _ _);rw[aF]at this;exact this
       .cases a
      .rename_i e9 sz xs q
       split at a
       .rename_i hq
        obtain⟨hq,rfl⟩:=hq;injection a with a;subst a;obtain⟨l,rfl,I,J⟩:=s;have F:=N q (by rw[<-(f q rfl).1];simpa using hq);simp only;rw[cO,iI];have z:Ext (λ_=>False) w H:=⟨j.os,j.tape,j.output,j.size,λS n _=>j.block S n (by simp)⟩;have A:=kK (e:=e9) (sz:=sz) (xs:=xs) T.1 z F (f q rfl).2 I J;exact⟨_,_,rfl,T.trans A.1,A.2⟩
       .cases a
      .rename_i e9 sz xs q
       split at a
       .rename_i hq
        obtain⟨hq,rfl⟩:=hq;injection a with a;subst a;obtain⟨W,l,rfl,I,J⟩:=s
        have b7:h q=none:=by rw[<-(f q rfl).1];simpa using hq
        have z:Ext (λ_=>False) w H:=⟨j.os,j.tape,j.output,j.size,λS n _=>j.block S n (by simp)⟩;have A:=kK (e:=e9) (sz:=sz) (xs:=xs) hm z b7 (f q rfl).2 I (DW W J);simp only;rw[iI];exact⟨_,_,rfl,A.1,A.2⟩
       .cases a
      .rename_i pre e9 sz xs q
       split at a
       .rename_i hq
        obtain⟨hq,rfl⟩:=hq;injection a with a;subst a;obtain⟨l,cu,rfl,I,E,J⟩:=s;have F:=N q (by rw[<-(f q rfl).1];simpa using hq);simp only;rw[cO,iI];have z:Ext (λ_=>False) w H:=⟨j.os,j.tape,j.output,j.size,λS n _=>j.block S n (by simp)⟩;have A:=kK (e:=e9) (sz:=sz) (xs:=xs) T.1 z F (f q rfl).2 I J;refine⟨_,_,rfl,T.trans A.1,?_⟩
        have b8:∀b o,ab C (ae L q l) (ae (ai h W0) q (some (.row e9 sz xs 0))) b o->ab C L (ai h W0) b o\/(l.isNil=false/\b=l.b):=by
         rintro b o (h0|⟨k,blk,B,Z,D,cb⟩)
         .exact .inl (.inl h0)
         .by_cases b3:k=q
          .subst b3
           rw[aF]at B D Z;injection B with B;subst B;exact .inr ⟨Z,D.symm⟩
          .rw[bB b3]at B D Z
           exact .inl (.inr ⟨k,blk,B,Z,D,cb⟩)
        refine .agg _ _ (by simp[E.1]) ?_;intro i p u hp hu;by_cases hi:i<pre.length
        .rw[T4 (by simpa using hi),TR,an hi]at hp
         rw[T4 (by rw[<-E.1];exact hi)]at hu;simp only[UO,T6]at hp;subst hp;exact .pv ((E.2 i _ u (an hi) hu).mono (Pres.sub b8))
        .rw[T7 (by simpa using hi)]at hp
         rw[T7 (by rw[<-E.1];omega)]at hu;simp only[Ux]at hp
         have b0:i-pre.length=0:=by
          have:=(th.1 hp).1;simp at this;omega
         rw[<-E.1,b0]at hu;rw[b0]at hp;simp only[Vf,T6]at hp hu;subst hp;subst hu;exact A.2
       .cases a
      .cases a
     .exact he.elim
end
theorem DX(e:tB P t name=some f)(n:Nat):(method (n+1) t v name).run P w=.ok (f,v) w:=by
 unfold tB at e;split at e
 .rename_i i hi
  split at e
  .rename_i m c
   split at e
   .rename_i hp
    have g:m.path.toList=[]:=by
     grind
    rw[method];simp only[Sem.run_bind,mU hi,Result.andThen_ok,c,g,follow]
    cases a:m.func with
    |none=>rw[a]at e;simp at e
    |some q=>
     obtain⟨j,b⟩:=q;rw[a]at e
     cases b with
     |true=>simp at e
     |false=>
      cases hd:P.underlying t with
      |none=>rw[hd]at e;simp at e
      |some d=>
       rw[hd]at e;simp only[Sem.run_pure,Result.andThen_ok,Sem.run_bind,receiverAt,dF hd]
       cases d<;>first|(simp at e;done)|(simp at e;subst e;rfl)
   .cases e
  .cases e
 .cases e
theorem Fq(e:tB P t name=some f):(method (P.types.size+Made.depth) t v name).run P w=.ok (f,v) w:=
 DX e (P.types.size+99)
theorem GF{d:Option Nat}(e:gH P (pF P name x) args d h K):∃t p f,x=.pv (.ifc t p)/\tB P t name=some f/\pF P name x=.fn (.func f) [.pv p] []:=by
 unfold pF at e|-;split at e
 .rename_i t p
  split at e
  .grind
  .simp[gH,bX]at e
 .simp[gH,bX]at e
section
variable {C:Cx} {L:Nat->Loc} {h1 h:Hp} {w:World}
theorem Cg(U:MemL C L h w)(Y:∀k b,h1 k=some b->h k=some b)(l:∀d,o.dst=some d->h1 d=h d/\d<2000000)
 (I:∀x∈o.op.operands,RepA w (ab C L h) L h (ρ x) (a.eval x)){hn:List Nat}{K:cK->Prop}(e:sL C.P hn o ρ h1 K){next:Act->World->Prop}{Q:Exit->Act->World->Prop}
 (y:∀j u F E,K j->aI C L h w E (ai h j.2) F->RepA F (ab C E (ai h j.2)) E (ai h j.2) j.1 u->next (a.put o.dst u) F):o.wp C.P a w next Q:=by
 have M:iW (eP C.P hn o ρ h1) K->o.wp C.P a w next Q:=by
  intro e;unfold iW at e;split at e
  .rename_i j H
   obtain⟨v,W⟩:=j;obtain⟨n,u,F,E,D,X,ha,N⟩:=Fp U Y l I H;unfold Oper.wp;rw[D];rcases X with rfl|⟨rfl,rfl⟩
   .exact y (v,W) u F E e ha N
   .exact y (v,W) undef F E e ha N
  .exact e.elim
 unfold sL at e;split at e
 .rename_i c z
  split at e
  .rename_i f m
   obtain⟨callee,args,argTypes⟩:=c;simp only at m e;subst m;have hf:RepA w (ab C L h) L h (ρ f) (a.eval f):=I f (by rw[z];simp[Op.operands,Call.operands]);have q:aA w (ab C L h) L h (args.toList.map ρ) (args.toList.map a.eval):=rG _ (λx G=>I x (by rw[z];simp at G;simp[Op.operands,Call.operands,G]));obtain⟨g,vs,cs,Z,i,j,hK,S⟩:=u7 U Y l hf q e;unfold Oper.wp
   have B:(execOp a.eval o).run C.P w=.ok (.enter g (vs.toList++args.toList.map a.eval++cs.toList).toArray) w:=by
    unfold da at i
    cases s:C.P.funcs[g]? with
    |none=>rw[s]at i;cases i
    |some fn=>
     rw[s]at i;simp only[An,UG,U4,ne_eq]at i
     have O:fn.body.isNone=false:=by cases R:fn.body<;>simp_all
     have A:(vs++args.map a.eval)++cs=(vs.toList++args.toList.map a.eval++cs.toList).toArray:=by
      grind
     unfold execOp;rw[z];simp only[resolve,Z,Deferred.ofValue,pure_bind,Sem.run_bind,Result.andThen_ok,invoke,callFunc,program,Sem.run,s];simp[i.2,O,A]
   rw[B];simp only[Oper.upon];refine S.mono ?_
   grind
  .rename_i r name m
   obtain⟨callee,args,argTypes⟩:=c;simp only at m e;subst m;have D:RepA w (ab C L h) L h (ρ r) (a.eval r):=I r (by rw[z];simp[Op.operands,Call.operands]);have q:aA w (ab C L h) L h (args.toList.map ρ) (args.toList.map a.eval):=rG _ (λx G=>I x (by rw[z];simp at G;simp[Op.operands,Call.operands,G]));obtain⟨t,p,f,G,V,hi⟩:=GF e;rw[G]at D;generalize Z:a.eval r=u at D
   cases D with
   |pv D=>cases D with
    |ifc _ _ v N=>
     have hf:RepA w (ab C L h) L h (pF C.P name (ρ r)) (.func (.func f) #[v] #[]):=by
      rw[hi];exact .fn (.func f) [.pv p] [] [v] [] rfl rfl (aA.cons (.pv N) .nil).2 aA.nil.2
     obtain⟨g,vs,cs,ad,i,j,hK,S⟩:=u7 U Y l hf q e;injection ad with J e2 e3;injection J with J;subst J;subst e2;subst e3;unfold Oper.wp
     have B:(execOp a.eval o).run C.P w=.ok (.enter f (#[v].toList++args.toList.map a.eval++#[].toList).toArray) w:=by
      unfold da at i
      cases s:C.P.funcs[f]? with
      |none=>rw[s]at i;cases i
      |some fn=>
       rw[s]at i;simp only[An,UG,U4,ne_eq]at i
       have O:fn.body.isNone=false:=by cases R:fn.body<;>simp_all
       have A:#[v]++args.map a.eval=(#[v].toList++args.toList.map a.eval++#[].toList).toArray:=by
        apply Array.ext';simp
       have T:(#[Value.iface t v]++args.map a.eval).extract 1 (#[Value.iface t v]++args.map a.eval).size=args.map a.eval:=by
        apply Array.ext';simp;exact Us (by simp)
       have h0:(#[Value.iface t v]++args.map a.eval)[0]?=some (.iface t v):=by rw[UF (by simp)];rfl
       unfold execOp;rw[z];simp only[resolve,Z,pure_bind,Sem.run_bind,Result.andThen_ok,invoke,h0,callMethod,T];rw[show Sem.run C.P program w=.ok C.P w from rfl,Result.andThen_ok,Fq V,Result.andThen_ok];simp only[callFunc,program,Sem.run_bind,Sem.run,s,Result.andThen_ok];rw[A];simp[i.2,O]
     rw[B];simp only[Oper.upon];refine S.mono ?_;rintro J F ⟨r,E,rfl,hA,D⟩;exact y j r F E hK hA D
  grind
 grind
end
def jW(P:Program)(ds:List Deferred):Prop:=∀d∈ds,∃g cap,d.target=.fn (.func g) cap/\ew P g
theorem jW.nil(P:Program):jW P []:=λd h=>by simp at h
def gk(C:Cx)(st:St)(a:Act)(w:World):Prop:=
 ∃L,MemL C L st.h w/\a.tmps.size=C.N/\jW C.P a.defers/\∀n,RepA w (ab C L st.h) L st.h (st.t n) (a.tmps.getD n undef)
theorem db(b:∀n,RepA w (ab C L st.h) L st.h (st.t n) (a.tmps.getD n undef))(x:Operand):RepA w (ab C L st.h) L st.h (st.ev x) (a.eval x):=by
 cases x with
 |tmp n=>exact b n
 |const v=>exact .pv (.val v)
 |global g=>exact .undef _
 |func f=>exact .pv (.val _)
theorem qR(hd:d<a.tmps.size)(n:Nat):(a.put (some d) u).tmps.getD n undef=if n=d then u else a.tmps.getD n undef:=by
 simp only[Act.put,T9]
 grind
theorem gk.put(_:MemL C L st.h w)(hN:a.tmps.size=C.N)(f:jW C.P a.defers)(i:∀n,RepA w (ab C L st.h) L st.h (st.t n) (a.tmps.getD n undef))
 {d:Option Nat}(hd:dm C.N d=true){v:AV}{W:List (Nat×Blk)}{u:Value}{g:World}{L':Nat->Loc}(c:aI C L st.h w L' (ai st.h W) g)(j:RepA g (ab C L' (ai st.h W)) L' (ai st.h W) v u):
 gk C (st.put d v W) (a.put d u) g:=by
 refine⟨L',c.1,?_,?_,λn=>?_⟩
 .cases d<;>simp[Act.put,hN]
 .cases d<;>exact f
 .have b:=(i n).mono c.2.1 c.2.2
  cases d with
  |none=>exact b
  |some d=>
   have e:d<a.tmps.size:=by rw[hN];simp only[dm,An,L4]at hd;exact hd.1
   rw[qR e];simp only[St.put,ae]
   grind
theorem ey{t:Nat->AV}(k:∀n,RepA w (ab C L h) L h (t n) (a.tmps.getD n undef)){g:Bool}(e:fA ops t o.guard=some g):
 Region.wanted o (yielded ops a.tmps)=g:=by
 unfold fA at e;unfold Region.wanted;split at e
 .grind
 .rename_i j want l
  rw[l];simp only;split at e
  .rename_i d hd
   split at e
   .rename_i b f
    injection e with e;subst e;have:=k d;rw[f]at this
    have c:a.tmps.getD d undef=.bool b:=by cases this with|pv hr=>exact aM hr
    have i:a.tmps[d]?=some (.bool b):=by
     rw[T9]at c
     cases hq:a.tmps[d]? with
     |none=>rw[hq]at c;simp[undef]at c
     |some q=>rw[hq]at c;simp at c;rw[c]
    unfold yielded
    grind
   .rename_i q f
    injection e with e;subst e;have:=k d;rw[f]at this
    have c:a.tmps.getD d undef=.tuple q:=by cases this with|pv hr=>exact aM hr
    rw[T9]at c;unfold yielded
    grind
   .cases e
  .cases e
theorem Oper.wp_defer{c:Call}(i:o.op=.defer c){f:Operand}(hf:c.callee=.value f)(e:c.args.size=0){vs:Array Value}(j:a.eval f=.func (.func g) vs cs)
 {next:Act->World->Prop}{Q:Exit->Act->World->Prop}(h:next (({a with defers:={target:=.fn (.func g) cs,args:=vs}::a.defers}:Act).put o.dst undef) w):o.wp P a w next Q:=by
 unfold Oper.wp;have b:c.args=#[]:=Array.size_eq_zero_iff.1 e
 have d:(execOp a.eval o).run P w=.ok (.defer {target:=.fn (.func g) cs,args:=vs}) w:=by
  unfold execOp;rw[i];simp only[resolve,hf,j,Deferred.ofValue,b,pure_bind,Sem.run_bind,Sem.run_pure,Result.andThen_ok];simp
 rw[d];exact h
theorem GG{f:Fn}(a:RepA w M L h (.fn f first caps) u):∃vs cs,u=.func f vs cs:=by
 cases a with
 |fn _ _ _ vs us d c h1 b=>exact⟨_,_,rfl⟩
theorem uF(_:MemL C L h w)(i:RepA w (ab C L h) L h x u)(e:qw h x=true):∃a n c,u=.slice a n c:=by
 unfold qw at e;split at e
 .cases i with
  |pv g=>
   cases g with
   |sl0 a c=>exact⟨_,_,_,rfl⟩
   |sl xs b o c p u f s r g=>exact⟨_,_,_,rfl⟩
 .rename_i k n
  split at e
  .rename_i e0 p xs q j
   simp only[An,L4]at e
   cases i with
   |arr d l m=>
    rw[j]at d;injection d with d;injection d with a1 a2 a3 a4;subst a3;rw[m e.1,Loc.slice];split<;>exact⟨_,_,_,rfl⟩
  .cases e
 .cases e
theorem wo(p:MemL C L st.h w)(hN:a.tmps.size=C.N)(m:jW C.P a.defers)(q:∀n,RepA w (ab C L st.h) L st.h (st.t n) (a.tmps.getD n undef))
 {o:Oper}(hd:dm C.N o.dst=true){hn:List Nat}{K:cK->Prop}(e:uW C.P hn o st.ev st.h K){next:Act->World->Prop}{Q:Exit->Act->World->Prop}
 (i:∀j E D,K j->gk C (st.put o.dst j.1 j.2) E D->next E D):o.wp C.P a w next Q:=by
 have v:sL C.P hn o st.ev st.h K->o.wp C.P a w next Q:=λe=>
  Cg p (λ_ _ h=>h) (λd z=>⟨rfl,by rw[z]at hd;simp only[dm,An,L4]at hd;exact hd.2⟩) (λx _=>db q x) e (λj u D L' V S B=>i j _ _ V (gk.put p hN m q hd S B))
 unfold uW at e;split at e
 .rename_i c k
  split at e
  .rename_i f r
   split at e
   .rename_i R
    unfold Eh at e;split at e
    .rename_i g first caps A
     obtain⟨vs,cs,B⟩:=GG (by have:=db q f;rw[A]at this;exact this);refine Oper.wp_defer k r R B (i _ _ _ e.2 ?_)
     have hq:jW C.P ({target:=.fn (.func g) cs,args:=vs}::a.defers):=by
      intro d l;rcases Ut.1 l with rfl|l
      .grind
      .exact m d l
     exact gk.put (a:={a with defers:={target:=.fn (.func g) cs,args:=vs}::a.defers}) p hN hq q hd (W:=[]) (aI.refl p) (.undef _)
    .exact e.elim
   .exact e.elim
  .exact e.elim
 .rename_i op t x y t' k
  split at e
  .rename_i G
   simp only[An,UT,US]at G;obtain⟨⟨⟨I,J⟩,M⟩,c4⟩:=G;have Y:=xU I (db q y);obtain⟨F,n,c,X⟩:=uF p (db q x) M
   obtain⟨b,U⟩:∃b:Bool,(op=.eql/\b=F.isNone)\/(op=.neq/\b=!F.isNone):=by
    grind
   have s:(execOp a.eval o).run C.P w=.ok (.value (.bool b)) w:=by
    obtain⟨O,Z,ty,pos,H,g⟩:=o;simp only at k;subst k;exact mg (Ac (qO J) X Y U) w
   have T:K (.pv (.val (.bool b)),[]):=by cases b with
    |true=>exact e.1
    |false=>exact e.2
   unfold Oper.wp;rw[s];exact i _ _ _ T (gk.put p hN m q hd (W:=[]) (aI.refl p) (.pv (.val _)))
  grind
 grind
theorem iU{C:Cx}{hn:List Nat}{ops:Array Oper}{Q:St->Prop}{Q':Exit->Act->World->Prop}(j:∀st a w,gk C st a w->Q st->Q' .normal a w):
 ∀{l:List Oper}{st:St}{a:Act}{w:World},gk C st a w->dK C.P hn C.N ops Q l st->wpList C.P ops Q' l a w
 |[],st,a,w,r,e=>j st a w r e
 |o::l,st,a,w,r,e=>by
  obtain⟨L,k,hN,f,i⟩:=r;simp only[dK]at e;obtain⟨hd,e⟩:=e;refine wpList_step (λK n=>?_);split at e
  .rename_i p
   rw[ey i (oO p),T8 rfl];exact wo k hN f i hd e (λm s u q c=>n _ _ (iU j c q))
  .rename_i d b want p
   rw[ey i (mf p)];unfold wW at e;simp only at e;split at e
   .rename_i g
    subst g;rw[T8 (by simp)];exact wo k hN f i hd e (λm s u q c=>n _ _ (iU j c q))
   .rename_i g
    rw[TQ (by simpa using g)];exact n _ _ (iU j (gk.put k hN f i hd (W:=[]) (aI.refl k) (.pv (.val _))) e)
  .exact e.elim
def WP(C:Cx)(c:Code)(Q:Exit->St->Prop)(st:St):Prop:=∀a w,gk C st a w->c.wp C.P (λe d f=>∃b,gk C b d f/\Q e b) a w
section
variable {C:Cx} {Q:Exit->St->Prop} {st:St}
theorem WP.region(h:dK C.P hn C.N ops (Q .normal) ops.toList st):WP C (.region id ops false) Q st:=
 λ_ _ c=>wp_region_list (iU (λb _ _ a hq=>⟨b,a,hq⟩) c h)
def Ch(C:Cx)(y:Code)(Q:Exit->St->Prop):Exit->St->Prop
 |.normal,st=>WP C y Q st
 |e,st=>Q e st
theorem WP.seq{x:Code}(h:WP C x (Ch C y Q) st):WP C (.seq x y) Q st:=by
 intro a w f;refine wp_seq (wp_mono (h a w f) ?_);rintro e d g ⟨c,b,hq⟩
 cases e with
 |normal=>exact hq d g b
 |_=>exact⟨c,b,hq⟩
theorem WP.mono{Q':Exit->St->Prop}(h:WP C c Q st)(hq:∀e st,Q e st->Q' e st):WP C c Q' st:=
 λa w g=>wp_mono (h a w g) (λe _ _ ⟨b,f,d⟩=>⟨b,f,hq e b d⟩)
theorem WP.skip(h:Q .normal st):WP C .skip Q st:=λ_ _ a=>wp_skip ⟨st,a,h⟩
theorem WP.ret(h:Q .ret st):WP C .ret Q st:=λ_ _ a=>wp_ret ⟨st,a,h⟩
theorem WP.exit(h:Q (.exit id) st):WP C (.exit id) Q st:=λ_ _ a=>wp_exit ⟨st,a,h⟩
theorem WP.cond{c:Operand}{x:Code}(i:st.ev c=.pv (.val (.bool b)))(l:b=true->WP C x Q st)(hf:b=false->WP C y Q st):WP C (.cond c x y) Q st:=by
 intro a w f
 have d:a.eval c=.bool b:=by
  obtain⟨L,m,hN,j,g⟩:=f;have:=db g c;rw[i]at this
  cases this with
  |pv k=>exact aM k
 exact wp_cond_split d (λe=>l e a w f) (λe=>hf e a w f)
def rH(a:Nat)(Q:Exit->St->Prop):Exit->St->Prop
 |.exit i,st=>if i=a then Q .normal st else Q (.exit i) st
 |e,st=>Q e st
theorem WP.block(h:WP C c (rH id Q) st):WP C (.block id c) Q st:=by
 intro a w f;refine wp_block (wp_mono (h a w f) ?_);rintro e g j ⟨d,b,hq⟩
 cases e with
 |exit i=>
  simp only[rH,Exit.inBlock]at hq|-
  grind
 |_=>exact⟨d,b,hq⟩
def aH(ks:List Nat):AV->Bool
 |.pv _=>false
 |.ptr k _|.arr k _|.eptr k _ _ _=>ks.contains k
 |.ext x=>ks.contains x.key
 |_=>true
def bn(ks:List Nat):AV->Bool
 |.agg cs=>cs.any (aH ks)
 |.fn _ first caps=>first.any (aH ks)||caps.any (aH ks)
 |.tup _=>true
 |x=>aH ks x
def au(ks:List Nat)(x:AV):AV:=if bn ks x=true then .undef else x
def bw(ks:List Nat):Blk->Blk
 |.box cs own a=>.box (cs.map (au ks)) own a
 |b=>b
def St.kill(ks:List Nat)(st:St):St:=⟨λn=>au ks (st.t n),λk=>if ks.contains k=true then none else(st.h k).map (bw ks)⟩
def y6(ks:List Nat)(h:Hp):Hp:=λk=>if ks.contains k=true then none else h k
theorem qB{blk:Blk}(a:ks.contains k=false)(b:h k=some blk):y6 ks h k=some blk:=by
 unfold y6;rw[TQ (by rw[a];decide),b]
theorem kf(hd:aH ks x=false)(i:RepA w M L h x u):RepA w M L (y6 ks h) x u:=by
 cases i with
 |pv f=>exact .pv f
 |ptr a=>exact .ptr (qB (by simpa only[aH]using hd) a)
 |arr a hn b=>exact .arr (qB (by simpa only[aH]using hd) a) hn b
 |eptr a hn b=>exact .eptr (qB (by simpa only[aH]using hd) a) hn b
 |ext d=>
  cases d with
  |barr e a=>exact .ext (.barr e (qB (by simpa only[aH,XV.key]using hd) a))
  |mp a=>exact .ext (.mp (qB (by simpa only[aH,XV.key]using hd) a))
  |suf c a hn g b=>exact .ext (.suf c (qB (by simpa only[aH,XV.key]using hd) a) hn g b)
 |agg=>cases hd
 |fn=>cases hd
 |tup=>cases hd
 |undef=>cases hd
theorem AU(m:RepA w M L h x u):RepA w M L (y6 ks h) (au ks x) u:=by
 unfold au;split
 .exact .undef _
 .rename_i hd
  have hd:bn ks x=false:=by simpa using hd
  have d:∀{cs:List AV}{i:Nat}{p:AV},cs.any (aH ks)=false->cs[i]?=some p->aH ks p=false:=by
   grind
  cases m with
  |agg cs vs e k=>exact .agg cs vs e (λi p u a b=>kf (d hd a) (k i p u a b))
  |fn f first caps vs us e c h1 j=>
   have hd:(first.any (aH ks)||caps.any (aH ks))=false:=hd;rw[Vg]at hd
   exact .fn f first caps vs us e c (λi p u a b=>kf (d hd.1 a) (h1 i p u a b)) (λi p u a b=>kf (d hd.2 a) (j i p u a b))
  |tup=>cases hd
  |undef=>exact .undef _
  |pv l=>exact kf hd (.pv l)
  |ptr c=>exact kf hd (.ptr c)
  |arr c hn b=>exact kf hd (.arr c hn b)
  |eptr c hn b=>exact kf hd (.eptr c hn b)
  |ext g=>exact kf hd (.ext g)
theorem u9(ks:List Nat)(b:Blk)(l:Loc):dZ b l (bw ks b) l:=by cases b<;>simp[dZ,bw]
theorem Ek:KC L (y6 ks h) L (λk=>if ks.contains k=true then none else(h k).map (bw ks)):=by
 intro k a b;unfold y6 at b;split at b
 .cases b
 .rename_i c
  exact⟨bw ks a,by simp only[TQ c,b];rfl,u9 ks a _⟩
theorem va(hp:Pres w M w M')(a:RepA w M L h x u):
 RepA w M' L (λk=>if ks.contains k=true then none else(h k).map (bw ks)) (au ks x) u:=(AU a).mono hp Ek
theorem gk.kill(ks:List Nat)(hs:gk C st a w):gk C (st.kill ks) a w:=by
 obtain⟨L,l,hN,A,ht⟩:=hs
 have f:∀k c,(st.kill ks).h k=some c->∃d,st.h k=some d/\bw ks d=c/\c.live (L k)=d.live (L k)/\∀o,c.frz o=d.frz o:=by
  intro k c g;simp only[St.kill]at g;split at g
  .cases g
  .simp only[No]at g
   obtain⟨d,h1,rfl⟩:=g;exact⟨d,h1,rfl,by cases d<;>rfl,λo=>by cases d<;>rfl⟩
 have W:∀b o,ab C L (st.kill ks).h b o->ab C L st.h b o:=by
  rintro b o (T|⟨k,c,g,D,X,hf⟩)
  .exact .inl T
  .obtain⟨d,h1,_,U,V⟩:=f k c g
   exact .inr ⟨k,d,h1,U▸D,X,V o▸hf⟩
 have hp:Pres w (ab C L st.h) w (ab C L (st.kill ks).h):=Pres.sub W;refine⟨L,⟨l.ext,l.m0,?_,?_,?_⟩,hN,A,λn=>va hp (ht n)⟩
 .intro k c g
  obtain⟨d,h1,rfl,_,_⟩:=f k c g;have:=l.bl k d h1
  cases d with
  |box cs own z=>
   obtain⟨arr,ty,y,r⟩:=this;refine⟨arr,ty,y,by simpa using r.1,λi p u m G=>?_⟩;simp only[TR,No]at m;obtain⟨q,hq,rfl⟩:=m;exact va hp (r.2 i q u hq G)
  |row e sz xs z=>
   obtain⟨I,J,a3,a4,K⟩:=this;refine⟨I,J,a3,a4,λhn=>?_⟩;obtain⟨s,v,arr,M,N,O⟩:=K hn;exact⟨s,v,arr,M,N,λi x j p hx Y=>by obtain⟨u,G,Z⟩:=O i x j p hx Y;exact⟨u,G,Z.mono hp⟩⟩
  |mp kd n es z=>exact this
 .intro k H s v F g B D E
  obtain⟨P,R,_,y,_⟩:=f k s g;obtain⟨Q,S,_,r,_⟩:=f H v B;exact l.sep k H P Q F R S (y▸D) (r▸E)
 .intro k c g
  obtain⟨d,h1,rfl,_,_⟩:=f k c g;have:=l.own k d h1
  cases d with
  |box cs own z=>cases own<;>exact this
  |row=>exact this
  |mp=>exact this
theorem WP.loop(ks:List Nat)(I:St->Prop)(μ:St->Nat)(A:I (st.kill ks))
 (round:∀st,I st->WP C c (λe d=>match e with|.normal=>I (d.kill ks)/\μ (d.kill ks)<μ st|e=>Q e d) st):WP C (.loop c) Q st:=by
 intro a w u
 have key:∀n st a w,μ st=n->I st->gk C st a w->∀b k cs,∃e o p,(∃d,gk C d o p/\Q e d)/\Arrives C.P (lone (b.at a (.code c::.inLoop c::k)) cs w) b k cs e o p:=by
  intro n
  induction n using Nat.strongRecOn with
  |_ n ih=>
   intro st a w hn z u b k cs;obtain⟨e,j,m,⟨d,g,hq⟩,f⟩:=round st z a w u b (.inLoop c::k) cs
   cases e with
   |normal=>
    obtain⟨q,r⟩:=hq;obtain⟨y,v,B,s,i⟩:=ih (μ (d.kill ks)) (hn▸r) _ j m rfl q (g.kill ks) b k cs;exact⟨y,v,B,s,.of_steps (Steps.trans f (.one step_inLoop)) i⟩
   |exit id=>exact⟨_,j,m,⟨d,g,hq⟩,.pass (x:=.inLoop c) rfl (λ_ _=>.inl (by simp)) f⟩
   |goto l=>exact⟨_,j,m,⟨d,g,hq⟩,.pass (x:=.inLoop c) rfl (λ_ _=>.inl (by simp)) f⟩
   |ret=>exact⟨_,j,m,⟨d,g,hq⟩,.pass (x:=.inLoop c) rfl (λ_ _=>.inl (by simp)) f⟩
   |panic D=>exact⟨_,j,m,⟨d,g,hq⟩,.pass (x:=.inLoop c) rfl (λ_ _=>.inl (by simp)) f⟩
   |outgrown=>exact⟨_,j,m,⟨d,g,hq⟩,.pass (x:=.inLoop c) rfl (λ_ _=>.inl (by simp)) f⟩
 intro b k cs;obtain⟨e,o,p,hq,f⟩:=key _ (st.kill ks) a w rfl A (u.kill ks) b k cs;exact⟨e,o,p,hq,.of_steps (.one step_loop) f⟩
end
def pk(i:Nat):Nat:=1000000+i
def Ci(args:List Arg):Nat->AV:=λn=>match args[n]? with
 |some (.pv p)=>.pv p
 |some (.bx i)=>.ptr (pk i) 0
 |none=>.undef
def tG(hin:List (List PV)):Hp:=λk=>if k<1000000 then none else match hin[k-1000000]? with
 |some a=>some (.box (a.map .pv) false false)
 |none=>none
def qS(args:List Arg)(hin:List (List PV)):St:=⟨Ci args,tG hin⟩
def kL(P:Program)(st:St):List ResultVar->Option (List AV)
 |[]=>some []
 |.tmp t::r=>(kL P st r).map (st.t t::·)
 |.cell a b::r=>match af P b with
  |some ti=>match uT ti (st.t a) st.h,kL P st r with
   |some v,some vs=>some (v::vs)
   |_,_=>none
  |none=>none
def mh(P:Program)(st:St)(rs:List ResultVar):Option AV:=match kL P st rs with
 |some [v]=>some v
 |some vs=>some (.tup vs)
 |none=>none
def jf(P:Program)(rs:List ResultVar)(hout:List (List PV))(res:RV)(st:St):Prop:=
 ∃r,mh P st rs=some r/\(∀(i:Nat) b,hout[i]?=some b->st.h (pk i)=some (.box (b.map .pv) false false))/\
  (match res with
  |.pv p=>∃W,frz st.h r=some (p,W)
  |.new p=>JQ st.h r=some p
  |.box b=>∃k,r=.ptr k 0/\st.h k=some (.box (b.map .pv) true false)
  |.row e a xs=>∃k,r=.arr k xs.length/\st.h k=some (.row e a xs 0)
  |.nrow e a xs=>xs.all ld=true/\∃k,r=.arr k xs.length/\st.h k=some (.row e a xs 0)
  |.srow pre e a xs=>∃k,r=.agg (pre.map .pv++[.arr k xs.length])/\st.h k=some (.row e a xs 0))
def GH(P:Program)(rs:List ResultVar)(hout:List (List PV))(res:RV):Exit->St->Prop
 |.normal,st=>jf P rs hout res st
 |.ret,st=>jf P rs hout res st
 |_,_=>False
theorem rI(c:da P g=true)(cap a:Array Value)(w:World):(invoke (.fn (.func g) cap) a).run P w=.ok (.enter g (a++cap)) w:=by
 unfold da at c
 cases b:P.funcs[g]? with
 |none=>rw[b]at c;cases c
 |some fn=>
  rw[b]at c;simp only[An,UG,U4,ne_eq]at c
  have d:fn.body.isNone=false:=by cases e:fn.body<;>simp_all
  simp only[invoke,callFunc,program,Sem.run_bind,Sem.run,Result.andThen_ok,b];simp[c.2,d]
theorem ja{P:Program}{fn:Func}{tmps:Array Value}{R:Ending->World->Prop}{w:World}{v:Value}:∀{ds:List Deferred},jW P ds->(results fn tmps).run P w=.ok v w->R (.returned v) w->Leaves P fn tmps R ds .returning w
 |[],_,b,a=>⟨v,b,a⟩
 |d::ds,hq,b,a=>by
  obtain⟨g,cap,f,c⟩:=hq d (by simp);refine⟨by simp,.func g,cap,g,d.args++cap,f,by rw[f];exact rI c.1 _ _ _,(c.2 _ w).mono ?_⟩;rintro e i k ⟨rfl,⟨j,rfl⟩,rfl⟩;exact ja (λd hd=>hq d (by simp[hd])) b a
def Ae(tmps:Array Value):ResultVar->Sem Value
 |.tmp t=>pure (tmps.getD t undef)
 |.cell b t=>do loadVar t (<-asAddr (tmps.getD b undef))
section
variable {C:Cx} {L:Nat->Loc} {st:St} {a:Act} {w:World}
theorem oR(o:MemL C L st.h w)(k:∀n,RepA w (ab C L st.h) L st.h (st.t n) (a.tmps.getD n undef)):∀{rs:List ResultVar}{vs:List AV},kL C.P st rs=some vs->
 ∃us:List Value,(rs.mapM (Ae a.tmps)).run C.P w=.ok us w/\aA w (ab C L st.h) L st.h vs us
 |[],vs,e=>by
  simp only[kL,T6]at e;subst e;exact⟨[],by simp,aA.nil⟩
 |.tmp t::r,vs,e=>by
  simp only[kL,No]at e;obtain⟨x,l,rfl⟩:=e;obtain⟨us,h1,m⟩:=oR o k l;refine⟨a.tmps.getD t undef::us,?_,.cons (k t) m⟩;simp only[List.mapM_cons,Ae,Sem.run_bind,Sem.run_pure,Result.andThen_ok,h1]
 |.cell b z::r,vs,e=>by
  simp only[kL]at e;split at e
  .rename_i ti s
   split at e
   .rename_i v x e0 l
    injection e with e;subst e;obtain⟨us,h1,m⟩:=oR o k l;obtain⟨u,c,q⟩:=uY o (λ_ _ h=>h) s (k b) e0;refine⟨u::us,?_,.cons q m⟩
    have d:∃f,a.tmps.getD b undef=.pointer (some f):=by
     unfold Instr.loadAt at c
     cases y:a.tmps.getD b undef with
     |pointer p=>cases p with
      |none=>rw[y]at c;simp[Instr.sureAddr,stuck]at c
      |some f=>exact⟨f,rfl⟩
     |_=>rw[y]at c;simp[Instr.sureAddr,stuck]at c
    obtain⟨f,g⟩:=d;rw[g]at c;have j:(loadVar z f).run C.P w=.ok u w:=c
    have i:(Ae a.tmps (.cell b z)).run C.P w=.ok u w:=by simp only[Ae,g,asAddr,pure_bind,j]
    simp only[List.mapM_cons,Sem.run_bind,i,Sem.run_pure,Result.andThen_ok,h1]
   .cases e
  .cases e
theorem nA(g:MemL C L st.h w)(i:∀n,RepA w (ab C L st.h) L st.h (st.t n) (a.tmps.getD n undef)){r:AV}(e:mh C.P st fn.results.toList=some r):
 ∃u,(results fn a.tmps).run C.P w=.ok u w/\RepA w (ab C L st.h) L st.h r u:=by
 unfold mh at e
 have key:∀vs us,(fn.results.toList.mapM (Ae a.tmps)).run C.P w=.ok us w->aA w (ab C L st.h) L st.h vs us->
  (results fn a.tmps).run C.P w=.ok (if h:us.toArray.size=1 then us.toArray[0]else .tuple us.toArray) w:=by
  intro vs us h1 _;have:results fn a.tmps=(do let vs <-fn.results.mapM (Ae a.tmps);pure (if h:vs.size=1 then vs[0]else .tuple vs)):=rfl;rw[this,Array.mapM_eq_mapM_toList];simp only[Sem.run_bind,Sem.run_map,h1,Result.andThen_ok];rfl
 split at e
 .rename_i v d
  injection e with e;subst e;obtain⟨us,h1,b⟩:=oR g i d;obtain⟨u,j,rfl,k,hn⟩:=b.cons_inv;have:=hn.nil_inv;subst this
  grind
 .rename_i vs c d
  injection e with e;subst e;obtain⟨us,h1,b⟩:=oR g i d;refine⟨.tuple us.toArray,?_,.tup vs us b.1 b.2⟩;rw[key _ _ h1 b]
  have:¬us.length=1:=by
   intro f
   cases vs with
   |nil=>have:=b.1;simp at this;rw[<-this]at f;simp at f
   |cons v r=>cases r with
    |nil=>exact c v rfl
    |cons=>have:=b.1;simp at this;omega
  simp[this]
 .cases e
end
section
variable {C:Cx} {L:Nat->Loc} {h:Hp} {w:World}
abbrev vb(C:Cx):Nat->Nat->Prop:=λb _=>b<C.w0.heap.size
theorem y7(f:MemL C L h w)(l:∀{b:Nat},(C.w0.heap.size<=b\/(C.S b/\∀o,¬C.M0 b o))->C.w0.heap.size<=b)(d:RepA w (ab C L h) L h x u)(e:xM h x=some p):Rep w (vb C) p u:=by
 cases x with
 |pv q=>
  simp only[xM]at e;split at e
  .rename_i hq
   injection e with e;subst e
   cases d with
   |pv G=>exact Cf hq G
  .cases e
 |arr k n=>
  simp only[xM]at e;split at e
  .rename_i J z xs E c
   split at e
   .rename_i s
    injection e with e;subst e
    cases d with
    |arr a F H=>
     rw[c]at a;injection a with a;injection a with g r a3 a4;subst g;subst r;subst a3;subst a4;rw[H s.1];obtain⟨_,_,g3,g4,g5⟩:=f.bl k _ c;unfold Loc.slice
     cases hn:(L k).isNil with
     |true=>rw[g4 hn];exact .sl0 none 0
     |false=>
      obtain⟨g,r,arr,a3,a4,I⟩:=g5 hn;have v:=l ((f.own k _ c).row hn);simp only[T5,Uf];rw[<-s.1];refine .sl xs (L k).b 0 (L k).cap z (λi j=>(arr[i*z+j]?).getD undef) g (λi x d=>g3 x (Is d)) ?_ ?_
      all_goals grind [eH,sM,List.all_eq_true,List.mem_of_getElem?]
   .cases e
  .cases e
 |ext y=>
  cases y with
  |barr=>cases e
  |suf=>cases e
  |mp k=>
   simp only[xM]at e;split at e
   .rename_i kd n D E c
    injection e with e;subst e;obtain⟨arr,clock,A,B⟩:=f.bl k _ c
    cases d with
    |ext m=>cases m with
     |mp _=>
      have K:C.w0.heap.size<=(L k).b:=f.own k _ c;exact .mp kd n D _ arr clock A (λh10=>by have h10:(L k).b<C.w0.heap.size:=h10;omega) B
   .cases e
 |_=>cases e
theorem xe(d:MemL C L h w)(a:∀{b:Nat},(C.w0.heap.size<=b\/(C.S b/\∀o,¬C.M0 b o))->C.w0.heap.size<=b):∀{xs:List AV}{us:List Value}{ps:List PV},aA w (ab C L h) L h xs us->wc h xs=some ps->bS w (vb C) ps us
 |[],us,ps,c,e=>by
  simp only[wc,T6]at e;subst e;rw[c.nil_inv];exact .nil
 |x::r,us,ps,c,e=>by
  simp only[wc]at e;split at e
  .rename_i p k f g
   injection e with e;subst e;obtain⟨u,l,rfl,j,i⟩:=c.cons_inv;exact .cons (y7 d a j f) (xe d a i g)
  .cases e
theorem tH(s:MemL C L h w)(g:∀{b:Nat},(C.w0.heap.size<=b\/(C.S b/\∀o,¬C.M0 b o))->C.w0.heap.size<=b)(a:RepA w (ab C L h) L h x u)(e:zU h x=some p):Rep w (vb C) p u:=by
 unfold zU at e;split at e
 .rename_i k n B
  split at e
  .rename_i cs J E
   split at e
   .rename_i hn
    split at e
    .rename_i d G
     split at e
     .rename_i I
      injection e with e;subst e;obtain⟨arr,K,m,f⟩:=s.bl k _ E;have y:=xe s g f G;have F:C.w0.heap.size<=(L k).b:=g (s.own k _ E)
      have l:d.length=n:=by rw[y.1,<-f.1];exact hn
      have one:∀(i:Nat) x(j:Nat) p,d[i]?=some x->x.cells[j]?=some p->j=0/\p=x:=by
       grind [i9,List.all_eq_true,List.mem_of_getElem?]
      have get:∀(i:Nat) p,d[i]?=some p->∃v,arr[i]?=some v/\Rep w (vb C) p v:=by
       intro i p hp
       have r:i<arr.toList.length:=by rw[<-y.1];exact(th.1 hp).1
       have c:arr.toList[i]?=some (arr.toList[i]):=an r;exact⟨_,by rw[<-UQ];exact c,y.2 i p _ hp c⟩
      cases a with
      |ext A=>cases A with
       |barr H _=>
        have key:Rep w (vb C) (.sl d) (.slice (some ⟨(L k).b,0,none⟩) d.length B):=by
         refine .sl d (L k).b 0 B 1 (λi _=>(arr[i]?).getD undef) (by omega) (λi x a=>by rw[i9 (TP.1 I x (Is a))];rfl) ?_ ?_
         .intro i x j p a q
          obtain⟨rfl,rfl⟩:=one i x j p a q;obtain⟨v,c,_⟩:=get i p a;refine⟨by rw[eH m];simp[c],λD=>?_⟩;have D:(L k).b<C.w0.heap.size:=D;omega
         .intro i x j p a q
          obtain⟨rfl,rfl⟩:=one i x j p a q;obtain⟨v,c,z⟩:=get i p a;simp only[c,Uj];exact z
        rw[l]at key;exact key
     .cases e
    .cases e
   .cases e
  .cases e
 grind [y7]
theorem pY(d:MemL C L h w)(a:∀{b:Nat},(C.w0.heap.size<=b\/(C.S b/\∀o,¬C.M0 b o))->C.w0.heap.size<=b):∀{xs:List AV}{us:List Value}{ps:List PV},aA w (ab C L h) L h xs us->uU h xs=some ps->bS w (vb C) ps us
 |[],us,ps,c,e=>by
  simp only[uU,T6]at e;subst e;rw[c.nil_inv];exact .nil
 |x::r,us,ps,c,e=>by
  simp only[uU]at e;split at e
  .rename_i p k f g
   injection e with e;subst e;obtain⟨u,l,rfl,j,i⟩:=c.cons_inv;exact .cons (tH d a j f) (pY d a i g)
  .cases e
theorem Cj(f:MemL C L h w)(a:∀{b:Nat},(C.w0.heap.size<=b\/(C.S b/\∀o,¬C.M0 b o))->C.w0.heap.size<=b)(D:RepA w (ab C L h) L h x u)(e:yP h x=some p):Rep w (vb C) p u:=by
 unfold yP at e;split at e
 .rename_i k
  split at e
  .rename_i cs F g
   split at e
   .rename_i s z
    obtain⟨arr,G,A,c⟩:=f.bl k _ g;have m:=pY f a c z;have l:C.w0.heap.size<=(L k).b:=a (f.own k _ g)
    have key:∀y:PV,y.cells=s->Rep w (vb C) (.rptr y 0) u:=by
     intro y E
     have get:∀(i:Nat) p,y.cells[i]?=some p->∃v,arr[i]?=some v/\Rep w (vb C) p v:=by
      intro i p hp;rw[E]at hp
      have d:i<arr.toList.length:=by rw[<-m.1];exact(th.1 hp).1
      have n:arr.toList[i]?=some (arr.toList[i]):=an d;exact⟨_,by rw[<-UQ];exact n,m.2 i p _ hp n⟩
     cases D with
     |ptr _=>
      refine .rptr y (L k).b 0 0 (λj=>(arr[j]?).getD undef) (λj p B=>?_) (λj p B=>?_)
      all_goals grind [get,eH]
    split at e
    .rename_i hq
     injection e with e;subst e
     exact key _ (by cases s with
      |nil=>simp[jx]at hq
      |cons q r=>cases r with
       |nil=>simp only[jx]at hq;exact i9 hq
       |cons _ _=>simp[jx]at hq)
    grind [kJ]
   .cases e
  .cases e
 grind [tH]
theorem uG(d:MemL C L h w)(a:∀{b:Nat},(C.w0.heap.size<=b\/(C.S b/\∀o,¬C.M0 b o))->C.w0.heap.size<=b):∀{xs:List AV}{us:List Value}{ps:List PV},aA w (ab C L h) L h xs us->qq h xs=some ps->bS w (vb C) ps us
 |[],us,ps,c,e=>by
  simp only[qq,T6]at e;subst e;rw[c.nil_inv];exact .nil
 |x::r,us,ps,c,e=>by
  simp only[qq]at e;split at e
  .rename_i p k f g
   injection e with e;subst e;obtain⟨u,l,rfl,j,i⟩:=c.cons_inv;exact .cons (Cj d a j f) (uG d a i g)
  .cases e
theorem GI(i:MemL C L h w)(c:∀{b:Nat},(C.w0.heap.size<=b\/(C.S b/\∀o,¬C.M0 b o))->C.w0.heap.size<=b)(k:RepA w (ab C L h) L h x u)(e:JQ h x=some p):Rep w (vb C) p u:=by
 unfold JQ at e;split at e
 .rename_i f first caps
  split at e
  .rename_i j qs d l
   injection e with e;subst e
   cases k with
   |fn _ _ _ vs us g n h1 m=>
    have a:=pY i c ⟨g,h1⟩ d;have b:=uG i c ⟨n,m⟩ l;exact .fn f j qs vs us a.1 b.1 a.2 b.2
  .cases e
 .rename_i vs
  split at e
  .rename_i j d
   injection e with e;subst e
   cases k with
   |tup _ us g h1=>
    have a:=pY i c ⟨g,h1⟩ d;exact .tup j us a.1 a.2
  .cases e
 grind [tH]
end
theorem mV(hf:P.funcs[f]?=some fn)(l:fn.body=some c)(ad:da P f=true){args:List Arg}(a8:args.length<=fn.ntmps)
 (b3:hout.length=hin.length)(bH:∀(i j:Nat),args[i]?=some (.bx j)->j<hin.length)
 (h:∀C:Cx,C.P=P->C.N=fn.ntmps->WP C c (GH P fn.results.toList hout res) (qS args hin)):aP P f args hin hout res:=by
 refine⟨ad,b3,λw M F vs hM a7 b9 I a6 U=>?_⟩
 let C:Cx:={P:=P,N:=fn.ntmps,M0:=M,S:=λb=>b∈F,pb:=λk=>if k<1000000 then none else F[k-1000000]?,w0:=w}
 let L:Nat->Loc:=λk=>⟨(F[k-1000000]?).getD 0,0,false⟩
 have X:∀k s,(qS args hin).h k=some s->∃i E b,k=pk i/\hin[i]?=some E/\F[i]?=some b/\s=.box (E.map .pv) false false:=by
  intro k s a;simp only[qS,tG]at a;split at a
  .cases a
  .rename_i b8
   split at a
   .rename_i E y
    injection a with a
    have g:k-1000000<F.length:=by rw[a7];exact(th.1 y).1
    exact⟨k-1000000,E,F[k-1000000],by unfold pk;omega,y,an g,a.symm⟩
   .cases a
 have R:∀i b,F[i]?=some b->(L (pk i)).b=b:=by
  intro i b l;show(F[pk i-1000000]?).getD 0=b;rw[show pk i-1000000=i from by unfold pk;omega,l];rfl
 have a5:∀b o,ab C L (qS args hin).h b o↔M b o:=by
  intro b o;constructor
  .rintro(h0|⟨k,s,a,hl,l,hf⟩)
   all_goals grind
  .exact .inl
 have ar:ab C L (qS args hin).h=M:=by funext b o;exact propext (a5 b o)
 have bc:gk C (qS args hin) {tmps:=vs.toArray++Array.replicate (fn.ntmps-vs.toArray.size) undef,defers:=[]} w:=by
  refine⟨L,⟨Ext.refl _ _,hM,?_,?_,?_⟩,by show(vs.toArray++Array.replicate (fn.ntmps-vs.toArray.size) undef).size=fn.ntmps;simp;omega,jW.nil _,λn=>?_⟩
  .intro k s a
   obtain⟨i,E,b,rfl,y,l,rfl⟩:=X k s a;obtain⟨arr,ty,e1,e2⟩:=(I i b E l y).2;refine⟨arr,ty,by rw[R i b l];exact e1,?_⟩
   grind [aA.map_pv]
  .grind [List.getElem?_eq_some_iff,List.getElem_inj]
  .intro k s a
   obtain⟨i,E,b,rfl,y,l,rfl⟩:=X k s a;refine⟨rfl,?_,?_,?_,?_⟩
   .rw[R i b l]
    show(if pk i<1000000 then none else F[pk i-1000000]?)=some b;rw[TQ (by unfold pk;omega),show pk i-1000000=i from by unfold pk;omega,l]
   .grind
   .rw[R i b l];exact hM b 0 ((I i b E l y).1 0)
   grind
  .rw[ar]
   simp only[qS,Ci];split
   .rename_i p hp
    have g:n<vs.length:=by rw[<-a6];exact(th.1 hp).1
    have:=U n (.pv p) vs[n] hp (an g)
    have K:(vs.toArray++Array.replicate (fn.ntmps-vs.toArray.size) undef).getD n undef=vs[n]:=by
     rw[T9,UF (by simpa using g)];simp[g]
    simp only[K];exact .pv this
   .rename_i j hp
    have g:n<vs.length:=by rw[<-a6];exact(th.1 hp).1
    obtain⟨b,l,hv⟩:=U n (.bx j) vs[n] hp (an g)
    have K:(vs.toArray++Array.replicate (fn.ntmps-vs.toArray.size) undef).getD n undef=vs[n]:=by
     rw[T9,UF (by simpa using g)];simp[g]
    simp only[K];rw[hv,<-R j b l];have hj:=bH n j hp;refine .ptr (cs:=(hin[j]).map .pv) (own:=false) (fz:=false) ?_;simp only[tG,TQ (show¬pk j<1000000 by unfold pk;omega),show pk j-1000000=j from by unfold pk;omega]
    grind
   .exact .undef _
 refine calls_of_wp_defers hf l (wp_mono (h C rfl rfl _ w bc) ?_)
 have V:∀(Z:Act) Q A,gk C A Z Q->jf P fn.results.toList hout res A->jW P Z.defers/\∃v,(results fn Z.tmps).run P Q=.ok v Q/\
  ∃v',Ending.returned v=.returned v'/\Ext (·∈F) w Q/\(∀(i:Nat) b E,F[i]?=some b->hout[i]?=some E->kD Q M b E)/\yW w Q M res v':=by
  rintro Z Q A ⟨H,B,hN,b0,ht⟩ ⟨r,T,b5,m⟩;obtain⟨u,b7,G⟩:=nA (C:=C) B ht T;have D:∀b o,M b o->ab C H A.h b o:=λb o h=>.inl h
  have J:∀{b:Nat},(C.w0.heap.size<=b\/(C.S b/\∀o,¬C.M0 b o))->w.heap.size<=b:=by
   intro b h9;rcases h9 with h9|⟨h9,h10⟩
   .exact h9
   .obtain⟨i,hi⟩:=Vh.1 (show b∈F from h9)
    have g:i<hin.length:=by rw[<-a7];exact(th.1 hi).1
    exact absurd ((I i b hin[i] hi (an g)).1 0) (h10 0)
  refine⟨b0,u,b7,u,rfl,B.ext,?_,?_⟩
  .intro i b E l y
   have a:=b5 i E y;obtain⟨arr,ty,e1,e2⟩:=B.bl _ _ a;have q:=B.own _ _ a
   have ba:C.pb (pk i)=some b:=by
    show(if pk i<1000000 then none else F[pk i-1000000]?)=some b;rw[TQ (by unfold pk;omega),show pk i-1000000=i from by unfold pk;omega,l]
   have bq:(H (pk i)).b=b:=by
    have:=q.2.1;rw[ba]at this;injection this with this;exact this.symm
   rw[bq]at e1;exact⟨arr,ty,e1,e2.map_pv_inv.mono (Pres.sub D)⟩
  .cases res with
   |pv p=>
    obtain⟨W,hW⟩:=m;obtain⟨b1,b2,_⟩:=mT B (cY.refl _) G hW;exact b2.mono (Pres.sub (λb o h=>.inl h))
   |new p=>exact GI B J G m
   |box E=>
    obtain⟨k,rfl,a⟩:=m;obtain⟨arr,ty,e1,e2⟩:=B.bl _ _ a;have q:=J (B.own _ _ a)
    cases G with
    |ptr _=>
     refine⟨(H k).b,q,rfl,arr,ty,e1,e2.map_pv_inv.mono (Pres.sub ?_)⟩;rintro b o (h|rfl)
     .exact .inl h
     .exact .inr ⟨k,_,a,trivial,rfl,by simp[Blk.frz]⟩
   |row e sz xs=>
    obtain⟨k,rfl,a⟩:=m;have q:=B.own _ _ a;have l:=B.bl _ _ a
    have z:u=(H k).slice xs.length:=by
     cases G with
     |arr d a9 Y=>
      rw[a]at d;injection d with d;injection d with a1 a2 a3 a4;subst a3;exact Y rfl
    refine⟨H k,z,λhn=>J (q.row hn),?_⟩;obtain⟨c1,c2,c3,c4,c5⟩:=l;refine⟨c1,UR _,c3,c4,λhn=>?_⟩;obtain⟨d1,d2,arr,d3,d4,d5⟩:=c5 hn;refine⟨d1,d2,arr,d3,d4,λi x j p hx hj=>?_⟩;obtain⟨v,hv,T⟩:=d5 i x j p hx hj;refine⟨v,hv,T.mono (Pres.sub ?_)⟩;rintro b o (h|⟨_,rfl⟩)
    .exact .inl h
    .exact .inr ⟨k,_,a,hn,rfl,by simp[Blk.frz]⟩
   |nrow e sz xs=>
    obtain⟨b4,k,rfl,a⟩:=m;have q:=B.own _ _ a;have l:=B.bl _ _ a
    have z:u=(H k).slice xs.length:=by
     cases G with
     |arr d a9 Y=>
      rw[a]at d;injection d with d;injection d with a1 a2 a3 a4;subst a3;exact Y rfl
    refine⟨b4,H k,z,λhn=>J (q.row hn),?_⟩;obtain⟨c1,c2,c3,c4,c5⟩:=l;refine⟨c1,UR _,c3,c4,λhn=>?_⟩;obtain⟨d1,d2,arr,d3,d4,d5⟩:=c5 hn;refine⟨d1,d2,arr,d3,d4,λi x j p hx hj=>?_⟩;obtain⟨v,hv,T⟩:=d5 i x j p hx hj;refine⟨v,hv,T.mono (Pres.sub ?_)⟩;rintro b o (h|⟨_,rfl⟩)
    .exact .inl h
    .exact .inr ⟨k,_,a,hn,rfl,by simp[Blk.frz]⟩
   |srow pre e sz xs=>
    obtain⟨k,rfl,a⟩:=m;have q:=B.own _ _ a;have l:=B.bl _ _ a
    cases G with
    |agg _ us hl hh=>
     have a8:us.length=pre.length+1:=by simpa using hl.symm
     have g:pre.length<us.length:=by omega
     have O:=hh pre.length (.arr k xs.length) us[pre.length] (by rw[T7 (by simp)];simp) (an g)
     have z:us[pre.length]=(H k).slice xs.length:=by
      generalize us[pre.length]=u at O
      cases O with
      |arr d a9 Y=>
       rw[a]at d;injection d with d;injection d with a1 a2 a3 a4;subst a3;exact Y rfl
     have D:∀b o,(M b o\/((H k).isNil=false/\b=(H k).b))->ab C H A.h b o:=by
      rintro b o (h|⟨hn,rfl⟩)
      .exact .inl h
      .exact .inr ⟨k,_,a,hn,rfl,by simp[Blk.frz]⟩
     refine⟨H k,us.take pre.length,?_,λhn=>J (q.row hn),⟨by rw[UL];omega,λi p u hp Y=>?_⟩,?_⟩
     .congr 1
      rw[<-z,<-UN g,Us (by omega)]
     .have hi:=(th.1 hp).1
      rw[Uu,T8 hi]at Y;have:=hh i (.pv p) u (by rw[T4 (by simpa using hi),TR,hp];rfl) Y
      cases this with
      |pv T=>exact T.mono (Pres.sub D)
     .obtain⟨c1,c2,c3,c4,c5⟩:=l
      refine⟨c1,UR _,c3,c4,λhn=>?_⟩;obtain⟨d1,d2,arr,d3,d4,d5⟩:=c5 hn;refine⟨d1,d2,arr,d3,d4,λi x j p hx hj=>?_⟩;obtain⟨v,hv,T⟩:=d5 i x j p hx hj;exact⟨v,hv,T.mono (Pres.sub D)⟩
 rintro e Z Q ⟨A,bb,hq⟩
 cases e with
 |normal=>obtain⟨h1,v,h2,h3⟩:=V Z Q A bb hq;exact ja h1 h2 h3
 |ret=>obtain⟨h1,v,h2,h3⟩:=V Z Q A bb hq;exact ja h1 h2 h3
 |exit=>exact hq.elim
 |goto=>exact hq.elim
 |panic=>exact hq.elim
 |outgrown=>exact hq.elim
section
variable {V:Type}
def iJ(n:Nat)(wr:Nat->Option V)(x0:V)(a:Nat->Bool):V:=(List.range n).foldl (λx i=>if a i=true then(wr i).getD x else x) x0
theorem kg(n:Nat)(wr:Nat->Option V)(x0:V)(a:Nat->Bool):iJ (n+1) wr x0 a=if a n=true then(wr n).getD (iJ n wr x0 a)else iJ n wr x0 a:=by
 simp[iJ,Vq,Wk]
theorem ej{wr:Nat->Option V}{x0:V}{ls':Nat->Bool}(h:∀j,j<n->(wr j).isSome=true->ls j=ls' j):iJ n wr x0 ls=iJ n wr x0 ls':=by
 induction n with
 |zero=>rfl
 |succ n ih=>
  rw[kg,kg,ih (λj b=>h j (by omega))]
  cases a:wr n with
  |none=>simp
  |some v=>rw[h n (by omega) (by simp[a])]
theorem pZ{wr:Nat->Option V}{x0:V}(hi:i<=n):iJ n wr x0 (λj=>decide (j<i))=iJ i wr x0 (λ_=>true):=by
 induction n with
 |zero=>have:i=0:=by omega
        subst this;rfl
 |succ n ih=>
  by_cases e:i=n+1
  .subst e
   refine(ej (λj a _=>?_));simpa using a
  .rw[kg,ih (by omega)]
   have:¬n<i:=by omega
   simp[this]
theorem oS{wr:Nat->Option V}{x0:V}(hi:i<n)(a:(wr i).isSome=true->∀j,i<j->j<n->(wr j).isSome=true->ls j=false):
 iJ n wr x0 (λj=>ls j||j==i)=(wr i).getD (iJ n wr x0 ls):=by
 cases c:wr i with
 |none=>
  simp only[Option.getD_none];refine ej (λj _ g=>?_)
  have:j≠i:=λe=>by rw[e,c]at g;cases g
  simp[this]
 |some v=>
  simp only[Uj];have k:=a (by simp[c]);clear a
  induction n with
  |zero=>omega
  |succ n ih=>
   rw[kg];by_cases e:n=i
   .subst e;simp[c]
   .have f:=ih (by omega) (λj h1 l=>k j h1 (by omega))
    rw[f]
    have b:(n==i)=false:=by simpa using e
    simp only[b,Bool.or_false]
    cases d:wr n with
    |none=>simp
    |some u=>rw[k n (by omega) (by omega) (by simp[d])];simp
end
def nB(ops:Array Oper)(i j:Nat):Prop:=∃o,ops[j]?=some o/\∃e∈o.after.toList,Region.binds .any e=true/\e.on=i
inductive Pre(ops:Array Oper):Nat->Nat->Prop
 |one {i j:Nat} (h:nB ops i j):Pre ops i j
 |step {i q j:Nat} (h:Pre ops i q) (h':nB ops q j):Pre ops i j
def Ck(acc:List Nat)(a:List Edge):Nat:=a.foldl (λs e=>if Region.binds .any e=true then s ||| 2^e.on ||| acc.getD e.on 0 else s) 0
def jX:List Oper->List Nat->List Nat
 |[],acc=>acc
 |o::r,acc=>jX r (acc++[Ck acc o.after.toList])
theorem y8{acc:List Nat}{i:Nat}:∀(b:List Edge)(s:Nat),(b.foldl (λs e=>if Region.binds .any e=true then s ||| 2^e.on ||| acc.getD e.on 0 else s) s).testBit i=true->
 s.testBit i=true\/∃e∈b,Region.binds .any e=true/\(e.on=i\/(acc.getD e.on 0).testBit i=true)
 |[],s,h=>.inl h
 |e::b,s,h=>by
  simp only[Vu]at h;rcases y8 b _ h with a|⟨f,d,c,g⟩
  .split at a
   .rename_i c
    rw[Nat.testBit_or,Nat.testBit_or,UT,UT]at a;rcases a with(a|a)|a
    .exact .inl a
    .refine .inr ⟨e,by simp,c,.inl ?_⟩
     rw[Nat.testBit_two_pow]at a;simpa using a
    .exact .inr ⟨e,by simp,c,.inr a⟩
   .exact .inl a
  .exact .inr ⟨f,by simp[d],c,g⟩
theorem tJ{ops:Array Oper}:∀{l:List Oper}{acc:List Nat},(∀j,l[j]?=ops[acc.length+j]?)->(∀i j,(acc.getD j 0).testBit i=true->Pre ops i j)->
 ∀i j,((jX l acc).getD j 0).testBit i=true->Pre ops i j
 |[],acc,_,h,i,j,a=>h i j a
 |o::l,acc,k,h,i,j,a=>by
  refine tJ (l:=l) (acc:=acc++[Ck acc o.after.toList]) (λj=>?_) ?_ i j a
  .have:=k (j+1)
   simp only[We]at this;rw[this];congr 1;simp;omega
  .intro i j a
   by_cases n:j<acc.length
   .refine h i j ?_
    rwa [VU,T4 n,<-VU]at a
   .by_cases c:j=acc.length
    .subst c
     rw[VU,T7 (by omega)]at a;simp only[VV,Vf,Uj,Ck]at a
     have f:ops[acc.length]?=some o:=by have:=k 0;simpa using this.symm
     rcases y8 _ _ a with m|⟨e,g,b,d⟩
     .simp at m
     .rcases d with rfl|d
      .exact .one ⟨o,f,e,g,b,rfl⟩
      .exact .step (h i e.on d) ⟨o,f,e,g,b,rfl⟩
    .rw[VU,Uc (by simp;omega)]at a
     simp at a
def Cl(xs:List Operand):List Nat:=xs.filterMap λ|.tmp t=>some t|_=>none
def pd(ops:Array Oper)(o:Oper):List Nat:=Cl o.op.operands.toList++(match o.guard with|some (j,_)=>((ops[j]?).bind (·.dst)).toList|none=>[])
def lk(ops:Array Oper)(x y:Oper):Bool:=
 (match x.dst with|some r=>(pd ops y).contains r||y.dst==some r|none=>false)||(match y.dst with|some r=>(pd ops x).contains r|none=>false)
def GJ(ops:Array Oper):Bool:=(List.range ops.size).all λj=>match ops[j]? with
 |some o=>o.after.toList.all λe=>!Region.binds .any e||decide (e.on<j)
 |none=>true
def jY(ops:Array Oper):Bool:=
 let a:=jX ops.toList []
 GJ ops&&(List.range ops.size).all λj=>(List.range j).all λi=>match ops[i]?,ops[j]? with
  |some x,some y=>!lk ops x y||(a.getD j 0).testBit i
  |_,_=>true
def El:Op->Bool
 |.lookup ..|.mapUpdate ..|.load ..|.store ..|.alloc _|.box ..|.build ..|.buildSlice ..|.indexAddr ..|.fieldAddr ..|.makeSlice ..|.call _|.assign _|.makeInterface ..=>true
 |_=>false
def wq(h:Hp)(k:Nat):List Nat:=match h k with
 |some (.box cs _ _)=>cs.flatMap v8
 |_=>[]
def Em(h:Hp):AV->List Nat
 |.ptr k _=>wq h k
 |_=>[]
def JT(h:Hp):AV->List Nat
 |.fn _ _ caps=>let b:=caps.flatMap (Em h);b++b.flatMap (wq h)
 |.ext (.barr k _ _)=>wq h k
 |_=>[]
def GK:Op->Bool
 |.call _=>true
 |_=>false
def lX(o:Oper)(ρ:Operand->AV)(h:Hp):List Nat:=(if El o.op then o.op.operands.toList.flatMap λx=>Ls (ρ x)else[])++((if GK o.op then o.op.operands.toList.flatMap λx=>JT h (ρ x)else[])++o.dst.toList)
def bQ(K:List Nat)(h:Hp):Hp:=λk=>if K.contains k=true then h k else none
abbrev nD:=List (List Nat×List Nat)
def Cm(a b:List Nat):Bool:=a.all λx=>!b.contains x
def jz(a:List Nat)(acc:nD):Bool:=
 (List.range acc.length).all λj=>(List.range j).all λi=>match acc[i]?,acc[j]? with
   |some (W,K),some (c,b)=>(Cm W b&&Cm c K)||(a.getD j 0).testBit i
   |_,_=>true
def kS(P:Program)(hn:List Nat)(N:Nat)(ops:Array Oper)(Q:nD->St->Prop):List Oper->nD->St->Prop
 |[],acc,st=>Q acc st
 |o::rest,acc,st=>dm N o.dst=true/\(match lg ops st.t o.guard with
   |some none=>sL P hn o st.ev (bQ (lX o st.ev st.h) st.h) (λe=>(e.2.all λc=>(lX o st.ev st.h).contains c.1)=true/\kS P hn N ops Q rest (acc++[(e.2.map (·.1),lX o st.ev st.h)]) (st.put o.dst e.1 e.2))
   |some (some (d,b,want))=>wW b d st (λf a=>if f=want then sL P hn o a.ev (bQ (lX o a.ev a.h) a.h) (λe=>(e.2.all λc=>(lX o a.ev a.h).contains c.1)=true/\kS P hn N ops Q rest (acc++[(e.2.map (·.1),lX o a.ev a.h)]) (a.put o.dst e.1 e.2))
    else kS P hn N ops Q rest (acc++[([],[])]) (a.put o.dst (.pv (.val (.tuple #[]))) []))
   |none=>False)
theorem AW{c:AV}{d:Option Nat}(e:gH P c args d h K):∃a,gH P c args d h (λx=>x=a)/\K a:=by
 unfold gH at e|-;split at e
 .exact e.elim
 .split at e
  .exact e.elim
  .split at e
   .exact e.elim
   .rename_i hd
    split at e
    .exact e.elim
    .obtain⟨hout,res,b,f⟩:=e
     unfold iW at f;split at f
     .rename_i e0 g
      refine⟨e0,?_,f⟩;simp only[hd];exact⟨hout,res,b,by unfold iW;simp only[g]⟩
     .exact f.elim
theorem GL(e:sL P hn o ρ h K):∃a,sL P hn o ρ h (λx=>x=a)/\K a:=by
 have hp:iW (eP P hn o ρ h) K->∃a,iW (eP P hn o ρ h) (λx=>x=a)/\K a:=by
  intro e;unfold iW at e|-;split at e
  .rename_i a _;exact⟨a,rfl,e⟩
  .exact e.elim
 unfold sL at e|-;split at e
 .split at e
  .rename_i c d f b
   exact AW e
  .exact AW e
  .exact hp e
 .exact hp e
theorem qT(c:∀cs b,o.op≠.select cs b)(h:∀x∈o.op.operands,ρ x=ρ' x):bz P o ρ=bz P o ρ':=by
 unfold bz
 have h1:(o.op.operands.toList.all λx=>(eZ (ρ x)).isSome)=(o.op.operands.toList.all λx=>(eZ (ρ' x)).isSome):=by
  rw[Bool.eq_iff_iff,TP,TP];constructor
  .intro d x a;rw[<-h x (by simpa using a)];exact d x a
  .intro d x a;rw[h x (by simpa using a)];exact d x a
 have e:execOp (λx=>pX (ρ x)) o=execOp (λx=>pX (ρ' x)) o:=execOp_congr o c (λx a=>by simp only[h x a]);rw[h1,e]
structure Ef where
 d:Option Nat
 v:AV
 W:List (Nat×Blk)
 K:List Nat
 deriving Inhabited
def run(fs:List Ef)(st:St):St:=fs.foldl (λs f=>s.put f.d f.v f.W) st
def lG(P:Program)(o:Oper)(ρ:Operand->AV)(f:Hp)(v:AV)(W:List (Nat×Blk)):Prop:=
 ∀(C:Cx)(L:Nat->Loc)(h:Hp)(w:World)(a:Act),C.P=P->MemL C L h w->(∀k b,f k=some b->h k=some b)->(∀d,o.dst=some d->f d=h d/\d<2000000)->
  (∀x∈o.op.operands,RepA w (ab C L h) L h (ρ x) (a.eval x))->∀(next:Act->World->Prop)(Q:Exit->Act->World->Prop),
  (∀u e c,aI C L h w c (ai h W) e->RepA e (ab C c (ai h W)) c (ai h W) v u->next (a.put o.dst u) e)->o.wp C.P a w next Q
theorem En{c:Hp}{v:AV}(e:sL P hn o ρ c (λx=>x=(v,W))):lG P o ρ c v W:=by
 intro C L h w a hP j k hf m next Q b
 subst hP;refine Cg j k hf m e (λf u n d i g l=>?_);subst i;exact b u n d g l
theorem lG.congr{d:Hp}{v:AV}(i:∀x∈o.op.operands,ρ x=ρ' x)(h:lG P o ρ d v W):lG P o ρ' d v W:=by
 intro C L e w a hP f g hf j next Q b
 exact h C L e w a hP f g hf (λx c=>by rw[i x c];exact j x c) next Q b
def nE(P:Program)(hn:List Nat)(N:Nat)(ops:Array Oper)(o:Oper)(st:St)(f:Ef):Prop:=
 dm N o.dst=true/\f.d=o.dst/\
  ((fA ops st.t o.guard=some true/\(∀d,o.dst=some d->f.K.contains d=true)/\lG P o st.ev (bQ f.K st.h) f.v f.W/\(f.W.all λa=>f.K.contains a.1)=true)\/
   (fA ops st.t o.guard=some false/\f.v=.pv (.val (.tuple #[]))/\f.W=[]/\f.K=[]))
theorem sN{P:Program}{hn:List Nat}{N:Nat}{ops:Array Oper}{Q:nD->St->Prop}:∀{l:List Oper}{acc:nD}{st:St},kS P hn N ops Q l acc st->
 ∃fs:List Ef,fs.length=l.length/\(∀(i:Nat) o f,l[i]?=some o->fs[i]?=some f->nE P hn N ops o (run (fs.take i) st) f)/\Q (acc++fs.map λf=>(f.W.map (·.1),f.K)) (run fs st)
 |[],acc,st,e=>⟨[],rfl,λi o f h=>by simp at h,by simpa[kS,run]using e⟩
 |o::l,acc,st,e=>by
  simp only[kS]at e;obtain⟨hd,e⟩:=e
  have fin:∀(f:Ef),nE P hn N ops o st f->kS P hn N ops Q l (acc++[(f.W.map (·.1),f.K)]) (st.put f.d f.v f.W)->
   ∃fs:List Ef,fs.length=(o::l).length/\(∀(i:Nat) p m,(o::l)[i]?=some p->fs[i]?=some m->nE P hn N ops p (run (fs.take i) st) m)/\Q (acc++fs.map λf=>(f.W.map (·.1),f.K)) (run fs st):=by
   intro f hf a;obtain⟨fs,h1,x,y⟩:=sN a;refine⟨f::fs,by simp[h1],λi p m u k=>?_,?_⟩
   .cases i with
    |zero=>simp at u k;subst u;subst k;exact hf
    |succ i=>exact x i p m (by simpa using u) (by simpa using k)
   .simpa[run,U7]using y
  split at e
  .rename_i n
   obtain⟨c,q,g,a⟩:=GL e;exact fin ⟨o.dst,c.1,c.2,lX o st.ev st.h⟩ ⟨hd,rfl,.inl ⟨oO n,λd j=>by simp[lX,j],En q,g⟩⟩ a
  .rename_i d b want n
   unfold wW at e;simp only at e;split at e
   .rename_i s
    subst s;obtain⟨c,q,g,a⟩:=GL e;exact fin ⟨o.dst,c.1,c.2,lX o st.ev st.h⟩ ⟨hd,rfl,.inl ⟨(mf n).trans (by simp),λd j=>by simp[lX,j],En q,g⟩⟩ a
   .rename_i r
    exact fin ⟨o.dst,.pv (.val (.tuple #[])),[],[]⟩ ⟨hd,rfl,.inr ⟨(mf n).trans (by simpa using r),rfl,rfl,rfl⟩⟩ e
  .exact e.elim
def jg(W:List (Nat×Blk))(k:Nat):Option (Option Blk):=W.foldl (λx a=>if k=a.1 then some (some a.2)else x) none
theorem p9(k:Nat):∀(W:List (Nat×Blk))(x:Option (Option Blk)),W.foldl (λx a=>if k=a.1 then some (some a.2)else x) x=(match jg W k with|some y=>some y|none=>x)
 |[],x=>by simp[jg]
 |a::W,x=>by
  simp only[Vu,jg];rw[p9 k W (if k=a.1 then some (some a.2)else x),p9 k W (if k=a.1 then some (some a.2)else none)]
  cases jg W k with
  |some y=>rfl
  |none=>simp only;split<;>rfl
theorem oT(k:Nat):∀(W:List (Nat×Blk))(h:Hp),ai h W k=(jg W k).getD (h k)
 |[],h=>rfl
 |a::W,h=>by
  show ai (ae h a.1 (some a.2)) W k=_;rw[oT k W]
  have b:jg (a::W) k=(match jg W k with|some y=>some y|none=>if k=a.1 then some (some a.2)else none):=by
   conv=>lhs;unfold jg
   rw[Vu,p9 k W (if k=a.1 then some (some a.2)else none)]
  rw[b]
  cases jg W k with
  |some y=>rfl
  |none=>simp only[Option.getD_none,ae];split<;>rfl
theorem vd{k:Nat}:∀{W:List (Nat×Blk)},(jg W k).isSome=true->k∈W.map (·.1)
 |[],h=>by simp[jg]at h
 |kb::W,h=>by
  simp only[jg,Vu]at h;rw[p9 k W (if k=kb.1 then some (some kb.2)else none)]at h;by_cases e:k=kb.1
  .simp[e]
  .rw[TQ e]at h
   have:(jg W k).isSome=true:=by cases a:jg W k<;>simp_all
   have:=vd this;simp at this|-;exact .inr this
section
variable (fs:List Ef)
def rJ(r i:Nat):Option AV:=match fs[i]? with
 |some f=>if f.d=some r then some f.v else none
 |none=>none
def rL(k i:Nat):Option (Option Blk):=match fs[i]? with
 |some f=>jg f.W k
 |none=>none
def fh(n:Nat)(st:St)(a:Nat->Bool):St:=⟨λr=>iJ n (rJ fs r) (st.t r) a,λk=>iJ n (rL fs k) (st.h k) a⟩
theorem nF(st:St):∀i,i<=fs.length->∀r,(run (fs.take i) st).t r=iJ i (rJ fs r) (st.t r) (λ_=>true)
 |0,_,r=>by simp[run,iJ]
 |i+1,hi,r=>by
  have a:i<fs.length:=by omega
  rw[UN a,kg];simp only[run,Wk,Vu,List.foldl_nil,Ul];have ih:=nF st i (by omega) r;rw[run]at ih
  have b:rJ fs r i=if fs[i].d=some r then some fs[i].v else none:=by simp[rJ,an a]
  rw[b,<-ih]
  cases hd:fs[i].d with
  |none=>simp[St.put]
  |some d=>
   simp only[St.put,ae,T6];by_cases e:d=r
   .subst e;simp
   .rw[TQ (λh=>e h.symm),TQ e];rfl
theorem nG(st:St):∀i,i<=fs.length->∀k,(run (fs.take i) st).h k=iJ i (rL fs k) (st.h k) (λ_=>true)
 |0,_,r=>by simp[run,iJ]
 |i+1,hi,r=>by
  have a:i<fs.length:=by omega
  rw[UN a,kg];simp only[run,Wk,Vu,List.foldl_nil,Ul];have ih:=nG st i (by omega) r;rw[run]at ih
  have b:rL fs r i=jg fs[i].W r:=by simp[rL,an a]
  rw[b,<-ih];simp only[St.put];exact oT r _ _
end
section
variable {C:Cx} {hn:List Nat} {ops:Array Oper} {fs:List Ef} {st:St}
def aJ(a:Array Bool):Nat->Bool:=λi=>a.getD i true
theorem qa(a:∀i j,nB ops i j->ls j=true->ls i=true)(h:Pre ops i j):ls j=true->ls i=true:=by
 induction h with
 |one h=>exact a _ _ h
 |step _ b ih=>exact λc=>ih (a _ _ b c)
theorem lH(c:jY ops=true){x y:Oper}(b:i<j)(g:ops[i]?=some x)(d:ops[j]?=some y)(e:lk ops x y=true):Pre ops i j:=by
 simp only[jY,An]at c;have f:j<ops.size:=(UA.1 d).1;have h1:=TP.1 c.2 j (UH.2 f);have a:=TP.1 h1 i (UH.2 b);rw[g,d]at a;simp only[e,VB,Bool.false_or]at a;exact tJ (l:=ops.toList) (acc:=[]) (λj=>by simp) (λi j h=>by simp at h) i j a
theorem mW{acc:nD}(q:jz (jX ops.toList []) acc=true){W K f e:List Nat}(d:i<j)(r:acc[i]?=some (W,K))(g:acc[j]?=some (f,e))(o:∃k,(k∈W/\k∈e)\/(k∈f/\k∈K)):Pre ops i j:=by
 have p:j<acc.length:=(th.1 g).1;have h1:=TP.1 q j (UH.2 p);have c:=TP.1 h1 i (UH.2 d);rw[r,g]at c;simp only[UT,An]at c;rcases c with⟨m,n⟩|c
 .obtain⟨k,⟨a,b⟩|⟨a,b⟩⟩:=o
  .have:=TP.1 m k a
   simp at this;exact absurd b this
  .have:=TP.1 n k a
   simp at this;exact absurd b this
 .exact tJ (l:=ops.toList) (acc:=[]) (λj=>by simp) (λi j h=>by simp at h) i j c
theorem qb(b:jY ops=true)(h:nB ops i j):i<j:=by
 simp only[jY,An]at b;obtain⟨o,a,e,f,d,rfl⟩:=h;have h1:=TP.1 b.1 j (UH.2 (UA.1 a).1);rw[a]at h1;have c:=TP.1 h1 e f;simpa[d]using c
theorem lI{a:Array Bool}:i∈Region.ready .any ops a↔i<ops.size/\aJ a i=false/\∀q,nB ops q i->a.getD q false=true:=by
 unfold Region.ready aJ;rw[U3,UH];constructor
 .rintro⟨h1,b⟩
  simp only[An,UG]at b;refine⟨h1,b.1,?_⟩;rintro q ⟨o,d,e,g,f,rfl⟩;have c:=b.2;rw[d]at c;simp only[UO,Uj,Array.all_eq_true_iff_forall_mem]at c;have:=c e (by simpa using g);simpa[f]using this
 .rintro⟨h1,b,c⟩
  refine⟨h1,?_⟩;simp only[An,UG];refine⟨b,?_⟩;have d:ops[i]?=some ops[i]:=UJ h1;rw[d];simp only[UO,Uj,Array.all_eq_true_iff_forall_mem];intro e g
  cases f:Region.binds .any e with
  |false=>simp
  |true=>simp[c e.on ⟨_,d,e,by simpa using g,f,rfl⟩]
theorem H9(z:jY ops=true)(b1:fs.length=ops.size)(T:∀(i:Nat) o f,ops[i]?=some o->fs[i]?=some f->nE C.P hn C.N ops o (run (fs.take i) st) f)
 (O:jz (jX ops.toList []) (fs.map λf=>(f.W.map (·.1),f.K))=true){Q':Exit->Act->World->Prop}(hQ:∀a w,gk C (run fs st) a w->Q' .normal a w):
 ∀(fuel:Nat)(c:Array Bool)(a:Act)(w:World),c.size=ops.size->((List.range ops.size).filter λj=>!aJ c j).length<=fuel->(∀i j,nB ops i j->aJ c j=true->aJ c i=true)->
  gk C (fh fs ops.size st (aJ c)) a w->wpAny C.P .any ops Q' fuel c a w:=by
 have G:∀c:Array Bool,Region.ready .any ops c=[]->c.size=ops.size->∀j,j<ops.size->aJ c j=true:=by
  intro c U B j
  induction j using Nat.strongRecOn with
  |_ j ih=>
   intro l
   cases hl:aJ c j with
   |true=>rfl
   |false=>
    have:j∈Region.ready .any ops c:=lI.2 ⟨l,hl,λq hq=>by
     have cg:=qb z hq;have:=ih q cg (by omega);unfold aJ at this;rw[T9]at this|-;rw[UJ (by omega)]at this|-
     simpa using this⟩
    rw[U]at this;cases this
 have ad:∀(c:Array Bool) a w,Region.ready .any ops c=[]->c.size=ops.size->gk C (fh fs ops.size st (aJ c)) a w->Q' .normal a w:=by
  intro c a w U B D;apply hQ;have hl:=G c U B
  have:fh fs ops.size st (aJ c)=run fs st:=by
   have ht:run fs st=run (fs.take ops.size) st:=by rw[Us (by omega)]
   rw[ht]
   have h1:(fh fs ops.size st (aJ c)).t=(run (fs.take ops.size) st).t:=by
    funext r;rw[nF fs st _ (by omega)];exact ej (λj l _=>hl j l)
   have F:(fh fs ops.size st (aJ c)).h=(run (fs.take ops.size) st).h:=by
    funext r;rw[nG fs st _ (by omega)];exact ej (λj l _=>hl j l)
   cases hA:fh fs ops.size st (aJ c);cases hB:run (fs.take ops.size) st;rw[hA,hB]at h1 F;simp at h1 F;rw[h1,F]
  rw[<-this];exact D
 intro fuel
 induction fuel with
 |zero=>
  intro c a w B bc V D
  have Z:Region.ready .any ops c=[]:=by
   cases U:Region.ready .any ops c with
   |nil=>rfl
   |cons i r=>
    have hi:i∈Region.ready .any ops c:=by rw[U];simp
    obtain⟨h1,F,_⟩:=lI.1 hi;have:i∈(List.range ops.size).filter λj=>!aJ c j:=U3.2 ⟨UH.2 h1,by simp[F]⟩;have b3:((List.range ops.size).filter λj=>!aJ c j)=[]:=Uy (by omega);rw[b3]at this;cases this
  exact⟨Z,ad c a w Z B D⟩
 |succ fuel ih=>
  intro c a w B bc V D;refine⟨λU=>ad c a w U B D,λi hi=>?_⟩;obtain⟨hin,Q,bs⟩:=lI.1 hi;have ho:ops[i]?=some ops[i]:=UJ hin;have hf:fs[i]?=some (fs[i]'(by omega)):=an _;generalize ops[i]=o at ho;generalize fs[i]'(by omega)=f at hf;obtain⟨I,b0,H⟩:=T i o f ho hf
  have y:∀q,Pre ops q i->aJ c q=true:=by
   intro q hq
   have hd:∀q,nB ops q i->aJ c q=true:=by
    intro q hq;have ck:=qb z hq;have:=bs q hq;unfold aJ;rw[T9]at this|-;rw[UJ (by omega)]at this|-;simpa using this
   cases hq with
   |one h=>exact hd q h
   |step h h'=>exact qa V h (hd _ h')
  have s:∀q,Pre ops i q->aJ c q=false:=by
   intro q hq
   cases cf:aJ c q with
   |false=>rfl
   |true=>rw[qa V hq cf]at Q;cases Q
  have a2:∀j r,(rJ fs r j).isSome=true->∃oj A,ops[j]?=some oj/\fs[j]?=some A/\oj.dst=some r:=by
   intro j r l;unfold rJ at l;split at l
   .rename_i A p
    split at l
    .rename_i hd
     have cd:j<ops.size:=by rw[<-b1];exact(th.1 p).1
     have E:ops[j]?=some ops[j]:=UJ cd;obtain⟨_,F,_⟩:=T j _ A E p;exact⟨_,A,E,p,by rw[<-F];exact hd⟩
    .cases l
   .cases l
  have a8:∀j k,(rL fs k j).isSome=true->∃A,fs[j]?=some A/\k∈A.W.map (·.1):=by
   intro j k l;unfold rL at l;split at l
   .rename_i A p;exact⟨A,p,vd l⟩
   .cases l
  have g:∀(j:Nat)(A:Ef),fs[j]?=some A->(fs.map λf=>(f.W.map (·.1),f.K))[j]?=some (A.W.map (·.1),A.K):=λj A h=>by simp[h]
  have Y:∀r∈pd ops o,(fh fs ops.size st (aJ c)).t r=(run (fs.take i) st).t r:=by
   intro r U;rw[nF fs st i (by omega),<-pZ (n:=ops.size) (by omega)];refine ej (λj l hw=>?_);obtain⟨oj,A,E,p,hd⟩:=a2 j r hw;rcases VM j i with R|rfl|a5
   .rw[y j (lH z R E ho (by simp[lk,hd,U]))];simp[R]
   .rw[Q];simp
   .rw[s j (lH z a5 ho E (by simp[lk,hd,U]))]
    have:¬j<i:=by omega
    simp[this]
  have bb:∀k∈f.K,(fh fs ops.size st (aJ c)).h k=(run (fs.take i) st).h k:=by
   intro k M;rw[nG fs st i (by omega),<-pZ (n:=ops.size) (by omega)];refine ej (λj l hw=>?_);obtain⟨A,p,hd⟩:=a8 j k hw;rcases VM j i with R|rfl|a5
   .rw[y j (mW O R (g j A p) (g i f hf) ⟨k,.inl ⟨hd,M⟩⟩)];simp[R]
   .rw[Q];simp
   .rw[s j (mW O a5 (g i f hf) (g j A p) ⟨k,.inr ⟨hd,M⟩⟩)]
    have:¬j<i:=by omega
    simp[this]
  have b8:∀k,k∈f.W.map (·.1)->k∈f.K:=by
   intro k M;obtain⟨kb,a7,rfl⟩:=Ur.1 M;rcases H with⟨_,_,_,G⟩|⟨_,_,hW,_⟩
   .have:=TP.1 G kb a7;simpa using this
   .rw[hW]at a7;cases a7
  have lW:fh fs ops.size st (aJ (c.setIfInBounds i true))=(fh fs ops.size st (aJ c)).put f.d f.v f.W:=by
   have b2:∀j,j<ops.size->aJ (c.setIfInBounds i true) j=(aJ c j||j==i):=by
    intro j l;unfold aJ;by_cases e:j=i
    .subst e;simp[T9,B,l]
    .have h1:(j==i)=false:=by simpa using e
     rw[h1,Bool.or_false,T9,T9,UV (by omega)]
   have h1:(fh fs ops.size st (aJ (c.setIfInBounds i true))).t=((fh fs ops.size st (aJ c)).put f.d f.v f.W).t:=by
    funext r
    show iJ ops.size (rJ fs r) (st.t r) (aJ (c.setIfInBounds i true))=_;rw[ej (λj l _=>b2 j l),oS hin ?_]
    .have hw:rJ fs r i=if f.d=some r then some f.v else none:=by simp[rJ,hf]
     rw[hw]
     cases hd:f.d with
     |none=>simp[St.put,fh]
     |some d=>
      simp only[St.put,ae,T6];by_cases e:d=r
      .subst e;simp
      .rw[TQ e,TQ (λh=>e h.symm)];rfl
    .intro a9 j a6 l ba
     obtain⟨oi,fi,X,J,a1⟩:=a2 i r a9;obtain⟨oj,A,E,p,hd⟩:=a2 j r ba;rw[ho]at X;injection X with X;subst X;exact s j (lH z a6 ho E (by simp[lk,a1,hd]))
   have F:(fh fs ops.size st (aJ (c.setIfInBounds i true))).h=((fh fs ops.size st (aJ c)).put f.d f.v f.W).h:=by
    funext k
    show iJ ops.size (rL fs k) (st.h k) (aJ (c.setIfInBounds i true))=_;rw[ej (λj l _=>b2 j l),oS hin ?_]
    .have hw:rL fs k i=jg f.W k:=by simp[rL,hf]
     rw[hw];simp only[St.put];exact(oT k f.W (fh fs ops.size st (aJ c)).h).symm
    .intro a9 j a6 l ba
     obtain⟨fi,J,a1⟩:=a8 i k a9;obtain⟨A,p,hd⟩:=a8 j k ba;rw[hf]at J;injection J with J;subst J;exact s j (mW O a6 (g i f hf) (g j A p) ⟨k,.inr ⟨hd,b8 k a1⟩⟩)
   cases hA:fh fs ops.size st (aJ (c.setIfInBounds i true));cases hB:(fh fs ops.size st (aJ c)).put f.d f.v f.W;rw[hA,hB]at h1 F;simp at h1 F;rw[h1,F]
  have S:∀a' w',gk C ((fh fs ops.size st (aJ c)).put f.d f.v f.W) a' w'->wpAny C.P .any ops Q' fuel (c.setIfInBounds i true) a' w':=by
   intro a' w' ch;refine ih (c.setIfInBounds i true) a' w' (by simp[B]) ?_ ?_ (by rw[lW];exact ch)
   .have cj:((List.range ops.size).filter λj=>!aJ (c.setIfInBounds i true) j).length<((List.range ops.size).filter λj=>!aJ c j).length:=by
     have ca:((List.range ops.size).filter λj=>!aJ (c.setIfInBounds i true) j)=((List.range ops.size).filter λj=>!aJ c j).filter λj=>!(j==i):=by
      rw[List.filter_filter];refine List.filter_congr (λj l=>?_);have cb:=UH.1 l;unfold aJ;by_cases e:j=i
      .subst e;simp[T9,B,cb]
      .have h1:(j==i)=false:=by simpa using e
       rw[h1,T9,T9,UV (by omega)];simp
     rw[ca];refine List.length_filter_lt_length_iff_exists.2 ⟨i,U3.2 ⟨UH.2 hin,by simp[Q]⟩,by simp⟩
    omega
   .intro q j hd l
    have b7:∀m,aJ (c.setIfInBounds i true) m=true↔(aJ c m=true\/m=i):=by
     intro m;unfold aJ;by_cases e:m=i
     .subst e;simp[T9,B,hin]
     .rw[T9,T9,UV (by omega)];simp[e]
    rw[b7]at l|-;rcases l with l|rfl
    .exact .inl (V q j hd l)
    .exact .inl (y q (.one hd))
  obtain⟨L,hm,hN,bq,ht⟩:=D
  have hgd:fA ops (fh fs ops.size st (aJ c)).t o.guard=fA ops (run (fs.take i) st).t o.guard:=by
   unfold fA;split
   .rfl
   .rename_i j want hg
    split
    .rename_i d hd
     rw[Y d (by simp[pd,hg,hd])]
    .rfl
  unfold wpOp;rw[ho];simp only;rcases H with⟨hg,hK,bH,b9⟩|⟨hg,hv,hW,_⟩
  .rw[ey ht (hgd.trans hg)]
   rw[T8 rfl];refine .inl ?_
   have b4:∀x∈o.op.operands,(run (fs.take i) st).ev x=(fh fs ops.size st (aJ c)).ev x:=by
    intro x hx
    cases x with
    |tmp t=>
     refine(Y t ?_).symm;simp only[pd,Cl,Ui,List.mem_filterMap];exact .inl ⟨.tmp t,by simpa using hx,rfl⟩
    |_=>rfl
   have b5:bQ f.K (run (fs.take i) st).h=bQ f.K (fh fs ops.size st (aJ c)).h:=by
    funext k
    unfold bQ;split
    .rename_i M;exact(bb k (by simpa using M)).symm
    .rfl
   rw[b5]at bH;refine lG.congr b4 bH C L _ w a rfl hm ?_ ?_ (λx _=>db ht x) _ _ (λu w' L' hA hv=>?_)
   .intro k b M;unfold bQ at M;split at M
    .exact M
    .cases M
   .intro d hd
    unfold bQ;rw[T8 (hK d hd)];refine⟨rfl,?_⟩;have ar:=I;rw[hd]at ar;simp only[dm,An,L4]at ar;exact ar.2
   .refine S _ _ ?_
    rw[b0];exact gk.put hm hN bq ht I hA hv
  .rw[ey ht (hgd.trans hg)]
   simp only[T5,Uf];refine S _ _ ?_;rw[b0,hv,hW];exact gk.put hm hN bq ht I (W:=[]) (aI.refl hm) (.pv (.val _))
theorem WP.drawF(k:C.P.follows .mixedOrders=true)(c:jY ops=true){fs:List Ef}(h1:fs.length=ops.size)(p:∀(i:Nat) o f,ops[i]?=some o->fs[i]?=some f->nE C.P hn C.N ops o (run (fs.take i) st) f)
 (q:jz (jX ops.toList []) (fs.map λf=>(f.W.map (·.1),f.K))=true)(r:Q .normal (run fs st)):WP C (.region id ops true) Q st:=by
 intro a w l;refine wp_region_any k (H9 (fs:=fs) (st:=st) c h1 p q (λa w l=>⟨_,l,r⟩) _ _ _ _ (by simp) ?_ ?_ ?_)
 .refine VH (Ws _ _) (by simp)
 .intro i j hd b
  have g:j<ops.size:=by obtain⟨o,u,_⟩:=hd;exact(UA.1 u).1
  unfold aJ at b;rw[T9,VY,T8 g]at b;cases b
 .have:fh fs ops.size st (aJ (Array.replicate ops.size false))=st:=by
   have hf:∀j,j<ops.size->aJ (Array.replicate ops.size false) j=false:=by
    intro j b;unfold aJ;rw[T9,VY,T8 b];rfl
   have x:∀{V:Type}(wr:Nat->Option V)(d:V),iJ ops.size wr d (aJ (Array.replicate ops.size false))=d:=by
    intro V wr d;rw[ej (ls':=λ_=>false) (λj b _=>hf j b)]
    have:∀n,iJ n wr d (λ_=>false)=d:=by
     intro n;induction n with
     |zero=>rfl
     |succ n ih=>rw[kg];simp[ih]
    exact this _
   cases st;unfold fh;simp[x]
  rw[this];obtain⟨L,s,hN,e,v⟩:=l;have m:=s.grow (Ext.drew (λ_=>False) w);exact⟨L,m.1,hN,e,λn=>(v n).mono m.2 (KC.refl _ _)⟩
theorem WP.draw(b:C.P.follows .mixedOrders=true)(a:jY ops=true)
 (h:kS C.P hn C.N ops (λacc st=>jz (jX ops.toList []) acc=true/\Q .normal st) ops.toList [] st):WP C (.region id ops true) Q st:=by
 obtain⟨fs,h1,c,d,e⟩:=sN h;exact WP.drawF (hn:=hn) b a (by rw[h1];simp) (λi o f g hf=>c i o f (by simpa using g) hf) (by simpa using d) e
theorem WP.drawX(n:Nat)(r:ops.toList[n]?=some o)(m:C.P.follows .mixedOrders=true)(k:jY ops=true)
 (h:kS C.P hn C.N ops (λacc l=>∃f,nE C.P hn C.N ops o l f/\kS C.P hn C.N ops (λacc st=>jz (jX ops.toList []) acc=true/\Q .normal st) (ops.toList.drop (n+1)) (acc++[(f.W.map (·.1),f.K)]) (l.put f.d f.v f.W)) (ops.toList.take n) [] st):WP C (.region id ops true) Q st:=by
 obtain⟨c,u,x,f,hf,j⟩:=sN h;obtain⟨e,y,z,A,B⟩:=sN j;have E:=(th.1 r).1
 have p:c.length=n:=by rw[u,UL];omega
 have G:e.length=ops.size-(n+1):=by rw[y,VD,U5]
 have F:ops.toList.length=ops.size:=U5
 have g:∀i,n+1<=i->run ((c++f::e).take i) st=run (e.take (i-(n+1))) ((run c st).put f.d f.v f.W):=by
  intro i hi;rw[List.take_append,Us (by omega),p,show i-n=(i-(n+1))+1 by omega,List.take_succ_cons];simp[run]
 refine WP.drawF (hn:=hn) (fs:=c++f::e) m k (by simp;omega) (λi s q b a=>?_) ?_ ?_
 .by_cases h1:i<n
  .rw[T4 (by omega)]at a
   rw[VG (by omega)];exact x i s q (by rw[Uu,T8 h1];simpa using b) a
  .by_cases D:i=n
   .subst D
    rw[T7 (by omega),p,VV]at a;injection a with a;subst a;rw[<-UQ,r]at b;injection b with b;subst b;rw[VG (by omega),Us (by omega)];exact hf
   .rw[T7 (by omega),p,show i-n=(i-(n+1))+1 by omega,We]at a
    rw[g i (by omega)];refine z (i-(n+1)) s q ?_ a;rw[UW,show n+1+(i-(n+1))=i by omega];simpa using b
 .simpa[U7]using A
 .have:=g (c++f::e).length (by simp;omega)
  rw[VW,Us (by simp;omega)]at this;rw[this];exact B
end
@[simp] theorem GM{α:Type}(f:Nat->α)(k:Nat)(v:α)(n:Nat):ae f k v n=if n=k then v else f n:=rfl
@[simp] theorem NS(args:List Arg)(n:Nat):Ci args n=(match args[n]? with
 |some (.pv p)=>.pv p
 |some (.bx i)=>.ptr (pk i) 0
 |none=>.undef):=rfl
theorem y9(hin:List (List PV))(k:Nat):tG hin k=if k<1000000 then none else(match hin[k-1000000]? with
 |some a=>some (.box (a.map .pv) false false)
 |none=>none):=rfl
@[simp] theorem Kw(K:List Nat)(h:Hp)(k:Nat):bQ K h k=if K.contains k=true then h k else none:=rfl
@[simp] theorem NJ:Ch C y Q .normal st=WP C y Q st:=rfl
@[simp] theorem O6:Ch C y Q .ret st=Q .ret st:=rfl
@[simp] theorem Om:Ch C y Q (.exit i) st=Q (.exit i) st:=rfl
@[simp] theorem Lx:rH id Q .normal st=Q .normal st:=rfl
@[simp] theorem On:rH id Q .ret st=Q .ret st:=rfl
@[simp] theorem NT:rH id Q (.exit i) st=if i=id then Q .normal st else Q (.exit i) st:=rfl
@[simp] theorem Sa:GH P rs hout res .ret st=jf P rs hout res st:=rfl
@[simp] theorem NU:GH P rs hout res .normal st=jf P rs hout res st:=rfl
@[simp] theorem Sx(ks:List Nat)(st:St)(n:Nat):(st.kill ks).t n=au ks (st.t n):=rfl
@[simp] theorem Sy(ks:List Nat)(st:St)(k:Nat):(st.kill ks).h k=if ks.contains k=true then none else(st.h k).map (bw ks):=rfl
@[simp] theorem O7:wW true d st F=F true st:=rfl
@[simp] theorem Oo:wW false d st F=F false st:=rfl
def St.lit(st:St)(d:Nat)(b:Bool):St:=⟨ae st.t d (.pv (.val (.bool b))),st.h⟩
section
variable (P:Program) (hn:List Nat) (N:Nat) (ops:Array Oper) (Q:St->Prop) (o:Oper) (rest:List Oper) (st:St)
def xK(x:Option cK):Prop:=iW x (λe=>dK P hn N ops Q rest (st.put o.dst e.1 e.2))
def xC(g:FuncId)(b:List Arg)(ks:List Nat)(a:List (Nat×Blk))(hin:List (List PV)):Prop:=xR P g b hin λhout res=>xK P hn N ops Q o rest st (lF st.h o.dst ks a hout res)
def Ly(g:FuncId)(b:List Arg)(ks:List Nat)(a:List (Nat×Blk)):Bool->Option (List (List PV))->Prop
 |false,some hin=>xC P hn N ops Q o rest st g b ks a hin
 |_,_=>False
def JU(g:FuncId):Option (List Arg×List Nat×List (Nat×Blk))->Prop
 |some (as,ks,W0)=>Ly P hn N ops Q o rest st g as ks W0 (W0.any λa=>ks.contains a.1) (lW st.h ks)
 |none=>False
def Cn(args:List AV):Option (FuncId×List AV×List AV)->Prop
 |some (g,first,caps)=>JU P hn N ops Q o rest st g (jy st.h (first++args++caps) [])
 |none=>False
def Oq:AV->Prop
 |.fn (.func g) _ _=>ew P g/\dK P hn N ops Q rest (st.put o.dst .undef [])
 |_=>False
def xN:Bool->Prop
 |true=>Fg (dK P hn N ops Q rest (st.put o.dst (.pv (.val (.bool true))) [])) (dK P hn N ops Q rest (st.put o.dst (.pv (.val (.bool false))) []))
 |false=>xK P hn N ops Q o rest st (eP P hn o st.ev st.h)
def xO:Prop:=match o.op with
 |.call c=>match c.callee with
  |.value f=>Cn P hn N ops Q o rest st (c.args.toList.map st.ev) (bX (st.ev f))
  |.invoke r name=>Cn P hn N ops Q o rest st (c.args.toList.map st.ev) (bX (pF P name (st.ev r)))
  |_=>xK P hn N ops Q o rest st (eP P hn o st.ev st.h)
 |.defer c=>match c.callee with
  |.value f=>if c.args.size=0 then Oq P hn N ops Q o rest st (st.ev f)else False
  |_=>False
 |.binOp op t x y _=>xN P hn N ops Q o rest st (nk (st.ev y)&&mM P t&&qw st.h (st.ev x)&&(op==.eql||op==.neq))
 |_=>xK P hn N ops Q o rest st (eP P hn o st.ev st.h)
def xB(_:Nat)(a:Bool)(b:Bool):Prop:=if b=a then xO P hn N ops Q o rest st else dK P hn N ops Q rest (st.put o.dst (.pv (.val (.tuple #[]))) [])
def xG:Option (Option (Nat×Bool×Bool))->Prop
 |some none=>xO P hn N ops Q o rest st
 |some (some (d,b,want))=>xB P hn N ops Q o rest st d want b
 |none=>False
end
section
variable {P:Program} {hn:List Nat} {N:Nat} {ops:Array Oper} {Q:St->Prop} {o:Oper} {rest:List Oper} {st:St}
@[simp] theorem O8:xN P hn N ops Q o rest st false=xK P hn N ops Q o rest st (eP P hn o st.ev st.h):=rfl
@[simp] theorem Sd:xN P hn N ops Q o rest st true=Fg (dK P hn N ops Q rest (st.put o.dst (.pv (.val (.bool true))) [])) (dK P hn N ops Q rest (st.put o.dst (.pv (.val (.bool false))) [])):=rfl
@[simp] theorem Sz{f c:List AV}:Oq P hn N ops Q o rest st (.fn (.func g) f c)=(ew P g/\dK P hn N ops Q rest (st.put o.dst .undef [])):=rfl
theorem Co{c:AV}:Cn P hn N ops Q o rest st args (bX c)=gH P c args o.dst st.h (λe=>dK P hn N ops Q rest (st.put o.dst e.1 e.2)):=by
 unfold gH
 cases bX c with
 |none=>rfl
 |some q=>
  obtain⟨g,first,caps⟩:=q;simp only[Cn]
  cases jy st.h (first++args++caps) []with
  |none=>rfl
  |some q=>
   obtain⟨as,ks,W0⟩:=q;simp only[JU]
   cases W0.any λa=>ks.contains a.1 with
   |true=>rfl
   |false=>
    cases lW st.h ks with
    |none=>rfl
    |some hin=>rfl
theorem JV:xO P hn N ops Q o rest st=uW P hn o st.ev st.h (λe=>dK P hn N ops Q rest (st.put o.dst e.1 e.2)):=by
 obtain⟨a,op,g,pos,b,d⟩:=o
 cases op<;>try rfl
 case binOp op t x y t'=>
  simp only[xO,uW];cases nk (st.ev y)&&mM P t&&qw st.h (st.ev x)&&(op==.eql||op==.neq)<;>rfl
 rename_i c;obtain⟨callee,args,ts⟩:=c
 cases callee<;>try rfl
 all_goals first
  |(rename_i f name;show Cn P hn N ops Q _ rest st (args.toList.map st.ev) (bX (pF P name (st.ev f)))=gH P (pF P name (st.ev f)) (args.toList.map st.ev) a st.h _;exact Co)
  |(rename_i f;show Cn P hn N ops Q _ rest st (args.toList.map st.ev) (bX (st.ev f))=gH P (st.ev f) (args.toList.map st.ev) a st.h _;exact Co)
@[simp] theorem Se:dK P hn N ops Q [] st=Q st:=rfl
@[simp] theorem O9:dK P hn N ops Q (o::rest) st=(dm N o.dst=true/\xG P hn N ops Q o rest st (lg ops st.t o.guard)):=by
 simp only[dK]
 congr 1
 cases a:lg ops st.t o.guard with
 |none=>rfl
 |some g=>cases g with
  |none=>simp only[xG];rw[JV]
  |some q=>obtain⟨d,b,want⟩:=q;simp only[xG,xB,wW];rw[JV]
@[simp] theorem Sf:xG P hn N ops Q o rest st (some none)=xO P hn N ops Q o rest st:=rfl
@[simp] theorem Sg:xG P hn N ops Q o rest st (some (some (d,b,want)))=xB P hn N ops Q o rest st d want b:=rfl
@[simp] theorem Tx:xB P hn N ops Q o rest st d true true=xO P hn N ops Q o rest st:=rfl
@[simp] theorem Ty:xB P hn N ops Q o rest st d false false=xO P hn N ops Q o rest st:=rfl
@[simp] theorem Tz:xB P hn N ops Q o rest st d true false=dK P hn N ops Q rest (st.put o.dst (.pv (.val (.tuple #[]))) []):=rfl
@[simp] theorem TA:xB P hn N ops Q o rest st d false true=dK P hn N ops Q rest (st.put o.dst (.pv (.val (.tuple #[]))) []):=rfl
@[simp] theorem Si{e:cK}:xK P hn N ops Q o rest st (some e)=dK P hn N ops Q rest (st.put o.dst e.1 e.2):=rfl
@[simp] theorem Pa:Cn P hn N ops Q o rest st args (some (g,first,caps))=JU P hn N ops Q o rest st g (jy st.h (first++args++caps) []):=rfl
@[simp] theorem Pb:JU P hn N ops Q o rest st g (some (as,ks,W0))=Ly P hn N ops Q o rest st g as ks W0 (W0.any λa=>ks.contains a.1) (lW st.h ks):=rfl
@[simp] theorem Pc:Ly P hn N ops Q o rest st g as ks W0 false (some hin)=xC P hn N ops Q o rest st g as ks W0 hin:=rfl
attribute [simp] xO
theorem ll(h:aP P g as hin hout res)(a:xK P hn N ops Q o rest st (lF st.h o.dst ks W0 hout res)):
 xC P hn N ops Q o rest st g as ks W0 hin:=⟨hout,res,h,a⟩
theorem za(h:st.t d=.pv (.val (.bool b))):st.lit d b=st:=by
 unfold St.lit
 have:ae st.t d (.pv (.val (.bool b)))=st.t:=by
  grind [GM]
 rw[this]
theorem fV(h:st.t d=.pv (.val (.bool b)))(a:b=true->xB P hn N ops Q o rest (st.lit d true) d want true)(hf:b=false->xB P hn N ops Q o rest (st.lit d false) d want false):
 xB P hn N ops Q o rest st d want b:=by
 cases b with
 |true=>have:=a rfl;rw[za h]at this;exact this
 |false=>have:=hf rfl;rw[za h]at this;exact this
end
section
variable (P:Program) (hn:List Nat) (N:Nat) (ops:Array Oper) (Q:nD->St->Prop) (o:Oper) (rest:List Oper) (acc:nD) (st:St) (K:List Nat)
def yK(x:Option cK):Prop:=iW x (λe=>(e.2.all λa=>K.contains a.1)=true/\kS P hn N ops Q rest (acc++[(e.2.map (·.1),K)]) (st.put o.dst e.1 e.2))
def yC(g:FuncId)(b:List Arg)(ks:List Nat)(a:List (Nat×Blk))(hin:List (List PV)):Prop:=xR P g b hin λhout res=>yK P hn N ops Q o rest acc st K (lF (bQ K st.h) o.dst ks a hout res)
def Lz(g:FuncId)(b:List Arg)(ks:List Nat)(a:List (Nat×Blk)):Bool->Option (List (List PV))->Prop
 |false,some hin=>yC P hn N ops Q o rest acc st K g b ks a hin
 |_,_=>False
def JW(g:FuncId):Option (List Arg×List Nat×List (Nat×Blk))->Prop
 |some (as,ks,W0)=>Lz P hn N ops Q o rest acc st K g as ks W0 (W0.any λa=>ks.contains a.1) (lW (bQ K st.h) ks)
 |none=>False
def Cp(args:List AV):Option (FuncId×List AV×List AV)->Prop
 |some (g,first,caps)=>JW P hn N ops Q o rest acc st K g (jy (bQ K st.h) (first++args++caps) [])
 |none=>False
def yO:Prop:=match o.op with
 |.call c=>match c.callee with
  |.value f=>Cp P hn N ops Q o rest acc st K (c.args.toList.map st.ev) (bX (st.ev f))
  |.invoke r name=>Cp P hn N ops Q o rest acc st K (c.args.toList.map st.ev) (bX (pF P name (st.ev r)))
  |_=>yK P hn N ops Q o rest acc st K (eP P hn o st.ev (bQ K st.h))
 |_=>yK P hn N ops Q o rest acc st K (eP P hn o st.ev (bQ K st.h))
def yB(_:Nat)(a:Bool)(b:Bool):Prop:=if b=a then yO P hn N ops Q o rest acc st (lX o st.ev st.h)else kS P hn N ops Q rest (acc++[([],[])]) (st.put o.dst (.pv (.val (.tuple #[]))) [])
def yG:Option (Option (Nat×Bool×Bool))->Prop
 |some none=>yO P hn N ops Q o rest acc st (lX o st.ev st.h)
 |some (some (d,b,want))=>yB P hn N ops Q o rest acc st d want b
 |none=>False
end
section
variable {P:Program} {hn:List Nat} {N:Nat} {ops:Array Oper} {Q:nD->St->Prop} {o:Oper} {rest:List Oper} {acc:nD} {st:St} {K:List Nat}
theorem Cq{c:AV}:Cp P hn N ops Q o rest acc st K args (bX c)=gH P c args o.dst (bQ K st.h) (λe=>(e.2.all λa=>K.contains a.1)=true/\kS P hn N ops Q rest (acc++[(e.2.map (·.1),K)]) (st.put o.dst e.1 e.2)):=by
 unfold gH
 cases bX c with
 |none=>rfl
 |some q=>
  obtain⟨g,first,caps⟩:=q;simp only[Cp]
  cases jy (bQ K st.h) (first++args++caps) []with
  |none=>rfl
  |some q=>
   obtain⟨as,ks,W0⟩:=q;simp only[JW]
   cases W0.any λa=>ks.contains a.1 with
   |true=>rfl
   |false=>
    cases lW (bQ K st.h) ks with
    |none=>rfl
    |some hin=>rfl
theorem JX:yO P hn N ops Q o rest acc st K=sL P hn o st.ev (bQ K st.h) (λe=>(e.2.all λd=>K.contains d.1)=true/\kS P hn N ops Q rest (acc++[(e.2.map (·.1),K)]) (st.put o.dst e.1 e.2)):=by
 obtain⟨a,op,i,pos,b,g⟩:=o
 cases op<;>try rfl
 rename_i c;obtain⟨callee,args,ts⟩:=c
 cases callee<;>try rfl
 all_goals first
  |(rename_i f name;show Cp P hn N ops Q _ rest acc st K (args.toList.map st.ev) (bX (pF P name (st.ev f)))=gH P (pF P name (st.ev f)) (args.toList.map st.ev) a (bQ K st.h) _;exact Cq)
  |(rename_i f;show Cp P hn N ops Q _ rest acc st K (args.toList.map st.ev) (bX (st.ev f))=gH P (st.ev f) (args.toList.map st.ev) a (bQ K st.h) _;exact Cq)
@[simp] theorem Sj:kS P hn N ops Q [] acc st=Q acc st:=rfl
@[simp] theorem Pd:kS P hn N ops Q (o::rest) acc st=(dm N o.dst=true/\yG P hn N ops Q o rest acc st (lg ops st.t o.guard)):=by
 simp only[kS]
 congr 1
 cases a:lg ops st.t o.guard with
 |none=>rfl
 |some g=>cases g with
  |none=>simp only[yG];rw[JX]
  |some q=>obtain⟨d,b,want⟩:=q;simp only[yG,yB,wW];rw[JX]
@[simp] theorem Sk:yG P hn N ops Q o rest acc st (some none)=yO P hn N ops Q o rest acc st (lX o st.ev st.h):=rfl
@[simp] theorem Sl:yG P hn N ops Q o rest acc st (some (some (d,b,want)))=yB P hn N ops Q o rest acc st d want b:=rfl
@[simp] theorem TB:yB P hn N ops Q o rest acc st d true true=yO P hn N ops Q o rest acc st (lX o st.ev st.h):=rfl
@[simp] theorem TC:yB P hn N ops Q o rest acc st d false false=yO P hn N ops Q o rest acc st (lX o st.ev st.h):=rfl
@[simp] theorem TD:yB P hn N ops Q o rest acc st d true false=kS P hn N ops Q rest (acc++[([],[])]) (st.put o.dst (.pv (.val (.tuple #[]))) []):=rfl
@[simp] theorem TE:yB P hn N ops Q o rest acc st d false true=kS P hn N ops Q rest (acc++[([],[])]) (st.put o.dst (.pv (.val (.tuple #[]))) []):=rfl
@[simp] theorem Sm{e:cK}:yK P hn N ops Q o rest acc st K (some e)=((e.2.all λa=>K.contains a.1)=true/\kS P hn N ops Q rest (acc++[(e.2.map (·.1),K)]) (st.put o.dst e.1 e.2)):=rfl
@[simp] theorem Pe:Cp P hn N ops Q o rest acc st K args (some (g,first,caps))=JW P hn N ops Q o rest acc st K g (jy (bQ K st.h) (first++args++caps) []):=rfl
@[simp] theorem Pf:JW P hn N ops Q o rest acc st K g (some (as,ks,W0))=Lz P hn N ops Q o rest acc st K g as ks W0 (W0.any λa=>ks.contains a.1) (lW (bQ K st.h) ks):=rfl
@[simp] theorem Pg:Lz P hn N ops Q o rest acc st K g as ks W0 false (some hin)=yC P hn N ops Q o rest acc st K g as ks W0 hin:=rfl
attribute [simp] yO
theorem tK(h:aP P g as hin hout res)(a:yK P hn N ops Q o rest acc st K (lF (bQ K st.h) o.dst ks W0 hout res)):
 yC P hn N ops Q o rest acc st K g as ks W0 hin:=⟨hout,res,h,a⟩
theorem Ia(h:st.t d=.pv (.val (.bool b)))(a:b=true->yB P hn N ops Q o rest acc (st.lit d true) d want true)(hf:b=false->yB P hn N ops Q o rest acc (st.lit d false) d want false):
 yB P hn N ops Q o rest acc st d want b:=by
 cases b with
 |true=>have:=a rfl;rw[za h]at this;exact this
 |false=>have:=hf rfl;rw[za h]at this;exact this
end
attribute [simp] zY pF
attribute [simp] lc mF xM wc zU uU yP qq JQ ld tu zV zW wh Gw Eg JR HU HV B1 B0 Fe wq Em JT GK aH XV.key
attribute [simp] B6 qA Ff
attribute [simp] BJ yU wk wm xP
attribute [simp] yT tA qw mM yV B4 xQ B5
attribute [simp] St.lit dm lg eP St.ev St.put ai im AV.cells PV.cells Value.cells oM uT TK.isAgg fY yN sG fF dD kQ
 sI yS tx wi wj np bX jy lW jS lF frz sg pE zT oL qK kI Fc v9 B2 me nk o8 kR uS pN jx
 we df oN sH tv qu wg qv Fd Gv fZ tw yQ BI yR B3 uV kL mh jf qS au bw bn Ls v8 lX El Op.operands Call.operands
section
variable {C:Cx} {Q:Exit->St->Prop} {st:St} {x y:Code} {c:Operand}
def tM(C:Cx)(x y:Code)(Q:Exit->St->Prop)(st:St):AV->Prop
 |.pv (.val (.bool b))=>(b=true->WP C x Q st)/\(b=false->WP C y Q st)
 |_=>False
theorem DY(a:b=true->WP C x Q st)(hf:b=false->WP C y Q st):tM C x y Q st (.pv (.val (.bool b))):=⟨a,hf⟩
@[simp] theorem NV:tM C x y Q st (.pv (.val (.bool true)))=WP C x Q st:=by simp[tM]
@[simp] theorem NK:tM C x y Q st (.pv (.val (.bool false)))=WP C y Q st:=by simp[tM]
theorem WP.cond'(h:tM C x y Q st (st.ev c)):WP C (.cond c x y) Q st:=by
 cases a:st.ev c with
 |pv p=>cases p with
  |val v=>cases v with
   |bool b=>rw[a]at h;exact WP.cond a h.1 h.2
   |_=>rw[a]at h;exact h.elim
  |_=>rw[a]at h;exact h.elim
 |_=>rw[a]at h;exact h.elim
end
section
variable {C:Cx} {Q:Exit->St->Prop} {st:St}
def BK(ks:List Nat)(J:St->Prop)(Q:Exit->St->Prop):Exit->St->Prop
 |.normal,st=>J (st.kill ks)
 |e,st=>Q e st
@[simp] theorem LC{J:St->Prop}:BK ks J Q .normal st=J (st.kill ks):=rfl
@[simp] theorem Ot{J:St->Prop}:BK ks J Q .ret st=Q .ret st:=rfl
@[simp] theorem NW{J:St->Prop}:BK ks J Q (.exit i) st=Q (.exit i) st:=rfl
theorem WP.loopN(ks:List Nat)(N:Nat)(I:Nat->St->Prop)(r:I 0 (st.kill ks))
 (round:∀i st,i<=N->I i st->WP C c (BK ks (λa=>i<N/\I (i+1) a) Q) st):WP C (.loop c) Q st:=by
 classical
 refine WP.loop ks (λst=>∃i,i<=N/\I i st) (λst=>N-(if h:∃i,i<=N/\I i st/\∀j,j<=N->I j st->j<=i then h.choose else 0)) ⟨0,UR _,r⟩ ?_;intro st ⟨s,p,n⟩
 have l:∃i,i<=N/\I i st/\∀j,j<=N->I j st->j<=i:=by
  have:∀d i,N-i<=d->i<=N->I i st->∃i,i<=N/\I i st/\∀j,j<=N->I j st->j<=i:=by
   intro d
   induction d with
   |zero=>intro i hd hi g;exact⟨i,hi,g,λj k _=>by omega⟩
   |succ d ih=>
    intro i hd hi g;by_cases h:∃j,j<=N/\I j st/\i<j
    .obtain⟨j,k,b,o⟩:=h;exact ih j (by omega) k b
    .exact⟨i,hi,g,λj k b=>Nat.le_of_not_lt (λf=>h ⟨j,k,b,f⟩)⟩
  exact this N s (by omega) p n
 have q:=l.choose_spec;refine WP.mono (round _ st q.1 q.2.1) ?_;intro e a hq
 cases e with
 |normal=>
  obtain⟨f,g⟩:=hq;refine⟨⟨_,f,g⟩,?_⟩
  have m:∃i,i<=N/\I i (a.kill ks)/\∀j,j<=N->I j (a.kill ks)->j<=i:=by
   have:∀d i,N-i<=d->i<=N->I i (a.kill ks)->∃i,i<=N/\I i (a.kill ks)/\∀j,j<=N->I j (a.kill ks)->j<=i:=by
    intro d
    induction d with
    |zero=>intro i hd hi g;exact⟨i,hi,g,λj k _=>by omega⟩
    |succ d ih=>
     intro i hd hi g;by_cases h:∃j,j<=N/\I j (a.kill ks)/\i<j
     .obtain⟨j,k,b,o⟩:=h;exact ih j (by omega) k b
     .exact⟨i,hi,g,λj k b=>Nat.le_of_not_lt (λf=>h ⟨j,k,b,f⟩)⟩
   exact this N _ (by omega) f g
  have h1:=m.choose_spec.2.2 _ f g;rw[dif_pos m,dif_pos l];omega
 |_=>exact hq
end
attribute [simp] Value.oneCell'
def Arg.isPv:Arg->Bool
 |.pv _=>true
 |.bx _=>false
theorem Kx(hf:P.funcs[f]?=some fn)(g:fn.body=some c)(a:da P f=true){args:List Arg}(b:args.length<=fn.ntmps)(e:args.all Arg.isPv=true)
 (h:∀C:Cx,C.P=P->C.N=fn.ntmps->WP C c (GH P fn.results.toList [] res) (qS args [])):aP P f args [] [] res:=by
 refine mV hf g a b rfl (λi j d=>?_) h;have:=TP.1 e _ (Is d);simp[Arg.isPv]at this
@[simp] theorem Sn(hin:List (List PV))(i:Nat):tG hin (pk i)=(hin[i]?).map (λa=>.box (a.map .pv) false false):=by
 rw[y9,TQ (by unfold pk;omega),show pk i-1000000=i by unfold pk;omega];cases hin[i]?<;>rfl
@[simp] theorem Ou(hin:List (List PV))(h:k<1000000):tG hin k=none:=by rw[y9,T8 h]
@[simp] theorem SA(i j:Nat):(pk i=pk j)=(i=j):=by unfold pk;simp
@[simp] theorem TF(h:n<1000000):(pk i=n)=False:=by unfold pk;simp;omega
@[simp] theorem TG(h:n<1000000):(n=pk i)=False:=by unfold pk;simp;omega
@[simp] theorem Ov{F:Nat->List PV->Prop}:(∀(i:Nat)(a:List PV),([]:List (List PV))[i]?=some a->F i a)=True:=by simp
@[simp] theorem Ow{a:List PV}{F:Nat->List PV->Prop}:(∀(i:Nat)(b:List PV),[a][i]?=some b->F i b)=F 0 a:=by
 refine propext ⟨λh=>h 0 a rfl,λh i b hi=>?_⟩
 cases i with
 |zero=>simp at hi;subst hi;exact h
 |succ i=>simp at hi
theorem jA:ak P Go.program=some P:=rfl
theorem jB{d:TypeDesc}(h:P.underlying t=some d):ak P (underlying t)=some d:=by
 unfold underlying;rw[ah,jA,Ud,h];rfl
theorem AY(d:Nat)(t:TypeId)(xs ys:Array Value)(c:P.underlying t=some (.struct (P.fieldsOf t)))(hp:P.stoodInHeld t=false):
 ak P (Op.equalIn (d+1) t (.agg xs) (.agg ys))=ak P (Op.eqFields d xs ys (P.fieldsOf t).toList):=by
 simp only[Op.equalIn,ah,jB c,Ud,jA,hp,T5,Uf];rw[<-Array.forIn_toList];generalize(P.fieldsOf t).toList=fs;clear c
 induction fs with
 |nil=>simp[Op.eqFields];rfl
 |cons f fs ih=>
  simp only[List.forIn_cons,Op.eqFields,ah];by_cases hn:f.name≠ "_"
  .rw[T8 hn,T8 hn]
   simp only[ah]
   cases ak P (part f.type xs f.offset)with
   |none=>rfl
   |some a=>
    simp only[Ud]
    cases ak P (part f.type ys f.offset)with
    |none=>rfl
    |some b=>
     simp only[Ud]
     cases ak P (Op.equalIn d f.type a b)with
     |none=>rfl
     |some r=>
      cases r
      .simp only[Ud,WI,Ul,dP]
      .simp only[Ud,VB,T5,Uf,dP]
       exact ih
  .rw[TQ hn,TQ hn]
   simp only[dP,Ud];exact ih
theorem ve(d:Nat)(t:TypeId)(k c:IntKind)(a b:Int)(h:P.underlying t=some (.int c)):ak P (Op.equalIn (d+1) t (.int k a) (.int k b))=some (a==b):=by
 simp only[Op.equalIn,ah,jB h,Ud];rw[T8 trivial];rfl
theorem wt{f:Field}{fs:List Field}{a b:Value}{r c:Bool}(hn:f.name≠ "_")(e:ak P (part f.type xs f.offset)=some a)(g:ak P (part f.type ys f.offset)=some b)
 (i:ak P (Op.equalIn d f.type a b)=some r)(j:ak P (Op.eqFields d xs ys fs)=some c):ak P (Op.eqFields d xs ys (f::fs))=some (r&&c):=by
 simp only[Op.eqFields];rw[T8 hn];simp only[ah,e,g,i,Ud];cases r
 .simp;rfl
 .simp[j]
theorem GN:ak P (Op.eqFields d xs ys [])=some true:=rfl
theorem zb{x y:Operand}(a:o.op=.binOp .neq t x y t')(c:ρ x=.pv (.val (.agg xs)))(d:ρ y=.pv (.val (.agg ys)))
 (f:P.eqGuardType P.depth t=false)(h:ak P (Op.equal t (.agg xs) (.agg ys))=some b):bz P o ρ=some (.pv (.val (.bool !b)),[]):=by
 refine d7 (by rw[a];simp[Op.operands,c,d,eZ]) ?_;unfold execOp;rw[a];simp only[(bG c).2,(bG d).2]
 have h1:ak P (eqGuard .neq t x y (.agg xs) (.agg ys))=some ():=by
  unfold eqGuard;simp only[VB,T5,Uf,ah,jA,Ud,f,WI,Ul];rfl
 have e:ak P (binOp .neq t (.agg xs) (.agg ys))=some (.bool !b):=by
  simp only[binOp,ah,h,Ud];rfl
 simp only[ah,h1,e,Ud];rfl
theorem zd{x y:Operand}(a:o.op=.binOp .eql t x y t')(c:ρ x=.pv (.val (.agg xs)))(d:ρ y=.pv (.val (.agg ys)))
 (f:P.eqGuardType P.depth t=false)(h:ak P (Op.equal t (.agg xs) (.agg ys))=some b):bz P o ρ=some (.pv (.val (.bool b)),[]):=by
 refine d7 (by rw[a];simp[Op.operands,c,d,eZ]) ?_;unfold execOp;rw[a];simp only[(bG c).2,(bG d).2]
 have h1:ak P (eqGuard .eql t x y (.agg xs) (.agg ys))=some ():=by
  unfold eqGuard;simp only[VB,T5,Uf,ah,jA,Ud,f,WI,Ul];rfl
 have e:ak P (binOp .eql t (.agg xs) (.agg ys))=some (.bool b):=by
  simp only[binOp,ah,h,Ud];rfl
 simp only[ah,h1,e,Ud];rfl
class Sp(G:Prop)(H:outParam Prop):Prop where
 h:H->G
class Ss(G:Prop)(H:outParam Prop):Prop where
 h:H->G
class Sb(G:Prop)(A B D:outParam Prop):Prop where
 h:A->B->D->G
class Sc(G:Prop)(P:outParam Program)(g:outParam FuncId)(as:outParam (List Arg))(hin:outParam (List (List PV)))(F:outParam (List (List PV)->RV->Prop)):Prop where
 h:∀{hout res},aP P g as hin hout res->F hout res->G
section
variable {C:Cx} {Q:Exit->St->Prop} {st:St} {x y c:Code} {id:Nat} {ops:Array Oper}
instance:Sp (WP C (.seq x y) Q st) (WP C x (Ch C y Q) st):=⟨WP.seq⟩
instance:Sp (WP C (.block id c) Q st) (WP C c (rH id Q) st):=⟨WP.block⟩
instance:Ss (WP C (.region id ops false) Q st) (dK C.P [] C.N ops (Q .normal) ops.toList st):=⟨WP.region⟩
instance{o:Operand}:Ss (WP C (.cond o x y) Q st) (tM C x y Q st (st.ev o)):=⟨WP.cond'⟩
instance:Ss (WP C .skip Q st) (Q .normal st):=⟨WP.skip⟩
instance:Ss (WP C .ret Q st) (Q .ret st):=⟨WP.ret⟩
instance:Ss (WP C (.exit id) Q st) (Q (.exit id) st):=⟨WP.exit⟩
theorem Wh(hn:List Nat)(h:dK C.P hn C.N ops (Q .normal) ops.toList st):WP C (.region id ops false) Q st:=WP.region h
theorem Wi(hn:List Nat)(h:kS C.P hn C.N ops (λacc st=>jz (jX ops.toList []) acc=true/\Q .normal st) ops.toList [] st)(b:C.P.follows .mixedOrders=true:=by rw[hP];kernel_rfl)(a:jY ops=true:=by kernel_rfl):WP C (.region id ops true) Q st:=WP.draw b a h
theorem Wd(h:kS C.P [] C.N ops (λacc st=>jz (jX ops.toList []) acc=true/\Q .normal st) ops.toList [] st)(b:C.P.follows .mixedOrders=true:=by rw[hP];kernel_rfl)(a:jY ops=true:=by kernel_rfl):WP C (.region id ops true) Q st:=WP.draw b a h
end
section
variable {P:Program} {hn:List Nat} {N:Nat} {ops:Array Oper} {o:Oper} {rest:List Oper} {st:St} {d:Nat} {want b:Bool} {g:FuncId} {as:List Arg} {ks:List Nat} {W0:List (Nat×Blk)} {hin:List (List PV)}
instance{Q:St->Prop}:Sb (xB P hn N ops Q o rest st d want b) (st.t d=.pv (.val (.bool b))) (b=true->xB P hn N ops Q o rest (st.lit d true) d want true) (b=false->xB P hn N ops Q o rest (st.lit d false) d want false):=⟨fV⟩
instance{Q:nD->St->Prop}{acc:nD}:Sb (yB P hn N ops Q o rest acc st d want b) (st.t d=.pv (.val (.bool b))) (b=true->yB P hn N ops Q o rest acc (st.lit d true) d want true) (b=false->yB P hn N ops Q o rest acc (st.lit d false) d want false):=⟨Ia⟩
instance{Q:St->Prop}:Sc (xC P hn N ops Q o rest st g as ks W0 hin) P g as hin (λhout res=>xK P hn N ops Q o rest st (lF st.h o.dst ks W0 hout res)):=⟨ll⟩
instance{Q:nD->St->Prop}{acc:nD}{K:List Nat}:Sc (yC P hn N ops Q o rest acc st K g as ks W0 hin) P g as hin (λhout res=>yK P hn N ops Q o rest acc st K (lF (bQ K st.h) o.dst ks W0 hout res)):=⟨tK⟩
end
theorem Xx{p:Prop}(h:False:=by first|(clear hP hN;simp_all;done)|(simp at *;omega)):p:=h.elim
theorem Xy{p:Prop}(h:False:=by simp at hgd;first|done|omega):p:=h.elim
theorem Ya{a:List Nat}{acc:nD}{b:Prop}(h:b)(k:jz a acc=true:=by kernel_rfl):jz a acc=true/\b:=⟨k,h⟩
theorem Dp{e g m:String}{a3 a4 i:Array TypeId}{j o:Nat}{k l:Bool}{p:Option Nat}{b6:List Departure}{q:Array String}(hf:P.funcs[f]?=some fn){args:List Arg}(h:∀C:Cx,C.P=P->C.N=n->WP C c (GH P rs [] res) (qS args []))
 (d:fn=⟨e,g,a3,a4,i,j,n,rs.toArray,some c,k,l,m,o,p,b6,q⟩:=by rfl)(a:da P f=true:=by kernel_rfl)(b:args.length<=n:=by exact of_decide_eq_true (by kernel_rfl))(r:args.all Arg.isPv=true:=by rfl):aP P f args [] [] res:=by
 subst d;exact Kx hf rfl a b r h
abbrev X2:=@eK
abbrev Xd:=@DY
end Go.Ab
