/- The contracts and facts that the laws of this seat need, in one text (AbB). -/
import Derived.Test.YtdbgcnplnhmjgaaGreatW1
import Derived.MapKept
import Derived.Laws.StructEq
set_option linter.all false
set_option maxRecDepth 10000
set_option maxHeartbeats 16000000
namespace Go.Ab
open IntKind (i64)
variable {C:Cx}{F:Bool->St->Prop}{K:cX->Prop}{L:Nat->Loc}{M M':Nat->Nat->Prop}{P:Program}{Q:Exit->St->Prop}{W W0:List (Nat×Blk)}{a:Act}{args caps first:List AV}{as:List Arg}{b want:Bool}{c y:Code}{cs xs ys:Array Value}{d i id j k n:Nat}{f g:FuncId}{fn:Func}{h:Hp}{hin hout:List (List PV)}{hn ks:List Nat}{ls:Nat->Bool}{name:String}{o:Oper}{op:BinOp}{ops:Array Oper}{p:PV}{res:RV}{rs:List ResultVar}{st:St}{t t':TypeId}{ti:TI}{ts:List TypeId}{u v:Value}{us:List Value}{w:World}{x:AV}{ρ ρ':Operand->AV}{σ:Operand->Value}
theorem mC{α:Type}{P:Program}:∀{s:Sem α}{a:α},ao P s=some a->∀w,s.run P w=.ok a w
 |.pure a,b,e,w=>by simp only[ao,T4]at e;subst e;rfl
 |.program k,b,e,w=>by simp only[ao]at e;exact mC (s:=k P) e w
 |.load _ _ _,_,e,_=>by simp[ao]at e
 |.store _ _ _ _,_,e,_=>by simp[ao]at e
 |.new _ _,_,e,_=>by simp[ao]at e
 |.shape _ _,_,e,_=>by simp[ao]at e
 |.freeze _ _ _,_,e,_=>by simp[ao]at e
 |.frozen _ _,_,e,_=>by simp[ao]at e
 |.getObj _ _,_,e,_=>by simp[ao]at e
 |.setObj _ _ _,_,e,_=>by simp[ao]at e
 |.choose _ _,_,e,_=>by simp[ao]at e
 |.sys _ _,_,e,_=>by simp[ao]at e
 |.mark _ _,_,e,_=>by simp[ao]at e
 |.halt _,_,e,_=>by simp[ao]at e
theorem rt(off:Nat):∀(l:List Value)(s:Nat)(arr:Array Value),off+s+l.length<=arr.size->
 ((l.zipIdx s).foldl (λcs(p:Value×Nat)=>cs.setIfInBounds (off+p.2) p.1) arr).toList=dn arr.toList (off+s) l
 |[],s,arr,_=>by simp[dn]
 |v::r,s,arr,h=>by
  simp only[List.zipIdx_cons,Vr];rw[rt off r (s+1) _ (by simp at h|-;omega)];simp only[Array.toList_setIfInBounds,dn,VF];have:=list_seg_step arr.toList (off+s) v r (by simp at h|-;omega);rw[<-Vx off s 1];rw[show off+s+(r.length+1)=off+s+(r.length+1) from rfl];exact this
section
variable {C:Cx} {L:Nat->Loc} {h1 h:Hp} {w:World} {M:Nat->Nat->Prop}
theorem tQ(place:Nat->Option (Nat×Nat)):∀{ps:List (Nat×List AV)}{vs:List (Nat×Value)}{cells f:List AV}{arr:Array Value},aG w M L h cells arr.toList->
 (ps.length=vs.length/\∀(q:Nat)(i:Nat) cs(m:Nat)(v:Value),ps[q]?=some (i,cs)->vs[q]?=some (m,v)->m=i/\aG w M L h cs v.cells.toList)->tJ place cells ps=some f->
 ∃k,Instr.fill place arr vs=some k/\aG w M L h f k.toList
 |[],vs,cells,f,arr,r,hp,e=>by
  simp only[tJ,T4]at e;subst e;have:vs=[]:=Uv (by have:=hp.1;simpa using this.symm);subst this;exact⟨arr,rfl,r⟩
 |(i,cs)::ps,vs,cells,f,arr,r,hp,e=>by
  cases vs with
  |nil=>exact absurd hp.1 (by simp)
  |cons iv vs=>
   obtain⟨m,v⟩:=iv;obtain⟨rfl,y⟩:=hp.2 0 i cs m v rfl rfl;simp only[tJ]at e;simp only[Instr.fill]
   cases l:place m with
   |none=>rw[l]at e;cases e
   |some os=>
    obtain⟨g,size⟩:=os;rw[l]at e;simp only at e|-;split at e
    .cases e
    .rename_i j
     have B:cs.length=v.cells.size:=by have:=y.1;simpa using this
     have A:cells.length=arr.size:=by have:=r.1;simpa using this
     have n:cs.length=size:=Classical.not_not.1 (λh=>j (.inl h));have o:¬g+cs.length>cells.length:=λh=>j (.inr h)
     have s:¬((v.cells.size≠size||g+v.cells.size>arr.size)=true):=by simp;omega
     simp only[TZ s]
     have u:(v.cells.zipIdx.foldl (λcs(p:Value×Nat)=>cs.setIfInBounds (g+p.2) p.1) arr).toList=dn arr.toList g v.cells.toList:=by
      have:=rt g v.cells.toList 0 arr (by simp;omega);rw[<-Array.foldl_toList,Array.toList_zipIdx];simpa using this
     refine tQ place (cells:=dn cells g cs) ?_ ⟨by have:=hp.1;simpa using this,λq a b c d h1 z=>hp.2 (q+1) a b c d (by simpa using h1) (by simpa using z)⟩ e;have x:=r.splice_ y g;rw[<-u]at x;exact x
theorem uM(hs:∀k b,h1 k=some b->h k=some b){ρ:Operand->AV}{σ:Operand->Value}:∀{ps:List (Nat×Operand)}{qs:List (Nat×List AV)},(∀x∈ps.map (·.2),RepA w M L h (ρ x) (σ x))->qS h1 ρ ps=some qs->
 qs.length=(ps.map λ(i,x)=>(i,σ x)).length/\∀(q:Nat)(i:Nat) cs(f:Nat)(v:Value),qs[q]?=some (i,cs)->(ps.map λ(i,x)=>(i,σ x))[q]?=some (f,v)->f=i/\aG w M L h cs v.cells.toList
 |[],qs,_,e=>by simp only[qS,T4]at e;subst e;exact⟨rfl,λq i cs f v h=>by simp at h⟩
 |(i,x)::ps,qs,g,e=>by
  simp only[qS]at e;split at e
  .rename_i cs r m n
   injection e with e;subst e;obtain⟨o,p⟩:=uM hs (λy j=>g y (by simp at j|-;exact .inr j)) n;refine⟨by simpa using o,λq a c l v hq d=>?_⟩
   cases q with
   |zero=>
    simp at hq d;obtain⟨rfl,rfl⟩:=hq;obtain⟨rfl,rfl⟩:=d;exact⟨rfl,pZ hs (g x (by simp)) m⟩
   |succ q=>exact p q a c l v (by simpa using hq) (by simpa using d)
  .cases e
theorem y9{P:Program}(w:World):∀(fs:List Field),(∀f∈fs,∃i,P.info? f.type=some i)->
 (fs.mapM (m:=Sem) λf=>do pure (f.offset,<-sizeOf f.type)).run P w=.ok (fs.map λf=>(f.offset,oC P f.type)) w
 |[],_=>by simp
 |f::fs,hf=>by
  obtain⟨i,hi⟩:=hf f (by simp);simp only[List.mapM_cons,Sem.run_bind,gx hi,Result.andThen_ok,Sem.run_pure,y9 w fs (λg a=>hf g (by simp[a]))];simp[oC,hi]
theorem Bv(K:ak C.P t=some ti){qs:List (Nat×List AV)}{vs:List (Nat×Value)}(hp:qs.length=vs.length/\∀(q:Nat)(i:Nat) cs(N:Nat)(v:Value),qs[q]?=some (i,cs)->vs[q]?=some (N,v)->N=i/\aG w M L h cs v.cells.toList)
 {v:AV}(e:wt ti qs=some v):∃r,(Instr.build t vs.toArray).run C.P w=.ok r w/\RepA w M L h v r:=by
 obtain⟨i,d,hi,hd,Q,S,b⟩:=ij K;have l:=y8 K;unfold wt at e;split at e
 .cases e
 .rename_i z I
  have F:i.zero=some z:=by rw[<-S];exact I
  have o:aG w M L h (z.cells.toList.map λv=>AV.pv (.val v)) z.cells.toList:=by
   refine⟨by simp,λq p u hp s=>?_⟩;simp only[T0,TX]at hp;obtain⟨y,R,rfl⟩:=hp;rw[R]at s;injection s with s;subst s;exact .pv (.val _)
  have c:(zeroValue t).run C.P w=.ok z w:=by simp[zeroValue,ni hi,F]
  split at e
  .rename_i fs a
   rw[b]at a;split at a
   .rename_i g
    injection a with a;simp only[TX]at e;obtain⟨cells,A,rfl⟩:=e;obtain⟨arr,D,E⟩:=tQ (arr:=z.cells) _ o hp A;refine⟨.agg arr,?_,?_⟩
    .have k:∀f∈g.toList,∃i,C.P.info? f.type=some i:=by
      unfold mz at l;rw[hd]at l;intro f hf;exact Ut.1 (TY.1 l f hf)
     have H:=y9 (P:=C.P) w g.toList k;simp only[Instr.build,Sem.run_bind,c,Result.andThen_ok,dL hd,Array.mapM_eq_mapM_toList,Sem.run_map,H]
     have m:(λ(x:Nat)=>(List.map (λf=>(f.offset,oC C.P f.type)) g.toList).toArray[x]?)=λ(i:Nat)=>fs[i]?:=by funext x;rw[<-a];simp
     simp only[m,D];rfl
    .have:=sI E
     simpa using this
   .cases a
   .split at a<;>cases a
   .cases a
  .rename_i n B a
   rw[b]at a;split at a
   .cases a
   .rename_i T O
    injection a with _ a;simp only[TX]at e;obtain⟨cells,A,rfl⟩:=e;obtain⟨arr,D,E⟩:=tQ (arr:=z.cells) _ o hp A;refine⟨.agg arr,?_,?_⟩
    .have k:∃j,C.P.info? O=some j:=by
      unfold mz at l;rw[hd]at l;exact Ut.1 l
     obtain⟨j,J⟩:=k
     have G:j.size=B:=by rw[<-a];simp[oC,J]
     simp only[Instr.build,Sem.run_bind,c,Result.andThen_ok,dL hd,gx J,G,D];rfl
    .have:=sI E
     simpa using this
   .split at a<;>cases a
   .cases a
  .cases e
theorem xh(hs:∀k b,h1 k=some b->h k=some b){e sz fz:Nat}{xs:List PV}(f:h k=some (.row e sz xs fz))(a:sY h1 k n=true):xs.length=n:=by
 unfold sY at a;split at a
 .rename_i j g i d c
  have:=hs _ _ c;rw[f]at this;injection this with this;injection this with _ _ a3 _;subst a3;simpa using a
 .cases a
theorem wY(R:ak C.P t=some ti){v:AV}{f:Nat}(hs:∀k b,h1 k=some b->h k=some b)(K:RepA w M L h x u)(e:pd ti x f h1=some v):
 ∃r,(Instr.fieldAt t u f).run C.P w=.ok r w/\RepA w M L h v r:=by
 obtain⟨i,d,hi,hd,Q,V,m⟩:=ij R;unfold pd at e;split at e
 .rename_i fs a
  rw[m]at a;split at a
  .rename_i G
   injection a with a;split at e
   .rename_i o s hf
    split at e
    .cases e
    .rename_i O
     rw[<-a]at hf;simp only[T0,TX,Ue]at hf;obtain⟨p,H,rfl,g⟩:=hf
     have l:∃j,C.P.info? p.type=some j/\j.size≠0:=by
      unfold oC at g
      cases E:C.P.info? p.type with
      |none=>rw[E]at g;simp at g;omega
      |some j=>rw[E]at g;simp at g;exact⟨j,rfl,by omega⟩
     obtain⟨j,E,I⟩:=l
     have A:G[f]?=some p:=by rw[<-UN];exact H
     have c:∀b q,(Instr.fieldAt t (.pointer (some ⟨b,q,none⟩)) f).run C.P w=.ok (.pointer (some ⟨b,q+p.offset,none⟩)) w:=by
      intro b q;simp only[Instr.fieldAt,Sem.run_bind,dL hd,Result.andThen_ok,A,Instr.sureAddr,Sem.run_pure,fieldPlace,gx E,I,Ud,fh]
     split at e
     .injection e with e;subst e
      cases K with
      |ptr F=>exact⟨_,c _ _,.ptr F⟩
     .rename_i y D
      injection e with e;subst e
      cases K with
      |pv J=>cases J with
       |rptr _ b T _ U N J=>exact⟨_,c _ _,.pv (by rw[Vx];exact .rptr y b T (D+p.offset) U N J)⟩
     .rename_i k n W D
      split at e
      .rename_i z
       injection e with e;subst e
       cases K with
       |eptr F hn S=>
        obtain⟨B,rfl⟩:=S (xh hs F z);exact⟨_,c _ _,.eptr F hn (λ_=>⟨B,by rw[Vx]⟩)⟩
      .cases e
     .cases e
   .cases e
  .cases a
  .split at a<;>cases a
  .cases a
 .cases e
end
section
variable {C:Cx} {L:Nat->Loc} {h1 h:Hp} {w:World}
theorem wZ(hs:∀k b,h1 k=some b->h k=some b)(X:ak C.P t=some ti){v:AV}{n:Int}{kk:IntKind}(O:RepA w M L h x u)
 (I:∀k e S xs fz,h k=some (.row e S xs fz)->(L k).isNil=true->xs=[])(e:pf ti x n h1=some v):
 ∃r,(Instr.indexAt t u (.int kk n)).run C.P w=.ok r w/\RepA w M L h v r:=by
 obtain⟨i,d,hi,hd,J,hz,U⟩:=ij X;unfold pf at e;split at e
 .rename_i et q eb ez s
  obtain⟨N,jt,A,rfl,rfl,_⟩:=dV X s
  have a:∀b o len cap,0<=n->n.toNat<len->(Instr.indexAt t (.slice (some ⟨b,o,none⟩) len cap) (.int kk n)).run C.P w=.ok (.pointer (some ⟨b,o+n.toNat*jt.size,none⟩)) w:=by
   intro b o len cap B l;have g:0<=n/\n<(len:Int):=⟨B,by omega⟩;simp only[Instr.indexAt,asIntOf,Sem.run_bind,Sem.run_pure,Result.andThen_ok,dL N,g,and_self,Ui,gx A,fh]
  split at e
  .rename_i xs
   split at e
   .rename_i B
    split at e
    .rename_i y Q
     split at e
     .rename_i Z
      injection e with e;subst e;have l:n.toNat<xs.length:=(th.1 Q).1
      cases O with
      |pv E=>cases E with
       |sl0=>simp at Q
       |sl _ b o c S uu ar J g E=>
        refine⟨_,a b o _ c B l,.pv ?_⟩
        have K:S=jt.size:=by rw[<-J _ y Q];exact Z
        subst K;have:=Rep.rptr (w:=w) (M:=M) y b (o+n.toNat*jt.size) 0 (λj=>uu n.toNat j) (λj p A=>by have:=g _ y j p Q A;rwa [<-Vx]at this) (λj p A=>E _ y j p Q A);exact this
     .cases e
    .cases e
   .cases e
  .rename_i k m
   split at e
   .rename_i e0 S xs fz s
    split at e
    .rename_i g
     obtain⟨W,F,B,l⟩:=g;injection e with e;subst e;have D:=hs _ _ s
     cases O with
     |arr z a5 Y=>
      rw[D]at z;injection z with z;injection z with a1 a2 a3 a4;subst a1;subst a2;subst a3;subst a4;rw[Y W]
      cases f:(L k).isNil with
      |true=>rw[I k _ _ _ _ D f]at W;simp at W;omega
      |false=>
       simp only[Loc.slice,f,T3,Ud];refine⟨_,a _ _ _ _ B l,.eptr D (by omega) (λ_=>⟨f,?_⟩)⟩;rw[F];simp
    .cases e
   .cases e
  .cases e
 .rename_i len q s
  split at e
  .rename_i g
   obtain⟨B,l⟩:=g
   have G:∃R,d=.array len R/\oC C.P R=q:=by
    grind
   obtain⟨R,rfl,F⟩:=G
   have V:∃j,C.P.info? R=some j:=by
    have:=y8 X
    grind [mz,Option.isSome_iff_exists]
   obtain⟨j,A⟩:=V
   have T:j.size=q:=by rw[<-F];simp[oC,A]
   have a:∀b o,(Instr.indexAt t (.pointer (some ⟨b,o,none⟩)) (.int kk n)).run C.P w=.ok (.pointer (some ⟨b,o+n.toNat*q,none⟩)) w:=by
    intro b o;have g:0<=n/\n<(len:Int):=⟨B,by omega⟩;simp only[Instr.indexAt,asIntOf,Sem.run_bind,Sem.run_pure,Result.andThen_ok,dL hd,Instr.sureAddr,g,and_self,Ui,gx A,fh,T]
   split at e
   .injection e with e;subst e
    cases O with
    |ptr s=>exact⟨_,a _ _,.ptr s⟩
   .rename_i y ad
    injection e with e;subst e
    cases O with
    |pv E=>cases E with
     |rptr _ b o' _ uu g E=>exact⟨_,a _ _,.pv (by rw[Vx];exact .rptr y b o' _ uu g E)⟩
   .rename_i k m j' ad
    split at e
    .rename_i H
     injection e with e;subst e
     cases O with
     |eptr s hn Y=>
      obtain⟨f,rfl⟩:=Y (xh hs s H);exact⟨_,a _ _,.eptr s hn (λ_=>⟨f,by rw[Vx]⟩)⟩
    .cases e
   .cases e
  .cases e
 .cases e
theorem Ac(hs:∀k b,h1 k=some b->h k=some b)(D:ak C.P t=some ti){v:AV}{n:Int}{kk:IntKind}(E:RepA w M L h x u)(e:tH ti x n h1=some v):
 ∃r,(Instr.indexAt t u (.int kk n)).run C.P w=.ok r w/\RepA w M L h v r:=by
 unfold tH at e;split at e
 .rename_i K I N k m U s
  obtain⟨a,F,q,i,_,_⟩:=dV D s;split at e
  .rename_i g
   injection e with e;subst e
   cases E with
   |ext j=>cases j with
    |barr Q d=>
     have p:0<=n/\n<(m:Int):=⟨g.1,by omega⟩;refine⟨.pointer (some ⟨(L k).b,n.toNat,none⟩),?_,.ptr d⟩;simp only[Instr.indexAt,asIntOf,Sem.run_bind,Sem.run_pure,Result.andThen_ok,dL a,p,and_self,Ui,gx q,fh,i,VG,UY]
  .cases e
 .rename_i K J I N k o m t9 s
  obtain⟨a,F,q,i,_,_⟩:=dV D s;split at e
  .rename_i e0 T xs V y
   split at e
   .rename_i g
    obtain⟨G,H,B,l⟩:=g;injection e with e;subst e;have d:=hs _ _ y
    cases E with
    |ext j=>cases j with
     |suf _ f R z S=>
      rw[d]at f;injection f with f;injection f with _ a2 a3 _;subst a2;subst a3;obtain⟨A,c,rfl,O⟩:=S G;rcases O with⟨g1,rfl,g3⟩|⟨g1,_,_⟩
      .have p:0<=n/\n<(m:Int):=⟨B,(Int.toNat_lt B).1 l⟩
       refine⟨.pointer (some ⟨(L k).b,o*T+n.toNat*F.size,none⟩),?_,.eptr d z (λ_=>⟨g1,?_⟩)⟩
       .simp only[Instr.indexAt,asIntOf,Sem.run_bind,Sem.run_pure,Result.andThen_ok,dL a,p,and_self,Ui,gx q,fh]
       .rw[i,<-H,UH,We]
      .rw[g1]at l;exact absurd l (Nat.not_lt_zero _)
   .cases e
  .cases e
 .cases e
theorem B5{x y:Option AV}{v:AV}(e:zX x y=some v):x=some v\/y=some v:=by
 cases x with
 |some a=>exact .inl e
 |none=>exact .inr e
theorem B6{x y:Option cX}{v:cX}(e:zY x y=some v):x=some v\/y=some v:=by
 cases x with
 |some a=>exact .inl e
 |none=>exact .inr e
theorem DJ(hs:∀k b,h1 k=some b->h k=some b){ty:TypeId}(m:ak C.P t=some ti){v:AV}(p:RepA w M L h x u)
 (H:∀k e F xs z,h k=some (.row e F xs z)->(L k).isNil=true->xs=[])(e:BA ti x h1=some v):
 ∃r,(Builtin.len_ #[t] ty #[u]).run C.P w=.ok r w/\RepA w M L h v r:=by
 unfold BA at e;split at e
 .rename_i s i q y xs f
  obtain⟨d,_⟩:=dV m f;injection e with e;subst e
  have:∃A c,u=.slice A xs.length c:=by
   cases p with
   |pv E=>cases E with
    |sl0 a c=>exact⟨a,c,rfl⟩
    |sl _ b o c=>exact⟨_,c,rfl⟩
  obtain⟨A,c,rfl⟩:=this;exact⟨_,by simp[Builtin.len_,dL d,goInt],.pv (.val _)⟩
 .rename_i s i q y n f
  obtain⟨d,_⟩:=dV m f;injection e with e;subst e
  cases p with
  |pv E=>cases E with
   |hd _ A c=>exact⟨_,by simp[Builtin.len_,dL d,goInt],.pv (.val _)⟩
 .rename_i s i q y k n f
  obtain⟨d,_⟩:=dV m f;split at e
  .rename_i e0 F xs z f
   split at e
   .rename_i G
    injection e with e;subst e;have l:=hs _ _ f
    have:∃A c,u=.slice A n c:=by
     cases p with
     |arr g D I=>
      grind [Loc.slice]
    obtain⟨A,c,rfl⟩:=this;exact⟨_,by simp[Builtin.len_,dL d,goInt],.pv (.val _)⟩
   .cases e
  .cases e
 .rename_i s i q y k n K f
  obtain⟨d,_⟩:=dV m f;injection e with e;subst e
  cases p with
  |ext j=>cases j with
   |barr _ _=>exact⟨_,by simp[Builtin.len_,dL d,goInt],.pv (.val _)⟩
 .rename_i s i q y k o n t9 f
  obtain⟨d,_⟩:=dV m f;split at e
  .rename_i e0 F xs z B
   split at e
   .rename_i G
    injection e with e;subst e;have l:=hs _ _ B
    cases p with
    |ext j=>cases j with
     |suf _ g D J I=>
      rw[l]at g;injection g with g;injection g with _ a2 a3 _;subst a2;subst a3;obtain⟨A,c,rfl,_⟩:=I G;exact⟨_,by simp[Builtin.len_,dL d,goInt],.pv (.val _)⟩
   .cases e
  .cases e
 .cases e
def Lj(ul:Option Value)(y:Nat):Sem Nat:=match ul with|some v=>Instr.sliceBound v y .sliceB|none=>pure 0
def Lk(uh:Option Value)(n c:Nat):Sem Nat:=match uh with|some v=>Instr.sliceBound v c .sliceAcap|none=>pure n
theorem uN(ht:ak C.P t=some ti){v:AV}(U:RepA w M L h x u){lo hi:Option AV}{ul uh:Option Value}
 (S:∀a,lo=some a->∃b,ul=some b/\RepA w M L h a b)(G:lo=none->ul=none)(R:∀a,hi=some a->∃b,uh=some b/\RepA w M L h a b)(D:hi=none->uh=none)
 (e:lU ti x lo hi=some v):
 ∃r,(Instr.sliceAt t u ul uh none).run C.P w=.ok r w/\RepA w M L h v r:=by
 unfold lU at e;split at e
 .rename_i et Y eb ez xs hk
  obtain⟨J,m,E,rfl,rfl,_⟩:=dV ht hk;simp only at e;split at e
  .rename_i l r g d
   split at e
   .rename_i hc
    obtain⟨V,W,c3,X⟩:=hc;injection e with e;subst e
    have Z:∃A c,u=.slice A xs.length c/\xs.length<=c:=by
     cases U with
     |pv d=>cases d with
      |sl0 a c=>exact⟨a,c,rfl,UO _⟩
      |sl _ b o c _ _ z=>exact⟨_,c,rfl,z⟩
    obtain⟨A,c,rfl,a1⟩:=Z
    have O:∀y,l<=y->(Lj ul y).run C.P w=.ok l w:=by
     intro y k
     cases lo with
     |none=>rw[G rfl];simp at g;subst g;rfl
     |some a=>
      obtain⟨b,rfl,q⟩:=S a rfl
      cases a with
      |pv p=>cases p with
       |val T=>cases T with
        |int kk n=>
         cases q with
         |pv q=>
          rw[aR q];simp only at g;split at g
          .rename_i N
           injection g with g;have:0<=n/\n<=(y:Int):=⟨N,by omega⟩;simp[Lj,Instr.sliceBound,asIntOf,this,g]
          .cases g
        |_=>simp at g
       |_=>simp at g
      |_=>simp at g
    have ar:(Lk uh xs.length c).run C.P w=.ok r w:=by
     cases hi with
     |none=>rw[D rfl];simp at d;subst d;rfl
     |some a=>
      obtain⟨b,rfl,q⟩:=R a rfl
      cases a with
      |pv p=>cases p with
       |val T=>cases T with
        |int kk n=>
         cases q with
         |pv q=>
          rw[aR q];simp only at d;split at d
          .rename_i N
           injection d with d;have:0<=n/\n<=(c:Int):=⟨N,by omega⟩;simp[Lk,Instr.sliceBound,asIntOf,this,d]
          .cases d
        |_=>simp at d
       |_=>simp at d
      |_=>simp at d
    refine⟨.slice (if c=l then A else A.map (·.add (l*m.size))) (r-l) (c-l),?_,?_⟩
    .have ad:=O r V
     have key:(Instr.sliceBounds true xs.length c ul uh none).run C.P w=.ok (l,r,c) w:=by
      unfold Instr.sliceBounds;cases uh<;>cases ul<;>simp_all[Lj,Lk]
     simp only[Instr.sliceAt,Sem.run_bind,dL J,Result.andThen_ok,Instr.slice,key,gx E,Sem.run_pure]
    .have F:((xs.take r).drop l).length=r-l:=by simp;omega
     refine .pv ?_;by_cases hz:r-l=0
     .have:(xs.take r).drop l=[]:=Uv (by omega)
      rw[this,hz];exact .sl0 _ _
     .cases U with
      |pv s=>cases s with
       |sl0=>simp at W;omega
       |sl _ b o _ sz uu a2 H B s=>
        have Q:¬c=l:=by omega
        rw[TZ Q]
        have I:sz=m.size:=by
         have K:0<xs.length:=by omega
         rw[<-H 0 xs[0] (an K)];have:=TY.1 X xs[0] (Ul K);simp[qg]at this;exact this.1
        subst I;simp only[UL,fh];rw[<-F]
        have f:∀(i:Nat) y,((xs.take r).drop l)[i]?=some y->xs[l+i]?=some y:=by
         intro i y k;rw[UT,Ur]at k;split at k
         .exact k
         .cases k
        refine .sl _ b (o+l*m.size) _ m.size (λi j=>uu (l+i) j) (by omega) (λi y k=>H _ y (f i y k)) (λi y j p k E=>?_) (λi y j p k E=>s _ y j p (f i y k) E);have:=B _ y j p (f i y k) E;rw[UH]at this;rw[show o+l*m.size+(i*m.size+j)=o+(l*m.size+i*m.size+j) from by omega];exact this
   .cases e
  .cases e
 .cases e
theorem Fe{a:Bool}(b:MemL C L h w)(hf:db h1 h)(d:RepA w (ae C L h) L h x u)(e:E6 a h1 x=some (p,W)):
 aM C L h w L (ai h W) w/\Rep w (ae C L (ai h W)) p u/\db h1 (ai h W):=by
 unfold E6 at e;split at e
 .injection e with e;injection e with e1 e2;subst e1;subst e2
  cases d with
  |pv c=>exact⟨aM.refl b,c,hf⟩
 grind [nh]
theorem uO{ρ:Operand->AV}{σ:Operand->Value}{b:Nat}{m:Bool}:∀{ps:List (Nat×Operand)}{k:Nat}{h:Hp}(_:MemL C L h w)(_:db h1 h)(_:∀x∈ps.map (·.2),RepA w (ae C L h) L h (ρ x) (σ x)){xs:List PV}{W:List (Nat×Blk)},
 qT h1 ρ b m k ps=some (xs,W)->aM C L h w L (ai h W) w/\db h1 (ai h W)/\xs.length=ps.length/\(∀x∈xs,x.cells.length=b)/\
  (∀(q:Nat)(i:Nat)(v:Value),(ps.map λ(i,x)=>(i,σ x))[q]?=some (i,v)->i=k+q/\∃p,xs[q]?=some p/\Rep w (ae C L (ai h W)) p v)
 |[],k,h,f,hf,j,xs,W,e=>by
  simp only[qT,T4,Ue]at e;obtain⟨rfl,rfl⟩:=e;exact⟨aM.refl f,hf,rfl,by simp,λq i v h=>by simp at h⟩
 |(i,x)::ps,k,h,f,hf,j,xs,W,e=>by
  simp only[qT]at e;split at e
  .rename_i d
   subst d;split at e
   .rename_i p I H J D E
    split at e
    .rename_i g
     injection e with e;injection e with ea eb;subst ea;subst eb;obtain⟨c,o,a3⟩:=Fe f hf (j x (by simp)) D;obtain⟨n,r,s,u,z⟩:=uO c.1 a3 (λy a=>(j y (by simp at a|-;exact .inr a)).mono c.2.1 c.2.2) E;rw[cY];refine⟨c.trans n,r,by simp[s],?_,?_⟩
     .intro y a
      rcases Uq.1 a with rfl|a
      .exact g
      .exact u y a
     .intro q F v l
      cases q with
      |zero=>simp at l;obtain⟨rfl,rfl⟩:=l;exact⟨by omega,p,rfl,o.mono n.2.1⟩
      |succ q=>
       obtain⟨K,G,A,B⟩:=z q F v (by simpa using l);exact⟨by omega,G,by simpa using A,B⟩
    .cases e
   .cases e
  .cases e
theorem vm{c:Nat}:∀{vs:List (Nat×Value)}{k:Nat}{arr:Array Value},(∀(q:Nat) i v,vs[q]?=some (i,v)->i=k+q/\v.cells.size=c)->arr.size=(k+vs.length)*c->
 ∃d,Instr.fill (λi=>some (i*c,c)) arr vs=some d/\d.size=arr.size/\(∀q,q<k*c->d[q]?=arr[q]?)/\
  ∀(q:Nat) i v(j:Nat),vs[q]?=some (i,v)->j<c->d[(k+q)*c+j]?=v.cells[j]?
 |[],k,arr,_,o=>⟨arr,rfl,rfl,λ_ _=>rfl,λq i v j h=>by simp at h⟩
 |(i,v)::vs,k,arr,s,o=>by
  obtain⟨u,y⟩:=s 0 i v rfl
  obtain rfl:k=i:=by omega
  have x:k*c+c<=arr.size:=by rw[o];simp only[VF];rw[UH,UH];omega
  have m:¬((v.cells.size≠c||k*c+v.cells.size>arr.size)=true):=by simp;omega
  simp only[Instr.fill,TZ m]
  have e:(v.cells.zipIdx.foldl (λcs(p:Value×Nat)=>cs.setIfInBounds (k*c+p.2) p.1) arr).toList=dn arr.toList (k*c) v.cells.toList:=by
   have:=rt (k*c) v.cells.toList 0 arr (by simp;omega);rw[<-Array.foldl_toList,Array.toList_zipIdx];simpa using this
  generalize B:v.cells.zipIdx.foldl (λcs(p:Value×Nat)=>cs.setIfInBounds (k*c+p.2) p.1) arr=A at e
  have g:A.size=arr.size:=by
   have:A.toList.length=arr.size:=by rw[e];simp[dn];omega
   simpa using this
  obtain⟨d,g1,g2,g3,g4⟩:=vm (vs:=vs) (k:=k+1) (arr:=A) (λq i r hq=>by
   obtain⟨a,b⟩:=s (q+1) i r (by simpa using hq);exact⟨by omega,b⟩) (by rw[g,o];simp only[VF];congr 1;omega)
  have f:∀q,q<k*c->A[q]?=arr[q]?:=by
   intro q hq;rw[<-UN,e];unfold dn;rw[U4,T1 (by simp;omega),Ur,T6 hq];simp
  have l:∀j,j<c->A[k*c+j]?=v.cells[j]?:=by
   intro j n;rw[<-UN,e];unfold dn;rw[U4,T5 (by simp;omega),T1 (by simp;omega)];simp only[UI,U3];rw[show k*c+j-min (k*c) arr.size=j from by omega];simp
  refine⟨d,g1,by omega,λq hq=>?_,λq z r j hq n=>?_⟩
  .rw[g3 q (by rw[UH];omega),f q hq]
  .cases q with
   |zero=>
    simp at hq;obtain⟨rfl,rfl⟩:=hq;rw[We,g3 _ (by rw[UH];omega),l j n]
   |succ q=>
    have:=g4 q z r j (by simpa using hq) n;rw[show k+(q+1)=k+1+q from by omega];exact this
end
section
variable {C:Cx} {L:Nat->Loc} {h1 h:Hp} {w:World}
theorem B7(c:∀cs b,o.op≠.select cs b)(k:∀x∈o.op.operands,RepA w M L h (ρ x) (σ x)){v:AV}
 (e:bF C.P o ρ=some (v,W)):∃u,(execOp σ o).run C.P w=.ok (.value u) w/\W=[]/\v=.pv (.val u):=by
 unfold bF at e;split at e
 .rename_i a
  split at e
  .rename_i u g
   injection e with e;injection e with e1 e2;subst e1;subst e2
   have d:execOp σ o=execOp (λx=>qA (ρ x)) o:=by
    refine execOp_congr o c (λx i=>?_);have h1:=TY.1 a x (by simpa using i);have f:=k x i;generalize ρ x=y at h1 f|-
    cases y with
    |pv p=>cases p with
     |val l=>cases f with
      |pv j=>rw[aR j];rfl
     |_=>simp[fp]at h1
    |_=>simp[fp]at h1
   grind [mC]
  .cases e
 .cases e
theorem OP{args:List Operand}(e:args.map ρ=[x]):∃a,args=[a]/\ρ a=x:=by
 simp_all
theorem Ff{args:List Operand}{y:AV}(e:args.map ρ=[x,y]):∃a b,args=[a,b]/\ρ a=x/\ρ b=y:=by
 cases args with
 |nil=>simp at e
 |cons a r=>cases r with
  |nil=>simp at e
  |cons b r=>cases r with
   |nil=>simp at e;exact⟨a,b,rfl,e.1,e.2⟩
   |cons=>simp at e
theorem ah{α β:Type}{P:Program}:∀(s:Sem α)(f:α->Sem β),ao P (s >>= f)=(ao P s).bind λa=>ao P (f a)
 |.pure a,f=>rfl
 |.program k,f=>by
  show ao P ((k P) >>= f)=_;rw[ah (k P) f];rfl
 |.load _ _ _,_=>rfl
 |.store _ _ _ _,_=>rfl
 |.new _ _,_=>rfl
 |.shape _ _,_=>rfl
 |.freeze _ _ _,_=>rfl
 |.frozen _ _,_=>rfl
 |.getObj _ _,_=>rfl
 |.setObj _ _ _,_=>rfl
 |.choose _ _,_=>rfl
 |.sys _ _,_=>rfl
 |.mark _ _,_=>rfl
 |.halt _,_=>rfl
theorem dW{α:Type}(a:α):ao P (pure a)=some a:=rfl
theorem eh(h1:(o.op.operands.toList.all λx=>(fp (ρ x)).isSome)=true)(a:ao P (execOp (λx=>qA (ρ x)) o)=some (.value v)):bF P o ρ=some (.pv (.val v),[]):=by
 grind [bF]
theorem bS(h:x=.pv (.val v)):fp x=some v/\qA x=v:=by subst h;exact⟨rfl,rfl⟩
theorem DK{y:AV}(e:sZ op x y=some v)(P:Program)(t:TypeId)(f g:Operand):
 ∃a b,x=.pv (.val a)/\y=.pv (.val b)/\ao P (do eqGuard op t f g a b;binOp op t a b)=some v:=by
 unfold sZ at e;split at e
 .rename_i k a i b
  refine⟨.int k a,.int i b,rfl,rfl,?_⟩
  have d:ao P (eqGuard op t f g (.int k a) (.int i b))=some ():=by unfold eqGuard;cases op<;>rfl
  rw[ah,d];simp only[Ub];cases op<;>simp only at e
  case shl=>
   split at e
   .rename_i h;injection e with e;subst e
    have:¬b<0:=by omega
    simp only[binOp,Op.shift,this,Ud];rfl
   .cases e
  case shr=>
   split at e
   .rename_i h;injection e with e;subst e
    have:¬b<0:=by omega
    simp only[binOp,Op.shift,this,Ud];rfl
   .cases e
  case quo=>
   split at e
   .rename_i h;injection e with e;subst e
    obtain⟨rfl,c⟩:=h;simp only[binOp,ne_eq,Vs,Ud,Op.intDiv,c];rfl
   .cases e
  case rem=>
   split at e
   .rename_i h;injection e with e;subst e
    obtain⟨rfl,c⟩:=h;simp only[binOp,ne_eq,Vs,Ud,Op.intDiv,c];rfl
   .cases e
  all_goals first
   |(split at e
     .rename_i h;injection e with e;subst e;subst h
      simp only[binOp,ne_eq,Vs,Ud];rfl
     .cases e)
   |cases e
 .rename_i a b
  refine⟨.string a,.string b,rfl,rfl,?_⟩
  have d:ao P (eqGuard op t f g (.string a) (.string b))=some ():=by unfold eqGuard;cases op<;>rfl
  rw[ah,d];simp only[Ub]
  cases op<;>simp only at e<;>first|(injection e with e;subst e;rfl)|cases e
 .cases e
theorem HX{x y:Operand}(c:o.op=.binOp op t x y t')(e:sZ op (ρ x) (ρ y)=some v):bF P o ρ=some (.pv (.val v),[]):=by
 obtain⟨a,b,d,f,g⟩:=DK e P t x y;refine eh (by rw[c];simp[Op.operands,d,f,fp]) ?_;unfold execOp;rw[c];simp only[(bS d).2,(bS f).2];rw[ah,g];rfl
theorem Ko{op:UnOp}{x:Operand}(c:o.op=.unOp op t x)(e:yU op (ρ x)=some v):bF P o ρ=some (.pv (.val v),[]):=by
 unfold yU at e;split at e
 .rename_i b a
  injection e with e;subst e;refine eh (by rw[c];simp[Op.operands,a,fp]) ?_;unfold execOp;rw[c];simp only[(bS a).2];rfl
 .rename_i k n a
  injection e with e;subst e;refine eh (by rw[c];simp[Op.operands,a,fp]) ?_;unfold execOp;rw[c];simp only[(bS a).2];rfl
 .cases e
theorem uP{k:IntKind}(e:dU P t=some k):P.underlying t=some (.int k):=by
 grind [dU]
theorem fE{d:TypeDesc}(e:P.underlying t=some d):ao P (underlying t)=some d:=by
 unfold underlying;rw[ah];show ao P (match P.underlying t with|some d=>pure d|none=>stuck "no such type")=some d;rw[e];rfl
theorem Gs{s d:TypeId}{x:Operand}(a:o.op=.convert s d x)(e:tM P s d (ρ x)=some v):bF P o ρ=some (.pv (.val v),[]):=by
 unfold tM at e;split at e
 .rename_i g k f n h1 c b
  injection e with e;subst e;refine eh (by rw[a];simp[Op.operands,b,fp]) ?_;unfold execOp;rw[a];simp only[(bS b).2];rw[ah]
  have:ao P (convert s d (.int f n))=some (.int k (k.wrap n)):=by
   unfold convert;rw[ah,fE (uP h1)];simp only[Ub];rw[ah,fE (uP c)];rfl
  rw[this];rfl
 .cases e
theorem HY{as:List Operand}(d:o.op=.call ⟨.builtin .min,⟨as⟩,⟨ts⟩⟩)(e:wv (as.map ρ)=some v):bF P o ρ=some (.pv (.val v),[]):=by
 unfold wv at e;split at e
 .rename_i k a i b c
  injection e with e;subst e;obtain⟨x,y,rfl,f,g⟩:=Ff c;refine eh (by rw[d];simp[Op.operands,Call.operands,f,g,fp]) ?_;unfold execOp;rw[d];simp[resolve,invoke,builtin,Builtin.min_,(bS f).2,(bS g).2,Builtin.min2,ah,dW]
 .cases e
theorem HZ{as:List Operand}(d:o.op=.call ⟨.builtin .max,⟨as⟩,⟨ts⟩⟩)(e:ww (as.map ρ)=some v):bF P o ρ=some (.pv (.val v),[]):=by
 unfold ww at e;split at e
 .rename_i k a i b c
  injection e with e;subst e;obtain⟨x,y,rfl,f,g⟩:=Ff c;refine eh (by rw[d];simp[Op.operands,Call.operands,f,g,fp]) ?_;unfold execOp;rw[d];simp[resolve,invoke,builtin,Builtin.max_,(bS f).2,(bS g).2,Builtin.max2,ah,dW]
 .cases e
theorem lC{q:Option Value}{e:cX}(h:∀v,q=some v->bF P o ρ=some (.pv (.val v),[]))(a:nM P o ρ q=some e):bF P o ρ=some e:=by
 cases q with
 |none=>exact a
 |some v=>rw[h v rfl];exact a
theorem p9{i:TypeInfo}(h:P.info? t=some i):ao P (typeInfo t)=some i:=by
 unfold typeInfo;rw[ah];show(some P).bind _=_;rw[Ub,h];rfl
theorem Kp{x i:Operand}(l:o.op=.index t x i)(e:yV (ii P t) (ρ x) (ρ i)=some v):bF P o ρ=some (.pv (.val v),[]):=by
 unfold yV at e;split at e
 .rename_i s k n B g hi
  have f:P.underlying t=some .string:=by
   grind [ii]
  split at e
  .rename_i p
   simp only[TX]at e;obtain⟨b,z,rfl⟩:=e;refine eh (by rw[l];simp[Op.operands,g,hi,fp]) ?_;unfold execOp;rw[l];simp only[(bS g).2,(bS hi).2]
   have h1:ao P (Instr.index t (.string s) (.int k n))=some (.int .u8 b.toNat):=by
    unfold Instr.index;simp only[asIntOf,pure_bind];rw[ah,fE f,Ub];simp only[p,Ui,z];rfl
   rw[ah,h1];rfl
  .cases e
 .rename_i m cs k n B g hi
  split at e
  .rename_i p
   have f:∃c d,P.underlying t=some (.array m c)/\P.underlying c=some d/\(∀fs,d≠.struct fs)/\(∀a b,d≠.array a b)/\∃j,P.info? c=some j/\j.size=1:=by
    grind [ii,Option.isSome_iff_exists,oC]
   obtain⟨c,d,f,hd,C,y,j,A,r⟩:=f;refine eh (by rw[l];simp[Op.operands,g,hi,fp]) ?_;unfold execOp;rw[l];simp only[(bS g).2,(bS hi).2]
   have u:ao P (sizeOf c)=some 1:=by
    unfold sizeOf;rw[ah,p9 A,Ub,<-r];rfl
   have q:ao P (isAgg c)=some false:=by
    unfold isAgg;rw[ah,fE hd,Ub]
    cases d<;>first|rfl|exact absurd rfl (C _)|exact absurd rfl (y _ _)
   have h1:ao P (Instr.index t (.agg cs) (.int k n))=some v:=by
    unfold Instr.index;simp only[asIntOf,pure_bind];rw[ah,fE f,Ub];simp only[p,and_self,Ui];rw[ah,u,Ub,VG];unfold part;rw[ah,q,Ub];simp only[T3,Ud,e];rfl
   rw[ah,h1];rfl
  .cases e
 .cases e
def Fg(C:Cx)(L:Nat->Loc)(h:Hp)(w:World)(o:Oper)(σ:Operand->Value)(v:AV)(W:List (Nat×Blk)):Prop:=
 ∃n u b a,(execOp σ o).run C.P w=.ok n b/\(n=.value u\/(n=.skip/\u=undef))/\aM C L h w a (ai h W) b/\RepA b (ae C a (ai h W)) a (ai h W) v u
theorem ej(a:MemL C L h w){v:AV}(b:RepA w (ae C L h) L h v u)(e:(execOp σ o).run C.P w=.ok (.value u) w):Fg C L h w o σ v []:=
 ⟨_,u,w,L,e,.inl rfl,aM.refl a,b⟩
theorem iW(c:MemL C L h w)(a:∀cs b,o.op≠.select cs b)(d:∀x∈o.op.operands,RepA w (ae C L h) L h (ρ x) (σ x)){v:AV}
 (e:bF C.P o ρ=some (v,W)):Fg C L h w o σ v W:=by
 obtain⟨u,h1,rfl,rfl⟩:=B7 a d e;exact ej c (.pv (.val u)) h1
theorem za(P:Program)(t:TypeId)(v:Value):(newVar t v).run P w=.ok ⟨w.heap.size,0,none⟩ (w.alloc (.cells v.cells t)):=rfl
theorem D9(c:MemL C L h w):∀k e d xs a,h k=some (.row e d xs a)->(L k).isNil=true->xs=[]:=λk _ _ _ _ b hn=>(c.bl k _ b).2.2.2.1 hn
theorem r6(a:List Operand)(c:∀x∈a,RepA w M L h (ρ x) (σ x)):aG w M L h (a.map ρ) (a.map σ):=by
 refine⟨by simp,λi p u hp b=>?_⟩
 grind
theorem DL{q:Option Bool}(h:yX op q=some b):∃a,q=some a/\((op=.eql/\b=a)\/(op=.neq/\b=!a)):=by
 unfold yX at h
 grind
theorem xY(a:nK x=true)(c:RepA w M L h x u):u=.slice none 0 0:=by
 unfold nK at a;split at a
 .cases c with
  |pv b=>rw[aR b,lB a]
 .cases a
theorem ru(h:mX P t=true):∃e,P.underlying t=some (.slice e):=by
 unfold mX at h;split at h
 .rename_i s z e b c d a
  exact⟨e,(dV a rfl).1⟩
 .cases h
theorem Ae(q:MemL C L h w)(hs:∀k b,h1 k=some b->h k=some b)(j:RepA w (ae C L h) L h x u)(e:tO h1 x=some b):∃a n c,u=.slice a n c/\a.isNone=b:=by
 unfold tO at e;split at e
 .rename_i v
  split at e
  .rename_i hn
   injection e with e;subst e
   cases j with
   |pv g=>exact⟨none,0,0,by rw[aR g,lB hn],rfl⟩
  .cases e
 .rename_i xs
  split at e
  .cases e
  .rename_i i
   injection e with e;subst e
   cases j with
   |pv g=>
    cases g with
    |sl0 a c=>simp at i
    |sl xs b o c s u l hs f g=>exact⟨_,_,_,rfl,rfl⟩
 .rename_i k n
  split at e
  .rename_i e0 s xs y m
   split at e
   .rename_i f
    injection e with e;subst e
    cases j with
    |arr d r z=>
     rw[hs _ _ m]at d;injection d with d;injection d with a1 a2 a3 a4;subst a3
     have p:(L k).isNil=false:=by
      cases hq:(L k).isNil with
      |false=>rfl
      |true=>exact absurd (by rw[(q.bl k _ (hs _ _ m)).2.2.2.1 hq]at f;exact f.1.symm) f.2
     grind [Loc.slice]
   .cases e
  .cases e
 .cases e
theorem DM(d:Nat){e:TypeId}(a:Option Addr)(n c:Nat)(h:P.underlying t=some (.slice e)):ao P (Op.equalIn (d+1) t (.slice a n c) (.slice none 0 0))=some a.isNone:=by
 unfold Op.equalIn;rw[ah]
 have:ao P (underlying t)=some (.slice e):=by unfold underlying;rw[ah];show(some P).bind _=_;rw[Ub,h];rfl
 rw[this,Ub];cases a<;>rfl
theorem Af{dst:Option Nat}{x y:Operand}{ty:TypeId}{pos:String}{aft:Array Edge}{g:Option (Nat×Bool)}(j:∃e,P.underlying t=some (.slice e))
 {a:Option Addr}{n c:Nat}(k:σ x=.slice a n c)(l:σ y=.slice none 0 0){b:Bool}(f:(op=.eql/\b=a.isNone)\/(op=.neq/\b=!a.isNone)):
 ao P (execOp σ ⟨dst,.binOp op t x y t',ty,pos,aft,g⟩)=some (.value (.bool b)):=by
 obtain⟨e,i⟩:=j;unfold execOp;simp only[k,l];have hq:ao P (Op.equal t (.slice a n c) (.slice none 0 0))=some a.isNone:=DM _ a n c i;rcases f with⟨rfl,rfl⟩|⟨rfl,rfl⟩
 .have h1:ao P (eqGuard .eql t x y (.slice a n c) (.slice none 0 0))=some ():=rfl
  have d:ao P (binOp .eql t (.slice a n c) (.slice none 0 0))=some (.bool a.isNone):=by simp only[binOp,ah,hq,Ub];rfl
  simp only[ah,h1,d,Ub];rfl
 .have h1:ao P (eqGuard .neq t x y (.slice a n c) (.slice none 0 0))=some ():=rfl
  have d:ao P (binOp .neq t (.slice a n c) (.slice none 0 0))=some (.bool !a.isNone):=by simp only[binOp,ah,hq,Ub];rfl
  simp only[ah,h1,d,Ub];rfl
theorem DN(cs:Array Value)(off sz:Nat):Value.agg (cs.extract off (off+sz))=xT cs off sz:=by
 unfold xT
 congr 1
 grind
theorem rv{j:TypeInfo}(c:ro P t=some true)(d:P.info? t=some j)(cs:Array Value)(off:Nat):ao P (part t cs off)=some (xT cs off j.size):=by
 have a:ao P (isAgg t)=some true:=by
  unfold ro at c;unfold isAgg;rw[ah];split at c
  .rename_i h;rw[fE h];rfl
  .rename_i h;rw[fE h];rfl
  all_goals grind
 have b:ao P (sizeOf t)=some j.size:=by
  unfold sizeOf;rw[ah,p9 d,Ub];rfl
 unfold part;rw[ah,a,Ub];show ao P (do pure (Value.agg (cs.extract off (off+(<-sizeOf t)))))=_;rw[ah,b,Ub,<-DN];rfl
theorem xZ(a:ro P t=some false){off:Nat}(e:cs[off]?=some v):ao P (part t cs off)=some v:=by
 have b:ao P (isAgg t)=some false:=by
  unfold ro at a;unfold isAgg;rw[ah];split at a
  .cases a
  .cases a
  .rename_i d c hn h
   rw[fE h,Ub]
   cases d<;>first|rfl|exact(c _ rfl).elim|exact(hn _ _ rfl).elim
  .cases a
 unfold part;rw[ah,b,Ub];simp only[T3,Ud,e];rfl
theorem Kq{x i:Operand}(b:o.op=.index t x i)(e:yW (tN P t) (ρ x) (ρ i)=some v):bF P o ρ=some (.pv (.val v),[]):=by
 unfold yW at e;split at e
 .rename_i n s cs k d a c hi
  split at e
  .rename_i p
   injection e with e;subst e;unfold tN at a;split at a
   .rename_i m f r
    split at a
    .rename_i j q g
     injection a with a;injection a with hk1 hk2;subst hk1;subst hk2;refine eh (by rw[b];simp[Op.operands,c,hi,fp]) ?_;unfold execOp;rw[b];simp only[(bS c).2,(bS hi).2]
     have l:ao P (sizeOf f)=some j.size:=by
      unfold sizeOf;rw[ah,p9 g,Ub];rfl
     have h1:ao P (Instr.index t (.agg cs) (.int k d))=some (xT cs (d.toNat*j.size) j.size):=by
      unfold Instr.index;simp only[asIntOf,pure_bind]
      grind [ah,fE,rv]
     rw[ah,h1];rfl
    .cases a
   .cases a
  .cases e
 .cases e
theorem H7{x:Operand}{f:Nat}(i:o.op=.field t x f)(e:wx (s5 P t f) (ρ x)=some v):bF P o ρ=some (.pv (.val v),[]):=by
 have key:∀{b c g cs},s5 P t f=some (b,c,g)->ρ x=.pv (.val (.agg cs))->∀v,(∀t',ro P t'=some b->(∃j,P.info? t'=some j/\j.size=g)->ao P (part t' cs c)=some v)->bF P o ρ=some (.pv (.val v),[]):=by
  intro b c g cs a k v hp;unfold s5 at a;split at a
  .rename_i fs l
   split at a
   .rename_i n d
    split at a
    .rename_i m j p q
     injection a with a;injection a with hk1 a;injection a with hk2 hk3;subst hk1;subst hk2;subst hk3;refine eh (by rw[i];simp[Op.operands,k,fp]) ?_;unfold execOp;rw[i];simp only[(bS k).2]
     have h1:ao P (Instr.field t (.agg cs) f)=some v:=by
      unfold Instr.field;rw[ah,fE l,Ub];simp only[d,asAgg,pure_bind]
      grind
     rw[ah,h1];rfl
    .cases a
   .cases a
  .cases a
 unfold wx at e
 grind [rv,xZ]
theorem B8{x y:Option Value}(e:wy x y=some v):x=some v\/y=some v:=by
 unfold wy at e
 grind
theorem Gt{w:World}{L:Nat->Loc}{h:Hp}(f:Fn){vs:List Value}(h1:aG w M L h first us)(a:aG w M L h caps vs):RepA w M L h (BB f first caps) (.func f us.toArray vs.toArray):=by
 unfold BB;split
 .rename_i x r
  have g:=a.nil_inv;subst g;split
  .rename_i i c
   have e:=pC c;rw[e]at h1;have b:=h1.map_pv_inv;split
   .rename_i j d
    rw[tG d b];exact .pv (.val _)
   .exact .pv (.fn f i [] us [] b.1 rfl b.2 bY.nil.2)
  .exact .fn f _ _ us [] h1.1 rfl h1.2 aG.nil.2
 .exact .fn f first caps us vs h1.1 a.1 h1.2 a.2
theorem xi(h:s6 P t=true):∃d,P.underlying t=some d/\∀m,d≠.interface m:=by
 grind [s6]
end
section
variable {P:Program} {kt e0:TypeId} {kd:IntKind} {n:Nat} {j:TypeInfo}
end
section
variable {P:Program} {kt e0:TypeId} {kd:IntKind} {n:Nat} {j:TypeInfo} {w:World}
end
section
variable {C:Cx} {L:Nat->Loc} {h1 h:Hp} {w:World}
theorem Fh(E:MemL C L h w)(hs:∀k b,h1 k=some b->h k=some b)(g:∀d,o.dst=some d->h1 d=h d/\d<2000000)
 (F:∀x∈o.op.operands,RepA w (ae C L h) L h (ρ x) (σ x)){hn:List Nat}{v:AV}{W:List (Nat×Blk)}(e:fe C.P hn o ρ h1=some (v,W)):Fg C L h w o σ v W:=by
 obtain⟨b0,op,type,pos,after,guard⟩:=o;simp only at g
 cases op with
 |move x=>
  simp only[fe,T4,Ue]at e;obtain⟨rfl,rfl⟩:=e;exact ej E (F x (by simp[Op.operands])) rfl
 |assign x=>
  have D:=F x (by simp[Op.operands]);simp only[fe]at e
  have Y:some (ρ x,[])=some (v,W)->Fg C L h w ⟨b0,.assign x,type,pos,after,guard⟩ σ v W:=by
   intro e;simp only[T4,Ue]at e;obtain⟨rfl,rfl⟩:=e;exact ej E D rfl
  split at e
  .rename_i d
   split at e
   .rename_i hc
    simp only[An]at hc;split at e
    .rename_i sz zr et bq eb ez A
     split at e
     .rename_i hd
      injection e with e;injection e with B O;subst B;subst O
      have Q:h d=none:=by rw[<-(g d rfl).1];simpa using hd.1
      have ch:σ x=.slice none 0 0:=by
       have h2:=hc.2;generalize ρ x=y at h2 D;unfold nK at h2;split at h2
       .cases D with
        |pv V=>rw[aR V,lB h2]
       .cases h2
      have J:=kZ (e:=et) (sz:=bq) (xs:=[]) (l:=⟨0,0,true⟩) E (Ext.refl _ w) Q (g d rfl).2 (λh=>by cases h)
       ⟨hd.2,UO _,by simp,λ_=>rfl,(λh=>by cases h)⟩
      exact⟨.value (.slice none 0 0),.slice none 0 0,w,_,by simp[execOp,ch],.inl rfl,J.1,J.2⟩
     .cases e
    .cases e
   .exact Y e
  .exact Y e
 |pick c a b=>
  simp only[fe]at e;split at e
  .rename_i t ht
   injection e with e;injection e with B O;subst B;subst O;have hc:=F c (by simp[Op.operands]);rw[ht]at hc
   have cn:σ c=.bool t:=by cases hc with|pv V=>exact aR V
   refine ej E (u:=if t then σ a else σ b) ?_ (by simp[execOp,cn,asBool])
   cases t with
   |true=>exact F a (by simp[Op.operands])
   |false=>exact F b (by simp[Op.operands])
  .cases e
 |alloc elem=>
  simp only[fe]at e;split at e
  .rename_i sz z kd d A
   split at e
   .rename_i hd
    injection e with e;injection e with B O;subst B;subst O
    have Q:h d=none:=by rw[<-(g d rfl).1];simpa using hd
    obtain⟨i,dd,hi,_,_,hz,_⟩:=ij A
    have cB:aG w (ae C L h) L h (z.cells.toList.map λv=>AV.pv (.val v)) z.cells.toList:=by
     refine⟨by simp,λq p u hp hu=>?_⟩;simp only[T0,TX]at hp;obtain⟨y,hy,rfl⟩:=hp;rw[hy]at hu;injection hu with hu;subst hu;exact .pv (.val _)
    have hb:=z9 (us:=z.cells) E Q (g d rfl).2 cB elem;refine⟨.value (.pointer (some ⟨w.heap.size,0,none⟩)),_,_,_,?_,.inl rfl,hb.1,hb.2⟩;simp only at hz;simp[execOp,Instr.alloc,zeroValue,ni hi,<-hz,za]
   .cases e
  .cases e
 |box elem x=>
  simp only[fe]at e;split at e
  .rename_i cs d cm
   split at e
   .rename_i hd
    injection e with e;injection e with B O;subst B;subst O
    have Q:h d=none:=by rw[<-(g d rfl).1];simpa using hd
    have V:=pZ hs (F x (by simp[Op.operands])) cm;have hb:=z9 (us:=(σ x).cells) E Q (g d rfl).2 V elem;refine⟨.value (.pointer (some ⟨w.heap.size,0,none⟩)),_,_,_,?_,.inl rfl,hb.1,hb.2⟩;simp[execOp,Instr.box,za]
   .cases e
  .cases e
 |build t ps=>
  simp only[fe]at e;split at e
  .rename_i ti qs A cw
   simp only[TX,Ue]at e;obtain⟨v',B,rfl,rfl⟩:=e;have hp:=uM (σ:=σ) hs (λx D=>F x (by simpa[Op.operands]using D)) cw;obtain⟨r,G,H⟩:=Bv A hp B;refine ej E H ?_
   have:(ps.map λ(i,x)=>(i,σ x))=(ps.toList.map λ(i,x)=>(i,σ x)).toArray:=by
    apply Array.ext';simp
   simp only[execOp,Sem.run_bind,this,G,Result.andThen_ok,Sem.run_pure]
  .cases e
 |buildSlice t len ps=>
  simp only[fe]at e;split at e
  .rename_i cM I
   injection e with e;subst e;unfold xU at I;split at I
   .rename_i d cu
    split at I
    .split at I
     .rename_i s0 z0 et bq eb z1 A
      split at I
      .rename_i hc
       injection I with I;injection I with B O;subst B;subst O;obtain⟨Z,jt,hj,cb,_,cd⟩:=dV A rfl
       have Q:h d=none:=by rw[<-(g d rfl).1];simpa using hc.1
       have J:=kZ (e:=et) (sz:=bq) (xs:=[]) (l:=⟨w.heap.size,0,false⟩) E (Ext.alloc (λ_=>False) w (.cells #[] et)) Q (g d rfl).2 (λ_=>T8 _)
        ⟨hc.2,UO _,by simp,λ_=>rfl,λ_=>⟨T8 _,UO _,#[],jS w _,by simp,λi x j p D=>by simp at D⟩⟩
       have cj:ps=#[]:=by apply Array.ext';simpa using cu
       subst cj;refine⟨.value (.slice (some ⟨w.heap.size,0,none⟩) 0 0),_,w.alloc (.cells #[] et),_,?_,.inl rfl,J.1,J.2⟩
       have h0:¬0>2^24:=by omega
       simp only[execOp,Instr.buildSlice,Sem.run_bind,dL Z,Result.andThen_ok,gx hj,Wz,Ui,pure_bind,h0,Ud]
       have B:Array.range 0=#[]:=by simp
       rw[B];simp only[List.map_toArray,WB,Instr.fill];rfl
      .cases I
     .cases I
    .cases I
   .cases I
  split at e
  .rename_i s0 z0 et bq eb z1 A
   split at e
   .rename_i xs W' cp
    split at e
    .rename_i hc
     obtain⟨c1,c2,c3⟩:=hc;obtain⟨Z,jt,hj,cb,_,cd⟩:=dV A rfl;subst cb;obtain⟨a1,a2,a3,a4,a5⟩:=uO (σ:=σ) E (db.of_sub hs) (λx D=>F x (by simpa[Op.operands]using D)) cp
     have ad:(ps.map λ(i,x)=>(i,σ x)).toList=ps.toList.map λ(i,x)=>(i,σ x):=by simp
     have ck:ps.toList.length=len:=by omega
     have ba:∀(q:Nat) i v,(ps.toList.map λ(i,x)=>(i,σ x))[q]?=some (i,v)->i=0+q/\v.cells.size=jt.size:=by
      intro q i v hq;obtain⟨b1,p,b2,b3⟩:=a5 q i v hq;refine⟨b1,?_⟩;have:=b3.cells.1;rw[a4 p (Is b2)]at this;simpa using this.symm
     obtain⟨arr,f1,f2,f3,f4⟩:=vm (arr:=(Array.range (len*jt.size)).map ((if len*jt.size=0 then #[]else z1.cells:Array Value)[·% (if len*jt.size=0 then #[]else z1.cells:Array Value).size]!)) ba (by simp[ck]);have hg:=a1.1.grow (Ext.alloc (λ_=>False) w (.cells arr et))
     have bH:(execOp σ ⟨b0,.buildSlice t len ps,type,pos,after,guard⟩).run C.P w=.ok (.value (.slice (some ⟨w.heap.size,0,none⟩) len len)) (w.alloc (.cells arr et)):=by
      have cg:¬len*jt.size>2^24:=by omega
      have b8:(zeroValue et).run C.P w=.ok z1 w:=by simp[zeroValue,ni hj,cd]
      by_cases hl:len*jt.size=0
      .simp only[hl,Ui]at f1
       have h0:¬0>2^24:=by omega
       simp only[execOp,Instr.buildSlice,Sem.run_bind,dL Z,Result.andThen_ok,gx hj,hl,h0,Ud,Ui,pure_bind,ad,f1];rfl
      .simp only[hl,Ud]at f1
       simp only[execOp,Instr.buildSlice,Sem.run_bind,dL Z,Result.andThen_ok,gx hj,cg,hl,Ud,pure_bind,b8,ad,f1];rfl
     have bs:∀(i:Nat) x(j:Nat) p,xs[i]?=some x->x.cells[j]?=some p->∃u,arr[i*jt.size+j]?=some u/\Rep w (ae C L (ai h W')) p u:=by
      intro i x j p D U
      have b7:i<(ps.toList.map λ(i,x)=>(i,σ x)).length:=by rw[Uu];have:=(th.1 D).1;omega
      obtain⟨⟨i',vv⟩,X⟩:∃y,(ps.toList.map λ(i,x)=>(i,σ x))[i]?=some y:=⟨_,an b7⟩;obtain⟨b1,p',b2,b3⟩:=a5 i i' vv X;rw[D]at b2;injection b2 with b2;subst b2
      have ar:j<jt.size:=by rw[<-a4 x (Is D)];exact(th.1 U).1
      have M:=f4 i i' vv j X ar;rw[UY]at M
      have bb:j<vv.cells.size:=by rw[(ba i i' vv X).2];exact ar
      rw[UG bb]at M;exact⟨_,M,b3.cells.2 j p vv.cells[j] U (by simp[bb])⟩
     split at e
     .rename_i d hd
      unfold BZ at hd;split at hd
      .rename_i d' _
       split at hd
       .rename_i b9
        injection hd with hd;subst hd;injection e with e;injection e with B O;subst B;subst O;simp only[An,WI]at b9
        have Q:h d'=none:=by rw[<-(g d' rfl).1];exact b9.2
        have J:=kZ (e:=et) (sz:=jt.size) (xs:=xs) (l:=⟨w.heap.size,len,false⟩) E (Ext.alloc (λ_=>False) w (.cells arr et)) Q (g d' rfl).2 (λ_=>T8 _) (by
         refine⟨c2,UO _,λx D=>a4 x D,(λh=>by cases h),λ_=>⟨by show xs.length<=len;omega,by simp only[maxLen];have:=Nat.le_mul_of_pos_right len c2;omega,arr,jS w _,?_,?_⟩⟩
         .rw[f2];simp
         .intro i x j p D U
          obtain⟨u,hu,V⟩:=bs i x j p D U
          exact⟨u,hu,V.mono (oD (Ext.alloc (λ_=>False) w (.cells arr et)) (λ_=>T8 _))⟩)
        rw[c1]at J;exact⟨_,_,_,_,bH,.inl rfl,J.1,J.2⟩
       .cases hd
      .cases hd
     injection e with e;injection e with B O;subst B;subst O;refine⟨.value (.slice (some ⟨w.heap.size,0,none⟩) len len),_,w.alloc (.cells arr et),L,bH,.inl rfl,a1.trans ⟨hg.1,hg.2,KC.refl _ _⟩,.pv ?_⟩
     .rw[<-c1]
      refine .sl xs w.heap.size 0 xs.length jt.size (λi j=>(arr[i*jt.size+j]?).getD undef) (T8 _) (λi x D=>a4 x (Is D)) ?_ ?_
      all_goals
       intro i x j p D U
       have b7:i<(ps.toList.map λ(i,x)=>(i,σ x)).length:=by rw[Uu];have:=(th.1 D).1;omega
       obtain⟨⟨i',vv⟩,X⟩:∃y,(ps.toList.map λ(i,x)=>(i,σ x))[i]?=some y:=⟨_,an b7⟩;obtain⟨b1,p',b2,b3⟩:=a5 i i' vv X;rw[D]at b2;injection b2 with b2;subst b2
       have ar:j<jt.size:=by rw[<-a4 x (Is D)];exact(th.1 U).1
       have M:=f4 i i' vv j X ar;rw[UY]at M
       have bb:j<vv.cells.size:=by rw[(ba i i' vv X).2];exact ar
       rw[UG bb]at M
      .refine⟨by rw[eT (jS w _),UY,M];rfl,λhM=>?_⟩
       have:=a1.1.mlt hM;omega
      .simp only[M,Ug]
       have:=b3.cells.2 j p vv.cells[j] U (by simp[bb]);exact this.mono hg.2
    .cases e
   .cases e
  .cases e
 |load t a=>
  simp only[fe]at e;split at e
  .rename_i ti A
   simp only[TX,Ue]at e;obtain⟨v',B,rfl,rfl⟩:=e;obtain⟨r,G,H⟩:=vk E hs A (F a (by simp[Op.operands])) B;exact ej E H (by simp[execOp,G])
  .cases e
 |store t a x=>
  simp only[fe]at e;split at e
  .rename_i ti A
   simp only[TX,Ue]at e;obtain⟨W',B,rfl,rfl⟩:=e;obtain⟨w',G,H⟩:=Bt E hs A (F a (by simp[Op.operands])) (F x (by simp[Op.operands])) B;exact⟨.skip,undef,w',L,by simp[execOp,G],.inr ⟨rfl,rfl⟩,H,.undef _⟩
  .cases e
 |nilCheck x=>
  have D:=F x (by simp[Op.operands]);simp only[fe]at e;split at e
  .rename_i k cH hk
   injection e with e;injection e with B O;subst B;subst O;rw[hk]at D;have bc:=D;generalize hσ:σ x=u at D bc
   cases D with
   |ptr cf=>exact ej E bc (by simp[execOp,hσ])
  .rename_i y cH hk
   injection e with e;injection e with B O;subst B;subst O;rw[hk]at D;have bc:=D;generalize hσ:σ x=u at D bc
   cases D with
   |pv V=>cases V with
    |rptr=>exact ej E bc (by simp[execOp,hσ])
  .cases e
 |fieldAddr s x f=>
  simp only[fe]at e;split at e
  .rename_i ti A
   simp only[TX,Ue]at e;obtain⟨v',B,rfl,rfl⟩:=e;obtain⟨r,G,H⟩:=wY A hs (F x (by simp[Op.operands])) B;exact ej E H (by simp[execOp,G])
  .cases e
 |indexAddr t x ix=>
  simp only[fe]at e;split at e
  .rename_i ti n A hn
   simp only[TX,Ue]at e;obtain⟨v',B,rfl,rfl⟩:=e;have ca:=F ix (by simp[Op.operands])
   have hint:∃kk,σ ix=.int kk n:=by
    generalize ρ ix=y at hn ca;unfold BX at hn;split at hn
    .rename_i kk m
     injection hn with hn;subst hn
     cases ca with
     |pv V=>exact⟨kk,aR V⟩
    .cases hn
   obtain⟨kk,cf⟩:=hint;obtain⟨r,G,H⟩:=(B5 B).elim (wZ (kk:=kk) hs A (F x (by simp[Op.operands])) (D9 E)) (Ac (kk:=kk) hs A (F x (by simp[Op.operands])));exact ej E H (by simp[execOp,cf,G])
  .cases e
 |makeInterface t x=>
  simp only[fe]at e;split at e
  .rename_i hp
   split at e
   .rename_i p W' B
    injection e with e;injection e with e1' e2';subst e1';subst e2';obtain⟨b1,b2,_⟩:=nh E (db.of_sub hs) (F x (by simp[Op.operands])) B;refine⟨.value (.iface t (σ x)),_,w,L,?_,.inl rfl,b1,.pv (.ifc t p _ b2)⟩;obtain⟨d,hd,b4⟩:=xi hp;simp only[execOp,Instr.makeInterface,Sem.run_bind,run_underlying hd,Result.andThen_ok]
    cases d<;>first|rfl|exact(b4 _ rfl).elim
   .cases e
  .cases e
 |typeAssert x xt a' ok=>
  have D:=F x (by simp[Op.operands]);simp only[fe]at e;split at e
  .rename_i t p hk
   split at e
   .rename_i hp
    simp only[TX,Ue]at e;obtain⟨v',B,rfl,rfl⟩:=e;rw[hk]at D;generalize hσ:σ x=u at D
    cases D with
    |pv V=>cases V with
     |ifc _ _ v S=>
      obtain⟨d,hd,b4⟩:=xi hp;unfold z7 at B
      have a8:(Instr.typeAssert (.iface t v) xt a' ok).run C.P w=(if t=a' then .ok (if ok then .tuple #[v,.bool true]else v) w else if ok then((zeroValue a').run C.P w).andThen λz w=>.ok (.tuple #[z,.bool false]) w else(runtimePanic (.typeAssertion (some xt) (some t) a' ""):Sem Value).run C.P w):=by
       unfold Instr.typeAssert;simp only[Sem.run_bind,dL hd,Result.andThen_ok]
       cases d with
       |interface m=>exact(b4 m rfl).elim
       |_=>split<;>split<;>simp[Sem.run_bind]<;>rfl
      split at B
      .rename_i ht
       injection B with B;subst B;refine ej E (u:=if ok then .tuple #[v,.bool true]else v) ?_ (by simp only[execOp,hσ,Sem.run_bind,a8,T6 ht,Result.andThen_ok];rfl)
       cases ok with
       |false=>exact .pv S
       |true=>exact .pv (.tup [p,.val (.bool true)] [v,.bool true] rfl (bY.cons S (bY.cons (.val _) .nil)).2)
      .rename_i ht
       split at B
       .rename_i cr
        split at B
        .rename_i z hz
         injection B with B;subst B;obtain⟨ti,A,cz⟩:=Option.bind_eq_some_iff.1 hz;obtain⟨i,_,hi,_,_,cq,_⟩:=ij A;subst cr
         have b8:(zeroValue a').run C.P w=.ok z w:=by
          have:i.zero=some z:=cq▸cz;simp[zeroValue,ni hi,this]
         refine ej E (u:=.tuple #[z,.bool false]) ?_ (by simp only[execOp,hσ,Sem.run_bind,a8,TZ ht,Ui,b8,Result.andThen_ok];rfl);exact .pv (.tup [.val z,.val (.bool false)] [z,.bool false] rfl (bY.cons (.val _) (bY.cons (.val _) .nil)).2)
        .cases B
       .cases B
   .cases e
  .cases e
 |makeFunc f first caps=>
  obtain⟨first⟩:=first
  obtain⟨caps⟩:=caps;simp only[fe,T4,Ue]at e;obtain⟨rfl,rfl⟩:=e
  have a1:=r6 (σ:=σ) first (λx D=>F x (by simp[Op.operands,D]))
  have a2:=r6 (σ:=σ) caps (λx D=>F x (by simp[Op.operands,D]));refine ej E (u:=.func f (first.map σ).toArray (caps.map σ).toArray) ?_ (by simp[execOp,Instr.makeFunc]);exact Gt f a1 a2
 |makeSlice t l c=>
  simp only[fe]at e;split at e
  .rename_i ti A
   obtain⟨r,w',L',G,H,a7⟩:=(B6 e).elim (Bu E A g (F l (by simp[Op.operands])) (F c (by simp[Op.operands]))) (B3 E A g (F l (by simp[Op.operands])) (F c (by simp[Op.operands])));exact⟨.value r,r,w',L',by simp[execOp,G],.inl rfl,H,a7⟩
  .cases e
 |slice t x lo hi mx=>
  simp only[fe]at e;split at e
  .exact iW E (by intro _ _ h;cases h) F e
  .rename_i k n hk
   split at e
   .rename_i ti A
    unfold JM at e;split at e
    .rename_i p W1 B
     split at e
     .rename_i v1 O
      injection e with e;injection e with ea eb;subst ea;subst eb;have D:=F x (by simp[Op.operands]);rw[hk]at D;obtain⟨a1,a2,_⟩:=nN E (db.of_sub hs) D B
      obtain⟨r,G,H⟩:=uN (ul:=lo.map σ) (uh:=hi.map σ) A (.pv a2)
       (by intro a K;cases lo with
         |none=>cases K
         |some y=>simp at K;subst K;exact⟨_,rfl,(F y (by simp[Op.operands])).mono a1.2.1 a1.2.2⟩) (by intro K;cases lo with
         |none=>rfl
         |some y=>cases K)
       (by intro a K;cases hi with
         |none=>cases K
         |some y=>simp at K;subst K;exact⟨_,rfl,(F y (by simp[Op.operands])).mono a1.2.1 a1.2.2⟩) (by intro K;cases hi with
         |none=>rfl
         |some y=>cases K) O
      exact⟨.value r,r,w,L,by simp[execOp,G],.inl rfl,a1,H⟩
     .cases e
    .cases e
   .cases e
  .split at e
   .rename_i ti A
    simp only[TX,Ue]at e;obtain⟨v',B,rfl,rfl⟩:=e
    obtain⟨r,G,H⟩:=uN (ul:=lo.map σ) (uh:=hi.map σ) A (F x (by simp[Op.operands]))
     (by intro a K;cases lo with
       |none=>cases K
       |some y=>simp at K;subst K;exact⟨_,rfl,F y (by simp[Op.operands])⟩) (by intro K;cases lo with
       |none=>rfl
       |some y=>cases K)
     (by intro a K;cases hi with
       |none=>cases K
       |some y=>simp at K;subst K;exact⟨_,rfl,F y (by simp[Op.operands])⟩) (by intro K;cases hi with
       |none=>rfl
       |some y=>cases K) B
    exact ej E H (by simp[execOp,G])
   .cases e
  .cases e
 |extract t i=>
  have ht:=F t (by simp[Op.operands]);simp only[fe]at e;split at e
  .rename_i vs ad
   simp only[TX,Ue]at e;obtain⟨v',B,rfl,rfl⟩:=e;rw[ad]at ht;generalize hσ:σ t=u at ht
   cases ht with
   |tup _ us hl hh=>
    have a6:i<us.length:=by rw[<-hl];exact(th.1 B).1
    exact ej E (hh i v' us[i] B (an a6)) (by simp[execOp,hσ,Instr.extract,a6])
  .rename_i vs ad
   simp only[TX,Ue]at e;obtain⟨v',B,rfl,rfl⟩:=e;rw[ad]at ht;generalize hσ:σ t=u at ht
   cases ht with
   |pv V=>cases V with
    |tup _ us hl hh=>
     have a6:i<us.length:=by rw[<-hl];exact(th.1 B).1
     exact ej E (.pv (hh i v' us[i] B (an a6))) (by simp[execOp,hσ,Instr.extract,a6])
  .exact iW E (by intro _ _ h;cases h) F e
  .cases e
 |call c=>
  simp only[fe]at e;split at e
  .rename_i b hb
   obtain⟨callee,args,argTypes⟩:=c;simp only at hb e;subst hb;obtain⟨args⟩:=args;obtain⟨argTypes⟩:=argTypes;simp only at e;have b5:(execOp σ ⟨b0,.call ⟨.builtin b,⟨args⟩,⟨argTypes⟩⟩,type,pos,after,guard⟩)=builtin b ⟨argTypes⟩ type ((⟨args⟩:Array Operand).map λ|.const _=>true|_=>false) ((⟨args⟩:Array Operand).map σ):=rfl;have R:∀x∈args,RepA w (ae C L h) L h (ρ x) (σ x):=λx D=>F x (by simp[Op.operands,Call.operands,D]);unfold vg at e;split at e
   .rename_i _ _ x t N
    .obtain⟨a,rfl,rfl⟩:=OP N
     split at e
     .exact iW E (by intro _ _ h;cases h) F e
     .split at e
      .rename_i ti A
       simp only[TX,Ue]at e;obtain⟨v',B,rfl,rfl⟩:=e;obtain⟨r,G,H⟩:=DJ (ty:=type) hs A (R a (by simp)) (D9 E) B;exact ej E H (by rw[b5];simp[builtin,G])
      .cases e
   .rename_i _ _ s x t t' N
    .obtain⟨a,b,rfl,rfl,rfl⟩:=Ff N
     split at e
     .rename_i cx
      subst cx;split at e
      .rename_i ti A
       obtain⟨r,w',L',G,H,a7⟩:=Aa (ty:=type) E hs A g (R a (by simp)) (R b (by simp)) e;exact⟨.value r,r,w',L',by rw[b5];simp[builtin,G],.inl rfl,H,a7⟩
      .cases e
     .cases e
   .rename_i _ _ s x t t' N
    .obtain⟨a,b,rfl,rfl,rfl⟩:=Ff N
     split at e
     .rename_i ti A
      obtain⟨r,w',G,H,a7⟩:=B4 (t':=t') (ty:=type) E hs A (R a (by simp)) (R b (by simp)) e;exact⟨.value r,r,w',L,by rw[b5];simp[builtin,G],.inl rfl,H,a7⟩
     .cases e
   .exact iW E (by intro _ _ h;cases h) F (lC (λv S=>HY rfl S) e)
   .exact iW E (by intro _ _ h;cases h) F (lC (λv S=>HZ rfl S) e)
   .cases e
  .cases e
 |binOp op t x y t'=>
  simp only[fe]at e;split at e
  .rename_i b hb
   injection e with e;injection e with B O;subst B;subst O;unfold BY at hb;split at hb
   .rename_i T
    simp only[An]at T;obtain⟨b',hk,ct⟩:=DL hb;have hy:=xY T.1 (F y (by simp[Op.operands]));obtain⟨a,n,c,D,K⟩:=Ae E hs (F x (by simp[Op.operands])) hk;refine ej E (.pv (.val (.bool b))) (mC (Af (ru T.2) D hy ?_) w);rcases ct with⟨rfl,rfl⟩|⟨rfl,rfl⟩
    .left;exact⟨rfl,by rw[K]⟩
    .right;exact⟨rfl,by rw[K]⟩
   .cases hb
  .exact iW E (by intro _ _ h;cases h) F (lC (λv S=>HX rfl S) e)
 |unOp _ _ _=>simp only[fe]at e;exact iW E (by intro _ _ h;cases h) F (lC (λv S=>Ko rfl S) e)
 |convert _ _ _=>simp only[fe]at e;exact iW E (by intro _ _ h;cases h) F (lC (λv S=>Gs rfl S) e)
 |field _ _ _=>simp only[fe]at e;exact iW E (by intro _ _ h;cases h) F (lC (λv S=>H7 rfl S) e)
 |index _ _ _=>simp only[fe]at e;exact iW E (by intro _ _ h;cases h) F (lC (λv S=>(B8 S).elim (Kp rfl) (Kq rfl)) e)
 |_=>simp[fe]at e
end
section
variable {C:Cx} {L:Nat->Loc} {h1 h:Hp} {w:World}
theorem lD:∀{W:List (Nat×Blk)}{h:Hp}{k:Nat},(∀d∈W,d.1≠k)->ai h W k=h k
 |[],h,k,_=>rfl
 |(q,b)::W,h,k,a=>by
  show ai (ag h q (some b)) W k=h k;rw[lD (λd c=>a d (by simp[c])),bL (λe=>a (q,b) (by simp) e.symm)]
theorem MemL.callStep(n:MemL C L h w){z:World}{h':Hp}(K:Ext (·∈ks.map λk=>(L k).b) w z)(x:hout.length=ks.length)
 (u:∀k,k∉ks->h' k=h k)
 (T:∀(i:Nat) k g,ks[i]?=some k->hout[i]?=some g->∃cs own,h k=some (.box cs own false)/\h' k=some (.box (g.map .pv) own false)/\kT z (ae C L h) (L k).b g):aM C L h w L h' z:=by
 have hin:∀k,k∈ks->∃g cs own,h k=some (.box cs own false)/\h' k=some (.box (g.map .pv) own false)/\kT z (ae C L h) (L k).b g:=by
  intro k W;obtain⟨i,hi⟩:=Vf.1 W
  have F:i<hout.length:=by rw[x];exact(th.1 hi).1
  obtain⟨cs,own,a,b,c⟩:=T i k hout[i] hi (an F)
  grind
 have D:∀b o,ae C L h' b o->ae C L h b o:=by
  rintro b o (B|⟨q,d,hq,m,l,hf⟩)
  .exact .inl B
  .by_cases e:q∈ks
   .obtain⟨g,cs,own,a,_,_⟩:=hin q e
    exact .inr ⟨q,_,a,trivial,l,by simp[Blk.frz]⟩
   .rw[u q e]at hq;exact .inr ⟨q,d,hq,m,l,hf⟩
 have J:∀b o,ae C L h b o->ae C L h' b o:=by
  rintro b o (B|⟨q,d,hq,m,l,hf⟩)
  .exact .inl B
  .by_cases e:q∈ks
   .obtain⟨g,cs,own,a,r,_⟩:=hin q e
    exact .inr ⟨q,_,r,trivial,l,by simp[Blk.frz]⟩
   .exact .inr ⟨q,d,by rw[u q e];exact hq,m,l,hf⟩
 have v:KC L h L h':=by
  intro q d hq;by_cases e:q∈ks
  .obtain⟨g,cs,own,a,r,_⟩:=hin q e
   rw[a]at hq;injection hq with hq;subst hq;exact⟨_,r,rfl⟩
  .exact⟨d,by rw[u q e];exact hq,da _ _⟩
 have A:∀b o,¬ae C L h b o->b∉ks.map λk=>(L k).b:=by
  intro b o hn f;obtain⟨q,hq,rfl⟩:=Uo.1 f;obtain⟨g,cs,own,a,_,_⟩:=hin q hq;exact hn (.inr ⟨q,_,a,trivial,rfl,by simp[Blk.frz]⟩)
 have j:Pres w (ae C L h) z (ae C L h'):=by
  grind [Pres.ext]
 refine⟨⟨?_,n.m0,?_,?_,?_⟩,j,v⟩
 .refine n.ext.trans K (λb U f=>?_)
  obtain⟨q,hq,rfl⟩:=Uo.1 f;obtain⟨g,cs,own,a,_,_⟩:=hin q hq;have:=n.own q _ a
  cases own with
  |false=>exact this.2.2.1
  |true=>rcases this with I|I
         .omega
         .exact I.1
 .intro q d hq
  by_cases e:q∈ks
  .obtain⟨g,cs,own,a,r,arr,X,R,S⟩:=hin q e
   rw[r]at hq;injection hq with hq;subst hq;exact⟨arr,X,R,(aG.map_pv (S.mono (Pres.sub D)))⟩
  .rw[u q e]at hq
   refine(n.bl q d hq).mono j v (λm=>K.block _ ((n.bl q d hq).lt m) (λf=>?_));obtain⟨y,p,V⟩:=Uo.1 f;obtain⟨g,cs,own,a,_,_⟩:=hin y p;exact n.sep q y _ _ (λQ=>e (Q▸p)) hq a m trivial V.symm
 .intro q y M N G hq p m E
  have s:∀q b,h' q=some b->b.live (L q)->∃H,h q=some H/\H.live (L q):=by
   intro q b hq m;by_cases e:q∈ks
   .obtain⟨g,cs,own,a,_,_⟩:=hin q e;exact⟨_,a,trivial⟩
   grind
  obtain⟨O,d1,f1⟩:=s q M hq m;obtain⟨P,d2,f2⟩:=s y N p E;exact n.sep q y O P G d1 d2 f1 f2
 .intro q d hq
  by_cases e:q∈ks
  .obtain⟨g,cs,own,a,r,_⟩:=hin q e
   rw[r]at hq;injection hq with hq;subst hq;have:=n.own q _ a;cases own<;>exact this
  .rw[u q e]at hq;exact n.own q d hq
theorem AQ(e:ly h1 x=some (p,W)):∀a∈W,(h1 a.1).isSome=true:=by
 unfold ly at e
 grind
theorem tR:∀{xs:List AV}{p:List PV}{W:List (Nat×Blk)},mR h1 xs=some (p,W)->∀a∈W,(h1 a.1).isSome=true
 |[],p,W,e=>by simp only[mR,T4,Ue]at e;obtain⟨_,rfl⟩:=e;simp
 |x::r,p,W,e=>by
  simp only[mR]at e;split at e
  .rename_i d f
   injection e with e;injection e with _ e;subst e;intro a c;rcases Uf.1 c with b|b
   .exact AQ d a b
   .exact tR f a b
  .cases e
theorem vn(e:sJ h1 x=some (p,W)):∀b∈W,(h1 b.1).isSome=true:=by
 unfold sJ at e;split at e
 .split at e
  .rename_i d
   split at e
   .split at e
    .rename_i c
     split at e
     .injection e with e;injection e with _ e;subst e
      intro b a
      grind [tR,List.mem_singleton]
     .cases e
    .cases e
   .split at e
    .split at e
     .rename_i c
      split at e
      .injection e with e;injection e with _ e;subst e
       intro b a
       grind [tR,List.mem_singleton]
      .cases e
     .cases e
    .cases e
  .cases e
 .exact AQ e
theorem pE:∀{xs:List AV}{p:List PV}{W:List (Nat×Blk)},pW h1 xs=some (p,W)->∀a∈W,(h1 a.1).isSome=true
 |[],p,W,e=>by simp only[pW,T4,Ue]at e;obtain⟨_,rfl⟩:=e;simp
 |x::r,p,W,e=>by
  simp only[pW]at e;split at e
  .rename_i d f
   injection e with e;injection e with _ e;subst e;intro a c;rcases Uf.1 c with b|b
   .exact vn d a b
   .exact pE f a b
  .cases e
theorem xj(e:rn h1 x=some (p,W)):∀c∈W,(h1 c.1).isSome=true:=by
 unfold rn at e;split at e
 .grind
 .split at e
  .rename_i f
   split at e
   .grind
   .split at e
    .rename_i d
     split at e
     all_goals
      injection e with e;injection e with _ e;subst e;intro c b;rcases Uf.1 b with a|a
      .exact pE d c a
      .simp only[Uz]at a;subst a;simp[f]
    .cases e
  .cases e
 .cases e
theorem rx:∀{xs:List AV}{p:List PV}{W:List (Nat×Blk)},kX h1 xs=some (p,W)->∀a∈W,(h1 a.1).isSome=true
 |[],p,W,e=>by simp only[kX,T4,Ue]at e;obtain⟨_,rfl⟩:=e;simp
 |x::r,p,W,e=>by
  simp only[kX]at e;split at e
  .rename_i d f
   injection e with e;injection e with _ e;subst e;intro a c;rcases Uf.1 c with b|b
   .exact xj d a b
   .exact rx f a b
  .cases e
theorem Gu(e:zV h1 x=some (p,W)):∀b∈W,(h1 b.1).isSome=true:=by
 unfold zV at e;split at e
 .split at e
  .rename_i a;injection e with e;injection e with _ e;subst e;exact pE a
  .cases e
 .split at e
  .rename_i a d
   injection e with e;injection e with _ e;subst e;intro b c
   grind [pE,rx]
  .cases e
 .exact vn e
theorem tS:∀{xs:List AV}{p:List PV}{W:List (Nat×Blk)},pc h1 xs=some (p,W)->∀a∈W,(h1 a.1).isSome=true
 |[],p,W,e=>by simp only[pc,T4,Ue]at e;obtain⟨_,rfl⟩:=e;simp
 |x::r,p,W,e=>by
  simp only[pc]at e;split at e
  .rename_i d f
   injection e with e;injection e with _ e;subst e;intro a c;rcases Uf.1 c with b|b
   .exact Gu d a b
   .exact tS f a b
  .cases e
theorem H8(e:frz h1 x=some (p,W)):∀b∈W,(h1 b.1).isSome=true:=by
 unfold frz at e;split at e
 .split at e
  .rename_i a;injection e with e;injection e with _ e;subst e;exact tS a
  .cases e
 .split at e
  .rename_i a d
   injection e with e;injection e with _ e;subst e;intro b c
   grind [pE,rx]
  .cases e
 .split at e
  .rename_i a;injection e with e;injection e with _ e;subst e;exact tS a
  .cases e
 .exact vn e
theorem nQ:∀{xs:List AV}{c:List Nat}{h:Hp}(_:MemL C L h w)(_:db h1 h){us:List Value}(_:aG w (ae C L h) L h xs us){as:List Arg}{ks:List Nat}{W:List (Nat×Blk)},
 jB h1 xs c=some (as,ks,W)->aM C L h w L (ai h W) w/\db h1 (ai h W)/\(∃y,ks=c++y)/\(c.Nodup->ks.Nodup)/\as.length=us.length/\
  (∀s∈W,(h1 s.1).isSome=true)/\∀(i:Nat) a v,as[i]?=some a->us[i]?=some v->Gp w (ae C L (ai h W)) (ks.map λk=>(L k).b) a v
 |[],c,h,F,hf,us,Q,as,ks,W,e=>by
  simp only[jB,T4,Ue]at e;obtain⟨rfl,rfl,rfl⟩:=e;rw[Q.nil_inv];exact⟨aM.refl F,hf,⟨[],by simp⟩,id,rfl,by simp,λi a v h=>by simp at h⟩
 |x::r,c,h,F,hf,us,Q,as,ks,W,e=>by
  obtain⟨u,Y,rfl,R,o⟩:=Q.cons_inv;unfold jB at e;split at e
  .rename_i k X
   split at e
   .rename_i U
    obtain⟨rfl,N,_⟩:=U;split at e
    .rename_i E I Z l
     injection e with e;injection e with ea eb;injection eb with eb ec;subst ea;subst eb;subst ec;obtain⟨j,z,⟨y,a3⟩,a4,A,B,D⟩:=nQ F hf o l;refine⟨j,z,⟨k::y,by rw[a3];simp⟩,λP=>a4 ?_,by simp[A],B,λi a v d f=>?_⟩
     .rw[VO]
      refine⟨P,by simp,?_⟩;intro q hq q' G O;simp at G;subst G;subst O;have H:c.contains q=true:=List.contains_iff_mem.2 hq;rw[N]at H;cases H
     .cases i with
      |zero=>
       simp at d f;subst d;subst f;refine⟨(L k).b,by rw[a3];simp,?_⟩
       cases R with
       |ptr _=>rfl
      |succ i=>exact D i a v (by simpa using d) (by simpa using f)
    .cases e
   .split at e
    .split at e
     .rename_i p S E I T l M
      injection e with e;injection e with ea eb;injection eb with eb ec;subst ea;subst eb;subst ec;obtain⟨g,J,K⟩:=vj F hf R l;obtain⟨j,z,a3,a4,A,B,D⟩:=nQ g.1 K (o.mono g.2.1 g.2.2) M;rw[cY];refine⟨g.trans j,z,a3,a4,by simp[A],?_,λi a v d f=>?_⟩
      .intro s n
       rcases Uf.1 n with m|m
       .exact xj l s m
       .exact B s m
      .cases i with
       |zero=>simp at d f;subst d;subst f;exact J.mono j.2.1
       |succ i=>exact D i a v (by simpa using d) (by simpa using f)
     .cases e
    .cases e
  .rename_i x' V
   split at e
   .rename_i p S E I T l M
    injection e with e;injection e with ea eb;injection eb with eb ec;subst ea;subst eb;subst ec;obtain⟨g,J,K⟩:=nh F hf R l;obtain⟨j,z,a3,a4,A,B,D⟩:=nQ g.1 K (o.mono g.2.1 g.2.2) M;rw[cY];refine⟨g.trans j,z,a3,a4,by simp[A],?_,λi a v d f=>?_⟩
    .intro s n
     rcases Uf.1 n with m|m
     .exact H8 l s m
     .exact B s m
    .cases i with
     |zero=>simp at d f;subst d;subst f;exact J.mono j.2.1
     |succ i=>exact D i a v (by simpa using d) (by simpa using f)
   .cases e
theorem AR:∀{ks:List Nat}{hin:List (List PV)},mo h1 ks=some hin->hin.length=ks.length/\∀(i:Nat) k d,ks[i]?=some k->hin[i]?=some d->∃own,h1 k=some (.box (d.map .pv) own false)
 |[],hin,e=>by simp only[mo,T4]at e;subst e;exact⟨rfl,λi k d h=>by simp at h⟩
 |k::ks,hin,e=>by
  simp only[mo]at e;split at e
  .rename_i cs own j g f
   split at e
   .rename_i d hp
    injection e with e;subst e;obtain⟨a,b⟩:=AR f;refine⟨by simp[a],λi q qs hq c=>?_⟩
    cases i with
    |zero=>simp at hq c;subst hq;subst c;exact⟨own,by rw[<-pC hp];exact g⟩
    |succ i=>exact b i q qs (by simpa using hq) (by simpa using c)
   .cases e
  .cases e
theorem zb:∀{ks:List Nat}{hout:List (List PV)}{h:Hp},ks.Nodup->hout.length=ks.length->(∀k∈ks,∃cs own j,h1 k=some (.box cs own j))->
 (∀k,k∉ks->ai h (j5 h1 ks hout) k=h k)/\(∀r∈j5 h1 ks hout,r.1∈ks)/\
 (∀(i:Nat) k b,ks[i]?=some k->hout[i]?=some b->∀cs own j,h1 k=some (.box cs own j)->ai h (j5 h1 ks hout) k=some (.box (b.map .pv) own false))
 |[],hout,h,_,_,_=>by
  refine⟨λk _=>?_,?_,λi k b h=>by simp at h⟩
  .cases hout<;>rfl
  .cases hout<;>simp[j5]
 |k::ks,hout,h,e,u,s=>by
  cases hout with
  |nil=>simp at u
  |cons b f=>
   obtain⟨cs,own,j,d⟩:=s k (by simp);have o:k∉ks:=(Wx.1 e).1;have ih:=λ(h:Hp)=>zb (hout:=f) (h:=h) (Wx.1 e).2 (by simpa using u) (λq hq=>s q (by simp[hq]))
   have p:j5 h1 (k::ks) (b::f)=(k,.box (b.map .pv) own false)::j5 h1 ks f:=by simp[j5,d]
   rw[p];have v:∀q,ai h ((k,.box (b.map .pv) own false)::j5 h1 ks f) q=ai (ag h k (some (.box (b.map .pv) own false))) (j5 h1 ks f) q:=λq=>rfl;refine⟨λq hq=>?_,?_,λi q qs hq c l g m a=>?_⟩
   .simp at hq
    rw[v,(ih _).1 q hq.2,bL hq.1]
   .intro r n
    rcases Uq.1 n with rfl|x
    .simp
    .have:=(ih h).2.1 r x;simp[this]
   .rw[v]
    cases i with
    |zero=>
     simp at hq c;subst hq;subst c;rw[(ih _).1 k o,aJ];rw[d]at a;injection a with a;injection a with _ h2 _;rw[h2]
    |succ i=>exact(ih _).2.2 i q qs (by simpa using hq) (by simpa using c) l g m a
end
section
variable {C:Cx} {L:Nat->Loc} {h1 h:Hp} {w:World}
theorem i8{c:AV}(d:RepA w M L h c u)(e:cF c=some (g,first,caps)):
 ∃vs us:List Value,u=.func (.func g) vs.toArray us.toArray/\aG w M L h first vs/\aG w M L h caps us:=by
 unfold cF at e;split at e
 .rename_i f fs cs
  simp only[T4,Ue]at e;obtain⟨rfl,rfl,rfl⟩:=e
  cases d with
  |pv k=>
   rw[aR k];refine⟨fs.toList,cs.toList,by simp,?_,?_⟩
   all_goals
    refine⟨by simp,λq p u hp a=>?_⟩;simp only[T0,TX]at hp;obtain⟨y,l,rfl⟩:=hp;rw[l]at a;injection a with a;subst a;exact .pv (.val _)
 .simp only[T4,Ue]at e
  obtain⟨rfl,rfl,rfl⟩:=e
  cases d with
  |pv k=>cases k with
   |fn _ _ _ vs us j i h1 b=>exact⟨vs,us,rfl,aG.map_pv ⟨j,h1⟩,aG.map_pv ⟨i,b⟩⟩
 .simp only[T4,Ue]at e
  obtain⟨rfl,rfl,rfl⟩:=e
  cases d with
  |fn _ _ _ vs us j i h1 b=>exact⟨vs,us,rfl,⟨j,h1⟩,⟨i,b⟩⟩
 .cases e
theorem B9{w:World}(hp:lz p=true)(h:Rep w M p v):Rep w M' p v:=by
 cases h with
 |val v=>exact .val v
 |agg cs vs b a=>
  refine .agg cs vs b (λi q u hq d=>?_);have:=TY.1 hp q (Is hq);have c:=a i q u hq d
  cases q with
  |val e=>rw[aR c];exact .val _
  |_=>cases this
 |_=>cases hp
theorem s8{w:World}{x:PV}(hp:lz x=true)(a:x.cells[j]?=some p)(h:Rep w M p v):Rep w M' p v:=by
 cases x with
 |val u=>
  simp only[PV.cells,T0,TX]at a;obtain⟨y,_,rfl⟩:=a;rw[aR h];exact .val _
 |agg cs=>
  have:=TY.1 hp p (Is a)
  cases p with
  |val b=>rw[aR h];exact .val _
  |_=>cases this
 |_=>cases hp
theorem DO{w:World}{l:Loc}{e sz:Nat}{xs:List PV}(o:xs.all lz=true)(h:dQ w M (λ_=>default) (λ_=>none) l (.row e sz xs 0)):dQ w M' (λ_=>default) (λ_=>none) l (.row e sz xs 0):=by
 obtain⟨c,d,f,g,k⟩:=h;refine⟨c,d,f,g,λhn=>?_⟩;obtain⟨d1,d2,arr,d3,d4,d5⟩:=k hn;refine⟨d1,d2,arr,d3,d4,λi x j p a b=>?_⟩;obtain⟨v,n,m⟩:=d5 i x j p a b;exact⟨v,n,s8 (TY.1 o x (Is a)) b m⟩
theorem pi{w:World}(hp:qV p=true)(h:Rep w M p v):Rep w M' p v:=by
 cases h with
 |val v=>exact .val v
 |hd n a c=>exact .hd n a c
 |tup cs vs e d=>
  refine .tup cs vs e (λi q u hq f=>?_);have:=TY.1 hp q (Is hq);have b:=d i q u hq f
  cases q with
  |val g=>rw[aR b];exact .val _
  |hd n=>cases b with
   |hd _ a c=>exact .hd n a c
  |_=>cases this
 |agg cs vs e d=>
  refine .agg cs vs e (λi q u hq f=>?_);have:=TY.1 hp q (Is hq);have b:=d i q u hq f
  cases q with
  |val g=>rw[aR b];exact .val _
  |hd n=>cases b with
   |hd _ a c=>exact .hd n a c
  |_=>cases this
 |_=>cases hp
theorem vo(hm:MemL C L h w)(hs:∀k b,h1 k=some b->h k=some b){d:Option Nat}(f:∀q,d=some q->h1 q=h q/\q<2000000){c:AV}(hc:RepA w (ae C L h) L h c u)(ha:aG w (ae C L h) L h args us)
 {K:cX->Prop}(e:gU C.P c args d h1 K):∃g vs cs,u=.func (.func g) vs cs/\dh C.P g=true/\∃U:cX,K U/\
  Calls C.P g (vs.toList++us++cs.toList).toArray w λe H=>∃r L',e=.returned r/\aM C L h w L' (ai h U.2) H/\RepA H (ae C L' (ai h U.2)) L' (ai h U.2) U.1 r:=by
 unfold gU at e;split at e
 .exact e.elim
 .rename_i g first caps ca
  obtain⟨vs,cs,rfl,hf,cb⟩:=i8 hc ca;split at e
  .exact e.elim
  .rename_i as ks W0 cj
   split at e
   .exact e.elim
   .rename_i b0
    split at e
    .exact e.elim
    .rename_i hin cf
     obtain⟨hout,res,bH,he⟩:=e;have bq:aG w (ae C L h) L h (first++args++caps) (vs++us++cs):=(hf.append ha).append cb;obtain⟨T,a2,⟨cu,a3⟩,a4,a5,a6,a7⟩:=nQ hm (db.of_sub hs) bq cj;have bc:ks.Nodup:=a4 (by simp);obtain⟨b1,b2⟩:=AR cf
     have m:∀k∈ks,∃(G:List PV)(own:Bool),h1 k=some (.box (G.map .pv) own false)/\ai h W0 k=some (.box (G.map .pv) own false):=by
      intro k B;obtain⟨i,hi⟩:=Vf.1 B
      have cg:i<hin.length:=by rw[b1];exact(th.1 hi).1
      obtain⟨own,Q⟩:=b2 i k hin[i] hi (an cg);refine⟨_,own,Q,?_⟩;rw[lD,hs _ _ Q];intro kb D he;apply b0;rw[VY];exact⟨kb,D,List.contains_iff_mem.2 (he▸B)⟩
     obtain⟨ba,ar,hD⟩:=bH
     have ch:(ks.map λk=>(L k).b).Nodup:=by
      rw[List.nodup_iff_pairwise_ne]at bc|-;rw[List.pairwise_map];refine List.Pairwise.imp_of_mem ?_ bc;intro x y j hy cm;obtain⟨_,_,_,ck⟩:=m x j;obtain⟨_,_,_,cn⟩:=m y hy;exact T.1.sep x y _ _ cm ck cn trivial trivial
     have Y:=hD w (ae C L (ai h W0)) (ks.map λk=>(L k).b) (vs++us++cs) (λb o hM=>T.1.mlt hM) (by simp[b1]) ch
      (λi b G hb ad=>by
        simp only[T0,TX]at hb;obtain⟨k,B,rfl⟩:=hb;obtain⟨own,Q⟩:=b2 i k G B ad
        have hw:ai h W0 k=some (.box (G.map .pv) own false):=by
         obtain⟨cp,cq,R,h10⟩:=m k (Is B);rw[Q]at R;injection R with R;injection R with h11 h12;rw[h10,h11,h12]
        refine⟨λo=>.inr ⟨k,_,hw,trivial,rfl,by simp[Blk.frz]⟩,?_⟩;obtain⟨arr,ty,e1,e2⟩:=T.1.bl k _ hw
        exact⟨arr,ty,e1,e2.map_pv_inv⟩) a5 a7
     refine⟨g,vs.toArray,cs.toArray,rfl,ba,?_⟩;have O:=zb (h1:=h1) (h:=ai h W0) bc (by rw[ar,b1]) (λk B=>by obtain⟨G,own,R,_⟩:=m k B;exact⟨_,own,false,R⟩)
     have X:∀H,Ext (·∈ks.map λk=>(L k).b) w H->(∀(i:Nat) b G,(ks.map λk=>(L k).b)[i]?=some b->hout[i]?=some G->kT H (ae C L (ai h W0)) b G)->
      aM C L h w L (ai h (W0++j5 h1 ks hout)) H:=by
      intro H j V;rw[cY];refine T.trans (T.1.callStep j (by rw[ar,b1]) O.1 (λi k G B ad=>?_));obtain⟨cp,own,R,h10⟩:=m k (Is B);exact⟨_,own,h10,O.2.2 i k G B ad _ own false R,V i _ G (by simp[B]) ad⟩
     unfold i7 lV at he;split at he
     .rename_i e0 a
      refine⟨e0,he,?_⟩
      have bs:(vs.toArray.toList++us++cs.toArray.toList).toArray=(vs++us++cs).toArray:=by simp
      rw[bs];refine Y.mono ?_;rintro e1 H ⟨v,rfl,j,V,s⟩;have hA:=X H j V
      have N:∀q,h q=none->ai h W0 q=none:=by
       intro q hq;rw[lD,hq];intro kb D he;have:=a6 kb D;rw[he]at this;obtain⟨b,hb⟩:=Ut.1 this;rw[hs _ _ hb]at hq;cases hq
      have a8:∀b o,ae C L (ai h (W0++j5 h1 ks hout)) b o->ae C L (ai h W0) b o:=by
       rw[cY];rintro b o (h0|⟨q,blk,hq,hl,b5,hf⟩)
       .exact .inl h0
       .by_cases b7:q∈ks
        .obtain⟨G,own,R,h10⟩:=m q b7
         exact .inr ⟨q,_,h10,trivial,b5,by simp[Blk.frz]⟩
        .rw[O.1 q b7]at hq;exact .inr ⟨q,blk,hq,hl,b5,hf⟩
      split at a
      .rename_i p _
       injection a with a;subst a;unfold E8;split
       .rename_i W
        simp only[An]at W;have bb:ks=[]:=List.isEmpty_iff.1 W.1;subst bb;have z:Ext (λ_=>False) w H:=⟨j.os,j.tape,j.output,j.size,λS n _=>j.block S n (by simp)⟩;obtain⟨g1,g2⟩:=hm.grow z
        have e0:([]++j5 h1 [] hout:List (Nat×Blk))=[]:=by cases hout<;>rfl
        show∃r L',_/\aM C L h w L' (ai h ([]++j5 h1 [] hout)) H/\_;rw[e0];exact⟨v,L,rfl,⟨g1,g2,KC.refl _ _⟩,.pv (pi W.2 s)⟩
       .exact⟨v,L,rfl,hA,.pv (Rep.mono (Pres.sub a8) s)⟩
      .rename_i p _
       split at a
       .rename_i bb
        injection a with a;subst a;subst bb;have z:Ext (λ_=>False) w H:=⟨j.os,j.tape,j.output,j.size,λS n _=>j.block S n (by simp)⟩;obtain⟨g1,g2⟩:=hm.grow z;exact⟨v,L,rfl,⟨g1,g2,KC.refl _ _⟩,.pv (Rep.mono (Pres.sub (λb o R=>hm.mlt R)) s)⟩
       .cases a
      .rename_i G q
       split at a
       .rename_i hq
        obtain⟨hq,rfl⟩:=hq;injection a with a;subst a;obtain⟨b,I,rfl,J⟩:=s;have F:=N q (by rw[<-(f q rfl).1];simpa using hq);simp only;rw[cY,iQ];obtain⟨arr,ty,e1,e2⟩:=J;have z:Ext (λ_=>False) w H:=⟨j.os,j.tape,j.output,j.size,λS n _=>j.block S n (by simp)⟩
        have A:=T.1.newKey F (f q rfl).2 (l:=⟨b,0,false⟩) (blk:=.box (G.map .pv) true false) z (λ_=>I) (by intro cr ct e;injection e with _ e2;cases e2)
         ⟨arr,ty,e1,aG.map_pv (e2.mono (Pres.sub (λS o' hh=>hh.elim .inl (λR=>.inr R.2))))⟩
        refine⟨_,ag L q ⟨b,0,false⟩,rfl,T.trans A,?_⟩;have:=RepA.ptr (w:=H) (M:=ae C (ag L q ⟨b,0,false⟩) (ag (ai h W0) q (some (.box (G.map .pv) true false)))) (L:=ag L q ⟨b,0,false⟩) (h:=ag (ai h W0) q (some (.box (G.map .pv) true false))) (k:=q) (off:=0) (aJ _ _ _);rw[aJ]at this;exact this
       .cases a
      .rename_i e9 sz xs q
       split at a
       .rename_i hq
        obtain⟨hq,rfl⟩:=hq;injection a with a;subst a;obtain⟨l,rfl,I,J⟩:=s;have F:=N q (by rw[<-(f q rfl).1];simpa using hq);simp only;rw[cY,iQ];have z:Ext (λ_=>False) w H:=⟨j.os,j.tape,j.output,j.size,λS n _=>j.block S n (by simp)⟩;have A:=kZ (e:=e9) (sz:=sz) (xs:=xs) T.1 z F (f q rfl).2 I J;exact⟨_,_,rfl,T.trans A.1,A.2⟩
       .cases a
      .rename_i e9 sz xs q
       split at a
       .rename_i hq
        obtain⟨hq,rfl⟩:=hq;injection a with a;subst a;obtain⟨W,l,rfl,I,J⟩:=s
        have b8:h q=none:=by rw[<-(f q rfl).1];simpa using hq
        have z:Ext (λ_=>False) w H:=⟨j.os,j.tape,j.output,j.size,λS n _=>j.block S n (by simp)⟩;have A:=kZ (e:=e9) (sz:=sz) (xs:=xs) hm z b8 (f q rfl).2 I (DO W J);simp only;rw[iQ];exact⟨_,_,rfl,A.1,A.2⟩
       .cases a
      .rename_i pre e9 sz xs q
       split at a
       .rename_i hq
        obtain⟨hq,rfl⟩:=hq;injection a with a;subst a;obtain⟨l,cw,rfl,I,E,J⟩:=s;have F:=N q (by rw[<-(f q rfl).1];simpa using hq);simp only;rw[cY,iQ];have z:Ext (λ_=>False) w H:=⟨j.os,j.tape,j.output,j.size,λS n _=>j.block S n (by simp)⟩;have A:=kZ (e:=e9) (sz:=sz) (xs:=xs) T.1 z F (f q rfl).2 I J;refine⟨_,_,rfl,T.trans A.1,?_⟩
        have b9:∀b o,ae C (ag L q l) (ag (ai h W0) q (some (.row e9 sz xs 0))) b o->ae C L (ai h W0) b o\/(l.isNil=false/\b=l.b):=by
         rintro b o (h0|⟨k,blk,B,Z,D,cd⟩)
         .exact .inl (.inl h0)
         .by_cases b4:k=q
          .subst b4
           rw[aJ]at B D Z;injection B with B;subst B;exact .inr ⟨Z,D.symm⟩
          .rw[bL b4]at B D Z
           exact .inl (.inr ⟨k,blk,B,Z,D,cd⟩)
        refine .agg _ _ (by simp[E.1]) ?_;intro i p u hp hu;by_cases hi:i<pre.length
        .rw[T1 (by simpa using hi),T0,an hi]at hp
         rw[T1 (by rw[<-E.1];exact hi)]at hu;simp only[UL,T4]at hp;subst hp;exact .pv ((E.2 i _ u (an hi) hu).mono (Pres.sub b9))
        .rw[T5 (by simpa using hi)]at hp
         rw[T5 (by rw[<-E.1];omega)]at hu;simp only[Uu]at hp
         have b3:i-pre.length=0:=by
          have:=(th.1 hp).1;simp at this;omega
         rw[<-E.1,b3]at hu;rw[b3]at hp;simp only[Vb,T4]at hp hu;subst hp;subst hu;exact A.2
       .cases a
      .cases a
     .exact he.elim
end
theorem DP(e:yY P t name=some f)(n:Nat):(method (n+1) t v name).run P w=.ok (f,v) w:=by
 unfold yY at e;split at e
 .rename_i i hi
  split at e
  .rename_i m c
   split at e
   .rename_i hp
    have g:m.path.toList=[]:=by
     grind
    rw[method];simp only[Sem.run_bind,ni hi,Result.andThen_ok,c,g,follow]
    cases a:m.func with
    |none=>rw[a]at e;simp at e
    |some q=>
     obtain⟨j,b⟩:=q;rw[a]at e
     cases b with
     |true=>simp at e
     |false=>
      cases hd:P.underlying t with
      |none=>rw[hd]at e;simp at e
      |some d=>
       rw[hd]at e;simp only[Sem.run_pure,Result.andThen_ok,Sem.run_bind,receiverAt,dL hd]
       cases d<;>first|(simp at e;done)|(simp at e;subst e;rfl)
   .cases e
  .cases e
 .cases e
theorem Fi(e:yY P t name=some f):(method (P.types.size+Made.depth) t v name).run P w=.ok (f,v) w:=
 DP e (P.types.size+99)
theorem Gv{d:Option Nat}(e:gU P (pX P name x) args d h K):∃t p f,x=.pv (.ifc t p)/\yY P t name=some f/\pX P name x=.fn (.func f) [.pv p] []:=by
 unfold pX at e|-;split at e
 .rename_i t p
  split at e
  .grind
  .simp[gU,cF]at e
 .simp[gU,cF]at e
section
variable {C:Cx} {L:Nat->Loc} {h1 h:Hp} {w:World}
theorem Ca(U:MemL C L h w)(hs:∀k b,h1 k=some b->h k=some b)(l:∀d,o.dst=some d->h1 d=h d/\d<2000000)
 (I:∀x∈o.op.operands,RepA w (ae C L h) L h (ρ x) (a.eval x)){hn:List Nat}{K:cX->Prop}(e:s7 C.P hn o ρ h1 K){next:Act->World->Prop}{Q:Exit->Act->World->Prop}
 (y:∀j u F E,K j->aM C L h w E (ai h j.2) F->RepA F (ae C E (ai h j.2)) E (ai h j.2) j.1 u->next (a.put o.dst u) F):o.wp C.P a w next Q:=by
 have M:i7 (fe C.P hn o ρ h1) K->o.wp C.P a w next Q:=by
  intro e;unfold i7 at e;split at e
  .rename_i j H
   obtain⟨v,W⟩:=j;obtain⟨n,u,F,E,D,X,ha,N⟩:=Fh U hs l I H;unfold Oper.wp;rw[D];rcases X with rfl|⟨rfl,rfl⟩
   .exact y (v,W) u F E e ha N
   .exact y (v,W) undef F E e ha N
  .exact e.elim
 unfold s7 at e;split at e
 .rename_i c z
  split at e
  .rename_i f m
   obtain⟨callee,args,argTypes⟩:=c;simp only at m e;subst m;have hf:RepA w (ae C L h) L h (ρ f) (a.eval f):=I f (by rw[z];simp[Op.operands,Call.operands]);have q:aG w (ae C L h) L h (args.toList.map ρ) (args.toList.map a.eval):=r6 _ (λx G=>I x (by rw[z];simp at G;simp[Op.operands,Call.operands,G]));obtain⟨g,vs,cs,Y,i,j,hK,S⟩:=vo U hs l hf q e;unfold Oper.wp
   have B:(execOp a.eval o).run C.P w=.ok (.enter g (vs.toList++args.toList.map a.eval++cs.toList).toArray) w:=by
    unfold dh at i
    cases s:C.P.funcs[g]? with
    |none=>rw[s]at i;cases i
    |some fn=>
     rw[s]at i;simp only[An,UD,U2,ne_eq]at i
     have O:fn.body.isNone=false:=by cases R:fn.body<;>simp_all
     have A:(vs++args.map a.eval)++cs=(vs.toList++args.toList.map a.eval++cs.toList).toArray:=by
      grind
     unfold execOp;rw[z];simp only[resolve,Y,Deferred.ofValue,pure_bind,Sem.run_bind,Result.andThen_ok,invoke,callFunc,program,Sem.run,s];simp[i.2,O,A]
   rw[B];simp only[Oper.upon];refine S.mono ?_
   grind
  .rename_i r name m
   obtain⟨callee,args,argTypes⟩:=c;simp only at m e;subst m;have D:RepA w (ae C L h) L h (ρ r) (a.eval r):=I r (by rw[z];simp[Op.operands,Call.operands]);have q:aG w (ae C L h) L h (args.toList.map ρ) (args.toList.map a.eval):=r6 _ (λx G=>I x (by rw[z];simp at G;simp[Op.operands,Call.operands,G]));obtain⟨t,p,f,G,V,hi⟩:=Gv e;rw[G]at D;generalize Y:a.eval r=u at D
   cases D with
   |pv D=>cases D with
    |ifc _ _ v N=>
     have hf:RepA w (ae C L h) L h (pX C.P name (ρ r)) (.func (.func f) #[v] #[]):=by
      rw[hi];exact .fn (.func f) [.pv p] [] [v] [] rfl rfl (aG.cons (.pv N) .nil).2 aG.nil.2
     obtain⟨g,vs,cs,Z,i,j,hK,S⟩:=vo U hs l hf q e;injection Z with J e2 e3;injection J with J;subst J;subst e2;subst e3;unfold Oper.wp
     have B:(execOp a.eval o).run C.P w=.ok (.enter f (#[v].toList++args.toList.map a.eval++#[].toList).toArray) w:=by
      unfold dh at i
      cases s:C.P.funcs[f]? with
      |none=>rw[s]at i;cases i
      |some fn=>
       rw[s]at i;simp only[An,UD,U2,ne_eq]at i
       have O:fn.body.isNone=false:=by cases R:fn.body<;>simp_all
       have A:#[v]++args.map a.eval=(#[v].toList++args.toList.map a.eval++#[].toList).toArray:=by
        apply Array.ext';simp
       have T:(#[Value.iface t v]++args.map a.eval).extract 1 (#[Value.iface t v]++args.map a.eval).size=args.map a.eval:=by
        apply Array.ext';simp;exact Up (by simp)
       have h0:(#[Value.iface t v]++args.map a.eval)[0]?=some (.iface t v):=by rw[UC (by simp)];rfl
       unfold execOp;rw[z];simp only[resolve,Y,pure_bind,Sem.run_bind,Result.andThen_ok,invoke,h0,callMethod,T];rw[show Sem.run C.P program w=.ok C.P w from rfl,Result.andThen_ok,Fi V,Result.andThen_ok];simp only[callFunc,program,Sem.run_bind,Sem.run,s,Result.andThen_ok];rw[A];simp[i.2,O]
     rw[B];simp only[Oper.upon];refine S.mono ?_;rintro J F ⟨r,E,rfl,hA,D⟩;exact y j r F E hK hA D
  grind
 grind
end
def j9(P:Program)(ds:List Deferred):Prop:=∀d∈ds,∃g cap,d.target=.fn (.func g) cap/\fx P g
theorem j9.nil(P:Program):j9 P []:=λd h=>by simp at h
def gy(C:Cx)(st:St)(a:Act)(w:World):Prop:=
 ∃L,MemL C L st.h w/\a.tmps.size=C.N/\j9 C.P a.defers/\∀n,RepA w (ae C L st.h) L st.h (st.t n) (a.tmps.getD n undef)
theorem dj(b:∀n,RepA w (ae C L st.h) L st.h (st.t n) (a.tmps.getD n undef))(x:Operand):RepA w (ae C L st.h) L st.h (st.ev x) (a.eval x):=by
 cases x with
 |tmp n=>exact b n
 |const v=>exact .pv (.val v)
 |global g=>exact .undef _
 |func f=>exact .pv (.val _)
theorem ry(hd:d<a.tmps.size)(n:Nat):(a.put (some d) u).tmps.getD n undef=if n=d then u else a.tmps.getD n undef:=by
 simp only[Act.put,T7]
 grind
theorem gy.put(_:MemL C L st.h w)(hN:a.tmps.size=C.N)(f:j9 C.P a.defers)(i:∀n,RepA w (ae C L st.h) L st.h (st.t n) (a.tmps.getD n undef))
 {d:Option Nat}(hd:dr C.N d=true){v:AV}{W:List (Nat×Blk)}{u:Value}{g:World}{L':Nat->Loc}(c:aM C L st.h w L' (ai st.h W) g)(j:RepA g (ae C L' (ai st.h W)) L' (ai st.h W) v u):
 gy C (st.put d v W) (a.put d u) g:=by
 refine⟨L',c.1,?_,?_,λn=>?_⟩
 .cases d<;>simp[Act.put,hN]
 .cases d<;>exact f
 .have b:=(i n).mono c.2.1 c.2.2
  cases d with
  |none=>exact b
  |some d=>
   have e:d<a.tmps.size:=by rw[hN];simp only[dr,An,L4]at hd;exact hd.1
   rw[ry e];simp only[St.put,ag]
   grind
theorem eJ{t:Nat->AV}(k:∀n,RepA w (ae C L h) L h (t n) (a.tmps.getD n undef)){g:Bool}(e:fP ops t o.guard=some g):
 Region.wanted o (yielded ops a.tmps)=g:=by
 unfold fP at e;unfold Region.wanted;split at e
 .grind
 .rename_i j want l
  rw[l];simp only;split at e
  .rename_i d hd
   split at e
   .rename_i b f
    injection e with e;subst e;have:=k d;rw[f]at this
    have c:a.tmps.getD d undef=.bool b:=by cases this with|pv hr=>exact aR hr
    have i:a.tmps[d]?=some (.bool b):=by
     rw[T7]at c
     cases hq:a.tmps[d]? with
     |none=>rw[hq]at c;simp[undef]at c
     |some q=>rw[hq]at c;simp at c;rw[c]
    unfold yielded
    grind
   .rename_i q f
    injection e with e;subst e;have:=k d;rw[f]at this
    have c:a.tmps.getD d undef=.tuple q:=by cases this with|pv hr=>exact aR hr
    rw[T7]at c;unfold yielded
    grind
   .cases e
  .cases e
theorem Oper.wp_defer{c:Call}(i:o.op=.defer c){f:Operand}(hf:c.callee=.value f)(e:c.args.size=0){vs:Array Value}(j:a.eval f=.func (.func g) vs cs)
 {next:Act->World->Prop}{Q:Exit->Act->World->Prop}(h:next (({a with defers:={target:=.fn (.func g) cs,args:=vs}::a.defers}:Act).put o.dst undef) w):o.wp P a w next Q:=by
 unfold Oper.wp;have b:c.args=#[]:=Array.size_eq_zero_iff.1 e
 have d:(execOp a.eval o).run P w=.ok (.defer {target:=.fn (.func g) cs,args:=vs}) w:=by
  unfold execOp;rw[i];simp only[resolve,hf,j,Deferred.ofValue,b,pure_bind,Sem.run_bind,Sem.run_pure,Result.andThen_ok];simp
 rw[d];exact h
theorem Gw{f:Fn}(a:RepA w M L h (.fn f first caps) u):∃vs cs,u=.func f vs cs:=by
 cases a with
 |fn _ _ _ vs us d c h1 b=>exact⟨_,_,rfl⟩
theorem uQ(_:MemL C L h w)(i:RepA w (ae C L h) L h x u)(e:qU h x=true):∃a n c,u=.slice a n c:=by
 unfold qU at e;split at e
 .cases i with
  |pv g=>
   cases g with
   |sl0 a c=>exact⟨_,_,_,rfl⟩
   |sl xs b o c p u f s r g=>exact⟨_,_,_,rfl⟩
 .rename_i k n
  split at e
  .rename_i e0 p xs q j
   simp only[An,L4]at e
   cases i with
   |arr d l m=>
    rw[j]at d;injection d with d;injection d with a1 a2 a3 a4;subst a3;rw[m e.1,Loc.slice];split<;>exact⟨_,_,_,rfl⟩
  .cases e
 .cases e
theorem wA(p:MemL C L st.h w)(hN:a.tmps.size=C.N)(m:j9 C.P a.defers)(q:∀n,RepA w (ae C L st.h) L st.h (st.t n) (a.tmps.getD n undef))
 {o:Oper}(hd:dr C.N o.dst=true){hn:List Nat}{K:cX->Prop}(e:vh C.P hn o st.ev st.h K){next:Act->World->Prop}{Q:Exit->Act->World->Prop}
 (i:∀j E D,K j->gy C (st.put o.dst j.1 j.2) E D->next E D):o.wp C.P a w next Q:=by
 have v:s7 C.P hn o st.ev st.h K->o.wp C.P a w next Q:=λe=>
  Ca p (λ_ _ h=>h) (λd z=>⟨rfl,by rw[z]at hd;simp only[dr,An,L4]at hd;exact hd.2⟩) (λx _=>dj q x) e (λj u D L' V S B=>i j _ _ V (gy.put p hN m q hd S B))
 unfold vh at e;split at e
 .rename_i c k
  split at e
  .rename_i f r
   split at e
   .rename_i R
    unfold D7 at e;split at e
    .rename_i g first caps A
     obtain⟨vs,cs,B⟩:=Gw (by have:=dj q f;rw[A]at this;exact this);refine Oper.wp_defer k r R B (i _ _ _ e.2 ?_)
     have hq:j9 C.P ({target:=.fn (.func g) cs,args:=vs}::a.defers):=by
      intro d l;rcases Uq.1 l with rfl|l
      .grind
      .exact m d l
     exact gy.put (a:={a with defers:={target:=.fn (.func g) cs,args:=vs}::a.defers}) p hN hq q hd (W:=[]) (aM.refl p) (.undef _)
    .exact e.elim
   .exact e.elim
  .exact e.elim
 .rename_i op t x y t' k
  split at e
  .rename_i G
   simp only[An,UQ,UP]at G;obtain⟨⟨⟨I,J⟩,M⟩,c4⟩:=G;have Y:=xY I (dj q y);obtain⟨F,n,c,X⟩:=uQ p (dj q x) M
   obtain⟨b,U⟩:∃b:Bool,(op=.eql/\b=F.isNone)\/(op=.neq/\b=!F.isNone):=by
    grind
   have s:(execOp a.eval o).run C.P w=.ok (.value (.bool b)) w:=by
    obtain⟨O,Z,ty,pos,H,g⟩:=o;simp only at k;subst k;exact mC (Af (ru J) X Y U) w
   have T:K (.pv (.val (.bool b)),[]):=by cases b with
    |true=>exact e.1
    |false=>exact e.2
   unfold Oper.wp;rw[s];exact i _ _ _ T (gy.put p hN m q hd (W:=[]) (aM.refl p) (.pv (.val _)))
  grind
 grind
theorem iX{C:Cx}{hn:List Nat}{ops:Array Oper}{Q:St->Prop}{Q':Exit->Act->World->Prop}(j:∀st a w,gy C st a w->Q st->Q' .normal a w):
 ∀{l:List Oper}{st:St}{a:Act}{w:World},gy C st a w->dR C.P hn C.N ops Q l st->wpList C.P ops Q' l a w
 |[],st,a,w,r,e=>j st a w r e
 |o::l,st,a,w,r,e=>by
  obtain⟨L,k,hN,f,i⟩:=r;simp only[dR]at e;obtain⟨hd,e⟩:=e;refine wpList_step (λK n=>?_);split at e
  .rename_i p
   rw[eJ i (pg p),T6 rfl];exact wA k hN f i hd e (λm s u q c=>n _ _ (iX j c q))
  .rename_i d b want p
   rw[eJ i (mB p)];unfold xe at e;simp only at e;split at e
   .rename_i g
    subst g;rw[T6 (by simp)];exact wA k hN f i hd e (λm s u q c=>n _ _ (iX j c q))
   .rename_i g
    rw[TZ (by simpa using g)];exact n _ _ (iX j (gy.put k hN f i hd (W:=[]) (aM.refl k) (.pv (.val _))) e)
  .exact e.elim
def WP(C:Cx)(c:Code)(Q:Exit->St->Prop)(st:St):Prop:=∀a w,gy C st a w->c.wp C.P (λe d f=>∃b,gy C b d f/\Q e b) a w
section
variable {C:Cx} {Q:Exit->St->Prop} {st:St}
theorem WP.region(h:dR C.P hn C.N ops (Q .normal) ops.toList st):WP C (.region id ops false) Q st:=
 λ_ _ c=>wp_region_list (iX (λb _ _ a hq=>⟨b,a,hq⟩) c h)
def Cb(C:Cx)(y:Code)(Q:Exit->St->Prop):Exit->St->Prop
 |.normal,st=>WP C y Q st
 |e,st=>Q e st
theorem WP.seq{x:Code}(h:WP C x (Cb C y Q) st):WP C (.seq x y) Q st:=by
 intro a w f;refine wp_seq (wp_mono (h a w f) ?_);rintro e d g ⟨c,b,hq⟩
 cases e with
 |normal=>exact hq d g b
 |_=>exact⟨c,b,hq⟩
theorem WP.mono{Q':Exit->St->Prop}(h:WP C c Q st)(hq:∀e st,Q e st->Q' e st):WP C c Q' st:=
 λa w g=>wp_mono (h a w g) (λe _ _ ⟨b,f,d⟩=>⟨b,f,hq e b d⟩)
theorem WP.skip(h:Q .normal st):WP C .skip Q st:=λ_ _ a=>wp_skip ⟨st,a,h⟩
theorem WP.ret(h:Q .ret st):WP C .ret Q st:=λ_ _ a=>wp_ret ⟨st,a,h⟩
theorem WP.exit(h:Q (.exit id) st):WP C (.exit id) Q st:=λ_ _ a=>wp_exit ⟨st,a,h⟩
theorem WP.cond{c:Operand}{x:Code}(i:st.ev c=.pv (.val (.bool b)))(l:b=true->WP C x Q st)(hf:b=false->WP C y Q st):WP C (.cond c x y) Q st:=by
 intro a w f
 have d:a.eval c=.bool b:=by
  obtain⟨L,m,hN,j,g⟩:=f;have:=dj g c;rw[i]at this
  cases this with
  |pv k=>exact aR k
 exact wp_cond_split d (λe=>l e a w f) (λe=>hf e a w f)
def r7(id:Nat)(Q:Exit->St->Prop):Exit->St->Prop
 |.exit i,st=>if i=id then Q .normal st else Q (.exit i) st
 |e,st=>Q e st
theorem WP.block(h:WP C c (r7 id Q) st):WP C (.block id c) Q st:=by
 intro a w f;refine wp_block (wp_mono (h a w f) ?_);rintro e g j ⟨d,b,hq⟩
 cases e with
 |exit i=>
  simp only[r7,Exit.inBlock]at hq|-
  grind
 |_=>exact⟨d,b,hq⟩
def aL(ks:List Nat):AV->Bool
 |.pv _=>false
 |.ptr k _|.arr k _|.eptr k _ _ _=>ks.contains k
 |.ext x=>ks.contains x.key
 |_=>true
def bB(ks:List Nat):AV->Bool
 |.agg cs=>cs.any (aL ks)
 |.fn _ first caps=>first.any (aL ks)||caps.any (aL ks)
 |.tup _=>true
 |x=>aL ks x
def aB(ks:List Nat)(x:AV):AV:=if bB ks x=true then .undef else x
def bT(ks:List Nat):Blk->Blk
 |.box cs own a=>.box (cs.map (aB ks)) own a
 |b=>b
def St.kill(ks:List Nat)(st:St):St:=⟨λn=>aB ks (st.t n),λk=>if ks.contains k=true then none else(st.h k).map (bT ks)⟩
def zd(ks:List Nat)(h:Hp):Hp:=λk=>if ks.contains k=true then none else h k
theorem qW{blk:Blk}(a:ks.contains k=false)(b:h k=some blk):zd ks h k=some blk:=by
 unfold zd;rw[TZ (by rw[a];decide),b]
theorem ko(hd:aL ks x=false)(i:RepA w M L h x u):RepA w M L (zd ks h) x u:=by
 cases i with
 |pv f=>exact .pv f
 |ptr a=>exact .ptr (qW (by simpa only[aL]using hd) a)
 |arr a hn b=>exact .arr (qW (by simpa only[aL]using hd) a) hn b
 |eptr a hn b=>exact .eptr (qW (by simpa only[aL]using hd) a) hn b
 |ext d=>
  cases d with
  |barr e a=>exact .ext (.barr e (qW (by simpa only[aL,XV.key]using hd) a))
  |mp a=>exact .ext (.mp (qW (by simpa only[aL,XV.key]using hd) a))
  |suf c a hn g b=>exact .ext (.suf c (qW (by simpa only[aL,XV.key]using hd) a) hn g b)
 |agg=>cases hd
 |fn=>cases hd
 |tup=>cases hd
 |undef=>cases hd
theorem AS(m:RepA w M L h x u):RepA w M L (zd ks h) (aB ks x) u:=by
 unfold aB;split
 .exact .undef _
 .rename_i hd
  have hd:bB ks x=false:=by simpa using hd
  have d:∀{cs:List AV}{i:Nat}{p:AV},cs.any (aL ks)=false->cs[i]?=some p->aL ks p=false:=by
   grind
  cases m with
  |agg cs vs e k=>exact .agg cs vs e (λi p u a b=>ko (d hd a) (k i p u a b))
  |fn f first caps vs us e c h1 j=>
   have hd:(first.any (aL ks)||caps.any (aL ks))=false:=hd;rw[Ve]at hd
   exact .fn f first caps vs us e c (λi p u a b=>ko (d hd.1 a) (h1 i p u a b)) (λi p u a b=>ko (d hd.2 a) (j i p u a b))
  |tup=>cases hd
  |undef=>exact .undef _
  |pv l=>exact ko hd (.pv l)
  |ptr c=>exact ko hd (.ptr c)
  |arr c hn b=>exact ko hd (.arr c hn b)
  |eptr c hn b=>exact ko hd (.eptr c hn b)
  |ext g=>exact ko hd (.ext g)
theorem vp(ks:List Nat)(b:Blk)(l:Loc):eg b l (bT ks b) l:=by cases b<;>simp[eg,bT]
theorem Ea:KC L (zd ks h) L (λk=>if ks.contains k=true then none else(h k).map (bT ks)):=by
 intro k a b;unfold zd at b;split at b
 .cases b
 .rename_i c
  exact⟨bT ks a,by simp only[TZ c,b];rfl,vp ks a _⟩
theorem vq(hp:Pres w M w M')(a:RepA w M L h x u):
 RepA w M' L (λk=>if ks.contains k=true then none else(h k).map (bT ks)) (aB ks x) u:=(AS a).mono hp Ea
theorem gy.kill(ks:List Nat)(hs:gy C st a w):gy C (st.kill ks) a w:=by
 obtain⟨L,l,hN,A,Y⟩:=hs
 have f:∀k c,(st.kill ks).h k=some c->∃d,st.h k=some d/\bT ks d=c/\c.live (L k)=d.live (L k)/\∀o,c.frz o=d.frz o:=by
  intro k c g;simp only[St.kill]at g;split at g
  .cases g
  .simp only[TX]at g
   obtain⟨d,h1,rfl⟩:=g;exact⟨d,h1,rfl,by cases d<;>rfl,λo=>by cases d<;>rfl⟩
 have U:∀b o,ae C L (st.kill ks).h b o->ae C L st.h b o:=by
  rintro b o (R|⟨k,c,g,D,V,hf⟩)
  .exact .inl R
  .obtain⟨d,h1,_,S,T⟩:=f k c g
   exact .inr ⟨k,d,h1,S▸D,V,T o▸hf⟩
 have hp:Pres w (ae C L st.h) w (ae C L (st.kill ks).h):=Pres.sub U;refine⟨L,⟨l.ext,l.m0,?_,?_,?_⟩,hN,A,λn=>vq hp (Y n)⟩
 .intro k c g
  obtain⟨d,h1,rfl,_,_⟩:=f k c g;have:=l.bl k d h1
  cases d with
  |box cs own z=>
   obtain⟨arr,ty,y,r⟩:=this;refine⟨arr,ty,y,by simpa using r.1,λi p u m G=>?_⟩;simp only[T0,TX]at m;obtain⟨q,hq,rfl⟩:=m;exact vq hp (r.2 i q u hq G)
  |row e sz xs z=>
   obtain⟨I,J,a3,a4,K⟩:=this;refine⟨I,J,a3,a4,λhn=>?_⟩;obtain⟨s,v,arr,M,N,O⟩:=K hn;exact⟨s,v,arr,M,N,λi x j p Z W=>by obtain⟨u,G,X⟩:=O i x j p Z W;exact⟨u,G,X.mono hp⟩⟩
  |mp kd n es z=>exact this
 .intro k H s v F g B D E
  obtain⟨P,d1,_,y,_⟩:=f k s g;obtain⟨Q,d2,_,r,_⟩:=f H v B;exact l.sep k H P Q F d1 d2 (y▸D) (r▸E)
 .intro k c g
  obtain⟨d,h1,rfl,_,_⟩:=f k c g;have:=l.own k d h1
  cases d with
  |box cs own z=>cases own<;>exact this
  |row=>exact this
  |mp=>exact this
theorem WP.loop(ks:List Nat)(I:St->Prop)(μ:St->Nat)(A:I (st.kill ks))
 (round:∀st,I st->WP C c (λe d=>match e with|.normal=>I (d.kill ks)/\μ (d.kill ks)<μ st|e=>Q e d) st):WP C (.loop c) Q st:=by
 intro a w u
 have key:∀n st a w,μ st=n->I st->gy C st a w->∀b k cs,∃e o p,(∃d,gy C d o p/\Q e d)/\Arrives C.P (lone (b.at a (.code c::.inLoop c::k)) cs w) b k cs e o p:=by
  intro n
  induction n using Nat.strongRecOn with
  |_ n ih=>
   intro st a w hn z u b k cs;obtain⟨e,j,m,⟨d,g,hq⟩,f⟩:=round st z a w u b (.inLoop c::k) cs
   cases e with
   |normal=>
    obtain⟨q,r⟩:=hq;obtain⟨y,v,B,s,i⟩:=ih (μ (d.kill ks)) (hn▸r) _ j m rfl q (g.kill ks) b k cs;exact⟨y,v,B,s,.of_steps (Steps.trans f (.one step_inLoop)) i⟩
   |exit id=>exact⟨_,j,m,⟨d,g,hq⟩,.pass (x:=.inLoop c) rfl (λ_ _=>.inl (by simp)) f⟩
   |goto l=>exact⟨_,j,m,⟨d,g,hq⟩,.pass (x:=.inLoop c) rfl (λ_ _=>.inl (by simp)) f⟩
   |ret=>exact⟨_,j,m,⟨d,g,hq⟩,.pass (x:=.inLoop c) rfl (λ_ _=>.inl (by simp)) f⟩
   |panic D=>exact⟨_,j,m,⟨d,g,hq⟩,.pass (x:=.inLoop c) rfl (λ_ _=>.inl (by simp)) f⟩
   |outgrown=>exact⟨_,j,m,⟨d,g,hq⟩,.pass (x:=.inLoop c) rfl (λ_ _=>.inl (by simp)) f⟩
 intro b k cs;obtain⟨e,o,p,hq,f⟩:=key _ (st.kill ks) a w rfl A (u.kill ks) b k cs;exact⟨e,o,p,hq,.of_steps (.one step_loop) f⟩
end
def pk(i:Nat):Nat:=1000000+i
def Cc(args:List Arg):Nat->AV:=λn=>match args[n]? with
 |some (.pv p)=>.pv p
 |some (.bx i)=>.ptr (pk i) 0
 |none=>.undef
def tT(hin:List (List PV)):Hp:=λk=>if k<1000000 then none else match hin[k-1000000]? with
 |some a=>some (.box (a.map .pv) false false)
 |none=>none
def rz(args:List Arg)(hin:List (List PV)):St:=⟨Cc args,tT hin⟩
def k8(P:Program)(st:St):List ResultVar->Option (List AV)
 |[]=>some []
 |.tmp t::r=>(k8 P st r).map (st.t t::·)
 |.cell a b::r=>match ak P b with
  |some ti=>match ve ti (st.t a) st.h,k8 P st r with
   |some v,some vs=>some (v::vs)
   |_,_=>none
  |none=>none
def mD(P:Program)(st:St)(rs:List ResultVar):Option AV:=match k8 P st rs with
 |some [v]=>some v
 |some vs=>some (.tup vs)
 |none=>none
def ji(P:Program)(rs:List ResultVar)(hout:List (List PV))(res:RV)(st:St):Prop:=
 ∃r,mD P st rs=some r/\(∀(i:Nat) b,hout[i]?=some b->st.h (pk i)=some (.box (b.map .pv) false false))/\
  (match res with
  |.pv p=>∃W,frz st.h r=some (p,W)
  |.new p=>JK st.h r=some p
  |.box b=>∃k,r=.ptr k 0/\st.h k=some (.box (b.map .pv) true false)
  |.row e a xs=>∃k,r=.arr k xs.length/\st.h k=some (.row e a xs 0)
  |.nrow e a xs=>xs.all lz=true/\∃k,r=.arr k xs.length/\st.h k=some (.row e a xs 0)
  |.srow pre e a xs=>∃k,r=.agg (pre.map .pv++[.arr k xs.length])/\st.h k=some (.row e a xs 0))
def Gx(P:Program)(rs:List ResultVar)(hout:List (List PV))(res:RV):Exit->St->Prop
 |.normal,st=>ji P rs hout res st
 |.ret,st=>ji P rs hout res st
 |_,_=>False
theorem sd(c:dh P g=true)(cap a:Array Value)(w:World):(invoke (.fn (.func g) cap) a).run P w=.ok (.enter g (a++cap)) w:=by
 unfold dh at c
 cases b:P.funcs[g]? with
 |none=>rw[b]at c;cases c
 |some fn=>
  rw[b]at c;simp only[An,UD,U2,ne_eq]at c
  have d:fn.body.isNone=false:=by cases e:fn.body<;>simp_all
  simp only[invoke,callFunc,program,Sem.run_bind,Sem.run,Result.andThen_ok,b];simp[c.2,d]
theorem jd{P:Program}{fn:Func}{tmps:Array Value}{R:Ending->World->Prop}{w:World}{v:Value}:∀{ds:List Deferred},j9 P ds->(results fn tmps).run P w=.ok v w->R (.returned v) w->Leaves P fn tmps R ds .returning w
 |[],_,b,a=>⟨v,b,a⟩
 |d::ds,hq,b,a=>by
  obtain⟨g,cap,f,c⟩:=hq d (by simp);refine⟨by simp,.func g,cap,g,d.args++cap,f,by rw[f];exact sd c.1 _ _ _,(c.2 _ w).mono ?_⟩;rintro e i k ⟨rfl,⟨j,rfl⟩,rfl⟩;exact jd (λd hd=>hq d (by simp[hd])) b a
def Ag(tmps:Array Value):ResultVar->Sem Value
 |.tmp t=>pure (tmps.getD t undef)
 |.cell b t=>do loadVar t (<-asAddr (tmps.getD b undef))
section
variable {C:Cx} {L:Nat->Loc} {st:St} {a:Act} {w:World}
theorem pj(o:MemL C L st.h w)(k:∀n,RepA w (ae C L st.h) L st.h (st.t n) (a.tmps.getD n undef)):∀{rs:List ResultVar}{vs:List AV},k8 C.P st rs=some vs->
 ∃us:List Value,(rs.mapM (Ag a.tmps)).run C.P w=.ok us w/\aG w (ae C L st.h) L st.h vs us
 |[],vs,e=>by
  simp only[k8,T4]at e;subst e;exact⟨[],by simp,aG.nil⟩
 |.tmp t::r,vs,e=>by
  simp only[k8,TX]at e;obtain⟨x,l,rfl⟩:=e;obtain⟨us,h1,m⟩:=pj o k l;refine⟨a.tmps.getD t undef::us,?_,.cons (k t) m⟩;simp only[List.mapM_cons,Ag,Sem.run_bind,Sem.run_pure,Result.andThen_ok,h1]
 |.cell b z::r,vs,e=>by
  simp only[k8]at e;split at e
  .rename_i ti s
   split at e
   .rename_i v x e0 l
    injection e with e;subst e;obtain⟨us,h1,m⟩:=pj o k l;obtain⟨u,c,q⟩:=vk o (λ_ _ h=>h) s (k b) e0;refine⟨u::us,?_,.cons q m⟩
    have d:∃f,a.tmps.getD b undef=.pointer (some f):=by
     unfold Instr.loadAt at c
     cases y:a.tmps.getD b undef with
     |pointer p=>cases p with
      |none=>rw[y]at c;simp[Instr.sureAddr,stuck]at c
      |some f=>exact⟨f,rfl⟩
     |_=>rw[y]at c;simp[Instr.sureAddr,stuck]at c
    obtain⟨f,g⟩:=d;rw[g]at c;have j:(loadVar z f).run C.P w=.ok u w:=c
    have i:(Ag a.tmps (.cell b z)).run C.P w=.ok u w:=by simp only[Ag,g,asAddr,pure_bind,j]
    simp only[List.mapM_cons,Sem.run_bind,i,Sem.run_pure,Result.andThen_ok,h1]
   .cases e
  .cases e
theorem nR(g:MemL C L st.h w)(i:∀n,RepA w (ae C L st.h) L st.h (st.t n) (a.tmps.getD n undef)){r:AV}(e:mD C.P st fn.results.toList=some r):
 ∃u,(results fn a.tmps).run C.P w=.ok u w/\RepA w (ae C L st.h) L st.h r u:=by
 unfold mD at e
 have key:∀vs us,(fn.results.toList.mapM (Ag a.tmps)).run C.P w=.ok us w->aG w (ae C L st.h) L st.h vs us->
  (results fn a.tmps).run C.P w=.ok (if h:us.toArray.size=1 then us.toArray[0]else .tuple us.toArray) w:=by
  intro vs us h1 _;have:results fn a.tmps=(do let vs <-fn.results.mapM (Ag a.tmps);pure (if h:vs.size=1 then vs[0]else .tuple vs)):=rfl;rw[this,Array.mapM_eq_mapM_toList];simp only[Sem.run_bind,Sem.run_map,h1,Result.andThen_ok];rfl
 split at e
 .rename_i v d
  injection e with e;subst e;obtain⟨us,h1,b⟩:=pj g i d;obtain⟨u,j,rfl,k,hn⟩:=b.cons_inv;have:=hn.nil_inv;subst this
  grind
 .rename_i vs c d
  injection e with e;subst e;obtain⟨us,h1,b⟩:=pj g i d;refine⟨.tuple us.toArray,?_,.tup vs us b.1 b.2⟩;rw[key _ _ h1 b]
  have:¬us.length=1:=by
   intro f
   cases vs with
   |nil=>have:=b.1;simp at this;rw[<-this]at f;simp at f
   |cons v r=>cases r with
    |nil=>exact c v rfl
    |cons=>have:=b.1;simp at this;omega
  simp[this]
 .cases e
end
section
variable {C:Cx} {L:Nat->Loc} {h:Hp} {w:World}
abbrev vr(C:Cx):Nat->Nat->Prop:=λb _=>b<C.w0.heap.size
theorem ze(f:MemL C L h w)(l:∀{b:Nat},(C.w0.heap.size<=b\/(C.S b/\∀o,¬C.M0 b o))->C.w0.heap.size<=b)(d:RepA w (ae C L h) L h x u)(e:xS h x=some p):Rep w (vr C) p u:=by
 cases x with
 |pv q=>
  simp only[xS]at e;split at e
  .rename_i hq
   injection e with e;subst e
   cases d with
   |pv G=>exact B9 hq G
  .cases e
 |arr k n=>
  simp only[xS]at e;split at e
  .rename_i J z xs E c
   split at e
   .rename_i s
    injection e with e;subst e
    cases d with
    |arr a F H=>
     rw[c]at a;injection a with a;injection a with g r a3 a4;subst g;subst r;subst a3;subst a4;rw[H s.1];obtain⟨_,_,g3,g4,g5⟩:=f.bl k _ c;unfold Loc.slice
     cases hn:(L k).isNil with
     |true=>rw[g4 hn];exact .sl0 none 0
     |false=>
      obtain⟨g,r,arr,a3,a4,I⟩:=g5 hn;have v:=l ((f.own k _ c).row hn);simp only[T3,Ud];rw[<-s.1];refine .sl xs (L k).b 0 (L k).cap z (λi j=>(arr[i*z+j]?).getD undef) g (λi x d=>g3 x (Is d)) ?_ ?_
      all_goals grind [eT,s8,List.all_eq_true,List.mem_of_getElem?]
   .cases e
  .cases e
 |ext y=>
  cases y with
  |barr=>cases e
  |suf=>cases e
  |mp k=>
   simp only[xS]at e;split at e
   .rename_i kd n D E c
    injection e with e;subst e;obtain⟨arr,clock,A,B⟩:=f.bl k _ c
    cases d with
    |ext m=>cases m with
     |mp _=>
      have K:C.w0.heap.size<=(L k).b:=f.own k _ c;exact .mp kd n D _ arr clock A (λh10=>by have h10:(L k).b<C.w0.heap.size:=h10;omega) B
   .cases e
 |_=>cases e
theorem xk(d:MemL C L h w)(a:∀{b:Nat},(C.w0.heap.size<=b\/(C.S b/\∀o,¬C.M0 b o))->C.w0.heap.size<=b):∀{xs:List AV}{us:List Value}{ps:List PV},aG w (ae C L h) L h xs us->wo h xs=some ps->bY w (vr C) ps us
 |[],us,ps,c,e=>by
  simp only[wo,T4]at e;subst e;rw[c.nil_inv];exact .nil
 |x::r,us,ps,c,e=>by
  simp only[wo]at e;split at e
  .rename_i p k f g
   injection e with e;subst e;obtain⟨u,l,rfl,j,i⟩:=c.cons_inv;exact .cons (ze d a j f) (xk d a i g)
  .cases e
theorem tU(s:MemL C L h w)(g:∀{b:Nat},(C.w0.heap.size<=b\/(C.S b/\∀o,¬C.M0 b o))->C.w0.heap.size<=b)(a:RepA w (ae C L h) L h x u)(e:zW h x=some p):Rep w (vr C) p u:=by
 unfold zW at e;split at e
 .rename_i k n B
  split at e
  .rename_i cs J E
   split at e
   .rename_i hn
    split at e
    .rename_i d G
     split at e
     .rename_i I
      injection e with e;subst e;obtain⟨arr,K,m,f⟩:=s.bl k _ E;have y:=xk s g f G;have F:C.w0.heap.size<=(L k).b:=g (s.own k _ E)
      have l:d.length=n:=by rw[y.1,<-f.1];exact hn
      have one:∀(i:Nat) x(j:Nat) p,d[i]?=some x->x.cells[j]?=some p->j=0/\p=x:=by
       grind [jc,List.all_eq_true,List.mem_of_getElem?]
      have get:∀(i:Nat) p,d[i]?=some p->∃v,arr[i]?=some v/\Rep w (vr C) p v:=by
       intro i p hp
       have r:i<arr.toList.length:=by rw[<-y.1];exact(th.1 hp).1
       have c:arr.toList[i]?=some (arr.toList[i]):=an r;exact⟨_,by rw[<-UN];exact c,y.2 i p _ hp c⟩
      cases a with
      |ext A=>cases A with
       |barr H _=>
        have key:Rep w (vr C) (.sl d) (.slice (some ⟨(L k).b,0,none⟩) d.length B):=by
         refine .sl d (L k).b 0 B 1 (λi _=>(arr[i]?).getD undef) (by omega) (λi x a=>by rw[jc (TY.1 I x (Is a))];rfl) ?_ ?_
         .intro i x j p a q
          obtain⟨rfl,rfl⟩:=one i x j p a q;obtain⟨v,c,_⟩:=get i p a;refine⟨by rw[eT m];simp[c],λD=>?_⟩;have D:(L k).b<C.w0.heap.size:=D;omega
         .intro i x j p a q
          obtain⟨rfl,rfl⟩:=one i x j p a q;obtain⟨v,c,z⟩:=get i p a;simp only[c,Ug];exact z
        rw[l]at key;exact key
     .cases e
    .cases e
   .cases e
  .cases e
 grind [ze]
theorem qB(d:MemL C L h w)(a:∀{b:Nat},(C.w0.heap.size<=b\/(C.S b/\∀o,¬C.M0 b o))->C.w0.heap.size<=b):∀{xs:List AV}{us:List Value}{ps:List PV},aG w (ae C L h) L h xs us->vf h xs=some ps->bY w (vr C) ps us
 |[],us,ps,c,e=>by
  simp only[vf,T4]at e;subst e;rw[c.nil_inv];exact .nil
 |x::r,us,ps,c,e=>by
  simp only[vf]at e;split at e
  .rename_i p k f g
   injection e with e;subst e;obtain⟨u,l,rfl,j,i⟩:=c.cons_inv;exact .cons (tU d a j f) (qB d a i g)
  .cases e
theorem Cd(f:MemL C L h w)(a:∀{b:Nat},(C.w0.heap.size<=b\/(C.S b/\∀o,¬C.M0 b o))->C.w0.heap.size<=b)(D:RepA w (ae C L h) L h x u)(e:yR h x=some p):Rep w (vr C) p u:=by
 unfold yR at e;split at e
 .rename_i k
  split at e
  .rename_i cs F g
   split at e
   .rename_i s z
    obtain⟨arr,G,A,c⟩:=f.bl k _ g;have m:=qB f a c z;have l:C.w0.heap.size<=(L k).b:=a (f.own k _ g)
    have key:∀y:PV,y.cells=s->Rep w (vr C) (.rptr y 0) u:=by
     intro y E
     have get:∀(i:Nat) p,y.cells[i]?=some p->∃v,arr[i]?=some v/\Rep w (vr C) p v:=by
      intro i p hp;rw[E]at hp
      have d:i<arr.toList.length:=by rw[<-m.1];exact(th.1 hp).1
      have n:arr.toList[i]?=some (arr.toList[i]):=an d;exact⟨_,by rw[<-UN];exact n,m.2 i p _ hp n⟩
     cases D with
     |ptr _=>
      refine .rptr y (L k).b 0 0 (λj=>(arr[j]?).getD undef) (λj p B=>?_) (λj p B=>?_)
      all_goals grind [get,eT]
    split at e
    .rename_i hq
     injection e with e;subst e
     exact key _ (by cases s with
      |nil=>simp[jA]at hq
      |cons q r=>cases r with
       |nil=>simp only[jA]at hq;exact jc hq
       |cons _ _=>simp[jA]at hq)
    grind [kY]
   .cases e
  .cases e
 grind [tU]
theorem uR(d:MemL C L h w)(a:∀{b:Nat},(C.w0.heap.size<=b\/(C.S b/\∀o,¬C.M0 b o))->C.w0.heap.size<=b):∀{xs:List AV}{us:List Value}{ps:List PV},aG w (ae C L h) L h xs us->qR h xs=some ps->bY w (vr C) ps us
 |[],us,ps,c,e=>by
  simp only[qR,T4]at e;subst e;rw[c.nil_inv];exact .nil
 |x::r,us,ps,c,e=>by
  simp only[qR]at e;split at e
  .rename_i p k f g
   injection e with e;subst e;obtain⟨u,l,rfl,j,i⟩:=c.cons_inv;exact .cons (Cd d a j f) (uR d a i g)
  .cases e
theorem GA(i:MemL C L h w)(c:∀{b:Nat},(C.w0.heap.size<=b\/(C.S b/\∀o,¬C.M0 b o))->C.w0.heap.size<=b)(k:RepA w (ae C L h) L h x u)(e:JK h x=some p):Rep w (vr C) p u:=by
 unfold JK at e;split at e
 .rename_i f first caps
  split at e
  .rename_i j qs d l
   injection e with e;subst e
   cases k with
   |fn _ _ _ vs us g n h1 m=>
    have a:=qB i c ⟨g,h1⟩ d;have b:=uR i c ⟨n,m⟩ l;exact .fn f j qs vs us a.1 b.1 a.2 b.2
  .cases e
 .rename_i vs
  split at e
  .rename_i j d
   injection e with e;subst e
   cases k with
   |tup _ us g h1=>
    have a:=qB i c ⟨g,h1⟩ d;exact .tup j us a.1 a.2
  .cases e
 grind [tU]
end
theorem Ah(hf:P.funcs[f]?=some fn)(l:fn.body=some c)(ad:dh P f=true){args:List Arg}(a8:args.length<=fn.ntmps)
 (b4:hout.length=hin.length)(b0:∀(i j:Nat),args[i]?=some (.bx j)->j<hin.length)
 (h:∀C:Cx,C.P=P->C.N=fn.ntmps->WP C c (Gx P fn.results.toList hout res) (rz args hin)):bf P f args hin hout res:=by
 refine⟨ad,b4,λw M F vs hM a7 ca I a6 U=>?_⟩
 let C:Cx:={P:=P,N:=fn.ntmps,M0:=M,S:=λb=>b∈F,pb:=λk=>if k<1000000 then none else F[k-1000000]?,w0:=w}
 let L:Nat->Loc:=λk=>⟨(F[k-1000000]?).getD 0,0,false⟩
 have X:∀k s,(rz args hin).h k=some s->∃i E b,k=pk i/\hin[i]?=some E/\F[i]?=some b/\s=.box (E.map .pv) false false:=by
  intro k s a;simp only[rz,tT]at a;split at a
  .cases a
  .rename_i b9
   split at a
   .rename_i E y
    injection a with a
    have g:k-1000000<F.length:=by rw[a7];exact(th.1 y).1
    exact⟨k-1000000,E,F[k-1000000],by unfold pk;omega,y,an g,a.symm⟩
   .cases a
 have R:∀i b,F[i]?=some b->(L (pk i)).b=b:=by
  intro i b l;show(F[pk i-1000000]?).getD 0=b;rw[show pk i-1000000=i from by unfold pk;omega,l];rfl
 have a5:∀b o,ae C L (rz args hin).h b o↔M b o:=by
  intro b o;constructor
  .rintro(h0|⟨k,s,a,hl,l,hf⟩)
   all_goals grind
  .exact .inl
 have ar:ae C L (rz args hin).h=M:=by funext b o;exact propext (a5 b o)
 have bq:gy C (rz args hin) {tmps:=vs.toArray++Array.replicate (fn.ntmps-vs.toArray.size) undef,defers:=[]} w:=by
  refine⟨L,⟨Ext.refl _ _,hM,?_,?_,?_⟩,by show(vs.toArray++Array.replicate (fn.ntmps-vs.toArray.size) undef).size=fn.ntmps;simp;omega,j9.nil _,λn=>?_⟩
  .intro k s a
   obtain⟨i,E,b,rfl,y,l,rfl⟩:=X k s a;obtain⟨arr,ty,e1,e2⟩:=(I i b E l y).2;refine⟨arr,ty,by rw[R i b l];exact e1,?_⟩
   grind [aG.map_pv]
  .grind [List.getElem?_eq_some_iff,List.getElem_inj]
  .intro k s a
   obtain⟨i,E,b,rfl,y,l,rfl⟩:=X k s a;refine⟨rfl,?_,?_,?_,?_⟩
   .rw[R i b l]
    show(if pk i<1000000 then none else F[pk i-1000000]?)=some b;rw[TZ (by unfold pk;omega),show pk i-1000000=i from by unfold pk;omega,l]
   .grind
   .rw[R i b l];exact hM b 0 ((I i b E l y).1 0)
   grind
  .rw[ar]
   simp only[rz,Cc];split
   .rename_i p hp
    have g:n<vs.length:=by rw[<-a6];exact(th.1 hp).1
    have:=U n (.pv p) vs[n] hp (an g)
    have K:(vs.toArray++Array.replicate (fn.ntmps-vs.toArray.size) undef).getD n undef=vs[n]:=by
     rw[T7,UC (by simpa using g)];simp[g]
    simp only[K];exact .pv this
   .rename_i j hp
    have g:n<vs.length:=by rw[<-a6];exact(th.1 hp).1
    obtain⟨b,l,hv⟩:=U n (.bx j) vs[n] hp (an g)
    have K:(vs.toArray++Array.replicate (fn.ntmps-vs.toArray.size) undef).getD n undef=vs[n]:=by
     rw[T7,UC (by simpa using g)];simp[g]
    simp only[K];rw[hv,<-R j b l];have hj:=b0 n j hp;refine .ptr (cs:=(hin[j]).map .pv) (own:=false) (fz:=false) ?_;simp only[tT,TZ (show¬pk j<1000000 by unfold pk;omega),show pk j-1000000=j from by unfold pk;omega]
    grind
   .exact .undef _
 refine calls_of_wp_defers hf l (wp_mono (h C rfl rfl _ w bq) ?_)
 have V:∀(Z:Act) Q A,gy C A Z Q->ji P fn.results.toList hout res A->j9 P Z.defers/\∃v,(results fn Z.tmps).run P Q=.ok v Q/\
  ∃v',Ending.returned v=.returned v'/\Ext (·∈F) w Q/\(∀(i:Nat) b E,F[i]?=some b->hout[i]?=some E->kT Q M b E)/\yZ w Q M res v':=by
  rintro Z Q A ⟨H,B,hN,b3,ht⟩ ⟨r,T,b7,m⟩;obtain⟨u,b8,G⟩:=nR (C:=C) B ht T;have D:∀b o,M b o->ae C H A.h b o:=λb o h=>.inl h
  have J:∀{b:Nat},(C.w0.heap.size<=b\/(C.S b/\∀o,¬C.M0 b o))->w.heap.size<=b:=by
   intro b h9;rcases h9 with h9|⟨h9,h10⟩
   .exact h9
   .obtain⟨i,hi⟩:=Vf.1 (show b∈F from h9)
    have g:i<hin.length:=by rw[<-a7];exact(th.1 hi).1
    exact absurd ((I i b hin[i] hi (an g)).1 0) (h10 0)
  refine⟨b3,u,b8,u,rfl,B.ext,?_,?_⟩
  .intro i b E l y
   have a:=b7 i E y;obtain⟨arr,ty,e1,e2⟩:=B.bl _ _ a;have q:=B.own _ _ a
   have bb:C.pb (pk i)=some b:=by
    show(if pk i<1000000 then none else F[pk i-1000000]?)=some b;rw[TZ (by unfold pk;omega),show pk i-1000000=i from by unfold pk;omega,l]
   have bH:(H (pk i)).b=b:=by
    have:=q.2.1;rw[bb]at this;injection this with this;exact this.symm
   rw[bH]at e1;exact⟨arr,ty,e1,e2.map_pv_inv.mono (Pres.sub D)⟩
  .cases res with
   |pv p=>
    obtain⟨W,hW⟩:=m;obtain⟨b1,b2,_⟩:=nh B (db.refl _) G hW;exact b2.mono (Pres.sub (λb o h=>.inl h))
   |new p=>exact GA B J G m
   |box E=>
    obtain⟨k,rfl,a⟩:=m;obtain⟨arr,ty,e1,e2⟩:=B.bl _ _ a;have q:=J (B.own _ _ a)
    cases G with
    |ptr _=>
     refine⟨(H k).b,q,rfl,arr,ty,e1,e2.map_pv_inv.mono (Pres.sub ?_)⟩;rintro b o (h|rfl)
     .exact .inl h
     .exact .inr ⟨k,_,a,trivial,rfl,by simp[Blk.frz]⟩
   |row e sz xs=>
    obtain⟨k,rfl,a⟩:=m;have q:=B.own _ _ a;have l:=B.bl _ _ a
    have z:u=(H k).slice xs.length:=by
     cases G with
     |arr d ba Y=>
      rw[a]at d;injection d with d;injection d with a1 a2 a3 a4;subst a3;exact Y rfl
    refine⟨H k,z,λhn=>J (q.row hn),?_⟩;obtain⟨c1,c2,c3,c4,c5⟩:=l;refine⟨c1,UO _,c3,c4,λhn=>?_⟩;obtain⟨d1,d2,arr,d3,d4,d5⟩:=c5 hn;refine⟨d1,d2,arr,d3,d4,λi x j p hx hj=>?_⟩;obtain⟨v,hv,T⟩:=d5 i x j p hx hj;refine⟨v,hv,T.mono (Pres.sub ?_)⟩;rintro b o (h|⟨_,rfl⟩)
    .exact .inl h
    .exact .inr ⟨k,_,a,hn,rfl,by simp[Blk.frz]⟩
   |nrow e sz xs=>
    obtain⟨b5,k,rfl,a⟩:=m;have q:=B.own _ _ a;have l:=B.bl _ _ a
    have z:u=(H k).slice xs.length:=by
     cases G with
     |arr d ba Y=>
      rw[a]at d;injection d with d;injection d with a1 a2 a3 a4;subst a3;exact Y rfl
    refine⟨b5,H k,z,λhn=>J (q.row hn),?_⟩;obtain⟨c1,c2,c3,c4,c5⟩:=l;refine⟨c1,UO _,c3,c4,λhn=>?_⟩;obtain⟨d1,d2,arr,d3,d4,d5⟩:=c5 hn;refine⟨d1,d2,arr,d3,d4,λi x j p hx hj=>?_⟩;obtain⟨v,hv,T⟩:=d5 i x j p hx hj;refine⟨v,hv,T.mono (Pres.sub ?_)⟩;rintro b o (h|⟨_,rfl⟩)
    .exact .inl h
    .exact .inr ⟨k,_,a,hn,rfl,by simp[Blk.frz]⟩
   |srow pre e sz xs=>
    obtain⟨k,rfl,a⟩:=m;have q:=B.own _ _ a;have l:=B.bl _ _ a
    cases G with
    |agg _ us hl hh=>
     have a8:us.length=pre.length+1:=by simpa using hl.symm
     have g:pre.length<us.length:=by omega
     have O:=hh pre.length (.arr k xs.length) us[pre.length] (by rw[T5 (by simp)];simp) (an g)
     have z:us[pre.length]=(H k).slice xs.length:=by
      generalize us[pre.length]=u at O
      cases O with
      |arr d ba Y=>
       rw[a]at d;injection d with d;injection d with a1 a2 a3 a4;subst a3;exact Y rfl
     have D:∀b o,(M b o\/((H k).isNil=false/\b=(H k).b))->ae C H A.h b o:=by
      rintro b o (h|⟨hn,rfl⟩)
      .exact .inl h
      .exact .inr ⟨k,_,a,hn,rfl,by simp[Blk.frz]⟩
     refine⟨H k,us.take pre.length,?_,λhn=>J (q.row hn),⟨by rw[UI];omega,λi p u hp Y=>?_⟩,?_⟩
     .congr 1
      rw[<-z,<-UK g,Up (by omega)]
     .have hi:=(th.1 hp).1
      rw[Ur,T6 hi]at Y;have:=hh i (.pv p) u (by rw[T1 (by simpa using hi),T0,hp];rfl) Y
      cases this with
      |pv T=>exact T.mono (Pres.sub D)
     .obtain⟨c1,c2,c3,c4,c5⟩:=l
      refine⟨c1,UO _,c3,c4,λhn=>?_⟩;obtain⟨d1,d2,arr,d3,d4,d5⟩:=c5 hn;refine⟨d1,d2,arr,d3,d4,λi x j p hx hj=>?_⟩;obtain⟨v,hv,T⟩:=d5 i x j p hx hj;exact⟨v,hv,T.mono (Pres.sub D)⟩
 rintro e Z Q ⟨A,bc,hq⟩
 cases e with
 |normal=>obtain⟨h1,v,h2,h3⟩:=V Z Q A bc hq;exact jd h1 h2 h3
 |ret=>obtain⟨h1,v,h2,h3⟩:=V Z Q A bc hq;exact jd h1 h2 h3
 |exit=>exact hq.elim
 |goto=>exact hq.elim
 |panic=>exact hq.elim
 |outgrown=>exact hq.elim
section
variable {V:Type}
def iR(n:Nat)(wr:Nat->Option V)(x0:V)(a:Nat->Bool):V:=(List.range n).foldl (λx i=>if a i=true then(wr i).getD x else x) x0
theorem ku(n:Nat)(wr:Nat->Option V)(x0:V)(a:Nat->Bool):iR (n+1) wr x0 a=if a n=true then(wr n).getD (iR n wr x0 a)else iR n wr x0 a:=by
 simp[iR,Vn,Wg]
theorem ew{wr:Nat->Option V}{x0:V}{ls':Nat->Bool}(h:∀j,j<n->(wr j).isSome=true->ls j=ls' j):iR n wr x0 ls=iR n wr x0 ls':=by
 induction n with
 |zero=>rfl
 |succ n ih=>
  rw[ku,ku,ih (λj b=>h j (by omega))]
  cases a:wr n with
  |none=>simp
  |some v=>rw[h n (by omega) (by simp[a])]
theorem qC{wr:Nat->Option V}{x0:V}(hi:i<=n):iR n wr x0 (λj=>decide (j<i))=iR i wr x0 (λ_=>true):=by
 induction n with
 |zero=>have:i=0:=by omega
        subst this;rfl
 |succ n ih=>
  by_cases e:i=n+1
  .subst e
   refine(ew (λj a _=>?_));simpa using a
  .rw[ku,ih (by omega)]
   have:¬n<i:=by omega
   simp[this]
theorem pm{wr:Nat->Option V}{x0:V}(hi:i<n)(a:(wr i).isSome=true->∀j,i<j->j<n->(wr j).isSome=true->ls j=false):
 iR n wr x0 (λj=>ls j||j==i)=(wr i).getD (iR n wr x0 ls):=by
 cases c:wr i with
 |none=>
  simp only[Option.getD_none];refine ew (λj _ g=>?_)
  have:j≠i:=λe=>by rw[e,c]at g;cases g
  simp[this]
 |some v=>
  simp only[Ug];have k:=a (by simp[c]);clear a
  induction n with
  |zero=>omega
  |succ n ih=>
   rw[ku];by_cases e:n=i
   .subst e;simp[c]
   .have f:=ih (by omega) (λj h1 l=>k j h1 (by omega))
    rw[f]
    have b:(n==i)=false:=by simpa using e
    simp only[b,Bool.or_false]
    cases d:wr n with
    |none=>simp
    |some u=>rw[k n (by omega) (by omega) (by simp[d])];simp
end
def nT(ops:Array Oper)(i j:Nat):Prop:=∃o,ops[j]?=some o/\∃e∈o.after.toList,Region.binds .any e=true/\e.on=i
inductive Pre(ops:Array Oper):Nat->Nat->Prop
 |one {i j:Nat} (h:nT ops i j):Pre ops i j
 |step {i q j:Nat} (h:Pre ops i q) (h':nT ops q j):Pre ops i j
def Ce(acc:List Nat)(a:List Edge):Nat:=a.foldl (λs e=>if Region.binds .any e=true then s ||| 2^e.on ||| acc.getD e.on 0 else s) 0
def kc:List Oper->List Nat->List Nat
 |[],acc=>acc
 |o::r,acc=>kc r (acc++[Ce acc o.after.toList])
theorem zf{acc:List Nat}{i:Nat}:∀(b:List Edge)(s:Nat),(b.foldl (λs e=>if Region.binds .any e=true then s ||| 2^e.on ||| acc.getD e.on 0 else s) s).testBit i=true->
 s.testBit i=true\/∃e∈b,Region.binds .any e=true/\(e.on=i\/(acc.getD e.on 0).testBit i=true)
 |[],s,h=>.inl h
 |e::b,s,h=>by
  simp only[Vr]at h;rcases zf b _ h with a|⟨f,d,c,g⟩
  .split at a
   .rename_i c
    rw[Nat.testBit_or,Nat.testBit_or,UQ,UQ]at a;rcases a with(a|a)|a
    .exact .inl a
    .refine .inr ⟨e,by simp,c,.inl ?_⟩
     rw[Nat.testBit_two_pow]at a;simpa using a
    .exact .inr ⟨e,by simp,c,.inr a⟩
   .exact .inl a
  .exact .inr ⟨f,by simp[d],c,g⟩
theorem tV{ops:Array Oper}:∀{l:List Oper}{acc:List Nat},(∀j,l[j]?=ops[acc.length+j]?)->(∀i j,(acc.getD j 0).testBit i=true->Pre ops i j)->
 ∀i j,((kc l acc).getD j 0).testBit i=true->Pre ops i j
 |[],acc,_,h,i,j,a=>h i j a
 |o::l,acc,k,h,i,j,a=>by
  refine tV (l:=l) (acc:=acc++[Ce acc o.after.toList]) (λj=>?_) ?_ i j a
  .have:=k (j+1)
   simp only[Wb]at this;rw[this];congr 1;simp;omega
  .intro i j a
   by_cases n:j<acc.length
   .refine h i j ?_
    rwa [VV,T1 n,<-VV]at a
   .by_cases c:j=acc.length
    .subst c
     rw[VV,T5 (by omega)]at a;simp only[VW,Vb,Ug,Ce]at a
     have f:ops[acc.length]?=some o:=by have:=k 0;simpa using this.symm
     rcases zf _ _ a with m|⟨e,g,b,d⟩
     .simp at m
     .rcases d with rfl|d
      .exact .one ⟨o,f,e,g,b,rfl⟩
      .exact .step (h i e.on d) ⟨o,f,e,g,b,rfl⟩
    .rw[VV,Ua (by simp;omega)]at a
     simp at a
def Cf(xs:List Operand):List Nat:=xs.filterMap λ|.tmp t=>some t|_=>none
def pF(ops:Array Oper)(o:Oper):List Nat:=Cf o.op.operands.toList++(match o.guard with|some (j,_)=>((ops[j]?).bind (·.dst)).toList|none=>[])
def lE(ops:Array Oper)(x y:Oper):Bool:=
 (match x.dst with|some r=>(pF ops y).contains r||y.dst==some r|none=>false)||(match y.dst with|some r=>(pF ops x).contains r|none=>false)
def GB(ops:Array Oper):Bool:=(List.range ops.size).all λj=>match ops[j]? with
 |some o=>o.after.toList.all λe=>!Region.binds .any e||decide (e.on<j)
 |none=>true
def ke(ops:Array Oper):Bool:=
 let a:=kc ops.toList []
 GB ops&&(List.range ops.size).all λj=>(List.range j).all λi=>match ops[i]?,ops[j]? with
  |some x,some y=>!lE ops x y||(a.getD j 0).testBit i
  |_,_=>true
def Eb:Op->Bool
 |.lookup ..|.mapUpdate ..|.load ..|.store ..|.alloc _|.box ..|.build ..|.buildSlice ..|.indexAddr ..|.fieldAddr ..|.makeSlice ..|.call _|.assign _|.makeInterface ..=>true
 |_=>false
def wC(h:Hp)(k:Nat):List Nat:=match h k with
 |some (.box cs _ _)=>cs.flatMap wk
 |_=>[]
def Ec(h:Hp):AV->List Nat
 |.ptr k _=>wC h k
 |_=>[]
def JN(h:Hp):AV->List Nat
 |.fn _ _ caps=>let b:=caps.flatMap (Ec h);b++b.flatMap (wC h)
 |.ext (.barr k _ _)=>wC h k
 |_=>[]
def GC:Op->Bool
 |.call _=>true
 |_=>false
def mq(o:Oper)(ρ:Operand->AV)(h:Hp):List Nat:=(if Eb o.op then o.op.operands.toList.flatMap λx=>Lh (ρ x)else[])++((if GC o.op then o.op.operands.toList.flatMap λx=>JN h (ρ x)else[])++o.dst.toList)
def bW(K:List Nat)(h:Hp):Hp:=λk=>if K.contains k=true then h k else none
abbrev nU:=List (List Nat×List Nat)
def Cg(a b:List Nat):Bool:=a.all λx=>!b.contains x
def jC(a:List Nat)(acc:nU):Bool:=
 (List.range acc.length).all λj=>(List.range j).all λi=>match acc[i]?,acc[j]? with
   |some (W,K),some (c,b)=>(Cg W b&&Cg c K)||(a.getD j 0).testBit i
   |_,_=>true
def lj(P:Program)(hn:List Nat)(N:Nat)(ops:Array Oper)(Q:nU->St->Prop):List Oper->nU->St->Prop
 |[],acc,st=>Q acc st
 |o::rest,acc,st=>dr N o.dst=true/\(match lA ops st.t o.guard with
   |some none=>s7 P hn o st.ev (bW (mq o st.ev st.h) st.h) (λe=>(e.2.all λc=>(mq o st.ev st.h).contains c.1)=true/\lj P hn N ops Q rest (acc++[(e.2.map (·.1),mq o st.ev st.h)]) (st.put o.dst e.1 e.2))
   |some (some (d,b,want))=>xe b d st (λf a=>if f=want then s7 P hn o a.ev (bW (mq o a.ev a.h) a.h) (λe=>(e.2.all λc=>(mq o a.ev a.h).contains c.1)=true/\lj P hn N ops Q rest (acc++[(e.2.map (·.1),mq o a.ev a.h)]) (a.put o.dst e.1 e.2))
    else lj P hn N ops Q rest (acc++[([],[])]) (a.put o.dst (.pv (.val (.tuple #[]))) []))
   |none=>False)
theorem AT{c:AV}{d:Option Nat}(e:gU P c args d h K):∃a,gU P c args d h (λx=>x=a)/\K a:=by
 unfold gU at e|-;split at e
 .exact e.elim
 .split at e
  .exact e.elim
  .split at e
   .exact e.elim
   .rename_i hd
    split at e
    .exact e.elim
    .obtain⟨hout,res,b,f⟩:=e
     unfold i7 at f;split at f
     .rename_i e0 g
      refine⟨e0,?_,f⟩;simp only[hd];exact⟨hout,res,b,by unfold i7;simp only[g]⟩
     .exact f.elim
theorem GD(e:s7 P hn o ρ h K):∃a,s7 P hn o ρ h (λx=>x=a)/\K a:=by
 have hp:i7 (fe P hn o ρ h) K->∃a,i7 (fe P hn o ρ h) (λx=>x=a)/\K a:=by
  intro e;unfold i7 at e|-;split at e
  .rename_i a _;exact⟨a,rfl,e⟩
  .exact e.elim
 unfold s7 at e|-;split at e
 .split at e
  .rename_i c d f b
   exact AT e
  .exact AT e
  .exact hp e
 .exact hp e
theorem rA(c:∀cs b,o.op≠.select cs b)(h:∀x∈o.op.operands,ρ x=ρ' x):bF P o ρ=bF P o ρ':=by
 unfold bF
 have h1:(o.op.operands.toList.all λx=>(fp (ρ x)).isSome)=(o.op.operands.toList.all λx=>(fp (ρ' x)).isSome):=by
  rw[Bool.eq_iff_iff,TY,TY];constructor
  .intro d x a;rw[<-h x (by simpa using a)];exact d x a
  .intro d x a;rw[h x (by simpa using a)];exact d x a
 have e:execOp (λx=>qA (ρ x)) o=execOp (λx=>qA (ρ' x)) o:=execOp_congr o c (λx a=>by simp only[h x a]);rw[h1,e]
structure Ef where
 d:Option Nat
 v:AV
 W:List (Nat×Blk)
 K:List Nat
 deriving Inhabited
def run(fs:List Ef)(st:St):St:=fs.foldl (λs f=>s.put f.d f.v f.W) st
def lW(P:Program)(o:Oper)(ρ:Operand->AV)(f:Hp)(v:AV)(W:List (Nat×Blk)):Prop:=
 ∀(C:Cx)(L:Nat->Loc)(h:Hp)(w:World)(a:Act),C.P=P->MemL C L h w->(∀k b,f k=some b->h k=some b)->(∀d,o.dst=some d->f d=h d/\d<2000000)->
  (∀x∈o.op.operands,RepA w (ae C L h) L h (ρ x) (a.eval x))->∀(next:Act->World->Prop)(Q:Exit->Act->World->Prop),
  (∀u e c,aM C L h w c (ai h W) e->RepA e (ae C c (ai h W)) c (ai h W) v u->next (a.put o.dst u) e)->o.wp C.P a w next Q
theorem Ed{c:Hp}{v:AV}(e:s7 P hn o ρ c (λx=>x=(v,W))):lW P o ρ c v W:=by
 intro C L h w a hP j k hf m next Q b
 subst hP;refine Ca j k hf m e (λf u n d i g l=>?_);subst i;exact b u n d g l
theorem lW.congr{d:Hp}{v:AV}(i:∀x∈o.op.operands,ρ x=ρ' x)(h:lW P o ρ d v W):lW P o ρ' d v W:=by
 intro C L e w a hP f g hf j next Q b
 exact h C L e w a hP f g hf (λx c=>by rw[i x c];exact j x c) next Q b
def nV(P:Program)(hn:List Nat)(N:Nat)(ops:Array Oper)(o:Oper)(st:St)(f:Ef):Prop:=
 dr N o.dst=true/\f.d=o.dst/\
  ((fP ops st.t o.guard=some true/\(∀d,o.dst=some d->f.K.contains d=true)/\lW P o st.ev (bW f.K st.h) f.v f.W/\(f.W.all λa=>f.K.contains a.1)=true)\/
   (fP ops st.t o.guard=some false/\f.v=.pv (.val (.tuple #[]))/\f.W=[]/\f.K=[]))
theorem s9{P:Program}{hn:List Nat}{N:Nat}{ops:Array Oper}{Q:nU->St->Prop}:∀{l:List Oper}{acc:nU}{st:St},lj P hn N ops Q l acc st->
 ∃fs:List Ef,fs.length=l.length/\(∀(i:Nat) o f,l[i]?=some o->fs[i]?=some f->nV P hn N ops o (run (fs.take i) st) f)/\Q (acc++fs.map λf=>(f.W.map (·.1),f.K)) (run fs st)
 |[],acc,st,e=>⟨[],rfl,λi o f h=>by simp at h,by simpa[lj,run]using e⟩
 |o::l,acc,st,e=>by
  simp only[lj]at e;obtain⟨hd,e⟩:=e
  have fin:∀(f:Ef),nV P hn N ops o st f->lj P hn N ops Q l (acc++[(f.W.map (·.1),f.K)]) (st.put f.d f.v f.W)->
   ∃fs:List Ef,fs.length=(o::l).length/\(∀(i:Nat) p m,(o::l)[i]?=some p->fs[i]?=some m->nV P hn N ops p (run (fs.take i) st) m)/\Q (acc++fs.map λf=>(f.W.map (·.1),f.K)) (run fs st):=by
   intro f hf a;obtain⟨fs,h1,x,y⟩:=s9 a;refine⟨f::fs,by simp[h1],λi p m u k=>?_,?_⟩
   .cases i with
    |zero=>simp at u k;subst u;subst k;exact hf
    |succ i=>exact x i p m (by simpa using u) (by simpa using k)
   .simpa[run,U4]using y
  split at e
  .rename_i n
   obtain⟨c,q,g,a⟩:=GD e;exact fin ⟨o.dst,c.1,c.2,mq o st.ev st.h⟩ ⟨hd,rfl,.inl ⟨pg n,λd j=>by simp[mq,j],Ed q,g⟩⟩ a
  .rename_i d b want n
   unfold xe at e;simp only at e;split at e
   .rename_i s
    subst s;obtain⟨c,q,g,a⟩:=GD e;exact fin ⟨o.dst,c.1,c.2,mq o st.ev st.h⟩ ⟨hd,rfl,.inl ⟨(mB n).trans (by simp),λd j=>by simp[mq,j],Ed q,g⟩⟩ a
   .rename_i r
    exact fin ⟨o.dst,.pv (.val (.tuple #[])),[],[]⟩ ⟨hd,rfl,.inr ⟨(mB n).trans (by simpa using r),rfl,rfl,rfl⟩⟩ e
  .exact e.elim
def jk(W:List (Nat×Blk))(k:Nat):Option (Option Blk):=W.foldl (λx a=>if k=a.1 then some (some a.2)else x) none
theorem qD(k:Nat):∀(W:List (Nat×Blk))(x:Option (Option Blk)),W.foldl (λx a=>if k=a.1 then some (some a.2)else x) x=(match jk W k with|some y=>some y|none=>x)
 |[],x=>by simp[jk]
 |a::W,x=>by
  simp only[Vr,jk];rw[qD k W (if k=a.1 then some (some a.2)else x),qD k W (if k=a.1 then some (some a.2)else none)]
  cases jk W k with
  |some y=>rfl
  |none=>simp only;split<;>rfl
theorem po(k:Nat):∀(W:List (Nat×Blk))(h:Hp),ai h W k=(jk W k).getD (h k)
 |[],h=>rfl
 |a::W,h=>by
  show ai (ag h a.1 (some a.2)) W k=_;rw[po k W]
  have b:jk (a::W) k=(match jk W k with|some y=>some y|none=>if k=a.1 then some (some a.2)else none):=by
   conv=>lhs;unfold jk
   rw[Vr,qD k W (if k=a.1 then some (some a.2)else none)]
  rw[b]
  cases jk W k with
  |some y=>rfl
  |none=>simp only[Option.getD_none,ag];split<;>rfl
theorem vt{k:Nat}:∀{W:List (Nat×Blk)},(jk W k).isSome=true->k∈W.map (·.1)
 |[],h=>by simp[jk]at h
 |kb::W,h=>by
  simp only[jk,Vr]at h;rw[qD k W (if k=kb.1 then some (some kb.2)else none)]at h;by_cases e:k=kb.1
  .simp[e]
  .rw[TZ e]at h
   have:(jk W k).isSome=true:=by cases a:jk W k<;>simp_all
   have:=vt this;simp at this|-;exact .inr this
section
variable (fs:List Ef)
def se(r i:Nat):Option AV:=match fs[i]? with
 |some f=>if f.d=some r then some f.v else none
 |none=>none
def sf(k i:Nat):Option (Option Blk):=match fs[i]? with
 |some f=>jk f.W k
 |none=>none
def fy(n:Nat)(st:St)(a:Nat->Bool):St:=⟨λr=>iR n (se fs r) (st.t r) a,λk=>iR n (sf fs k) (st.h k) a⟩
theorem nW(st:St):∀i,i<=fs.length->∀r,(run (fs.take i) st).t r=iR i (se fs r) (st.t r) (λ_=>true)
 |0,_,r=>by simp[run,iR]
 |i+1,hi,r=>by
  have a:i<fs.length:=by omega
  rw[UK a,ku];simp only[run,Wg,Vr,List.foldl_nil,Ui];have ih:=nW st i (by omega) r;rw[run]at ih
  have b:se fs r i=if fs[i].d=some r then some fs[i].v else none:=by simp[se,an a]
  rw[b,<-ih]
  cases hd:fs[i].d with
  |none=>simp[St.put]
  |some d=>
   simp only[St.put,ag,T4];by_cases e:d=r
   .subst e;simp
   .rw[TZ (λh=>e h.symm),TZ e];rfl
theorem nX(st:St):∀i,i<=fs.length->∀k,(run (fs.take i) st).h k=iR i (sf fs k) (st.h k) (λ_=>true)
 |0,_,r=>by simp[run,iR]
 |i+1,hi,r=>by
  have a:i<fs.length:=by omega
  rw[UK a,ku];simp only[run,Wg,Vr,List.foldl_nil,Ui];have ih:=nX st i (by omega) r;rw[run]at ih
  have b:sf fs r i=jk fs[i].W r:=by simp[sf,an a]
  rw[b,<-ih];simp only[St.put];exact po r _ _
end
section
variable {C:Cx} {hn:List Nat} {ops:Array Oper} {fs:List Ef} {st:St}
def aN(a:Array Bool):Nat->Bool:=λi=>a.getD i true
theorem qE(a:∀i j,nT ops i j->ls j=true->ls i=true)(h:Pre ops i j):ls j=true->ls i=true:=by
 induction h with
 |one h=>exact a _ _ h
 |step _ b ih=>exact λc=>ih (a _ _ b c)
theorem lX(hs:ke ops=true){x y:Oper}(b:i<j)(f:ops[i]?=some x)(c:ops[j]?=some y)(d:lE ops x y=true):Pre ops i j:=by
 simp only[ke,An]at hs;have e:j<ops.size:=(Ux.1 c).1;have h1:=TY.1 hs.2 j (UE.2 e);have a:=TY.1 h1 i (UE.2 b);rw[f,c]at a;simp only[d,Vy,Bool.false_or]at a;exact tV (l:=ops.toList) (acc:=[]) (λj=>by simp) (λi j h=>by simp at h) i j a
theorem nj{acc:nU}(hs:jC (kc ops.toList []) acc=true){W K f e:List Nat}(d:i<j)(o:acc[i]?=some (W,K))(g:acc[j]?=some (f,e))(m:∃k,(k∈W/\k∈e)\/(k∈f/\k∈K)):Pre ops i j:=by
 have n:j<acc.length:=(th.1 g).1;have h1:=TY.1 hs j (UE.2 n);have c:=TY.1 h1 i (UE.2 d);rw[o,g]at c;simp only[UQ,An]at c;rcases c with⟨d1,d2⟩|c
 .obtain⟨k,⟨a,b⟩|⟨a,b⟩⟩:=m
  .have:=TY.1 d1 k a
   simp at this;exact absurd b this
  .have:=TY.1 d2 k a
   simp at this;exact absurd b this
 .exact tV (l:=ops.toList) (acc:=[]) (λj=>by simp) (λi j h=>by simp at h) i j c
theorem qF(hs:ke ops=true)(h:nT ops i j):i<j:=by
 simp only[ke,An]at hs;obtain⟨o,a,e,d,c,rfl⟩:=h;have h1:=TY.1 hs.1 j (UE.2 (Ux.1 a).1);rw[a]at h1;have b:=TY.1 h1 e d;simpa[c]using b
theorem lY{a:Array Bool}:i∈Region.ready .any ops a↔i<ops.size/\aN a i=false/\∀q,nT ops q i->a.getD q false=true:=by
 unfold Region.ready aN;rw[U1,UE];constructor
 .rintro⟨h1,b⟩
  simp only[An,UD]at b;refine⟨h1,b.1,?_⟩;rintro q ⟨o,d,e,g,f,rfl⟩;have c:=b.2;rw[d]at c;simp only[UL,Ug,Array.all_eq_true_iff_forall_mem]at c;have:=c e (by simpa using g);simpa[f]using this
 .rintro⟨h1,b,c⟩
  refine⟨h1,?_⟩;simp only[An,UD];refine⟨b,?_⟩;have d:ops[i]?=some ops[i]:=UG h1;rw[d];simp only[UL,Ug,Array.all_eq_true_iff_forall_mem];intro e g
  cases f:Region.binds .any e with
  |false=>simp
  |true=>simp[c e.on ⟨_,d,e,by simpa using g,f,rfl⟩]
theorem H9(z:ke ops=true)(b2:fs.length=ops.size)(T:∀(i:Nat) o f,ops[i]?=some o->fs[i]?=some f->nV C.P hn C.N ops o (run (fs.take i) st) f)
 (O:jC (kc ops.toList []) (fs.map λf=>(f.W.map (·.1),f.K))=true){Q':Exit->Act->World->Prop}(hQ:∀a w,gy C (run fs st) a w->Q' .normal a w):
 ∀(fuel:Nat)(c:Array Bool)(a:Act)(w:World),c.size=ops.size->((List.range ops.size).filter λj=>!aN c j).length<=fuel->(∀i j,nT ops i j->aN c j=true->aN c i=true)->
  gy C (fy fs ops.size st (aN c)) a w->wpAny C.P .any ops Q' fuel c a w:=by
 have G:∀c:Array Bool,Region.ready .any ops c=[]->c.size=ops.size->∀j,j<ops.size->aN c j=true:=by
  intro c U B j
  induction j using Nat.strongRecOn with
  |_ j ih=>
   intro l
   cases hl:aN c j with
   |true=>rfl
   |false=>
    have:j∈Region.ready .any ops c:=lY.2 ⟨l,hl,λq hq=>by
     have ch:=qF z hq;have:=ih q ch (by omega);unfold aN at this;rw[T7]at this|-;rw[UG (by omega)]at this|-
     simpa using this⟩
    rw[U]at this;cases this
 have ad:∀(c:Array Bool) a w,Region.ready .any ops c=[]->c.size=ops.size->gy C (fy fs ops.size st (aN c)) a w->Q' .normal a w:=by
  intro c a w U B D;apply hQ;have hl:=G c U B
  have:fy fs ops.size st (aN c)=run fs st:=by
   have ht:run fs st=run (fs.take ops.size) st:=by rw[Up (by omega)]
   rw[ht]
   have h1:(fy fs ops.size st (aN c)).t=(run (fs.take ops.size) st).t:=by
    funext r;rw[nW fs st _ (by omega)];exact ew (λj l _=>hl j l)
   have F:(fy fs ops.size st (aN c)).h=(run (fs.take ops.size) st).h:=by
    funext r;rw[nX fs st _ (by omega)];exact ew (λj l _=>hl j l)
   cases hA:fy fs ops.size st (aN c);cases hB:run (fs.take ops.size) st;rw[hA,hB]at h1 F;simp at h1 F;rw[h1,F]
  rw[<-this];exact D
 intro fuel
 induction fuel with
 |zero=>
  intro c a w B bq V D
  have Z:Region.ready .any ops c=[]:=by
   cases U:Region.ready .any ops c with
   |nil=>rfl
   |cons i r=>
    have hi:i∈Region.ready .any ops c:=by rw[U];simp
    obtain⟨h1,F,_⟩:=lY.1 hi;have:i∈(List.range ops.size).filter λj=>!aN c j:=U1.2 ⟨UE.2 h1,by simp[F]⟩;have b4:((List.range ops.size).filter λj=>!aN c j)=[]:=Uv (by omega);rw[b4]at this;cases this
  exact⟨Z,ad c a w Z B D⟩
 |succ fuel ih=>
  intro c a w B bq V D;refine⟨λU=>ad c a w U B D,λi hi=>?_⟩;obtain⟨hin,Q,bH⟩:=lY.1 hi;have ho:ops[i]?=some ops[i]:=UG hin;have hf:fs[i]?=some (fs[i]'(by omega)):=an _;generalize ops[i]=o at ho;generalize fs[i]'(by omega)=f at hf;obtain⟨I,b1,H⟩:=T i o f ho hf
  have y:∀q,Pre ops q i->aN c q=true:=by
   intro q hq
   have hd:∀q,nT ops q i->aN c q=true:=by
    intro q hq;have cm:=qF z hq;have:=bH q hq;unfold aN;rw[T7]at this|-;rw[UG (by omega)]at this|-;simpa using this
   cases hq with
   |one h=>exact hd q h
   |step h h'=>exact qE V h (hd _ h')
  have s:∀q,Pre ops i q->aN c q=false:=by
   intro q hq
   cases cg:aN c q with
   |false=>rfl
   |true=>rw[qE V hq cg]at Q;cases Q
  have a2:∀j r,(se fs r j).isSome=true->∃oj A,ops[j]?=some oj/\fs[j]?=some A/\oj.dst=some r:=by
   intro j r l;unfold se at l;split at l
   .rename_i A p
    split at l
    .rename_i hd
     have cf:j<ops.size:=by rw[<-b2];exact(th.1 p).1
     have E:ops[j]?=some ops[j]:=UG cf;obtain⟨_,F,_⟩:=T j _ A E p;exact⟨_,A,E,p,by rw[<-F];exact hd⟩
    .cases l
   .cases l
  have a8:∀j k,(sf fs k j).isSome=true->∃A,fs[j]?=some A/\k∈A.W.map (·.1):=by
   intro j k l;unfold sf at l;split at l
   .rename_i A p;exact⟨A,p,vt l⟩
   .cases l
  have g:∀(j:Nat)(A:Ef),fs[j]?=some A->(fs.map λf=>(f.W.map (·.1),f.K))[j]?=some (A.W.map (·.1),A.K):=λj A h=>by simp[h]
  have Y:∀r∈pF ops o,(fy fs ops.size st (aN c)).t r=(run (fs.take i) st).t r:=by
   intro r U;rw[nW fs st i (by omega),<-qC (n:=ops.size) (by omega)];refine ew (λj l hw=>?_);obtain⟨oj,A,E,p,hd⟩:=a2 j r hw;rcases VN j i with R|rfl|a5
   .rw[y j (lX z R E ho (by simp[lE,hd,U]))];simp[R]
   .rw[Q];simp
   .rw[s j (lX z a5 ho E (by simp[lE,hd,U]))]
    have:¬j<i:=by omega
    simp[this]
  have bc:∀k∈f.K,(fy fs ops.size st (aN c)).h k=(run (fs.take i) st).h k:=by
   intro k M;rw[nX fs st i (by omega),<-qC (n:=ops.size) (by omega)];refine ew (λj l hw=>?_);obtain⟨A,p,hd⟩:=a8 j k hw;rcases VN j i with R|rfl|a5
   .rw[y j (nj O R (g j A p) (g i f hf) ⟨k,.inl ⟨hd,M⟩⟩)];simp[R]
   .rw[Q];simp
   .rw[s j (nj O a5 (g i f hf) (g j A p) ⟨k,.inr ⟨hd,M⟩⟩)]
    have:¬j<i:=by omega
    simp[this]
  have b9:∀k,k∈f.W.map (·.1)->k∈f.K:=by
   intro k M;obtain⟨kb,a7,rfl⟩:=Uo.1 M;rcases H with⟨_,_,_,G⟩|⟨_,_,hW,_⟩
   .have:=TY.1 G kb a7;simpa using this
   .rw[hW]at a7;cases a7
  have mo:fy fs ops.size st (aN (c.setIfInBounds i true))=(fy fs ops.size st (aN c)).put f.d f.v f.W:=by
   have b3:∀j,j<ops.size->aN (c.setIfInBounds i true) j=(aN c j||j==i):=by
    intro j l;unfold aN;by_cases e:j=i
    .subst e;simp[T7,B,l]
    .have h1:(j==i)=false:=by simpa using e
     rw[h1,Bool.or_false,T7,T7,US (by omega)]
   have h1:(fy fs ops.size st (aN (c.setIfInBounds i true))).t=((fy fs ops.size st (aN c)).put f.d f.v f.W).t:=by
    funext r
    show iR ops.size (se fs r) (st.t r) (aN (c.setIfInBounds i true))=_;rw[ew (λj l _=>b3 j l),pm hin ?_]
    .have hw:se fs r i=if f.d=some r then some f.v else none:=by simp[se,hf]
     rw[hw]
     cases hd:f.d with
     |none=>simp[St.put,fy]
     |some d=>
      simp only[St.put,ag,T4];by_cases e:d=r
      .subst e;simp
      .rw[TZ e,TZ (λh=>e h.symm)];rfl
    .intro ba j a6 l bb
     obtain⟨oi,fi,X,J,a1⟩:=a2 i r ba;obtain⟨oj,A,E,p,hd⟩:=a2 j r bb;rw[ho]at X;injection X with X;subst X;exact s j (lX z a6 ho E (by simp[lE,a1,hd]))
   have F:(fy fs ops.size st (aN (c.setIfInBounds i true))).h=((fy fs ops.size st (aN c)).put f.d f.v f.W).h:=by
    funext k
    show iR ops.size (sf fs k) (st.h k) (aN (c.setIfInBounds i true))=_;rw[ew (λj l _=>b3 j l),pm hin ?_]
    .have hw:sf fs k i=jk f.W k:=by simp[sf,hf]
     rw[hw];simp only[St.put];exact(po k f.W (fy fs ops.size st (aN c)).h).symm
    .intro ba j a6 l bb
     obtain⟨fi,J,a1⟩:=a8 i k ba;obtain⟨A,p,hd⟩:=a8 j k bb;rw[hf]at J;injection J with J;subst J;exact s j (nj O a6 (g i f hf) (g j A p) ⟨k,.inr ⟨hd,b9 k a1⟩⟩)
   cases hA:fy fs ops.size st (aN (c.setIfInBounds i true));cases hB:(fy fs ops.size st (aN c)).put f.d f.v f.W;rw[hA,hB]at h1 F;simp at h1 F;rw[h1,F]
  have S:∀a' w',gy C ((fy fs ops.size st (aN c)).put f.d f.v f.W) a' w'->wpAny C.P .any ops Q' fuel (c.setIfInBounds i true) a' w':=by
   intro a' w' cj;refine ih (c.setIfInBounds i true) a' w' (by simp[B]) ?_ ?_ (by rw[mo];exact cj)
   .have ck:((List.range ops.size).filter λj=>!aN (c.setIfInBounds i true) j).length<((List.range ops.size).filter λj=>!aN c j).length:=by
     have cb:((List.range ops.size).filter λj=>!aN (c.setIfInBounds i true) j)=((List.range ops.size).filter λj=>!aN c j).filter λj=>!(j==i):=by
      rw[List.filter_filter];refine List.filter_congr (λj l=>?_);have cd:=UE.1 l;unfold aN;by_cases e:j=i
      .subst e;simp[T7,B,cd]
      .have h1:(j==i)=false:=by simpa using e
       rw[h1,T7,T7,US (by omega)];simp
     rw[cb];refine List.length_filter_lt_length_iff_exists.2 ⟨i,U1.2 ⟨UE.2 hin,by simp[Q]⟩,by simp⟩
    omega
   .intro q j hd l
    have b8:∀m,aN (c.setIfInBounds i true) m=true↔(aN c m=true\/m=i):=by
     intro m;unfold aN;by_cases e:m=i
     .subst e;simp[T7,B,hin]
     .rw[T7,T7,US (by omega)];simp[e]
    rw[b8]at l|-;rcases l with l|rfl
    .exact .inl (V q j hd l)
    .exact .inl (y q (.one hd))
  obtain⟨L,hm,hN,bs,ht⟩:=D
  have hgd:fP ops (fy fs ops.size st (aN c)).t o.guard=fP ops (run (fs.take i) st).t o.guard:=by
   unfold fP;split
   .rfl
   .rename_i j want hg
    split
    .rename_i d hd
     rw[Y d (by simp[pF,hg,hd])]
    .rfl
  unfold wpOp;rw[ho];simp only;rcases H with⟨hg,hK,b0,ca⟩|⟨hg,hv,hW,_⟩
  .rw[eJ ht (hgd.trans hg)]
   rw[T6 rfl];refine .inl ?_
   have b5:∀x∈o.op.operands,(run (fs.take i) st).ev x=(fy fs ops.size st (aN c)).ev x:=by
    intro x hx
    cases x with
    |tmp t=>
     refine(Y t ?_).symm;simp only[pF,Cf,Uf,List.mem_filterMap];exact .inl ⟨.tmp t,by simpa using hx,rfl⟩
    |_=>rfl
   have b7:bW f.K (run (fs.take i) st).h=bW f.K (fy fs ops.size st (aN c)).h:=by
    funext k
    unfold bW;split
    .rename_i M;exact(bc k (by simpa using M)).symm
    .rfl
   rw[b7]at b0;refine lW.congr b5 b0 C L _ w a rfl hm ?_ ?_ (λx _=>dj ht x) _ _ (λu w' L' hA hv=>?_)
   .intro k b M;unfold bW at M;split at M
    .exact M
    .cases M
   .intro d hd
    unfold bW;rw[T6 (hK d hd)];refine⟨rfl,?_⟩;have ar:=I;rw[hd]at ar;simp only[dr,An,L4]at ar;exact ar.2
   .refine S _ _ ?_
    rw[b1];exact gy.put hm hN bs ht I hA hv
  .rw[eJ ht (hgd.trans hg)]
   simp only[T3,Ud];refine S _ _ ?_;rw[b1,hv,hW];exact gy.put hm hN bs ht I (W:=[]) (aM.refl hm) (.pv (.val _))
theorem WP.drawF(k:C.P.follows .mixedOrders=true)(c:ke ops=true){fs:List Ef}(h1:fs.length=ops.size)(p:∀(i:Nat) o f,ops[i]?=some o->fs[i]?=some f->nV C.P hn C.N ops o (run (fs.take i) st) f)
 (q:jC (kc ops.toList []) (fs.map λf=>(f.W.map (·.1),f.K))=true)(r:Q .normal (run fs st)):WP C (.region id ops true) Q st:=by
 intro a w l;refine wp_region_any k (H9 (fs:=fs) (st:=st) c h1 p q (λa w l=>⟨_,l,r⟩) _ _ _ _ (by simp) ?_ ?_ ?_)
 .refine VJ (Wq _ _) (by simp)
 .intro i j hd b
  have g:j<ops.size:=by obtain⟨o,u,_⟩:=hd;exact(Ux.1 u).1
  unfold aN at b;rw[T7,VZ,T6 g]at b;cases b
 .have:fy fs ops.size st (aN (Array.replicate ops.size false))=st:=by
   have hf:∀j,j<ops.size->aN (Array.replicate ops.size false) j=false:=by
    intro j b;unfold aN;rw[T7,VZ,T6 b];rfl
   have x:∀{V:Type}(wr:Nat->Option V)(d:V),iR ops.size wr d (aN (Array.replicate ops.size false))=d:=by
    intro V wr d;rw[ew (ls':=λ_=>false) (λj b _=>hf j b)]
    have:∀n,iR n wr d (λ_=>false)=d:=by
     intro n;induction n with
     |zero=>rfl
     |succ n ih=>rw[ku];simp[ih]
    exact this _
   cases st;unfold fy;simp[x]
  rw[this];obtain⟨L,s,hN,e,v⟩:=l;have m:=s.grow (Ext.drew (λ_=>False) w);exact⟨L,m.1,hN,e,λn=>(v n).mono m.2 (KC.refl _ _)⟩
theorem WP.draw(b:C.P.follows .mixedOrders=true)(a:ke ops=true)
 (h:lj C.P hn C.N ops (λacc st=>jC (kc ops.toList []) acc=true/\Q .normal st) ops.toList [] st):WP C (.region id ops true) Q st:=by
 obtain⟨fs,h1,c,d,e⟩:=s9 h;exact WP.drawF (hn:=hn) b a (by rw[h1];simp) (λi o f g hf=>c i o f (by simpa using g) hf) (by simpa using d) e
theorem WP.drawX(n:Nat)(r:ops.toList[n]?=some o)(m:C.P.follows .mixedOrders=true)(k:ke ops=true)
 (h:lj C.P hn C.N ops (λacc l=>∃f,nV C.P hn C.N ops o l f/\lj C.P hn C.N ops (λacc st=>jC (kc ops.toList []) acc=true/\Q .normal st) (ops.toList.drop (n+1)) (acc++[(f.W.map (·.1),f.K)]) (l.put f.d f.v f.W)) (ops.toList.take n) [] st):WP C (.region id ops true) Q st:=by
 obtain⟨c,u,x,f,hf,j⟩:=s9 h;obtain⟨e,y,z,A,B⟩:=s9 j;have E:=(th.1 r).1
 have p:c.length=n:=by rw[u,UI];omega
 have G:e.length=ops.size-(n+1):=by rw[y,VE,U3]
 have F:ops.toList.length=ops.size:=U3
 have g:∀i,n+1<=i->run ((c++f::e).take i) st=run (e.take (i-(n+1))) ((run c st).put f.d f.v f.W):=by
  intro i hi;rw[List.take_append,Up (by omega),p,show i-n=(i-(n+1))+1 by omega,List.take_succ_cons];simp[run]
 refine WP.drawF (hn:=hn) (fs:=c++f::e) m k (by simp;omega) (λi s q b a=>?_) ?_ ?_
 .by_cases h1:i<n
  .rw[T1 (by omega)]at a
   rw[VH (by omega)];exact x i s q (by rw[Ur,T6 h1];simpa using b) a
  .by_cases D:i=n
   .subst D
    rw[T5 (by omega),p,VW]at a;injection a with a;subst a;rw[<-UN,r]at b;injection b with b;subst b;rw[VH (by omega),Up (by omega)];exact hf
   .rw[T5 (by omega),p,show i-n=(i-(n+1))+1 by omega,Wb]at a
    rw[g i (by omega)];refine z (i-(n+1)) s q ?_ a;rw[UT,show n+1+(i-(n+1))=i by omega];simpa using b
 .simpa[U4]using A
 .have:=g (c++f::e).length (by simp;omega)
  rw[VX,Up (by simp;omega)]at this;rw[this];exact B
end
@[simp] theorem GE{α:Type}(f:Nat->α)(k:Nat)(v:α)(n:Nat):ag f k v n=if n=k then v else f n:=rfl
@[simp] theorem Nw(args:List Arg)(n:Nat):Cc args n=(match args[n]? with
 |some (.pv p)=>.pv p
 |some (.bx i)=>.ptr (pk i) 0
 |none=>.undef):=rfl
theorem zg(hin:List (List PV))(k:Nat):tT hin k=if k<1000000 then none else(match hin[k-1000000]? with
 |some a=>some (.box (a.map .pv) false false)
 |none=>none):=rfl
@[simp] theorem Kr(K:List Nat)(h:Hp)(k:Nat):bW K h k=if K.contains k=true then h k else none:=rfl
@[simp] theorem Nn:Cb C y Q .normal st=WP C y Q st:=rfl
@[simp] theorem OQ:Cb C y Q .ret st=Q .ret st:=rfl
@[simp] theorem N5:Cb C y Q (.exit i) st=Q (.exit i) st:=rfl
@[simp] theorem Ll:r7 id Q .normal st=Q .normal st:=rfl
@[simp] theorem N6:r7 id Q .ret st=Q .ret st:=rfl
@[simp] theorem Ny:r7 id Q (.exit i) st=if i=id then Q .normal st else Q (.exit i) st:=rfl
@[simp] theorem RJ:Gx P rs hout res .ret st=ji P rs hout res st:=rfl
@[simp] theorem Nz:Gx P rs hout res .normal st=ji P rs hout res st:=rfl
@[simp] theorem R6(ks:List Nat)(st:St)(n:Nat):(st.kill ks).t n=aB ks (st.t n):=rfl
@[simp] theorem R7(ks:List Nat)(st:St)(k:Nat):(st.kill ks).h k=if ks.contains k=true then none else(st.h k).map (bT ks):=rfl
@[simp] theorem OR:xe true d st F=F true st:=rfl
@[simp] theorem N7:xe false d st F=F false st:=rfl
def St.lit(st:St)(d:Nat)(b:Bool):St:=⟨ag st.t d (.pv (.val (.bool b))),st.h⟩
section
variable (P:Program) (hn:List Nat) (N:Nat) (ops:Array Oper) (Q:St->Prop) (o:Oper) (rest:List Oper) (st:St)
def xK(x:Option cX):Prop:=i7 x (λe=>dR P hn N ops Q rest (st.put o.dst e.1 e.2))
def xC(g:FuncId)(as:List Arg)(ks:List Nat)(a:List (Nat×Blk))(hin:List (List PV)):Prop:=xV P g as hin λhout res=>xK P hn N ops Q o rest st (lV st.h o.dst ks a hout res)
def Lm(g:FuncId)(as:List Arg)(ks:List Nat)(a:List (Nat×Blk)):Bool->Option (List (List PV))->Prop
 |false,some hin=>xC P hn N ops Q o rest st g as ks a hin
 |_,_=>False
def JO(g:FuncId):Option (List Arg×List Nat×List (Nat×Blk))->Prop
 |some (as,ks,W0)=>Lm P hn N ops Q o rest st g as ks W0 (W0.any λa=>ks.contains a.1) (mo st.h ks)
 |none=>False
def Ch(args:List AV):Option (FuncId×List AV×List AV)->Prop
 |some (g,first,caps)=>JO P hn N ops Q o rest st g (jB st.h (first++args++caps) [])
 |none=>False
def N8:AV->Prop
 |.fn (.func g) _ _=>fx P g/\dR P hn N ops Q rest (st.put o.dst .undef [])
 |_=>False
def xN:Bool->Prop
 |true=>E9 (dR P hn N ops Q rest (st.put o.dst (.pv (.val (.bool true))) [])) (dR P hn N ops Q rest (st.put o.dst (.pv (.val (.bool false))) []))
 |false=>xK P hn N ops Q o rest st (fe P hn o st.ev st.h)
def xO:Prop:=match o.op with
 |.call c=>match c.callee with
  |.value f=>Ch P hn N ops Q o rest st (c.args.toList.map st.ev) (cF (st.ev f))
  |.invoke r name=>Ch P hn N ops Q o rest st (c.args.toList.map st.ev) (cF (pX P name (st.ev r)))
  |_=>xK P hn N ops Q o rest st (fe P hn o st.ev st.h)
 |.defer c=>match c.callee with
  |.value f=>if c.args.size=0 then N8 P hn N ops Q o rest st (st.ev f)else False
  |_=>False
 |.binOp op t x y _=>xN P hn N ops Q o rest st (nK (st.ev y)&&mX P t&&qU st.h (st.ev x)&&(op==.eql||op==.neq))
 |_=>xK P hn N ops Q o rest st (fe P hn o st.ev st.h)
def xB(_:Nat)(want:Bool)(b:Bool):Prop:=if b=want then xO P hn N ops Q o rest st else dR P hn N ops Q rest (st.put o.dst (.pv (.val (.tuple #[]))) [])
def xG:Option (Option (Nat×Bool×Bool))->Prop
 |some none=>xO P hn N ops Q o rest st
 |some (some (d,b,want))=>xB P hn N ops Q o rest st d want b
 |none=>False
end
section
variable {P:Program} {hn:List Nat} {N:Nat} {ops:Array Oper} {Q:St->Prop} {o:Oper} {rest:List Oper} {st:St}
@[simp] theorem OS:xN P hn N ops Q o rest st false=xK P hn N ops Q o rest st (fe P hn o st.ev st.h):=rfl
@[simp] theorem RK:xN P hn N ops Q o rest st true=E9 (dR P hn N ops Q rest (st.put o.dst (.pv (.val (.bool true))) [])) (dR P hn N ops Q rest (st.put o.dst (.pv (.val (.bool false))) [])):=rfl
@[simp] theorem R8{f c:List AV}:N8 P hn N ops Q o rest st (.fn (.func g) f c)=(fx P g/\dR P hn N ops Q rest (st.put o.dst .undef [])):=rfl
theorem Ci{c:AV}:Ch P hn N ops Q o rest st args (cF c)=gU P c args o.dst st.h (λe=>dR P hn N ops Q rest (st.put o.dst e.1 e.2)):=by
 unfold gU
 cases cF c with
 |none=>rfl
 |some q=>
  obtain⟨g,first,caps⟩:=q;simp only[Ch]
  cases jB st.h (first++args++caps) []with
  |none=>rfl
  |some q=>
   obtain⟨as,ks,W0⟩:=q;simp only[JO]
   cases W0.any λa=>ks.contains a.1 with
   |true=>rfl
   |false=>
    cases mo st.h ks with
    |none=>rfl
    |some hin=>rfl
theorem JP:xO P hn N ops Q o rest st=vh P hn o st.ev st.h (λe=>dR P hn N ops Q rest (st.put o.dst e.1 e.2)):=by
 obtain⟨a,op,g,pos,b,d⟩:=o
 cases op<;>try rfl
 case binOp op t x y t'=>
  simp only[xO,vh];cases nK (st.ev y)&&mX P t&&qU st.h (st.ev x)&&(op==.eql||op==.neq)<;>rfl
 rename_i c;obtain⟨callee,args,ts⟩:=c
 cases callee<;>try rfl
 all_goals first
  |(rename_i f name;show Ch P hn N ops Q _ rest st (args.toList.map st.ev) (cF (pX P name (st.ev f)))=gU P (pX P name (st.ev f)) (args.toList.map st.ev) a st.h _;exact Ci)
  |(rename_i f;show Ch P hn N ops Q _ rest st (args.toList.map st.ev) (cF (st.ev f))=gU P (st.ev f) (args.toList.map st.ev) a st.h _;exact Ci)
@[simp] theorem RL:dR P hn N ops Q [] st=Q st:=rfl
@[simp] theorem OT:dR P hn N ops Q (o::rest) st=(dr N o.dst=true/\xG P hn N ops Q o rest st (lA ops st.t o.guard)):=by
 simp only[dR]
 congr 1
 cases a:lA ops st.t o.guard with
 |none=>rfl
 |some g=>cases g with
  |none=>simp only[xG];rw[JP]
  |some q=>obtain⟨d,b,want⟩:=q;simp only[xG,xB,xe];rw[JP]
@[simp] theorem RM:xG P hn N ops Q o rest st (some none)=xO P hn N ops Q o rest st:=rfl
@[simp] theorem RN:xG P hn N ops Q o rest st (some (some (d,b,want)))=xB P hn N ops Q o rest st d want b:=rfl
@[simp] theorem Tv:xB P hn N ops Q o rest st d true true=xO P hn N ops Q o rest st:=rfl
@[simp] theorem Tw:xB P hn N ops Q o rest st d false false=xO P hn N ops Q o rest st:=rfl
@[simp] theorem Tx:xB P hn N ops Q o rest st d true false=dR P hn N ops Q rest (st.put o.dst (.pv (.val (.tuple #[]))) []):=rfl
@[simp] theorem Ty:xB P hn N ops Q o rest st d false true=dR P hn N ops Q rest (st.put o.dst (.pv (.val (.tuple #[]))) []):=rfl
@[simp] theorem RO{e:cX}:xK P hn N ops Q o rest st (some e)=dR P hn N ops Q rest (st.put o.dst e.1 e.2):=rfl
@[simp] theorem OU:Ch P hn N ops Q o rest st args (some (g,first,caps))=JO P hn N ops Q o rest st g (jB st.h (first++args++caps) []):=rfl
@[simp] theorem OV:JO P hn N ops Q o rest st g (some (as,ks,W0))=Lm P hn N ops Q o rest st g as ks W0 (W0.any λa=>ks.contains a.1) (mo st.h ks):=rfl
@[simp] theorem OW:Lm P hn N ops Q o rest st g as ks W0 false (some hin)=xC P hn N ops Q o rest st g as ks W0 hin:=rfl
attribute [simp] xO
theorem lF(h:bf P g as hin hout res)(a:xK P hn N ops Q o rest st (lV st.h o.dst ks W0 hout res)):
 xC P hn N ops Q o rest st g as ks W0 hin:=⟨hout,res,h,a⟩
theorem zh(h:st.t d=.pv (.val (.bool b))):st.lit d b=st:=by
 unfold St.lit
 have:ag st.t d (.pv (.val (.bool b)))=st.t:=by
  grind [GE]
 rw[this]
theorem gc(h:st.t d=.pv (.val (.bool b)))(a:b=true->xB P hn N ops Q o rest (st.lit d true) d want true)(hf:b=false->xB P hn N ops Q o rest (st.lit d false) d want false):
 xB P hn N ops Q o rest st d want b:=by
 cases b with
 |true=>have:=a rfl;rw[zh h]at this;exact this
 |false=>have:=hf rfl;rw[zh h]at this;exact this
end
section
variable (P:Program) (hn:List Nat) (N:Nat) (ops:Array Oper) (Q:nU->St->Prop) (o:Oper) (rest:List Oper) (acc:nU) (st:St) (K:List Nat)
def yK(x:Option cX):Prop:=i7 x (λe=>(e.2.all λa=>K.contains a.1)=true/\lj P hn N ops Q rest (acc++[(e.2.map (·.1),K)]) (st.put o.dst e.1 e.2))
def yC(g:FuncId)(as:List Arg)(ks:List Nat)(a:List (Nat×Blk))(hin:List (List PV)):Prop:=xV P g as hin λhout res=>yK P hn N ops Q o rest acc st K (lV (bW K st.h) o.dst ks a hout res)
def Ln(g:FuncId)(as:List Arg)(ks:List Nat)(a:List (Nat×Blk)):Bool->Option (List (List PV))->Prop
 |false,some hin=>yC P hn N ops Q o rest acc st K g as ks a hin
 |_,_=>False
def JQ(g:FuncId):Option (List Arg×List Nat×List (Nat×Blk))->Prop
 |some (as,ks,W0)=>Ln P hn N ops Q o rest acc st K g as ks W0 (W0.any λa=>ks.contains a.1) (mo (bW K st.h) ks)
 |none=>False
def Cj(args:List AV):Option (FuncId×List AV×List AV)->Prop
 |some (g,first,caps)=>JQ P hn N ops Q o rest acc st K g (jB (bW K st.h) (first++args++caps) [])
 |none=>False
def yO:Prop:=match o.op with
 |.call c=>match c.callee with
  |.value f=>Cj P hn N ops Q o rest acc st K (c.args.toList.map st.ev) (cF (st.ev f))
  |.invoke r name=>Cj P hn N ops Q o rest acc st K (c.args.toList.map st.ev) (cF (pX P name (st.ev r)))
  |_=>yK P hn N ops Q o rest acc st K (fe P hn o st.ev (bW K st.h))
 |_=>yK P hn N ops Q o rest acc st K (fe P hn o st.ev (bW K st.h))
def yB(_:Nat)(want:Bool)(b:Bool):Prop:=if b=want then yO P hn N ops Q o rest acc st (mq o st.ev st.h)else lj P hn N ops Q rest (acc++[([],[])]) (st.put o.dst (.pv (.val (.tuple #[]))) [])
def yG:Option (Option (Nat×Bool×Bool))->Prop
 |some none=>yO P hn N ops Q o rest acc st (mq o st.ev st.h)
 |some (some (d,b,want))=>yB P hn N ops Q o rest acc st d want b
 |none=>False
end
section
variable {P:Program} {hn:List Nat} {N:Nat} {ops:Array Oper} {Q:nU->St->Prop} {o:Oper} {rest:List Oper} {acc:nU} {st:St} {K:List Nat}
theorem Ck{c:AV}:Cj P hn N ops Q o rest acc st K args (cF c)=gU P c args o.dst (bW K st.h) (λe=>(e.2.all λa=>K.contains a.1)=true/\lj P hn N ops Q rest (acc++[(e.2.map (·.1),K)]) (st.put o.dst e.1 e.2)):=by
 unfold gU
 cases cF c with
 |none=>rfl
 |some q=>
  obtain⟨g,first,caps⟩:=q;simp only[Cj]
  cases jB (bW K st.h) (first++args++caps) []with
  |none=>rfl
  |some q=>
   obtain⟨as,ks,W0⟩:=q;simp only[JQ]
   cases W0.any λa=>ks.contains a.1 with
   |true=>rfl
   |false=>
    cases mo (bW K st.h) ks with
    |none=>rfl
    |some hin=>rfl
theorem JR:yO P hn N ops Q o rest acc st K=s7 P hn o st.ev (bW K st.h) (λe=>(e.2.all λd=>K.contains d.1)=true/\lj P hn N ops Q rest (acc++[(e.2.map (·.1),K)]) (st.put o.dst e.1 e.2)):=by
 obtain⟨a,op,i,pos,b,g⟩:=o
 cases op<;>try rfl
 rename_i c;obtain⟨callee,args,ts⟩:=c
 cases callee<;>try rfl
 all_goals first
  |(rename_i f name;show Cj P hn N ops Q _ rest acc st K (args.toList.map st.ev) (cF (pX P name (st.ev f)))=gU P (pX P name (st.ev f)) (args.toList.map st.ev) a (bW K st.h) _;exact Ck)
  |(rename_i f;show Cj P hn N ops Q _ rest acc st K (args.toList.map st.ev) (cF (st.ev f))=gU P (st.ev f) (args.toList.map st.ev) a (bW K st.h) _;exact Ck)
@[simp] theorem RP:lj P hn N ops Q [] acc st=Q acc st:=rfl
@[simp] theorem OX:lj P hn N ops Q (o::rest) acc st=(dr N o.dst=true/\yG P hn N ops Q o rest acc st (lA ops st.t o.guard)):=by
 simp only[lj]
 congr 1
 cases a:lA ops st.t o.guard with
 |none=>rfl
 |some g=>cases g with
  |none=>simp only[yG];rw[JR]
  |some q=>obtain⟨d,b,want⟩:=q;simp only[yG,yB,xe];rw[JR]
@[simp] theorem RQ:yG P hn N ops Q o rest acc st (some none)=yO P hn N ops Q o rest acc st (mq o st.ev st.h):=rfl
@[simp] theorem RS:yG P hn N ops Q o rest acc st (some (some (d,b,want)))=yB P hn N ops Q o rest acc st d want b:=rfl
@[simp] theorem Tz:yB P hn N ops Q o rest acc st d true true=yO P hn N ops Q o rest acc st (mq o st.ev st.h):=rfl
@[simp] theorem TA:yB P hn N ops Q o rest acc st d false false=yO P hn N ops Q o rest acc st (mq o st.ev st.h):=rfl
@[simp] theorem TB:yB P hn N ops Q o rest acc st d true false=lj P hn N ops Q rest (acc++[([],[])]) (st.put o.dst (.pv (.val (.tuple #[]))) []):=rfl
@[simp] theorem TC:yB P hn N ops Q o rest acc st d false true=lj P hn N ops Q rest (acc++[([],[])]) (st.put o.dst (.pv (.val (.tuple #[]))) []):=rfl
@[simp] theorem RT{e:cX}:yK P hn N ops Q o rest acc st K (some e)=((e.2.all λa=>K.contains a.1)=true/\lj P hn N ops Q rest (acc++[(e.2.map (·.1),K)]) (st.put o.dst e.1 e.2)):=rfl
@[simp] theorem OY:Cj P hn N ops Q o rest acc st K args (some (g,first,caps))=JQ P hn N ops Q o rest acc st K g (jB (bW K st.h) (first++args++caps) []):=rfl
@[simp] theorem OZ:JQ P hn N ops Q o rest acc st K g (some (as,ks,W0))=Ln P hn N ops Q o rest acc st K g as ks W0 (W0.any λa=>ks.contains a.1) (mo (bW K st.h) ks):=rfl
@[simp] theorem O4:Ln P hn N ops Q o rest acc st K g as ks W0 false (some hin)=yC P hn N ops Q o rest acc st K g as ks W0 hin:=rfl
attribute [simp] yO
theorem tW(h:bf P g as hin hout res)(a:yK P hn N ops Q o rest acc st K (lV (bW K st.h) o.dst ks W0 hout res)):
 yC P hn N ops Q o rest acc st K g as ks W0 hin:=⟨hout,res,h,a⟩
theorem Ia(h:st.t d=.pv (.val (.bool b)))(a:b=true->yB P hn N ops Q o rest acc (st.lit d true) d want true)(hf:b=false->yB P hn N ops Q o rest acc (st.lit d false) d want false):
 yB P hn N ops Q o rest acc st d want b:=by
 cases b with
 |true=>have:=a rfl;rw[zh h]at this;exact this
 |false=>have:=hf rfl;rw[zh h]at this;exact this
end
attribute [simp] z7 pX
attribute [simp] ly mR xS wo zW vf yR qR JK lz tH zX zY wu Gn D6 JL HU HV BV BU E7 wC Ec JN GC aL XV.key
attribute [simp] B0 qV E8
attribute [simp] BB yW wx wy xT
attribute [simp] yV tO qU mX yX BY xU BZ
attribute [simp] St.lit dr lA fe St.ev St.put ai iC AV.cells PV.cells Value.cells pd ve TK.isAgg gh yQ sX kz fW ld
 sZ yU tM wv ww nM cF jB mo j5 lV frz sJ pW zV pc rn kX E5 wm BW mA nK pD lg vd qg jA
 wq dn pf sY tJ qS wt qT E6 Gm gi tK yS BA yT BX vg k8 mD ji rz aB bT bB Lh wk mq Eb Op.operands Call.operands
section
variable {C:Cx} {Q:Exit->St->Prop} {st:St} {x y:Code} {c:Operand}
def tY(C:Cx)(x y:Code)(Q:Exit->St->Prop)(st:St):AV->Prop
 |.pv (.val (.bool b))=>(b=true->WP C x Q st)/\(b=false->WP C y Q st)
 |_=>False
theorem DQ(a:b=true->WP C x Q st)(hf:b=false->WP C y Q st):tY C x y Q st (.pv (.val (.bool b))):=⟨a,hf⟩
@[simp] theorem NA:tY C x y Q st (.pv (.val (.bool true)))=WP C x Q st:=by simp[tY]
@[simp] theorem Np:tY C x y Q st (.pv (.val (.bool false)))=WP C y Q st:=by simp[tY]
theorem WP.cond'(h:tY C x y Q st (st.ev c)):WP C (.cond c x y) Q st:=by
 cases a:st.ev c with
 |pv p=>cases p with
  |val v=>cases v with
   |bool b=>rw[a]at h;exact WP.cond a h.1 h.2
   |_=>rw[a]at h;exact h.elim
  |_=>rw[a]at h;exact h.elim
 |_=>rw[a]at h;exact h.elim
end
section
variable {C:Cx} {Q:Exit->St->Prop} {st:St}
def BC(ks:List Nat)(J:St->Prop)(Q:Exit->St->Prop):Exit->St->Prop
 |.normal,st=>J (st.kill ks)
 |e,st=>Q e st
@[simp] theorem Lp{J:St->Prop}:BC ks J Q .normal st=J (st.kill ks):=rfl
@[simp] theorem N9{J:St->Prop}:BC ks J Q .ret st=Q .ret st:=rfl
@[simp] theorem NB{J:St->Prop}:BC ks J Q (.exit i) st=Q (.exit i) st:=rfl
theorem WP.loopN(ks:List Nat)(N:Nat)(I:Nat->St->Prop)(r:I 0 (st.kill ks))
 (round:∀i st,i<=N->I i st->WP C c (BC ks (λa=>i<N/\I (i+1) a) Q) st):WP C (.loop c) Q st:=by
 classical
 refine WP.loop ks (λst=>∃i,i<=N/\I i st) (λst=>N-(if h:∃i,i<=N/\I i st/\∀j,j<=N->I j st->j<=i then h.choose else 0)) ⟨0,UO _,r⟩ ?_;intro st ⟨s,p,n⟩
 have l:∃i,i<=N/\I i st/\∀j,j<=N->I j st->j<=i:=by
  have:∀d i,N-i<=d->i<=N->I i st->∃i,i<=N/\I i st/\∀j,j<=N->I j st->j<=i:=by
   intro d
   induction d with
   |zero=>intro i hd hi g;exact⟨i,hi,g,λj k _=>by omega⟩
   |succ d ih=>
    intro i hd hi g;by_cases h:∃j,j<=N/\I j st/\i<j
    .obtain⟨j,k,b,o⟩:=h;exact ih j (by omega) k b
    .exact⟨i,hi,g,λj k b=>Nat.le_of_not_lt (λf=>h ⟨j,k,b,f⟩)⟩
  exact this N s (by omega) p n
 have q:=l.choose_spec;refine WP.mono (round _ st q.1 q.2.1) ?_;intro e a hq
 cases e with
 |normal=>
  obtain⟨f,g⟩:=hq;refine⟨⟨_,f,g⟩,?_⟩
  have m:∃i,i<=N/\I i (a.kill ks)/\∀j,j<=N->I j (a.kill ks)->j<=i:=by
   have:∀d i,N-i<=d->i<=N->I i (a.kill ks)->∃i,i<=N/\I i (a.kill ks)/\∀j,j<=N->I j (a.kill ks)->j<=i:=by
    intro d
    induction d with
    |zero=>intro i hd hi g;exact⟨i,hi,g,λj k _=>by omega⟩
    |succ d ih=>
     intro i hd hi g;by_cases h:∃j,j<=N/\I j (a.kill ks)/\i<j
     .obtain⟨j,k,b,o⟩:=h;exact ih j (by omega) k b
     .exact⟨i,hi,g,λj k b=>Nat.le_of_not_lt (λf=>h ⟨j,k,b,f⟩)⟩
   exact this N _ (by omega) f g
  have h1:=m.choose_spec.2.2 _ f g;rw[dif_pos m,dif_pos l];omega
 |_=>exact hq
end
attribute [simp] Value.oneCell'
def Arg.isPv:Arg->Bool
 |.pv _=>true
 |.bx _=>false
theorem Ks(hf:P.funcs[f]?=some fn)(g:fn.body=some c)(a:dh P f=true){args:List Arg}(b:args.length<=fn.ntmps)(e:args.all Arg.isPv=true)
 (h:∀C:Cx,C.P=P->C.N=fn.ntmps->WP C c (Gx P fn.results.toList [] res) (rz args [])):bf P f args [] [] res:=by
 refine Ah hf g a b rfl (λi j d=>?_) h;have:=TY.1 e _ (Is d);simp[Arg.isPv]at this
@[simp] theorem RU(hin:List (List PV))(i:Nat):tT hin (pk i)=(hin[i]?).map (λa=>.box (a.map .pv) false false):=by
 rw[zg,TZ (by unfold pk;omega),show pk i-1000000=i by unfold pk;omega];cases hin[i]?<;>rfl
@[simp] theorem Oa(hin:List (List PV))(h:k<1000000):tT hin k=none:=by rw[zg,T6 h]
@[simp] theorem R9(i j:Nat):(pk i=pk j)=(i=j):=by unfold pk;simp
@[simp] theorem TD(h:n<1000000):(pk i=n)=False:=by unfold pk;simp;omega
@[simp] theorem TE(h:n<1000000):(n=pk i)=False:=by unfold pk;simp;omega
@[simp] theorem Ob{F:Nat->List PV->Prop}:(∀(i:Nat)(a:List PV),([]:List (List PV))[i]?=some a->F i a)=True:=by simp
@[simp] theorem Oc{a:List PV}{F:Nat->List PV->Prop}:(∀(i:Nat)(b:List PV),[a][i]?=some b->F i b)=F 0 a:=by
 refine propext ⟨λh=>h 0 a rfl,λh i b hi=>?_⟩
 cases i with
 |zero=>simp at hi;subst hi;exact h
 |succ i=>simp at hi
theorem jD:ao P Go.program=some P:=rfl
theorem jE{d:TypeDesc}(h:P.underlying t=some d):ao P (underlying t)=some d:=by
 unfold underlying;rw[ah,jD,Ub,h];rfl
theorem AU(d:Nat)(t:TypeId)(xs ys:Array Value)(c:P.underlying t=some (.struct (P.fieldsOf t)))(hp:P.stoodInHeld t=false):
 ao P (Op.equalIn (d+1) t (.agg xs) (.agg ys))=ao P (Op.eqFields d xs ys (P.fieldsOf t).toList):=by
 simp only[Op.equalIn,ah,jE c,Ub,jD,hp,T3,Ud];rw[<-Array.forIn_toList];generalize(P.fieldsOf t).toList=fs;clear c
 induction fs with
 |nil=>simp[Op.eqFields];rfl
 |cons f fs ih=>
  simp only[List.forIn_cons,Op.eqFields,ah];by_cases hn:f.name≠ "_"
  .rw[T6 hn,T6 hn]
   simp only[ah]
   cases ao P (part f.type xs f.offset)with
   |none=>rfl
   |some a=>
    simp only[Ub]
    cases ao P (part f.type ys f.offset)with
    |none=>rfl
    |some b=>
     simp only[Ub]
     cases ao P (Op.equalIn d f.type a b)with
     |none=>rfl
     |some r=>
      cases r
      .simp only[Ub,WH,Ui,dW]
      .simp only[Ub,Vy,T3,Ud,dW]
       exact ih
  .rw[TZ hn,TZ hn]
   simp only[dW,Ub];exact ih
theorem vu(d:Nat)(t:TypeId)(k c:IntKind)(a b:Int)(h:P.underlying t=some (.int c)):ao P (Op.equalIn (d+1) t (.int k a) (.int k b))=some (a==b):=by
 simp only[Op.equalIn,ah,jE h,Ub];rw[T6 trivial];rfl
theorem wD{f:Field}{fs:List Field}{a b:Value}{r c:Bool}(hn:f.name≠ "_")(e:ao P (part f.type xs f.offset)=some a)(g:ao P (part f.type ys f.offset)=some b)
 (i:ao P (Op.equalIn d f.type a b)=some r)(j:ao P (Op.eqFields d xs ys fs)=some c):ao P (Op.eqFields d xs ys (f::fs))=some (r&&c):=by
 simp only[Op.eqFields];rw[T6 hn];simp only[ah,e,g,i,Ub];cases r
 .simp;rfl
 .simp[j]
theorem GF:ao P (Op.eqFields d xs ys [])=some true:=rfl
theorem zi{x y:Operand}(a:o.op=.binOp .neq t x y t')(c:ρ x=.pv (.val (.agg xs)))(d:ρ y=.pv (.val (.agg ys)))
 (f:P.eqGuardType P.depth t=false)(h:ao P (Op.equal t (.agg xs) (.agg ys))=some b):bF P o ρ=some (.pv (.val (.bool !b)),[]):=by
 refine eh (by rw[a];simp[Op.operands,c,d,fp]) ?_;unfold execOp;rw[a];simp only[(bS c).2,(bS d).2]
 have h1:ao P (eqGuard .neq t x y (.agg xs) (.agg ys))=some ():=by
  unfold eqGuard;simp only[Vy,T3,Ud,ah,jD,Ub,f,WH,Ui];rfl
 have e:ao P (binOp .neq t (.agg xs) (.agg ys))=some (.bool !b):=by
  simp only[binOp,ah,h,Ub];rfl
 simp only[ah,h1,e,Ub];rfl
theorem zj{x y:Operand}(a:o.op=.binOp .eql t x y t')(c:ρ x=.pv (.val (.agg xs)))(d:ρ y=.pv (.val (.agg ys)))
 (f:P.eqGuardType P.depth t=false)(h:ao P (Op.equal t (.agg xs) (.agg ys))=some b):bF P o ρ=some (.pv (.val (.bool b)),[]):=by
 refine eh (by rw[a];simp[Op.operands,c,d,fp]) ?_;unfold execOp;rw[a];simp only[(bS c).2,(bS d).2]
 have h1:ao P (eqGuard .eql t x y (.agg xs) (.agg ys))=some ():=by
  unfold eqGuard;simp only[Vy,T3,Ud,ah,jD,Ub,f,WH,Ui];rfl
 have e:ao P (binOp .eql t (.agg xs) (.agg ys))=some (.bool b):=by
  simp only[binOp,ah,h,Ub];rfl
 simp only[ah,h1,e,Ub];rfl
class Sp(G:Prop)(H:outParam Prop):Prop where
 h:H->G
class Ss(G:Prop)(H:outParam Prop):Prop where
 h:H->G
class Sb(G:Prop)(A B D:outParam Prop):Prop where
 h:A->B->D->G
class Sc(G:Prop)(P:outParam Program)(g:outParam FuncId)(as:outParam (List Arg))(hin:outParam (List (List PV)))(F:outParam (List (List PV)->RV->Prop)):Prop where
 h:∀{hout res},bf P g as hin hout res->F hout res->G
section
variable {C:Cx} {Q:Exit->St->Prop} {st:St} {x y c:Code} {id:Nat} {ops:Array Oper}
instance:Sp (WP C (.seq x y) Q st) (WP C x (Cb C y Q) st):=⟨WP.seq⟩
instance:Sp (WP C (.block id c) Q st) (WP C c (r7 id Q) st):=⟨WP.block⟩
instance:Ss (WP C (.region id ops false) Q st) (dR C.P [] C.N ops (Q .normal) ops.toList st):=⟨WP.region⟩
instance{o:Operand}:Ss (WP C (.cond o x y) Q st) (tY C x y Q st (st.ev o)):=⟨WP.cond'⟩
instance:Ss (WP C .skip Q st) (Q .normal st):=⟨WP.skip⟩
instance:Ss (WP C .ret Q st) (Q .ret st):=⟨WP.ret⟩
instance:Ss (WP C (.exit id) Q st) (Q (.exit id) st):=⟨WP.exit⟩
theorem Wh(hn:List Nat)(h:dR C.P hn C.N ops (Q .normal) ops.toList st):WP C (.region id ops false) Q st:=WP.region h
theorem Wi(hn:List Nat)(h:lj C.P hn C.N ops (λacc st=>jC (kc ops.toList []) acc=true/\Q .normal st) ops.toList [] st)(b:C.P.follows .mixedOrders=true:=by rw[hP];kernel_rfl)(a:ke ops=true:=by kernel_rfl):WP C (.region id ops true) Q st:=WP.draw b a h
theorem Wd(h:lj C.P [] C.N ops (λacc st=>jC (kc ops.toList []) acc=true/\Q .normal st) ops.toList [] st)(b:C.P.follows .mixedOrders=true:=by rw[hP];kernel_rfl)(a:ke ops=true:=by kernel_rfl):WP C (.region id ops true) Q st:=WP.draw b a h
end
section
variable {P:Program} {hn:List Nat} {N:Nat} {ops:Array Oper} {o:Oper} {rest:List Oper} {st:St} {d:Nat} {want b:Bool} {g:FuncId} {as:List Arg} {ks:List Nat} {W0:List (Nat×Blk)} {hin:List (List PV)}
instance{Q:St->Prop}:Sb (xB P hn N ops Q o rest st d want b) (st.t d=.pv (.val (.bool b))) (b=true->xB P hn N ops Q o rest (st.lit d true) d want true) (b=false->xB P hn N ops Q o rest (st.lit d false) d want false):=⟨gc⟩
instance{Q:nU->St->Prop}{acc:nU}:Sb (yB P hn N ops Q o rest acc st d want b) (st.t d=.pv (.val (.bool b))) (b=true->yB P hn N ops Q o rest acc (st.lit d true) d want true) (b=false->yB P hn N ops Q o rest acc (st.lit d false) d want false):=⟨Ia⟩
instance{Q:St->Prop}:Sc (xC P hn N ops Q o rest st g as ks W0 hin) P g as hin (λhout res=>xK P hn N ops Q o rest st (lV st.h o.dst ks W0 hout res)):=⟨lF⟩
instance{Q:nU->St->Prop}{acc:nU}{K:List Nat}:Sc (yC P hn N ops Q o rest acc st K g as ks W0 hin) P g as hin (λhout res=>yK P hn N ops Q o rest acc st K (lV (bW K st.h) o.dst ks W0 hout res)):=⟨tW⟩
end
theorem Xx{p:Prop}(h:False:=by first|(clear hP hN;simp_all;done)|(simp at *;omega)):p:=h.elim
theorem Xy{p:Prop}(h:False:=by simp at hgd;first|done|omega):p:=h.elim
theorem Ya{a:List Nat}{acc:nU}{b:Prop}(h:b)(k:jC a acc=true:=by kernel_rfl):jC a acc=true/\b:=⟨k,h⟩
theorem Dp{e g m:String}{a3 a4 i:Array TypeId}{j o:Nat}{k l:Bool}{p:Option Nat}{b6:List Departure}{q:Array String}(hf:P.funcs[f]?=some fn){args:List Arg}(h:∀C:Cx,C.P=P->C.N=n->WP C c (Gx P rs [] res) (rz args []))
 (d:fn=⟨e,g,a3,a4,i,j,n,rs.toArray,some c,k,l,m,o,p,b6,q⟩:=by rfl)(a:dh P f=true:=by kernel_rfl)(b:args.length<=n:=by exact of_decide_eq_true (by kernel_rfl))(r:args.all Arg.isPv=true:=by rfl):bf P f args [] [] res:=by
 subst d;exact Ks hf rfl a b r h
abbrev X2:=@eV
abbrev Xd:=@DQ
end Go.Ab
