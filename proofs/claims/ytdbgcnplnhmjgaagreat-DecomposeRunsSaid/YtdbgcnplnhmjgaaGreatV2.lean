/- The contracts and facts that the laws of this seat need, in one text (AbB). -/
import Derived.Test.YtdbgcnplnhmjgaaGreatV1
import Derived.MapKept
import Derived.Laws.StructEq
set_option linter.all false
set_option maxRecDepth 10000
set_option maxHeartbeats 16000000
namespace Go.Ab
open IntKind (i64)
variable {C:Cx}{F:Bool->St->Prop}{K:db->Prop}{L:Nat->Loc}{M M':Nat->Nat->Prop}{P:Program}{Q:Exit->St->Prop}{W W0:List (Nat×Blk)}{a:Act}{args caps first:List AV}{as:List Arg}{b want:Bool}{c y:Code}{cs xs ys:Array Value}{d i id j k n:Nat}{f g:FuncId}{fn:Func}{h:Hp}{hin hout:List (List PV)}{hn ks:List Nat}{ls:Nat->Bool}{name:String}{o:Oper}{op:BinOp}{ops:Array Oper}{p:PV}{res:RV}{rs:List ResultVar}{st:St}{t t':TypeId}{ti:TI}{ts:List TypeId}{u v:Value}{us:List Value}{w:World}{x:AV}{ρ ρ':Operand->AV}{σ:Operand->Value}
theorem mL{α:Type}{P:Program}:∀{s:Sem α}{a:α},am P s=some a->∀w,s.run P w=.ok a w
 |.pure a,b,e,w=>by simp only[am,VQ]at e;subst e;rfl
 |.program k,b,e,w=>by simp only[am]at e;exact mL (s:=k P) e w
 |.load _ _ _,_,e,_=>by simp[am]at e
 |.store _ _ _ _,_,e,_=>by simp[am]at e
 |.new _ _,_,e,_=>by simp[am]at e
 |.shape _ _,_,e,_=>by simp[am]at e
 |.freeze _ _ _,_,e,_=>by simp[am]at e
 |.frozen _ _,_,e,_=>by simp[am]at e
 |.getObj _ _,_,e,_=>by simp[am]at e
 |.setObj _ _ _,_,e,_=>by simp[am]at e
 |.choose _ _,_,e,_=>by simp[am]at e
 |.sys _ _,_,e,_=>by simp[am]at e
 |.mark _ _,_,e,_=>by simp[am]at e
 |.halt _,_,e,_=>by simp[am]at e
theorem rP(off:Nat):∀(l:List Value)(s:Nat)(arr:Array Value),off+s+l.length<=arr.size->
 ((l.zipIdx s).foldl (λcs(p:Value×Nat)=>cs.setIfInBounds (off+p.2) p.1) arr).toList=du arr.toList (off+s) l
 |[],s,arr,_=>by simp[du]
 |v::r,s,arr,h=>by
  simp only[List.zipIdx_cons,Xo];rw[rP off r (s+1) _ (by simp at h|-;omega)];simp only[Array.toList_setIfInBounds,du,XE];have:=list_seg_step arr.toList (off+s) v r (by simp at h|-;omega);rw[<-Xu off s 1];rw[show off+s+(r.length+1)=off+s+(r.length+1) from rfl];exact this
section
variable {C:Cx} {L:Nat->Loc} {h1 h:Hp} {w:World} {M:Nat->Nat->Prop}
theorem uM(place:Nat->Option (Nat×Nat)):∀{ps:List (Nat×List AV)}{vs:List (Nat×Value)}{cells f:List AV}{arr:Array Value},aE w M L h cells arr.toList->
 (ps.length=vs.length/\∀(q:Nat)(i:Nat) cs(m:Nat)(v:Value),ps[q]?=some (i,cs)->vs[q]?=some (m,v)->m=i/\aE w M L h cs v.cells.toList)->uG place cells ps=some f->
 ∃k,Instr.fill place arr vs=some k/\aE w M L h f k.toList
 |[],vs,cells,f,arr,r,hp,e=>by
  simp only[uG,VQ]at e;subst e;have:vs=[]:=Wq (by have:=hp.1;simpa using this.symm);subst this;exact⟨arr,rfl,r⟩
 |(i,cs)::ps,vs,cells,f,arr,r,hp,e=>by
  cases vs with
  |nil=>exact absurd hp.1 (by simp)
  |cons iv vs=>
   obtain⟨m,v⟩:=iv;obtain⟨rfl,y⟩:=hp.2 0 i cs m v rfl rfl;simp only[uG]at e;simp only[Instr.fill]
   cases l:place m with
   |none=>rw[l]at e;cases e
   |some os=>
    obtain⟨g,size⟩:=os;rw[l]at e;simp only at e|-;split at e
    .cases e
    .rename_i j
     have B:cs.length=v.cells.size:=by have:=y.1;simpa using this
     have A:cells.length=arr.size:=by have:=r.1;simpa using this
     have n:cs.length=size:=Classical.not_not.1 (λh=>j (.inl h));have o:¬g+cs.length>cells.length:=λh=>j (.inr h)
     have s:¬((v.cells.size≠size||g+v.cells.size>arr.size)=true):=by simp;omega
     simp only[VM s]
     have u:(v.cells.zipIdx.foldl (λcs(p:Value×Nat)=>cs.setIfInBounds (g+p.2) p.1) arr).toList=du arr.toList g v.cells.toList:=by
      have:=rP g v.cells.toList 0 arr (by simp;omega);rw[<-Array.foldl_toList,Array.toList_zipIdx];simpa using this
     refine uM place (cells:=du cells g cs) ?_ ⟨by have:=hp.1;simpa using this,λq a b c d h1 z=>hp.2 (q+1) a b c d (by simpa using h1) (by simpa using z)⟩ e;have x:=r.splice_ y g;rw[<-u]at x;exact x
theorem vP(hs:∀k b,h1 k=some b->h k=some b){ρ:Operand->AV}{σ:Operand->Value}:∀{ps:List (Nat×Operand)}{qs:List (Nat×List AV)},(∀x∈ps.map (·.2),RepA w M L h (ρ x) (σ x))->rt h1 ρ ps=some qs->
 qs.length=(ps.map λ(i,x)=>(i,σ x)).length/\∀(q:Nat)(i:Nat) cs(f:Nat)(v:Value),qs[q]?=some (i,cs)->(ps.map λ(i,x)=>(i,σ x))[q]?=some (f,v)->f=i/\aE w M L h cs v.cells.toList
 |[],qs,_,e=>by simp only[rt,VQ]at e;subst e;exact⟨rfl,λq i cs f v h=>by simp at h⟩
 |(i,x)::ps,qs,g,e=>by
  simp only[rt]at e;split at e
  .rename_i cs r m n
   injection e with e;subst e;obtain⟨o,p⟩:=vP hs (λy j=>g y (by simp at j|-;exact .inr j)) n;refine⟨by simpa using o,λq a c l v hq d=>?_⟩
   cases q with
   |zero=>
    simp at hq d;obtain⟨rfl,rfl⟩:=hq;obtain⟨rfl,rfl⟩:=d;exact⟨rfl,qC hs (g x (by simp)) m⟩
   |succ q=>exact p q a c l v (by simpa using hq) (by simpa using d)
  .cases e
theorem Aa{P:Program}(w:World):∀(fs:List Field),(∀f∈fs,∃i,P.info? f.type=some i)->
 (fs.mapM (m:=Sem) λf=>do pure (f.offset,<-sizeOf f.type)).run P w=.ok (fs.map λf=>(f.offset,oT P f.type)) w
 |[],_=>by simp
 |f::fs,hf=>by
  obtain⟨i,hi⟩:=hf f (by simp);simp only[List.mapM_cons,Sem.run_bind,gG hi,Result.andThen_ok,Sem.run_pure,Aa w fs (λg a=>hf g (by simp[a]))];simp[oT,hi]
theorem Cq(K:al C.P t=some ti){qs:List (Nat×List AV)}{vs:List (Nat×Value)}(hp:qs.length=vs.length/\∀(q:Nat)(i:Nat) cs(N:Nat)(v:Value),qs[q]?=some (i,cs)->vs[q]?=some (N,v)->N=i/\aE w M L h cs v.cells.toList)
 {v:AV}(e:xA ti qs=some v):∃r,(Instr.build t vs.toArray).run C.P w=.ok r w/\RepA w M L h v r:=by
 obtain⟨i,d,hi,hd,Q,S,b⟩:=iw K;have l:=z9 K;unfold xA at e;split at e
 .cases e
 .rename_i z I
  have F:i.zero=some z:=by rw[<-S];exact I
  have o:aE w M L h (z.cells.toList.map λv=>AV.pv (.val v)) z.cells.toList:=by
   refine⟨by simp,λq p u hp s=>?_⟩;simp only[VN,VK]at hp;obtain⟨y,R,rfl⟩:=hp;rw[R]at s;injection s with s;subst s;exact .pv (.val _)
  have c:(zeroValue t).run C.P w=.ok z w:=by simp[zeroValue,nI hi,F]
  split at e
  .rename_i fs a
   rw[b]at a;split at a
   .rename_i g
    injection a with a;simp only[VK]at e;obtain⟨cells,A,rfl⟩:=e;obtain⟨arr,D,E⟩:=uM (arr:=z.cells) _ o hp A;refine⟨.agg arr,?_,?_⟩
    .have k:∀f∈g.toList,∃i,C.P.info? f.type=some i:=by
      unfold mI at l;rw[hd]at l;intro f hf;exact Wo.1 (VL.1 l f hf)
     have H:=Aa (P:=C.P) w g.toList k;simp only[Instr.build,Sem.run_bind,c,Result.andThen_ok,dJ hd,Array.mapM_eq_mapM_toList,Sem.run_map,H]
     have m:(λ(x:Nat)=>(List.map (λf=>(f.offset,oT C.P f.type)) g.toList).toArray[x]?)=λ(i:Nat)=>fs[i]?:=by funext x;rw[<-a];simp
     simp only[m,D];rfl
    .have:=tA E
     simpa using this
   .cases a
   .split at a<;>cases a
   .cases a
  .rename_i n B a
   rw[b]at a;split at a
   .cases a
   .rename_i T O
    injection a with _ a;simp only[VK]at e;obtain⟨cells,A,rfl⟩:=e;obtain⟨arr,D,E⟩:=uM (arr:=z.cells) _ o hp A;refine⟨.agg arr,?_,?_⟩
    .have k:∃j,C.P.info? O=some j:=by
      unfold mI at l;rw[hd]at l;exact Wo.1 l
     obtain⟨j,J⟩:=k
     have G:j.size=B:=by rw[<-a];simp[oT,J]
     simp only[Instr.build,Sem.run_bind,c,Result.andThen_ok,dJ hd,gG J,G,D];rfl
    .have:=tA E
     simpa using this
   .split at a<;>cases a
   .cases a
  .cases e
theorem yr(hs:∀k b,h1 k=some b->h k=some b){e sz fz:Nat}{xs:List PV}(f:h k=some (.row e sz xs fz))(a:tS h1 k n=true):xs.length=n:=by
 unfold tS at a;split at a
 .rename_i j g i d c
  have:=hs _ _ c;rw[f]at this;injection this with this;injection this with _ _ a3 _;subst a3;simpa using a
 .cases a
theorem yi(R:al C.P t=some ti){v:AV}{f:Nat}(hs:∀k b,h1 k=some b->h k=some b)(K:RepA w M L h x u)(e:pJ ti x f h1=some v):
 ∃r,(Instr.fieldAt t u f).run C.P w=.ok r w/\RepA w M L h v r:=by
 obtain⟨i,d,hi,hd,Q,V,m⟩:=iw R;unfold pJ at e;split at e
 .rename_i fs a
  rw[m]at a;split at a
  .rename_i G
   injection a with a;split at e
   .rename_i o s hf
    split at e
    .cases e
    .rename_i O
     rw[<-a]at hf;simp only[VN,VK,V0]at hf;obtain⟨p,H,rfl,g⟩:=hf
     have l:∃j,C.P.info? p.type=some j/\j.size≠0:=by
      unfold oT at g
      cases E:C.P.info? p.type with
      |none=>rw[E]at g;simp at g;omega
      |some j=>rw[E]at g;simp at g;exact⟨j,rfl,by omega⟩
     obtain⟨j,E,I⟩:=l
     have A:G[f]?=some p:=by rw[<-WI];exact H
     have c:∀b q,(Instr.fieldAt t (.pointer (some ⟨b,q,none⟩)) f).run C.P w=.ok (.pointer (some ⟨b,q+p.offset,none⟩)) w:=by
      intro b q;simp only[Instr.fieldAt,Sem.run_bind,dJ hd,Result.andThen_ok,A,Instr.sureAddr,Sem.run_pure,fieldPlace,gG E,I,VZ,fo]
     split at e
     .injection e with e;subst e
      cases K with
      |ptr F=>exact⟨_,c _ _,.ptr F⟩
     .rename_i y D
      injection e with e;subst e
      cases K with
      |pv J=>cases J with
       |rptr _ b T _ U N J=>exact⟨_,c _ _,.pv (by rw[Xu];exact .rptr y b T (D+p.offset) U N J)⟩
     .rename_i k n W D
      split at e
      .rename_i z
       injection e with e;subst e
       cases K with
       |eptr F hn S=>
        obtain⟨B,rfl⟩:=S (yr hs F z);exact⟨_,c _ _,.eptr F hn (λ_=>⟨B,by rw[Xu]⟩)⟩
      .cases e
     .cases e
   .cases e
  .cases a
  .split at a<;>cases a
  .cases a
 .cases e
end
section
variable {C:Cx} {L:Nat->Loc} {h1 h:Hp} {w:World}
theorem yj(hs:∀k b,h1 k=some b->h k=some b)(X:al C.P t=some ti){v:AV}{n:Int}{kk:IntKind}(O:RepA w M L h x u)
 (I:∀k e S xs fz,h k=some (.row e S xs fz)->(L k).isNil=true->xs=[])(e:pK ti x n h1=some v):
 ∃r,(Instr.indexAt t u (.int kk n)).run C.P w=.ok r w/\RepA w M L h v r:=by
 obtain⟨i,d,hi,hd,J,hz,U⟩:=iw X;unfold pK at e;split at e
 .rename_i et q eb ez s
  obtain⟨N,jt,A,rfl,rfl,_⟩:=dV X s
  have a:∀b o len cap,0<=n->n.toNat<len->(Instr.indexAt t (.slice (some ⟨b,o,none⟩) len cap) (.int kk n)).run C.P w=.ok (.pointer (some ⟨b,o+n.toNat*jt.size,none⟩)) w:=by
   intro b o len cap B l;have g:0<=n/\n<(len:Int):=⟨B,by omega⟩;simp only[Instr.indexAt,asIntOf,Sem.run_bind,Sem.run_pure,Result.andThen_ok,dJ N,g,and_self,V8,gG A,fo]
  split at e
  .rename_i xs
   split at e
   .rename_i B
    split at e
    .rename_i y Q
     split at e
     .rename_i Z
      injection e with e;subst e;have l:n.toNat<xs.length:=(th.1 Q).1
      cases O with
      |pv E=>cases E with
       |sl0=>simp at Q
       |sl _ b o c S uu ar J g E=>
        refine⟨_,a b o _ c B l,.pv ?_⟩
        have K:S=jt.size:=by rw[<-J _ y Q];exact Z
        subst K;have:=Rep.rptr (w:=w) (M:=M) y b (o+n.toNat*jt.size) 0 (λj=>uu n.toNat j) (λj p A=>by have:=g _ y j p Q A;rwa [<-Xu]at this) (λj p A=>E _ y j p Q A);exact this
     .cases e
    .cases e
   .cases e
  .rename_i k m
   split at e
   .rename_i e0 S xs fz s
    split at e
    .rename_i g
     obtain⟨W,F,B,l⟩:=g;injection e with e;subst e;have D:=hs _ _ s
     cases O with
     |arr z a5 Y=>
      rw[D]at z;injection z with z;injection z with a1 a2 a3 a4;subst a1;subst a2;subst a3;subst a4;rw[Y W]
      cases f:(L k).isNil with
      |true=>rw[I k _ _ _ _ D f]at W;simp at W;omega
      |false=>
       simp only[Loc.slice,f,VP,VZ];refine⟨_,a _ _ _ _ B l,.eptr D (by omega) (λ_=>⟨f,?_⟩)⟩;rw[F];simp
    .cases e
   .cases e
  .cases e
 .rename_i len q s
  split at e
  .rename_i g
   obtain⟨B,l⟩:=g
   have G:∃R,d=.array len R/\oT C.P R=q:=by
    grind
   obtain⟨R,rfl,F⟩:=G
   have V:∃j,C.P.info? R=some j:=by
    have:=z9 X
    grind [mI,Option.isSome_iff_exists]
   obtain⟨j,A⟩:=V
   have T:j.size=q:=by rw[<-F];simp[oT,A]
   have a:∀b o,(Instr.indexAt t (.pointer (some ⟨b,o,none⟩)) (.int kk n)).run C.P w=.ok (.pointer (some ⟨b,o+n.toNat*q,none⟩)) w:=by
    intro b o;have g:0<=n/\n<(len:Int):=⟨B,by omega⟩;simp only[Instr.indexAt,asIntOf,Sem.run_bind,Sem.run_pure,Result.andThen_ok,dJ hd,Instr.sureAddr,g,and_self,V8,gG A,fo,T]
   split at e
   .injection e with e;subst e
    cases O with
    |ptr s=>exact⟨_,a _ _,.ptr s⟩
   .rename_i y ad
    injection e with e;subst e
    cases O with
    |pv E=>cases E with
     |rptr _ b o' _ uu g E=>exact⟨_,a _ _,.pv (by rw[Xu];exact .rptr y b o' _ uu g E)⟩
   .rename_i k m j' ad
    split at e
    .rename_i H
     injection e with e;subst e
     cases O with
     |eptr s hn Y=>
      obtain⟨f,rfl⟩:=Y (yr hs s H);exact⟨_,a _ _,.eptr s hn (λ_=>⟨f,by rw[Xu]⟩)⟩
    .cases e
   .cases e
  .cases e
 .cases e
theorem A0(hs:∀k b,h1 k=some b->h k=some b)(D:al C.P t=some ti){v:AV}{n:Int}{kk:IntKind}(E:RepA w M L h x u)(e:uF ti x n h1=some v):
 ∃r,(Instr.indexAt t u (.int kk n)).run C.P w=.ok r w/\RepA w M L h v r:=by
 unfold uF at e;split at e
 .rename_i K I N k m U s
  obtain⟨a,F,q,i,_,_⟩:=dV D s;split at e
  .rename_i g
   injection e with e;subst e
   cases E with
   |ext j=>cases j with
    |barr Q d=>
     have p:0<=n/\n<(m:Int):=⟨g.1,by omega⟩;refine⟨.pointer (some ⟨(L k).b,n.toNat,none⟩),?_,.ptr d⟩;simp only[Instr.indexAt,asIntOf,Sem.run_bind,Sem.run_pure,Result.andThen_ok,dJ a,p,and_self,V8,gG q,fo,i,XF,WU]
  .cases e
 .rename_i K J I N k o m t9 s
  obtain⟨a,F,q,i,_,_⟩:=dV D s;split at e
  .rename_i e0 T xs V y
   split at e
   .rename_i g
    obtain⟨G,H,B,l⟩:=g;injection e with e;subst e;have d:=hs _ _ y
    cases E with
    |ext j=>cases j with
     |suf _ f R z S=>
      rw[d]at f;injection f with f;injection f with _ a2 a3 _;subst a2;subst a3;obtain⟨A,c,rfl,O⟩:=S G;rcases O with⟨g1,rfl,g3⟩|⟨g1,_,_⟩
      .have p:0<=n/\n<(m:Int):=⟨B,(Int.toNat_lt B).1 l⟩
       refine⟨.pointer (some ⟨(L k).b,o*T+n.toNat*F.size,none⟩),?_,.eptr d z (λ_=>⟨g1,?_⟩)⟩
       .simp only[Instr.indexAt,asIntOf,Sem.run_bind,Sem.run_pure,Result.andThen_ok,dJ a,p,and_self,V8,gG q,fo]
       .rw[i,<-H,WC,X9]
      .rw[g1]at l;exact absurd l (Nat.not_lt_zero _)
   .cases e
  .cases e
 .cases e
theorem CZ{x y:Option AV}{v:AV}(e:AS x y=some v):x=some v\/y=some v:=by
 cases x with
 |some a=>exact .inl e
 |none=>exact .inr e
theorem C4{x y:Option db}{v:db}(e:AT x y=some v):x=some v\/y=some v:=by
 cases x with
 |some a=>exact .inl e
 |none=>exact .inr e
theorem EK(hs:∀k b,h1 k=some b->h k=some b){ty:TypeId}(m:al C.P t=some ti){v:AV}(p:RepA w M L h x u)
 (H:∀k e F xs z,h k=some (.row e F xs z)->(L k).isNil=true->xs=[])(e:Cu ti x h1=some v):
 ∃r,(Builtin.len_ #[t] ty #[u]).run C.P w=.ok r w/\RepA w M L h v r:=by
 unfold Cu at e;split at e
 .rename_i s i q y xs f
  obtain⟨d,_⟩:=dV m f;injection e with e;subst e
  have:∃A c,u=.slice A xs.length c:=by
   cases p with
   |pv E=>cases E with
    |sl0 a c=>exact⟨a,c,rfl⟩
    |sl _ b o c=>exact⟨_,c,rfl⟩
  obtain⟨A,c,rfl⟩:=this;exact⟨_,by simp[Builtin.len_,dJ d,goInt],.pv (.val _)⟩
 .rename_i s i q y n f
  obtain⟨d,_⟩:=dV m f;injection e with e;subst e
  cases p with
  |pv E=>cases E with
   |hd _ A c=>exact⟨_,by simp[Builtin.len_,dJ d,goInt],.pv (.val _)⟩
 .rename_i s i q y k n f
  obtain⟨d,_⟩:=dV m f;split at e
  .rename_i e0 F xs z f
   split at e
   .rename_i G
    injection e with e;subst e;have l:=hs _ _ f
    have:∃A c,u=.slice A n c:=by
     cases p with
     |arr g D I=>
      grind [Loc.slice]
    obtain⟨A,c,rfl⟩:=this;exact⟨_,by simp[Builtin.len_,dJ d,goInt],.pv (.val _)⟩
   .cases e
  .cases e
 .rename_i s i q y k n K f
  obtain⟨d,_⟩:=dV m f;injection e with e;subst e
  cases p with
  |ext j=>cases j with
   |barr _ _=>exact⟨_,by simp[Builtin.len_,dJ d,goInt],.pv (.val _)⟩
 .rename_i s i q y k o n t9 f
  obtain⟨d,_⟩:=dV m f;split at e
  .rename_i e0 F xs z B
   split at e
   .rename_i G
    injection e with e;subst e;have l:=hs _ _ B
    cases p with
    |ext j=>cases j with
     |suf _ g D J I=>
      rw[l]at g;injection g with g;injection g with _ a2 a3 _;subst a2;subst a3;obtain⟨A,c,rfl,_⟩:=I G;exact⟨_,by simp[Builtin.len_,dJ d,goInt],.pv (.val _)⟩
   .cases e
  .cases e
 .cases e
def MY(ul:Option Value)(y:Nat):Sem Nat:=match ul with|some v=>Instr.sliceBound v y .sliceB|none=>pure 0
def MZ(uh:Option Value)(n c:Nat):Sem Nat:=match uh with|some v=>Instr.sliceBound v c .sliceAcap|none=>pure n
theorem vQ(ht:al C.P t=some ti){v:AV}(U:RepA w M L h x u){lo hi:Option AV}{ul uh:Option Value}
 (S:∀a,lo=some a->∃b,ul=some b/\RepA w M L h a b)(G:lo=none->ul=none)(R:∀a,hi=some a->∃b,uh=some b/\RepA w M L h a b)(D:hi=none->uh=none)
 (e:lZ ti x lo hi=some v):
 ∃r,(Instr.sliceAt t u ul uh none).run C.P w=.ok r w/\RepA w M L h v r:=by
 unfold lZ at e;split at e
 .rename_i et Y eb ez xs hk
  obtain⟨J,m,E,rfl,rfl,_⟩:=dV ht hk;simp only at e;split at e
  .rename_i l r g d
   split at e
   .rename_i hc
    obtain⟨V,W,c3,X⟩:=hc;injection e with e;subst e
    have Z:∃A c,u=.slice A xs.length c/\xs.length<=c:=by
     cases U with
     |pv d=>cases d with
      |sl0 a c=>exact⟨a,c,rfl,WJ _⟩
      |sl _ b o c _ _ z=>exact⟨_,c,rfl,z⟩
    obtain⟨A,c,rfl,a1⟩:=Z
    have O:∀y,l<=y->(MY ul y).run C.P w=.ok l w:=by
     intro y k
     cases lo with
     |none=>rw[G rfl];simp at g;subst g;rfl
     |some a=>
      obtain⟨b,rfl,q⟩:=S a rfl
      cases a with
      |pv p=>cases p with
       |val T=>cases T with
        |int kk n=>
         cases q with
         |pv q=>
          rw[aU q];simp only at g;split at g
          .rename_i N
           injection g with g;have:0<=n/\n<=(y:Int):=⟨N,by omega⟩;simp[MY,Instr.sliceBound,asIntOf,this,g]
          .cases g
        |_=>simp at g
       |_=>simp at g
      |_=>simp at g
    have ar:(MZ uh xs.length c).run C.P w=.ok r w:=by
     cases hi with
     |none=>rw[D rfl];simp at d;subst d;rfl
     |some a=>
      obtain⟨b,rfl,q⟩:=R a rfl
      cases a with
      |pv p=>cases p with
       |val T=>cases T with
        |int kk n=>
         cases q with
         |pv q=>
          rw[aU q];simp only at d;split at d
          .rename_i N
           injection d with d;have:0<=n/\n<=(c:Int):=⟨N,by omega⟩;simp[MZ,Instr.sliceBound,asIntOf,this,d]
          .cases d
        |_=>simp at d
       |_=>simp at d
      |_=>simp at d
    refine⟨.slice (if c=l then A else A.map (·.add (l*m.size))) (r-l) (c-l),?_,?_⟩
    .have ad:=O r V
     have key:(Instr.sliceBounds true xs.length c ul uh none).run C.P w=.ok (l,r,c) w:=by
      unfold Instr.sliceBounds;cases uh<;>cases ul<;>simp_all[MY,MZ]
     simp only[Instr.sliceAt,Sem.run_bind,dJ J,Result.andThen_ok,Instr.slice,key,gG E,Sem.run_pure]
    .have F:((xs.take r).drop l).length=r-l:=by simp;omega
     refine .pv ?_;by_cases hz:r-l=0
     .have:(xs.take r).drop l=[]:=Wq (by omega)
      rw[this,hz];exact .sl0 _ _
     .cases U with
      |pv s=>cases s with
       |sl0=>simp at W;omega
       |sl _ b o _ sz uu a2 H B s=>
        have Q:¬c=l:=by omega
        rw[VM Q]
        have I:sz=m.size:=by
         have K:0<xs.length:=by omega
         rw[<-H 0 xs[0] (an K)];have:=VL.1 X xs[0] (Wb K);simp[qJ]at this;exact this.1
        subst I;simp only[WG,fo];rw[<-F]
        have f:∀(i:Nat) y,((xs.take r).drop l)[i]?=some y->xs[l+i]?=some y:=by
         intro i y k;rw[WO,Wk]at k;split at k
         .exact k
         .cases k
        refine .sl _ b (o+l*m.size) _ m.size (λi j=>uu (l+i) j) (by omega) (λi y k=>H _ y (f i y k)) (λi y j p k E=>?_) (λi y j p k E=>s _ y j p (f i y k) E);have:=B _ y j p (f i y k) E;rw[WC]at this;rw[show o+l*m.size+(i*m.size+j)=o+(l*m.size+i*m.size+j) from by omega];exact this
   .cases e
  .cases e
 .cases e
theorem Gi{a:Bool}(b:MemL C L h w)(hf:dh h1 h)(d:RepA w (ae C L h) L h x u)(e:Ga a h1 x=some (p,W)):
 aL C L h w L (ak h W) w/\Rep w (ae C L (ak h W)) p u/\dh h1 (ak h W):=by
 unfold Ga at e;split at e
 .injection e with e;injection e with e1 e2;subst e1;subst e2
  cases d with
  |pv c=>exact⟨aL.refl b,c,hf⟩
 grind [nH]
theorem vR{ρ:Operand->AV}{σ:Operand->Value}{b:Nat}{m:Bool}:∀{ps:List (Nat×Operand)}{k:Nat}{h:Hp}(_:MemL C L h w)(_:dh h1 h)(_:∀x∈ps.map (·.2),RepA w (ae C L h) L h (ρ x) (σ x)){xs:List PV}{W:List (Nat×Blk)},
 ru h1 ρ b m k ps=some (xs,W)->aL C L h w L (ak h W) w/\dh h1 (ak h W)/\xs.length=ps.length/\(∀x∈xs,x.cells.length=b)/\
  (∀(q:Nat)(i:Nat)(v:Value),(ps.map λ(i,x)=>(i,σ x))[q]?=some (i,v)->i=k+q/\∃p,xs[q]?=some p/\Rep w (ae C L (ak h W)) p v)
 |[],k,h,f,hf,j,xs,W,e=>by
  simp only[ru,VQ,V0]at e;obtain⟨rfl,rfl⟩:=e;exact⟨aL.refl f,hf,rfl,by simp,λq i v h=>by simp at h⟩
 |(i,x)::ps,k,h,f,hf,j,xs,W,e=>by
  simp only[ru]at e;split at e
  .rename_i d
   subst d;split at e
   .rename_i p I H J D E
    split at e
    .rename_i g
     injection e with e;injection e with ea eb;subst ea;subst eb;obtain⟨c,o,a3⟩:=Gi f hf (j x (by simp)) D;obtain⟨n,r,s,u,z⟩:=vR c.1 a3 (λy a=>(j y (by simp at a|-;exact .inr a)).mono c.2.1 c.2.2) E;rw[de];refine⟨c.trans n,r,by simp[s],?_,?_⟩
     .intro y a
      rcases Wj.1 a with rfl|a
      .exact g
      .exact u y a
     .intro q F v l
      cases q with
      |zero=>simp at l;obtain⟨rfl,rfl⟩:=l;exact⟨by omega,p,rfl,o.mono n.2.1⟩
      |succ q=>
       obtain⟨K,G,A,B⟩:=z q F v (by simpa using l);exact⟨by omega,G,by simpa using A,B⟩
    .cases e
   .cases e
  .cases e
theorem ww{c:Nat}:∀{vs:List (Nat×Value)}{k:Nat}{arr:Array Value},(∀(q:Nat) i v,vs[q]?=some (i,v)->i=k+q/\v.cells.size=c)->arr.size=(k+vs.length)*c->
 ∃d,Instr.fill (λi=>some (i*c,c)) arr vs=some d/\d.size=arr.size/\(∀q,q<k*c->d[q]?=arr[q]?)/\
  ∀(q:Nat) i v(j:Nat),vs[q]?=some (i,v)->j<c->d[(k+q)*c+j]?=v.cells[j]?
 |[],k,arr,_,o=>⟨arr,rfl,rfl,λ_ _=>rfl,λq i v j h=>by simp at h⟩
 |(i,v)::vs,k,arr,s,o=>by
  obtain⟨u,y⟩:=s 0 i v rfl
  obtain rfl:k=i:=by omega
  have x:k*c+c<=arr.size:=by rw[o];simp only[XE];rw[WC,WC];omega
  have m:¬((v.cells.size≠c||k*c+v.cells.size>arr.size)=true):=by simp;omega
  simp only[Instr.fill,VM m]
  have e:(v.cells.zipIdx.foldl (λcs(p:Value×Nat)=>cs.setIfInBounds (k*c+p.2) p.1) arr).toList=du arr.toList (k*c) v.cells.toList:=by
   have:=rP (k*c) v.cells.toList 0 arr (by simp;omega);rw[<-Array.foldl_toList,Array.toList_zipIdx];simpa using this
  generalize B:v.cells.zipIdx.foldl (λcs(p:Value×Nat)=>cs.setIfInBounds (k*c+p.2) p.1) arr=A at e
  have g:A.size=arr.size:=by
   have:A.toList.length=arr.size:=by rw[e];simp[du];omega
   simpa using this
  obtain⟨d,g1,g2,g3,g4⟩:=ww (vs:=vs) (k:=k+1) (arr:=A) (λq i r hq=>by
   obtain⟨a,b⟩:=s (q+1) i r (by simpa using hq);exact⟨by omega,b⟩) (by rw[g,o];simp only[XE];congr 1;omega)
  have f:∀q,q<k*c->A[q]?=arr[q]?:=by
   intro q hq;rw[<-WI,e];unfold du;rw[W3,VO (by simp;omega),Wk,VS hq];simp
  have l:∀j,j<c->A[k*c+j]?=v.cells[j]?:=by
   intro j n;rw[<-WI,e];unfold du;rw[W3,VR (by simp;omega),VO (by simp;omega)];simp only[WD,WZ];rw[show k*c+j-min (k*c) arr.size=j from by omega];simp
  refine⟨d,g1,by omega,λq hq=>?_,λq z r j hq n=>?_⟩
  .rw[g3 q (by rw[WC];omega),f q hq]
  .cases q with
   |zero=>
    simp at hq;obtain⟨rfl,rfl⟩:=hq;rw[X9,g3 _ (by rw[WC];omega),l j n]
   |succ q=>
    have:=g4 q z r j (by simpa using hq) n;rw[show k+(q+1)=k+1+q from by omega];exact this
end
section
variable {C:Cx} {L:Nat->Loc} {h1 h:Hp} {w:World}
theorem C5(c:∀cs b,o.op≠.select cs b)(k:∀x∈o.op.operands,RepA w M L h (ρ x) (σ x)){v:AV}
 (e:bL C.P o ρ=some (v,W)):∃u,(execOp σ o).run C.P w=.ok (.value u) w/\W=[]/\v=.pv (.val u):=by
 unfold bL at e;split at e
 .rename_i a
  split at e
  .rename_i u g
   injection e with e;injection e with e1 e2;subst e1;subst e2
   have d:execOp σ o=execOp (λx=>qS (ρ x)) o:=by
    refine execOp_congr o c (λx i=>?_);have h1:=VL.1 a x (by simpa using i);have f:=k x i;generalize ρ x=y at h1 f|-
    cases y with
    |pv p=>cases p with
     |val l=>cases f with
      |pv j=>rw[aU j];rfl
     |_=>simp[fu]at h1
    |_=>simp[fu]at h1
   grind [mL]
  .cases e
 .cases e
theorem Qz{args:List Operand}(e:args.map ρ=[x]):∃a,args=[a]/\ρ a=x:=by
 simp_all
theorem Gj{args:List Operand}{y:AV}(e:args.map ρ=[x,y]):∃a b,args=[a,b]/\ρ a=x/\ρ b=y:=by
 cases args with
 |nil=>simp at e
 |cons a r=>cases r with
  |nil=>simp at e
  |cons b r=>cases r with
   |nil=>simp at e;exact⟨a,b,rfl,e.1,e.2⟩
   |cons=>simp at e
theorem ai{α β:Type}{P:Program}:∀(s:Sem α)(f:α->Sem β),am P (s >>= f)=(am P s).bind λa=>am P (f a)
 |.pure a,f=>rfl
 |.program k,f=>by
  show am P ((k P) >>= f)=_;rw[ai (k P) f];rfl
 |.load _ _ _,_=>rfl
 |.store _ _ _ _,_=>rfl
 |.new _ _,_=>rfl
 |.shape _ _,_=>rfl
 |.freeze _ _ _,_=>rfl
 |.frozen _ _,_=>rfl
 |.getObj _ _,_=>rfl
 |.setObj _ _ _,_=>rfl
 |.choose _ _,_=>rfl
 |.sys _ _,_=>rfl
 |.mark _ _,_=>rfl
 |.halt _,_=>rfl
theorem dW{α:Type}(a:α):am P (pure a)=some a:=rfl
theorem eo(h1:(o.op.operands.toList.all λx=>(fu (ρ x)).isSome)=true)(a:am P (execOp (λx=>qS (ρ x)) o)=some (.value v)):bL P o ρ=some (.pv (.val v),[]):=by
 grind [bL]
theorem bT(h:x=.pv (.val v)):fu x=some v/\qS x=v:=by subst h;exact⟨rfl,rfl⟩
theorem EL{y:AV}(e:tT op x y=some v)(P:Program)(t:TypeId)(f g:Operand):
 ∃a b,x=.pv (.val a)/\y=.pv (.val b)/\am P (do eqGuard op t f g a b;binOp op t a b)=some v:=by
 unfold tT at e;split at e
 .rename_i k a i b
  refine⟨.int k a,.int i b,rfl,rfl,?_⟩
  have d:am P (eqGuard op t f g (.int k a) (.int i b))=some ():=by unfold eqGuard;cases op<;>rfl
  rw[ai,d];simp only[VX];cases op<;>simp only at e
  case shl=>
   split at e
   .rename_i h;injection e with e;subst e
    have:¬b<0:=by omega
    simp only[binOp,Op.shift,this,VZ];rfl
   .cases e
  case shr=>
   split at e
   .rename_i h;injection e with e;subst e
    have:¬b<0:=by omega
    simp only[binOp,Op.shift,this,VZ];rfl
   .cases e
  case quo=>
   split at e
   .rename_i h;injection e with e;subst e
    obtain⟨rfl,c⟩:=h;simp only[binOp,ne_eq,Xp,VZ,Op.intDiv,c];rfl
   .cases e
  case rem=>
   split at e
   .rename_i h;injection e with e;subst e
    obtain⟨rfl,c⟩:=h;simp only[binOp,ne_eq,Xp,VZ,Op.intDiv,c];rfl
   .cases e
  all_goals first
   |(split at e
     .rename_i h;injection e with e;subst e;subst h
      simp only[binOp,ne_eq,Xp,VZ];rfl
     .cases e)
   |cases e
 .rename_i a b
  refine⟨.string a,.string b,rfl,rfl,?_⟩
  have d:am P (eqGuard op t f g (.string a) (.string b))=some ():=by unfold eqGuard;cases op<;>rfl
  rw[ai,d];simp only[VX]
  cases op<;>simp only at e<;>first|(injection e with e;subst e;rfl)|cases e
 .cases e
theorem Jk{x y:Operand}(c:o.op=.binOp op t x y t')(e:tT op (ρ x) (ρ y)=some v):bL P o ρ=some (.pv (.val v),[]):=by
 obtain⟨a,b,d,f,g⟩:=EL e P t x y;refine eo (by rw[c];simp[Op.operands,d,f,fu]) ?_;unfold execOp;rw[c];simp only[(bT d).2,(bT f).2];rw[ai,g];rfl
theorem LS{op:UnOp}{x:Operand}(c:o.op=.unOp op t x)(e:zT op (ρ x)=some v):bL P o ρ=some (.pv (.val v),[]):=by
 unfold zT at e;split at e
 .rename_i b a
  injection e with e;subst e;refine eo (by rw[c];simp[Op.operands,a,fu]) ?_;unfold execOp;rw[c];simp only[(bT a).2];rfl
 .rename_i k n a
  injection e with e;subst e;refine eo (by rw[c];simp[Op.operands,a,fu]) ?_;unfold execOp;rw[c];simp only[(bT a).2];rfl
 .cases e
theorem vT{k:IntKind}(e:dU P t=some k):P.underlying t=some (.int k):=by
 grind [dU]
theorem fH{d:TypeDesc}(e:P.underlying t=some d):am P (underlying t)=some d:=by
 unfold underlying;rw[ai];show am P (match P.underlying t with|some d=>pure d|none=>stuck "no such type")=some d;rw[e];rfl
theorem HC{s d:TypeId}{x:Operand}(a:o.op=.convert s d x)(e:uI P s d (ρ x)=some v):bL P o ρ=some (.pv (.val v),[]):=by
 unfold uI at e;split at e
 .rename_i g k f n h1 c b
  injection e with e;subst e;refine eo (by rw[a];simp[Op.operands,b,fu]) ?_;unfold execOp;rw[a];simp only[(bT b).2];rw[ai]
  have:am P (convert s d (.int f n))=some (.int k (k.wrap n)):=by
   unfold convert;rw[ai,fH (vT h1)];simp only[VX];rw[ai,fH (vT c)];rfl
  rw[this];rfl
 .cases e
theorem Jl{as:List Operand}(d:o.op=.call ⟨.builtin .min,⟨as⟩,⟨ts⟩⟩)(e:xE (as.map ρ)=some v):bL P o ρ=some (.pv (.val v),[]):=by
 unfold xE at e;split at e
 .rename_i k a i b c
  injection e with e;subst e;obtain⟨x,y,rfl,f,g⟩:=Gj c;refine eo (by rw[d];simp[Op.operands,Call.operands,f,g,fu]) ?_;unfold execOp;rw[d];simp[resolve,invoke,builtin,Builtin.min_,(bT f).2,(bT g).2,Builtin.min2,ai,dW]
 .cases e
theorem Jm{as:List Operand}(d:o.op=.call ⟨.builtin .max,⟨as⟩,⟨ts⟩⟩)(e:xF (as.map ρ)=some v):bL P o ρ=some (.pv (.val v),[]):=by
 unfold xF at e;split at e
 .rename_i k a i b c
  injection e with e;subst e;obtain⟨x,y,rfl,f,g⟩:=Gj c;refine eo (by rw[d];simp[Op.operands,Call.operands,f,g,fu]) ?_;unfold execOp;rw[d];simp[resolve,invoke,builtin,Builtin.max_,(bT f).2,(bT g).2,Builtin.max2,ai,dW]
 .cases e
theorem lK{q:Option Value}{e:db}(h:∀v,q=some v->bL P o ρ=some (.pv (.val v),[]))(a:n7 P o ρ q=some e):bL P o ρ=some e:=by
 cases q with
 |none=>exact a
 |some v=>rw[h v rfl];exact a
theorem qD{i:TypeInfo}(h:P.info? t=some i):am P (typeInfo t)=some i:=by
 unfold typeInfo;rw[ai];show(some P).bind _=_;rw[VX,h];rfl
theorem LT{x i:Operand}(l:o.op=.index t x i)(e:zU (ic P t) (ρ x) (ρ i)=some v):bL P o ρ=some (.pv (.val v),[]):=by
 unfold zU at e;split at e
 .rename_i s k n B g hi
  have f:P.underlying t=some .string:=by
   grind [ic]
  split at e
  .rename_i p
   simp only[VK]at e;obtain⟨b,z,rfl⟩:=e;refine eo (by rw[l];simp[Op.operands,g,hi,fu]) ?_;unfold execOp;rw[l];simp only[(bT g).2,(bT hi).2]
   have h1:am P (Instr.index t (.string s) (.int k n))=some (.int .u8 b.toNat):=by
    unfold Instr.index;simp only[asIntOf,pure_bind];rw[ai,fH f,VX];simp only[p,V8,z];rfl
   rw[ai,h1];rfl
  .cases e
 .rename_i m cs k n B g hi
  split at e
  .rename_i p
   have f:∃c d,P.underlying t=some (.array m c)/\P.underlying c=some d/\(∀fs,d≠.struct fs)/\(∀a b,d≠.array a b)/\∃j,P.info? c=some j/\j.size=1:=by
    grind [ic,Option.isSome_iff_exists,oT]
   obtain⟨c,d,f,hd,C,y,j,A,r⟩:=f;refine eo (by rw[l];simp[Op.operands,g,hi,fu]) ?_;unfold execOp;rw[l];simp only[(bT g).2,(bT hi).2]
   have u:am P (sizeOf c)=some 1:=by
    unfold sizeOf;rw[ai,qD A,VX,<-r];rfl
   have q:am P (isAgg c)=some false:=by
    unfold isAgg;rw[ai,fH hd,VX]
    cases d<;>first|rfl|exact absurd rfl (C _)|exact absurd rfl (y _ _)
   have h1:am P (Instr.index t (.agg cs) (.int k n))=some v:=by
    unfold Instr.index;simp only[asIntOf,pure_bind];rw[ai,fH f,VX];simp only[p,and_self,V8];rw[ai,u,VX,XF];unfold part;rw[ai,q,VX];simp only[VP,VZ,e];rfl
   rw[ai,h1];rfl
  .cases e
 .cases e
def Gk(C:Cx)(L:Nat->Loc)(h:Hp)(w:World)(o:Oper)(σ:Operand->Value)(v:AV)(W:List (Nat×Blk)):Prop:=
 ∃n u b a,(execOp σ o).run C.P w=.ok n b/\(n=.value u\/(n=.skip/\u=undef))/\aL C L h w a (ak h W) b/\RepA b (ae C a (ak h W)) a (ak h W) v u
theorem eu(a:MemL C L h w){v:AV}(b:RepA w (ae C L h) L h v u)(e:(execOp σ o).run C.P w=.ok (.value u) w):Gk C L h w o σ v []:=
 ⟨_,u,w,L,e,.inl rfl,aL.refl a,b⟩
theorem jf(c:MemL C L h w)(a:∀cs b,o.op≠.select cs b)(d:∀x∈o.op.operands,RepA w (ae C L h) L h (ρ x) (σ x)){v:AV}
 (e:bL C.P o ρ=some (v,W)):Gk C L h w o σ v W:=by
 obtain⟨u,h1,rfl,rfl⟩:=C5 a d e;exact eu c (.pv (.val u)) h1
theorem Ac(P:Program)(t:TypeId)(v:Value):(newVar t v).run P w=.ok ⟨w.heap.size,0,none⟩ (w.alloc (.cells v.cells t)):=rfl
theorem E8(c:MemL C L h w):∀k e d xs a,h k=some (.row e d xs a)->(L k).isNil=true->xs=[]:=λk _ _ _ _ b hn=>(c.bl k _ b).2.2.2.1 hn
theorem sH(a:List Operand)(c:∀x∈a,RepA w M L h (ρ x) (σ x)):aE w M L h (a.map ρ) (a.map σ):=by
 refine⟨by simp,λi p u hp b=>?_⟩
 grind
theorem EM{q:Option Bool}(h:zW op q=some b):∃a,q=some a/\((op=.eql/\b=a)\/(op=.neq/\b=!a)):=by
 unfold zW at h
 grind
theorem y8(a:n6 x=true)(c:RepA w M L h x u):u=.slice none 0 0:=by
 unfold n6 at a;split at a
 .cases c with
  |pv b=>rw[aU b,lJ a]
 .cases a
theorem rQ(h:nk P t=true):∃e,P.underlying t=some (.slice e):=by
 unfold nk at h;split at h
 .rename_i s z e b c d a
  exact⟨e,(dV a rfl).1⟩
 .cases h
theorem A1(q:MemL C L h w)(hs:∀k b,h1 k=some b->h k=some b)(j:RepA w (ae C L h) L h x u)(e:uK h1 x=some b):∃a n c,u=.slice a n c/\a.isNone=b:=by
 unfold uK at e;split at e
 .rename_i v
  split at e
  .rename_i hn
   injection e with e;subst e
   cases j with
   |pv g=>exact⟨none,0,0,by rw[aU g,lJ hn],rfl⟩
  .cases e
 .rename_i xs
  split at e
  .cases e
  .rename_i i
   injection e with e;subst e
   cases j with
   |pv g=>
    cases g with
    |sl0 a c=>simp at i
    |sl xs b o c s u l hs f g=>exact⟨_,_,_,rfl,rfl⟩
 .rename_i k n
  split at e
  .rename_i e0 s xs y m
   split at e
   .rename_i f
    injection e with e;subst e
    cases j with
    |arr d r z=>
     rw[hs _ _ m]at d;injection d with d;injection d with a1 a2 a3 a4;subst a3
     have p:(L k).isNil=false:=by
      cases hq:(L k).isNil with
      |false=>rfl
      |true=>exact absurd (by rw[(q.bl k _ (hs _ _ m)).2.2.2.1 hq]at f;exact f.1.symm) f.2
     grind [Loc.slice]
   .cases e
  .cases e
 .cases e
theorem EN(d:Nat){e:TypeId}(a:Option Addr)(n c:Nat)(h:P.underlying t=some (.slice e)):am P (Op.equalIn (d+1) t (.slice a n c) (.slice none 0 0))=some a.isNone:=by
 unfold Op.equalIn;rw[ai]
 have:am P (underlying t)=some (.slice e):=by unfold underlying;rw[ai];show(some P).bind _=_;rw[VX,h];rfl
 rw[this,VX];cases a<;>rfl
theorem A3{dst:Option Nat}{x y:Operand}{ty:TypeId}{pos:String}{aft:Array Edge}{g:Option (Nat×Bool)}(j:∃e,P.underlying t=some (.slice e))
 {a:Option Addr}{n c:Nat}(k:σ x=.slice a n c)(l:σ y=.slice none 0 0){b:Bool}(f:(op=.eql/\b=a.isNone)\/(op=.neq/\b=!a.isNone)):
 am P (execOp σ ⟨dst,.binOp op t x y t',ty,pos,aft,g⟩)=some (.value (.bool b)):=by
 obtain⟨e,i⟩:=j;unfold execOp;simp only[k,l];have hq:am P (Op.equal t (.slice a n c) (.slice none 0 0))=some a.isNone:=EN _ a n c i;rcases f with⟨rfl,rfl⟩|⟨rfl,rfl⟩
 .have h1:am P (eqGuard .eql t x y (.slice a n c) (.slice none 0 0))=some ():=rfl
  have d:am P (binOp .eql t (.slice a n c) (.slice none 0 0))=some (.bool a.isNone):=by simp only[binOp,ai,hq,VX];rfl
  simp only[ai,h1,d,VX];rfl
 .have h1:am P (eqGuard .neq t x y (.slice a n c) (.slice none 0 0))=some ():=rfl
  have d:am P (binOp .neq t (.slice a n c) (.slice none 0 0))=some (.bool !a.isNone):=by simp only[binOp,ai,hq,VX];rfl
  simp only[ai,h1,d,VX];rfl
theorem EO(cs:Array Value)(off sz:Nat):Value.agg (cs.extract off (off+sz))=yY cs off sz:=by
 unfold yY
 congr 1
 grind
theorem rR{j:TypeInfo}(c:rL P t=some true)(d:P.info? t=some j)(cs:Array Value)(off:Nat):am P (part t cs off)=some (yY cs off j.size):=by
 have a:am P (isAgg t)=some true:=by
  unfold rL at c;unfold isAgg;rw[ai];split at c
  .rename_i h;rw[fH h];rfl
  .rename_i h;rw[fH h];rfl
  all_goals grind
 have b:am P (sizeOf t)=some j.size:=by
  unfold sizeOf;rw[ai,qD d,VX];rfl
 unfold part;rw[ai,a,VX];show am P (do pure (Value.agg (cs.extract off (off+(<-sizeOf t)))))=_;rw[ai,b,VX,<-EO];rfl
theorem y9(a:rL P t=some false){off:Nat}(e:cs[off]?=some v):am P (part t cs off)=some v:=by
 have b:am P (isAgg t)=some false:=by
  unfold rL at a;unfold isAgg;rw[ai];split at a
  .cases a
  .cases a
  .rename_i d c hn h
   rw[fH h,VX]
   cases d<;>first|rfl|exact(c _ rfl).elim|exact(hn _ _ rfl).elim
  .cases a
 unfold part;rw[ai,b,VX];simp only[VP,VZ,e];rfl
theorem LU{x i:Operand}(b:o.op=.index t x i)(e:zV (uJ P t) (ρ x) (ρ i)=some v):bL P o ρ=some (.pv (.val v),[]):=by
 unfold zV at e;split at e
 .rename_i n s cs k d a c hi
  split at e
  .rename_i p
   injection e with e;subst e;unfold uJ at a;split at a
   .rename_i m f r
    split at a
    .rename_i j q g
     injection a with a;injection a with hk1 hk2;subst hk1;subst hk2;refine eo (by rw[b];simp[Op.operands,c,hi,fu]) ?_;unfold execOp;rw[b];simp only[(bT c).2,(bT hi).2]
     have l:am P (sizeOf f)=some j.size:=by
      unfold sizeOf;rw[ai,qD g,VX];rfl
     have h1:am P (Instr.index t (.agg cs) (.int k d))=some (yY cs (d.toNat*j.size) j.size):=by
      unfold Instr.index;simp only[asIntOf,pure_bind]
      grind [ai,fH,rR]
     rw[ai,h1];rfl
    .cases a
   .cases a
  .cases e
 .cases e
theorem Jn{x:Operand}{f:Nat}(i:o.op=.field t x f)(e:xH (tU P t f) (ρ x)=some v):bL P o ρ=some (.pv (.val v),[]):=by
 have key:∀{b c g cs},tU P t f=some (b,c,g)->ρ x=.pv (.val (.agg cs))->∀v,(∀t',rL P t'=some b->(∃j,P.info? t'=some j/\j.size=g)->am P (part t' cs c)=some v)->bL P o ρ=some (.pv (.val v),[]):=by
  intro b c g cs a k v hp;unfold tU at a;split at a
  .rename_i fs l
   split at a
   .rename_i n d
    split at a
    .rename_i m j p q
     injection a with a;injection a with hk1 a;injection a with hk2 hk3;subst hk1;subst hk2;subst hk3;refine eo (by rw[i];simp[Op.operands,k,fu]) ?_;unfold execOp;rw[i];simp only[(bT k).2]
     have h1:am P (Instr.field t (.agg cs) f)=some v:=by
      unfold Instr.field;rw[ai,fH l,VX];simp only[d,asAgg,pure_bind]
      grind
     rw[ai,h1];rfl
    .cases a
   .cases a
  .cases a
 unfold xH at e
 grind [rR,y9]
theorem C6{x y:Option Value}(e:xI x y=some v):x=some v\/y=some v:=by
 unfold xI at e
 grind
theorem HD{w:World}{L:Nat->Loc}{h:Hp}(f:Fn){vs:List Value}(h1:aE w M L h first us)(a:aE w M L h caps vs):RepA w M L h (Cv f first caps) (.func f us.toArray vs.toArray):=by
 unfold Cv;split
 .rename_i x r
  have g:=a.nil_inv;subst g;split
  .rename_i i c
   have e:=pW c;rw[e]at h1;have b:=h1.map_pv_inv;split
   .rename_i j d
    rw[uE d b];exact .pv (.val _)
   .exact .pv (.fn f i [] us [] b.1 rfl b.2 cy.nil.2)
  .exact .fn f _ _ us [] h1.1 rfl h1.2 aE.nil.2
 .exact .fn f first caps us vs h1.1 a.1 h1.2 a.2
theorem yt(h:tV P t=true):∃d,P.underlying t=some d/\∀m,d≠.interface m:=by
 grind [tV]
end
section
variable {P:Program} {kt e0:TypeId} {kd:IntKind} {n:Nat} {j:TypeInfo}
end
section
variable {P:Program} {kt e0:TypeId} {kd:IntKind} {n:Nat} {j:TypeInfo} {w:World}
end
section
variable {C:Cx} {L:Nat->Loc} {h1 h:Hp} {w:World}
theorem Gl(E:MemL C L h w)(hs:∀k b,h1 k=some b->h k=some b)(g:∀d,o.dst=some d->h1 d=h d/\d<2000000)
 (F:∀x∈o.op.operands,RepA w (ae C L h) L h (ρ x) (σ x)){hn:List Nat}{v:AV}{W:List (Nat×Blk)}(e:fg C.P hn o ρ h1=some (v,W)):Gk C L h w o σ v W:=by
 obtain⟨b0,op,type,pos,after,guard⟩:=o;simp only at g
 cases op with
 |move x=>
  simp only[fg,VQ,V0]at e;obtain⟨rfl,rfl⟩:=e;exact eu E (F x (by simp[Op.operands])) rfl
 |assign x=>
  have D:=F x (by simp[Op.operands]);simp only[fg]at e
  have Y:some (ρ x,[])=some (v,W)->Gk C L h w ⟨b0,.assign x,type,pos,after,guard⟩ σ v W:=by
   intro e;simp only[VQ,V0]at e;obtain⟨rfl,rfl⟩:=e;exact eu E D rfl
  split at e
  .rename_i d
   split at e
   .rename_i hc
    simp only[An]at hc;split at e
    .rename_i sz zr et bq eb ez A
     split at e
     .rename_i hd
      injection e with e;injection e with B O;subst B;subst O
      have Q:h d=none:=by rw[<-(g d rfl).1];simpa using hd.1
      have ch:σ x=.slice none 0 0:=by
       have h2:=hc.2;generalize ρ x=y at h2 D;unfold n6 at h2;split at h2
       .cases D with
        |pv V=>rw[aU V,lJ h2]
       .cases h2
      have J:=lm (e:=et) (sz:=bq) (xs:=[]) (l:=⟨0,0,true⟩) E (Ext.refl _ w) Q (g d rfl).2 (λh=>by cases h)
       ⟨hd.2,WJ _,by simp,λ_=>rfl,(λh=>by cases h)⟩
      exact⟨.value (.slice none 0 0),.slice none 0 0,w,_,by simp[execOp,ch],.inl rfl,J.1,J.2⟩
     .cases e
    .cases e
   .exact Y e
  .exact Y e
 |pick c a b=>
  simp only[fg]at e;split at e
  .rename_i t ht
   injection e with e;injection e with B O;subst B;subst O;have hc:=F c (by simp[Op.operands]);rw[ht]at hc
   have cn:σ c=.bool t:=by cases hc with|pv V=>exact aU V
   refine eu E (u:=if t then σ a else σ b) ?_ (by simp[execOp,cn,asBool])
   cases t with
   |true=>exact F a (by simp[Op.operands])
   |false=>exact F b (by simp[Op.operands])
  .cases e
 |alloc elem=>
  simp only[fg]at e;split at e
  .rename_i sz z kd d A
   split at e
   .rename_i hd
    injection e with e;injection e with B O;subst B;subst O
    have Q:h d=none:=by rw[<-(g d rfl).1];simpa using hd
    obtain⟨i,dd,hi,_,_,hz,_⟩:=iw A
    have cB:aE w (ae C L h) L h (z.cells.toList.map λv=>AV.pv (.val v)) z.cells.toList:=by
     refine⟨by simp,λq p u hp hu=>?_⟩;simp only[VN,VK]at hp;obtain⟨y,hy,rfl⟩:=hp;rw[hy]at hu;injection hu with hu;subst hu;exact .pv (.val _)
    have hb:=AY (us:=z.cells) E Q (g d rfl).2 cB elem;refine⟨.value (.pointer (some ⟨w.heap.size,0,none⟩)),_,_,_,?_,.inl rfl,hb.1,hb.2⟩;simp only at hz;simp[execOp,Instr.alloc,zeroValue,nI hi,<-hz,Ac]
   .cases e
  .cases e
 |box elem x=>
  simp only[fg]at e;split at e
  .rename_i cs d cm
   split at e
   .rename_i hd
    injection e with e;injection e with B O;subst B;subst O
    have Q:h d=none:=by rw[<-(g d rfl).1];simpa using hd
    have V:=qC hs (F x (by simp[Op.operands])) cm;have hb:=AY (us:=(σ x).cells) E Q (g d rfl).2 V elem;refine⟨.value (.pointer (some ⟨w.heap.size,0,none⟩)),_,_,_,?_,.inl rfl,hb.1,hb.2⟩;simp[execOp,Instr.box,Ac]
   .cases e
  .cases e
 |build t ps=>
  simp only[fg]at e;split at e
  .rename_i ti qs A cw
   simp only[VK,V0]at e;obtain⟨v',B,rfl,rfl⟩:=e;have hp:=vP (σ:=σ) hs (λx D=>F x (by simpa[Op.operands]using D)) cw;obtain⟨r,G,H⟩:=Cq A hp B;refine eu E H ?_
   have:(ps.map λ(i,x)=>(i,σ x))=(ps.toList.map λ(i,x)=>(i,σ x)).toArray:=by
    apply Array.ext';simp
   simp only[execOp,Sem.run_bind,this,G,Result.andThen_ok,Sem.run_pure]
  .cases e
 |buildSlice t len ps=>
  simp only[fg]at e;split at e
  .rename_i cM I
   injection e with e;subst e;unfold yZ at I;split at I
   .rename_i d cu
    split at I
    .split at I
     .rename_i s0 z0 et bq eb z1 A
      split at I
      .rename_i hc
       injection I with I;injection I with B O;subst B;subst O;obtain⟨Z,jt,hj,cb,_,cd⟩:=dV A rfl
       have Q:h d=none:=by rw[<-(g d rfl).1];simpa using hc.1
       have J:=lm (e:=et) (sz:=bq) (xs:=[]) (l:=⟨w.heap.size,0,false⟩) E (Ext.alloc (λ_=>False) w (.cells #[] et)) Q (g d rfl).2 (λ_=>VU _)
        ⟨hc.2,WJ _,by simp,λ_=>rfl,λ_=>⟨VU _,WJ _,#[],j6 w _,by simp,λi x j p D=>by simp at D⟩⟩
       have cj:ps=#[]:=by apply Array.ext';simpa using cu
       subst cj;refine⟨.value (.slice (some ⟨w.heap.size,0,none⟩) 0 0),_,w.alloc (.cells #[] et),_,?_,.inl rfl,J.1,J.2⟩
       have h0:¬0>2^24:=by omega
       simp only[execOp,Instr.buildSlice,Sem.run_bind,dJ Z,Result.andThen_ok,gG hj,Ys,V8,pure_bind,h0,VZ]
       have B:Array.range 0=#[]:=by simp
       rw[B];simp only[List.map_toArray,Yu,Instr.fill];rfl
      .cases I
     .cases I
    .cases I
   .cases I
  split at e
  .rename_i s0 z0 et bq eb z1 A
   split at e
   .rename_i xs W' cp
    split at e
    .rename_i hc
     obtain⟨c1,c2,c3⟩:=hc;obtain⟨Z,jt,hj,cb,_,cd⟩:=dV A rfl;subst cb;obtain⟨a1,a2,a3,a4,a5⟩:=vR (σ:=σ) E (dh.of_sub hs) (λx D=>F x (by simpa[Op.operands]using D)) cp
     have ad:(ps.map λ(i,x)=>(i,σ x)).toList=ps.toList.map λ(i,x)=>(i,σ x):=by simp
     have ck:ps.toList.length=len:=by omega
     have ba:∀(q:Nat) i v,(ps.toList.map λ(i,x)=>(i,σ x))[q]?=some (i,v)->i=0+q/\v.cells.size=jt.size:=by
      intro q i v hq;obtain⟨b1,p,b2,b3⟩:=a5 q i v hq;refine⟨b1,?_⟩;have:=b3.cells.1;rw[a4 p (Is b2)]at this;simpa using this.symm
     obtain⟨arr,f1,f2,f3,f4⟩:=ww (arr:=(Array.range (len*jt.size)).map ((if len*jt.size=0 then #[]else z1.cells:Array Value)[·% (if len*jt.size=0 then #[]else z1.cells:Array Value).size]!)) ba (by simp[ck]);have hg:=a1.1.grow (Ext.alloc (λ_=>False) w (.cells arr et))
     have bH:(execOp σ ⟨b0,.buildSlice t len ps,type,pos,after,guard⟩).run C.P w=.ok (.value (.slice (some ⟨w.heap.size,0,none⟩) len len)) (w.alloc (.cells arr et)):=by
      have cg:¬len*jt.size>2^24:=by omega
      have b8:(zeroValue et).run C.P w=.ok z1 w:=by simp[zeroValue,nI hj,cd]
      by_cases hl:len*jt.size=0
      .simp only[hl,V8]at f1
       have h0:¬0>2^24:=by omega
       simp only[execOp,Instr.buildSlice,Sem.run_bind,dJ Z,Result.andThen_ok,gG hj,hl,h0,VZ,V8,pure_bind,ad,f1];rfl
      .simp only[hl,VZ]at f1
       simp only[execOp,Instr.buildSlice,Sem.run_bind,dJ Z,Result.andThen_ok,gG hj,cg,hl,VZ,pure_bind,b8,ad,f1];rfl
     have bs:∀(i:Nat) x(j:Nat) p,xs[i]?=some x->x.cells[j]?=some p->∃u,arr[i*jt.size+j]?=some u/\Rep w (ae C L (ak h W')) p u:=by
      intro i x j p D U
      have b7:i<(ps.toList.map λ(i,x)=>(i,σ x)).length:=by rw[Wp];have:=(th.1 D).1;omega
      obtain⟨⟨i',vv⟩,X⟩:∃y,(ps.toList.map λ(i,x)=>(i,σ x))[i]?=some y:=⟨_,an b7⟩;obtain⟨b1,p',b2,b3⟩:=a5 i i' vv X;rw[D]at b2;injection b2 with b2;subst b2
      have ar:j<jt.size:=by rw[<-a4 x (Is D)];exact(th.1 U).1
      have M:=f4 i i' vv j X ar;rw[WU]at M
      have bb:j<vv.cells.size:=by rw[(ba i i' vv X).2];exact ar
      rw[WB bb]at M;exact⟨_,M,b3.cells.2 j p vv.cells[j] U (by simp[bb])⟩
     split at e
     .rename_i d hd
      unfold CT at hd;split at hd
      .rename_i d' _
       split at hd
       .rename_i b9
        injection hd with hd;subst hd;injection e with e;injection e with B O;subst B;subst O;simp only[An,YB]at b9
        have Q:h d'=none:=by rw[<-(g d' rfl).1];exact b9.2
        have J:=lm (e:=et) (sz:=jt.size) (xs:=xs) (l:=⟨w.heap.size,len,false⟩) E (Ext.alloc (λ_=>False) w (.cells arr et)) Q (g d' rfl).2 (λ_=>VU _) (by
         refine⟨c2,WJ _,λx D=>a4 x D,(λh=>by cases h),λ_=>⟨by show xs.length<=len;omega,by simp only[maxLen];have:=Nat.le_mul_of_pos_right len c2;omega,arr,j6 w _,?_,?_⟩⟩
         .rw[f2];simp
         .intro i x j p D U
          obtain⟨u,hu,V⟩:=bs i x j p D U
          exact⟨u,hu,V.mono (oU (Ext.alloc (λ_=>False) w (.cells arr et)) (λ_=>VU _))⟩)
        rw[c1]at J;exact⟨_,_,_,_,bH,.inl rfl,J.1,J.2⟩
       .cases hd
      .cases hd
     injection e with e;injection e with B O;subst B;subst O;refine⟨.value (.slice (some ⟨w.heap.size,0,none⟩) len len),_,w.alloc (.cells arr et),L,bH,.inl rfl,a1.trans ⟨hg.1,hg.2,KC.refl _ _⟩,.pv ?_⟩
     .rw[<-c1]
      refine .sl xs w.heap.size 0 xs.length jt.size (λi j=>(arr[i*jt.size+j]?).getD undef) (VU _) (λi x D=>a4 x (Is D)) ?_ ?_
      all_goals
       intro i x j p D U
       have b7:i<(ps.toList.map λ(i,x)=>(i,σ x)).length:=by rw[Wp];have:=(th.1 D).1;omega
       obtain⟨⟨i',vv⟩,X⟩:∃y,(ps.toList.map λ(i,x)=>(i,σ x))[i]?=some y:=⟨_,an b7⟩;obtain⟨b1,p',b2,b3⟩:=a5 i i' vv X;rw[D]at b2;injection b2 with b2;subst b2
       have ar:j<jt.size:=by rw[<-a4 x (Is D)];exact(th.1 U).1
       have M:=f4 i i' vv j X ar;rw[WU]at M
       have bb:j<vv.cells.size:=by rw[(ba i i' vv X).2];exact ar
       rw[WB bb]at M
      .refine⟨by rw[eY (j6 w _),WU,M];rfl,λhM=>?_⟩
       have:=a1.1.mlt hM;omega
      .simp only[M,V5]
       have:=b3.cells.2 j p vv.cells[j] U (by simp[bb]);exact this.mono hg.2
    .cases e
   .cases e
  .cases e
 |load t a=>
  simp only[fg]at e;split at e
  .rename_i ti A
   simp only[VK,V0]at e;obtain⟨v',B,rfl,rfl⟩:=e;obtain⟨r,G,H⟩:=wv E hs A (F a (by simp[Op.operands])) B;exact eu E H (by simp[execOp,G])
  .cases e
 |store t a x=>
  simp only[fg]at e;split at e
  .rename_i ti A
   simp only[VK,V0]at e;obtain⟨W',B,rfl,rfl⟩:=e;obtain⟨w',G,H⟩:=Co E hs A (F a (by simp[Op.operands])) (F x (by simp[Op.operands])) B;exact⟨.skip,undef,w',L,by simp[execOp,G],.inr ⟨rfl,rfl⟩,H,.undef _⟩
  .cases e
 |nilCheck x=>
  have D:=F x (by simp[Op.operands]);simp only[fg]at e;split at e
  .rename_i k cH hk
   injection e with e;injection e with B O;subst B;subst O;rw[hk]at D;have bc:=D;generalize hσ:σ x=u at D bc
   cases D with
   |ptr cf=>exact eu E bc (by simp[execOp,hσ])
  .rename_i y cH hk
   injection e with e;injection e with B O;subst B;subst O;rw[hk]at D;have bc:=D;generalize hσ:σ x=u at D bc
   cases D with
   |pv V=>cases V with
    |rptr=>exact eu E bc (by simp[execOp,hσ])
  .cases e
 |fieldAddr s x f=>
  simp only[fg]at e;split at e
  .rename_i ti A
   simp only[VK,V0]at e;obtain⟨v',B,rfl,rfl⟩:=e;obtain⟨r,G,H⟩:=yi A hs (F x (by simp[Op.operands])) B;exact eu E H (by simp[execOp,G])
  .cases e
 |indexAddr t x ix=>
  simp only[fg]at e;split at e
  .rename_i ti n A hn
   simp only[VK,V0]at e;obtain⟨v',B,rfl,rfl⟩:=e;have ca:=F ix (by simp[Op.operands])
   have hint:∃kk,σ ix=.int kk n:=by
    generalize ρ ix=y at hn ca;unfold CR at hn;split at hn
    .rename_i kk m
     injection hn with hn;subst hn
     cases ca with
     |pv V=>exact⟨kk,aU V⟩
    .cases hn
   obtain⟨kk,cf⟩:=hint;obtain⟨r,G,H⟩:=(CZ B).elim (yj (kk:=kk) hs A (F x (by simp[Op.operands])) (E8 E)) (A0 (kk:=kk) hs A (F x (by simp[Op.operands])));exact eu E H (by simp[execOp,cf,G])
  .cases e
 |makeInterface t x=>
  simp only[fg]at e;split at e
  .rename_i hp
   split at e
   .rename_i p W' B
    injection e with e;injection e with e1' e2';subst e1';subst e2';obtain⟨b1,b2,_⟩:=nH E (dh.of_sub hs) (F x (by simp[Op.operands])) B;refine⟨.value (.iface t (σ x)),_,w,L,?_,.inl rfl,b1,.pv (.ifc t p _ b2)⟩;obtain⟨d,hd,b4⟩:=yt hp;simp only[execOp,Instr.makeInterface,Sem.run_bind,run_underlying hd,Result.andThen_ok]
    cases d<;>first|rfl|exact(b4 _ rfl).elim
   .cases e
  .cases e
 |typeAssert x xt a' ok=>
  have D:=F x (by simp[Op.operands]);simp only[fg]at e;split at e
  .rename_i t p hk
   split at e
   .rename_i hp
    simp only[VK,V0]at e;obtain⟨v',B,rfl,rfl⟩:=e;rw[hk]at D;generalize hσ:σ x=u at D
    cases D with
    |pv V=>cases V with
     |ifc _ _ v S=>
      obtain⟨d,hd,b4⟩:=yt hp;unfold AU at B
      have a8:(Instr.typeAssert (.iface t v) xt a' ok).run C.P w=(if t=a' then .ok (if ok then .tuple #[v,.bool true]else v) w else if ok then((zeroValue a').run C.P w).andThen λz w=>.ok (.tuple #[z,.bool false]) w else(runtimePanic (.typeAssertion (some xt) (some t) a' ""):Sem Value).run C.P w):=by
       unfold Instr.typeAssert;simp only[Sem.run_bind,dJ hd,Result.andThen_ok]
       cases d with
       |interface m=>exact(b4 m rfl).elim
       |_=>split<;>split<;>simp[Sem.run_bind]<;>rfl
      split at B
      .rename_i ht
       injection B with B;subst B;refine eu E (u:=if ok then .tuple #[v,.bool true]else v) ?_ (by simp only[execOp,hσ,Sem.run_bind,a8,VS ht,Result.andThen_ok];rfl)
       cases ok with
       |false=>exact .pv S
       |true=>exact .pv (.tup [p,.val (.bool true)] [v,.bool true] rfl (cy.cons S (cy.cons (.val _) .nil)).2)
      .rename_i ht
       split at B
       .rename_i cr
        split at B
        .rename_i z hz
         injection B with B;subst B;obtain⟨ti,A,cz⟩:=Option.bind_eq_some_iff.1 hz;obtain⟨i,_,hi,_,_,cq,_⟩:=iw A;subst cr
         have b8:(zeroValue a').run C.P w=.ok z w:=by
          have:i.zero=some z:=cq▸cz;simp[zeroValue,nI hi,this]
         refine eu E (u:=.tuple #[z,.bool false]) ?_ (by simp only[execOp,hσ,Sem.run_bind,a8,VM ht,V8,b8,Result.andThen_ok];rfl);exact .pv (.tup [.val z,.val (.bool false)] [z,.bool false] rfl (cy.cons (.val _) (cy.cons (.val _) .nil)).2)
        .cases B
       .cases B
   .cases e
  .cases e
 |makeFunc f first caps=>
  obtain⟨first⟩:=first
  obtain⟨caps⟩:=caps;simp only[fg,VQ,V0]at e;obtain⟨rfl,rfl⟩:=e
  have a1:=sH (σ:=σ) first (λx D=>F x (by simp[Op.operands,D]))
  have a2:=sH (σ:=σ) caps (λx D=>F x (by simp[Op.operands,D]));refine eu E (u:=.func f (first.map σ).toArray (caps.map σ).toArray) ?_ (by simp[execOp,Instr.makeFunc]);exact HD f a1 a2
 |makeSlice t l c=>
  simp only[fg]at e;split at e
  .rename_i ti A
   obtain⟨r,w',L',G,H,a7⟩:=(C4 e).elim (Cp E A g (F l (by simp[Op.operands])) (F c (by simp[Op.operands]))) (CX E A g (F l (by simp[Op.operands])) (F c (by simp[Op.operands])));exact⟨.value r,r,w',L',by simp[execOp,G],.inl rfl,H,a7⟩
  .cases e
 |slice t x lo hi mx=>
  simp only[fg]at e;split at e
  .exact jf E (by intro _ _ h;cases h) F e
  .rename_i k n hk
   split at e
   .rename_i ti A
    unfold K9 at e;split at e
    .rename_i p W1 B
     split at e
     .rename_i v1 O
      injection e with e;injection e with ea eb;subst ea;subst eb;have D:=F x (by simp[Op.operands]);rw[hk]at D;obtain⟨a1,a2,_⟩:=n9 E (dh.of_sub hs) D B
      obtain⟨r,G,H⟩:=vQ (ul:=lo.map σ) (uh:=hi.map σ) A (.pv a2)
       (by intro a K;cases lo with
         |none=>cases K
         |some y=>simp at K;subst K;exact⟨_,rfl,(F y (by simp[Op.operands])).mono a1.2.1 a1.2.2⟩) (by intro K;cases lo with
         |none=>rfl
         |some y=>cases K)
       (by intro a K;cases hi with
         |none=>cases K
         |some y=>simp at K;subst K;exact⟨_,rfl,(F y (by simp[Op.operands])).mono a1.2.1 a1.2.2⟩) (by intro K;cases hi with
         |none=>rfl
         |some y=>cases K) O
      exact⟨.value r,r,w,L,by simp[execOp,G],.inl rfl,a1,H⟩
     .cases e
    .cases e
   .cases e
  .split at e
   .rename_i ti A
    simp only[VK,V0]at e;obtain⟨v',B,rfl,rfl⟩:=e
    obtain⟨r,G,H⟩:=vQ (ul:=lo.map σ) (uh:=hi.map σ) A (F x (by simp[Op.operands]))
     (by intro a K;cases lo with
       |none=>cases K
       |some y=>simp at K;subst K;exact⟨_,rfl,F y (by simp[Op.operands])⟩) (by intro K;cases lo with
       |none=>rfl
       |some y=>cases K)
     (by intro a K;cases hi with
       |none=>cases K
       |some y=>simp at K;subst K;exact⟨_,rfl,F y (by simp[Op.operands])⟩) (by intro K;cases hi with
       |none=>rfl
       |some y=>cases K) B
    exact eu E H (by simp[execOp,G])
   .cases e
  .cases e
 |extract t i=>
  have ht:=F t (by simp[Op.operands]);simp only[fg]at e;split at e
  .rename_i vs ad
   simp only[VK,V0]at e;obtain⟨v',B,rfl,rfl⟩:=e;rw[ad]at ht;generalize hσ:σ t=u at ht
   cases ht with
   |tup _ us hl hh=>
    have a6:i<us.length:=by rw[<-hl];exact(th.1 B).1
    exact eu E (hh i v' us[i] B (an a6)) (by simp[execOp,hσ,Instr.extract,a6])
  .rename_i vs ad
   simp only[VK,V0]at e;obtain⟨v',B,rfl,rfl⟩:=e;rw[ad]at ht;generalize hσ:σ t=u at ht
   cases ht with
   |pv V=>cases V with
    |tup _ us hl hh=>
     have a6:i<us.length:=by rw[<-hl];exact(th.1 B).1
     exact eu E (.pv (hh i v' us[i] B (an a6))) (by simp[execOp,hσ,Instr.extract,a6])
  .exact jf E (by intro _ _ h;cases h) F e
  .cases e
 |call c=>
  simp only[fg]at e;split at e
  .rename_i b hb
   obtain⟨callee,args,argTypes⟩:=c;simp only at hb e;subst hb;obtain⟨args⟩:=args;obtain⟨argTypes⟩:=argTypes;simp only at e;have b5:(execOp σ ⟨b0,.call ⟨.builtin b,⟨args⟩,⟨argTypes⟩⟩,type,pos,after,guard⟩)=builtin b ⟨argTypes⟩ type ((⟨args⟩:Array Operand).map λ|.const _=>true|_=>false) ((⟨args⟩:Array Operand).map σ):=rfl;have R:∀x∈args,RepA w (ae C L h) L h (ρ x) (σ x):=λx D=>F x (by simp[Op.operands,Call.operands,D]);unfold wq at e;split at e
   .rename_i _ _ x t N
    .obtain⟨a,rfl,rfl⟩:=Qz N
     split at e
     .exact jf E (by intro _ _ h;cases h) F e
     .split at e
      .rename_i ti A
       simp only[VK,V0]at e;obtain⟨v',B,rfl,rfl⟩:=e;obtain⟨r,G,H⟩:=EK (ty:=type) hs A (R a (by simp)) (E8 E) B;exact eu E H (by rw[b5];simp[builtin,G])
      .cases e
   .rename_i _ _ s x t t' N
    .obtain⟨a,b,rfl,rfl,rfl⟩:=Gj N
     split at e
     .rename_i cx
      subst cx;split at e
      .rename_i ti A
       obtain⟨r,w',L',G,H,a7⟩:=AZ (ty:=type) E hs A g (R a (by simp)) (R b (by simp)) e;exact⟨.value r,r,w',L',by rw[b5];simp[builtin,G],.inl rfl,H,a7⟩
      .cases e
     .cases e
   .rename_i _ _ s x t t' N
    .obtain⟨a,b,rfl,rfl,rfl⟩:=Gj N
     split at e
     .rename_i ti A
      obtain⟨r,w',G,H,a7⟩:=CY (t':=t') (ty:=type) E hs A (R a (by simp)) (R b (by simp)) e;exact⟨.value r,r,w',L,by rw[b5];simp[builtin,G],.inl rfl,H,a7⟩
     .cases e
   .exact jf E (by intro _ _ h;cases h) F (lK (λv S=>Jl rfl S) e)
   .exact jf E (by intro _ _ h;cases h) F (lK (λv S=>Jm rfl S) e)
   .cases e
  .cases e
 |binOp op t x y t'=>
  simp only[fg]at e;split at e
  .rename_i b hb
   injection e with e;injection e with B O;subst B;subst O;unfold CS at hb;split at hb
   .rename_i T
    simp only[An]at T;obtain⟨b',hk,ct⟩:=EM hb;have hy:=y8 T.1 (F y (by simp[Op.operands]));obtain⟨a,n,c,D,K⟩:=A1 E hs (F x (by simp[Op.operands])) hk;refine eu E (.pv (.val (.bool b))) (mL (A3 (rQ T.2) D hy ?_) w);rcases ct with⟨rfl,rfl⟩|⟨rfl,rfl⟩
    .left;exact⟨rfl,by rw[K]⟩
    .right;exact⟨rfl,by rw[K]⟩
   .cases hb
  .exact jf E (by intro _ _ h;cases h) F (lK (λv S=>Jk rfl S) e)
 |unOp _ _ _=>simp only[fg]at e;exact jf E (by intro _ _ h;cases h) F (lK (λv S=>LS rfl S) e)
 |convert _ _ _=>simp only[fg]at e;exact jf E (by intro _ _ h;cases h) F (lK (λv S=>HC rfl S) e)
 |field _ _ _=>simp only[fg]at e;exact jf E (by intro _ _ h;cases h) F (lK (λv S=>Jn rfl S) e)
 |index _ _ _=>simp only[fg]at e;exact jf E (by intro _ _ h;cases h) F (lK (λv S=>(C6 S).elim (LT rfl) (LU rfl)) e)
 |_=>simp[fg]at e
end
section
variable {C:Cx} {L:Nat->Loc} {h1 h:Hp} {w:World}
theorem lL:∀{W:List (Nat×Blk)}{h:Hp}{k:Nat},(∀d∈W,d.1≠k)->ak h W k=h k
 |[],h,k,_=>rfl
 |(q,b)::W,h,k,a=>by
  show ak (ag h q (some b)) W k=h k;rw[lL (λd c=>a d (by simp[c])),bN (λe=>a (q,b) (by simp) e.symm)]
theorem MemL.callStep(n:MemL C L h w){z:World}{h':Hp}(K:Ext (·∈ks.map λk=>(L k).b) w z)(x:hout.length=ks.length)
 (u:∀k,k∉ks->h' k=h k)
 (T:∀(i:Nat) k g,ks[i]?=some k->hout[i]?=some g->∃cs own,h k=some (.box cs own false)/\h' k=some (.box (g.map .pv) own false)/\ld z (ae C L h) (L k).b g):aL C L h w L h' z:=by
 have hin:∀k,k∈ks->∃g cs own,h k=some (.box cs own false)/\h' k=some (.box (g.map .pv) own false)/\ld z (ae C L h) (L k).b g:=by
  intro k W;obtain⟨i,hi⟩:=Xb.1 W
  have F:i<hout.length:=by rw[x];exact(th.1 hi).1
  obtain⟨cs,own,a,b,c⟩:=T i k hout[i] hi (an F)
  grind
 have D:∀b o,ae C L h' b o->ae C L h b o:=by
  rintro b o (B|⟨q,d,hq,m,l,hf⟩)
  .exact .inl B
  .by_cases e:q∈ks
   .obtain⟨g,cs,own,a,_,_⟩:=hin q e
    exact .inr ⟨q,_,a,trivial,l,by simp[Blk.frz]⟩
   .rw[u q e]at hq;exact .inr ⟨q,d,hq,m,l,hf⟩
 have J:∀b o,ae C L h b o->ae C L h' b o:=by
  rintro b o (B|⟨q,d,hq,m,l,hf⟩)
  .exact .inl B
  .by_cases e:q∈ks
   .obtain⟨g,cs,own,a,r,_⟩:=hin q e
    exact .inr ⟨q,_,r,trivial,l,by simp[Blk.frz]⟩
   .exact .inr ⟨q,d,by rw[u q e];exact hq,m,l,hf⟩
 have v:KC L h L h':=by
  intro q d hq;by_cases e:q∈ks
  .obtain⟨g,cs,own,a,r,_⟩:=hin q e
   rw[a]at hq;injection hq with hq;subst hq;exact⟨_,r,rfl⟩
  .exact⟨d,by rw[u q e];exact hq,dg _ _⟩
 have A:∀b o,¬ae C L h b o->b∉ks.map λk=>(L k).b:=by
  intro b o hn f;obtain⟨q,hq,rfl⟩:=Wf.1 f;obtain⟨g,cs,own,a,_,_⟩:=hin q hq;exact hn (.inr ⟨q,_,a,trivial,rfl,by simp[Blk.frz]⟩)
 have j:Pres w (ae C L h) z (ae C L h'):=by
  grind [Pres.ext]
 refine⟨⟨?_,n.m0,?_,?_,?_⟩,j,v⟩
 .refine n.ext.trans K (λb U f=>?_)
  obtain⟨q,hq,rfl⟩:=Wf.1 f;obtain⟨g,cs,own,a,_,_⟩:=hin q hq;have:=n.own q _ a
  cases own with
  |false=>exact this.2.2.1
  |true=>rcases this with I|I
         .omega
         .exact I.1
 .intro q d hq
  by_cases e:q∈ks
  .obtain⟨g,cs,own,a,r,arr,X,R,S⟩:=hin q e
   rw[r]at hq;injection hq with hq;subst hq;exact⟨arr,X,R,(aE.map_pv (S.mono (Pres.sub D)))⟩
  .rw[u q e]at hq
   refine(n.bl q d hq).mono j v (λm=>K.block _ ((n.bl q d hq).lt m) (λf=>?_));obtain⟨y,p,V⟩:=Wf.1 f;obtain⟨g,cs,own,a,_,_⟩:=hin y p;exact n.sep q y _ _ (λQ=>e (Q▸p)) hq a m trivial V.symm
 .intro q y M N G hq p m E
  have s:∀q b,h' q=some b->b.live (L q)->∃H,h q=some H/\H.live (L q):=by
   intro q b hq m;by_cases e:q∈ks
   .obtain⟨g,cs,own,a,_,_⟩:=hin q e;exact⟨_,a,trivial⟩
   grind
  obtain⟨O,d1,f1⟩:=s q M hq m;obtain⟨P,d2,f2⟩:=s y N p E;exact n.sep q y O P G d1 d2 f1 f2
 .intro q d hq
  by_cases e:q∈ks
  .obtain⟨g,cs,own,a,r,_⟩:=hin q e
   rw[r]at hq;injection hq with hq;subst hq;have:=n.own q _ a;cases own<;>exact this
  .rw[u q e]at hq;exact n.own q d hq
theorem BG(e:lG h1 x=some (p,W)):∀a∈W,(h1 a.1).isSome=true:=by
 unfold lG at e
 grind
theorem uN:∀{xs:List AV}{p:List PV}{W:List (Nat×Blk)},m8 h1 xs=some (p,W)->∀a∈W,(h1 a.1).isSome=true
 |[],p,W,e=>by simp only[m8,VQ,V0]at e;obtain⟨_,rfl⟩:=e;simp
 |x::r,p,W,e=>by
  simp only[m8]at e;split at e
  .rename_i d f
   injection e with e;injection e with _ e;subst e;intro a c;rcases V4.1 c with b|b
   .exact BG d a b
   .exact uN f a b
  .cases e
theorem wx(e:tB h1 x=some (p,W)):∀b∈W,(h1 b.1).isSome=true:=by
 unfold tB at e;split at e
 .split at e
  .rename_i d
   split at e
   .split at e
    .rename_i c
     split at e
     .injection e with e;injection e with _ e;subst e
      intro b a
      grind [uN,List.mem_singleton]
     .cases e
    .cases e
   .split at e
    .split at e
     .rename_i c
      split at e
      .injection e with e;injection e with _ e;subst e
       intro b a
       grind [uN,List.mem_singleton]
      .cases e
     .cases e
    .cases e
  .cases e
 .exact BG e
theorem pY:∀{xs:List AV}{p:List PV}{W:List (Nat×Blk)},qw h1 xs=some (p,W)->∀a∈W,(h1 a.1).isSome=true
 |[],p,W,e=>by simp only[qw,VQ,V0]at e;obtain⟨_,rfl⟩:=e;simp
 |x::r,p,W,e=>by
  simp only[qw]at e;split at e
  .rename_i d f
   injection e with e;injection e with _ e;subst e;intro a c;rcases V4.1 c with b|b
   .exact wx d a b
   .exact pY f a b
  .cases e
theorem yu(e:rJ h1 x=some (p,W)):∀c∈W,(h1 c.1).isSome=true:=by
 unfold rJ at e;split at e
 .grind
 .split at e
  .rename_i f
   split at e
   .grind
   .split at e
    .rename_i d
     split at e
     all_goals
      injection e with e;injection e with _ e;subst e;intro c b;rcases V4.1 b with a|a
      .exact pY d c a
      .simp only[Wu]at a;subst a;simp[f]
    .cases e
  .cases e
 .cases e
theorem rS:∀{xs:List AV}{p:List PV}{W:List (Nat×Blk)},lj h1 xs=some (p,W)->∀a∈W,(h1 a.1).isSome=true
 |[],p,W,e=>by simp only[lj,VQ,V0]at e;obtain⟨_,rfl⟩:=e;simp
 |x::r,p,W,e=>by
  simp only[lj]at e;split at e
  .rename_i d f
   injection e with e;injection e with _ e;subst e;intro a c;rcases V4.1 c with b|b
   .exact yu d a b
   .exact rS f a b
  .cases e
theorem HE(e:AQ h1 x=some (p,W)):∀b∈W,(h1 b.1).isSome=true:=by
 unfold AQ at e;split at e
 .split at e
  .rename_i a;injection e with e;injection e with _ e;subst e;exact pY a
  .cases e
 .split at e
  .rename_i a d
   injection e with e;injection e with _ e;subst e;intro b c
   grind [pY,rS]
  .cases e
 .exact wx e
theorem uO:∀{xs:List AV}{p:List PV}{W:List (Nat×Blk)},pI h1 xs=some (p,W)->∀a∈W,(h1 a.1).isSome=true
 |[],p,W,e=>by simp only[pI,VQ,V0]at e;obtain⟨_,rfl⟩:=e;simp
 |x::r,p,W,e=>by
  simp only[pI]at e;split at e
  .rename_i d f
   injection e with e;injection e with _ e;subst e;intro a c;rcases V4.1 c with b|b
   .exact HE d a b
   .exact uO f a b
  .cases e
theorem Jo(e:frz h1 x=some (p,W)):∀b∈W,(h1 b.1).isSome=true:=by
 unfold frz at e;split at e
 .split at e
  .rename_i a;injection e with e;injection e with _ e;subst e;exact uO a
  .cases e
 .split at e
  .rename_i a d
   injection e with e;injection e with _ e;subst e;intro b c
   grind [pY,rS]
  .cases e
 .split at e
  .rename_i a;injection e with e;injection e with _ e;subst e;exact uO a
  .cases e
 .exact wx e
theorem oc:∀{xs:List AV}{c:List Nat}{h:Hp}(_:MemL C L h w)(_:dh h1 h){us:List Value}(_:aE w (ae C L h) L h xs us){as:List Arg}{ks:List Nat}{W:List (Nat×Blk)},
 jO h1 xs c=some (as,ks,W)->aL C L h w L (ak h W) w/\dh h1 (ak h W)/\(∃y,ks=c++y)/\(c.Nodup->ks.Nodup)/\as.length=us.length/\
  (∀s∈W,(h1 s.1).isSome=true)/\∀(i:Nat) a v,as[i]?=some a->us[i]?=some v->Hz w (ae C L (ak h W)) (ks.map λk=>(L k).b) a v
 |[],c,h,F,hf,us,Q,as,ks,W,e=>by
  simp only[jO,VQ,V0]at e;obtain⟨rfl,rfl,rfl⟩:=e;rw[Q.nil_inv];exact⟨aL.refl F,hf,⟨[],by simp⟩,id,rfl,by simp,λi a v h=>by simp at h⟩
 |x::r,c,h,F,hf,us,Q,as,ks,W,e=>by
  obtain⟨u,Y,rfl,R,o⟩:=Q.cons_inv;unfold jO at e;split at e
  .rename_i k X
   split at e
   .rename_i U
    obtain⟨rfl,N,_⟩:=U;split at e
    .rename_i E I Z l
     injection e with e;injection e with ea eb;injection eb with eb ec;subst ea;subst eb;subst ec;obtain⟨j,z,⟨y,a3⟩,a4,A,B,D⟩:=oc F hf o l;refine⟨j,z,⟨k::y,by rw[a3];simp⟩,λP=>a4 ?_,by simp[A],B,λi a v d f=>?_⟩
     .rw[XM]
      refine⟨P,by simp,?_⟩;intro q hq q' G O;simp at G;subst G;subst O;have H:c.contains q=true:=List.contains_iff_mem.2 hq;rw[N]at H;cases H
     .cases i with
      |zero=>
       simp at d f;subst d;subst f;refine⟨(L k).b,by rw[a3];simp,?_⟩
       cases R with
       |ptr _=>rfl
      |succ i=>exact D i a v (by simpa using d) (by simpa using f)
    .cases e
   .split at e
    .split at e
     .rename_i p S E I T l M
      injection e with e;injection e with ea eb;injection eb with eb ec;subst ea;subst eb;subst ec;obtain⟨g,J,K⟩:=wu F hf R l;obtain⟨j,z,a3,a4,A,B,D⟩:=oc g.1 K (o.mono g.2.1 g.2.2) M;rw[de];refine⟨g.trans j,z,a3,a4,by simp[A],?_,λi a v d f=>?_⟩
      .intro s n
       rcases V4.1 n with m|m
       .exact yu l s m
       .exact B s m
      .cases i with
       |zero=>simp at d f;subst d;subst f;exact J.mono j.2.1
       |succ i=>exact D i a v (by simpa using d) (by simpa using f)
     .cases e
    .cases e
  .rename_i x' V
   split at e
   .rename_i p S E I T l M
    injection e with e;injection e with ea eb;injection eb with eb ec;subst ea;subst eb;subst ec;obtain⟨g,J,K⟩:=nH F hf R l;obtain⟨j,z,a3,a4,A,B,D⟩:=oc g.1 K (o.mono g.2.1 g.2.2) M;rw[de];refine⟨g.trans j,z,a3,a4,by simp[A],?_,λi a v d f=>?_⟩
    .intro s n
     rcases V4.1 n with m|m
     .exact Jo l s m
     .exact B s m
    .cases i with
     |zero=>simp at d f;subst d;subst f;exact J.mono j.2.1
     |succ i=>exact D i a v (by simpa using d) (by simpa using f)
   .cases e
theorem BH:∀{ks:List Nat}{hin:List (List PV)},mC h1 ks=some hin->hin.length=ks.length/\∀(i:Nat) k d,ks[i]?=some k->hin[i]?=some d->∃own,h1 k=some (.box (d.map .pv) own false)
 |[],hin,e=>by simp only[mC,VQ]at e;subst e;exact⟨rfl,λi k d h=>by simp at h⟩
 |k::ks,hin,e=>by
  simp only[mC]at e;split at e
  .rename_i cs own j g f
   split at e
   .rename_i d hp
    injection e with e;subst e;obtain⟨a,b⟩:=BH f;refine⟨by simp[a],λi q qs hq c=>?_⟩
    cases i with
    |zero=>simp at hq c;subst hq;subst c;exact⟨own,by rw[<-pW hp];exact g⟩
    |succ i=>exact b i q qs (by simpa using hq) (by simpa using c)
   .cases e
  .cases e
theorem Ae:∀{ks:List Nat}{hout:List (List PV)}{h:Hp},ks.Nodup->hout.length=ks.length->(∀k∈ks,∃cs own j,h1 k=some (.box cs own j))->
 (∀k,k∉ks->ak h (kl h1 ks hout) k=h k)/\(∀r∈kl h1 ks hout,r.1∈ks)/\
 (∀(i:Nat) k b,ks[i]?=some k->hout[i]?=some b->∀cs own j,h1 k=some (.box cs own j)->ak h (kl h1 ks hout) k=some (.box (b.map .pv) own false))
 |[],hout,h,_,_,_=>by
  refine⟨λk _=>?_,?_,λi k b h=>by simp at h⟩
  .cases hout<;>rfl
  .cases hout<;>simp[kl]
 |k::ks,hout,h,e,u,s=>by
  cases hout with
  |nil=>simp at u
  |cons b f=>
   obtain⟨cs,own,j,d⟩:=s k (by simp);have o:k∉ks:=(Yq.1 e).1;have ih:=λ(h:Hp)=>Ae (hout:=f) (h:=h) (Yq.1 e).2 (by simpa using u) (λq hq=>s q (by simp[hq]))
   have p:kl h1 (k::ks) (b::f)=(k,.box (b.map .pv) own false)::kl h1 ks f:=by simp[kl,d]
   rw[p];have v:∀q,ak h ((k,.box (b.map .pv) own false)::kl h1 ks f) q=ak (ag h k (some (.box (b.map .pv) own false))) (kl h1 ks f) q:=λq=>rfl;refine⟨λq hq=>?_,?_,λi q qs hq c l g m a=>?_⟩
   .simp at hq
    rw[v,(ih _).1 q hq.2,bN hq.1]
   .intro r n
    rcases Wj.1 n with rfl|x
    .simp
    .have:=(ih h).2.1 r x;simp[this]
   .rw[v]
    cases i with
    |zero=>
     simp at hq c;subst hq;subst c;rw[(ih _).1 k o,aJ];rw[d]at a;injection a with a;injection a with _ h2 _;rw[h2]
    |succ i=>exact(ih _).2.2 i q qs (by simpa using hq) (by simpa using c) l g m a
end
section
variable {C:Cx} {L:Nat->Loc} {h1 h:Hp} {w:World}
theorem jo{c:AV}(d:RepA w M L h c u)(e:cJ c=some (g,first,caps)):
 ∃vs us:List Value,u=.func (.func g) vs.toArray us.toArray/\aE w M L h first vs/\aE w M L h caps us:=by
 unfold cJ at e;split at e
 .rename_i f fs cs
  simp only[VQ,V0]at e;obtain⟨rfl,rfl,rfl⟩:=e
  cases d with
  |pv k=>
   rw[aU k];refine⟨fs.toList,cs.toList,by simp,?_,?_⟩
   all_goals
    refine⟨by simp,λq p u hp a=>?_⟩;simp only[VN,VK]at hp;obtain⟨y,l,rfl⟩:=hp;rw[l]at a;injection a with a;subst a;exact .pv (.val _)
 .simp only[VQ,V0]at e
  obtain⟨rfl,rfl,rfl⟩:=e
  cases d with
  |pv k=>cases k with
   |fn _ _ _ vs us j i h1 b=>exact⟨vs,us,rfl,aE.map_pv ⟨j,h1⟩,aE.map_pv ⟨i,b⟩⟩
 .simp only[VQ,V0]at e
  obtain⟨rfl,rfl,rfl⟩:=e
  cases d with
  |fn _ _ _ vs us j i h1 b=>exact⟨vs,us,rfl,⟨j,h1⟩,⟨i,b⟩⟩
 .cases e
theorem C7{w:World}(hp:lH p=true)(h:Rep w M p v):Rep w M' p v:=by
 cases h with
 |val v=>exact .val v
 |agg cs vs b a=>
  refine .agg cs vs b (λi q u hq d=>?_);have:=VL.1 hp q (Is hq);have c:=a i q u hq d
  cases q with
  |val e=>rw[aU c];exact .val _
  |_=>cases this
 |_=>cases hp
theorem tY{w:World}{x:PV}(hp:lH x=true)(a:x.cells[j]?=some p)(h:Rep w M p v):Rep w M' p v:=by
 cases x with
 |val u=>
  simp only[PV.cells,VN,VK]at a;obtain⟨y,_,rfl⟩:=a;rw[aU h];exact .val _
 |agg cs=>
  have:=VL.1 hp p (Is a)
  cases p with
  |val b=>rw[aU h];exact .val _
  |_=>cases this
 |_=>cases hp
theorem EP{w:World}{l:Loc}{e sz:Nat}{xs:List PV}(o:xs.all lH=true)(h:dO w M (λ_=>default) (λ_=>none) l (.row e sz xs 0)):dO w M' (λ_=>default) (λ_=>none) l (.row e sz xs 0):=by
 obtain⟨c,d,f,g,k⟩:=h;refine⟨c,d,f,g,λhn=>?_⟩;obtain⟨d1,d2,arr,d3,d4,d5⟩:=k hn;refine⟨d1,d2,arr,d3,d4,λi x j p a b=>?_⟩;obtain⟨v,n,m⟩:=d5 i x j p a b;exact⟨v,n,tY (VL.1 o x (Is a)) b m⟩
theorem pN{w:World}(hp:rx p=true)(h:Rep w M p v):Rep w M' p v:=by
 cases h with
 |val v=>exact .val v
 |hd n a c=>exact .hd n a c
 |tup cs vs e d=>
  refine .tup cs vs e (λi q u hq f=>?_);have:=VL.1 hp q (Is hq);have b:=d i q u hq f
  cases q with
  |val g=>rw[aU b];exact .val _
  |hd n=>cases b with
   |hd _ a c=>exact .hd n a c
  |_=>cases this
 |agg cs vs e d=>
  refine .agg cs vs e (λi q u hq f=>?_);have:=VL.1 hp q (Is hq);have b:=d i q u hq f
  cases q with
  |val g=>rw[aU b];exact .val _
  |hd n=>cases b with
   |hd _ a c=>exact .hd n a c
  |_=>cases this
 |_=>cases hp
theorem wy(hm:MemL C L h w)(hs:∀k b,h1 k=some b->h k=some b){d:Option Nat}(f:∀q,d=some q->h1 q=h q/\q<2000000){c:AV}(hc:RepA w (ae C L h) L h c u)(ha:aE w (ae C L h) L h args us)
 {K:db->Prop}(e:ie C.P c args d h1 K):∃g vs cs,u=.func (.func g) vs cs/\dm C.P g=true/\∃U:db,K U/\
  Calls C.P g (vs.toList++us++cs.toList).toArray w λe H=>∃r L',e=.returned r/\aL C L h w L' (ak h U.2) H/\RepA H (ae C L' (ak h U.2)) L' (ak h U.2) U.1 r:=by
 unfold ie at e;split at e
 .exact e.elim
 .rename_i g first caps ca
  obtain⟨vs,cs,rfl,hf,cb⟩:=jo hc ca;split at e
  .exact e.elim
  .rename_i as ks W0 cj
   split at e
   .exact e.elim
   .rename_i b0
    split at e
    .exact e.elim
    .rename_i hin cf
     obtain⟨hout,res,bH,he⟩:=e;have bq:aE w (ae C L h) L h (first++args++caps) (vs++us++cs):=(hf.append ha).append cb;obtain⟨T,a2,⟨cu,a3⟩,a4,a5,a6,a7⟩:=oc hm (dh.of_sub hs) bq cj;have bc:ks.Nodup:=a4 (by simp);obtain⟨b1,b2⟩:=BH cf
     have m:∀k∈ks,∃(G:List PV)(own:Bool),h1 k=some (.box (G.map .pv) own false)/\ak h W0 k=some (.box (G.map .pv) own false):=by
      intro k B;obtain⟨i,hi⟩:=Xb.1 B
      have cg:i<hin.length:=by rw[b1];exact(th.1 hi).1
      obtain⟨own,Q⟩:=b2 i k hin[i] hi (an cg);refine⟨_,own,Q,?_⟩;rw[lL,hs _ _ Q];intro kb D he;apply b0;rw[XX];exact⟨kb,D,List.contains_iff_mem.2 (he▸B)⟩
     obtain⟨ba,ar,hD⟩:=bH
     have ch:(ks.map λk=>(L k).b).Nodup:=by
      rw[List.nodup_iff_pairwise_ne]at bc|-;rw[List.pairwise_map];refine List.Pairwise.imp_of_mem ?_ bc;intro x y j hy cm;obtain⟨_,_,_,ck⟩:=m x j;obtain⟨_,_,_,cn⟩:=m y hy;exact T.1.sep x y _ _ cm ck cn trivial trivial
     have Y:=hD w (ae C L (ak h W0)) (ks.map λk=>(L k).b) (vs++us++cs) (λb o hM=>T.1.mlt hM) (by simp[b1]) ch
      (λi b G hb ad=>by
        simp only[VN,VK]at hb;obtain⟨k,B,rfl⟩:=hb;obtain⟨own,Q⟩:=b2 i k G B ad
        have hw:ak h W0 k=some (.box (G.map .pv) own false):=by
         obtain⟨cp,cq,R,h10⟩:=m k (Is B);rw[Q]at R;injection R with R;injection R with h11 h12;rw[h10,h11,h12]
        refine⟨λo=>.inr ⟨k,_,hw,trivial,rfl,by simp[Blk.frz]⟩,?_⟩;obtain⟨arr,ty,e1,e2⟩:=T.1.bl k _ hw
        exact⟨arr,ty,e1,e2.map_pv_inv⟩) a5 a7
     refine⟨g,vs.toArray,cs.toArray,rfl,ba,?_⟩;have O:=Ae (h1:=h1) (h:=ak h W0) bc (by rw[ar,b1]) (λk B=>by obtain⟨G,own,R,_⟩:=m k B;exact⟨_,own,false,R⟩)
     have X:∀H,Ext (·∈ks.map λk=>(L k).b) w H->(∀(i:Nat) b G,(ks.map λk=>(L k).b)[i]?=some b->hout[i]?=some G->ld H (ae C L (ak h W0)) b G)->
      aL C L h w L (ak h (W0++kl h1 ks hout)) H:=by
      intro H j V;rw[de];refine T.trans (T.1.callStep j (by rw[ar,b1]) O.1 (λi k G B ad=>?_));obtain⟨cp,own,R,h10⟩:=m k (Is B);exact⟨_,own,h10,O.2.2 i k G B ad _ own false R,V i _ G (by simp[B]) ad⟩
     unfold jm ma at he;split at he
     .rename_i e0 a
      refine⟨e0,he,?_⟩
      have bs:(vs.toArray.toList++us++cs.toArray.toList).toArray=(vs++us++cs).toArray:=by simp
      rw[bs];refine Y.mono ?_;rintro e1 H ⟨v,rfl,j,V,s⟩;have hA:=X H j V
      have N:∀q,h q=none->ak h W0 q=none:=by
       intro q hq;rw[lL,hq];intro kb D he;have:=a6 kb D;rw[he]at this;obtain⟨b,hb⟩:=Wo.1 this;rw[hs _ _ hb]at hq;cases hq
      have a8:∀b o,ae C L (ak h (W0++kl h1 ks hout)) b o->ae C L (ak h W0) b o:=by
       rw[de];rintro b o (h0|⟨q,blk,hq,hl,b5,hf⟩)
       .exact .inl h0
       .by_cases b7:q∈ks
        .obtain⟨G,own,R,h10⟩:=m q b7
         exact .inr ⟨q,_,h10,trivial,b5,by simp[Blk.frz]⟩
        .rw[O.1 q b7]at hq;exact .inr ⟨q,blk,hq,hl,b5,hf⟩
      split at a
      .rename_i p _
       injection a with a;subst a;unfold Gc;split
       .rename_i W
        simp only[An]at W;have bb:ks=[]:=List.isEmpty_iff.1 W.1;subst bb;have z:Ext (λ_=>False) w H:=⟨j.os,j.tape,j.output,j.size,λS n _=>j.block S n (by simp)⟩;obtain⟨g1,g2⟩:=hm.grow z
        have e0:([]++kl h1 [] hout:List (Nat×Blk))=[]:=by cases hout<;>rfl
        show∃r L',_/\aL C L h w L' (ak h ([]++kl h1 [] hout)) H/\_;rw[e0];exact⟨v,L,rfl,⟨g1,g2,KC.refl _ _⟩,.pv (pN W.2 s)⟩
       .exact⟨v,L,rfl,hA,.pv (Rep.mono (Pres.sub a8) s)⟩
      .rename_i p _
       split at a
       .rename_i bb
        injection a with a;subst a;subst bb;have z:Ext (λ_=>False) w H:=⟨j.os,j.tape,j.output,j.size,λS n _=>j.block S n (by simp)⟩;obtain⟨g1,g2⟩:=hm.grow z;exact⟨v,L,rfl,⟨g1,g2,KC.refl _ _⟩,.pv (Rep.mono (Pres.sub (λb o R=>hm.mlt R)) s)⟩
       .cases a
      .rename_i G q
       split at a
       .rename_i hq
        obtain⟨hq,rfl⟩:=hq;injection a with a;subst a;obtain⟨b,I,rfl,J⟩:=s;have F:=N q (by rw[<-(f q rfl).1];simpa using hq);simp only;rw[de,iZ];obtain⟨arr,ty,e1,e2⟩:=J;have z:Ext (λ_=>False) w H:=⟨j.os,j.tape,j.output,j.size,λS n _=>j.block S n (by simp)⟩
        have A:=T.1.newKey F (f q rfl).2 (l:=⟨b,0,false⟩) (blk:=.box (G.map .pv) true false) z (λ_=>I) (by intro cr ct e;injection e with _ e2;cases e2)
         ⟨arr,ty,e1,aE.map_pv (e2.mono (Pres.sub (λS o' hh=>hh.elim .inl (λR=>.inr R.2))))⟩
        refine⟨_,ag L q ⟨b,0,false⟩,rfl,T.trans A,?_⟩;have:=RepA.ptr (w:=H) (M:=ae C (ag L q ⟨b,0,false⟩) (ag (ak h W0) q (some (.box (G.map .pv) true false)))) (L:=ag L q ⟨b,0,false⟩) (h:=ag (ak h W0) q (some (.box (G.map .pv) true false))) (k:=q) (off:=0) (aJ _ _ _);rw[aJ]at this;exact this
       .cases a
      .rename_i e9 sz xs q
       split at a
       .rename_i hq
        obtain⟨hq,rfl⟩:=hq;injection a with a;subst a;obtain⟨l,rfl,I,J⟩:=s;have F:=N q (by rw[<-(f q rfl).1];simpa using hq);simp only;rw[de,iZ];have z:Ext (λ_=>False) w H:=⟨j.os,j.tape,j.output,j.size,λS n _=>j.block S n (by simp)⟩;have A:=lm (e:=e9) (sz:=sz) (xs:=xs) T.1 z F (f q rfl).2 I J;exact⟨_,_,rfl,T.trans A.1,A.2⟩
       .cases a
      .rename_i e9 sz xs q
       split at a
       .rename_i hq
        obtain⟨hq,rfl⟩:=hq;injection a with a;subst a;obtain⟨W,l,rfl,I,J⟩:=s
        have b8:h q=none:=by rw[<-(f q rfl).1];simpa using hq
        have z:Ext (λ_=>False) w H:=⟨j.os,j.tape,j.output,j.size,λS n _=>j.block S n (by simp)⟩;have A:=lm (e:=e9) (sz:=sz) (xs:=xs) hm z b8 (f q rfl).2 I (EP W J);simp only;rw[iZ];exact⟨_,_,rfl,A.1,A.2⟩
       .cases a
      .rename_i pre e9 sz xs q
       split at a
       .rename_i hq
        obtain⟨hq,rfl⟩:=hq;injection a with a;subst a;obtain⟨l,cw,rfl,I,E,J⟩:=s;have F:=N q (by rw[<-(f q rfl).1];simpa using hq);simp only;rw[de,iZ];have z:Ext (λ_=>False) w H:=⟨j.os,j.tape,j.output,j.size,λS n _=>j.block S n (by simp)⟩;have A:=lm (e:=e9) (sz:=sz) (xs:=xs) T.1 z F (f q rfl).2 I J;refine⟨_,_,rfl,T.trans A.1,?_⟩
        have b9:∀b o,ae C (ag L q l) (ag (ak h W0) q (some (.row e9 sz xs 0))) b o->ae C L (ak h W0) b o\/(l.isNil=false/\b=l.b):=by
         rintro b o (h0|⟨k,blk,B,Z,D,cd⟩)
         .exact .inl (.inl h0)
         .by_cases b4:k=q
          .subst b4
           rw[aJ]at B D Z;injection B with B;subst B;exact .inr ⟨Z,D.symm⟩
          .rw[bN b4]at B D Z
           exact .inl (.inr ⟨k,blk,B,Z,D,cd⟩)
        refine .agg _ _ (by simp[E.1]) ?_;intro i p u hp hu;by_cases hi:i<pre.length
        .rw[VO (by simpa using hi),VN,an hi]at hp
         rw[VO (by rw[<-E.1];exact hi)]at hu;simp only[WG,VQ]at hp;subst hp;exact .pv ((E.2 i _ u (an hi) hu).mono (Pres.sub b9))
        .rw[VR (by simpa using hi)]at hp
         rw[VR (by rw[<-E.1];omega)]at hu;simp only[Wp]at hp
         have b3:i-pre.length=0:=by
          have:=(th.1 hp).1;simp at this;omega
         rw[<-E.1,b3]at hu;rw[b3]at hp;simp only[W9,VQ]at hp hu;subst hp;subst hu;exact A.2
       .cases a
      .cases a
     .exact he.elim
end
theorem EQ(e:zX P t name=some f)(n:Nat):(method (n+1) t v name).run P w=.ok (f,v) w:=by
 unfold zX at e;split at e
 .rename_i i hi
  split at e
  .rename_i m c
   split at e
   .rename_i hp
    have g:m.path.toList=[]:=by
     grind
    rw[method];simp only[Sem.run_bind,nI hi,Result.andThen_ok,c,g,follow]
    cases a:m.func with
    |none=>rw[a]at e;simp at e
    |some q=>
     obtain⟨j,b⟩:=q;rw[a]at e
     cases b with
     |true=>simp at e
     |false=>
      cases hd:P.underlying t with
      |none=>rw[hd]at e;simp at e
      |some d=>
       rw[hd]at e;simp only[Sem.run_pure,Result.andThen_ok,Sem.run_bind,receiverAt,dJ hd]
       cases d<;>first|(simp at e;done)|(simp at e;subst e;rfl)
   .cases e
  .cases e
 .cases e
theorem Gm(e:zX P t name=some f):(method (P.types.size+Made.depth) t v name).run P w=.ok (f,v) w:=
 EQ e (P.types.size+99)
theorem HF{d:Option Nat}(e:ie P (qA P name x) args d h K):∃t p f,x=.pv (.ifc t p)/\zX P t name=some f/\qA P name x=.fn (.func f) [.pv p] []:=by
 unfold qA at e|-;split at e
 .rename_i t p
  split at e
  .grind
  .simp[ie,cJ]at e
 .simp[ie,cJ]at e
section
variable {C:Cx} {L:Nat->Loc} {h1 h:Hp} {w:World}
theorem C8(U:MemL C L h w)(hs:∀k b,h1 k=some b->h k=some b)(l:∀d,o.dst=some d->h1 d=h d/\d<2000000)
 (I:∀x∈o.op.operands,RepA w (ae C L h) L h (ρ x) (a.eval x)){hn:List Nat}{K:db->Prop}(e:tW C.P hn o ρ h1 K){next:Act->World->Prop}{Q:Exit->Act->World->Prop}
 (y:∀j u F E,K j->aL C L h w E (ak h j.2) F->RepA F (ae C E (ak h j.2)) E (ak h j.2) j.1 u->next (a.put o.dst u) F):o.wp C.P a w next Q:=by
 have M:jm (fg C.P hn o ρ h1) K->o.wp C.P a w next Q:=by
  intro e;unfold jm at e;split at e
  .rename_i j H
   obtain⟨v,W⟩:=j;obtain⟨n,u,F,E,D,X,ha,N⟩:=Gl U hs l I H;unfold Oper.wp;rw[D];rcases X with rfl|⟨rfl,rfl⟩
   .exact y (v,W) u F E e ha N
   .exact y (v,W) undef F E e ha N
  .exact e.elim
 unfold tW at e;split at e
 .rename_i c z
  split at e
  .rename_i f m
   obtain⟨callee,args,argTypes⟩:=c;simp only at m e;subst m;have hf:RepA w (ae C L h) L h (ρ f) (a.eval f):=I f (by rw[z];simp[Op.operands,Call.operands]);have q:aE w (ae C L h) L h (args.toList.map ρ) (args.toList.map a.eval):=sH _ (λx G=>I x (by rw[z];simp at G;simp[Op.operands,Call.operands,G]));obtain⟨g,vs,cs,Y,i,j,hK,S⟩:=wy U hs l hf q e;unfold Oper.wp
   have B:(execOp a.eval o).run C.P w=.ok (.enter g (vs.toList++args.toList.map a.eval++cs.toList).toArray) w:=by
    unfold dm at i
    cases s:C.P.funcs[g]? with
    |none=>rw[s]at i;cases i
    |some fn=>
     rw[s]at i;simp only[An,Wy,WY,ne_eq]at i
     have O:fn.body.isNone=false:=by cases R:fn.body<;>simp_all
     have A:(vs++args.map a.eval)++cs=(vs.toList++args.toList.map a.eval++cs.toList).toArray:=by
      grind
     unfold execOp;rw[z];simp only[resolve,Y,Deferred.ofValue,pure_bind,Sem.run_bind,Result.andThen_ok,invoke,callFunc,program,Sem.run,s];simp[i.2,O,A]
   rw[B];simp only[Oper.upon];refine S.mono ?_
   grind
  .rename_i r name m
   obtain⟨callee,args,argTypes⟩:=c;simp only at m e;subst m;have D:RepA w (ae C L h) L h (ρ r) (a.eval r):=I r (by rw[z];simp[Op.operands,Call.operands]);have q:aE w (ae C L h) L h (args.toList.map ρ) (args.toList.map a.eval):=sH _ (λx G=>I x (by rw[z];simp at G;simp[Op.operands,Call.operands,G]));obtain⟨t,p,f,G,V,hi⟩:=HF e;rw[G]at D;generalize Y:a.eval r=u at D
   cases D with
   |pv D=>cases D with
    |ifc _ _ v N=>
     have hf:RepA w (ae C L h) L h (qA C.P name (ρ r)) (.func (.func f) #[v] #[]):=by
      rw[hi];exact .fn (.func f) [.pv p] [] [v] [] rfl rfl (aE.cons (.pv N) .nil).2 aE.nil.2
     obtain⟨g,vs,cs,Z,i,j,hK,S⟩:=wy U hs l hf q e;injection Z with J e2 e3;injection J with J;subst J;subst e2;subst e3;unfold Oper.wp
     have B:(execOp a.eval o).run C.P w=.ok (.enter f (#[v].toList++args.toList.map a.eval++#[].toList).toArray) w:=by
      unfold dm at i
      cases s:C.P.funcs[f]? with
      |none=>rw[s]at i;cases i
      |some fn=>
       rw[s]at i;simp only[An,Wy,WY,ne_eq]at i
       have O:fn.body.isNone=false:=by cases R:fn.body<;>simp_all
       have A:#[v]++args.map a.eval=(#[v].toList++args.toList.map a.eval++#[].toList).toArray:=by
        apply Array.ext';simp
       have T:(#[Value.iface t v]++args.map a.eval).extract 1 (#[Value.iface t v]++args.map a.eval).size=args.map a.eval:=by
        apply Array.ext';simp;exact Wg (by simp)
       have h0:(#[Value.iface t v]++args.map a.eval)[0]?=some (.iface t v):=by rw[Wx (by simp)];rfl
       unfold execOp;rw[z];simp only[resolve,Y,pure_bind,Sem.run_bind,Result.andThen_ok,invoke,h0,callMethod,T];rw[show Sem.run C.P program w=.ok C.P w from rfl,Result.andThen_ok,Gm V,Result.andThen_ok];simp only[callFunc,program,Sem.run_bind,Sem.run,s,Result.andThen_ok];rw[A];simp[i.2,O]
     rw[B];simp only[Oper.upon];refine S.mono ?_;rintro J F ⟨r,E,rfl,hA,D⟩;exact y j r F E hK hA D
  grind
 grind
end
def ku(P:Program)(ds:List Deferred):Prop:=∀d∈ds,∃g cap,d.target=.fn (.func g) cap/\fC P g
theorem ku.nil(P:Program):ku P []:=λd h=>by simp at h
def gH(C:Cx)(st:St)(a:Act)(w:World):Prop:=
 ∃L,MemL C L st.h w/\a.tmps.size=C.N/\ku C.P a.defers/\∀n,RepA w (ae C L st.h) L st.h (st.t n) (a.tmps.getD n undef)
theorem dn(b:∀n,RepA w (ae C L st.h) L st.h (st.t n) (a.tmps.getD n undef))(x:Operand):RepA w (ae C L st.h) L st.h (st.ev x) (a.eval x):=by
 cases x with
 |tmp n=>exact b n
 |const v=>exact .pv (.val v)
 |global g=>exact .undef _
 |func f=>exact .pv (.val _)
theorem rT(hd:d<a.tmps.size)(n:Nat):(a.put (some d) u).tmps.getD n undef=if n=d then u else a.tmps.getD n undef:=by
 simp only[Act.put,VT]
 grind
theorem gH.put(_:MemL C L st.h w)(hN:a.tmps.size=C.N)(f:ku C.P a.defers)(i:∀n,RepA w (ae C L st.h) L st.h (st.t n) (a.tmps.getD n undef))
 {d:Option Nat}(hd:dv C.N d=true){v:AV}{W:List (Nat×Blk)}{u:Value}{g:World}{L':Nat->Loc}(c:aL C L st.h w L' (ak st.h W) g)(j:RepA g (ae C L' (ak st.h W)) L' (ak st.h W) v u):
 gH C (st.put d v W) (a.put d u) g:=by
 refine⟨L',c.1,?_,?_,λn=>?_⟩
 .cases d<;>simp[Act.put,hN]
 .cases d<;>exact f
 .have b:=(i n).mono c.2.1 c.2.2
  cases d with
  |none=>exact b
  |some d=>
   have e:d<a.tmps.size:=by rw[hN];simp only[dv,An,L4]at hd;exact hd.1
   rw[rT e];simp only[St.put,ag]
   grind
theorem eN{t:Nat->AV}(k:∀n,RepA w (ae C L h) L h (t n) (a.tmps.getD n undef)){g:Bool}(e:fU ops t o.guard=some g):
 Region.wanted o (yielded ops a.tmps)=g:=by
 unfold fU at e;unfold Region.wanted;split at e
 .grind
 .rename_i j want l
  rw[l];simp only;split at e
  .rename_i d hd
   split at e
   .rename_i b f
    injection e with e;subst e;have:=k d;rw[f]at this
    have c:a.tmps.getD d undef=.bool b:=by cases this with|pv hr=>exact aU hr
    have i:a.tmps[d]?=some (.bool b):=by
     rw[VT]at c
     cases hq:a.tmps[d]? with
     |none=>rw[hq]at c;simp[undef]at c
     |some q=>rw[hq]at c;simp at c;rw[c]
    unfold yielded
    grind
   .rename_i q f
    injection e with e;subst e;have:=k d;rw[f]at this
    have c:a.tmps.getD d undef=.tuple q:=by cases this with|pv hr=>exact aU hr
    rw[VT]at c;unfold yielded
    grind
   .cases e
  .cases e
theorem Oper.wp_defer{c:Call}(i:o.op=.defer c){f:Operand}(hf:c.callee=.value f)(e:c.args.size=0){vs:Array Value}(j:a.eval f=.func (.func g) vs cs)
 {next:Act->World->Prop}{Q:Exit->Act->World->Prop}(h:next (({a with defers:={target:=.fn (.func g) cs,args:=vs}::a.defers}:Act).put o.dst undef) w):o.wp P a w next Q:=by
 unfold Oper.wp;have b:c.args=#[]:=Array.size_eq_zero_iff.1 e
 have d:(execOp a.eval o).run P w=.ok (.defer {target:=.fn (.func g) cs,args:=vs}) w:=by
  unfold execOp;rw[i];simp only[resolve,hf,j,Deferred.ofValue,b,pure_bind,Sem.run_bind,Sem.run_pure,Result.andThen_ok];simp
 rw[d];exact h
theorem HG{f:Fn}(a:RepA w M L h (.fn f first caps) u):∃vs cs,u=.func f vs cs:=by
 cases a with
 |fn _ _ _ vs us d c h1 b=>exact⟨_,_,rfl⟩
theorem vU(_:MemL C L h w)(i:RepA w (ae C L h) L h x u)(e:rv h x=true):∃a n c,u=.slice a n c:=by
 unfold rv at e;split at e
 .cases i with
  |pv g=>
   cases g with
   |sl0 a c=>exact⟨_,_,_,rfl⟩
   |sl xs b o c p u f s r g=>exact⟨_,_,_,rfl⟩
 .rename_i k n
  split at e
  .rename_i e0 p xs q j
   simp only[An,L4]at e
   cases i with
   |arr d l m=>
    rw[j]at d;injection d with d;injection d with a1 a2 a3 a4;subst a3;rw[m e.1,Loc.slice];split<;>exact⟨_,_,_,rfl⟩
  .cases e
 .cases e
theorem xJ(p:MemL C L st.h w)(hN:a.tmps.size=C.N)(m:ku C.P a.defers)(q:∀n,RepA w (ae C L st.h) L st.h (st.t n) (a.tmps.getD n undef))
 {o:Oper}(hd:dv C.N o.dst=true){hn:List Nat}{K:db->Prop}(e:wt C.P hn o st.ev st.h K){next:Act->World->Prop}{Q:Exit->Act->World->Prop}
 (i:∀j E D,K j->gH C (st.put o.dst j.1 j.2) E D->next E D):o.wp C.P a w next Q:=by
 have v:tW C.P hn o st.ev st.h K->o.wp C.P a w next Q:=λe=>
  C8 p (λ_ _ h=>h) (λd z=>⟨rfl,by rw[z]at hd;simp only[dv,An,L4]at hd;exact hd.2⟩) (λx _=>dn q x) e (λj u D L' V S B=>i j _ _ V (gH.put p hN m q hd S B))
 unfold wt at e;split at e
 .rename_i c k
  split at e
  .rename_i f r
   split at e
   .rename_i R
    unfold E6 at e;split at e
    .rename_i g first caps A
     obtain⟨vs,cs,B⟩:=HG (by have:=dn q f;rw[A]at this;exact this);refine Oper.wp_defer k r R B (i _ _ _ e.2 ?_)
     have hq:ku C.P ({target:=.fn (.func g) cs,args:=vs}::a.defers):=by
      intro d l;rcases Wj.1 l with rfl|l
      .grind
      .exact m d l
     exact gH.put (a:={a with defers:={target:=.fn (.func g) cs,args:=vs}::a.defers}) p hN hq q hd (W:=[]) (aL.refl p) (.undef _)
    .exact e.elim
   .exact e.elim
  .exact e.elim
 .rename_i op t x y t' k
  split at e
  .rename_i G
   simp only[An,WL,WK]at G;obtain⟨⟨⟨I,J⟩,M⟩,c4⟩:=G;have Y:=y8 I (dn q y);obtain⟨F,n,c,X⟩:=vU p (dn q x) M
   obtain⟨b,U⟩:∃b:Bool,(op=.eql/\b=F.isNone)\/(op=.neq/\b=!F.isNone):=by
    grind
   have s:(execOp a.eval o).run C.P w=.ok (.value (.bool b)) w:=by
    obtain⟨O,Z,ty,pos,H,g⟩:=o;simp only at k;subst k;exact mL (A3 (rQ J) X Y U) w
   have T:K (.pv (.val (.bool b)),[]):=by cases b with
    |true=>exact e.1
    |false=>exact e.2
   unfold Oper.wp;rw[s];exact i _ _ _ T (gH.put p hN m q hd (W:=[]) (aL.refl p) (.pv (.val _)))
  grind
 grind
theorem jg{C:Cx}{hn:List Nat}{ops:Array Oper}{Q:St->Prop}{Q':Exit->Act->World->Prop}(j:∀st a w,gH C st a w->Q st->Q' .normal a w):
 ∀{l:List Oper}{st:St}{a:Act}{w:World},gH C st a w->dP C.P hn C.N ops Q l st->wpList C.P ops Q' l a w
 |[],st,a,w,r,e=>j st a w r e
 |o::l,st,a,w,r,e=>by
  obtain⟨L,k,hN,f,i⟩:=r;simp only[dP]at e;obtain⟨hd,e⟩:=e;refine wpList_step (λK n=>?_);split at e
  .rename_i p
   rw[eN i (pL p),VS rfl];exact xJ k hN f i hd e (λm s u q c=>n _ _ (jg j c q))
  .rename_i d b want p
   rw[eN i (mK p)];unfold yn at e;simp only at e;split at e
   .rename_i g
    subst g;rw[VS (by simp)];exact xJ k hN f i hd e (λm s u q c=>n _ _ (jg j c q))
   .rename_i g
    rw[VM (by simpa using g)];exact n _ _ (jg j (gH.put k hN f i hd (W:=[]) (aL.refl k) (.pv (.val _))) e)
  .exact e.elim
def WP(C:Cx)(c:Code)(Q:Exit->St->Prop)(st:St):Prop:=∀a w,gH C st a w->c.wp C.P (λe d f=>∃b,gH C b d f/\Q e b) a w
section
variable {C:Cx} {Q:Exit->St->Prop} {st:St}
theorem WP.region(h:dP C.P hn C.N ops (Q .normal) ops.toList st):WP C (.region id ops false) Q st:=
 λ_ _ c=>wp_region_list (jg (λb _ _ a hq=>⟨b,a,hq⟩) c h)
def C9(C:Cx)(y:Code)(Q:Exit->St->Prop):Exit->St->Prop
 |.normal,st=>WP C y Q st
 |e,st=>Q e st
theorem WP.seq{x:Code}(h:WP C x (C9 C y Q) st):WP C (.seq x y) Q st:=by
 intro a w f;refine wp_seq (wp_mono (h a w f) ?_);rintro e d g ⟨c,b,hq⟩
 cases e with
 |normal=>exact hq d g b
 |_=>exact⟨c,b,hq⟩
theorem WP.mono{Q':Exit->St->Prop}(h:WP C c Q st)(hq:∀e st,Q e st->Q' e st):WP C c Q' st:=
 λa w g=>wp_mono (h a w g) (λe _ _ ⟨b,f,d⟩=>⟨b,f,hq e b d⟩)
theorem WP.skip(h:Q .normal st):WP C .skip Q st:=λ_ _ a=>wp_skip ⟨st,a,h⟩
theorem WP.ret(h:Q .ret st):WP C .ret Q st:=λ_ _ a=>wp_ret ⟨st,a,h⟩
theorem WP.exit(h:Q (.exit id) st):WP C (.exit id) Q st:=λ_ _ a=>wp_exit ⟨st,a,h⟩
theorem WP.cond{c:Operand}{x:Code}(i:st.ev c=.pv (.val (.bool b)))(l:b=true->WP C x Q st)(hf:b=false->WP C y Q st):WP C (.cond c x y) Q st:=by
 intro a w f
 have d:a.eval c=.bool b:=by
  obtain⟨L,m,hN,j,g⟩:=f;have:=dn g c;rw[i]at this
  cases this with
  |pv k=>exact aU k
 exact wp_cond_split d (λe=>l e a w f) (λe=>hf e a w f)
def sI(id:Nat)(Q:Exit->St->Prop):Exit->St->Prop
 |.exit i,st=>if i=id then Q .normal st else Q (.exit i) st
 |e,st=>Q e st
theorem WP.block(h:WP C c (sI id Q) st):WP C (.block id c) Q st:=by
 intro a w f;refine wp_block (wp_mono (h a w f) ?_);rintro e g j ⟨d,b,hq⟩
 cases e with
 |exit i=>
  simp only[sI,Exit.inBlock]at hq|-
  grind
 |_=>exact⟨d,b,hq⟩
def aK(ks:List Nat):AV->Bool
 |.pv _=>false
 |.ptr k _|.arr k _|.eptr k _ _ _=>ks.contains k
 |.ext x=>ks.contains x.key
 |_=>true
def bC(ks:List Nat):AV->Bool
 |.agg cs=>cs.any (aK ks)
 |.fn _ first caps=>first.any (aK ks)||caps.any (aK ks)
 |.tup _=>true
 |x=>aK ks x
def az(ks:List Nat)(x:AV):AV:=if bC ks x=true then .undef else x
def bG(ks:List Nat):Blk->Blk
 |.box cs own a=>.box (cs.map (az ks)) own a
 |b=>b
def St.kill(ks:List Nat)(st:St):St:=⟨λn=>az ks (st.t n),λk=>if ks.contains k=true then none else(st.h k).map (bG ks)⟩
def Af(ks:List Nat)(h:Hp):Hp:=λk=>if ks.contains k=true then none else h k
theorem ry{blk:Blk}(a:ks.contains k=false)(b:h k=some blk):Af ks h k=some blk:=by
 unfold Af;rw[VM (by rw[a];decide),b]
theorem kE(hd:aK ks x=false)(i:RepA w M L h x u):RepA w M L (Af ks h) x u:=by
 cases i with
 |pv f=>exact .pv f
 |ptr a=>exact .ptr (ry (by simpa only[aK]using hd) a)
 |arr a hn b=>exact .arr (ry (by simpa only[aK]using hd) a) hn b
 |eptr a hn b=>exact .eptr (ry (by simpa only[aK]using hd) a) hn b
 |ext d=>
  cases d with
  |barr e a=>exact .ext (.barr e (ry (by simpa only[aK,XV.key]using hd) a))
  |mp a=>exact .ext (.mp (ry (by simpa only[aK,XV.key]using hd) a))
  |suf c a hn g b=>exact .ext (.suf c (ry (by simpa only[aK,XV.key]using hd) a) hn g b)
 |agg=>cases hd
 |fn=>cases hd
 |tup=>cases hd
 |undef=>cases hd
theorem BI(m:RepA w M L h x u):RepA w M L (Af ks h) (az ks x) u:=by
 unfold az;split
 .exact .undef _
 .rename_i hd
  have hd:bC ks x=false:=by simpa using hd
  have d:∀{cs:List AV}{i:Nat}{p:AV},cs.any (aK ks)=false->cs[i]?=some p->aK ks p=false:=by
   grind
  cases m with
  |agg cs vs e k=>exact .agg cs vs e (λi p u a b=>kE (d hd a) (k i p u a b))
  |fn f first caps vs us e c h1 j=>
   have hd:(first.any (aK ks)||caps.any (aK ks))=false:=hd;rw[Xa]at hd
   exact .fn f first caps vs us e c (λi p u a b=>kE (d hd.1 a) (h1 i p u a b)) (λi p u a b=>kE (d hd.2 a) (j i p u a b))
  |tup=>cases hd
  |undef=>exact .undef _
  |pv l=>exact kE hd (.pv l)
  |ptr c=>exact kE hd (.ptr c)
  |arr c hn b=>exact kE hd (.arr c hn b)
  |eptr c hn b=>exact kE hd (.eptr c hn b)
  |ext g=>exact kE hd (.ext g)
theorem wA(ks:List Nat)(b:Blk)(l:Loc):em b l (bG ks b) l:=by cases b<;>simp[em,bG]
theorem E9:KC L (Af ks h) L (λk=>if ks.contains k=true then none else(h k).map (bG ks)):=by
 intro k a b;unfold Af at b;split at b
 .cases b
 .rename_i c
  exact⟨bG ks a,by simp only[VM c,b];rfl,wA ks a _⟩
theorem wC(hp:Pres w M w M')(a:RepA w M L h x u):
 RepA w M' L (λk=>if ks.contains k=true then none else(h k).map (bG ks)) (az ks x) u:=(BI a).mono hp E9
theorem gH.kill(ks:List Nat)(hs:gH C st a w):gH C (st.kill ks) a w:=by
 obtain⟨L,l,hN,A,Y⟩:=hs
 have f:∀k c,(st.kill ks).h k=some c->∃d,st.h k=some d/\bG ks d=c/\c.live (L k)=d.live (L k)/\∀o,c.frz o=d.frz o:=by
  intro k c g;simp only[St.kill]at g;split at g
  .cases g
  .simp only[VK]at g
   obtain⟨d,h1,rfl⟩:=g;exact⟨d,h1,rfl,by cases d<;>rfl,λo=>by cases d<;>rfl⟩
 have U:∀b o,ae C L (st.kill ks).h b o->ae C L st.h b o:=by
  rintro b o (R|⟨k,c,g,D,V,hf⟩)
  .exact .inl R
  .obtain⟨d,h1,_,S,T⟩:=f k c g
   exact .inr ⟨k,d,h1,S▸D,V,T o▸hf⟩
 have hp:Pres w (ae C L st.h) w (ae C L (st.kill ks).h):=Pres.sub U;refine⟨L,⟨l.ext,l.m0,?_,?_,?_⟩,hN,A,λn=>wC hp (Y n)⟩
 .intro k c g
  obtain⟨d,h1,rfl,_,_⟩:=f k c g;have:=l.bl k d h1
  cases d with
  |box cs own z=>
   obtain⟨arr,ty,y,r⟩:=this;refine⟨arr,ty,y,by simpa using r.1,λi p u m G=>?_⟩;simp only[VN,VK]at m;obtain⟨q,hq,rfl⟩:=m;exact wC hp (r.2 i q u hq G)
  |row e sz xs z=>
   obtain⟨I,J,a3,a4,K⟩:=this;refine⟨I,J,a3,a4,λhn=>?_⟩;obtain⟨s,v,arr,M,N,O⟩:=K hn;exact⟨s,v,arr,M,N,λi x j p Z W=>by obtain⟨u,G,X⟩:=O i x j p Z W;exact⟨u,G,X.mono hp⟩⟩
  |mp kd n es z=>exact this
 .intro k H s v F g B D E
  obtain⟨P,d1,_,y,_⟩:=f k s g;obtain⟨Q,d2,_,r,_⟩:=f H v B;exact l.sep k H P Q F d1 d2 (y▸D) (r▸E)
 .intro k c g
  obtain⟨d,h1,rfl,_,_⟩:=f k c g;have:=l.own k d h1
  cases d with
  |box cs own z=>cases own<;>exact this
  |row=>exact this
  |mp=>exact this
theorem WP.loop(ks:List Nat)(I:St->Prop)(μ:St->Nat)(A:I (st.kill ks))
 (round:∀st,I st->WP C c (λe d=>match e with|.normal=>I (d.kill ks)/\μ (d.kill ks)<μ st|e=>Q e d) st):WP C (.loop c) Q st:=by
 intro a w u
 have key:∀n st a w,μ st=n->I st->gH C st a w->∀b k cs,∃e o p,(∃d,gH C d o p/\Q e d)/\Arrives C.P (lone (b.at a (.code c::.inLoop c::k)) cs w) b k cs e o p:=by
  intro n
  induction n using Nat.strongRecOn with
  |_ n ih=>
   intro st a w hn z u b k cs;obtain⟨e,j,m,⟨d,g,hq⟩,f⟩:=round st z a w u b (.inLoop c::k) cs
   cases e with
   |normal=>
    obtain⟨q,r⟩:=hq;obtain⟨y,v,B,s,i⟩:=ih (μ (d.kill ks)) (hn▸r) _ j m rfl q (g.kill ks) b k cs;exact⟨y,v,B,s,.of_steps (Steps.trans f (.one step_inLoop)) i⟩
   |exit id=>exact⟨_,j,m,⟨d,g,hq⟩,.pass (x:=.inLoop c) rfl (λ_ _=>.inl (by simp)) f⟩
   |goto l=>exact⟨_,j,m,⟨d,g,hq⟩,.pass (x:=.inLoop c) rfl (λ_ _=>.inl (by simp)) f⟩
   |ret=>exact⟨_,j,m,⟨d,g,hq⟩,.pass (x:=.inLoop c) rfl (λ_ _=>.inl (by simp)) f⟩
   |panic D=>exact⟨_,j,m,⟨d,g,hq⟩,.pass (x:=.inLoop c) rfl (λ_ _=>.inl (by simp)) f⟩
   |outgrown=>exact⟨_,j,m,⟨d,g,hq⟩,.pass (x:=.inLoop c) rfl (λ_ _=>.inl (by simp)) f⟩
 intro b k cs;obtain⟨e,o,p,hq,f⟩:=key _ (st.kill ks) a w rfl A (u.kill ks) b k cs;exact⟨e,o,p,hq,.of_steps (.one step_loop) f⟩
end
def pk(i:Nat):Nat:=1000000+i
def Da(args:List Arg):Nat->AV:=λn=>match args[n]? with
 |some (.pv p)=>.pv p
 |some (.bx i)=>.ptr (pk i) 0
 |none=>.undef
def uP(hin:List (List PV)):Hp:=λk=>if k<1000000 then none else match hin[k-1000000]? with
 |some a=>some (.box (a.map .pv) false false)
 |none=>none
def rU(args:List Arg)(hin:List (List PV)):St:=⟨Da args,uP hin⟩
def ln(P:Program)(st:St):List ResultVar->Option (List AV)
 |[]=>some []
 |.tmp t::r=>(ln P st r).map (st.t t::·)
 |.cell a b::r=>match al P b with
  |some ti=>match wm ti (st.t a) st.h,ln P st r with
   |some v,some vs=>some (v::vs)
   |_,_=>none
  |none=>none
def mM(P:Program)(st:St)(rs:List ResultVar):Option AV:=match ln P st rs with
 |some [v]=>some v
 |some vs=>some (.tup vs)
 |none=>none
def jA(P:Program)(rs:List ResultVar)(hout:List (List PV))(res:RV)(st:St):Prop:=
 ∃r,mM P st rs=some r/\(∀(i:Nat) b,hout[i]?=some b->st.h (pk i)=some (.box (b.map .pv) false false))/\
  (match res with
  |.pv p=>∃W,frz st.h r=some (p,W)
  |.new p=>K7 st.h r=some p
  |.box b=>∃k,r=.ptr k 0/\st.h k=some (.box (b.map .pv) true false)
  |.row e a xs=>∃k,r=.arr k xs.length/\st.h k=some (.row e a xs 0)
  |.nrow e a xs=>xs.all lH=true/\∃k,r=.arr k xs.length/\st.h k=some (.row e a xs 0)
  |.srow pre e a xs=>∃k,r=.agg (pre.map .pv++[.arr k xs.length])/\st.h k=some (.row e a xs 0))
def HH(P:Program)(rs:List ResultVar)(hout:List (List PV))(res:RV):Exit->St->Prop
 |.normal,st=>jA P rs hout res st
 |.ret,st=>jA P rs hout res st
 |_,_=>False
theorem sJ(c:dm P g=true)(cap a:Array Value)(w:World):(invoke (.fn (.func g) cap) a).run P w=.ok (.enter g (a++cap)) w:=by
 unfold dm at c
 cases b:P.funcs[g]? with
 |none=>rw[b]at c;cases c
 |some fn=>
  rw[b]at c;simp only[An,Wy,WY,ne_eq]at c
  have d:fn.body.isNone=false:=by cases e:fn.body<;>simp_all
  simp only[invoke,callFunc,program,Sem.run_bind,Sem.run,Result.andThen_ok,b];simp[c.2,d]
theorem jv{P:Program}{fn:Func}{tmps:Array Value}{R:Ending->World->Prop}{w:World}{v:Value}:∀{ds:List Deferred},ku P ds->(results fn tmps).run P w=.ok v w->R (.returned v) w->Leaves P fn tmps R ds .returning w
 |[],_,b,a=>⟨v,b,a⟩
 |d::ds,hq,b,a=>by
  obtain⟨g,cap,f,c⟩:=hq d (by simp);refine⟨by simp,.func g,cap,g,d.args++cap,f,by rw[f];exact sJ c.1 _ _ _,(c.2 _ w).mono ?_⟩;rintro e i k ⟨rfl,⟨j,rfl⟩,rfl⟩;exact jv (λd hd=>hq d (by simp[hd])) b a
def A4(tmps:Array Value):ResultVar->Sem Value
 |.tmp t=>pure (tmps.getD t undef)
 |.cell b t=>do loadVar t (<-asAddr (tmps.getD b undef))
section
variable {C:Cx} {L:Nat->Loc} {st:St} {a:Act} {w:World}
theorem pO(o:MemL C L st.h w)(k:∀n,RepA w (ae C L st.h) L st.h (st.t n) (a.tmps.getD n undef)):∀{rs:List ResultVar}{vs:List AV},ln C.P st rs=some vs->
 ∃us:List Value,(rs.mapM (A4 a.tmps)).run C.P w=.ok us w/\aE w (ae C L st.h) L st.h vs us
 |[],vs,e=>by
  simp only[ln,VQ]at e;subst e;exact⟨[],by simp,aE.nil⟩
 |.tmp t::r,vs,e=>by
  simp only[ln,VK]at e;obtain⟨x,l,rfl⟩:=e;obtain⟨us,h1,m⟩:=pO o k l;refine⟨a.tmps.getD t undef::us,?_,.cons (k t) m⟩;simp only[List.mapM_cons,A4,Sem.run_bind,Sem.run_pure,Result.andThen_ok,h1]
 |.cell b z::r,vs,e=>by
  simp only[ln]at e;split at e
  .rename_i ti s
   split at e
   .rename_i v x e0 l
    injection e with e;subst e;obtain⟨us,h1,m⟩:=pO o k l;obtain⟨u,c,q⟩:=wv o (λ_ _ h=>h) s (k b) e0;refine⟨u::us,?_,.cons q m⟩
    have d:∃f,a.tmps.getD b undef=.pointer (some f):=by
     unfold Instr.loadAt at c
     cases y:a.tmps.getD b undef with
     |pointer p=>cases p with
      |none=>rw[y]at c;simp[Instr.sureAddr,stuck]at c
      |some f=>exact⟨f,rfl⟩
     |_=>rw[y]at c;simp[Instr.sureAddr,stuck]at c
    obtain⟨f,g⟩:=d;rw[g]at c;have j:(loadVar z f).run C.P w=.ok u w:=c
    have i:(A4 a.tmps (.cell b z)).run C.P w=.ok u w:=by simp only[A4,g,asAddr,pure_bind,j]
    simp only[List.mapM_cons,Sem.run_bind,i,Sem.run_pure,Result.andThen_ok,h1]
   .cases e
  .cases e
theorem od(g:MemL C L st.h w)(i:∀n,RepA w (ae C L st.h) L st.h (st.t n) (a.tmps.getD n undef)){r:AV}(e:mM C.P st fn.results.toList=some r):
 ∃u,(results fn a.tmps).run C.P w=.ok u w/\RepA w (ae C L st.h) L st.h r u:=by
 unfold mM at e
 have key:∀vs us,(fn.results.toList.mapM (A4 a.tmps)).run C.P w=.ok us w->aE w (ae C L st.h) L st.h vs us->
  (results fn a.tmps).run C.P w=.ok (if h:us.toArray.size=1 then us.toArray[0]else .tuple us.toArray) w:=by
  intro vs us h1 _;have:results fn a.tmps=(do let vs <-fn.results.mapM (A4 a.tmps);pure (if h:vs.size=1 then vs[0]else .tuple vs)):=rfl;rw[this,Array.mapM_eq_mapM_toList];simp only[Sem.run_bind,Sem.run_map,h1,Result.andThen_ok];rfl
 split at e
 .rename_i v d
  injection e with e;subst e;obtain⟨us,h1,b⟩:=pO g i d;obtain⟨u,j,rfl,k,hn⟩:=b.cons_inv;have:=hn.nil_inv;subst this
  grind
 .rename_i vs c d
  injection e with e;subst e;obtain⟨us,h1,b⟩:=pO g i d;refine⟨.tuple us.toArray,?_,.tup vs us b.1 b.2⟩;rw[key _ _ h1 b]
  have:¬us.length=1:=by
   intro f
   cases vs with
   |nil=>have:=b.1;simp at this;rw[<-this]at f;simp at f
   |cons v r=>cases r with
    |nil=>exact c v rfl
    |cons=>have:=b.1;simp at this;omega
  simp[this]
 .cases e
end
section
variable {C:Cx} {L:Nat->Loc} {h:Hp} {w:World}
abbrev wD(C:Cx):Nat->Nat->Prop:=λb _=>b<C.w0.heap.size
theorem Ag(f:MemL C L h w)(l:∀{b:Nat},(C.w0.heap.size<=b\/(C.S b/\∀o,¬C.M0 b o))->C.w0.heap.size<=b)(d:RepA w (ae C L h) L h x u)(e:yX h x=some p):Rep w (wD C) p u:=by
 cases x with
 |pv q=>
  simp only[yX]at e;split at e
  .rename_i hq
   injection e with e;subst e
   cases d with
   |pv G=>exact C7 hq G
  .cases e
 |arr k n=>
  simp only[yX]at e;split at e
  .rename_i J z xs E c
   split at e
   .rename_i s
    injection e with e;subst e
    cases d with
    |arr a F H=>
     rw[c]at a;injection a with a;injection a with g r a3 a4;subst g;subst r;subst a3;subst a4;rw[H s.1];obtain⟨_,_,g3,g4,g5⟩:=f.bl k _ c;unfold Loc.slice
     cases hn:(L k).isNil with
     |true=>rw[g4 hn];exact .sl0 none 0
     |false=>
      obtain⟨g,r,arr,a3,a4,I⟩:=g5 hn;have v:=l ((f.own k _ c).row hn);simp only[VP,VZ];rw[<-s.1];refine .sl xs (L k).b 0 (L k).cap z (λi j=>(arr[i*z+j]?).getD undef) g (λi x d=>g3 x (Is d)) ?_ ?_
      all_goals grind [eY,tY,List.all_eq_true,List.mem_of_getElem?]
   .cases e
  .cases e
 |ext y=>
  cases y with
  |barr=>cases e
  |suf=>cases e
  |mp k=>
   simp only[yX]at e;split at e
   .rename_i kd n D E c
    injection e with e;subst e;obtain⟨arr,clock,A,B⟩:=f.bl k _ c
    cases d with
    |ext m=>cases m with
     |mp _=>
      have K:C.w0.heap.size<=(L k).b:=f.own k _ c;exact .mp kd n D _ arr clock A (λh10=>by have h10:(L k).b<C.w0.heap.size:=h10;omega) B
   .cases e
 |_=>cases e
theorem yv(d:MemL C L h w)(a:∀{b:Nat},(C.w0.heap.size<=b\/(C.S b/\∀o,¬C.M0 b o))->C.w0.heap.size<=b):∀{xs:List AV}{us:List Value}{ps:List PV},aE w (ae C L h) L h xs us->xx h xs=some ps->cy w (wD C) ps us
 |[],us,ps,c,e=>by
  simp only[xx,VQ]at e;subst e;rw[c.nil_inv];exact .nil
 |x::r,us,ps,c,e=>by
  simp only[xx]at e;split at e
  .rename_i p k f g
   injection e with e;subst e;obtain⟨u,l,rfl,j,i⟩:=c.cons_inv;exact .cons (Ag d a j f) (yv d a i g)
  .cases e
theorem uQ(s:MemL C L h w)(g:∀{b:Nat},(C.w0.heap.size<=b\/(C.S b/\∀o,¬C.M0 b o))->C.w0.heap.size<=b)(a:RepA w (ae C L h) L h x u)(e:AR h x=some p):Rep w (wD C) p u:=by
 unfold AR at e;split at e
 .rename_i k n B
  split at e
  .rename_i cs J E
   split at e
   .rename_i hn
    split at e
    .rename_i d G
     split at e
     .rename_i I
      injection e with e;subst e;obtain⟨arr,K,m,f⟩:=s.bl k _ E;have y:=yv s g f G;have F:C.w0.heap.size<=(L k).b:=g (s.own k _ E)
      have l:d.length=n:=by rw[y.1,<-f.1];exact hn
      have one:∀(i:Nat) x(j:Nat) p,d[i]?=some x->x.cells[j]?=some p->j=0/\p=x:=by
       grind [ju,List.all_eq_true,List.mem_of_getElem?]
      have get:∀(i:Nat) p,d[i]?=some p->∃v,arr[i]?=some v/\Rep w (wD C) p v:=by
       intro i p hp
       have r:i<arr.toList.length:=by rw[<-y.1];exact(th.1 hp).1
       have c:arr.toList[i]?=some (arr.toList[i]):=an r;exact⟨_,by rw[<-WI];exact c,y.2 i p _ hp c⟩
      cases a with
      |ext A=>cases A with
       |barr H _=>
        have key:Rep w (wD C) (.sl d) (.slice (some ⟨(L k).b,0,none⟩) d.length B):=by
         refine .sl d (L k).b 0 B 1 (λi _=>(arr[i]?).getD undef) (by omega) (λi x a=>by rw[ju (VL.1 I x (Is a))];rfl) ?_ ?_
         .intro i x j p a q
          obtain⟨rfl,rfl⟩:=one i x j p a q;obtain⟨v,c,_⟩:=get i p a;refine⟨by rw[eY m];simp[c],λD=>?_⟩;have D:(L k).b<C.w0.heap.size:=D;omega
         .intro i x j p a q
          obtain⟨rfl,rfl⟩:=one i x j p a q;obtain⟨v,c,z⟩:=get i p a;simp only[c,V5];exact z
        rw[l]at key;exact key
     .cases e
    .cases e
   .cases e
  .cases e
 grind [Ag]
theorem qT(d:MemL C L h w)(a:∀{b:Nat},(C.w0.heap.size<=b\/(C.S b/\∀o,¬C.M0 b o))->C.w0.heap.size<=b):∀{xs:List AV}{us:List Value}{ps:List PV},aE w (ae C L h) L h xs us->wo h xs=some ps->cy w (wD C) ps us
 |[],us,ps,c,e=>by
  simp only[wo,VQ]at e;subst e;rw[c.nil_inv];exact .nil
 |x::r,us,ps,c,e=>by
  simp only[wo]at e;split at e
  .rename_i p k f g
   injection e with e;subst e;obtain⟨u,l,rfl,j,i⟩:=c.cons_inv;exact .cons (uQ d a j f) (qT d a i g)
  .cases e
theorem Db(f:MemL C L h w)(a:∀{b:Nat},(C.w0.heap.size<=b\/(C.S b/\∀o,¬C.M0 b o))->C.w0.heap.size<=b)(D:RepA w (ae C L h) L h x u)(e:zQ h x=some p):Rep w (wD C) p u:=by
 unfold zQ at e;split at e
 .rename_i k
  split at e
  .rename_i cs F g
   split at e
   .rename_i s z
    obtain⟨arr,G,A,c⟩:=f.bl k _ g;have m:=qT f a c z;have l:C.w0.heap.size<=(L k).b:=a (f.own k _ g)
    have key:∀y:PV,y.cells=s->Rep w (wD C) (.rptr y 0) u:=by
     intro y E
     have get:∀(i:Nat) p,y.cells[i]?=some p->∃v,arr[i]?=some v/\Rep w (wD C) p v:=by
      intro i p hp;rw[E]at hp
      have d:i<arr.toList.length:=by rw[<-m.1];exact(th.1 hp).1
      have n:arr.toList[i]?=some (arr.toList[i]):=an d;exact⟨_,by rw[<-WI];exact n,m.2 i p _ hp n⟩
     cases D with
     |ptr _=>
      refine .rptr y (L k).b 0 0 (λj=>(arr[j]?).getD undef) (λj p B=>?_) (λj p B=>?_)
      all_goals grind [get,eY]
    split at e
    .rename_i hq
     injection e with e;subst e
     exact key _ (by cases s with
      |nil=>simp[jN]at hq
      |cons q r=>cases r with
       |nil=>simp only[jN]at hq;exact ju hq
       |cons _ _=>simp[jN]at hq)
    grind [ll]
   .cases e
  .cases e
 grind [uQ]
theorem vV(d:MemL C L h w)(a:∀{b:Nat},(C.w0.heap.size<=b\/(C.S b/\∀o,¬C.M0 b o))->C.w0.heap.size<=b):∀{xs:List AV}{us:List Value}{ps:List PV},aE w (ae C L h) L h xs us->rq h xs=some ps->cy w (wD C) ps us
 |[],us,ps,c,e=>by
  simp only[rq,VQ]at e;subst e;rw[c.nil_inv];exact .nil
 |x::r,us,ps,c,e=>by
  simp only[rq]at e;split at e
  .rename_i p k f g
   injection e with e;subst e;obtain⟨u,l,rfl,j,i⟩:=c.cons_inv;exact .cons (Db d a j f) (vV d a i g)
  .cases e
theorem HI(i:MemL C L h w)(c:∀{b:Nat},(C.w0.heap.size<=b\/(C.S b/\∀o,¬C.M0 b o))->C.w0.heap.size<=b)(k:RepA w (ae C L h) L h x u)(e:K7 h x=some p):Rep w (wD C) p u:=by
 unfold K7 at e;split at e
 .rename_i f first caps
  split at e
  .rename_i j qs d l
   injection e with e;subst e
   cases k with
   |fn _ _ _ vs us g n h1 m=>
    have a:=qT i c ⟨g,h1⟩ d;have b:=vV i c ⟨n,m⟩ l;exact .fn f j qs vs us a.1 b.1 a.2 b.2
  .cases e
 .rename_i vs
  split at e
  .rename_i j d
   injection e with e;subst e
   cases k with
   |tup _ us g h1=>
    have a:=qT i c ⟨g,h1⟩ d;exact .tup j us a.1 a.2
  .cases e
 grind [uQ]
end
theorem oV(hf:P.funcs[f]?=some fn)(l:fn.body=some c)(ad:dm P f=true){args:List Arg}(a8:args.length<=fn.ntmps)
 (b4:hout.length=hin.length)(b0:∀(i j:Nat),args[i]?=some (.bx j)->j<hin.length)
 (h:∀C:Cx,C.P=P->C.N=fn.ntmps->WP C c (HH P fn.results.toList hout res) (rU args hin)):aQ P f args hin hout res:=by
 refine⟨ad,b4,λw M F vs hM a7 ca I a6 U=>?_⟩
 let C:Cx:={P:=P,N:=fn.ntmps,M0:=M,S:=λb=>b∈F,pb:=λk=>if k<1000000 then none else F[k-1000000]?,w0:=w}
 let L:Nat->Loc:=λk=>⟨(F[k-1000000]?).getD 0,0,false⟩
 have X:∀k s,(rU args hin).h k=some s->∃i E b,k=pk i/\hin[i]?=some E/\F[i]?=some b/\s=.box (E.map .pv) false false:=by
  intro k s a;simp only[rU,uP]at a;split at a
  .cases a
  .rename_i b9
   split at a
   .rename_i E y
    injection a with a
    have g:k-1000000<F.length:=by rw[a7];exact(th.1 y).1
    exact⟨k-1000000,E,F[k-1000000],by unfold pk;omega,y,an g,a.symm⟩
   .cases a
 have R:∀i b,F[i]?=some b->(L (pk i)).b=b:=by
  intro i b l;show(F[pk i-1000000]?).getD 0=b;rw[show pk i-1000000=i from by unfold pk;omega,l];rfl
 have a5:∀b o,ae C L (rU args hin).h b o↔M b o:=by
  intro b o;constructor
  .rintro(h0|⟨k,s,a,hl,l,hf⟩)
   all_goals grind
  .exact .inl
 have ar:ae C L (rU args hin).h=M:=by funext b o;exact propext (a5 b o)
 have bq:gH C (rU args hin) {tmps:=vs.toArray++Array.replicate (fn.ntmps-vs.toArray.size) undef,defers:=[]} w:=by
  refine⟨L,⟨Ext.refl _ _,hM,?_,?_,?_⟩,by show(vs.toArray++Array.replicate (fn.ntmps-vs.toArray.size) undef).size=fn.ntmps;simp;omega,ku.nil _,λn=>?_⟩
  .intro k s a
   obtain⟨i,E,b,rfl,y,l,rfl⟩:=X k s a;obtain⟨arr,ty,e1,e2⟩:=(I i b E l y).2;refine⟨arr,ty,by rw[R i b l];exact e1,?_⟩
   grind [aE.map_pv]
  .grind [List.getElem?_eq_some_iff,List.getElem_inj]
  .intro k s a
   obtain⟨i,E,b,rfl,y,l,rfl⟩:=X k s a;refine⟨rfl,?_,?_,?_,?_⟩
   .rw[R i b l]
    show(if pk i<1000000 then none else F[pk i-1000000]?)=some b;rw[VM (by unfold pk;omega),show pk i-1000000=i from by unfold pk;omega,l]
   .grind
   .rw[R i b l];exact hM b 0 ((I i b E l y).1 0)
   grind
  .rw[ar]
   simp only[rU,Da];split
   .rename_i p hp
    have g:n<vs.length:=by rw[<-a6];exact(th.1 hp).1
    have:=U n (.pv p) vs[n] hp (an g)
    have K:(vs.toArray++Array.replicate (fn.ntmps-vs.toArray.size) undef).getD n undef=vs[n]:=by
     rw[VT,Wx (by simpa using g)];simp[g]
    simp only[K];exact .pv this
   .rename_i j hp
    have g:n<vs.length:=by rw[<-a6];exact(th.1 hp).1
    obtain⟨b,l,hv⟩:=U n (.bx j) vs[n] hp (an g)
    have K:(vs.toArray++Array.replicate (fn.ntmps-vs.toArray.size) undef).getD n undef=vs[n]:=by
     rw[VT,Wx (by simpa using g)];simp[g]
    simp only[K];rw[hv,<-R j b l];have hj:=b0 n j hp;refine .ptr (cs:=(hin[j]).map .pv) (own:=false) (fz:=false) ?_;simp only[uP,VM (show¬pk j<1000000 by unfold pk;omega),show pk j-1000000=j from by unfold pk;omega]
    grind
   .exact .undef _
 refine calls_of_wp_defers hf l (wp_mono (h C rfl rfl _ w bq) ?_)
 have V:∀(Z:Act) Q A,gH C A Z Q->jA P fn.results.toList hout res A->ku P Z.defers/\∃v,(results fn Z.tmps).run P Q=.ok v Q/\
  ∃v',Ending.returned v=.returned v'/\Ext (·∈F) w Q/\(∀(i:Nat) b E,F[i]?=some b->hout[i]?=some E->ld Q M b E)/\zY w Q M res v':=by
  rintro Z Q A ⟨H,B,hN,b3,ht⟩ ⟨r,T,b7,m⟩;obtain⟨u,b8,G⟩:=od (C:=C) B ht T;have D:∀b o,M b o->ae C H A.h b o:=λb o h=>.inl h
  have J:∀{b:Nat},(C.w0.heap.size<=b\/(C.S b/\∀o,¬C.M0 b o))->w.heap.size<=b:=by
   intro b h9;rcases h9 with h9|⟨h9,h10⟩
   .exact h9
   .obtain⟨i,hi⟩:=Xb.1 (show b∈F from h9)
    have g:i<hin.length:=by rw[<-a7];exact(th.1 hi).1
    exact absurd ((I i b hin[i] hi (an g)).1 0) (h10 0)
  refine⟨b3,u,b8,u,rfl,B.ext,?_,?_⟩
  .intro i b E l y
   have a:=b7 i E y;obtain⟨arr,ty,e1,e2⟩:=B.bl _ _ a;have q:=B.own _ _ a
   have bb:C.pb (pk i)=some b:=by
    show(if pk i<1000000 then none else F[pk i-1000000]?)=some b;rw[VM (by unfold pk;omega),show pk i-1000000=i from by unfold pk;omega,l]
   have bH:(H (pk i)).b=b:=by
    have:=q.2.1;rw[bb]at this;injection this with this;exact this.symm
   rw[bH]at e1;exact⟨arr,ty,e1,e2.map_pv_inv.mono (Pres.sub D)⟩
  .cases res with
   |pv p=>
    obtain⟨W,hW⟩:=m;obtain⟨b1,b2,_⟩:=nH B (dh.refl _) G hW;exact b2.mono (Pres.sub (λb o h=>.inl h))
   |new p=>exact HI B J G m
   |box E=>
    obtain⟨k,rfl,a⟩:=m;obtain⟨arr,ty,e1,e2⟩:=B.bl _ _ a;have q:=J (B.own _ _ a)
    cases G with
    |ptr _=>
     refine⟨(H k).b,q,rfl,arr,ty,e1,e2.map_pv_inv.mono (Pres.sub ?_)⟩;rintro b o (h|rfl)
     .exact .inl h
     .exact .inr ⟨k,_,a,trivial,rfl,by simp[Blk.frz]⟩
   |row e sz xs=>
    obtain⟨k,rfl,a⟩:=m;have q:=B.own _ _ a;have l:=B.bl _ _ a
    have z:u=(H k).slice xs.length:=by
     cases G with
     |arr d ba Y=>
      rw[a]at d;injection d with d;injection d with a1 a2 a3 a4;subst a3;exact Y rfl
    refine⟨H k,z,λhn=>J (q.row hn),?_⟩;obtain⟨c1,c2,c3,c4,c5⟩:=l;refine⟨c1,WJ _,c3,c4,λhn=>?_⟩;obtain⟨d1,d2,arr,d3,d4,d5⟩:=c5 hn;refine⟨d1,d2,arr,d3,d4,λi x j p hx hj=>?_⟩;obtain⟨v,hv,T⟩:=d5 i x j p hx hj;refine⟨v,hv,T.mono (Pres.sub ?_)⟩;rintro b o (h|⟨_,rfl⟩)
    .exact .inl h
    .exact .inr ⟨k,_,a,hn,rfl,by simp[Blk.frz]⟩
   |nrow e sz xs=>
    obtain⟨b5,k,rfl,a⟩:=m;have q:=B.own _ _ a;have l:=B.bl _ _ a
    have z:u=(H k).slice xs.length:=by
     cases G with
     |arr d ba Y=>
      rw[a]at d;injection d with d;injection d with a1 a2 a3 a4;subst a3;exact Y rfl
    refine⟨b5,H k,z,λhn=>J (q.row hn),?_⟩;obtain⟨c1,c2,c3,c4,c5⟩:=l;refine⟨c1,WJ _,c3,c4,λhn=>?_⟩;obtain⟨d1,d2,arr,d3,d4,d5⟩:=c5 hn;refine⟨d1,d2,arr,d3,d4,λi x j p hx hj=>?_⟩;obtain⟨v,hv,T⟩:=d5 i x j p hx hj;refine⟨v,hv,T.mono (Pres.sub ?_)⟩;rintro b o (h|⟨_,rfl⟩)
    .exact .inl h
    .exact .inr ⟨k,_,a,hn,rfl,by simp[Blk.frz]⟩
   |srow pre e sz xs=>
    obtain⟨k,rfl,a⟩:=m;have q:=B.own _ _ a;have l:=B.bl _ _ a
    cases G with
    |agg _ us hl hh=>
     have a8:us.length=pre.length+1:=by simpa using hl.symm
     have g:pre.length<us.length:=by omega
     have O:=hh pre.length (.arr k xs.length) us[pre.length] (by rw[VR (by simp)];simp) (an g)
     have z:us[pre.length]=(H k).slice xs.length:=by
      generalize us[pre.length]=u at O
      cases O with
      |arr d ba Y=>
       rw[a]at d;injection d with d;injection d with a1 a2 a3 a4;subst a3;exact Y rfl
     have D:∀b o,(M b o\/((H k).isNil=false/\b=(H k).b))->ae C H A.h b o:=by
      rintro b o (h|⟨hn,rfl⟩)
      .exact .inl h
      .exact .inr ⟨k,_,a,hn,rfl,by simp[Blk.frz]⟩
     refine⟨H k,us.take pre.length,?_,λhn=>J (q.row hn),⟨by rw[WD];omega,λi p u hp Y=>?_⟩,?_⟩
     .congr 1
      rw[<-z,<-WF g,Wg (by omega)]
     .have hi:=(th.1 hp).1
      rw[Wk,VS hi]at Y;have:=hh i (.pv p) u (by rw[VO (by simpa using hi),VN,hp];rfl) Y
      cases this with
      |pv T=>exact T.mono (Pres.sub D)
     .obtain⟨c1,c2,c3,c4,c5⟩:=l
      refine⟨c1,WJ _,c3,c4,λhn=>?_⟩;obtain⟨d1,d2,arr,d3,d4,d5⟩:=c5 hn;refine⟨d1,d2,arr,d3,d4,λi x j p hx hj=>?_⟩;obtain⟨v,hv,T⟩:=d5 i x j p hx hj;exact⟨v,hv,T.mono (Pres.sub D)⟩
 rintro e Z Q ⟨A,bc,hq⟩
 cases e with
 |normal=>obtain⟨h1,v,h2,h3⟩:=V Z Q A bc hq;exact jv h1 h2 h3
 |ret=>obtain⟨h1,v,h2,h3⟩:=V Z Q A bc hq;exact jv h1 h2 h3
 |exit=>exact hq.elim
 |goto=>exact hq.elim
 |panic=>exact hq.elim
 |outgrown=>exact hq.elim
section
variable {V:Type}
def i7(n:Nat)(wr:Nat->Option V)(x0:V)(a:Nat->Bool):V:=(List.range n).foldl (λx i=>if a i=true then(wr i).getD x else x) x0
theorem kF(n:Nat)(wr:Nat->Option V)(x0:V)(a:Nat->Bool):i7 (n+1) wr x0 a=if a n=true then(wr n).getD (i7 n wr x0 a)else i7 n wr x0 a:=by
 simp[i7,Xk,Yd]
theorem eE{wr:Nat->Option V}{x0:V}{ls':Nat->Bool}(h:∀j,j<n->(wr j).isSome=true->ls j=ls' j):i7 n wr x0 ls=i7 n wr x0 ls':=by
 induction n with
 |zero=>rfl
 |succ n ih=>
  rw[kF,kF,ih (λj b=>h j (by omega))]
  cases a:wr n with
  |none=>simp
  |some v=>rw[h n (by omega) (by simp[a])]
theorem qU{wr:Nat->Option V}{x0:V}(hi:i<=n):i7 n wr x0 (λj=>decide (j<i))=i7 i wr x0 (λ_=>true):=by
 induction n with
 |zero=>have:i=0:=by omega
        subst this;rfl
 |succ n ih=>
  by_cases e:i=n+1
  .subst e
   refine(eE (λj a _=>?_));simpa using a
  .rw[kF,ih (by omega)]
   have:¬n<i:=by omega
   simp[this]
theorem pP{wr:Nat->Option V}{x0:V}(hi:i<n)(a:(wr i).isSome=true->∀j,i<j->j<n->(wr j).isSome=true->ls j=false):
 i7 n wr x0 (λj=>ls j||j==i)=(wr i).getD (i7 n wr x0 ls):=by
 cases c:wr i with
 |none=>
  simp only[Option.getD_none];refine eE (λj _ g=>?_)
  have:j≠i:=λe=>by rw[e,c]at g;cases g
  simp[this]
 |some v=>
  simp only[V5];have k:=a (by simp[c]);clear a
  induction n with
  |zero=>omega
  |succ n ih=>
   rw[kF];by_cases e:n=i
   .subst e;simp[c]
   .have f:=ih (by omega) (λj h1 l=>k j h1 (by omega))
    rw[f]
    have b:(n==i)=false:=by simpa using e
    simp only[b,Bool.or_false]
    cases d:wr n with
    |none=>simp
    |some u=>rw[k n (by omega) (by omega) (by simp[d])];simp
end
def oe(ops:Array Oper)(i j:Nat):Prop:=∃o,ops[j]?=some o/\∃e∈o.after.toList,Region.binds .any e=true/\e.on=i
inductive Pre(ops:Array Oper):Nat->Nat->Prop
 |one {i j:Nat} (h:oe ops i j):Pre ops i j
 |step {i q j:Nat} (h:Pre ops i q) (h':oe ops q j):Pre ops i j
def Dc(acc:List Nat)(a:List Edge):Nat:=a.foldl (λs e=>if Region.binds .any e=true then s ||| 2^e.on ||| acc.getD e.on 0 else s) 0
def kv:List Oper->List Nat->List Nat
 |[],acc=>acc
 |o::r,acc=>kv r (acc++[Dc acc o.after.toList])
theorem Ah{acc:List Nat}{i:Nat}:∀(b:List Edge)(s:Nat),(b.foldl (λs e=>if Region.binds .any e=true then s ||| 2^e.on ||| acc.getD e.on 0 else s) s).testBit i=true->
 s.testBit i=true\/∃e∈b,Region.binds .any e=true/\(e.on=i\/(acc.getD e.on 0).testBit i=true)
 |[],s,h=>.inl h
 |e::b,s,h=>by
  simp only[Xo]at h;rcases Ah b _ h with a|⟨f,d,c,g⟩
  .split at a
   .rename_i c
    rw[Nat.testBit_or,Nat.testBit_or,WL,WL]at a;rcases a with(a|a)|a
    .exact .inl a
    .refine .inr ⟨e,by simp,c,.inl ?_⟩
     rw[Nat.testBit_two_pow]at a;simpa using a
    .exact .inr ⟨e,by simp,c,.inr a⟩
   .exact .inl a
  .exact .inr ⟨f,by simp[d],c,g⟩
theorem uR{ops:Array Oper}:∀{l:List Oper}{acc:List Nat},(∀j,l[j]?=ops[acc.length+j]?)->(∀i j,(acc.getD j 0).testBit i=true->Pre ops i j)->
 ∀i j,((kv l acc).getD j 0).testBit i=true->Pre ops i j
 |[],acc,_,h,i,j,a=>h i j a
 |o::l,acc,k,h,i,j,a=>by
  refine uR (l:=l) (acc:=acc++[Dc acc o.after.toList]) (λj=>?_) ?_ i j a
  .have:=k (j+1)
   simp only[X7]at this;rw[this];congr 1;simp;omega
  .intro i j a
   by_cases n:j<acc.length
   .refine h i j ?_
    rwa [XT,VO n,<-XT]at a
   .by_cases c:j=acc.length
    .subst c
     rw[XT,VR (by omega)]at a;simp only[XU,W9,V5,Dc]at a
     have f:ops[acc.length]?=some o:=by have:=k 0;simpa using this.symm
     rcases Ah _ _ a with m|⟨e,g,b,d⟩
     .simp at m
     .rcases d with rfl|d
      .exact .one ⟨o,f,e,g,b,rfl⟩
      .exact .step (h i e.on d) ⟨o,f,e,g,b,rfl⟩
    .rw[XT,VW (by simp;omega)]at a
     simp at a
def Dd(xs:List Operand):List Nat:=xs.filterMap λ|.tmp t=>some t|_=>none
def pZ(ops:Array Oper)(o:Oper):List Nat:=Dd o.op.operands.toList++(match o.guard with|some (j,_)=>((ops[j]?).bind (·.dst)).toList|none=>[])
def lM(ops:Array Oper)(x y:Oper):Bool:=
 (match x.dst with|some r=>(pZ ops y).contains r||y.dst==some r|none=>false)||(match y.dst with|some r=>(pZ ops x).contains r|none=>false)
def HJ(ops:Array Oper):Bool:=(List.range ops.size).all λj=>match ops[j]? with
 |some o=>o.after.toList.all λe=>!Region.binds .any e||decide (e.on<j)
 |none=>true
def kw(ops:Array Oper):Bool:=
 let a:=kv ops.toList []
 HJ ops&&(List.range ops.size).all λj=>(List.range j).all λi=>match ops[i]?,ops[j]? with
  |some x,some y=>!lM ops x y||(a.getD j 0).testBit i
  |_,_=>true
def Fa:Op->Bool
 |.lookup ..|.mapUpdate ..|.load ..|.store ..|.alloc _|.box ..|.build ..|.buildSlice ..|.indexAddr ..|.fieldAddr ..|.makeSlice ..|.call _|.assign _|.makeInterface ..=>true
 |_=>false
def xL(h:Hp)(k:Nat):List Nat:=match h k with
 |some (.box cs _ _)=>cs.flatMap xu
 |_=>[]
def Fb(h:Hp):AV->List Nat
 |.ptr k _=>xL h k
 |_=>[]
def La(h:Hp):AV->List Nat
 |.fn _ _ caps=>let b:=caps.flatMap (Fb h);b++b.flatMap (xL h)
 |.ext (.barr k _ _)=>xL h k
 |_=>[]
def HK:Op->Bool
 |.call _=>true
 |_=>false
def mD(o:Oper)(ρ:Operand->AV)(h:Hp):List Nat:=(if Fa o.op then o.op.operands.toList.flatMap λx=>MW (ρ x)else[])++((if HK o.op then o.op.operands.toList.flatMap λx=>La h (ρ x)else[])++o.dst.toList)
def bY(K:List Nat)(h:Hp):Hp:=λk=>if K.contains k=true then h k else none
abbrev og:=List (List Nat×List Nat)
def De(a b:List Nat):Bool:=a.all λx=>!b.contains x
def jP(a:List Nat)(acc:og):Bool:=
 (List.range acc.length).all λj=>(List.range j).all λi=>match acc[i]?,acc[j]? with
   |some (W,K),some (c,b)=>(De W b&&De c K)||(a.getD j 0).testBit i
   |_,_=>true
def lw(P:Program)(hn:List Nat)(N:Nat)(ops:Array Oper)(Q:og->St->Prop):List Oper->og->St->Prop
 |[],acc,st=>Q acc st
 |o::rest,acc,st=>dv N o.dst=true/\(match lI ops st.t o.guard with
   |some none=>tW P hn o st.ev (bY (mD o st.ev st.h) st.h) (λe=>(e.2.all λc=>(mD o st.ev st.h).contains c.1)=true/\lw P hn N ops Q rest (acc++[(e.2.map (·.1),mD o st.ev st.h)]) (st.put o.dst e.1 e.2))
   |some (some (d,b,want))=>yn b d st (λf a=>if f=want then tW P hn o a.ev (bY (mD o a.ev a.h) a.h) (λe=>(e.2.all λc=>(mD o a.ev a.h).contains c.1)=true/\lw P hn N ops Q rest (acc++[(e.2.map (·.1),mD o a.ev a.h)]) (a.put o.dst e.1 e.2))
    else lw P hn N ops Q rest (acc++[([],[])]) (a.put o.dst (.pv (.val (.tuple #[]))) []))
   |none=>False)
theorem BJ{c:AV}{d:Option Nat}(e:ie P c args d h K):∃a,ie P c args d h (λx=>x=a)/\K a:=by
 unfold ie at e|-;split at e
 .exact e.elim
 .split at e
  .exact e.elim
  .split at e
   .exact e.elim
   .rename_i hd
    split at e
    .exact e.elim
    .obtain⟨hout,res,b,f⟩:=e
     unfold jm at f;split at f
     .rename_i e0 g
      refine⟨e0,?_,f⟩;simp only[hd];exact⟨hout,res,b,by unfold jm;simp only[g]⟩
     .exact f.elim
theorem HL(e:tW P hn o ρ h K):∃a,tW P hn o ρ h (λx=>x=a)/\K a:=by
 have hp:jm (fg P hn o ρ h) K->∃a,jm (fg P hn o ρ h) (λx=>x=a)/\K a:=by
  intro e;unfold jm at e|-;split at e
  .rename_i a _;exact⟨a,rfl,e⟩
  .exact e.elim
 unfold tW at e|-;split at e
 .split at e
  .rename_i c d f b
   exact BJ e
  .exact BJ e
  .exact hp e
 .exact hp e
theorem rV(c:∀cs b,o.op≠.select cs b)(h:∀x∈o.op.operands,ρ x=ρ' x):bL P o ρ=bL P o ρ':=by
 unfold bL
 have h1:(o.op.operands.toList.all λx=>(fu (ρ x)).isSome)=(o.op.operands.toList.all λx=>(fu (ρ' x)).isSome):=by
  rw[Bool.eq_iff_iff,VL,VL];constructor
  .intro d x a;rw[<-h x (by simpa using a)];exact d x a
  .intro d x a;rw[h x (by simpa using a)];exact d x a
 have e:execOp (λx=>qS (ρ x)) o=execOp (λx=>qS (ρ' x)) o:=execOp_congr o c (λx a=>by simp only[h x a]);rw[h1,e]
structure Ef where
 d:Option Nat
 v:AV
 W:List (Nat×Blk)
 K:List Nat
 deriving Inhabited
def run(fs:List Ef)(st:St):St:=fs.foldl (λs f=>s.put f.d f.v f.W) st
def mb(P:Program)(o:Oper)(ρ:Operand->AV)(f:Hp)(v:AV)(W:List (Nat×Blk)):Prop:=
 ∀(C:Cx)(L:Nat->Loc)(h:Hp)(w:World)(a:Act),C.P=P->MemL C L h w->(∀k b,f k=some b->h k=some b)->(∀d,o.dst=some d->f d=h d/\d<2000000)->
  (∀x∈o.op.operands,RepA w (ae C L h) L h (ρ x) (a.eval x))->∀(next:Act->World->Prop)(Q:Exit->Act->World->Prop),
  (∀u e c,aL C L h w c (ak h W) e->RepA e (ae C c (ak h W)) c (ak h W) v u->next (a.put o.dst u) e)->o.wp C.P a w next Q
theorem Fc{c:Hp}{v:AV}(e:tW P hn o ρ c (λx=>x=(v,W))):mb P o ρ c v W:=by
 intro C L h w a hP j k hf m next Q b
 subst hP;refine C8 j k hf m e (λf u n d i g l=>?_);subst i;exact b u n d g l
theorem mb.congr{d:Hp}{v:AV}(i:∀x∈o.op.operands,ρ x=ρ' x)(h:mb P o ρ d v W):mb P o ρ' d v W:=by
 intro C L e w a hP f g hf j next Q b
 exact h C L e w a hP f g hf (λx c=>by rw[i x c];exact j x c) next Q b
def oh(P:Program)(hn:List Nat)(N:Nat)(ops:Array Oper)(o:Oper)(st:St)(f:Ef):Prop:=
 dv N o.dst=true/\f.d=o.dst/\
  ((fU ops st.t o.guard=some true/\(∀d,o.dst=some d->f.K.contains d=true)/\mb P o st.ev (bY f.K st.h) f.v f.W/\(f.W.all λa=>f.K.contains a.1)=true)\/
   (fU ops st.t o.guard=some false/\f.v=.pv (.val (.tuple #[]))/\f.W=[]/\f.K=[]))
theorem tZ{P:Program}{hn:List Nat}{N:Nat}{ops:Array Oper}{Q:og->St->Prop}:∀{l:List Oper}{acc:og}{st:St},lw P hn N ops Q l acc st->
 ∃fs:List Ef,fs.length=l.length/\(∀(i:Nat) o f,l[i]?=some o->fs[i]?=some f->oh P hn N ops o (run (fs.take i) st) f)/\Q (acc++fs.map λf=>(f.W.map (·.1),f.K)) (run fs st)
 |[],acc,st,e=>⟨[],rfl,λi o f h=>by simp at h,by simpa[lw,run]using e⟩
 |o::l,acc,st,e=>by
  simp only[lw]at e;obtain⟨hd,e⟩:=e
  have fin:∀(f:Ef),oh P hn N ops o st f->lw P hn N ops Q l (acc++[(f.W.map (·.1),f.K)]) (st.put f.d f.v f.W)->
   ∃fs:List Ef,fs.length=(o::l).length/\(∀(i:Nat) p m,(o::l)[i]?=some p->fs[i]?=some m->oh P hn N ops p (run (fs.take i) st) m)/\Q (acc++fs.map λf=>(f.W.map (·.1),f.K)) (run fs st):=by
   intro f hf a;obtain⟨fs,h1,x,y⟩:=tZ a;refine⟨f::fs,by simp[h1],λi p m u k=>?_,?_⟩
   .cases i with
    |zero=>simp at u k;subst u;subst k;exact hf
    |succ i=>exact x i p m (by simpa using u) (by simpa using k)
   .simpa[run,W3]using y
  split at e
  .rename_i n
   obtain⟨c,q,g,a⟩:=HL e;exact fin ⟨o.dst,c.1,c.2,mD o st.ev st.h⟩ ⟨hd,rfl,.inl ⟨pL n,λd j=>by simp[mD,j],Fc q,g⟩⟩ a
  .rename_i d b want n
   unfold yn at e;simp only at e;split at e
   .rename_i s
    subst s;obtain⟨c,q,g,a⟩:=HL e;exact fin ⟨o.dst,c.1,c.2,mD o st.ev st.h⟩ ⟨hd,rfl,.inl ⟨(mK n).trans (by simp),λd j=>by simp[mD,j],Fc q,g⟩⟩ a
   .rename_i r
    exact fin ⟨o.dst,.pv (.val (.tuple #[])),[],[]⟩ ⟨hd,rfl,.inr ⟨(mK n).trans (by simpa using r),rfl,rfl,rfl⟩⟩ e
  .exact e.elim
def jB(W:List (Nat×Blk))(k:Nat):Option (Option Blk):=W.foldl (λx a=>if k=a.1 then some (some a.2)else x) none
theorem qV(k:Nat):∀(W:List (Nat×Blk))(x:Option (Option Blk)),W.foldl (λx a=>if k=a.1 then some (some a.2)else x) x=(match jB W k with|some y=>some y|none=>x)
 |[],x=>by simp[jB]
 |a::W,x=>by
  simp only[Xo,jB];rw[qV k W (if k=a.1 then some (some a.2)else x),qV k W (if k=a.1 then some (some a.2)else none)]
  cases jB W k with
  |some y=>rfl
  |none=>simp only;split<;>rfl
theorem pQ(k:Nat):∀(W:List (Nat×Blk))(h:Hp),ak h W k=(jB W k).getD (h k)
 |[],h=>rfl
 |a::W,h=>by
  show ak (ag h a.1 (some a.2)) W k=_;rw[pQ k W]
  have b:jB (a::W) k=(match jB W k with|some y=>some y|none=>if k=a.1 then some (some a.2)else none):=by
   conv=>lhs;unfold jB
   rw[Xo,qV k W (if k=a.1 then some (some a.2)else none)]
  rw[b]
  cases jB W k with
  |some y=>rfl
  |none=>simp only[Option.getD_none,ag];split<;>rfl
theorem wE{k:Nat}:∀{W:List (Nat×Blk)},(jB W k).isSome=true->k∈W.map (·.1)
 |[],h=>by simp[jB]at h
 |kb::W,h=>by
  simp only[jB,Xo]at h;rw[qV k W (if k=kb.1 then some (some kb.2)else none)]at h;by_cases e:k=kb.1
  .simp[e]
  .rw[VM e]at h
   have:(jB W k).isSome=true:=by cases a:jB W k<;>simp_all
   have:=wE this;simp at this|-;exact .inr this
section
variable (fs:List Ef)
def sK(r i:Nat):Option AV:=match fs[i]? with
 |some f=>if f.d=some r then some f.v else none
 |none=>none
def sL(k i:Nat):Option (Option Blk):=match fs[i]? with
 |some f=>jB f.W k
 |none=>none
def fD(n:Nat)(st:St)(a:Nat->Bool):St:=⟨λr=>i7 n (sK fs r) (st.t r) a,λk=>i7 n (sL fs k) (st.h k) a⟩
theorem ol(st:St):∀i,i<=fs.length->∀r,(run (fs.take i) st).t r=i7 i (sK fs r) (st.t r) (λ_=>true)
 |0,_,r=>by simp[run,i7]
 |i+1,hi,r=>by
  have a:i<fs.length:=by omega
  rw[WF a,kF];simp only[run,Yd,Xo,List.foldl_nil,V8];have ih:=ol st i (by omega) r;rw[run]at ih
  have b:sK fs r i=if fs[i].d=some r then some fs[i].v else none:=by simp[sK,an a]
  rw[b,<-ih]
  cases hd:fs[i].d with
  |none=>simp[St.put]
  |some d=>
   simp only[St.put,ag,VQ];by_cases e:d=r
   .subst e;simp
   .rw[VM (λh=>e h.symm),VM e];rfl
theorem om(st:St):∀i,i<=fs.length->∀k,(run (fs.take i) st).h k=i7 i (sL fs k) (st.h k) (λ_=>true)
 |0,_,r=>by simp[run,i7]
 |i+1,hi,r=>by
  have a:i<fs.length:=by omega
  rw[WF a,kF];simp only[run,Yd,Xo,List.foldl_nil,V8];have ih:=om st i (by omega) r;rw[run]at ih
  have b:sL fs r i=jB fs[i].W r:=by simp[sL,an a]
  rw[b,<-ih];simp only[St.put];exact pQ r _ _
end
section
variable {C:Cx} {hn:List Nat} {ops:Array Oper} {fs:List Ef} {st:St}
def aM(a:Array Bool):Nat->Bool:=λi=>a.getD i true
theorem qW(a:∀i j,oe ops i j->ls j=true->ls i=true)(h:Pre ops i j):ls j=true->ls i=true:=by
 induction h with
 |one h=>exact a _ _ h
 |step _ b ih=>exact λc=>ih (a _ _ b c)
theorem mc(hs:kw ops=true){x y:Oper}(b:i<j)(f:ops[i]?=some x)(c:ops[j]?=some y)(d:lM ops x y=true):Pre ops i j:=by
 simp only[kw,An]at hs;have e:j<ops.size:=(Ws.1 c).1;have h1:=VL.1 hs.2 j (Wz.2 e);have a:=VL.1 h1 i (Wz.2 b);rw[f,c]at a;simp only[d,Xv,Bool.false_or]at a;exact uR (l:=ops.toList) (acc:=[]) (λj=>by simp) (λi j h=>by simp at h) i j a
theorem nJ{acc:og}(hs:jP (kv ops.toList []) acc=true){W K f e:List Nat}(d:i<j)(o:acc[i]?=some (W,K))(g:acc[j]?=some (f,e))(m:∃k,(k∈W/\k∈e)\/(k∈f/\k∈K)):Pre ops i j:=by
 have n:j<acc.length:=(th.1 g).1;have h1:=VL.1 hs j (Wz.2 n);have c:=VL.1 h1 i (Wz.2 d);rw[o,g]at c;simp only[WL,An]at c;rcases c with⟨d1,d2⟩|c
 .obtain⟨k,⟨a,b⟩|⟨a,b⟩⟩:=m
  .have:=VL.1 d1 k a
   simp at this;exact absurd b this
  .have:=VL.1 d2 k a
   simp at this;exact absurd b this
 .exact uR (l:=ops.toList) (acc:=[]) (λj=>by simp) (λi j h=>by simp at h) i j c
theorem qX(hs:kw ops=true)(h:oe ops i j):i<j:=by
 simp only[kw,An]at hs;obtain⟨o,a,e,d,c,rfl⟩:=h;have h1:=VL.1 hs.1 j (Wz.2 (Ws.1 a).1);rw[a]at h1;have b:=VL.1 h1 e d;simpa[c]using b
theorem md{a:Array Bool}:i∈Region.ready .any ops a↔i<ops.size/\aM a i=false/\∀q,oe ops q i->a.getD q false=true:=by
 unfold Region.ready aM;rw[WX,Wz];constructor
 .rintro⟨h1,b⟩
  simp only[An,Wy]at b;refine⟨h1,b.1,?_⟩;rintro q ⟨o,d,e,g,f,rfl⟩;have c:=b.2;rw[d]at c;simp only[WG,V5,Array.all_eq_true_iff_forall_mem]at c;have:=c e (by simpa using g);simpa[f]using this
 .rintro⟨h1,b,c⟩
  refine⟨h1,?_⟩;simp only[An,Wy];refine⟨b,?_⟩;have d:ops[i]?=some ops[i]:=WB h1;rw[d];simp only[WG,V5,Array.all_eq_true_iff_forall_mem];intro e g
  cases f:Region.binds .any e with
  |false=>simp
  |true=>simp[c e.on ⟨_,d,e,by simpa using g,f,rfl⟩]
theorem Jp(z:kw ops=true)(b2:fs.length=ops.size)(T:∀(i:Nat) o f,ops[i]?=some o->fs[i]?=some f->oh C.P hn C.N ops o (run (fs.take i) st) f)
 (O:jP (kv ops.toList []) (fs.map λf=>(f.W.map (·.1),f.K))=true){Q':Exit->Act->World->Prop}(hQ:∀a w,gH C (run fs st) a w->Q' .normal a w):
 ∀(fuel:Nat)(c:Array Bool)(a:Act)(w:World),c.size=ops.size->((List.range ops.size).filter λj=>!aM c j).length<=fuel->(∀i j,oe ops i j->aM c j=true->aM c i=true)->
  gH C (fD fs ops.size st (aM c)) a w->wpAny C.P .any ops Q' fuel c a w:=by
 have G:∀c:Array Bool,Region.ready .any ops c=[]->c.size=ops.size->∀j,j<ops.size->aM c j=true:=by
  intro c U B j
  induction j using Nat.strongRecOn with
  |_ j ih=>
   intro l
   cases hl:aM c j with
   |true=>rfl
   |false=>
    have:j∈Region.ready .any ops c:=md.2 ⟨l,hl,λq hq=>by
     have ch:=qX z hq;have:=ih q ch (by omega);unfold aM at this;rw[VT]at this|-;rw[WB (by omega)]at this|-
     simpa using this⟩
    rw[U]at this;cases this
 have ad:∀(c:Array Bool) a w,Region.ready .any ops c=[]->c.size=ops.size->gH C (fD fs ops.size st (aM c)) a w->Q' .normal a w:=by
  intro c a w U B D;apply hQ;have hl:=G c U B
  have:fD fs ops.size st (aM c)=run fs st:=by
   have ht:run fs st=run (fs.take ops.size) st:=by rw[Wg (by omega)]
   rw[ht]
   have h1:(fD fs ops.size st (aM c)).t=(run (fs.take ops.size) st).t:=by
    funext r;rw[ol fs st _ (by omega)];exact eE (λj l _=>hl j l)
   have F:(fD fs ops.size st (aM c)).h=(run (fs.take ops.size) st).h:=by
    funext r;rw[om fs st _ (by omega)];exact eE (λj l _=>hl j l)
   cases hA:fD fs ops.size st (aM c);cases hB:run (fs.take ops.size) st;rw[hA,hB]at h1 F;simp at h1 F;rw[h1,F]
  rw[<-this];exact D
 intro fuel
 induction fuel with
 |zero=>
  intro c a w B bq V D
  have Z:Region.ready .any ops c=[]:=by
   cases U:Region.ready .any ops c with
   |nil=>rfl
   |cons i r=>
    have hi:i∈Region.ready .any ops c:=by rw[U];simp
    obtain⟨h1,F,_⟩:=md.1 hi;have:i∈(List.range ops.size).filter λj=>!aM c j:=WX.2 ⟨Wz.2 h1,by simp[F]⟩;have b4:((List.range ops.size).filter λj=>!aM c j)=[]:=Wq (by omega);rw[b4]at this;cases this
  exact⟨Z,ad c a w Z B D⟩
 |succ fuel ih=>
  intro c a w B bq V D;refine⟨λU=>ad c a w U B D,λi hi=>?_⟩;obtain⟨hin,Q,bH⟩:=md.1 hi;have ho:ops[i]?=some ops[i]:=WB hin;have hf:fs[i]?=some (fs[i]'(by omega)):=an _;generalize ops[i]=o at ho;generalize fs[i]'(by omega)=f at hf;obtain⟨I,b1,H⟩:=T i o f ho hf
  have y:∀q,Pre ops q i->aM c q=true:=by
   intro q hq
   have hd:∀q,oe ops q i->aM c q=true:=by
    intro q hq;have cm:=qX z hq;have:=bH q hq;unfold aM;rw[VT]at this|-;rw[WB (by omega)]at this|-;simpa using this
   cases hq with
   |one h=>exact hd q h
   |step h h'=>exact qW V h (hd _ h')
  have s:∀q,Pre ops i q->aM c q=false:=by
   intro q hq
   cases cg:aM c q with
   |false=>rfl
   |true=>rw[qW V hq cg]at Q;cases Q
  have a2:∀j r,(sK fs r j).isSome=true->∃oj A,ops[j]?=some oj/\fs[j]?=some A/\oj.dst=some r:=by
   intro j r l;unfold sK at l;split at l
   .rename_i A p
    split at l
    .rename_i hd
     have cf:j<ops.size:=by rw[<-b2];exact(th.1 p).1
     have E:ops[j]?=some ops[j]:=WB cf;obtain⟨_,F,_⟩:=T j _ A E p;exact⟨_,A,E,p,by rw[<-F];exact hd⟩
    .cases l
   .cases l
  have a8:∀j k,(sL fs k j).isSome=true->∃A,fs[j]?=some A/\k∈A.W.map (·.1):=by
   intro j k l;unfold sL at l;split at l
   .rename_i A p;exact⟨A,p,wE l⟩
   .cases l
  have g:∀(j:Nat)(A:Ef),fs[j]?=some A->(fs.map λf=>(f.W.map (·.1),f.K))[j]?=some (A.W.map (·.1),A.K):=λj A h=>by simp[h]
  have Y:∀r∈pZ ops o,(fD fs ops.size st (aM c)).t r=(run (fs.take i) st).t r:=by
   intro r U;rw[ol fs st i (by omega),<-qU (n:=ops.size) (by omega)];refine eE (λj l hw=>?_);obtain⟨oj,A,E,p,hd⟩:=a2 j r hw;rcases XL j i with R|rfl|a5
   .rw[y j (mc z R E ho (by simp[lM,hd,U]))];simp[R]
   .rw[Q];simp
   .rw[s j (mc z a5 ho E (by simp[lM,hd,U]))]
    have:¬j<i:=by omega
    simp[this]
  have bc:∀k∈f.K,(fD fs ops.size st (aM c)).h k=(run (fs.take i) st).h k:=by
   intro k M;rw[om fs st i (by omega),<-qU (n:=ops.size) (by omega)];refine eE (λj l hw=>?_);obtain⟨A,p,hd⟩:=a8 j k hw;rcases XL j i with R|rfl|a5
   .rw[y j (nJ O R (g j A p) (g i f hf) ⟨k,.inl ⟨hd,M⟩⟩)];simp[R]
   .rw[Q];simp
   .rw[s j (nJ O a5 (g i f hf) (g j A p) ⟨k,.inr ⟨hd,M⟩⟩)]
    have:¬j<i:=by omega
    simp[this]
  have b9:∀k,k∈f.W.map (·.1)->k∈f.K:=by
   intro k M;obtain⟨kb,a7,rfl⟩:=Wf.1 M;rcases H with⟨_,_,_,G⟩|⟨_,_,hW,_⟩
   .have:=VL.1 G kb a7;simpa using this
   .rw[hW]at a7;cases a7
  have mC:fD fs ops.size st (aM (c.setIfInBounds i true))=(fD fs ops.size st (aM c)).put f.d f.v f.W:=by
   have b3:∀j,j<ops.size->aM (c.setIfInBounds i true) j=(aM c j||j==i):=by
    intro j l;unfold aM;by_cases e:j=i
    .subst e;simp[VT,B,l]
    .have h1:(j==i)=false:=by simpa using e
     rw[h1,Bool.or_false,VT,VT,WN (by omega)]
   have h1:(fD fs ops.size st (aM (c.setIfInBounds i true))).t=((fD fs ops.size st (aM c)).put f.d f.v f.W).t:=by
    funext r
    show i7 ops.size (sK fs r) (st.t r) (aM (c.setIfInBounds i true))=_;rw[eE (λj l _=>b3 j l),pP hin ?_]
    .have hw:sK fs r i=if f.d=some r then some f.v else none:=by simp[sK,hf]
     rw[hw]
     cases hd:f.d with
     |none=>simp[St.put,fD]
     |some d=>
      simp only[St.put,ag,VQ];by_cases e:d=r
      .subst e;simp
      .rw[VM e,VM (λh=>e h.symm)];rfl
    .intro ba j a6 l bb
     obtain⟨oi,fi,X,J,a1⟩:=a2 i r ba;obtain⟨oj,A,E,p,hd⟩:=a2 j r bb;rw[ho]at X;injection X with X;subst X;exact s j (mc z a6 ho E (by simp[lM,a1,hd]))
   have F:(fD fs ops.size st (aM (c.setIfInBounds i true))).h=((fD fs ops.size st (aM c)).put f.d f.v f.W).h:=by
    funext k
    show i7 ops.size (sL fs k) (st.h k) (aM (c.setIfInBounds i true))=_;rw[eE (λj l _=>b3 j l),pP hin ?_]
    .have hw:sL fs k i=jB f.W k:=by simp[sL,hf]
     rw[hw];simp only[St.put];exact(pQ k f.W (fD fs ops.size st (aM c)).h).symm
    .intro ba j a6 l bb
     obtain⟨fi,J,a1⟩:=a8 i k ba;obtain⟨A,p,hd⟩:=a8 j k bb;rw[hf]at J;injection J with J;subst J;exact s j (nJ O a6 (g i f hf) (g j A p) ⟨k,.inr ⟨hd,b9 k a1⟩⟩)
   cases hA:fD fs ops.size st (aM (c.setIfInBounds i true));cases hB:(fD fs ops.size st (aM c)).put f.d f.v f.W;rw[hA,hB]at h1 F;simp at h1 F;rw[h1,F]
  have S:∀a' w',gH C ((fD fs ops.size st (aM c)).put f.d f.v f.W) a' w'->wpAny C.P .any ops Q' fuel (c.setIfInBounds i true) a' w':=by
   intro a' w' cj;refine ih (c.setIfInBounds i true) a' w' (by simp[B]) ?_ ?_ (by rw[mC];exact cj)
   .have ck:((List.range ops.size).filter λj=>!aM (c.setIfInBounds i true) j).length<((List.range ops.size).filter λj=>!aM c j).length:=by
     have cb:((List.range ops.size).filter λj=>!aM (c.setIfInBounds i true) j)=((List.range ops.size).filter λj=>!aM c j).filter λj=>!(j==i):=by
      rw[List.filter_filter];refine List.filter_congr (λj l=>?_);have cd:=Wz.1 l;unfold aM;by_cases e:j=i
      .subst e;simp[VT,B,cd]
      .have h1:(j==i)=false:=by simpa using e
       rw[h1,VT,VT,WN (by omega)];simp
     rw[cb];refine List.length_filter_lt_length_iff_exists.2 ⟨i,WX.2 ⟨Wz.2 hin,by simp[Q]⟩,by simp⟩
    omega
   .intro q j hd l
    have b8:∀m,aM (c.setIfInBounds i true) m=true↔(aM c m=true\/m=i):=by
     intro m;unfold aM;by_cases e:m=i
     .subst e;simp[VT,B,hin]
     .rw[VT,VT,WN (by omega)];simp[e]
    rw[b8]at l|-;rcases l with l|rfl
    .exact .inl (V q j hd l)
    .exact .inl (y q (.one hd))
  obtain⟨L,hm,hN,bs,ht⟩:=D
  have hgd:fU ops (fD fs ops.size st (aM c)).t o.guard=fU ops (run (fs.take i) st).t o.guard:=by
   unfold fU;split
   .rfl
   .rename_i j want hg
    split
    .rename_i d hd
     rw[Y d (by simp[pZ,hg,hd])]
    .rfl
  unfold wpOp;rw[ho];simp only;rcases H with⟨hg,hK,b0,ca⟩|⟨hg,hv,hW,_⟩
  .rw[eN ht (hgd.trans hg)]
   rw[VS rfl];refine .inl ?_
   have b5:∀x∈o.op.operands,(run (fs.take i) st).ev x=(fD fs ops.size st (aM c)).ev x:=by
    intro x hx
    cases x with
    |tmp t=>
     refine(Y t ?_).symm;simp only[pZ,Dd,V4,List.mem_filterMap];exact .inl ⟨.tmp t,by simpa using hx,rfl⟩
    |_=>rfl
   have b7:bY f.K (run (fs.take i) st).h=bY f.K (fD fs ops.size st (aM c)).h:=by
    funext k
    unfold bY;split
    .rename_i M;exact(bc k (by simpa using M)).symm
    .rfl
   rw[b7]at b0;refine mb.congr b5 b0 C L _ w a rfl hm ?_ ?_ (λx _=>dn ht x) _ _ (λu w' L' hA hv=>?_)
   .intro k b M;unfold bY at M;split at M
    .exact M
    .cases M
   .intro d hd
    unfold bY;rw[VS (hK d hd)];refine⟨rfl,?_⟩;have ar:=I;rw[hd]at ar;simp only[dv,An,L4]at ar;exact ar.2
   .refine S _ _ ?_
    rw[b1];exact gH.put hm hN bs ht I hA hv
  .rw[eN ht (hgd.trans hg)]
   simp only[VP,VZ];refine S _ _ ?_;rw[b1,hv,hW];exact gH.put hm hN bs ht I (W:=[]) (aL.refl hm) (.pv (.val _))
theorem WP.drawF(k:C.P.follows .mixedOrders=true)(c:kw ops=true){fs:List Ef}(h1:fs.length=ops.size)(p:∀(i:Nat) o f,ops[i]?=some o->fs[i]?=some f->oh C.P hn C.N ops o (run (fs.take i) st) f)
 (q:jP (kv ops.toList []) (fs.map λf=>(f.W.map (·.1),f.K))=true)(r:Q .normal (run fs st)):WP C (.region id ops true) Q st:=by
 intro a w l;refine wp_region_any k (Jp (fs:=fs) (st:=st) c h1 p q (λa w l=>⟨_,l,r⟩) _ _ _ _ (by simp) ?_ ?_ ?_)
 .refine XH (Yj _ _) (by simp)
 .intro i j hd b
  have g:j<ops.size:=by obtain⟨o,u,_⟩:=hd;exact(Ws.1 u).1
  unfold aM at b;rw[VT,XY,VS g]at b;cases b
 .have:fD fs ops.size st (aM (Array.replicate ops.size false))=st:=by
   have hf:∀j,j<ops.size->aM (Array.replicate ops.size false) j=false:=by
    intro j b;unfold aM;rw[VT,XY,VS b];rfl
   have x:∀{V:Type}(wr:Nat->Option V)(d:V),i7 ops.size wr d (aM (Array.replicate ops.size false))=d:=by
    intro V wr d;rw[eE (ls':=λ_=>false) (λj b _=>hf j b)]
    have:∀n,i7 n wr d (λ_=>false)=d:=by
     intro n;induction n with
     |zero=>rfl
     |succ n ih=>rw[kF];simp[ih]
    exact this _
   cases st;unfold fD;simp[x]
  rw[this];obtain⟨L,s,hN,e,v⟩:=l;have m:=s.grow (Ext.drew (λ_=>False) w);exact⟨L,m.1,hN,e,λn=>(v n).mono m.2 (KC.refl _ _)⟩
theorem WP.draw(b:C.P.follows .mixedOrders=true)(a:kw ops=true)
 (h:lw C.P hn C.N ops (λacc st=>jP (kv ops.toList []) acc=true/\Q .normal st) ops.toList [] st):WP C (.region id ops true) Q st:=by
 obtain⟨fs,h1,c,d,e⟩:=tZ h;exact WP.drawF (hn:=hn) b a (by rw[h1];simp) (λi o f g hf=>c i o f (by simpa using g) hf) (by simpa using d) e
theorem WP.drawX(n:Nat)(r:ops.toList[n]?=some o)(m:C.P.follows .mixedOrders=true)(k:kw ops=true)
 (h:lw C.P hn C.N ops (λacc l=>∃f,oh C.P hn C.N ops o l f/\lw C.P hn C.N ops (λacc st=>jP (kv ops.toList []) acc=true/\Q .normal st) (ops.toList.drop (n+1)) (acc++[(f.W.map (·.1),f.K)]) (l.put f.d f.v f.W)) (ops.toList.take n) [] st):WP C (.region id ops true) Q st:=by
 obtain⟨c,u,x,f,hf,j⟩:=tZ h;obtain⟨e,y,z,A,B⟩:=tZ j;have E:=(th.1 r).1
 have p:c.length=n:=by rw[u,WD];omega
 have G:e.length=ops.size-(n+1):=by rw[y,Xz,WZ]
 have F:ops.toList.length=ops.size:=WZ
 have g:∀i,n+1<=i->run ((c++f::e).take i) st=run (e.take (i-(n+1))) ((run c st).put f.d f.v f.W):=by
  intro i hi;rw[List.take_append,Wg (by omega),p,show i-n=(i-(n+1))+1 by omega,List.take_succ_cons];simp[run]
 refine WP.drawF (hn:=hn) (fs:=c++f::e) m k (by simp;omega) (λi s q b a=>?_) ?_ ?_
 .by_cases h1:i<n
  .rw[VO (by omega)]at a
   rw[XG (by omega)];exact x i s q (by rw[Wk,VS h1];simpa using b) a
  .by_cases D:i=n
   .subst D
    rw[VR (by omega),p,XU]at a;injection a with a;subst a;rw[<-WI,r]at b;injection b with b;subst b;rw[XG (by omega),Wg (by omega)];exact hf
   .rw[VR (by omega),p,show i-n=(i-(n+1))+1 by omega,X7]at a
    rw[g i (by omega)];refine z (i-(n+1)) s q ?_ a;rw[WO,show n+1+(i-(n+1))=i by omega];simpa using b
 .simpa[W3]using A
 .have:=g (c++f::e).length (by simp;omega)
  rw[XW,Wg (by simp;omega)]at this;rw[this];exact B
end
@[simp] theorem HM{α:Type}(f:Nat->α)(k:Nat)(v:α)(n:Nat):ag f k v n=if n=k then v else f n:=rfl
@[simp] theorem Pi(args:List Arg)(n:Nat):Da args n=(match args[n]? with
 |some (.pv p)=>.pv p
 |some (.bx i)=>.ptr (pk i) 0
 |none=>.undef):=rfl
theorem Ai(hin:List (List PV))(k:Nat):uP hin k=if k<1000000 then none else(match hin[k-1000000]? with
 |some a=>some (.box (a.map .pv) false false)
 |none=>none):=rfl
@[simp] theorem LV(K:List Nat)(h:Hp)(k:Nat):bY K h k=if K.contains k=true then h k else none:=rfl
@[simp] theorem Pa:C9 C y Q .normal st=WP C y Q st:=rfl
@[simp] theorem QA:C9 C y Q .ret st=Q .ret st:=rfl
@[simp] theorem PX:C9 C y Q (.exit i) st=Q (.exit i) st:=rfl
@[simp] theorem M5:sI id Q .normal st=Q .normal st:=rfl
@[simp] theorem PY:sI id Q .ret st=Q .ret st:=rfl
@[simp] theorem Pj:sI id Q (.exit i) st=if i=id then Q .normal st else Q (.exit i) st:=rfl
@[simp] theorem TD:HH P rs hout res .ret st=jA P rs hout res st:=rfl
@[simp] theorem Pk:HH P rs hout res .normal st=jA P rs hout res st:=rfl
@[simp] theorem TZ(ks:List Nat)(st:St)(n:Nat):(st.kill ks).t n=az ks (st.t n):=rfl
@[simp] theorem T0(ks:List Nat)(st:St)(k:Nat):(st.kill ks).h k=if ks.contains k=true then none else(st.h k).map (bG ks):=rfl
@[simp] theorem QB:yn true d st F=F true st:=rfl
@[simp] theorem PZ:yn false d st F=F false st:=rfl
def St.lit(st:St)(d:Nat)(b:Bool):St:=⟨ag st.t d (.pv (.val (.bool b))),st.h⟩
section
variable (P:Program) (hn:List Nat) (N:Nat) (ops:Array Oper) (Q:St->Prop) (o:Oper) (rest:List Oper) (st:St)
def xK(x:Option db):Prop:=jm x (λe=>dP P hn N ops Q rest (st.put o.dst e.1 e.2))
def xC(g:FuncId)(as:List Arg)(ks:List Nat)(a:List (Nat×Blk))(hin:List (List PV)):Prop:=y5 P g as hin λhout res=>xK P hn N ops Q o rest st (ma st.h o.dst ks a hout res)
def M6(g:FuncId)(as:List Arg)(ks:List Nat)(a:List (Nat×Blk)):Bool->Option (List (List PV))->Prop
 |false,some hin=>xC P hn N ops Q o rest st g as ks a hin
 |_,_=>False
def Lb(g:FuncId):Option (List Arg×List Nat×List (Nat×Blk))->Prop
 |some (as,ks,W0)=>M6 P hn N ops Q o rest st g as ks W0 (W0.any λa=>ks.contains a.1) (mC st.h ks)
 |none=>False
def Df(args:List AV):Option (FuncId×List AV×List AV)->Prop
 |some (g,first,caps)=>Lb P hn N ops Q o rest st g (jO st.h (first++args++caps) [])
 |none=>False
def P0:AV->Prop
 |.fn (.func g) _ _=>fC P g/\dP P hn N ops Q rest (st.put o.dst .undef [])
 |_=>False
def xN:Bool->Prop
 |true=>Gd (dP P hn N ops Q rest (st.put o.dst (.pv (.val (.bool true))) [])) (dP P hn N ops Q rest (st.put o.dst (.pv (.val (.bool false))) []))
 |false=>xK P hn N ops Q o rest st (fg P hn o st.ev st.h)
def xO:Prop:=match o.op with
 |.call c=>match c.callee with
  |.value f=>Df P hn N ops Q o rest st (c.args.toList.map st.ev) (cJ (st.ev f))
  |.invoke r name=>Df P hn N ops Q o rest st (c.args.toList.map st.ev) (cJ (qA P name (st.ev r)))
  |_=>xK P hn N ops Q o rest st (fg P hn o st.ev st.h)
 |.defer c=>match c.callee with
  |.value f=>if c.args.size=0 then P0 P hn N ops Q o rest st (st.ev f)else False
  |_=>False
 |.binOp op t x y _=>xN P hn N ops Q o rest st (n6 (st.ev y)&&nk P t&&rv st.h (st.ev x)&&(op==.eql||op==.neq))
 |_=>xK P hn N ops Q o rest st (fg P hn o st.ev st.h)
def xB(_:Nat)(want:Bool)(b:Bool):Prop:=if b=want then xO P hn N ops Q o rest st else dP P hn N ops Q rest (st.put o.dst (.pv (.val (.tuple #[]))) [])
def xG:Option (Option (Nat×Bool×Bool))->Prop
 |some none=>xO P hn N ops Q o rest st
 |some (some (d,b,want))=>xB P hn N ops Q o rest st d want b
 |none=>False
end
section
variable {P:Program} {hn:List Nat} {N:Nat} {ops:Array Oper} {Q:St->Prop} {o:Oper} {rest:List Oper} {st:St}
@[simp] theorem QC:xN P hn N ops Q o rest st false=xK P hn N ops Q o rest st (fg P hn o st.ev st.h):=rfl
@[simp] theorem TE:xN P hn N ops Q o rest st true=Gd (dP P hn N ops Q rest (st.put o.dst (.pv (.val (.bool true))) [])) (dP P hn N ops Q rest (st.put o.dst (.pv (.val (.bool false))) [])):=rfl
@[simp] theorem T1{f c:List AV}:P0 P hn N ops Q o rest st (.fn (.func g) f c)=(fC P g/\dP P hn N ops Q rest (st.put o.dst .undef [])):=rfl
theorem Dg{c:AV}:Df P hn N ops Q o rest st args (cJ c)=ie P c args o.dst st.h (λe=>dP P hn N ops Q rest (st.put o.dst e.1 e.2)):=by
 unfold ie
 cases cJ c with
 |none=>rfl
 |some q=>
  obtain⟨g,first,caps⟩:=q;simp only[Df]
  cases jO st.h (first++args++caps) []with
  |none=>rfl
  |some q=>
   obtain⟨as,ks,W0⟩:=q;simp only[Lb]
   cases W0.any λa=>ks.contains a.1 with
   |true=>rfl
   |false=>
    cases mC st.h ks with
    |none=>rfl
    |some hin=>rfl
theorem Lc:xO P hn N ops Q o rest st=wt P hn o st.ev st.h (λe=>dP P hn N ops Q rest (st.put o.dst e.1 e.2)):=by
 obtain⟨a,op,g,pos,b,d⟩:=o
 cases op<;>try rfl
 case binOp op t x y t'=>
  simp only[xO,wt];cases n6 (st.ev y)&&nk P t&&rv st.h (st.ev x)&&(op==.eql||op==.neq)<;>rfl
 rename_i c;obtain⟨callee,args,ts⟩:=c
 cases callee<;>try rfl
 all_goals first
  |(rename_i f name;show Df P hn N ops Q _ rest st (args.toList.map st.ev) (cJ (qA P name (st.ev f)))=ie P (qA P name (st.ev f)) (args.toList.map st.ev) a st.h _;exact Dg)
  |(rename_i f;show Df P hn N ops Q _ rest st (args.toList.map st.ev) (cJ (st.ev f))=ie P (st.ev f) (args.toList.map st.ev) a st.h _;exact Dg)
@[simp] theorem TF:dP P hn N ops Q [] st=Q st:=rfl
@[simp] theorem QD:dP P hn N ops Q (o::rest) st=(dv N o.dst=true/\xG P hn N ops Q o rest st (lI ops st.t o.guard)):=by
 simp only[dP]
 congr 1
 cases a:lI ops st.t o.guard with
 |none=>rfl
 |some g=>cases g with
  |none=>simp only[xG];rw[Lc]
  |some q=>obtain⟨d,b,want⟩:=q;simp only[xG,xB,yn];rw[Lc]
@[simp] theorem TG:xG P hn N ops Q o rest st (some none)=xO P hn N ops Q o rest st:=rfl
@[simp] theorem TH:xG P hn N ops Q o rest st (some (some (d,b,want)))=xB P hn N ops Q o rest st d want b:=rfl
@[simp] theorem Vk:xB P hn N ops Q o rest st d true true=xO P hn N ops Q o rest st:=rfl
@[simp] theorem Vl:xB P hn N ops Q o rest st d false false=xO P hn N ops Q o rest st:=rfl
@[simp] theorem Vm:xB P hn N ops Q o rest st d true false=dP P hn N ops Q rest (st.put o.dst (.pv (.val (.tuple #[]))) []):=rfl
@[simp] theorem Vn:xB P hn N ops Q o rest st d false true=dP P hn N ops Q rest (st.put o.dst (.pv (.val (.tuple #[]))) []):=rfl
@[simp] theorem TJ{e:db}:xK P hn N ops Q o rest st (some e)=dP P hn N ops Q rest (st.put o.dst e.1 e.2):=rfl
@[simp] theorem QE:Df P hn N ops Q o rest st args (some (g,first,caps))=Lb P hn N ops Q o rest st g (jO st.h (first++args++caps) []):=rfl
@[simp] theorem QF:Lb P hn N ops Q o rest st g (some (as,ks,W0))=M6 P hn N ops Q o rest st g as ks W0 (W0.any λa=>ks.contains a.1) (mC st.h ks):=rfl
@[simp] theorem QG:M6 P hn N ops Q o rest st g as ks W0 false (some hin)=xC P hn N ops Q o rest st g as ks W0 hin:=rfl
attribute [simp] xO
theorem lN(h:aQ P g as hin hout res)(a:xK P hn N ops Q o rest st (ma st.h o.dst ks W0 hout res)):
 xC P hn N ops Q o rest st g as ks W0 hin:=⟨hout,res,h,a⟩
theorem Aj(h:st.t d=.pv (.val (.bool b))):st.lit d b=st:=by
 unfold St.lit
 have:ag st.t d (.pv (.val (.bool b)))=st.t:=by
  grind [HM]
 rw[this]
theorem gi(h:st.t d=.pv (.val (.bool b)))(a:b=true->xB P hn N ops Q o rest (st.lit d true) d want true)(hf:b=false->xB P hn N ops Q o rest (st.lit d false) d want false):
 xB P hn N ops Q o rest st d want b:=by
 cases b with
 |true=>have:=a rfl;rw[Aj h]at this;exact this
 |false=>have:=hf rfl;rw[Aj h]at this;exact this
end
section
variable (P:Program) (hn:List Nat) (N:Nat) (ops:Array Oper) (Q:og->St->Prop) (o:Oper) (rest:List Oper) (acc:og) (st:St) (K:List Nat)
def yK(x:Option db):Prop:=jm x (λe=>(e.2.all λa=>K.contains a.1)=true/\lw P hn N ops Q rest (acc++[(e.2.map (·.1),K)]) (st.put o.dst e.1 e.2))
def yC(g:FuncId)(as:List Arg)(ks:List Nat)(a:List (Nat×Blk))(hin:List (List PV)):Prop:=y5 P g as hin λhout res=>yK P hn N ops Q o rest acc st K (ma (bY K st.h) o.dst ks a hout res)
def M7(g:FuncId)(as:List Arg)(ks:List Nat)(a:List (Nat×Blk)):Bool->Option (List (List PV))->Prop
 |false,some hin=>yC P hn N ops Q o rest acc st K g as ks a hin
 |_,_=>False
def Ld(g:FuncId):Option (List Arg×List Nat×List (Nat×Blk))->Prop
 |some (as,ks,W0)=>M7 P hn N ops Q o rest acc st K g as ks W0 (W0.any λa=>ks.contains a.1) (mC (bY K st.h) ks)
 |none=>False
def Dh(args:List AV):Option (FuncId×List AV×List AV)->Prop
 |some (g,first,caps)=>Ld P hn N ops Q o rest acc st K g (jO (bY K st.h) (first++args++caps) [])
 |none=>False
def yO:Prop:=match o.op with
 |.call c=>match c.callee with
  |.value f=>Dh P hn N ops Q o rest acc st K (c.args.toList.map st.ev) (cJ (st.ev f))
  |.invoke r name=>Dh P hn N ops Q o rest acc st K (c.args.toList.map st.ev) (cJ (qA P name (st.ev r)))
  |_=>yK P hn N ops Q o rest acc st K (fg P hn o st.ev (bY K st.h))
 |_=>yK P hn N ops Q o rest acc st K (fg P hn o st.ev (bY K st.h))
def yB(_:Nat)(want:Bool)(b:Bool):Prop:=if b=want then yO P hn N ops Q o rest acc st (mD o st.ev st.h)else lw P hn N ops Q rest (acc++[([],[])]) (st.put o.dst (.pv (.val (.tuple #[]))) [])
def yG:Option (Option (Nat×Bool×Bool))->Prop
 |some none=>yO P hn N ops Q o rest acc st (mD o st.ev st.h)
 |some (some (d,b,want))=>yB P hn N ops Q o rest acc st d want b
 |none=>False
end
section
variable {P:Program} {hn:List Nat} {N:Nat} {ops:Array Oper} {Q:og->St->Prop} {o:Oper} {rest:List Oper} {acc:og} {st:St} {K:List Nat}
theorem Di{c:AV}:Dh P hn N ops Q o rest acc st K args (cJ c)=ie P c args o.dst (bY K st.h) (λe=>(e.2.all λa=>K.contains a.1)=true/\lw P hn N ops Q rest (acc++[(e.2.map (·.1),K)]) (st.put o.dst e.1 e.2)):=by
 unfold ie
 cases cJ c with
 |none=>rfl
 |some q=>
  obtain⟨g,first,caps⟩:=q;simp only[Dh]
  cases jO (bY K st.h) (first++args++caps) []with
  |none=>rfl
  |some q=>
   obtain⟨as,ks,W0⟩:=q;simp only[Ld]
   cases W0.any λa=>ks.contains a.1 with
   |true=>rfl
   |false=>
    cases mC (bY K st.h) ks with
    |none=>rfl
    |some hin=>rfl
theorem Le:yO P hn N ops Q o rest acc st K=tW P hn o st.ev (bY K st.h) (λe=>(e.2.all λd=>K.contains d.1)=true/\lw P hn N ops Q rest (acc++[(e.2.map (·.1),K)]) (st.put o.dst e.1 e.2)):=by
 obtain⟨a,op,i,pos,b,g⟩:=o
 cases op<;>try rfl
 rename_i c;obtain⟨callee,args,ts⟩:=c
 cases callee<;>try rfl
 all_goals first
  |(rename_i f name;show Dh P hn N ops Q _ rest acc st K (args.toList.map st.ev) (cJ (qA P name (st.ev f)))=ie P (qA P name (st.ev f)) (args.toList.map st.ev) a (bY K st.h) _;exact Di)
  |(rename_i f;show Dh P hn N ops Q _ rest acc st K (args.toList.map st.ev) (cJ (st.ev f))=ie P (st.ev f) (args.toList.map st.ev) a (bY K st.h) _;exact Di)
@[simp] theorem TM:lw P hn N ops Q [] acc st=Q acc st:=rfl
@[simp] theorem QH:lw P hn N ops Q (o::rest) acc st=(dv N o.dst=true/\yG P hn N ops Q o rest acc st (lI ops st.t o.guard)):=by
 simp only[lw]
 congr 1
 cases a:lI ops st.t o.guard with
 |none=>rfl
 |some g=>cases g with
  |none=>simp only[yG];rw[Le]
  |some q=>obtain⟨d,b,want⟩:=q;simp only[yG,yB,yn];rw[Le]
@[simp] theorem TN:yG P hn N ops Q o rest acc st (some none)=yO P hn N ops Q o rest acc st (mD o st.ev st.h):=rfl
@[simp] theorem TO:yG P hn N ops Q o rest acc st (some (some (d,b,want)))=yB P hn N ops Q o rest acc st d want b:=rfl
@[simp] theorem Vo:yB P hn N ops Q o rest acc st d true true=yO P hn N ops Q o rest acc st (mD o st.ev st.h):=rfl
@[simp] theorem Vp:yB P hn N ops Q o rest acc st d false false=yO P hn N ops Q o rest acc st (mD o st.ev st.h):=rfl
@[simp] theorem Vq:yB P hn N ops Q o rest acc st d true false=lw P hn N ops Q rest (acc++[([],[])]) (st.put o.dst (.pv (.val (.tuple #[]))) []):=rfl
@[simp] theorem Vr:yB P hn N ops Q o rest acc st d false true=lw P hn N ops Q rest (acc++[([],[])]) (st.put o.dst (.pv (.val (.tuple #[]))) []):=rfl
@[simp] theorem TP{e:db}:yK P hn N ops Q o rest acc st K (some e)=((e.2.all λa=>K.contains a.1)=true/\lw P hn N ops Q rest (acc++[(e.2.map (·.1),K)]) (st.put o.dst e.1 e.2)):=rfl
@[simp] theorem QI:Dh P hn N ops Q o rest acc st K args (some (g,first,caps))=Ld P hn N ops Q o rest acc st K g (jO (bY K st.h) (first++args++caps) []):=rfl
@[simp] theorem QJ:Ld P hn N ops Q o rest acc st K g (some (as,ks,W0))=M7 P hn N ops Q o rest acc st K g as ks W0 (W0.any λa=>ks.contains a.1) (mC (bY K st.h) ks):=rfl
@[simp] theorem QK:M7 P hn N ops Q o rest acc st K g as ks W0 false (some hin)=yC P hn N ops Q o rest acc st K g as ks W0 hin:=rfl
attribute [simp] yO
theorem uS(h:aQ P g as hin hout res)(a:yK P hn N ops Q o rest acc st K (ma (bY K st.h) o.dst ks W0 hout res)):
 yC P hn N ops Q o rest acc st K g as ks W0 hin:=⟨hout,res,h,a⟩
theorem Jq(h:st.t d=.pv (.val (.bool b)))(a:b=true->yB P hn N ops Q o rest acc (st.lit d true) d want true)(hf:b=false->yB P hn N ops Q o rest acc (st.lit d false) d want false):
 yB P hn N ops Q o rest acc st d want b:=by
 cases b with
 |true=>have:=a rfl;rw[Aj h]at this;exact this
 |false=>have:=hf rfl;rw[Aj h]at this;exact this
end
attribute [simp] AU qA
attribute [simp] lG m8 yX xx AR wo zQ rq K7 lH uF AS AT xD Hy E5 K8 Jh Ji CP CO Gb xL Fb La HK aK XV.key
attribute [simp] CU rx Gc
attribute [simp] Cv zV xH xI yY
attribute [simp] zU uK rv nk zW CS yZ CT
attribute [simp] St.lit dv lI fg St.ev St.put ak iJ AV.cells PV.cells Value.cells pJ wm TK.isAgg gl zO tR ip eV lr
 tT zT uI xE xF n7 cJ jO mC kl ma frz tB qw AQ pI rJ lj F9 xv CQ mJ n6 pX lu wk qJ jN
 xy du pK tS uG rt xA ru Ga Hx gm uH zR Cu zS CR wq ln mM jA rU az bG bC MW xu mD Fa Op.operands Call.operands
section
variable {C:Cx} {Q:Exit->St->Prop} {st:St} {x y:Code} {c:Operand}
def uT(C:Cx)(x y:Code)(Q:Exit->St->Prop)(st:St):AV->Prop
 |.pv (.val (.bool b))=>(b=true->WP C x Q st)/\(b=false->WP C y Q st)
 |_=>False
theorem ER(a:b=true->WP C x Q st)(hf:b=false->WP C y Q st):uT C x y Q st (.pv (.val (.bool b))):=⟨a,hf⟩
@[simp] theorem Pl:uT C x y Q st (.pv (.val (.bool true)))=WP C x Q st:=by simp[uT]
@[simp] theorem Pb:uT C x y Q st (.pv (.val (.bool false)))=WP C y Q st:=by simp[uT]
theorem WP.cond'(h:uT C x y Q st (st.ev c)):WP C (.cond c x y) Q st:=by
 cases a:st.ev c with
 |pv p=>cases p with
  |val v=>cases v with
   |bool b=>rw[a]at h;exact WP.cond a h.1 h.2
   |_=>rw[a]at h;exact h.elim
  |_=>rw[a]at h;exact h.elim
 |_=>rw[a]at h;exact h.elim
end
section
variable {C:Cx} {Q:Exit->St->Prop} {st:St}
def Cw(ks:List Nat)(J:St->Prop)(Q:Exit->St->Prop):Exit->St->Prop
 |.normal,st=>J (st.kill ks)
 |e,st=>Q e st
@[simp] theorem M8{J:St->Prop}:Cw ks J Q .normal st=J (st.kill ks):=rfl
@[simp] theorem P1{J:St->Prop}:Cw ks J Q .ret st=Q .ret st:=rfl
@[simp] theorem Pm{J:St->Prop}:Cw ks J Q (.exit i) st=Q (.exit i) st:=rfl
theorem WP.loopN(ks:List Nat)(N:Nat)(I:Nat->St->Prop)(r:I 0 (st.kill ks))
 (round:∀i st,i<=N->I i st->WP C c (Cw ks (λa=>i<N/\I (i+1) a) Q) st):WP C (.loop c) Q st:=by
 classical
 refine WP.loop ks (λst=>∃i,i<=N/\I i st) (λst=>N-(if h:∃i,i<=N/\I i st/\∀j,j<=N->I j st->j<=i then h.choose else 0)) ⟨0,WJ _,r⟩ ?_;intro st ⟨s,p,n⟩
 have l:∃i,i<=N/\I i st/\∀j,j<=N->I j st->j<=i:=by
  have:∀d i,N-i<=d->i<=N->I i st->∃i,i<=N/\I i st/\∀j,j<=N->I j st->j<=i:=by
   intro d
   induction d with
   |zero=>intro i hd hi g;exact⟨i,hi,g,λj k _=>by omega⟩
   |succ d ih=>
    intro i hd hi g;by_cases h:∃j,j<=N/\I j st/\i<j
    .obtain⟨j,k,b,o⟩:=h;exact ih j (by omega) k b
    .exact⟨i,hi,g,λj k b=>Nat.le_of_not_lt (λf=>h ⟨j,k,b,f⟩)⟩
  exact this N s (by omega) p n
 have q:=l.choose_spec;refine WP.mono (round _ st q.1 q.2.1) ?_;intro e a hq
 cases e with
 |normal=>
  obtain⟨f,g⟩:=hq;refine⟨⟨_,f,g⟩,?_⟩
  have m:∃i,i<=N/\I i (a.kill ks)/\∀j,j<=N->I j (a.kill ks)->j<=i:=by
   have:∀d i,N-i<=d->i<=N->I i (a.kill ks)->∃i,i<=N/\I i (a.kill ks)/\∀j,j<=N->I j (a.kill ks)->j<=i:=by
    intro d
    induction d with
    |zero=>intro i hd hi g;exact⟨i,hi,g,λj k _=>by omega⟩
    |succ d ih=>
     intro i hd hi g;by_cases h:∃j,j<=N/\I j (a.kill ks)/\i<j
     .obtain⟨j,k,b,o⟩:=h;exact ih j (by omega) k b
     .exact⟨i,hi,g,λj k b=>Nat.le_of_not_lt (λf=>h ⟨j,k,b,f⟩)⟩
   exact this N _ (by omega) f g
  have h1:=m.choose_spec.2.2 _ f g;rw[dif_pos m,dif_pos l];omega
 |_=>exact hq
end
attribute [simp] Value.oneCell'
def Arg.isPv:Arg->Bool
 |.pv _=>true
 |.bx _=>false
theorem LW(hf:P.funcs[f]?=some fn)(g:fn.body=some c)(a:dm P f=true){args:List Arg}(b:args.length<=fn.ntmps)(e:args.all Arg.isPv=true)
 (h:∀C:Cx,C.P=P->C.N=fn.ntmps->WP C c (HH P fn.results.toList [] res) (rU args [])):aQ P f args [] [] res:=by
 refine oV hf g a b rfl (λi j d=>?_) h;have:=VL.1 e _ (Is d);simp[Arg.isPv]at this
@[simp] theorem TQ(hin:List (List PV))(i:Nat):uP hin (pk i)=(hin[i]?).map (λa=>.box (a.map .pv) false false):=by
 rw[Ai,VM (by unfold pk;omega),show pk i-1000000=i by unfold pk;omega];cases hin[i]?<;>rfl
@[simp] theorem P2(hin:List (List PV))(h:k<1000000):uP hin k=none:=by rw[Ai,VS h]
@[simp] theorem T3(i j:Nat):(pk i=pk j)=(i=j):=by unfold pk;simp
@[simp] theorem Vs(h:n<1000000):(pk i=n)=False:=by unfold pk;simp;omega
@[simp] theorem Vt(h:n<1000000):(n=pk i)=False:=by unfold pk;simp;omega
@[simp] theorem P3{F:Nat->List PV->Prop}:(∀(i:Nat)(a:List PV),([]:List (List PV))[i]?=some a->F i a)=True:=by simp
@[simp] theorem P4{a:List PV}{F:Nat->List PV->Prop}:(∀(i:Nat)(b:List PV),[a][i]?=some b->F i b)=F 0 a:=by
 refine propext ⟨λh=>h 0 a rfl,λh i b hi=>?_⟩
 cases i with
 |zero=>simp at hi;subst hi;exact h
 |succ i=>simp at hi
theorem jQ:am P Go.program=some P:=rfl
theorem jR{d:TypeDesc}(h:P.underlying t=some d):am P (underlying t)=some d:=by
 unfold underlying;rw[ai,jQ,VX,h];rfl
theorem BK(d:Nat)(t:TypeId)(xs ys:Array Value)(c:P.underlying t=some (.struct (P.fieldsOf t)))(hp:P.stoodInHeld t=false):
 am P (Op.equalIn (d+1) t (.agg xs) (.agg ys))=am P (Op.eqFields d xs ys (P.fieldsOf t).toList):=by
 simp only[Op.equalIn,ai,jR c,VX,jQ,hp,VP,VZ];rw[<-Array.forIn_toList];generalize(P.fieldsOf t).toList=fs;clear c
 induction fs with
 |nil=>simp[Op.eqFields];rfl
 |cons f fs ih=>
  simp only[List.forIn_cons,Op.eqFields,ai];by_cases hn:f.name≠ "_"
  .rw[VS hn,VS hn]
   simp only[ai]
   cases am P (part f.type xs f.offset)with
   |none=>rfl
   |some a=>
    simp only[VX]
    cases am P (part f.type ys f.offset)with
    |none=>rfl
    |some b=>
     simp only[VX]
     cases am P (Op.equalIn d f.type a b)with
     |none=>rfl
     |some r=>
      cases r
      .simp only[VX,Yz,V8,dW]
      .simp only[VX,Xv,VP,VZ,dW]
       exact ih
  .rw[VM hn,VM hn]
   simp only[dW,VX];exact ih
theorem wF(d:Nat)(t:TypeId)(k c:IntKind)(a b:Int)(h:P.underlying t=some (.int c)):am P (Op.equalIn (d+1) t (.int k a) (.int k b))=some (a==b):=by
 simp only[Op.equalIn,ai,jR h,VX];rw[VS trivial];rfl
theorem xM{f:Field}{fs:List Field}{a b:Value}{r c:Bool}(hn:f.name≠ "_")(e:am P (part f.type xs f.offset)=some a)(g:am P (part f.type ys f.offset)=some b)
 (i:am P (Op.equalIn d f.type a b)=some r)(j:am P (Op.eqFields d xs ys fs)=some c):am P (Op.eqFields d xs ys (f::fs))=some (r&&c):=by
 simp only[Op.eqFields];rw[VS hn];simp only[ai,e,g,i,VX];cases r
 .simp;rfl
 .simp[j]
theorem HN:am P (Op.eqFields d xs ys [])=some true:=rfl
theorem Ak{x y:Operand}(a:o.op=.binOp .neq t x y t')(c:ρ x=.pv (.val (.agg xs)))(d:ρ y=.pv (.val (.agg ys)))
 (f:P.eqGuardType P.depth t=false)(h:am P (Op.equal t (.agg xs) (.agg ys))=some b):bL P o ρ=some (.pv (.val (.bool !b)),[]):=by
 refine eo (by rw[a];simp[Op.operands,c,d,fu]) ?_;unfold execOp;rw[a];simp only[(bT c).2,(bT d).2]
 have h1:am P (eqGuard .neq t x y (.agg xs) (.agg ys))=some ():=by
  unfold eqGuard;simp only[Xv,VP,VZ,ai,jQ,VX,f,Yz,V8];rfl
 have e:am P (binOp .neq t (.agg xs) (.agg ys))=some (.bool !b):=by
  simp only[binOp,ai,h,VX];rfl
 simp only[ai,h1,e,VX];rfl
theorem Al{x y:Operand}(a:o.op=.binOp .eql t x y t')(c:ρ x=.pv (.val (.agg xs)))(d:ρ y=.pv (.val (.agg ys)))
 (f:P.eqGuardType P.depth t=false)(h:am P (Op.equal t (.agg xs) (.agg ys))=some b):bL P o ρ=some (.pv (.val (.bool b)),[]):=by
 refine eo (by rw[a];simp[Op.operands,c,d,fu]) ?_;unfold execOp;rw[a];simp only[(bT c).2,(bT d).2]
 have h1:am P (eqGuard .eql t x y (.agg xs) (.agg ys))=some ():=by
  unfold eqGuard;simp only[Xv,VP,VZ,ai,jQ,VX,f,Yz,V8];rfl
 have e:am P (binOp .eql t (.agg xs) (.agg ys))=some (.bool b):=by
  simp only[binOp,ai,h,VX];rfl
 simp only[ai,h1,e,VX];rfl
class Sp(G:Prop)(H:outParam Prop):Prop where
 h:H->G
class Ss(G:Prop)(H:outParam Prop):Prop where
 h:H->G
class Sb(G:Prop)(A B D:outParam Prop):Prop where
 h:A->B->D->G
class Sc(G:Prop)(P:outParam Program)(g:outParam FuncId)(as:outParam (List Arg))(hin:outParam (List (List PV)))(F:outParam (List (List PV)->RV->Prop)):Prop where
 h:∀{hout res},aQ P g as hin hout res->F hout res->G
section
variable {C:Cx} {Q:Exit->St->Prop} {st:St} {x y c:Code} {id:Nat} {ops:Array Oper}
instance:Sp (WP C (.seq x y) Q st) (WP C x (C9 C y Q) st):=⟨WP.seq⟩
instance:Sp (WP C (.block id c) Q st) (WP C c (sI id Q) st):=⟨WP.block⟩
instance:Ss (WP C (.region id ops false) Q st) (dP C.P [] C.N ops (Q .normal) ops.toList st):=⟨WP.region⟩
instance{o:Operand}:Ss (WP C (.cond o x y) Q st) (uT C x y Q st (st.ev o)):=⟨WP.cond'⟩
instance:Ss (WP C .skip Q st) (Q .normal st):=⟨WP.skip⟩
instance:Ss (WP C .ret Q st) (Q .ret st):=⟨WP.ret⟩
instance:Ss (WP C (.exit id) Q st) (Q (.exit id) st):=⟨WP.exit⟩
theorem Wh(hn:List Nat)(h:dP C.P hn C.N ops (Q .normal) ops.toList st):WP C (.region id ops false) Q st:=WP.region h
theorem Wi(hn:List Nat)(h:lw C.P hn C.N ops (λacc st=>jP (kv ops.toList []) acc=true/\Q .normal st) ops.toList [] st)(b:C.P.follows .mixedOrders=true:=by rw[hP];kernel_rfl)(a:kw ops=true:=by kernel_rfl):WP C (.region id ops true) Q st:=WP.draw b a h
theorem Wd(h:lw C.P [] C.N ops (λacc st=>jP (kv ops.toList []) acc=true/\Q .normal st) ops.toList [] st)(b:C.P.follows .mixedOrders=true:=by rw[hP];kernel_rfl)(a:kw ops=true:=by kernel_rfl):WP C (.region id ops true) Q st:=WP.draw b a h
end
section
variable {P:Program} {hn:List Nat} {N:Nat} {ops:Array Oper} {o:Oper} {rest:List Oper} {st:St} {d:Nat} {want b:Bool} {g:FuncId} {as:List Arg} {ks:List Nat} {W0:List (Nat×Blk)} {hin:List (List PV)}
instance{Q:St->Prop}:Sb (xB P hn N ops Q o rest st d want b) (st.t d=.pv (.val (.bool b))) (b=true->xB P hn N ops Q o rest (st.lit d true) d want true) (b=false->xB P hn N ops Q o rest (st.lit d false) d want false):=⟨gi⟩
instance{Q:og->St->Prop}{acc:og}:Sb (yB P hn N ops Q o rest acc st d want b) (st.t d=.pv (.val (.bool b))) (b=true->yB P hn N ops Q o rest acc (st.lit d true) d want true) (b=false->yB P hn N ops Q o rest acc (st.lit d false) d want false):=⟨Jq⟩
instance{Q:St->Prop}:Sc (xC P hn N ops Q o rest st g as ks W0 hin) P g as hin (λhout res=>xK P hn N ops Q o rest st (ma st.h o.dst ks W0 hout res)):=⟨lN⟩
instance{Q:og->St->Prop}{acc:og}{K:List Nat}:Sc (yC P hn N ops Q o rest acc st K g as ks W0 hin) P g as hin (λhout res=>yK P hn N ops Q o rest acc st K (ma (bY K st.h) o.dst ks W0 hout res)):=⟨uS⟩
end
theorem Xx{p:Prop}(h:False:=by first|(clear hP hN;simp_all;done)|(simp at *;omega)):p:=h.elim
theorem Xy{p:Prop}(h:False:=by simp at hgd;first|done|omega):p:=h.elim
theorem Ya{a:List Nat}{acc:og}{b:Prop}(h:b)(k:jP a acc=true:=by kernel_rfl):jP a acc=true/\b:=⟨k,h⟩
theorem Dp{e g m:String}{a3 a4 i:Array TypeId}{j o:Nat}{k l:Bool}{p:Option Nat}{b6:List Departure}{q:Array String}(hf:P.funcs[f]?=some fn){args:List Arg}(h:∀C:Cx,C.P=P->C.N=n->WP C c (HH P rs [] res) (rU args []))
 (d:fn=⟨e,g,a3,a4,i,j,n,rs.toArray,some c,k,l,m,o,p,b6,q⟩:=by rfl)(a:dm P f=true:=by kernel_rfl)(b:args.length<=n:=by exact of_decide_eq_true (by kernel_rfl))(r:args.all Arg.isPv=true:=by rfl):aQ P f args [] [] res:=by
 subst d;exact LW hf rfl a b r h
abbrev X2:=@eZ
abbrev Xd:=@ER
end Go.Ab
