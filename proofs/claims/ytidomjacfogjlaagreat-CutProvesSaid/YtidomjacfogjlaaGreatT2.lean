/- The contracts and facts that the laws of this seat need, in one text (AbB). -/
import Derived.Test.YtidomjacfogjlaaGreatT1
import Derived.MapKept
import Derived.Laws.StructEq
set_option linter.all false
set_option maxRecDepth 10000
set_option maxHeartbeats 16000000
namespace Go.Ab
open IntKind (i64)
variable {C:Cx}{F:Bool->St->Prop}{K:bF->Prop}{L:Nat->Loc}{M M':Nat->Nat->Prop}{P:Program}{Q:Exit->St->Prop}{W W0:List (Nat×Blk)}{a:Act}{args caps first:List AV}{as:List Arg}{b want:Bool}{c y:Code}{cs xs ys:Array Value}{d i id j k n:Nat}{f:FuncId}{fn:Func}{h:Hp}{hin hout:List (List PV)}{hn ks:List Nat}{is:List Int}{kd:IntKind}{ls:Nat->Bool}{name:String}{o:Oper}{op:BinOp}{ops:Array Oper}{p:PV}{res:RV}{rs:List ResultVar}{st:St}{t t':TypeId}{ti:TI}{ts:List TypeId}{u v:Value}{us:List Value}{w:World}{x:AV}{ρ ρ':Operand->AV}{σ:Operand->Value}
theorem gU{α:Type}{P:Program}:∀{s:Sem α}{a:α},aj P s=some a->∀w,s.run P w=.ok a w
 |.pure a,b,e,w=>by simp only[aj,Z9]at e;subst e;rfl
 |.program k,b,e,w=>by simp only[aj]at e;exact gU (s:=k P) e w
 |.load _ _ _,_,e,_=>by simp[aj]at e
 |.store _ _ _ _,_,e,_=>by simp[aj]at e
 |.new _ _,_,e,_=>by simp[aj]at e
 |.shape _ _,_,e,_=>by simp[aj]at e
 |.freeze _ _ _,_,e,_=>by simp[aj]at e
 |.frozen _ _,_,e,_=>by simp[aj]at e
 |.getObj _ _,_,e,_=>by simp[aj]at e
 |.setObj _ _ _,_,e,_=>by simp[aj]at e
 |.choose _ _,_,e,_=>by simp[aj]at e
 |.sys _ _,_,e,_=>by simp[aj]at e
 |.mark _ _,_,e,_=>by simp[aj]at e
 |.halt _,_,e,_=>by simp[aj]at e
theorem ry(off:Nat):∀(l:List Value)(s:Nat)(arr:Array Value),off+s+l.length<=arr.size->
 ((l.zipIdx s).foldl (λcs(p:Value×Nat)=>cs.setIfInBounds (off+p.2) p.1) arr).toList=cS arr.toList (off+s) l
 |[],s,arr,_=>by simp[cS]
 |v::r,s,arr,h=>by
  simp only[List.zipIdx_cons,yBr];rw[ry off r (s+1) _ (by simp at h|-;omega)];simp only[Array.toList_setIfInBounds,cS,yBA];have:=list_seg_step arr.toList (off+s) v r (by simp at h|-;omega);rw[<-Nat.add_assoc off s 1];rw[show off+s+(r.length+1)=off+s+(r.length+1) from rfl];exact this
section
variable {C:Cx} {L:Nat->Loc} {h1 h:Hp} {w:World} {M:Nat->Nat->Prop}
theorem vd(place:Nat->Option (Nat×Nat)):∀{ps:List (Nat×List AV)}{vs:List (Nat×Value)}{cells f:List AV}{arr:Array Value},aB w M L h cells arr.toList->
 (ps.length=vs.length/\∀(q:Nat)(i:Nat) cs(m:Nat)(v:Value),ps[q]?=some (i,cs)->vs[q]?=some (m,v)->m=i/\aB w M L h cs v.cells.toList)->uT place cells ps=some f->
 ∃k,Instr.fill place arr vs=some k/\aB w M L h f k.toList
 |[],vs,cells,f,arr,r,hp,e=>by
  simp only[uT,Z9]at e;subst e;have:vs=[]:=yAA (by have:=hp.1;simpa using this.symm);subst this;exact⟨arr,rfl,r⟩
 |(i,cs)::ps,vs,cells,f,arr,r,hp,e=>by
  cases vs with
  |nil=>exact absurd hp.1 (by simp)
  |cons iv vs=>
   obtain⟨m,v⟩:=iv;obtain⟨rfl,y⟩:=hp.2 0 i cs m v rfl rfl;simp only[uT]at e;simp only[Instr.fill]
   cases l:place m with
   |none=>rw[l]at e;cases e
   |some os=>
    obtain⟨g,size⟩:=os;rw[l]at e;simp only at e|-;split at e
    .cases e
    .rename_i j
     have B:cs.length=v.cells.size:=by have:=y.1;simpa using this
     have A:cells.length=arr.size:=by have:=r.1;simpa using this
     have n:cs.length=size:=Classical.not_not.1 (λh=>j (.inl h));have o:¬g+cs.length>cells.length:=λh=>j (.inr h)
     have s:¬((v.cells.size≠size||g+v.cells.size>arr.size)=true):=by simp;omega
     simp only[L4 s]
     have u:(v.cells.zipIdx.foldl (λcs(p:Value×Nat)=>cs.setIfInBounds (g+p.2) p.1) arr).toList=cS arr.toList g v.cells.toList:=by
      have:=ry g v.cells.toList 0 arr (by simp;omega);rw[<-Array.foldl_toList,Array.toList_zipIdx];simpa using this
     refine vd place (cells:=cS cells g cs) ?_ ⟨by have:=hp.1;simpa using this,λq a b c d h1 z=>hp.2 (q+1) a b c d (by simpa using h1) (by simpa using z)⟩ e;have x:=r.splice_ y g;rw[<-u]at x;exact x
theorem wk(hs:∀k b,h1 k=some b->h k=some b){ρ:Operand->AV}{σ:Operand->Value}:∀{ps:List (Nat×Operand)}{qs:List (Nat×List AV)},(∀x∈ps.map (·.2),RepA w M L h (ρ x) (σ x))->qW h1 ρ ps=some qs->
 qs.length=(ps.map λ(i,x)=>(i,σ x)).length/\∀(q:Nat)(i:Nat) cs(f:Nat)(v:Value),qs[q]?=some (i,cs)->(ps.map λ(i,x)=>(i,σ x))[q]?=some (f,v)->f=i/\aB w M L h cs v.cells.toList
 |[],qs,_,e=>by simp only[qW,Z9]at e;subst e;exact⟨rfl,λq i cs f v h=>by simp at h⟩
 |(i,x)::ps,qs,g,e=>by
  simp only[qW]at e;split at e
  .rename_i cs r m n
   injection e with e;subst e;obtain⟨o,p⟩:=wk hs (λy j=>g y (by simp at j|-;exact .inr j)) n;refine⟨by simpa using o,λq a c l v hq d=>?_⟩
   cases q with
   |zero=>
    simp at hq d;obtain⟨rfl,rfl⟩:=hq;obtain⟨rfl,rfl⟩:=d;exact⟨rfl,qg hs (g x (by simp)) m⟩
   |succ q=>exact p q a c l v (by simpa using hq) (by simpa using d)
  .cases e
theorem Bs{P:Program}(w:World):∀(fs:List Field),(∀f∈fs,∃i,P.info? f.type=some i)->
 (fs.mapM (m:=Sem) λf=>do pure (f.offset,<-sizeOf f.type)).run P w=.ok (fs.map λf=>(f.offset,oO P f.type)) w
 |[],_=>by simp
 |f::fs,hf=>by
  obtain⟨i,hi⟩:=hf f (by simp);simp only[List.mapM_cons,Sem.run_bind,fZ hi,Result.andThen_ok,Sem.run_pure,Bs w fs (λg a=>hf g (by simp[a]))];simp[oO,hi]
theorem E2(K:ag C.P t=some ti){qs:List (Nat×List AV)}{vs:List (Nat×Value)}(hp:qs.length=vs.length/\∀(q:Nat)(i:Nat) cs(N:Nat)(v:Value),qs[q]?=some (i,cs)->vs[q]?=some (N,v)->N=i/\aB w M L h cs v.cells.toList)
 {v:AV}(e:yD ti qs=some v):∃r,(Instr.build t vs.toArray).run C.P w=.ok r w/\RepA w M L h v r:=by
 obtain⟨i,d,hi,hd,Q,S,b⟩:=gZ K;have l:=Br K;unfold yD at e;split at e
 .cases e
 .rename_i z I
  have F:i.zero=some z:=by rw[<-S];exact I
  have o:aB w M L h (z.cells.toList.map λv=>AV.pv (.val v)) z.cells.toList:=by
   refine⟨by simp,λq p u hp s=>?_⟩;simp only[ZW,II]at hp;obtain⟨y,R,rfl⟩:=hp;rw[R]at s;injection s with s;subst s;exact .pv (.val _)
  have c:(zeroValue t).run C.P w=.ok z w:=by simp[zeroValue,lM hi,F]
  split at e
  .rename_i fs a
   rw[b]at a;split at a
   .rename_i g
    injection a with a;simp only[II]at e;obtain⟨cells,A,rfl⟩:=e;obtain⟨arr,D,E⟩:=vd (arr:=z.cells) _ o hp A;refine⟨.agg arr,?_,?_⟩
    .have k:∀f∈g.toList,∃i,C.P.info? f.type=some i:=by
      unfold mP at l;rw[hd]at l;intro f hf;exact yAy.1 (IV.1 l f hf)
     have H:=Bs (P:=C.P) w g.toList k;simp only[Instr.build,Sem.run_bind,c,Result.andThen_ok,cH hd,Array.mapM_eq_mapM_toList,Sem.run_map,H]
     have m:(λ(x:Nat)=>(List.map (λf=>(f.offset,oO C.P f.type)) g.toList).toArray[x]?)=λ(i:Nat)=>fs[i]?:=by funext x;rw[<-a];simp
     simp only[m,D];rfl
    .have:=tB E
     simpa using this
   .cases a
   .split at a<;>cases a
   .cases a
  .rename_i n B a
   rw[b]at a;split at a
   .cases a
   .rename_i T O
    injection a with _ a;simp only[II]at e;obtain⟨cells,A,rfl⟩:=e;obtain⟨arr,D,E⟩:=vd (arr:=z.cells) _ o hp A;refine⟨.agg arr,?_,?_⟩
    .have k:∃j,C.P.info? O=some j:=by
      unfold mP at l;rw[hd]at l;exact yAy.1 l
     obtain⟨j,J⟩:=k
     have G:j.size=B:=by rw[<-a];simp[oO,J]
     simp only[Instr.build,Sem.run_bind,c,Result.andThen_ok,cH hd,fZ J,G,D];rfl
    .have:=tB E
     simpa using this
   .split at a<;>cases a
   .cases a
  .cases e
theorem zJ(hs:∀k b,h1 k=some b->h k=some b){e sz fz:Nat}{xs:List PV}(f:h k=some (.row e sz xs fz))(a:tX h1 k n=true):xs.length=n:=by
 unfold tX at a;split at a
 .rename_i j g i d c
  have:=hs _ _ c;rw[f]at this;injection this with this;injection this with _ _ a3 _;subst a3;simpa using a
 .cases a
theorem zD(R:ag C.P t=some ti){v:AV}{f:Nat}(hs:∀k b,h1 k=some b->h k=some b)(K:RepA w M L h x u)(e:pu ti x f h1=some v):
 ∃r,(Instr.fieldAt t u f).run C.P w=.ok r w/\RepA w M L h v r:=by
 obtain⟨i,d,hi,hd,Q,V,m⟩:=gZ R;unfold pu at e;split at e
 .rename_i fs a
  rw[m]at a;split at a
  .rename_i G
   injection a with a;split at e
   .rename_i o s hf
    split at e
    .cases e
    .rename_i O
     rw[<-a]at hf;simp only[ZW,II,yAj]at hf;obtain⟨p,H,rfl,g⟩:=hf
     have l:∃j,C.P.info? p.type=some j/\j.size≠0:=by
      unfold oO at g
      cases E:C.P.info? p.type with
      |none=>rw[E]at g;simp at g;omega
      |some j=>rw[E]at g;simp at g;exact⟨j,rfl,by omega⟩
     obtain⟨j,E,I⟩:=l
     have A:G[f]?=some p:=by rw[<-Array.getElem?_toList];exact H
     have c:∀b q,(Instr.fieldAt t (.pointer (some ⟨b,q,none⟩)) f).run C.P w=.ok (.pointer (some ⟨b,q+p.offset,none⟩)) w:=by
      intro b q;simp only[Instr.fieldAt,Sem.run_bind,cH hd,Result.andThen_ok,A,Instr.sureAddr,Sem.run_pure,fieldPlace,fZ E,I,yAi,gG]
     split at e
     .injection e with e;subst e
      cases K with
      |ptr F=>exact⟨_,c _ _,.ptr F⟩
     .rename_i y D
      injection e with e;subst e
      cases K with
      |pv J=>cases J with
       |rptr _ b T _ U N J=>exact⟨_,c _ _,.pv (by rw[yBx];exact .rptr y b T (D+p.offset) U N J)⟩
     .rename_i k n W D
      split at e
      .rename_i z
       injection e with e;subst e
       cases K with
       |eptr F hn S=>
        obtain⟨B,rfl⟩:=S (zJ hs F z);exact⟨_,c _ _,.eptr F hn (λ_=>⟨B,by rw[yBx]⟩)⟩
      .cases e
     .cases e
   .cases e
  .cases a
  .split at a<;>cases a
  .cases a
 .cases e
end
section
variable {C:Cx} {L:Nat->Loc} {h1 h:Hp} {w:World}
theorem zE(hs:∀k b,h1 k=some b->h k=some b)(X:ag C.P t=some ti){v:AV}{n:Int}{kk:IntKind}(O:RepA w M L h x u)
 (I:∀k e S xs fz,h k=some (.row e S xs fz)->(L k).isNil=true->xs=[])(e:pA ti x n h1=some v):
 ∃r,(Instr.indexAt t u (.int kk n)).run C.P w=.ok r w/\RepA w M L h v r:=by
 obtain⟨i,d,hi,hd,J,hz,U⟩:=gZ X;unfold pA at e;split at e
 .rename_i et q eb ez s
  obtain⟨N,jt,A,rfl,rfl,_⟩:=dK X s
  have a:∀b o len cap,0<=n->n.toNat<len->(Instr.indexAt t (.slice (some ⟨b,o,none⟩) len cap) (.int kk n)).run C.P w=.ok (.pointer (some ⟨b,o+n.toNat*jt.size,none⟩)) w:=by
   intro b o len cap B l;have g:0<=n/\n<(len:Int):=⟨B,by omega⟩;simp only[Instr.indexAt,asIntOf,Sem.run_bind,Sem.run_pure,Result.andThen_ok,cH N,g,and_self,yAn,fZ A,gG]
  split at e
  .rename_i xs
   split at e
   .rename_i B
    split at e
    .rename_i y Q
     split at e
     .rename_i Z
      injection e with e;subst e;have l:n.toNat<xs.length:=(th.1 Q).1
      cases O with
      |pv E=>cases E with
       |sl0=>simp at Q
       |sl _ b o c S uu ax J g E=>
        refine⟨_,a b o _ c B l,.pv ?_⟩
        have K:S=jt.size:=by rw[<-J _ y Q];exact Z
        subst K;have:=Rep.rptr (w:=w) (M:=M) y b (o+n.toNat*jt.size) 0 (λj=>uu n.toNat j) (λj p A=>by have:=g _ y j p Q A;rwa [<-Nat.add_assoc]at this) (λj p A=>E _ y j p Q A);exact this
     .cases e
    .cases e
   .cases e
  .rename_i k m
   split at e
   .rename_i e0 S xs fz s
    split at e
    .rename_i g
     obtain⟨W,F,B,l⟩:=g;injection e with e;subst e;have D:=hs _ _ s
     cases O with
     |arr z ay Y=>
      rw[D]at z;injection z with z;injection z with a1 a2 a3 a4;subst a1;subst a2;subst a3;subst a4;rw[Y W]
      cases f:(L k).isNil with
      |true=>rw[I k _ _ _ _ D f]at W;simp at W;omega
      |false=>
       simp only[Loc.slice,f,ZY,yAi];refine⟨_,a _ _ _ _ B l,.eptr D (by omega) (λ_=>⟨f,?_⟩)⟩;rw[F];simp
    .cases e
   .cases e
  .cases e
 .rename_i len q s
  split at e
  .rename_i g
   obtain⟨B,l⟩:=g
   have G:∃R,d=.array len R/\oO C.P R=q:=by
    grind
   obtain⟨R,rfl,F⟩:=G
   have V:∃j,C.P.info? R=some j:=by
    have:=Br X
    grind [mP,Option.isSome_iff_exists]
   obtain⟨j,A⟩:=V
   have T:j.size=q:=by rw[<-F];simp[oO,A]
   have a:∀b o,(Instr.indexAt t (.pointer (some ⟨b,o,none⟩)) (.int kk n)).run C.P w=.ok (.pointer (some ⟨b,o+n.toNat*q,none⟩)) w:=by
    intro b o;have g:0<=n/\n<(len:Int):=⟨B,by omega⟩;simp only[Instr.indexAt,asIntOf,Sem.run_bind,Sem.run_pure,Result.andThen_ok,cH hd,Instr.sureAddr,g,and_self,yAn,fZ A,gG,T]
   split at e
   .injection e with e;subst e
    cases O with
    |ptr s=>exact⟨_,a _ _,.ptr s⟩
   .rename_i y ad
    injection e with e;subst e
    cases O with
    |pv E=>cases E with
     |rptr _ b o' _ uu g E=>exact⟨_,a _ _,.pv (by rw[yBx];exact .rptr y b o' _ uu g E)⟩
   .rename_i k m j' ad
    split at e
    .rename_i H
     injection e with e;subst e
     cases O with
     |eptr s hn Y=>
      obtain⟨f,rfl⟩:=Y (zJ hs s H);exact⟨_,a _ _,.eptr s hn (λ_=>⟨f,by rw[yBx]⟩)⟩
    .cases e
   .cases e
  .cases e
 .cases e
theorem CZ(hs:∀k b,h1 k=some b->h k=some b)(E:ag C.P t=some ti){v:AV}{n:Int}{kk:IntKind}(F:RepA w M L h x u)(e:uS ti x n h1=some v):
 ∃r,(Instr.indexAt t u (.int kk n)).run C.P w=.ok r w/\RepA w M L h v r:=by
 unfold uS at e;split at e
 .rename_i N J O k m V y
  obtain⟨a,G,s,i,_,_⟩:=dK E y;split at e
  .rename_i g
   injection e with e;subst e
   cases F with
   |ext j=>cases j with
    |barr R d=>
     have q:0<=n/\n<(m:Int):=⟨g.1,by omega⟩;refine⟨.pointer (some ⟨(L k).b,n.toNat,none⟩),?_,.ptr d⟩;simp only[Instr.indexAt,asIntOf,Sem.run_bind,Sem.run_pure,Result.andThen_ok,cH a,q,and_self,yAn,fZ s,gG,i,yBB,yA2]
  .cases e
 .rename_i N K J O k o m t9 y
  obtain⟨a,G,s,i,_,_⟩:=dK E y;split at e
  .rename_i e0 U xs W z
   split at e
   .rename_i g
    obtain⟨H,I,D,l⟩:=g;injection e with e;subst e;have d:=hs _ _ z
    cases F with
    |ext j=>cases j with
     |suf _ f S B T=>
      rw[d]at f;injection f with f;injection f with _ a2 a3 _;subst a2;subst a3;obtain⟨A,c,rfl,Q⟩:=T H;rcases Q with⟨p,rfl,g3⟩|⟨p,_,_⟩
      .have q:0<=n/\n<(m:Int):=⟨D,(Int.toNat_lt D).1 l⟩
       refine⟨.pointer (some ⟨(L k).b,o*U+n.toNat*G.size,none⟩),?_,.eptr d B (λ_=>⟨p,?_⟩)⟩
       .simp only[Instr.indexAt,asIntOf,Sem.run_bind,Sem.run_pure,Result.andThen_ok,cH a,q,and_self,yAn,fZ s,gG]
       .rw[i,<-I,yAM,yBZ]
      .rw[p]at l;exact absurd l (Nat.not_lt_zero _)
   .cases e
  .cases e
 .cases e
theorem FK{x y:Option AV}{v:AV}(e:CS x y=some v):x=some v\/y=some v:=by
 cases x with
 |some a=>exact .inl e
 |none=>exact .inr e
theorem FL{x y:Option bF}{v:bF}(e:CT x y=some v):x=some v\/y=some v:=by
 cases x with
 |some a=>exact .inl e
 |none=>exact .inr e
theorem HJ(hs:∀k b,h1 k=some b->h k=some b){ty:TypeId}(m:ag C.P t=some ti){v:AV}(p:RepA w M L h x u)
 (H:∀k e F xs z,h k=some (.row e F xs z)->(L k).isNil=true->xs=[])(e:E7 ti x h1=some v):
 ∃r,(Builtin.len_ #[t] ty #[u]).run C.P w=.ok r w/\RepA w M L h v r:=by
 unfold E7 at e;split at e
 .rename_i s i q y xs f
  obtain⟨d,_⟩:=dK m f;injection e with e;subst e
  have:∃A c,u=.slice A xs.length c:=by
   cases p with
   |pv E=>cases E with
    |sl0 a c=>exact⟨a,c,rfl⟩
    |sl _ b o c=>exact⟨_,c,rfl⟩
  obtain⟨A,c,rfl⟩:=this;exact⟨_,by simp[Builtin.len_,cH d,goInt],.pv (.val _)⟩
 .rename_i s i q y n f
  obtain⟨d,_⟩:=dK m f;injection e with e;subst e
  cases p with
  |pv E=>cases E with
   |hd _ A c=>exact⟨_,by simp[Builtin.len_,cH d,goInt],.pv (.val _)⟩
 .rename_i s i q y k n f
  obtain⟨d,_⟩:=dK m f;split at e
  .rename_i e0 F xs z f
   split at e
   .rename_i G
    injection e with e;subst e;have l:=hs _ _ f
    have:∃A c,u=.slice A n c:=by
     cases p with
     |arr g D I=>
      grind [Loc.slice]
    obtain⟨A,c,rfl⟩:=this;exact⟨_,by simp[Builtin.len_,cH d,goInt],.pv (.val _)⟩
   .cases e
  .cases e
 .rename_i s i q y k n K f
  obtain⟨d,_⟩:=dK m f;injection e with e;subst e
  cases p with
  |ext j=>cases j with
   |barr _ _=>exact⟨_,by simp[Builtin.len_,cH d,goInt],.pv (.val _)⟩
 .rename_i s i q y k o n t9 f
  obtain⟨d,_⟩:=dK m f;split at e
  .rename_i e0 F xs z B
   split at e
   .rename_i G
    injection e with e;subst e;have l:=hs _ _ B
    cases p with
    |ext j=>cases j with
     |suf _ g D J I=>
      rw[l]at g;injection g with g;injection g with _ a2 a3 _;subst a2;subst a3;obtain⟨A,c,rfl,_⟩:=I G;exact⟨_,by simp[Builtin.len_,cH d,goInt],.pv (.val _)⟩
   .cases e
  .cases e
 .cases e
def Rv(ul:Option Value)(y:Nat):Sem Nat:=match ul with|some v=>Instr.sliceBound v y .sliceB|none=>pure 0
def Rw(uh:Option Value)(n c:Nat):Sem Nat:=match uh with|some v=>Instr.sliceBound v c .sliceAcap|none=>pure n
theorem wm(ht:ag C.P t=some ti){v:AV}(U:RepA w M L h x u){lo hi:Option AV}{ul uh:Option Value}
 (S:∀a,lo=some a->∃b,ul=some b/\RepA w M L h a b)(G:lo=none->ul=none)(R:∀a,hi=some a->∃b,uh=some b/\RepA w M L h a b)(D:hi=none->uh=none)
 (e:kW ti x lo hi=some v):
 ∃r,(Instr.sliceAt t u ul uh none).run C.P w=.ok r w/\RepA w M L h v r:=by
 unfold kW at e;split at e
 .rename_i et Y eb ez xs hk
  obtain⟨J,m,E,rfl,rfl,_⟩:=dK ht hk;simp only at e;split at e
  .rename_i l r g d
   split at e
   .rename_i hc
    obtain⟨V,W,c3,X⟩:=hc;injection e with e;subst e
    have Z:∃A c,u=.slice A xs.length c/\xs.length<=c:=by
     cases U with
     |pv d=>cases d with
      |sl0 a c=>exact⟨a,c,rfl,yAT _⟩
      |sl _ b o c _ _ z=>exact⟨_,c,rfl,z⟩
    obtain⟨A,c,rfl,ay⟩:=Z
    have O:∀y,l<=y->(Rv ul y).run C.P w=.ok l w:=by
     intro y k
     cases lo with
     |none=>rw[G rfl];simp at g;subst g;rfl
     |some a=>
      obtain⟨b,rfl,q⟩:=S a rfl
      cases a with
      |pv p=>cases p with
       |val T=>cases T with
        |int kk n=>
         cases q with
         |pv q=>
          rw[aX q];simp only at g;split at g
          .rename_i N
           injection g with g;have:0<=n/\n<=(y:Int):=⟨N,by omega⟩;simp[Rv,Instr.sliceBound,asIntOf,this,g]
          .cases g
        |_=>simp at g
       |_=>simp at g
      |_=>simp at g
    have ax:(Rw uh xs.length c).run C.P w=.ok r w:=by
     cases hi with
     |none=>rw[D rfl];simp at d;subst d;rfl
     |some a=>
      obtain⟨b,rfl,q⟩:=R a rfl
      cases a with
      |pv p=>cases p with
       |val T=>cases T with
        |int kk n=>
         cases q with
         |pv q=>
          rw[aX q];simp only at d;split at d
          .rename_i N
           injection d with d;have:0<=n/\n<=(c:Int):=⟨N,by omega⟩;simp[Rw,Instr.sliceBound,asIntOf,this,d]
          .cases d
        |_=>simp at d
       |_=>simp at d
      |_=>simp at d
    refine⟨.slice (if c=l then A else A.map (·.add (l*m.size))) (r-l) (c-l),?_,?_⟩
    .have ad:=O r V
     have key:(Instr.sliceBounds true xs.length c ul uh none).run C.P w=.ok (l,r,c) w:=by
      unfold Instr.sliceBounds;cases uh<;>cases ul<;>simp_all[Rv,Rw]
     simp only[Instr.sliceAt,Sem.run_bind,cH J,Result.andThen_ok,Instr.slice,key,fZ E,Sem.run_pure]
    .have F:((xs.take r).drop l).length=r-l:=by simp;omega
     refine .pv ?_;by_cases hz:r-l=0
     .have:(xs.take r).drop l=[]:=yAA (by omega)
      rw[this,hz];exact .sl0 _ _
     .cases U with
      |pv s=>cases s with
       |sl0=>simp at W;omega
       |sl _ b o _ sz uu a1 H B s=>
        have Q:¬c=l:=by omega
        rw[L4 Q]
        have I:sz=m.size:=by
         have K:0<xs.length:=by omega
         rw[<-H 0 xs[0] (an K)];have:=IV.1 X xs[0] (yAq K);simp[tW]at this;exact this.1
        subst I;simp only[yAQ,gG];rw[<-F]
        have f:∀(i:Nat) y,((xs.take r).drop l)[i]?=some y->xs[l+i]?=some y:=by
         intro i y k;rw[yAY,yAw]at k;split at k
         .exact k
         .cases k
        refine .sl _ b (o+l*m.size) _ m.size (λi j=>uu (l+i) j) (by omega) (λi y k=>H _ y (f i y k)) (λi y j p k E=>?_) (λi y j p k E=>s _ y j p (f i y k) E);have:=B _ y j p (f i y k) E;rw[yAM]at this;rw[show o+l*m.size+(i*m.size+j)=o+(l*m.size+i*m.size+j) from by omega];exact this
   .cases e
  .cases e
 .cases e
theorem JC{a:Bool}(b:MemL C L h w)(hf:bW h1 h)(d:RepA w (ak C L h) L h x u)(e:Jt a h1 x=some (p,W)):
 aZ C L h w L (ah h W) w/\Rep w (ak C L (ah h W)) p u/\bW h1 (ah h W):=by
 unfold Jt at e;split at e
 .injection e with e;injection e with e1 e2;subst e1;subst e2
  cases d with
  |pv c=>exact⟨aZ.refl b,c,hf⟩
 grind [lL]
theorem wn{ρ:Operand->AV}{σ:Operand->Value}{b:Nat}{m:Bool}:∀{ps:List (Nat×Operand)}{k:Nat}{h:Hp}(_:MemL C L h w)(_:bW h1 h)(_:∀x∈ps.map (·.2),RepA w (ak C L h) L h (ρ x) (σ x)){xs:List PV}{W:List (Nat×Blk)},
 qX h1 ρ b m k ps=some (xs,W)->aZ C L h w L (ah h W) w/\bW h1 (ah h W)/\xs.length=ps.length/\(∀x∈xs,x.cells.length=b)/\
  (∀(q:Nat)(i:Nat)(v:Value),(ps.map λ(i,x)=>(i,σ x))[q]?=some (i,v)->i=k+q/\∃p,xs[q]?=some p/\Rep w (ak C L (ah h W)) p v)
 |[],k,h,f,hf,j,xs,W,e=>by
  simp only[qX,Z9,yAj]at e;obtain⟨rfl,rfl⟩:=e;exact⟨aZ.refl f,hf,rfl,by simp,λq i v h=>by simp at h⟩
 |(i,x)::ps,k,h,f,hf,j,xs,W,e=>by
  simp only[qX]at e;split at e
  .rename_i d
   subst d;split at e
   .rename_i p J I K E F
    split at e
    .rename_i g
     injection e with e;injection e with ea eb;subst ea;subst eb;obtain⟨c,o,r⟩:=JC f hf (j x (by simp)) E;obtain⟨n,s,u,z,A⟩:=wn c.1 r (λy a=>(j y (by simp at a|-;exact .inr a)).mono c.2.1 c.2.2) F;rw[cE];refine⟨c.trans n,s,by simp[u],?_,?_⟩
     .intro y a
      rcases yAv.1 a with rfl|a
      .exact g
      .exact z y a
     .intro q G v l
      cases q with
      |zero=>simp at l;obtain⟨rfl,rfl⟩:=l;exact⟨by omega,p,rfl,o.mono n.2.1⟩
      |succ q=>
       obtain⟨M,H,B,D⟩:=A q G v (by simpa using l);exact⟨by omega,H,by simpa using B,D⟩
    .cases e
   .cases e
  .cases e
theorem wO{c:Nat}:∀{vs:List (Nat×Value)}{k:Nat}{arr:Array Value},(∀(q:Nat) i v,vs[q]?=some (i,v)->i=k+q/\v.cells.size=c)->arr.size=(k+vs.length)*c->
 ∃d,Instr.fill (λi=>some (i*c,c)) arr vs=some d/\d.size=arr.size/\(∀q,q<k*c->d[q]?=arr[q]?)/\
  ∀(q:Nat) i v(j:Nat),vs[q]?=some (i,v)->j<c->d[(k+q)*c+j]?=v.cells[j]?
 |[],k,arr,_,o=>⟨arr,rfl,rfl,λ_ _=>rfl,λq i v j h=>by simp at h⟩
 |(i,v)::vs,k,arr,s,o=>by
  obtain⟨y,B⟩:=s 0 i v rfl
  obtain rfl:k=i:=by omega
  have z:k*c+c<=arr.size:=by rw[o];simp only[yBA];rw[yAM,yAM];omega
  have m:¬((v.cells.size≠c||k*c+v.cells.size>arr.size)=true):=by simp;omega
  simp only[Instr.fill,L4 m]
  have e:(v.cells.zipIdx.foldl (λcs(p:Value×Nat)=>cs.setIfInBounds (k*c+p.2) p.1) arr).toList=cS arr.toList (k*c) v.cells.toList:=by
   have:=ry (k*c) v.cells.toList 0 arr (by simp;omega);rw[<-Array.foldl_toList,Array.toList_zipIdx];simpa using this
  generalize E:v.cells.zipIdx.foldl (λcs(p:Value×Nat)=>cs.setIfInBounds (k*c+p.2) p.1) arr=A at e
  have g:A.size=arr.size:=by
   have:A.toList.length=arr.size:=by rw[e];simp[cS];omega
   simpa using this
  obtain⟨d,u,D,g3,x⟩:=wO (vs:=vs) (k:=k+1) (arr:=A) (λq i r hq=>by
   obtain⟨a,b⟩:=s (q+1) i r (by simpa using hq);exact⟨by omega,b⟩) (by rw[g,o];simp only[yBA];congr 1;omega)
  have f:∀q,q<k*c->A[q]?=arr[q]?:=by
   intro q hq;rw[<-Array.getElem?_toList,e];unfold cS;rw[yA8,ZX (by simp;omega),yAw,yAb hq];simp
  have l:∀j,j<c->A[k*c+j]?=v.cells[j]?:=by
   intro j n;rw[<-Array.getElem?_toList,e];unfold cS;rw[yA8,yAa (by simp;omega),ZX (by simp;omega)];simp only[yAN,yA7];rw[show k*c+j-min (k*c) arr.size=j from by omega];simp
  refine⟨d,u,by omega,λq hq=>?_,λq C r j hq n=>?_⟩
  .rw[g3 q (by rw[yAM];omega),f q hq]
  .cases q with
   |zero=>
    simp at hq;obtain⟨rfl,rfl⟩:=hq;rw[yBZ,g3 _ (by rw[yAM];omega),l j n]
   |succ q=>
    have:=x q C r j (by simpa using hq) n;rw[show k+(q+1)=k+1+q from by omega];exact this
end
section
variable {C:Cx} {L:Nat->Loc} {h1 h:Hp} {w:World}
theorem FM(c:∀cs b,o.op≠.select cs b)(k:∀x∈o.op.operands,RepA w M L h (ρ x) (σ x)){v:AV}
 (e:bf C.P o ρ=some (v,W)):∃u,(execOp σ o).run C.P w=.ok (.value u) w/\W=[]/\v=.pv (.val u):=by
 unfold bf at e;split at e
 .rename_i a
  split at e
  .rename_i u g
   injection e with e;injection e with e1 e2;subst e1;subst e2
   have d:execOp σ o=execOp (λx=>pB (ρ x)) o:=by
    refine execOp_congr o c (λx i=>?_);have h1:=IV.1 a x (by simpa using i);have f:=k x i;generalize ρ x=y at h1 f|-
    cases y with
    |pv p=>cases p with
     |val l=>cases f with
      |pv j=>rw[aX j];rfl
     |_=>simp[dV]at h1
    |_=>simp[dV]at h1
   grind [gU]
  .cases e
 .cases e
theorem Vx{args:List Operand}(e:args.map ρ=[x]):∃a,args=[a]/\ρ a=x:=by
 simp_all
theorem JD{args:List Operand}{y:AV}(e:args.map ρ=[x,y]):∃a b,args=[a,b]/\ρ a=x/\ρ b=y:=by
 cases args with
 |nil=>simp at e
 |cons a r=>cases r with
  |nil=>simp at e
  |cons b r=>cases r with
   |nil=>simp at e;exact⟨a,b,rfl,e.1,e.2⟩
   |cons=>simp at e
theorem ae{α β:Type}{P:Program}:∀(s:Sem α)(f:α->Sem β),aj P (s >>= f)=(aj P s).bind λa=>aj P (f a)
 |.pure a,f=>rfl
 |.program k,f=>by
  show aj P ((k P) >>= f)=_;rw[ae (k P) f];rfl
 |.load _ _ _,_=>rfl
 |.store _ _ _ _,_=>rfl
 |.new _ _,_=>rfl
 |.shape _ _,_=>rfl
 |.freeze _ _ _,_=>rfl
 |.frozen _ _,_=>rfl
 |.getObj _ _,_=>rfl
 |.setObj _ _ _,_=>rfl
 |.choose _ _,_=>rfl
 |.sys _ _,_=>rfl
 |.mark _ _,_=>rfl
 |.halt _,_=>rfl
theorem dl{α:Type}(a:α):aj P (pure a)=some a:=rfl
theorem dq(h1:(o.op.operands.toList.all λx=>(dV (ρ x)).isSome)=true)(a:aj P (execOp (λx=>pB (ρ x)) o)=some (.value v)):bf P o ρ=some (.pv (.val v),[]):=by
 grind [bf]
theorem bg(h:x=.pv (.val v)):dV x=some v/\pB x=v:=by subst h;exact⟨rfl,rfl⟩
theorem HK{y:AV}(e:tY op x y=some v)(P:Program)(t:TypeId)(f g:Operand):
 ∃a b,x=.pv (.val a)/\y=.pv (.val b)/\aj P (do eqGuard op t f g a b;binOp op t a b)=some v:=by
 unfold tY at e;split at e
 .rename_i k a i b
  refine⟨.int k a,.int i b,rfl,rfl,?_⟩
  have d:aj P (eqGuard op t f g (.int k a) (.int i b))=some ():=by unfold eqGuard;cases op<;>rfl
  rw[ae,d];simp only[yAg];cases op<;>simp only at e
  case shl=>
   split at e
   .rename_i h;injection e with e;subst e
    have:¬b<0:=by omega
    simp only[binOp,Op.shift,this,yAi];rfl
   .cases e
  case shr=>
   split at e
   .rename_i h;injection e with e;subst e
    have:¬b<0:=by omega
    simp only[binOp,Op.shift,this,yAi];rfl
   .cases e
  case quo=>
   split at e
   .rename_i h;injection e with e;subst e
    obtain⟨rfl,c⟩:=h;simp only[binOp,ne_eq,yBs,yAi,Op.intDiv,c];rfl
   .cases e
  case rem=>
   split at e
   .rename_i h;injection e with e;subst e
    obtain⟨rfl,c⟩:=h;simp only[binOp,ne_eq,yBs,yAi,Op.intDiv,c];rfl
   .cases e
  all_goals first
   |(split at e
     .rename_i h;injection e with e;subst e;subst h
      simp only[binOp,ne_eq,yBs,yAi];rfl
     .cases e)
   |cases e
 .rename_i a b
  refine⟨.string a,.string b,rfl,rfl,?_⟩
  have d:aj P (eqGuard op t f g (.string a) (.string b))=some ():=by unfold eqGuard;cases op<;>rfl
  rw[ae,d];simp only[yAg]
  cases op<;>simp only at e<;>first|(injection e with e;subst e;rfl)|cases e
 .cases e
theorem MW{x y:Operand}(c:o.op=.binOp op t x y t')(e:tY op (ρ x) (ρ y)=some v):bf P o ρ=some (.pv (.val v),[]):=by
 obtain⟨a,b,d,f,g⟩:=HK e P t x y;refine dq (by rw[c];simp[Op.operands,d,f,dV]) ?_;unfold execOp;rw[c];simp only[(bg d).2,(bg f).2];rw[ae,g];rfl
theorem Qa{op:UnOp}{x:Operand}(c:o.op=.unOp op t x)(e:Bk op (ρ x)=some v):bf P o ρ=some (.pv (.val v),[]):=by
 unfold Bk at e;split at e
 .rename_i b a
  injection e with e;subst e;refine dq (by rw[c];simp[Op.operands,a,dV]) ?_;unfold execOp;rw[c];simp only[(bg a).2];rfl
 .rename_i k n a
  injection e with e;subst e;refine dq (by rw[c];simp[Op.operands,a,dV]) ?_;unfold execOp;rw[c];simp only[(bg a).2];rfl
 .cases e
theorem wo{k:IntKind}(e:dy P t=some k):P.underlying t=some (.int k):=by
 grind [dy]
theorem dx{d:TypeDesc}(e:P.underlying t=some d):aj P (underlying t)=some d:=by
 unfold underlying;rw[ae];show aj P (match P.underlying t with|some d=>pure d|none=>stuck "no such type")=some d;rw[e];rfl
theorem KK{s d:TypeId}{x:Operand}(a:o.op=.convert s d x)(e:uX P s d (ρ x)=some v):bf P o ρ=some (.pv (.val v),[]):=by
 unfold uX at e;split at e
 .rename_i g k f n h1 c b
  injection e with e;subst e;refine dq (by rw[a];simp[Op.operands,b,dV]) ?_;unfold execOp;rw[a];simp only[(bg b).2];rw[ae]
  have:aj P (convert s d (.int f n))=some (.int k (k.wrap n)):=by
   unfold convert;rw[ae,dx (wo h1)];simp only[yAg];rw[ae,dx (wo c)];rfl
  rw[this];rfl
 .cases e
theorem MX{as:List Operand}(d:o.op=.call ⟨.builtin .min,⟨as⟩,⟨ts⟩⟩)(e:yH (as.map ρ)=some v):bf P o ρ=some (.pv (.val v),[]):=by
 unfold yH at e;split at e
 .rename_i k a i b c
  injection e with e;subst e;obtain⟨x,y,rfl,f,g⟩:=JD c;refine dq (by rw[d];simp[Op.operands,Call.operands,f,g,dV]) ?_;unfold execOp;rw[d];simp[resolve,invoke,builtin,Builtin.min_,(bg f).2,(bg g).2,Builtin.min2,ae,dl]
 .cases e
theorem MY{as:List Operand}(d:o.op=.call ⟨.builtin .max,⟨as⟩,⟨ts⟩⟩)(e:yI (as.map ρ)=some v):bf P o ρ=some (.pv (.val v),[]):=by
 unfold yI at e;split at e
 .rename_i k a i b c
  injection e with e;subst e;obtain⟨x,y,rfl,f,g⟩:=JD c;refine dq (by rw[d];simp[Op.operands,Call.operands,f,g,dV]) ?_;unfold execOp;rw[d];simp[resolve,invoke,builtin,Builtin.max_,(bg f).2,(bg g).2,Builtin.max2,ae,dl]
 .cases e
theorem lN{q:Option Value}{e:bF}(h:∀v,q=some v->bf P o ρ=some (.pv (.val v),[]))(a:nY P o ρ q=some e):bf P o ρ=some e:=by
 cases q with
 |none=>exact a
 |some v=>rw[h v rfl];exact a
theorem mZ{i:TypeInfo}(h:P.info? t=some i):aj P (typeInfo t)=some i:=by
 unfold typeInfo;rw[ae];show(some P).bind _=_;rw[yAg,h];rfl
theorem Qb{x i:Operand}(l:o.op=.index t x i)(e:Bl (gy P t) (ρ x) (ρ i)=some v):bf P o ρ=some (.pv (.val v),[]):=by
 unfold Bl at e;split at e
 .rename_i s k n B g hi
  have f:P.underlying t=some .string:=by
   grind [gy]
  split at e
  .rename_i p
   simp only[II]at e;obtain⟨b,z,rfl⟩:=e;refine dq (by rw[l];simp[Op.operands,g,hi,dV]) ?_;unfold execOp;rw[l];simp only[(bg g).2,(bg hi).2]
   have h1:aj P (Instr.index t (.string s) (.int k n))=some (.int .u8 b.toNat):=by
    unfold Instr.index;simp only[asIntOf,pure_bind];rw[ae,dx f,yAg];simp only[p,yAn,z];rfl
   rw[ae,h1];rfl
  .cases e
 .rename_i m cs k n B g hi
  split at e
  .rename_i p
   have f:∃c d,P.underlying t=some (.array m c)/\P.underlying c=some d/\(∀fs,d≠.struct fs)/\(∀a b,d≠.array a b)/\∃j,P.info? c=some j/\j.size=1:=by
    grind [gy,Option.isSome_iff_exists,oO]
   obtain⟨c,d,f,hd,C,y,j,A,r⟩:=f;refine dq (by rw[l];simp[Op.operands,g,hi,dV]) ?_;unfold execOp;rw[l];simp only[(bg g).2,(bg hi).2]
   have u:aj P (sizeOf c)=some 1:=by
    unfold sizeOf;rw[ae,mZ A,yAg,<-r];rfl
   have q:aj P (isAgg c)=some false:=by
    unfold isAgg;rw[ae,dx hd,yAg]
    cases d<;>first|rfl|exact absurd rfl (C _)|exact absurd rfl (y _ _)
   have h1:aj P (Instr.index t (.agg cs) (.int k n))=some v:=by
    unfold Instr.index;simp only[asIntOf,pure_bind];rw[ae,dx f,yAg];simp only[p,and_self,yAn];rw[ae,u,yAg,yBB];unfold part;rw[ae,q,yAg];simp only[ZY,yAi,e];rfl
   rw[ae,h1];rfl
  .cases e
 .cases e
def JE(C:Cx)(L:Nat->Loc)(h:Hp)(w:World)(o:Oper)(σ:Operand->Value)(v:AV)(W:List (Nat×Blk)):Prop:=
 ∃n u b a,(execOp σ o).run C.P w=.ok n b/\(n=.value u\/(n=.skip/\u=undef))/\aZ C L h w a (ah h W) b/\RepA b (ak C a (ah h W)) a (ah h W) v u
theorem dz(a:MemL C L h w){v:AV}(b:RepA w (ak C L h) L h v u)(e:(execOp σ o).run C.P w=.ok (.value u) w):JE C L h w o σ v []:=
 ⟨_,u,w,L,e,.inl rfl,aZ.refl a,b⟩
theorem iI(c:MemL C L h w)(a:∀cs b,o.op≠.select cs b)(d:∀x∈o.op.operands,RepA w (ak C L h) L h (ρ x) (σ x)){v:AV}
 (e:bf C.P o ρ=some (v,W)):JE C L h w o σ v W:=by
 obtain⟨u,h1,rfl,rfl⟩:=FM a d e;exact dz c (.pv (.val u)) h1
theorem Bt(P:Program)(t:TypeId)(v:Value):(newVar t v).run P w=.ok ⟨w.heap.size,0,none⟩ (w.alloc (.cells v.cells t)):=rfl
theorem H9(c:MemL C L h w):∀k e d xs a,h k=some (.row e d xs a)->(L k).isNil=true->xs=[]:=λk _ _ _ _ b hn=>(c.bl k _ b).2.2.2.1 hn
theorem sA(a:List Operand)(c:∀x∈a,RepA w M L h (ρ x) (σ x)):aB w M L h (a.map ρ) (a.map σ):=by
 refine⟨by simp,λi p u hp b=>?_⟩
 grind
theorem HL{q:Option Bool}(h:Bn op q=some b):∃a,q=some a/\((op=.eql/\b=a)\/(op=.neq/\b=!a)):=by
 unfold Bn at h
 grind
theorem FO(a:nX x=true)(c:RepA w M L h x u):u=.slice none 0 0:=by
 unfold nX at a;split at a
 .cases c with
  |pv b=>rw[aX b,lK a]
 .cases a
theorem wP(h:ng P t=true):∃e,P.underlying t=some (.slice e):=by
 unfold ng at h;split at h
 .rename_i s z e b c d a
  exact⟨e,(dK a rfl).1⟩
 .cases h
theorem C4(q:MemL C L h w)(hs:∀k b,h1 k=some b->h k=some b)(j:RepA w (ak C L h) L h x u)(e:uZ h1 x=some b):∃a n c,u=.slice a n c/\a.isNone=b:=by
 unfold uZ at e;split at e
 .rename_i v
  split at e
  .rename_i hn
   injection e with e;subst e
   cases j with
   |pv g=>exact⟨none,0,0,by rw[aX g,lK hn],rfl⟩
  .cases e
 .rename_i xs
  split at e
  .cases e
  .rename_i i
   injection e with e;subst e
   cases j with
   |pv g=>
    cases g with
    |sl0 a c=>simp at i
    |sl xs b o c s u l hs f g=>exact⟨_,_,_,rfl,rfl⟩
 .rename_i k n
  split at e
  .rename_i e0 s xs y m
   split at e
   .rename_i f
    injection e with e;subst e
    cases j with
    |arr d r z=>
     rw[hs _ _ m]at d;injection d with d;injection d with a1 a2 a3 a4;subst a3
     have p:(L k).isNil=false:=by
      cases hq:(L k).isNil with
      |false=>rfl
      |true=>exact absurd (by rw[(q.bl k _ (hs _ _ m)).2.2.2.1 hq]at f;exact f.1.symm) f.2
     grind [Loc.slice]
   .cases e
  .cases e
 .cases e
theorem HM(d:Nat){e:TypeId}(a:Option Addr)(n c:Nat)(h:P.underlying t=some (.slice e)):aj P (Op.equalIn (d+1) t (.slice a n c) (.slice none 0 0))=some a.isNone:=by
 unfold Op.equalIn;rw[ae]
 have:aj P (underlying t)=some (.slice e):=by unfold underlying;rw[ae];show(some P).bind _=_;rw[yAg,h];rfl
 rw[this,yAg];cases a<;>rfl
theorem Ia{dst:Option Nat}{x y:Operand}{ty:TypeId}{pos:String}{aft:Array Edge}{g:Option (Nat×Bool)}(j:∃e,P.underlying t=some (.slice e))
 {a:Option Addr}{n c:Nat}(k:σ x=.slice a n c)(l:σ y=.slice none 0 0){b:Bool}(f:(op=.eql/\b=a.isNone)\/(op=.neq/\b=!a.isNone)):
 aj P (execOp σ ⟨dst,.binOp op t x y t',ty,pos,aft,g⟩)=some (.value (.bool b)):=by
 obtain⟨e,i⟩:=j;unfold execOp;simp only[k,l];have hq:aj P (Op.equal t (.slice a n c) (.slice none 0 0))=some a.isNone:=HM _ a n c i;rcases f with⟨rfl,rfl⟩|⟨rfl,rfl⟩
 .have h1:aj P (eqGuard .eql t x y (.slice a n c) (.slice none 0 0))=some ():=rfl
  have d:aj P (binOp .eql t (.slice a n c) (.slice none 0 0))=some (.bool a.isNone):=by simp only[binOp,ae,hq,yAg];rfl
  simp only[ae,h1,d,yAg];rfl
 .have h1:aj P (eqGuard .neq t x y (.slice a n c) (.slice none 0 0))=some ():=rfl
  have d:aj P (binOp .neq t (.slice a n c) (.slice none 0 0))=some (.bool !a.isNone):=by simp only[binOp,ae,hq,yAg];rfl
  simp only[ae,h1,d,yAg];rfl
theorem HN(cs:Array Value)(off sz:Nat):Value.agg (cs.extract off (off+sz))=Ar cs off sz:=by
 unfold Ar
 congr 1
 grind
theorem rz{j:TypeInfo}(c:nZ P t=some true)(d:P.info? t=some j)(cs:Array Value)(off:Nat):aj P (part t cs off)=some (Ar cs off j.size):=by
 have a:aj P (isAgg t)=some true:=by
  unfold nZ at c;unfold isAgg;rw[ae];split at c
  .rename_i h;rw[dx h];rfl
  .rename_i h;rw[dx h];rfl
  all_goals grind
 have b:aj P (sizeOf t)=some j.size:=by
  unfold sizeOf;rw[ae,mZ d,yAg];rfl
 unfold part;rw[ae,a,yAg];show aj P (do pure (Value.agg (cs.extract off (off+(<-sizeOf t)))))=_;rw[ae,b,yAg,<-HN];rfl
theorem rA(a:nZ P t=some false){off:Nat}(e:cs[off]?=some v):aj P (part t cs off)=some v:=by
 have b:aj P (isAgg t)=some false:=by
  unfold nZ at a;unfold isAgg;rw[ae];split at a
  .cases a
  .cases a
  .rename_i d c hn h
   rw[dx h,yAg]
   cases d<;>first|rfl|exact(c _ rfl).elim|exact(hn _ _ rfl).elim
  .cases a
 unfold part;rw[ae,b,yAg];simp only[ZY,yAi,e];rfl
theorem Qc{x i:Operand}(b:o.op=.index t x i)(e:Bm (uY P t) (ρ x) (ρ i)=some v):bf P o ρ=some (.pv (.val v),[]):=by
 unfold Bm at e;split at e
 .rename_i n s cs k d a c hi
  split at e
  .rename_i p
   injection e with e;subst e;unfold uY at a;split at a
   .rename_i m f r
    split at a
    .rename_i j q g
     injection a with a;injection a with hk1 hk2;subst hk1;subst hk2;refine dq (by rw[b];simp[Op.operands,c,hi,dV]) ?_;unfold execOp;rw[b];simp only[(bg c).2,(bg hi).2]
     have l:aj P (sizeOf f)=some j.size:=by
      unfold sizeOf;rw[ae,mZ g,yAg];rfl
     have h1:aj P (Instr.index t (.agg cs) (.int k d))=some (Ar cs (d.toNat*j.size) j.size):=by
      unfold Instr.index;simp only[asIntOf,pure_bind]
      grind [ae,dx,rz]
     rw[ae,h1];rfl
    .cases a
   .cases a
  .cases e
 .cases e
theorem MZ{x:Operand}{f:Nat}(i:o.op=.field t x f)(e:yJ (tZ P t f) (ρ x)=some v):bf P o ρ=some (.pv (.val v),[]):=by
 have key:∀{b c g cs},tZ P t f=some (b,c,g)->ρ x=.pv (.val (.agg cs))->∀v,(∀t',nZ P t'=some b->(∃j,P.info? t'=some j/\j.size=g)->aj P (part t' cs c)=some v)->bf P o ρ=some (.pv (.val v),[]):=by
  intro b c g cs a k v hp;unfold tZ at a;split at a
  .rename_i fs l
   split at a
   .rename_i n d
    split at a
    .rename_i m j p q
     injection a with a;injection a with hk1 a;injection a with hk2 hk3;subst hk1;subst hk2;subst hk3;refine dq (by rw[i];simp[Op.operands,k,dV]) ?_;unfold execOp;rw[i];simp only[(bg k).2]
     have h1:aj P (Instr.field t (.agg cs) f)=some v:=by
      unfold Instr.field;rw[ae,dx l,yAg];simp only[d,asAgg,pure_bind]
      grind
     rw[ae,h1];rfl
    .cases a
   .cases a
  .cases a
 unfold yJ at e
 grind [rz,rA]
theorem FP{x y:Option Value}(e:yL x y=some v):x=some v\/y=some v:=by
 unfold yL at e
 grind
theorem KL{w:World}{L:Nat->Loc}{h:Hp}(f:Fn){vs:List Value}(h1:aB w M L h first us)(a:aB w M L h caps vs):RepA w M L h (E9 f first caps) (.func f us.toArray vs.toArray):=by
 unfold E9;split
 .rename_i x r
  have g:=a.nil_inv;subst g;split
  .rename_i i c
   have e:=pK c;rw[e]at h1;have b:=h1.map_pv_inv;split
   .rename_i j d
    rw[uQ d b];exact .pv (.val _)
   .exact .pv (.fn f i [] us [] b.1 rfl b.2 bR.nil.2)
  .exact .fn f _ _ us [] h1.1 rfl h1.2 aB.nil.2
 .exact .fn f first caps us vs h1.1 a.1 h1.2 a.2
theorem zK(h:t6 P t=true):∃d,P.underlying t=some d/\∀m,d≠.interface m:=by
 grind [t6]
end
theorem D6{a:TypeId}(e:Fy P t=some (kd,n,a)):∃kt e0 j,P.underlying t=some (.map kt a)/\P.underlying kt=some (.array n e0)/\P.underlying e0=some (.int kd)/\P.info? e0=some j/\j.size=1:=by
 unfold Fy at e;split at e
 .rename_i kt b h1
  split at e
  .rename_i k e0 c
   split at e
   .rename_i i j d f
    split at e
    .rename_i g
     injection e with e;injection e with e1 e;injection e with e2 e3;subst e1;subst e2;subst e3;exact⟨kt,e0,j,h1,c,d,f,g⟩
    .cases e
   .cases e
  .cases e
 .cases e
theorem zL{b:IntKind}:∀{vs:List Value}{a:List Int},rq b vs=some a->vs=a.map (Value.int b)
 |[],a,e=>by simp[rq]at e;subst e;rfl
 |v::r,a,e=>by
  cases v with
  |int k i=>
   simp only[rq]at e;split at e
   .rename_i c
    simp only[II]at e;obtain⟨d,h,rfl⟩:=e;rw[zL h,c];rfl
   .cases e
  |_=>simp[rq]at e
theorem Bu(c:RepA w M L h x u)(e:wG kd n x=some is):u=lE kd is/\is.length=n:=by
 unfold wG at e;split at e
 .rename_i cs
  split at e
  .rename_i d hi
   split at e
   .rename_i a
    injection e with e;subst e
    cases c with
    |pv b=>
     rw[aX b];refine⟨?_,a⟩;unfold lE;rw[<-zL hi]
   .cases e
  .cases e
 .cases e
section
variable {P:Program} {kt e0:TypeId} {kd:IntKind} {n:Nat} {j:TypeInfo}
theorem JF(a:P.underlying e0=some (.int kd)):nZ P e0=some false:=by simp[nZ,a]
theorem C5(a:P.underlying e0=some (.int kd)){x:Int}(hi:is[i]?=some x):aj P (part e0 (is.map (Value.int kd)).toArray i)=some (.int kd x):=
 rA (JF a) (by simp[hi])
theorem Qd(d:Nat)(a b:Int)(h:P.underlying e0=some (.int kd)):aj P (Op.equalIn (d+1) e0 (.int kd a) (.int kd b))=some (a==b):=by
 simp only[Op.equalIn,ae,dx h,yAg];rw[yAb trivial];rfl
theorem Qe(a:P.info? e0=some j):aj P (sizeOf e0)=some j.size:=by
 unfold sizeOf;rw[ae,mZ a];rfl
theorem FQ(g:P.underlying kt=some (.array n e0))(c:P.underlying e0=some (.int kd))(e:P.info? e0=some j)(h1:j.size=1)(f:is.length=n)(b:Bool)(d:Nat):
 aj P (Instr.checkKey b (d+2) kt (lE kd is))=some ():=by
 have one:∀x,aj P (Instr.checkKey b (d+1) e0 (.int kd x))=some ():=by
  intro x;simp only[Instr.checkKey,ae,dx c,yAg];rfl
 rw[show d+2=(d+1)+1 from rfl,Instr.checkKey];simp only[lE,ae,dx g,yAg];simp only[Std.Legacy.Range.forIn_eq_forIn_range',Std.Legacy.Range.size,Nat.sub_zero,Nat.add_one_sub_one,Nat.div_one]
 have key:∀l:List Nat,(∀i∈l,i<n)->aj P (forIn l PUnit.unit λi _=>do
  let __do_lift <-sizeOf e0
  let __do_lift <-part e0 (is.map (Value.int kd)).toArray (i*__do_lift)
  Instr.checkKey b (d+1) e0 __do_lift
  pure (ForInStep.yield PUnit.unit))=some PUnit.unit:=by
  intro l
  induction l with
  |nil=>intro _;rfl
  |cons i l ih=>
   intro a
   have hi:i<is.length:=by rw[f];exact a i (by simp)
   simp only[List.forIn_cons,ae,Qe e,yAg,h1,yBB,C5 c (an hi),one,dl];exact ih λi hi=>a i (by simp[hi])
 rw[key (List.range' 0 n) (λi hi=>by simpa using hi)];rfl
end
def m7:List (List Int×Value)->List Int->Nat->Option (Nat×Value)
 |[],_,_=>none
 |(k,v)::r,is,i=>if k=is then some (i,v)else m7 r is (i+1)
theorem D7:∀(xs:List (List Int×Value))(a:List Int)(i:Nat),(m7 xs a i).map (·.2)=Jr xs a
 |[],_,_=>rfl
 |(k,v)::r,a,i=>by
  simp only[m7,Jr];split
  .rfl
  .exact D7 r a (i+1)
theorem D8:∀{xs:List (List Int×Value)}{a:List Int}{i:Nat}(u:Value),m7 xs a i=none->uR xs a u=xs++[(a,u)]
 |[],_,_,_,_=>rfl
 |(k,v)::r,a,i,u,h=>by
  simp only[m7]at h;split at h
  .cases h
  .rename_i b
   simp only[uR,L4 b,D8 u h,List.cons_append]
theorem D9:∀{xs:List (List Int×Value)}{a:List Int}{i j:Nat}{v:Value}(u:Value),m7 xs a i=some (j,v)->∃q,j=i+q/\q<xs.length/\(∃x,xs[q]?=some x/\x.1=a)/\uR xs a u=xs.set q (a,u)
 |[],_,_,_,_,_,h=>by cases h
 |(k,v)::r,a,i,j,l,u,h=>by
  simp only[m7]at h;split at h
  .rename_i d
   injection h with h;injection h with h1 c;exact⟨0,by omega,by simp,⟨(k,v),rfl,d⟩,by simp only[uR,yAb d,List.set_cons_zero]⟩
  .rename_i b
   obtain⟨q,h1,c,⟨x,e,f⟩,g⟩:=D9 u h;exact⟨q+1,by omega,by simpa using c,⟨x,by simpa using e,f⟩,by simp only[uR,L4 b,g,List.set_cons_succ]⟩
section
variable {P:Program} {kt e0:TypeId} {kd:IntKind} {n:Nat} {j:TypeInfo} {w:World}
theorem wQ(c:P.underlying e0=some (.int kd))(d:Nat){as a:List Int}(f:as.length=a.length):∀l:List Nat,(∀i∈l,i<as.length)->
 (Op.eqItems (d+1) e0 1 (as.map (Value.int kd)).toArray (a.map (Value.int kd)).toArray l).run P w=.ok (l.all λi=>as[i]?==a[i]?) w
 |[],_=>by simp[Op.eqItems]
 |i::l,g=>by
  have hi:i<as.length:=g i (by simp)
  have b:i<a.length:=by omega
  have h1:=gU (C5 c (an hi)) w;have j:=gU (C5 c (an b)) w;have k:=gU (Qd d as[i] a[i] c) w;simp only[Op.eqItems,yBB,Sem.run_bind,h1,j,k,Result.andThen_ok,List.all_cons,an hi,an b];have ih:=wQ c d f l (λi hi=>g i (by simp[hi]))
  have e:(some as[i]==some a[i])=(as[i]==a[i]):=by simp
  rw[e]
  cases as[i]==a[i]with
  |true=>simpa using ih
  |false=>simp
theorem KM(f:P.underlying kt=some (.array n e0))(e:P.underlying e0=some (.int kd))(b:P.info? e0=some j)(h1:j.size=1){as a:List Int}(c:as.length=n)(g:a.length=n):
 (Op.equal kt (lE kd as) (lE kd a)).run P w=.ok (decide (as=a)) w:=by
 have d:P.cellsOf e0=1:=by simp[Program.cellsOf,b,h1]
 have hd:Op.maxDepth=9998+1+1:=rfl;unfold Op.equal lE;rw[hd,run_equalIn_array _ _ _ _ f b,d,wQ e _ (by omega) _ (λi hi=>by rw[c];simpa using hi)]
 congr 1
 rw[Bool.eq_iff_iff,IV,Is];constructor
 .intro h
  apply yAK;intro i;by_cases hi:i<n
  .simpa using h i (by simpa using hi)
  .rw[yAf (by omega),yAf (by omega)]
 .rintro rfl i _;simp
theorem ua(m:P.underlying kt=some (.array n e0))(f:P.underlying e0=some (.int kd))(g:P.info? e0=some j)(h1:j.size=1){c:List Int}(l:c.length=n):
 ∀(a:List MapEntry)(xs:List (List Int×Value))(i:Nat),a.map (λe=>(e.key,e.val))=xs.map (λx=>(lE kd x.1,x.2))->(∀x∈xs,x.1.length=n)->(Instr.findAsking kt (lE kd c) a i).run P w=.ok (m7 xs c i) w
 |[],[],_,_,_=>rfl
 |[],x::xs,_,h,_=>by cases h
 |e::a,[],_,h,_=>by cases h
 |e::a,(k,v)::xs,i,h,o=>by
  simp only[yBa,List.cons.injEq,yAj]at h;obtain⟨⟨p,q⟩,r⟩:=h;have s:=o (k,v) (by simp);have ih:=ua m f g h1 l a xs (i+1) r (λx d=>o x (by simp[d]));simp only[Instr.findAsking,Sem.run_bind,p,KM m f g h1 l s,Result.andThen_ok,m7];by_cases b:c=k
  .rw[yAb (by simpa using b),yAb b.symm,q];rfl
  .rw[L4 (by simpa using b),L4 (λh=>b h.symm)];exact ih
theorem wR(c:P.underlying kt=some (.array n e0))(d:P.underlying e0=some (.int kd))(f:P.info? e0=some j)(h1:j.size=1)(g:is.length=n)
 {a:List MapEntry}{xs:List (List Int×Value)}(b:a.map (λe=>(e.key,e.val))=xs.map (λx=>(lE kd x.1,x.2)))(i:∀x∈xs,x.1.length=n):(Instr.findKey kt (lE kd is) a).run P w=.ok (m7 xs is 0) w:=by
 have hf:=ua (w:=w) c d f h1 g a xs 0 b i;simp only[Instr.findKey,Sem.run_bind,cH c,Result.andThen_ok]
 cases a with
 |nil=>
  cases xs with
  |nil=>rfl
  |cons=>cases b
 |cons e a=>
  have:Instr.findNow (.array n e0) (lE kd is) (e::a) 0=none:=by simp[Instr.findNow,Instr.sameNow,lE]
  rw[this];exact hf
theorem FR(d:IntKind)(e:List Int):Instr.sameBits 10000 (lE d e) (lE d e)=true:=by
 have one:∀m x,Instr.sameBits m (.int d x) (.int d x)=true:=by intro m x;cases m<;>simp[Instr.sameBits]
 show Instr.sameBits (9999+1) (.agg _) (.agg _)=true;simp only[Instr.sameBits,beq_self_eq_true,yAs,IV];rintro⟨a,b⟩ c;rw[List.zip_eq_zipWith]at c;simp only[List.zipWith_self,yAt]at c;obtain⟨x,f,h⟩:=c;injection h with h2 h3;subst h2;subst h3;obtain⟨y,_,rfl⟩:=(by simpa using f:∃a,a∈e/\Value.int d a=x);exact one _ y
end
section
variable {C:Cx} {L:Nat->Loc} {h1 h:Hp} {w:World}
theorem HO(m:MemL C L h w)(hs:∀k b,h1 k=some b->h k=some b)(f:RepA w (ak C L h) L h x u){d:List (List Int×Value)}(e:E8 h1 x=some (kd,n,d)):
 ∃b arr clock,u=.map (some b)/\w.heap[b]?=some (.map arr clock)/\E6 kd n d arr:=by
 unfold E8 at e;split at e
 .split at e
  .rename_i l
   injection e with e;injection e with e1 e;injection e with e2 e3;subst e1;subst e2;subst e3;obtain⟨arr,clock,g,i⟩:=m.bl _ _ (hs _ _ l)
   cases f with
   |ext c=>cases c with
    |mp _=>exact⟨_,arr,clock,rfl,g,i⟩
  .cases e
 .injection e with e;injection e with e1 e;injection e with e2 e3
  subst e1;subst e2;subst e3
  cases f with
  |pv o=>cases o with
   |mp _ _ _ b arr clock j _ a=>exact⟨b,arr,clock,rfl,j,a⟩
 .cases e
theorem C6(K:MemL C L h w)(hs:∀k b,h1 k=some b->h k=some b){i v:AV}{D B:Value}(M:RepA w (ak C L h) L h x D)(hi:RepA w (ak C L h) L h i B){ok:Bool}(e:uV C.P t x i ok h1=some v):
 ∃r,(Instr.lookup t D B ok).run C.P w=.ok r w/\RepA w (ak C L h) L h v r:=by
 unfold uV at e;split at e
 .rename_i kd n E N S y G F
  split at e
  .rename_i I
   obtain⟨rfl,rfl⟩:=I;split at e
   .rename_i is J
    obtain⟨kt,e0,j,t1,t2,t3,t4,t5⟩:=D6 G;obtain⟨b,arr,clock,rfl,H,d⟩:=HO K hs M F;obtain⟨rfl,A⟩:=Bu hi J;have O:=gU (FQ t2 t3 t4 t5 A arr.isEmpty 9998) w;have Q:=wR (w:=w) t2 t3 t4 t5 A d.1 d.2;have g:=D7 y is 0;have o:(getObj b).run C.P w=.ok (.map arr clock) w:=MapKept.run_getObj_map H;simp only[Instr.lookup,Sem.run_bind,cH t1,Result.andThen_ok,o,Sem.run_pure,O,Q]
    cases hf:m7 y is 0 with
    |some q=>
     rw[hf]at g;rw[<-g]at e;obtain⟨T,m⟩:=q;simp only[yAQ,yF,Z9]at e;subst e
     cases ok with
     |true=>exact⟨.tuple #[m,.bool true],by simp,.pv (.tup [.val m,.val (.bool true)] [m,.bool true] rfl (λa p u hp c=>by
       match a,hp,c with
       |0,hp,c=>simp at hp c;subst hp;subst c;exact .val _
       |1,hp,c=>simp at hp c;subst hp;subst c;exact .val _))⟩
     |false=>exact⟨m,by simp,.pv (.val _)⟩
    |none=>
     rw[hf]at g;rw[<-g]at e;simp only[Option.map_none,yF]at e;split at e
     .rename_i z l
      simp only[Po,Option.bind_eq_some_iff]at l;obtain⟨R,s,l⟩:=l
      have f:(zeroValue E).run C.P w=.ok z w:=by simp[zeroValue,lM s,l]
      injection e with e;subst e
      cases ok with
      |true=>exact⟨.tuple #[z,.bool false],by simp[f],.pv (.tup [.val z,.val (.bool false)] [z,.bool false] rfl (λa p u hp c=>by
        match a,hp,c with
        |0,hp,c=>simp at hp c;subst hp;subst c;exact .val _
        |1,hp,c=>simp at hp c;subst hp;subst c;exact .val _))⟩
      |false=>exact⟨z,by simp[f],.pv (.val _)⟩
     .cases e
   .cases e
  .cases e
 .cases e
theorem Bv(l:MemL C L h w){d:Option Nat}(a:∀q,d=some q->h1 q=h q/\q<2000000){v:AV}(e:sy C.P t d h1=some (v,W)):
 ∃r g c,(Instr.makeMap t none).run C.P w=.ok r g/\aZ C L h w c (ah h W) g/\RepA g (ak C c (ah h W)) c (ah h W) v r:=by
 unfold sy at e;split at e
 .rename_i kd n o q p
  split at e
  .rename_i hd
   injection e with e;injection e with e1 e2;subst e1;subst e2
   have f:h q=none:=by rw[<-(a q rfl).1];simpa using hd
   have m:Ext (λ_=>False) w (w.alloc (.map #[] 0)):=Ext.alloc _ w _;refine⟨.map (some w.heap.size),w.alloc (.map #[] 0),aH L q ⟨w.heap.size,0,false⟩,rfl,l.newKey f (a q rfl).2 m (λ_=>yAd _) (by intro j k e;cases e) ⟨#[],0,jH w _,rfl,by simp⟩,?_⟩;have i:RepX (aH L q ⟨w.heap.size,0,false⟩) (aH h q (some (.mp kd n [] false))) (.mp q) (.map (some (aH L q ⟨w.heap.size,0,false⟩ q).b)):=.mp (aE _ _ _);rw[aE]at i;exact .ext i
  .cases e
 .cases e
theorem C7(J:MemL C L h w)(hs:∀k b,h1 k=some b->h k=some b){i v:AV}{U T A:Value}(hx:RepA w (ak C L h) L h x U)(hi:RepA w (ak C L h) L h i T)(hv:RepA w (ak C L h) L h v A)
 {W:List (Nat×Blk)}(e:uW C.P t x i v h1=some W):∃V,(Instr.mapUpdate t U T A).run C.P w=.ok () V/\aZ C L h w L (ah h W) V:=by
 unfold uW at e;split at e
 .rename_i kd n et k val hT
  split at e
  .rename_i u S E is hk D
   split at e
   .rename_i hc
    obtain⟨rfl,rfl⟩:=hc;injection e with e;subst e;obtain⟨kt,e0,j,t1,t2,t3,t4,t5⟩:=D6 hT;have r:=hs _ _ hk;obtain⟨arr,clock,F,g⟩:=J.bl k _ r;obtain⟨rfl,G⟩:=Bu hi D
    have N:A=val:=by cases hv with|pv hr=>exact aX hr
    subst N
    cases hx with
    |ext O=>cases O with
     |mp _=>
      have r1:=gU (FQ t2 t3 t4 t5 G false 9998) w;have r2:=wR (w:=w) t2 t3 t4 t5 G g.1 g.2;have I:(getObj (L k).b).run C.P w=.ok (.map arr clock) w:=MapKept.run_getObj_map F
      have fin:∀(f:Array MapEntry)(c:Nat),E6 u S (uR E is A) f->aZ C L h w L (ah h [(k,.mp u S (uR E is A) false)]) {w with heap:=w.heap.setIfInBounds (L k).b (.map f c)}:=by
       intro f c B;obtain⟨s1,s2⟩:=MapKept.heap_set (o':=.map f c) F;exact J.touch r (λb _ K=>s2 b (K trivial)) (by simp) rfl rfl rfl (λo v _ hf _=>by simp[Blk.frz]at hf) (λo hf=>by simp[Blk.frz]at hf) ⟨rfl,rfl,rfl⟩ yBi (by have:=J.own k _ r;exact this) ⟨f,c,s1,B⟩ (by intro _ _ _ h;cases h)
      simp only[Instr.mapUpdate,Sem.run_bind,cH t1,Result.andThen_ok,I,r1,r2]
      cases hf:m7 E is 0 with
      |none=>
       refine⟨_,MapKept.run_setObj_map _ F,fin _ _ ?_⟩;rw[D8 A hf];refine⟨by simp[g.1],λy m=>?_⟩;rcases yAk.1 m with m|m
       .exact g.2 y m
       .simp at m;subst m;exact G
      |some q=>
       obtain⟨z,q2⟩:=q;obtain⟨p,h3,X,⟨y,Y,Z⟩,h7⟩:=D9 A hf
       have hp:z=p:=by omega
       subst hp
       have R:arr.size=E.length:=by have:=yBt List.length g.1;simpa using this
       have M:z<arr.size:=by omega
       have d:arr[z]?=some arr[z]:=by simp[M]
       have s:arr[z].key=lE u is:=by
        have:=yBt (λl=>l[z]?) g.1;simp only[ZW,Array.getElem?_toList,d,Y,yAQ,Z9,yAj]at this;rw[this.1,Z]
       simp only[d,yAQ,yAl,s,Instr.keyThatStays,FR,yAn,Sem.run_pure,Result.andThen_ok];refine⟨_,MapKept.run_setObj_map _ F,fin _ _ ?_⟩;rw[h7];refine⟨?_,λy m=>?_⟩
       .apply yAK
        intro a;have Q:=yBt (λl=>l[a]?) g.1;simp only[ZW,Array.getElem?_toList]at Q|-;rw[Array.getElem?_modify,yAe];by_cases H:z=a
        .subst H
         simp[d,X]
        .rw[L4 H,L4 H];exact Q
       .rcases yAR m with m|m
        .exact g.2 y m
        .subst m;exact G
   .cases e
  .cases e
 .cases e
theorem JG(G:MemL C L h w)(hs:∀k b,h1 k=some b->h k=some b)(g:∀d,o.dst=some d->h1 d=h d/\d<2000000)
 (F:∀x∈o.op.operands,RepA w (ak C L h) L h (ρ x) (σ x)){hn:List Nat}{v:AV}{W:List (Nat×Blk)}(e:dI C.P hn o ρ h1=some (v,W)):JE C L h w o σ v W:=by
 obtain⟨b5,op,type,pos,after,guard⟩:=o;simp only at g
 cases op with
 |move x=>
  simp only[dI,Z9,yAj]at e;obtain⟨rfl,rfl⟩:=e;exact dz G (F x (by simp[Op.operands])) rfl
 |assign x=>
  have H:=F x (by simp[Op.operands]);simp only[dI]at e
  have Z:some (ρ x,[])=some (v,W)->JE C L h w ⟨b5,.assign x,type,pos,after,guard⟩ σ v W:=by
   intro e;simp only[Z9,yAj]at e;obtain⟨rfl,rfl⟩:=e;exact dz G H rfl
  split at e
  .rename_i d
   split at e
   .rename_i hc
    simp only[An]at hc;split at e
    .rename_i sz zr et bs eb ez A
     split at e
     .rename_i hd
      injection e with e;injection e with B O;subst B;subst O
      have Q:h d=none:=by rw[<-(g d rfl).1];simpa using hd.1
      have ck:σ x=.slice none 0 0:=by
       have h2:=hc.2;generalize ρ x=y at h2 H;unfold nX at h2;split at h2
       .cases H with
        |pv V=>rw[aX V,lK h2]
       .cases h2
      have J:=kY (e:=et) (sz:=bs) (xs:=[]) (l:=⟨0,0,true⟩) G (Ext.refl _ w) Q (g d rfl).2 (λh=>by cases h)
       ⟨hd.2,yAT _,by simp,λ_=>rfl,(λh=>by cases h)⟩
      exact⟨.value (.slice none 0 0),.slice none 0 0,w,_,by simp[execOp,ck],.inl rfl,J.1,J.2⟩
     .cases e
    .cases e
   .exact Z e
  .exact Z e
 |pick c a b=>
  simp only[dI]at e;split at e
  .rename_i t ht
   injection e with e;injection e with B O;subst B;subst O;have hc:=F c (by simp[Op.operands]);rw[ht]at hc
   have cq:σ c=.bool t:=by cases hc with|pv V=>exact aX V
   refine dz G (u:=if t then σ a else σ b) ?_ (by simp[execOp,cq,asBool])
   cases t with
   |true=>exact F a (by simp[Op.operands])
   |false=>exact F b (by simp[Op.operands])
  .cases e
 |alloc elem=>
  simp only[dI]at e;split at e
  .rename_i sz z kd d A
   split at e
   .rename_i hd
    injection e with e;injection e with B O;subst B;subst O
    have Q:h d=none:=by rw[<-(g d rfl).1];simpa using hd
    obtain⟨i,dd,hi,_,_,hz,_⟩:=gZ A
    have cD:aB w (ak C L h) L h (z.cells.toList.map λv=>AV.pv (.val v)) z.cells.toList:=by
     refine⟨by simp,λq p u hp hu=>?_⟩;simp only[ZW,II]at hp;obtain⟨y,hy,rfl⟩:=hp;rw[hy]at hu;injection hu with hu;subst hu;exact .pv (.val _)
    have hb:=CX (us:=z.cells) G Q (g d rfl).2 cD elem;refine⟨.value (.pointer (some ⟨w.heap.size,0,none⟩)),_,_,_,?_,.inl rfl,hb.1,hb.2⟩;simp only at hz;simp[execOp,Instr.alloc,zeroValue,lM hi,<-hz,Bt]
   .cases e
  .cases e
 |box elem x=>
  simp only[dI]at e;split at e
  .rename_i cs d cp
   split at e
   .rename_i hd
    injection e with e;injection e with B O;subst B;subst O
    have Q:h d=none:=by rw[<-(g d rfl).1];simpa using hd
    have V:=qg hs (F x (by simp[Op.operands])) cp;have hb:=CX (us:=(σ x).cells) G Q (g d rfl).2 V elem;refine⟨.value (.pointer (some ⟨w.heap.size,0,none⟩)),_,_,_,?_,.inl rfl,hb.1,hb.2⟩;simp[execOp,Instr.box,Bt]
   .cases e
  .cases e
 |build t ps=>
  simp only[dI]at e;split at e
  .rename_i ti qs A cx
   simp only[II,yAj]at e;obtain⟨v',B,rfl,rfl⟩:=e;have hp:=wk (σ:=σ) hs (λx H=>F x (by simpa[Op.operands]using H)) cx;obtain⟨r,D,E⟩:=E2 A hp B;refine dz G E ?_
   have:(ps.map λ(i,x)=>(i,σ x))=(ps.toList.map λ(i,x)=>(i,σ x)).toArray:=by
    apply Array.ext';simp
   simp only[execOp,Sem.run_bind,this,D,Result.andThen_ok,Sem.run_pure]
  .cases e
 |buildSlice t len ps=>
  simp only[dI]at e;split at e
  .rename_i cM I
   injection e with e;subst e;unfold As at I;split at I
   .rename_i d cw
    split at I
    .split at I
     .rename_i s0 z0 et bs eb z1 A
      split at I
      .rename_i hc
       injection I with I;injection I with B O;subst B;subst O;obtain⟨ad,jt,hj,cf,_,cg⟩:=dK A rfl
       have Q:h d=none:=by rw[<-(g d rfl).1];simpa using hc.1
       have J:=kY (e:=et) (sz:=bs) (xs:=[]) (l:=⟨w.heap.size,0,false⟩) G (Ext.alloc (λ_=>False) w (.cells #[] et)) Q (g d rfl).2 (λ_=>yAd _)
        ⟨hc.2,yAT _,by simp,λ_=>rfl,λ_=>⟨yAd _,yAT _,#[],jH w _,by simp,λi x j p H=>by simp at H⟩⟩
       have cm:ps=#[]:=by apply Array.ext';simpa using cw
       subst cm;refine⟨.value (.slice (some ⟨w.heap.size,0,none⟩) 0 0),_,w.alloc (.cells #[] et),_,?_,.inl rfl,J.1,J.2⟩
       have h0:¬0>2^24:=by omega
       simp only[execOp,Instr.buildSlice,Sem.run_bind,cH ad,Result.andThen_ok,fZ hj,yCe,yAn,pure_bind,h0,yAi]
       have B:Array.range 0=#[]:=by simp
       rw[B];simp only[List.map_toArray,yCg,Instr.fill];rfl
      .cases I
     .cases I
    .cases I
   .cases I
  split at e
  .rename_i s0 z0 et bs eb z1 A
   split at e
   .rename_i xs W' cr
    split at e
    .rename_i hc
     obtain⟨c1,c2,c3⟩:=hc;obtain⟨ad,jt,hj,cf,_,cg⟩:=dK A rfl;subst cf;obtain⟨a1,a2,a3,a4,a5⟩:=wn (σ:=σ) G (bW.of_sub hs) (λx H=>F x (by simpa[Op.operands]using H)) cr
     have ax:(ps.map λ(i,x)=>(i,σ x)).toList=ps.toList.map λ(i,x)=>(i,σ x):=by simp
     have cn:ps.toList.length=len:=by omega
     have a8:∀(q:Nat) i v,(ps.toList.map λ(i,x)=>(i,σ x))[q]?=some (i,v)->i=0+q/\v.cells.size=jt.size:=by
      intro q i v hq;obtain⟨b1,p,b2,b3⟩:=a5 q i v hq;refine⟨b1,?_⟩;have:=b3.cells.1;rw[a4 p (In b2)]at this;simpa using this.symm
     obtain⟨arr,f1,f2,f3,f4⟩:=wO (arr:=(Array.range (len*jt.size)).map ((if len*jt.size=0 then #[]else z1.cells:Array Value)[·% (if len*jt.size=0 then #[]else z1.cells:Array Value).size]!)) a8 (by simp[cn]);have hg:=a1.1.grow (Ext.alloc (λ_=>False) w (.cells arr et))
     have b4:(execOp σ ⟨b5,.buildSlice t len ps,type,pos,after,guard⟩).run C.P w=.ok (.value (.slice (some ⟨w.heap.size,0,none⟩) len len)) (w.alloc (.cells arr et)):=by
      have cj:¬len*jt.size>2^24:=by omega
      have ca:(zeroValue et).run C.P w=.ok z1 w:=by simp[zeroValue,lM hj,cg]
      by_cases hl:len*jt.size=0
      .simp only[hl,yAn]at f1
       have h0:¬0>2^24:=by omega
       simp only[execOp,Instr.buildSlice,Sem.run_bind,cH ad,Result.andThen_ok,fZ hj,hl,h0,yAi,yAn,pure_bind,ax,f1];rfl
      .simp only[hl,yAi]at f1
       simp only[execOp,Instr.buildSlice,Sem.run_bind,cH ad,Result.andThen_ok,fZ hj,cj,hl,yAi,pure_bind,ca,ax,f1];rfl
     have b0:∀(i:Nat) x(j:Nat) p,xs[i]?=some x->x.cells[j]?=some p->∃u,arr[i*jt.size+j]?=some u/\Rep w (ak C L (ah h W')) p u:=by
      intro i x j p H U
      have b9:i<(ps.toList.map λ(i,x)=>(i,σ x)).length:=by rw[yAz];have:=(th.1 H).1;omega
      obtain⟨⟨i',vv⟩,Y⟩:∃y,(ps.toList.map λ(i,x)=>(i,σ x))[i]?=some y:=⟨_,an b9⟩;obtain⟨b1,p',b2,b3⟩:=a5 i i' vv Y;rw[H]at b2;injection b2 with b2;subst b2
      have ay:j<jt.size:=by rw[<-a4 x (In H)];exact(th.1 U).1
      have M:=f4 i i' vv j Y ay;rw[yA2]at M
      have bk:j<vv.cells.size:=by rw[(a8 i i' vv Y).2];exact ay
      rw[yAL bk]at M;exact⟨_,M,b3.cells.2 j p vv.cells[j] U (by simp[bk])⟩
     split at e
     .rename_i d hd
      unfold FC at hd;split at hd
      .rename_i d' _
       split at hd
       .rename_i cb
        injection hd with hd;subst hd;injection e with e;injection e with B O;subst B;subst O;simp only[An,yCl]at cb
        have Q:h d'=none:=by rw[<-(g d' rfl).1];exact cb.2
        have J:=kY (e:=et) (sz:=jt.size) (xs:=xs) (l:=⟨w.heap.size,len,false⟩) G (Ext.alloc (λ_=>False) w (.cells arr et)) Q (g d' rfl).2 (λ_=>yAd _) (by
         refine⟨c2,yAT _,λx H=>a4 x H,(λh=>by cases h),λ_=>⟨by show xs.length<=len;omega,by simp only[maxLen];have:=Nat.le_mul_of_pos_right len c2;omega,arr,jH w _,?_,?_⟩⟩
         .rw[f2];simp
         .intro i x j p H U
          obtain⟨u,hu,V⟩:=b0 i x j p H U
          exact⟨u,hu,V.mono (t8 (Ext.alloc (λ_=>False) w (.cells arr et)) (λ_=>yAd _))⟩)
        rw[c1]at J;exact⟨_,_,_,_,b4,.inl rfl,J.1,J.2⟩
       .cases hd
      .cases hd
     injection e with e;injection e with B O;subst B;subst O;refine⟨.value (.slice (some ⟨w.heap.size,0,none⟩) len len),_,w.alloc (.cells arr et),L,b4,.inl rfl,a1.trans ⟨hg.1,hg.2,KC.refl _ _⟩,.pv ?_⟩
     .rw[<-c1]
      refine .sl xs w.heap.size 0 xs.length jt.size (λi j=>(arr[i*jt.size+j]?).getD undef) (yAd _) (λi x H=>a4 x (In H)) ?_ ?_
      all_goals
       intro i x j p H U
       have b9:i<(ps.toList.map λ(i,x)=>(i,σ x)).length:=by rw[yAz];have:=(th.1 H).1;omega
       obtain⟨⟨i',vv⟩,Y⟩:∃y,(ps.toList.map λ(i,x)=>(i,σ x))[i]?=some y:=⟨_,an b9⟩;obtain⟨b1,p',b2,b3⟩:=a5 i i' vv Y;rw[H]at b2;injection b2 with b2;subst b2
       have ay:j<jt.size:=by rw[<-a4 x (In H)];exact(th.1 U).1
       have M:=f4 i i' vv j Y ay;rw[yA2]at M
       have bk:j<vv.cells.size:=by rw[(a8 i i' vv Y).2];exact ay
       rw[yAL bk]at M
      .refine⟨by rw[gm (jH w _),yA2,M];rfl,λhM=>?_⟩
       have:=a1.1.mlt hM;omega
      .simp only[M,yAl]
       have:=b3.cells.2 j p vv.cells[j] U (by simp[bk]);exact this.mono hg.2
    .cases e
   .cases e
  .cases e
 |load t a=>
  simp only[dI]at e;split at e
  .rename_i ti A
   simp only[II,yAj]at e;obtain⟨v',B,rfl,rfl⟩:=e;obtain⟨r,D,E⟩:=wN G hs A (F a (by simp[Op.operands])) B;exact dz G E (by simp[execOp,D])
  .cases e
 |store t a x=>
  simp only[dI]at e;split at e
  .rename_i ti A
   simp only[II,yAj]at e;obtain⟨W',B,rfl,rfl⟩:=e;obtain⟨w',D,E⟩:=E0 G hs A (F a (by simp[Op.operands])) (F x (by simp[Op.operands])) B;exact⟨.skip,undef,w',L,by simp[execOp,D],.inr ⟨rfl,rfl⟩,E,.undef _⟩
  .cases e
 |nilCheck x=>
  have H:=F x (by simp[Op.operands]);simp only[dI]at e;split at e
  .rename_i k cL hk
   injection e with e;injection e with B O;subst B;subst O;rw[hk]at H;have bq:=H;generalize hσ:σ x=u at H bq
   cases H with
   |ptr ch=>exact dz G bq (by simp[execOp,hσ])
  .rename_i y cL hk
   injection e with e;injection e with B O;subst B;subst O;rw[hk]at H;have bq:=H;generalize hσ:σ x=u at H bq
   cases H with
   |pv V=>cases V with
    |rptr=>exact dz G bq (by simp[execOp,hσ])
  .cases e
 |fieldAddr s x f=>
  simp only[dI]at e;split at e
  .rename_i ti A
   simp only[II,yAj]at e;obtain⟨v',B,rfl,rfl⟩:=e;obtain⟨r,D,E⟩:=zD A hs (F x (by simp[Op.operands])) B;exact dz G E (by simp[execOp,D])
  .cases e
 |indexAddr t x ix=>
  simp only[dI]at e;split at e
  .rename_i ti n A hn
   simp only[II,yAj]at e;obtain⟨v',B,rfl,rfl⟩:=e;have cd:=F ix (by simp[Op.operands])
   have hint:∃kk,σ ix=.int kk n:=by
    generalize ρ ix=y at hn cd;unfold FA at hn;split at hn
    .rename_i kk m
     injection hn with hn;subst hn
     cases cd with
     |pv V=>exact⟨kk,aX V⟩
    .cases hn
   obtain⟨kk,ch⟩:=hint;obtain⟨r,D,E⟩:=(FK B).elim (zE (kk:=kk) hs A (F x (by simp[Op.operands])) (H9 G)) (CZ (kk:=kk) hs A (F x (by simp[Op.operands])));exact dz G E (by simp[execOp,ch,D])
  .cases e
 |makeInterface t x=>
  simp only[dI]at e;split at e
  .rename_i hp
   split at e
   .rename_i p W' B
    injection e with e;injection e with e1' e2';subst e1';subst e2';obtain⟨b1,b2,_⟩:=lL G (bW.of_sub hs) (F x (by simp[Op.operands])) B;refine⟨.value (.iface t (σ x)),_,w,L,?_,.inl rfl,b1,.pv (.ifc t p _ b2)⟩;obtain⟨d,hd,b7⟩:=zK hp;simp only[execOp,Instr.makeInterface,Sem.run_bind,run_underlying hd,Result.andThen_ok]
    cases d<;>first|rfl|exact(b7 _ rfl).elim
   .cases e
  .cases e
 |typeAssert x xt a' ok=>
  have H:=F x (by simp[Op.operands]);simp only[dI]at e;split at e
  .rename_i t p hk
   split at e
   .rename_i hp
    simp only[II,yAj]at e;obtain⟨v',B,rfl,rfl⟩:=e;rw[hk]at H;generalize hσ:σ x=u at H
    cases H with
    |pv V=>cases V with
     |ifc _ _ v S=>
      obtain⟨d,hd,b7⟩:=zK hp;unfold CU at B
      have a7:(Instr.typeAssert (.iface t v) xt a' ok).run C.P w=(if t=a' then .ok (if ok then .tuple #[v,.bool true]else v) w else if ok then((zeroValue a').run C.P w).andThen λz w=>.ok (.tuple #[z,.bool false]) w else(runtimePanic (.typeAssertion (some xt) (some t) a' ""):Sem Value).run C.P w):=by
       unfold Instr.typeAssert;simp only[Sem.run_bind,cH hd,Result.andThen_ok]
       cases d with
       |interface m=>exact(b7 m rfl).elim
       |_=>split<;>split<;>simp[Sem.run_bind]<;>rfl
      split at B
      .rename_i ht
       injection B with B;subst B;refine dz G (u:=if ok then .tuple #[v,.bool true]else v) ?_ (by simp only[execOp,hσ,Sem.run_bind,a7,yAb ht,Result.andThen_ok];rfl)
       cases ok with
       |false=>exact .pv S
       |true=>exact .pv (.tup [p,.val (.bool true)] [v,.bool true] rfl (bR.cons S (bR.cons (.val _) .nil)).2)
      .rename_i ht
       split at B
       .rename_i cu
        split at B
        .rename_i z hz
         injection B with B;subst B;obtain⟨ti,A,cB⟩:=Option.bind_eq_some_iff.1 hz;obtain⟨i,_,hi,_,_,ct,_⟩:=gZ A;subst cu
         have ca:(zeroValue a').run C.P w=.ok z w:=by
          have:i.zero=some z:=ct▸cB;simp[zeroValue,lM hi,this]
         refine dz G (u:=.tuple #[z,.bool false]) ?_ (by simp only[execOp,hσ,Sem.run_bind,a7,L4 ht,yAn,ca,Result.andThen_ok];rfl);exact .pv (.tup [.val z,.val (.bool false)] [z,.bool false] rfl (bR.cons (.val _) (bR.cons (.val _) .nil)).2)
        .cases B
       .cases B
   .cases e
  .cases e
 |makeFunc f first caps=>
  obtain⟨first⟩:=first
  obtain⟨caps⟩:=caps;simp only[dI,Z9,yAj]at e;obtain⟨rfl,rfl⟩:=e
  have a1:=sA (σ:=σ) first (λx H=>F x (by simp[Op.operands,H]))
  have a2:=sA (σ:=σ) caps (λx H=>F x (by simp[Op.operands,H]));refine dz G (u:=.func f (first.map σ).toArray (caps.map σ).toArray) ?_ (by simp[execOp,Instr.makeFunc]);exact KL f a1 a2
 |makeSlice t l c=>
  simp only[dI]at e;split at e
  .rename_i ti A
   obtain⟨r,w',L',D,E,X⟩:=(FL e).elim (E1 G A g (F l (by simp[Op.operands])) (F c (by simp[Op.operands]))) (FG G A g (F l (by simp[Op.operands])) (F c (by simp[Op.operands])));exact⟨.value r,r,w',L',by simp[execOp,D],.inl rfl,E,X⟩
  .cases e
 |slice t x lo hi mx=>
  simp only[dI]at e;split at e
  .exact iI G (by intro _ _ h;cases h) F e
  .rename_i k n hk
   split at e
   .rename_i ti A
    unfold Pp at e;split at e
    .rename_i p W1 B
     split at e
     .rename_i v1 O
      injection e with e;injection e with ea eb;subst ea;subst eb;have H:=F x (by simp[Op.operands]);rw[hk]at H;obtain⟨a1,a2,_⟩:=oc G (bW.of_sub hs) H B
      obtain⟨r,D,E⟩:=wm (ul:=lo.map σ) (uh:=hi.map σ) A (.pv a2)
       (by intro a K;cases lo with
         |none=>cases K
         |some y=>simp at K;subst K;exact⟨_,rfl,(F y (by simp[Op.operands])).mono a1.2.1 a1.2.2⟩) (by intro K;cases lo with
         |none=>rfl
         |some y=>cases K)
       (by intro a K;cases hi with
         |none=>cases K
         |some y=>simp at K;subst K;exact⟨_,rfl,(F y (by simp[Op.operands])).mono a1.2.1 a1.2.2⟩) (by intro K;cases hi with
         |none=>rfl
         |some y=>cases K) O
      exact⟨.value r,r,w,L,by simp[execOp,D],.inl rfl,a1,E⟩
     .cases e
    .cases e
   .cases e
  .split at e
   .rename_i ti A
    simp only[II,yAj]at e;obtain⟨v',B,rfl,rfl⟩:=e
    obtain⟨r,D,E⟩:=wm (ul:=lo.map σ) (uh:=hi.map σ) A (F x (by simp[Op.operands]))
     (by intro a K;cases lo with
       |none=>cases K
       |some y=>simp at K;subst K;exact⟨_,rfl,F y (by simp[Op.operands])⟩) (by intro K;cases lo with
       |none=>rfl
       |some y=>cases K)
     (by intro a K;cases hi with
       |none=>cases K
       |some y=>simp at K;subst K;exact⟨_,rfl,F y (by simp[Op.operands])⟩) (by intro K;cases hi with
       |none=>rfl
       |some y=>cases K) B
    exact dz G E (by simp[execOp,D])
   .cases e
  .cases e
 |extract t i=>
  have ht:=F t (by simp[Op.operands]);simp only[dI]at e;split at e
  .rename_i vs ax
   simp only[II,yAj]at e;obtain⟨v',B,rfl,rfl⟩:=e;rw[ax]at ht;generalize hσ:σ t=u at ht
   cases ht with
   |tup _ us hl hh=>
    have a6:i<us.length:=by rw[<-hl];exact(th.1 B).1
    exact dz G (hh i v' us[i] B (an a6)) (by simp[execOp,hσ,Instr.extract,a6])
  .rename_i vs ax
   simp only[II,yAj]at e;obtain⟨v',B,rfl,rfl⟩:=e;rw[ax]at ht;generalize hσ:σ t=u at ht
   cases ht with
   |pv V=>cases V with
    |tup _ us hl hh=>
     have a6:i<us.length:=by rw[<-hl];exact(th.1 B).1
     exact dz G (.pv (hh i v' us[i] B (an a6))) (by simp[execOp,hσ,Instr.extract,a6])
  .exact iI G (by intro _ _ h;cases h) F e
  .cases e
 |call c=>
  simp only[dI]at e;split at e
  .rename_i b hb
   obtain⟨callee,args,argTypes⟩:=c;simp only at hb e;subst hb;obtain⟨args⟩:=args;obtain⟨argTypes⟩:=argTypes;simp only at e;have b8:(execOp σ ⟨b5,.call ⟨.builtin b,⟨args⟩,⟨argTypes⟩⟩,type,pos,after,guard⟩)=builtin b ⟨argTypes⟩ type ((⟨args⟩:Array Operand).map λ|.const _=>true|_=>false) ((⟨args⟩:Array Operand).map σ):=rfl;have R:∀x∈args,RepA w (ak C L h) L h (ρ x) (σ x):=λx H=>F x (by simp[Op.operands,Call.operands,H]);unfold wL at e;split at e
   .rename_i _ _ x t N
    .obtain⟨a,rfl,rfl⟩:=Vx N
     split at e
     .exact iI G (by intro _ _ h;cases h) F e
     .split at e
      .rename_i ti A
       simp only[II,yAj]at e;obtain⟨v',B,rfl,rfl⟩:=e;obtain⟨r,D,E⟩:=HJ (ty:=type) hs A (R a (by simp)) (H9 G) B;exact dz G E (by rw[b8];simp[builtin,D])
      .cases e
   .rename_i _ _ s x t t' N
    .obtain⟨a,b,rfl,rfl,rfl⟩:=JD N
     split at e
     .rename_i cz
      subst cz;split at e
      .rename_i ti A
       obtain⟨r,w',L',D,E,X⟩:=CY (ty:=type) G hs A g (R a (by simp)) (R b (by simp)) e;exact⟨.value r,r,w',L',by rw[b8];simp[builtin,D],.inl rfl,E,X⟩
      .cases e
     .cases e
   .rename_i _ _ s x t t' N
    .obtain⟨a,b,rfl,rfl,rfl⟩:=JD N
     split at e
     .rename_i ti A
      obtain⟨r,w',D,E,X⟩:=FH (t':=t') (ty:=type) G hs A (R a (by simp)) (R b (by simp)) e;exact⟨.value r,r,w',L,by rw[b8];simp[builtin,D],.inl rfl,E,X⟩
     .cases e
   .exact iI G (by intro _ _ h;cases h) F (lN (λv S=>MX rfl S) e)
   .exact iI G (by intro _ _ h;cases h) F (lN (λv S=>MY rfl S) e)
   .cases e
  .cases e
 |binOp op t x y t'=>
  simp only[dI]at e;split at e
  .rename_i b hb
   injection e with e;injection e with B O;subst B;subst O;unfold FB at hb;split at hb
   .rename_i T
    simp only[An]at T;obtain⟨b',hk,cv⟩:=HL hb;have hy:=FO T.1 (F y (by simp[Op.operands]));obtain⟨a,n,c,H,K⟩:=C4 G hs (F x (by simp[Op.operands])) hk;refine dz G (.pv (.val (.bool b))) (gU (Ia (wP T.2) H hy ?_) w);rcases cv with⟨rfl,rfl⟩|⟨rfl,rfl⟩
    .left;exact⟨rfl,by rw[K]⟩
    .right;exact⟨rfl,by rw[K]⟩
   .cases hb
  .exact iI G (by intro _ _ h;cases h) F (lN (λv S=>MW rfl S) e)
 |unOp _ _ _=>simp only[dI]at e;exact iI G (by intro _ _ h;cases h) F (lN (λv S=>Qa rfl S) e)
 |convert _ _ _=>simp only[dI]at e;exact iI G (by intro _ _ h;cases h) F (lN (λv S=>KK rfl S) e)
 |field _ _ _=>simp only[dI]at e;exact iI G (by intro _ _ h;cases h) F (lN (λv S=>MZ rfl S) e)
 |index _ _ _=>simp only[dI]at e;exact iI G (by intro _ _ h;cases h) F (lN (λv S=>(FP S).elim (Qb rfl) (Qc rfl)) e)
 |makeMap t r=>
  cases r with
  |some r=>simp[dI]at e
  |none=>
   simp only[dI]at e;obtain⟨r,w',L',D,E,X⟩:=Bv G g e;exact⟨.value r,r,w',L',by simp only[execOp,Option.map_none,Sem.run_bind,D,Result.andThen_ok,Sem.run_pure],.inl rfl,E,X⟩
 |lookup t x i ok=>
  simp only[dI,II,yAj]at e;obtain⟨v',B,rfl,rfl⟩:=e;obtain⟨r,D,E⟩:=C6 G hs (F x (by simp[Op.operands])) (F i (by simp[Op.operands])) B;exact dz G E (by simp only[execOp,Sem.run_bind,D,Result.andThen_ok,Sem.run_pure])
 |mapUpdate t m k x=>
  simp only[dI,II,yAj]at e;obtain⟨W',B,rfl,rfl⟩:=e;obtain⟨w',D,E⟩:=C7 G hs (F m (by simp[Op.operands])) (F k (by simp[Op.operands])) (F x (by simp[Op.operands])) B;exact⟨.skip,undef,w',L,by simp only[execOp,Sem.run_bind,D,Result.andThen_ok,Sem.run_pure],.inr ⟨rfl,rfl⟩,E,.undef _⟩
 |_=>simp[dI]at e
end
section
variable {C:Cx} {L:Nat->Loc} {h1 h:Hp} {w:World}
theorem lO:∀{W:List (Nat×Blk)}{h:Hp}{k:Nat},(∀d∈W,d.1≠k)->ah h W k=h k
 |[],h,k,_=>rfl
 |(q,b)::W,h,k,a=>by
  show ah (aH h q (some b)) W k=h k;rw[lO (λd c=>a d (by simp[c])),bu (λe=>a (q,b) (by simp) e.symm)]
theorem MemL.callStep(m:MemL C L h w){w':World}{h':Hp}(I:Ext (·∈ks.map λk=>(L k).b) w w')(v:hout.length=ks.length)
 (s:∀k,k∉ks->h' k=h k)
 (R:∀(i:Nat) k f,ks[i]?=some k->hout[i]?=some f->∃cs own,h k=some (.box cs own false)/\h' k=some (.box (f.map .pv) own false)/\ru w' (ak C L h) (L k).b f):aZ C L h w L h' w':=by
 have hin:∀k,k∈ks->∃f cs own,h k=some (.box cs own false)/\h' k=some (.box (f.map .pv) own false)/\ru w' (ak C L h) (L k).b f:=by
  intro k U;obtain⟨i,hi⟩:=yBg.1 U
  have D:i<hout.length:=by rw[v];exact(th.1 hi).1
  obtain⟨cs,own,a,b,c⟩:=R i k hout[i] hi (an D)
  grind
 have A:∀b o,ak C L h' b o->ak C L h b o:=by
  rintro b o (z|⟨q,ab,hq,l,j,hf⟩)
  .exact .inl z
  .by_cases e:q∈ks
   .obtain⟨f,cs,own,a,_,_⟩:=hin q e
    exact .inr ⟨q,_,a,trivial,j,by simp[Blk.frz]⟩
   .rw[s q e]at hq;exact .inr ⟨q,ab,hq,l,j,hf⟩
 have H:∀b o,ak C L h b o->ak C L h' b o:=by
  rintro b o (z|⟨q,ab,hq,l,j,hf⟩)
  .exact .inl z
  .by_cases e:q∈ks
   .obtain⟨f,cs,own,a,p,_⟩:=hin q e
    exact .inr ⟨q,_,p,trivial,j,by simp[Blk.frz]⟩
   .exact .inr ⟨q,ab,by rw[s q e];exact hq,l,j,hf⟩
 have u:KC L h L h':=by
  intro q ab hq;by_cases e:q∈ks
  .obtain⟨f,cs,own,a,p,_⟩:=hin q e
   rw[a]at hq;injection hq with hq;subst hq;exact⟨_,p,rfl⟩
  .exact⟨ab,by rw[s q e];exact hq,du _ _⟩
 have y:∀b o,¬ak C L h b o->b∉ks.map λk=>(L k).b:=by
  intro b o hn d;obtain⟨q,hq,rfl⟩:=yAt.1 d;obtain⟨f,cs,own,a,_,_⟩:=hin q hq;exact hn (.inr ⟨q,_,a,trivial,rfl,by simp[Blk.frz]⟩)
 have g:Pres w (ak C L h) w' (ak C L h'):=by
  grind [Pres.ext]
 refine⟨⟨?_,m.m0,?_,?_,?_⟩,g,u⟩
 .refine m.ext.trans I (λb S d=>?_)
  obtain⟨q,hq,rfl⟩:=yAt.1 d;obtain⟨f,cs,own,a,_,_⟩:=hin q hq;have:=m.own q _ a
  cases own with
  |false=>exact this.2.2.1
  |true=>rcases this with G|G
         .omega
         .exact G.1
 .intro q ab hq
  by_cases e:q∈ks
  .obtain⟨f,cs,own,a,p,arr,V,P,Q⟩:=hin q e
   rw[p]at hq;injection hq with hq;subst hq;exact⟨arr,V,P,(aB.map_pv (Q.mono (Pres.sub A)))⟩
  .rw[s q e]at hq
   refine(m.bl q ab hq).mono g u (λl=>I.block _ ((m.bl q ab hq).lt l) (λd=>?_));obtain⟨x,n,T⟩:=yAt.1 d;obtain⟨f,cs,own,a,_,_⟩:=hin x n;exact m.sep q x _ _ (λO=>e (O▸n)) hq a l trivial T.symm
 .intro q x J K E hq n l B
  have r:∀q b,h' q=some b->b.live (L q)->∃F,h q=some F/\F.live (L q):=by
   intro q b hq l;by_cases e:q∈ks
   .obtain⟨f,cs,own,a,_,_⟩:=hin q e;exact⟨_,a,trivial⟩
   grind
  obtain⟨M,d1,f1⟩:=r q J hq l;obtain⟨N,d2,f2⟩:=r x K n B;exact m.sep q x M N E d1 d2 f1 f2
 .intro q ab hq
  by_cases e:q∈ks
  .obtain⟨f,cs,own,a,p,_⟩:=hin q e
   rw[p]at hq;injection hq with hq;subst hq;have:=m.own q _ a;cases own<;>exact this
  .rw[s q e]at hq;exact m.own q ab hq
theorem Ea(e:lH h1 x=some (p,W)):∀a∈W,(h1 a.1).isSome=true:=by
 unfold lH at e
 grind
theorem ve:∀{xs:List AV}{p:List PV}{W:List (Nat×Blk)},mY h1 xs=some (p,W)->∀a∈W,(h1 a.1).isSome=true
 |[],p,W,e=>by simp only[mY,Z9,yAj]at e;obtain⟨_,rfl⟩:=e;simp
 |x::r,p,W,e=>by
  simp only[mY]at e;split at e
  .rename_i d f
   injection e with e;injection e with _ e;subst e;intro a c;rcases yAk.1 c with b|b
   .exact Ea d a b
   .exact ve f a b
  .cases e
theorem wV(e:tC h1 x=some (p,W)):∀b∈W,(h1 b.1).isSome=true:=by
 unfold tC at e;split at e
 .split at e
  .rename_i d
   split at e
   .split at e
    .rename_i c
     split at e
     .injection e with e;injection e with _ e;subst e
      intro b a
      grind [ve,List.mem_singleton]
     .cases e
    .cases e
   .split at e
    .split at e
     .rename_i c
      split at e
      .injection e with e;injection e with _ e;subst e
       intro b a
       grind [ve,List.mem_singleton]
      .cases e
     .cases e
    .cases e
  .cases e
 .exact Ea e
theorem pM:∀{xs:List AV}{p:List PV}{W:List (Nat×Blk)},qd h1 xs=some (p,W)->∀a∈W,(h1 a.1).isSome=true
 |[],p,W,e=>by simp only[qd,Z9,yAj]at e;obtain⟨_,rfl⟩:=e;simp
 |x::r,p,W,e=>by
  simp only[qd]at e;split at e
  .rename_i d f
   injection e with e;injection e with _ e;subst e;intro a c;rcases yAk.1 c with b|b
   .exact wV d a b
   .exact pM f a b
  .cases e
theorem zM(e:rr h1 x=some (p,W)):∀c∈W,(h1 c.1).isSome=true:=by
 unfold rr at e;split at e
 .grind
 .split at e
  .rename_i f
   split at e
   .grind
   .split at e
    .rename_i d
     split at e
     all_goals
      injection e with e;injection e with _ e;subst e;intro c b;rcases yAk.1 b with a|a
      .exact pM d c a
      .simp only[yAE]at a;subst a;simp[f]
    .cases e
  .cases e
 .cases e
theorem rB:∀{xs:List AV}{p:List PV}{W:List (Nat×Blk)},kV h1 xs=some (p,W)->∀a∈W,(h1 a.1).isSome=true
 |[],p,W,e=>by simp only[kV,Z9,yAj]at e;obtain⟨_,rfl⟩:=e;simp
 |x::r,p,W,e=>by
  simp only[kV]at e;split at e
  .rename_i d f
   injection e with e;injection e with _ e;subst e;intro a c;rcases yAk.1 c with b|b
   .exact zM d a b
   .exact rB f a b
  .cases e
theorem KN(e:CQ h1 x=some (p,W)):∀b∈W,(h1 b.1).isSome=true:=by
 unfold CQ at e;split at e
 .split at e
  .rename_i a;injection e with e;injection e with _ e;subst e;exact pM a
  .cases e
 .split at e
  .rename_i a d
   injection e with e;injection e with _ e;subst e;intro b c
   grind [pM,rB]
  .cases e
 .exact wV e
theorem vf:∀{xs:List AV}{p:List PV}{W:List (Nat×Blk)},po h1 xs=some (p,W)->∀a∈W,(h1 a.1).isSome=true
 |[],p,W,e=>by simp only[po,Z9,yAj]at e;obtain⟨_,rfl⟩:=e;simp
 |x::r,p,W,e=>by
  simp only[po]at e;split at e
  .rename_i d f
   injection e with e;injection e with _ e;subst e;intro a c;rcases yAk.1 c with b|b
   .exact KN d a b
   .exact vf f a b
  .cases e
theorem M3(e:frz h1 x=some (p,W)):∀b∈W,(h1 b.1).isSome=true:=by
 unfold frz at e;split at e
 .split at e
  .rename_i a;injection e with e;injection e with _ e;subst e;exact vf a
  .cases e
 .split at e
  .rename_i a d
   injection e with e;injection e with _ e;subst e;intro b c
   grind [pM,rB]
  .cases e
 .split at e
  .rename_i a;injection e with e;injection e with _ e;subst e;exact vf a
  .cases e
 .exact wV e
theorem oe:∀{xs:List AV}{c:List Nat}{h:Hp}(_:MemL C L h w)(_:bW h1 h){us:List Value}(_:aB w (ak C L h) L h xs us){as:List Arg}{ks:List Nat}{W:List (Nat×Blk)},
 jv h1 xs c=some (as,ks,W)->aZ C L h w L (ah h W) w/\bW h1 (ah h W)/\(∃y,ks=c++y)/\(c.Nodup->ks.Nodup)/\as.length=us.length/\
  (∀s∈W,(h1 s.1).isSome=true)/\∀(i:Nat) a v,as[i]?=some a->us[i]?=some v->KG w (ak C L (ah h W)) (ks.map λk=>(L k).b) a v
 |[],c,h,H,hf,us,S,as,ks,W,e=>by
  simp only[jv,Z9,yAj]at e;obtain⟨rfl,rfl,rfl⟩:=e;rw[S.nil_inv];exact⟨aZ.refl H,hf,⟨[],by simp⟩,id,rfl,by simp,λi a v h=>by simp at h⟩
 |x::r,c,h,H,hf,us,S,as,ks,W,e=>by
  obtain⟨u,ad,rfl,T,o⟩:=S.cons_inv;unfold jv at e;split at e
  .rename_i k Z
   split at e
   .rename_i X
    obtain⟨rfl,P,_⟩:=X;split at e
    .rename_i G K W' l
     injection e with e;injection e with ea eb;injection eb with eb ec;subst ea;subst eb;subst ec;obtain⟨j,A,⟨y,z⟩,B,D,E,F⟩:=oe H hf o l;refine⟨j,A,⟨k::y,by rw[z];simp⟩,λR=>B ?_,by simp[D],E,λi a v d f=>?_⟩
     .rw[List.nodup_append]
      refine⟨R,by simp,?_⟩;intro q hq q' I Q;simp at I;subst I;subst Q;have J:c.contains q=true:=List.contains_iff_mem.2 hq;rw[P]at J;cases J
     .cases i with
      |zero=>
       simp at d f;subst d;subst f;refine⟨(L k).b,by rw[z];simp,?_⟩
       cases T with
       |ptr _=>rfl
      |succ i=>exact F i a v (by simpa using d) (by simpa using f)
    .cases e
   .split at e
    .split at e
     .rename_i p U G K V l O
      injection e with e;injection e with ea eb;injection eb with eb ec;subst ea;subst eb;subst ec;obtain⟨g,M,N⟩:=wM H hf T l;obtain⟨j,A,z,B,D,E,F⟩:=oe g.1 N (o.mono g.2.1 g.2.2) O;rw[cE];refine⟨g.trans j,A,z,B,by simp[D],?_,λi a v d f=>?_⟩
      .intro s n
       rcases yAk.1 n with m|m
       .exact zM l s m
       .exact E s m
      .cases i with
       |zero=>simp at d f;subst d;subst f;exact M.mono j.2.1
       |succ i=>exact F i a v (by simpa using d) (by simpa using f)
     .cases e
    .cases e
  .rename_i x' Y
   split at e
   .rename_i p U G K V l O
    injection e with e;injection e with ea eb;injection eb with eb ec;subst ea;subst eb;subst ec;obtain⟨g,M,N⟩:=lL H hf T l;obtain⟨j,A,z,B,D,E,F⟩:=oe g.1 N (o.mono g.2.1 g.2.2) O;rw[cE];refine⟨g.trans j,A,z,B,by simp[D],?_,λi a v d f=>?_⟩
    .intro s n
     rcases yAk.1 n with m|m
     .exact M3 l s m
     .exact E s m
    .cases i with
     |zero=>simp at d f;subst d;subst f;exact M.mono j.2.1
     |succ i=>exact F i a v (by simpa using d) (by simpa using f)
   .cases e
theorem Eb:∀{ks:List Nat}{c:List (List PV)},n9 h1 ks=some c->c.length=ks.length/\∀(i:Nat) k f,ks[i]?=some k->c[i]?=some f->∃own,h1 k=some (.box (f.map .pv) own false)
 |[],c,e=>by simp only[n9,Z9]at e;subst e;exact⟨rfl,λi k f h=>by simp at h⟩
 |k::ks,c,e=>by
  simp only[n9]at e;split at e
  .rename_i cs own l j g
   split at e
   .rename_i f hp
    injection e with e;subst e;obtain⟨a,b⟩:=Eb g;refine⟨by simp[a],λi q qs hq d=>?_⟩
    cases i with
    |zero=>simp at hq d;subst hq;subst d;exact⟨own,by rw[<-pK hp];exact j⟩
    |succ i=>exact b i q qs (by simpa using hq) (by simpa using d)
   .cases e
  .cases e
theorem Bw:∀{ks:List Nat}{hout:List (List PV)}{h:Hp},ks.Nodup->hout.length=ks.length->(∀k∈ks,∃cs own j,h1 k=some (.box cs own j))->
 (∀k,k∉ks->ah h (jR h1 ks hout) k=h k)/\(∀r∈jR h1 ks hout,r.1∈ks)/\
 (∀(i:Nat) k b,ks[i]?=some k->hout[i]?=some b->∀cs own j,h1 k=some (.box cs own j)->ah h (jR h1 ks hout) k=some (.box (b.map .pv) own false))
 |[],hout,h,_,_,_=>by
  refine⟨λk _=>?_,?_,λi k b h=>by simp at h⟩
  .cases hout<;>rfl
  .cases hout<;>simp[jR]
 |k::ks,hout,h,e,u,s=>by
  cases hout with
  |nil=>simp at u
  |cons b f=>
   obtain⟨cs,own,j,d⟩:=s k (by simp);have o:k∉ks:=(yCd.1 e).1;have ih:=λ(h:Hp)=>Bw (hout:=f) (h:=h) (yCd.1 e).2 (by simpa using u) (λq hq=>s q (by simp[hq]))
   have p:jR h1 (k::ks) (b::f)=(k,.box (b.map .pv) own false)::jR h1 ks f:=by simp[jR,d]
   rw[p];have v:∀q,ah h ((k,.box (b.map .pv) own false)::jR h1 ks f) q=ah (aH h k (some (.box (b.map .pv) own false))) (jR h1 ks f) q:=λq=>rfl;refine⟨λq hq=>?_,?_,λi q qs hq c l g m a=>?_⟩
   .simp at hq
    rw[v,(ih _).1 q hq.2,bu hq.1]
   .intro r n
    rcases yAv.1 n with rfl|x
    .simp
    .have:=(ih h).2.1 r x;simp[this]
   .rw[v]
    cases i with
    |zero=>
     simp at hq c;subst hq;subst c;rw[(ih _).1 k o,aE];rw[d]at a;injection a with a;injection a with _ h2 _;rw[h2]
    |succ i=>exact(ih _).2.2 i q qs (by simpa using hq) (by simpa using c) l g m a
end
section
variable {C:Cx} {L:Nat->Loc} {h1 h:Hp} {w:World}
theorem jY{c:AV}(i:RepA w M L h c u){g:FuncId}(e:dw c=some (g,first,caps)):
 ∃a us:List Value,u=.func (.func g) a.toArray us.toArray/\aB w M L h first a/\aB w M L h caps us:=by
 unfold dw at e;split at e
 .rename_i f fs cs
  simp only[Z9,yAj]at e;obtain⟨rfl,rfl,rfl⟩:=e
  cases i with
  |pv l=>
   rw[aX l];refine⟨fs.toList,cs.toList,by simp,?_,?_⟩
   all_goals
    refine⟨by simp,λq p u hp b=>?_⟩;simp only[ZW,II]at hp;obtain⟨y,m,rfl⟩:=hp;rw[m]at b;injection b with b;subst b;exact .pv (.val _)
 .simp only[Z9,yAj]at e
  obtain⟨rfl,rfl,rfl⟩:=e
  cases i with
  |pv l=>cases l with
   |fn _ _ _ a us k j h1 d=>exact⟨a,us,rfl,aB.map_pv ⟨k,h1⟩,aB.map_pv ⟨j,d⟩⟩
 .simp only[Z9,yAj]at e
  obtain⟨rfl,rfl,rfl⟩:=e
  cases i with
  |fn _ _ _ a us k j h1 d=>exact⟨a,us,rfl,⟨k,h1⟩,⟨j,d⟩⟩
 .cases e
theorem FS{w:World}(hp:jG p=true)(h:Rep w M p v):Rep w M' p v:=by
 cases h with
 |val v=>exact .val v
 |agg cs e b a=>
  refine .agg cs e b (λi q u hq d=>?_);have:=IV.1 hp q (In hq);have c:=a i q u hq d
  cases q with
  |val f=>rw[aX c];exact .val _
  |_=>cases this
 |_=>cases hp
theorem ub{w:World}{x:PV}(hp:jG x=true)(a:x.cells[j]?=some p)(h:Rep w M p v):Rep w M' p v:=by
 cases x with
 |val u=>
  simp only[PV.cells,ZW,II]at a;obtain⟨y,_,rfl⟩:=a;rw[aX h];exact .val _
 |agg cs=>
  have:=IV.1 hp p (In a)
  cases p with
  |val b=>rw[aX h];exact .val _
  |_=>cases this
 |_=>cases hp
theorem zO{w:World}{l:Loc}{e sz:Nat}{xs:List PV}(o:xs.all jG=true)(h:db w M (λ_=>default) (λ_=>none) l (.row e sz xs 0)):db w M' (λ_=>default) (λ_=>none) l (.row e sz xs 0):=by
 obtain⟨c,d,f,g,k⟩:=h;refine⟨c,d,f,g,λhn=>?_⟩;obtain⟨d1,d2,arr,d3,d4,d5⟩:=k hn;refine⟨d1,d2,arr,d3,d4,λi x j p a b=>?_⟩;obtain⟨v,n,m⟩:=d5 i x j p a b;exact⟨v,n,ub (IV.1 o x (In a)) b m⟩
theorem tG{w:World}(hp:t7 p=true)(h:Rep w M p v):Rep w M' p v:=by
 cases h with
 |val v=>exact .val v
 |hd n a c=>exact .hd n a c
 |tup cs g e d=>
  refine .tup cs g e (λi q u hq f=>?_);have:=IV.1 hp q (In hq);have b:=d i q u hq f
  cases q with
  |val j=>rw[aX b];exact .val _
  |hd n=>cases b with
   |hd _ a c=>exact .hd n a c
  |_=>cases this
 |agg cs g e d=>
  refine .agg cs g e (λi q u hq f=>?_);have:=IV.1 hp q (In hq);have b:=d i q u hq f
  cases q with
  |val j=>rw[aX b];exact .val _
  |hd n=>cases b with
   |hd _ a c=>exact .hd n a c
  |_=>cases this
 |_=>cases hp
theorem wW(hm:MemL C L h w)(hs:∀k b,h1 k=some b->h k=some b){d:Option Nat}(f:∀q,d=some q->h1 q=h q/\q<2000000){c:AV}(hc:RepA w (ak C L h) L h c u)(ha:aB w (ak C L h) L h args us)
 {K:bF->Prop}(e:gz C.P c args d h1 K):∃g vs cs,u=.func (.func g) vs cs/\dW C.P g=true/\∃U:bF,K U/\
  Calls C.P g (vs.toList++us++cs.toList).toArray w λe H=>∃r L',e=.returned r/\aZ C L h w L' (ah h U.2) H/\RepA H (ak C L' (ah h U.2)) L' (ah h U.2) U.1 r:=by
 unfold gz at e;split at e
 .exact e.elim
 .rename_i g first caps cf
  obtain⟨vs,cs,rfl,hf,cg⟩:=jY hc cf;split at e
  .exact e.elim
  .rename_i as ks W0 cn
   split at e
   .exact e.elim
   .rename_i b5
    split at e
    .exact e.elim
    .rename_i hin cj
     obtain⟨hout,res,b4,he⟩:=e;have b0:aB w (ak C L h) L h (first++args++caps) (vs++us++cs):=(hf.append ha).append cg;obtain⟨T,a2,⟨cx,a3⟩,a4,a5,a6,a7⟩:=oe hm (bW.of_sub hs) b0 cn;have bs:ks.Nodup:=a4 (by simp);obtain⟨b1,b2⟩:=Eb cj
     have m:∀k∈ks,∃(G:List PV)(own:Bool),h1 k=some (.box (G.map .pv) own false)/\ah h W0 k=some (.box (G.map .pv) own false):=by
      intro k B;obtain⟨i,hi⟩:=yBg.1 B
      have ck:i<hin.length:=by rw[b1];exact(th.1 hi).1
      obtain⟨own,Q⟩:=b2 i k hin[i] hi (an ck);refine⟨_,own,Q,?_⟩;rw[lO,hs _ _ Q];intro kb D he;apply b5;rw[yBQ];exact⟨kb,D,List.contains_iff_mem.2 (he▸B)⟩
     obtain⟨bk,ay,hD⟩:=b4
     have cm:(ks.map λk=>(L k).b).Nodup:=by
      rw[List.nodup_iff_pairwise_ne]at bs|-;rw[List.pairwise_map];refine List.Pairwise.imp_of_mem ?_ bs;intro x y j hy cq;obtain⟨_,_,_,cp⟩:=m x j;obtain⟨_,_,_,cr⟩:=m y hy;exact T.1.sep x y _ _ cq cp cr trivial trivial
     have Z:=hD w (ak C L (ah h W0)) (ks.map λk=>(L k).b) (vs++us++cs) (λb o hM=>T.1.mlt hM) (by simp[b1]) cm
      (λi b G hb ax=>by
        simp only[ZW,II]at hb;obtain⟨k,B,rfl⟩:=hb;obtain⟨own,Q⟩:=b2 i k G B ax
        have hw:ah h W0 k=some (.box (G.map .pv) own false):=by
         obtain⟨ct,cu,R,V⟩:=m k (In B);rw[Q]at R;injection R with R;injection R with h11 h12;rw[V,h11,h12]
        refine⟨λo=>.inr ⟨k,_,hw,trivial,rfl,by simp[Blk.frz]⟩,?_⟩;obtain⟨arr,ty,e1,e2⟩:=T.1.bl k _ hw
        exact⟨arr,ty,e1,e2.map_pv_inv⟩) a5 a7
     refine⟨g,vs.toArray,cs.toArray,rfl,bk,?_⟩;have O:=Bw (h1:=h1) (h:=ah h W0) bs (by rw[ay,b1]) (λk B=>by obtain⟨G,own,R,_⟩:=m k B;exact⟨_,own,false,R⟩)
     have Y:∀H,Ext (·∈ks.map λk=>(L k).b) w H->(∀(i:Nat) b G,(ks.map λk=>(L k).b)[i]?=some b->hout[i]?=some G->ru H (ak C L (ah h W0)) b G)->
      aZ C L h w L (ah h (W0++jR h1 ks hout)) H:=by
      intro H j W;rw[cE];refine T.trans (T.1.callStep j (by rw[ay,b1]) O.1 (λi k G B ax=>?_));obtain⟨ct,own,R,V⟩:=m k (In B);exact⟨_,own,V,O.2.2 i k G B ax _ own false R,W i _ G (by simp[B]) ax⟩
     unfold iP mm at he;split at he
     .rename_i e0 a
      refine⟨e0,he,?_⟩
      have b3:(vs.toArray.toList++us++cs.toArray.toList).toArray=(vs++us++cs).toArray:=by simp
      rw[b3];refine Z.mono ?_;rintro e1 H ⟨v,rfl,j,W,s⟩;have hA:=Y H j W
      have N:∀q,h q=none->ah h W0 q=none:=by
       intro q hq;rw[lO,hq];intro kb D he;have:=a6 kb D;rw[he]at this;obtain⟨b,hb⟩:=yAy.1 this;rw[hs _ _ hb]at hq;cases hq
      have a8:∀b o,ak C L (ah h (W0++jR h1 ks hout)) b o->ak C L (ah h W0) b o:=by
       rw[cE];rintro b o (h0|⟨q,ab,hq,hl,b9,hf⟩)
       .exact .inl h0
       .by_cases ca:q∈ks
        .obtain⟨G,own,R,V⟩:=m q ca
         exact .inr ⟨q,_,V,trivial,b9,by simp[Blk.frz]⟩
        .rw[O.1 q ca]at hq;exact .inr ⟨q,ab,hq,hl,b9,hf⟩
      split at a
      .rename_i p _
       injection a with a;subst a;unfold Jv;split
       .rename_i X
        simp only[An]at X;have bq:ks=[]:=List.isEmpty_iff.1 X.1;subst bq;have z:Ext (λ_=>False) w H:=⟨j.os,j.tape,j.output,j.size,λS n _=>j.block S n (by simp)⟩;obtain⟨g1,g2⟩:=hm.grow z
        have e0:([]++jR h1 [] hout:List (Nat×Blk))=[]:=by cases hout<;>rfl
        show∃r L',_/\aZ C L h w L' (ah h ([]++jR h1 [] hout)) H/\_;rw[e0];exact⟨v,L,rfl,⟨g1,g2,KC.refl _ _⟩,.pv (tG X.2 s)⟩
       .exact⟨v,L,rfl,hA,.pv (Rep.mono (Pres.sub a8) s)⟩
      .rename_i p _
       split at a
       .rename_i bq
        injection a with a;subst a;subst bq;have z:Ext (λ_=>False) w H:=⟨j.os,j.tape,j.output,j.size,λS n _=>j.block S n (by simp)⟩;obtain⟨g1,g2⟩:=hm.grow z;exact⟨v,L,rfl,⟨g1,g2,KC.refl _ _⟩,.pv (Rep.mono (Pres.sub (λb o R=>hm.mlt R)) s)⟩
       .cases a
      .rename_i G q
       split at a
       .rename_i hq
        obtain⟨hq,rfl⟩:=hq;injection a with a;subst a;obtain⟨b,I,rfl,J⟩:=s;have F:=N q (by rw[<-(f q rfl).1];simpa using hq);simp only;rw[cE,kr];obtain⟨arr,ty,e1,e2⟩:=J;have z:Ext (λ_=>False) w H:=⟨j.os,j.tape,j.output,j.size,λS n _=>j.block S n (by simp)⟩
        have A:=T.1.newKey F (f q rfl).2 (l:=⟨b,0,false⟩) (ab:=.box (G.map .pv) true false) z (λ_=>I) (by intro cv cw e;injection e with _ e2;cases e2)
         ⟨arr,ty,e1,aB.map_pv (e2.mono (Pres.sub (λS o' hh=>hh.elim .inl (λR=>.inr R.2))))⟩
        refine⟨_,aH L q ⟨b,0,false⟩,rfl,T.trans A,?_⟩;have:=RepA.ptr (w:=H) (M:=ak C (aH L q ⟨b,0,false⟩) (aH (ah h W0) q (some (.box (G.map .pv) true false)))) (L:=aH L q ⟨b,0,false⟩) (h:=aH (ah h W0) q (some (.box (G.map .pv) true false))) (k:=q) (off:=0) (aE _ _ _);rw[aE]at this;exact this
       .cases a
      .rename_i e9 sz xs q
       split at a
       .rename_i hq
        obtain⟨hq,rfl⟩:=hq;injection a with a;subst a;obtain⟨l,rfl,I,J⟩:=s;have F:=N q (by rw[<-(f q rfl).1];simpa using hq);simp only;rw[cE,kr];have z:Ext (λ_=>False) w H:=⟨j.os,j.tape,j.output,j.size,λS n _=>j.block S n (by simp)⟩;have A:=kY (e:=e9) (sz:=sz) (xs:=xs) T.1 z F (f q rfl).2 I J;exact⟨_,_,rfl,T.trans A.1,A.2⟩
       .cases a
      .rename_i e9 sz xs q
       split at a
       .rename_i hq
        obtain⟨hq,rfl⟩:=hq;injection a with a;subst a;obtain⟨X,l,rfl,I,J⟩:=s
        have cb:h q=none:=by rw[<-(f q rfl).1];simpa using hq
        have z:Ext (λ_=>False) w H:=⟨j.os,j.tape,j.output,j.size,λS n _=>j.block S n (by simp)⟩;have A:=kY (e:=e9) (sz:=sz) (xs:=xs) hm z cb (f q rfl).2 I (zO X J);simp only;rw[kr];exact⟨_,_,rfl,A.1,A.2⟩
       .cases a
      .rename_i pre e9 sz xs q
       split at a
       .rename_i hq
        obtain⟨hq,rfl⟩:=hq;injection a with a;subst a;obtain⟨l,cz,rfl,I,E,J⟩:=s;have F:=N q (by rw[<-(f q rfl).1];simpa using hq);simp only;rw[cE,kr];have z:Ext (λ_=>False) w H:=⟨j.os,j.tape,j.output,j.size,λS n _=>j.block S n (by simp)⟩;have A:=kY (e:=e9) (sz:=sz) (xs:=xs) T.1 z F (f q rfl).2 I J;refine⟨_,_,rfl,T.trans A.1,?_⟩
        have cd:∀b o,ak C (aH L q l) (aH (ah h W0) q (some (.row e9 sz xs 0))) b o->ak C L (ah h W0) b o\/(l.isNil=false/\b=l.b):=by
         rintro b o (h0|⟨k,ab,B,ad,D,ch⟩)
         .exact .inl (.inl h0)
         .by_cases b8:k=q
          .subst b8
           rw[aE]at B D ad;injection B with B;subst B;exact .inr ⟨ad,D.symm⟩
          .rw[bu b8]at B D ad
           exact .inl (.inr ⟨k,ab,B,ad,D,ch⟩)
        refine .agg _ _ (by simp[E.1]) ?_;intro i p u hp hu;by_cases hi:i<pre.length
        .rw[ZX (by simpa using hi),ZW,an hi]at hp
         rw[ZX (by rw[<-E.1];exact hi)]at hu;simp only[yAQ,Z9]at hp;subst hp;exact .pv ((E.2 i _ u (an hi) hu).mono (Pres.sub cd))
        .rw[yAa (by simpa using hi)]at hp
         rw[yAa (by rw[<-E.1];omega)]at hu;simp only[yAz]at hp
         have b7:i-pre.length=0:=by
          have:=(th.1 hp).1;simp at this;omega
         rw[<-E.1,b7]at hu;rw[b7]at hp;simp only[yBe,Z9]at hp hu;subst hp;subst hu;exact A.2
       .cases a
      .cases a
     .exact he.elim
end
theorem HP(e:u0 P t name=some f)(n:Nat):(method (n+1) t v name).run P w=.ok (f,v) w:=by
 unfold u0 at e;split at e
 .rename_i i hi
  split at e
  .rename_i m c
   split at e
   .rename_i hp
    have g:m.path.toList=[]:=by
     grind
    rw[method];simp only[Sem.run_bind,lM hi,Result.andThen_ok,c,g,follow]
    cases a:m.func with
    |none=>rw[a]at e;simp at e
    |some q=>
     obtain⟨j,b⟩:=q;rw[a]at e
     cases b with
     |true=>simp at e
     |false=>
      cases hd:P.underlying t with
      |none=>rw[hd]at e;simp at e
      |some d=>
       rw[hd]at e;simp only[Sem.run_pure,Result.andThen_ok,Sem.run_bind,receiverAt,cH hd]
       cases d<;>first|(simp at e;done)|(simp at e;subst e;rfl)
   .cases e
  .cases e
 .cases e
theorem JH(e:u0 P t name=some f):(method (P.types.size+Made.depth) t v name).run P w=.ok (f,v) w:=
 HP e (P.types.size+99)
theorem KO{d:Option Nat}(e:gz P (qe P name x) args d h K):∃t p f,x=.pv (.ifc t p)/\u0 P t name=some f/\qe P name x=.fn (.func f) [.pv p] []:=by
 unfold qe at e|-;split at e
 .rename_i t p
  split at e
  .grind
  .simp[gz,dw]at e
 .simp[gz,dw]at e
section
variable {C:Cx} {L:Nat->Loc} {h1 h:Hp} {w:World}
theorem KP(V:MemL C L h w)(hs:∀k b,h1 k=some b->h k=some b)(l:∀d,o.dst=some d->h1 d=h d/\d<2000000)
 (I:∀x∈o.op.operands,RepA w (ak C L h) L h (ρ x) (a.eval x)){hn:List Nat}{K:bF->Prop}(e:wi C.P hn o ρ h1 K){next:Act->World->Prop}{Q:Exit->Act->World->Prop}
 (y:∀j u F E,K j->aZ C L h w E (ah h j.2) F->RepA F (ak C E (ah h j.2)) E (ah h j.2) j.1 u->next (a.put o.dst u) F):o.wp C.P a w next Q:=by
 have M:iP (dI C.P hn o ρ h1) K->o.wp C.P a w next Q:=by
  intro e;unfold iP at e;split at e
  .rename_i j H
   obtain⟨v,W⟩:=j;obtain⟨n,u,F,E,D,Y,ha,N⟩:=JG V hs l I H;unfold Oper.wp;rw[D];rcases Y with rfl|⟨rfl,rfl⟩
   .exact y (v,W) u F E e ha N
   .exact y (v,W) undef F E e ha N
  .exact e.elim
 unfold wi at e;split at e
 .rename_i c z
  split at e
  .rename_i f m
   obtain⟨callee,args,argTypes⟩:=c;simp only at m e;subst m;have hf:RepA w (ak C L h) L h (ρ f) (a.eval f):=I f (by rw[z];simp[Op.operands,Call.operands]);have q:aB w (ak C L h) L h (args.toList.map ρ) (args.toList.map a.eval):=sA _ (λx G=>I x (by rw[z];simp at G;simp[Op.operands,Call.operands,G]));obtain⟨g,O,cs,Z,i,j,hK,T⟩:=wW V hs l hf q e;unfold Oper.wp
   have B:(execOp a.eval o).run C.P w=.ok (.enter g (O.toList++args.toList.map a.eval++cs.toList).toArray) w:=by
    unfold dW at i
    cases s:C.P.funcs[g]? with
    |none=>rw[s]at i;cases i
    |some fn=>
     rw[s]at i;simp only[An,yAI,yA6,ne_eq]at i
     have R:fn.body.isNone=false:=by cases S:fn.body<;>simp_all
     have A:(O++args.map a.eval)++cs=(O.toList++args.toList.map a.eval++cs.toList).toArray:=by
      grind
     unfold execOp;rw[z];simp only[resolve,Z,Deferred.ofValue,pure_bind,Sem.run_bind,Result.andThen_ok,invoke,callFunc,program,Sem.run,s];simp[i.2,R,A]
   rw[B];simp only[Oper.upon];refine T.mono ?_
   grind
  .rename_i r name m
   obtain⟨callee,args,argTypes⟩:=c;simp only at m e;subst m;have D:RepA w (ak C L h) L h (ρ r) (a.eval r):=I r (by rw[z];simp[Op.operands,Call.operands]);have q:aB w (ak C L h) L h (args.toList.map ρ) (args.toList.map a.eval):=sA _ (λx G=>I x (by rw[z];simp at G;simp[Op.operands,Call.operands,G]));obtain⟨t,p,f,G,X,hi⟩:=KO e;rw[G]at D;generalize Z:a.eval r=u at D
   cases D with
   |pv D=>cases D with
    |ifc _ _ v N=>
     have hf:RepA w (ak C L h) L h (qe C.P name (ρ r)) (.func (.func f) #[v] #[]):=by
      rw[hi];exact .fn (.func f) [.pv p] [] [v] [] rfl rfl (aB.cons (.pv N) .nil).2 aB.nil.2
     obtain⟨g,O,cs,ad,i,j,hK,T⟩:=wW V hs l hf q e;injection ad with J e2 e3;injection J with J;subst J;subst e2;subst e3;unfold Oper.wp
     have B:(execOp a.eval o).run C.P w=.ok (.enter f (#[v].toList++args.toList.map a.eval++#[].toList).toArray) w:=by
      unfold dW at i
      cases s:C.P.funcs[f]? with
      |none=>rw[s]at i;cases i
      |some fn=>
       rw[s]at i;simp only[An,yAI,yA6,ne_eq]at i
       have R:fn.body.isNone=false:=by cases S:fn.body<;>simp_all
       have A:#[v]++args.map a.eval=(#[v].toList++args.toList.map a.eval++#[].toList).toArray:=by
        apply Array.ext';simp
       have U:(#[Value.iface t v]++args.map a.eval).extract 1 (#[Value.iface t v]++args.map a.eval).size=args.map a.eval:=by
        apply Array.ext';simp;exact yAu (by simp)
       have h0:(#[Value.iface t v]++args.map a.eval)[0]?=some (.iface t v):=by rw[yAH (by simp)];rfl
       unfold execOp;rw[z];simp only[resolve,Z,pure_bind,Sem.run_bind,Result.andThen_ok,invoke,h0,callMethod,U];rw[show Sem.run C.P program w=.ok C.P w from rfl,Result.andThen_ok,JH X,Result.andThen_ok];simp only[callFunc,program,Sem.run_bind,Sem.run,s,Result.andThen_ok];rw[A];simp[i.2,R]
     rw[B];simp only[Oper.upon];refine T.mono ?_;rintro J F ⟨r,E,rfl,hA,D⟩;exact y j r F E hK hA D
  grind
 grind
end
def jZ(P:Program)(a:List Deferred):Prop:=∀d∈a,∃g cap,d.target=.fn (.func g) cap/\dR P g
theorem jZ.nil(P:Program):jZ P []:=λd h=>by simp at h
def gQ(C:Cx)(st:St)(a:Act)(w:World):Prop:=
 ∃L,MemL C L st.h w/\a.tmps.size=C.N/\jZ C.P a.defers/\∀n,RepA w (ak C L st.h) L st.h (st.t n) (a.tmps.getD n undef)
theorem dM(b:∀n,RepA w (ak C L st.h) L st.h (st.t n) (a.tmps.getD n undef))(x:Operand):RepA w (ak C L st.h) L st.h (st.ev x) (a.eval x):=by
 cases x with
 |tmp n=>exact b n
 |const v=>exact .pv (.val v)
 |global g=>exact .undef _
 |func f=>exact .pv (.val _)
theorem vg(hd:d<a.tmps.size)(n:Nat):(a.put (some d) u).tmps.getD n undef=if n=d then u else a.tmps.getD n undef:=by
 simp only[Act.put,yAc]
 grind
theorem gQ.put(_:MemL C L st.h w)(hN:a.tmps.size=C.N)(f:jZ C.P a.defers)(g:∀n,RepA w (ak C L st.h) L st.h (st.t n) (a.tmps.getD n undef))
 {d:Option Nat}(hd:lu C.N d=true){v:AV}{W:List (Nat×Blk)}{u:Value}{w':World}{L':Nat->Loc}(c:aZ C L st.h w L' (ah st.h W) w')(i:RepA w' (ak C L' (ah st.h W)) L' (ah st.h W) v u):
 gQ C (st.put d v W) (a.put d u) w':=by
 refine⟨L',c.1,?_,?_,λn=>?_⟩
 .cases d<;>simp[Act.put,hN]
 .cases d<;>exact f
 .have b:=(g n).mono c.2.1 c.2.2
  cases d with
  |none=>exact b
  |some d=>
   have e:d<a.tmps.size:=by rw[hN];simp only[lu,An,Is]at hd;exact hd.1
   rw[vg e];simp only[St.put,aH]
   grind
theorem j5{t:Nat->AV}(k:∀n,RepA w (ak C L h) L h (t n) (a.tmps.getD n undef)){g:Bool}(e:lI ops t o.guard=some g):
 Region.wanted o (yielded ops a.tmps)=g:=by
 unfold lI at e;unfold Region.wanted;split at e
 .grind
 .rename_i j want l
  rw[l];simp only;split at e
  .rename_i d hd
   split at e
   .rename_i b f
    injection e with e;subst e;have:=k d;rw[f]at this
    have c:a.tmps.getD d undef=.bool b:=by cases this with|pv hr=>exact aX hr
    have i:a.tmps[d]?=some (.bool b):=by
     rw[yAc]at c
     cases hq:a.tmps[d]? with
     |none=>rw[hq]at c;simp[undef]at c
     |some q=>rw[hq]at c;simp at c;rw[c]
    unfold yielded
    grind
   .rename_i q f
    injection e with e;subst e;have:=k d;rw[f]at this
    have c:a.tmps.getD d undef=.tuple q:=by cases this with|pv hr=>exact aX hr
    rw[yAc]at c;unfold yielded
    grind
   .cases e
  .cases e
theorem Oper.wp_defer{c:Call}(i:o.op=.defer c){f:Operand}(hf:c.callee=.value f)(e:c.args.size=0){g:FuncId}{vs:Array Value}(j:a.eval f=.func (.func g) vs cs)
 {next:Act->World->Prop}{Q:Exit->Act->World->Prop}(h:next (({a with defers:={target:=.fn (.func g) cs,args:=vs}::a.defers}:Act).put o.dst undef) w):o.wp P a w next Q:=by
 unfold Oper.wp;have b:c.args=#[]:=Array.size_eq_zero_iff.1 e
 have d:(execOp a.eval o).run P w=.ok (.defer {target:=.fn (.func g) cs,args:=vs}) w:=by
  unfold execOp;rw[i];simp only[resolve,hf,j,Deferred.ofValue,b,pure_bind,Sem.run_bind,Sem.run_pure,Result.andThen_ok];simp
 rw[d];exact h
theorem Rx{f:Fn}(b:RepA w M L h (.fn f first caps) u):∃a cs,u=.func f a cs:=by
 cases b with
 |fn _ _ _ a us e d h1 c=>exact⟨_,_,rfl⟩
theorem E3(_:MemL C L h w)(i:RepA w (ak C L h) L h x u)(e:qY h x=true):∃a n c,u=.slice a n c:=by
 unfold qY at e;split at e
 .cases i with
  |pv g=>
   cases g with
   |sl0 a c=>exact⟨_,_,_,rfl⟩
   |sl xs b o c p u f s r g=>exact⟨_,_,_,rfl⟩
 .rename_i k n
  split at e
  .rename_i e0 p xs q j
   simp only[An,Is]at e
   cases i with
   |arr d l m=>
    rw[j]at d;injection d with d;injection d with a1 a2 a3 a4;subst a3;rw[m e.1,Loc.slice];split<;>exact⟨_,_,_,rfl⟩
  .cases e
 .cases e
theorem yM(p:MemL C L st.h w)(hN:a.tmps.size=C.N)(m:jZ C.P a.defers)(q:∀n,RepA w (ak C L st.h) L st.h (st.t n) (a.tmps.getD n undef))
 {o:Oper}(hd:lu C.N o.dst=true){hn:List Nat}{K:bF->Prop}(e:CV C.P hn o st.ev st.h K){next:Act->World->Prop}{Q:Exit->Act->World->Prop}
 (i:∀j E D,K j->gQ C (st.put o.dst j.1 j.2) E D->next E D):o.wp C.P a w next Q:=by
 have v:wi C.P hn o st.ev st.h K->o.wp C.P a w next Q:=λe=>
  KP p (λ_ _ h=>h) (λd z=>⟨rfl,by rw[z]at hd;simp only[lu,An,Is]at hd;exact hd.2⟩) (λx _=>dM q x) e (λj u D L' X T B=>i j _ _ X (gQ.put p hN m q hd T B))
 unfold CV at e;split at e
 .rename_i c k
  split at e
  .rename_i f r
   split at e
   .rename_i S
    unfold H7 at e;split at e
    .rename_i g first caps A
     obtain⟨H,cs,B⟩:=Rx (by have:=dM q f;rw[A]at this;exact this);refine Oper.wp_defer k r S B (i _ _ _ e.2 ?_)
     have hq:jZ C.P ({target:=.fn (.func g) cs,args:=H}::a.defers):=by
      intro d l;rcases yAv.1 l with rfl|l
      .grind
      .exact m d l
     exact gQ.put (a:={a with defers:={target:=.fn (.func g) cs,args:=H}::a.defers}) p hN hq q hd (W:=[]) (aZ.refl p) (.undef _)
    .exact e.elim
   .exact e.elim
  .exact e.elim
 .rename_i op t x y t' k
  split at e
  .rename_i G
   simp only[An,yAV,yAU]at G;obtain⟨⟨⟨J,M⟩,O⟩,c4⟩:=G;have Z:=FO J (dM q y);obtain⟨F,n,c,Y⟩:=E3 p (dM q x) O
   obtain⟨b,V⟩:∃b:Bool,(op=.eql/\b=F.isNone)\/(op=.neq/\b=!F.isNone):=by
    grind
   have s:(execOp a.eval o).run C.P w=.ok (.value (.bool b)) w:=by
    obtain⟨R,ax,ty,pos,I,g⟩:=o;simp only at k;subst k;exact gU (Ia (wP M) Y Z V) w
   have U:K (.pv (.val (.bool b)),[]):=by cases b with
    |true=>exact e.1
    |false=>exact e.2
   unfold Oper.wp;rw[s];exact i _ _ _ U (gQ.put p hN m q hd (W:=[]) (aZ.refl p) (.pv (.val _)))
  grind
 grind
theorem iJ{C:Cx}{hn:List Nat}{j:Array Oper}{Q:St->Prop}{u:Exit->Act->World->Prop}(k:∀st a w,gQ C st a w->Q st->u .normal a w):
 ∀{l:List Oper}{st:St}{a:Act}{w:World},gQ C st a w->fW C.P hn C.N j Q l st->wpList C.P j u l a w
 |[],st,a,w,s,e=>k st a w s e
 |o::l,st,a,w,s,e=>by
  obtain⟨L,m,hN,f,i⟩:=s;simp only[fW]at e;obtain⟨hd,e⟩:=e;refine wpList_step (λK p=>?_);split at e
  .rename_i q
   rw[j5 i (tD q),yAb rfl];exact yM m hN f i hd e (λn v x r c=>p _ _ (iJ k c r))
  .rename_i d b want q
   rw[j5 i (pC q)];unfold Bo at e;simp only at e;split at e
   .rename_i g
    subst g;rw[yAb (by simp)];exact yM m hN f i hd e (λn v x r c=>p _ _ (iJ k c r))
   .rename_i g
    rw[L4 (by simpa using g)];exact p _ _ (iJ k (gQ.put m hN f i hd (W:=[]) (aZ.refl m) (.pv (.val _))) e)
  .exact e.elim
def WP(C:Cx)(c:Code)(Q:Exit->St->Prop)(st:St):Prop:=∀a w,gQ C st a w->c.wp C.P (λe d f=>∃b,gQ C b d f/\Q e b) a w
section
variable {C:Cx} {Q:Exit->St->Prop} {st:St}
theorem WP.region(h:fW C.P hn C.N ops (Q .normal) ops.toList st):WP C (.region id ops false) Q st:=
 λ_ _ c=>wp_region_list (iJ (λb _ _ a hq=>⟨b,a,hq⟩) c h)
def FT(C:Cx)(y:Code)(Q:Exit->St->Prop):Exit->St->Prop
 |.normal,st=>WP C y Q st
 |e,st=>Q e st
theorem WP.seq{x:Code}(h:WP C x (FT C y Q) st):WP C (.seq x y) Q st:=by
 intro a w f;refine wp_seq (wp_mono (h a w f) ?_);rintro e d g ⟨c,b,hq⟩
 cases e with
 |normal=>exact hq d g b
 |_=>exact⟨c,b,hq⟩
theorem WP.mono{g:Exit->St->Prop}(h:WP C c Q st)(hq:∀e st,Q e st->g e st):WP C c g st:=
 λa w i=>wp_mono (h a w i) (λe _ _ ⟨b,f,d⟩=>⟨b,f,hq e b d⟩)
theorem WP.skip(h:Q .normal st):WP C .skip Q st:=λ_ _ a=>wp_skip ⟨st,a,h⟩
theorem WP.ret(h:Q .ret st):WP C .ret Q st:=λ_ _ a=>wp_ret ⟨st,a,h⟩
theorem WP.exit(h:Q (.exit id) st):WP C (.exit id) Q st:=λ_ _ a=>wp_exit ⟨st,a,h⟩
theorem WP.cond{c:Operand}{x:Code}(i:st.ev c=.pv (.val (.bool b)))(l:b=true->WP C x Q st)(hf:b=false->WP C y Q st):WP C (.cond c x y) Q st:=by
 intro a w f
 have d:a.eval c=.bool b:=by
  obtain⟨L,m,hN,j,g⟩:=f;have:=dM g c;rw[i]at this
  cases this with
  |pv k=>exact aX k
 exact wp_cond_split d (λe=>l e a w f) (λe=>hf e a w f)
def yN(id:Nat)(Q:Exit->St->Prop):Exit->St->Prop
 |.exit i,st=>if i=id then Q .normal st else Q (.exit i) st
 |e,st=>Q e st
theorem WP.block(h:WP C c (yN id Q) st):WP C (.block id c) Q st:=by
 intro a w f;refine wp_block (wp_mono (h a w f) ?_);rintro e g j ⟨d,b,hq⟩
 cases e with
 |exit i=>
  simp only[yN,Exit.inBlock]at hq|-
  grind
 |_=>exact⟨d,b,hq⟩
def jS(ks:List Nat):AV->Bool
 |.pv _=>false
 |.ptr k _|.arr k _|.eptr k _ _ _=>ks.contains k
 |.ext x=>ks.contains x.key
 |_=>true
def M4(ks:List Nat):AV->Bool
 |.agg cs=>cs.any (jS ks)
 |.fn _ first caps=>first.any (jS ks)||caps.any (jS ks)
 |.tup _=>true
 |x=>jS ks x
def iD(ks:List Nat)(x:AV):AV:=if M4 ks x=true then .undef else x
def fA(ks:List Nat):Blk->Blk
 |.box cs own a=>.box (cs.map (iD ks)) own a
 |b=>b
def St.kill(ks:List Nat)(st:St):St:=⟨λn=>iD ks (st.t n),λk=>if ks.contains k=true then none else(st.h k).map (fA ks)⟩
def wX(ks:List Nat)(h:Hp):Hp:=λk=>if ks.contains k=true then none else h k
theorem qZ{ab:Blk}(a:ks.contains k=false)(b:h k=some ab):wX ks h k=some ab:=by
 unfold wX;rw[L4 (by rw[a];decide),b]
theorem ki(hd:jS ks x=false)(i:RepA w M L h x u):RepA w M L (wX ks h) x u:=by
 cases i with
 |pv f=>exact .pv f
 |ptr a=>exact .ptr (qZ (by simpa only[jS]using hd) a)
 |arr a hn b=>exact .arr (qZ (by simpa only[jS]using hd) a) hn b
 |eptr a hn b=>exact .eptr (qZ (by simpa only[jS]using hd) a) hn b
 |ext d=>
  cases d with
  |barr e a=>exact .ext (.barr e (qZ (by simpa only[jS,XV.key]using hd) a))
  |mp a=>exact .ext (.mp (qZ (by simpa only[jS,XV.key]using hd) a))
  |suf c a hn g b=>exact .ext (.suf c (qZ (by simpa only[jS,XV.key]using hd) a) hn g b)
 |agg=>cases hd
 |fn=>cases hd
 |tup=>cases hd
 |undef=>cases hd
theorem Ec(n:RepA w M L h x u):RepA w M L (wX ks h) (iD ks x) u:=by
 unfold iD;split
 .exact .undef _
 .rename_i hd
  have hd:M4 ks x=false:=by simpa using hd
  have d:∀{cs:List AV}{i:Nat}{p:AV},cs.any (jS ks)=false->cs[i]?=some p->jS ks p=false:=by
   grind
  cases n with
  |agg cs j e l=>exact .agg cs j e (λi p u a b=>ki (d hd a) (l i p u a b))
  |fn f first caps j us e c h1 k=>
   have hd:(first.any (jS ks)||caps.any (jS ks))=false:=hd;rw[yBf]at hd
   exact .fn f first caps j us e c (λi p u a b=>ki (d hd.1 a) (h1 i p u a b)) (λi p u a b=>ki (d hd.2 a) (k i p u a b))
  |tup=>cases hd
  |undef=>exact .undef _
  |pv m=>exact ki hd (.pv m)
  |ptr c=>exact ki hd (.ptr c)
  |arr c hn b=>exact ki hd (.arr c hn b)
  |eptr c hn b=>exact ki hd (.eptr c hn b)
  |ext g=>exact ki hd (.ext g)
theorem FU(ks:List Nat)(b:Blk)(l:Loc):eY b l (fA ks b) l:=by cases b<;>simp[eY,fA]
theorem Ib:KC L (wX ks h) L (λk=>if ks.contains k=true then none else(h k).map (fA ks)):=by
 intro k ab a;unfold wX at a;split at a
 .cases a
 .rename_i b
  exact⟨fA ks ab,by simp only[L4 b,a];rfl,FU ks ab _⟩
theorem wY(hp:Pres w M w M')(a:RepA w M L h x u):
 RepA w M' L (λk=>if ks.contains k=true then none else(h k).map (fA ks)) (iD ks x) u:=(Ec a).mono hp Ib
theorem gQ.kill(ks:List Nat)(hs:gQ C st a w):gQ C (st.kill ks) a w:=by
 obtain⟨L,g,hN,z,Z⟩:=hs
 have d:∀k c,(st.kill ks).h k=some c->∃ab,st.h k=some ab/\fA ks ab=c/\c.live (L k)=ab.live (L k)/\∀o,c.frz o=ab.frz o:=by
  intro k c f;simp only[St.kill]at f;split at f
  .cases f
  .simp only[II]at f
   obtain⟨ab,h1,rfl⟩:=f;exact⟨ab,h1,rfl,by cases ab<;>rfl,λo=>by cases ab<;>rfl⟩
 have V:∀b o,ak C L (st.kill ks).h b o->ak C L st.h b o:=by
  rintro b o (S|⟨k,c,f,B,W,hf⟩)
  .exact .inl S
  .obtain⟨ab,h1,_,T,U⟩:=d k c f
   exact .inr ⟨k,ab,h1,T▸B,W,U o▸hf⟩
 have hp:Pres w (ak C L st.h) w (ak C L (st.kill ks).h):=Pres.sub V;refine⟨L,⟨g.ext,g.m0,?_,?_,?_⟩,hN,z,λn=>wY hp (Z n)⟩
 .intro k c f
  obtain⟨ab,h1,rfl,_,_⟩:=d k c f;have:=g.bl k ab h1
  cases ab with
  |box cs own y=>
   obtain⟨arr,ty,v,m⟩:=this;refine⟨arr,ty,v,by simpa using m.1,λi p u l F=>?_⟩;simp only[ZW,II]at l;obtain⟨q,hq,rfl⟩:=l;exact wY hp (m.2 i q u hq F)
  |row e sz xs y=>
   obtain⟨H,I,J,K,M⟩:=this;refine⟨H,I,J,K,λhn=>?_⟩;obtain⟨r,s,arr,N,O,P⟩:=M hn;exact⟨r,s,arr,N,O,λi x j p hx X=>by obtain⟨u,F,Y⟩:=P i x j p hx X;exact⟨u,F,Y.mono hp⟩⟩
  |mp kd n es y=>exact this
 .intro k G r s E f A B D
  obtain⟨Q,d1,_,v,_⟩:=d k r f;obtain⟨R,d2,_,m,_⟩:=d G s A;exact g.sep k G Q R E d1 d2 (v▸B) (m▸D)
 .intro k c f
  obtain⟨ab,h1,rfl,_,_⟩:=d k c f;have:=g.own k ab h1
  cases ab with
  |box cs own y=>cases own<;>exact this
  |row=>exact this
  |mp=>exact this
theorem WP.loop(ks:List Nat)(I:St->Prop)(μ:St->Nat)(A:I (st.kill ks))
 (round:∀st,I st->WP C c (λe d=>match e with|.normal=>I (d.kill ks)/\μ (d.kill ks)<μ st|e=>Q e d) st):WP C (.loop c) Q st:=by
 intro a w u
 have key:∀n st a w,μ st=n->I st->gQ C st a w->∀b k cs,∃e o p,(∃d,gQ C d o p/\Q e d)/\Arrives C.P (lone (b.at a (.code c::.inLoop c::k)) cs w) b k cs e o p:=by
  intro n
  induction n using Nat.strongRecOn with
  |_ n ih=>
   intro st a w hn z u b k cs;obtain⟨e,j,m,⟨d,g,hq⟩,f⟩:=round st z a w u b (.inLoop c::k) cs
   cases e with
   |normal=>
    obtain⟨q,r⟩:=hq;obtain⟨y,v,B,s,i⟩:=ih (μ (d.kill ks)) (hn▸r) _ j m rfl q (g.kill ks) b k cs;exact⟨y,v,B,s,.of_steps (Steps.trans f (.one step_inLoop)) i⟩
   |exit id=>exact⟨_,j,m,⟨d,g,hq⟩,.pass (x:=.inLoop c) rfl (λ_ _=>.inl (by simp)) f⟩
   |goto l=>exact⟨_,j,m,⟨d,g,hq⟩,.pass (x:=.inLoop c) rfl (λ_ _=>.inl (by simp)) f⟩
   |ret=>exact⟨_,j,m,⟨d,g,hq⟩,.pass (x:=.inLoop c) rfl (λ_ _=>.inl (by simp)) f⟩
   |panic D=>exact⟨_,j,m,⟨d,g,hq⟩,.pass (x:=.inLoop c) rfl (λ_ _=>.inl (by simp)) f⟩
   |outgrown=>exact⟨_,j,m,⟨d,g,hq⟩,.pass (x:=.inLoop c) rfl (λ_ _=>.inl (by simp)) f⟩
 intro b k cs;obtain⟨e,o,p,hq,f⟩:=key _ (st.kill ks) a w rfl A (u.kill ks) b k cs;exact⟨e,o,p,hq,.of_steps (.one step_loop) f⟩
end
def pk(i:Nat):Nat:=1000000+i
def M5(args:List Arg):Nat->AV:=λn=>match args[n]? with
 |some (.pv p)=>.pv p
 |some (.bx i)=>.ptr (pk i) 0
 |none=>.undef
def C8(a:List (List PV)):Hp:=λk=>if k<1000000 then none else match a[k-1000000]? with
 |some b=>some (.box (b.map .pv) false false)
 |none=>none
def zQ(args:List Arg)(a:List (List PV)):St:=⟨M5 args,C8 a⟩
def nD(P:Program)(st:St):List ResultVar->Option (List AV)
 |[]=>some []
 |.tmp t::r=>(nD P st r).map (st.t t::·)
 |.cell a b::r=>match ag P b with
  |some ti=>match wI ti (st.t a) st.h,nD P st r with
   |some v,some c=>some (v::c)
   |_,_=>none
  |none=>none
def wZ(P:Program)(st:St)(rs:List ResultVar):Option AV:=match nD P st rs with
 |some [v]=>some v
 |some a=>some (.tup a)
 |none=>none
def yP(P:Program)(rs:List ResultVar)(hout:List (List PV))(c:RV)(st:St):Prop:=
 ∃r,wZ P st rs=some r/\(∀(i:Nat) b,hout[i]?=some b->st.h (pk i)=some (.box (b.map .pv) false false))/\
  (match c with
  |.pv p=>∃W,frz st.h r=some (p,W)
  |.new p=>Pn st.h r=some p
  |.box b=>∃k,r=.ptr k 0/\st.h k=some (.box (b.map .pv) true false)
  |.row e a xs=>∃k,r=.arr k xs.length/\st.h k=some (.row e a xs 0)
  |.nrow e a xs=>xs.all jG=true/\∃k,r=.arr k xs.length/\st.h k=some (.row e a xs 0)
  |.srow pre e a xs=>∃k,r=.agg (pre.map .pv++[.arr k xs.length])/\st.h k=some (.row e a xs 0))
def KQ(P:Program)(rs:List ResultVar)(hout:List (List PV))(a:RV):Exit->St->Prop
 |.normal,st=>yP P rs hout a st
 |.ret,st=>yP P rs hout a st
 |_,_=>False
theorem KR{g:FuncId}(c:dW P g=true)(cap a:Array Value)(w:World):(invoke (.fn (.func g) cap) a).run P w=.ok (.enter g (a++cap)) w:=by
 unfold dW at c
 cases b:P.funcs[g]? with
 |none=>rw[b]at c;cases c
 |some fn=>
  rw[b]at c;simp only[An,yAI,yA6,ne_eq]at c
  have d:fn.body.isNone=false:=by cases e:fn.body<;>simp_all
  simp only[invoke,callFunc,program,Sem.run_bind,Sem.run,Result.andThen_ok,b];simp[c.2,d]
theorem iS{P:Program}{fn:Func}{tmps:Array Value}{R:Ending->World->Prop}{w:World}{v:Value}:∀{a:List Deferred},jZ P a->(results fn tmps).run P w=.ok v w->R (.returned v) w->Leaves P fn tmps R a .returning w
 |[],_,c,b=>⟨v,c,b⟩
 |d::a,hq,c,b=>by
  obtain⟨g,cap,i,f⟩:=hq d (by simp);refine⟨by simp,.func g,cap,g,d.args++cap,i,by rw[i];exact KR f.1 _ _ _,(f.2 _ w).mono ?_⟩;rintro e j l ⟨rfl,⟨k,rfl⟩,rfl⟩;exact iS (λd hd=>hq d (by simp[hd])) c b
def C9(tmps:Array Value):ResultVar->Sem Value
 |.tmp t=>pure (tmps.getD t undef)
 |.cell b t=>do loadVar t (<-asAddr (tmps.getD b undef))
section
variable {C:Cx} {L:Nat->Loc} {st:St} {a:Act} {w:World}
theorem pD(o:MemL C L st.h w)(k:∀n,RepA w (ak C L st.h) L st.h (st.t n) (a.tmps.getD n undef)):∀{rs:List ResultVar}{vs:List AV},nD C.P st rs=some vs->
 ∃us:List Value,(rs.mapM (C9 a.tmps)).run C.P w=.ok us w/\aB w (ak C L st.h) L st.h vs us
 |[],vs,e=>by
  simp only[nD,Z9]at e;subst e;exact⟨[],by simp,aB.nil⟩
 |.tmp t::r,vs,e=>by
  simp only[nD,II]at e;obtain⟨x,l,rfl⟩:=e;obtain⟨us,h1,m⟩:=pD o k l;refine⟨a.tmps.getD t undef::us,?_,.cons (k t) m⟩;simp only[List.mapM_cons,C9,Sem.run_bind,Sem.run_pure,Result.andThen_ok,h1]
 |.cell b z::r,vs,e=>by
  simp only[nD]at e;split at e
  .rename_i ti s
   split at e
   .rename_i v x e0 l
    injection e with e;subst e;obtain⟨us,h1,m⟩:=pD o k l;obtain⟨u,c,q⟩:=wN o (λ_ _ h=>h) s (k b) e0;refine⟨u::us,?_,.cons q m⟩
    have d:∃f,a.tmps.getD b undef=.pointer (some f):=by
     unfold Instr.loadAt at c
     cases y:a.tmps.getD b undef with
     |pointer p=>cases p with
      |none=>rw[y]at c;simp[Instr.sureAddr,stuck]at c
      |some f=>exact⟨f,rfl⟩
     |_=>rw[y]at c;simp[Instr.sureAddr,stuck]at c
    obtain⟨f,g⟩:=d;rw[g]at c;have j:(loadVar z f).run C.P w=.ok u w:=c
    have i:(C9 a.tmps (.cell b z)).run C.P w=.ok u w:=by simp only[C9,g,asAddr,pure_bind,j]
    simp only[List.mapM_cons,Sem.run_bind,i,Sem.run_pure,Result.andThen_ok,h1]
   .cases e
  .cases e
theorem By(i:MemL C L st.h w)(j:∀n,RepA w (ak C L st.h) L st.h (st.t n) (a.tmps.getD n undef)){r:AV}(e:wZ C.P st fn.results.toList=some r):
 ∃u,(results fn a.tmps).run C.P w=.ok u w/\RepA w (ak C L st.h) L st.h r u:=by
 unfold wZ at e
 have key:∀b us,(fn.results.toList.mapM (C9 a.tmps)).run C.P w=.ok us w->aB w (ak C L st.h) L st.h b us->
  (results fn a.tmps).run C.P w=.ok (if h:us.toArray.size=1 then us.toArray[0]else .tuple us.toArray) w:=by
  intro b us h1 _;have:results fn a.tmps=(do let b <-fn.results.mapM (C9 a.tmps);pure (if h:b.size=1 then b[0]else .tuple b)):=rfl;rw[this,Array.mapM_eq_mapM_toList];simp only[Sem.run_bind,Sem.run_map,h1,Result.andThen_ok];rfl
 split at e
 .rename_i v f
  injection e with e;subst e;obtain⟨us,h1,c⟩:=pD i j f;obtain⟨u,k,rfl,l,hn⟩:=c.cons_inv;have:=hn.nil_inv;subst this
  grind
 .rename_i b d f
  injection e with e;subst e;obtain⟨us,h1,c⟩:=pD i j f;refine⟨.tuple us.toArray,?_,.tup b us c.1 c.2⟩;rw[key _ _ h1 c]
  have:¬us.length=1:=by
   intro g
   cases b with
   |nil=>have:=c.1;simp at this;rw[<-this]at g;simp at g
   |cons v r=>cases r with
    |nil=>exact d v rfl
    |cons=>have:=c.1;simp at this;omega
  simp[this]
 .cases e
end
section
variable {C:Cx} {L:Nat->Loc} {h:Hp} {w:World}
abbrev xc(C:Cx):Nat->Nat->Prop:=λb _=>b<C.w0.heap.size
theorem Bz(g:MemL C L h w)(m:∀{b:Nat},(C.w0.heap.size<=b\/(C.S b/\∀o,¬C.M0 b o))->C.w0.heap.size<=b)(f:RepA w (ak C L h) L h x u)(e:Aq h x=some p):Rep w (xc C) p u:=by
 cases x with
 |pv q=>
  simp only[Aq]at e;split at e
  .rename_i hq
   injection e with e;subst e
   cases f with
   |pv M=>exact FS hq M
  .cases e
 |arr k n=>
  simp only[Aq]at e;split at e
  .rename_i P D xs H c
   split at e
   .rename_i A
    injection e with e;subst e
    cases f with
    |arr a K N=>
     rw[c]at a;injection a with a;injection a with l s v z;subst l;subst s;subst v;subst z;rw[N A.1];obtain⟨_,_,g3,I,J⟩:=g.bl k _ c;unfold Loc.slice
     cases hn:(L k).isNil with
     |true=>rw[I hn];exact .sl0 none 0
     |false=>
      obtain⟨l,s,arr,v,z,O⟩:=J hn;have B:=m ((g.own k _ c).row hn);simp only[ZY,yAi];rw[<-A.1];refine .sl xs (L k).b 0 (L k).cap D (λi j=>(arr[i*D+j]?).getD undef) l (λi x f=>g3 x (In f)) ?_ ?_
      all_goals grind [gm,ub,List.all_eq_true,List.mem_of_getElem?]
   .cases e
  .cases e
 |ext y=>
  cases y with
  |barr=>cases e
  |suf=>cases e
  |mp k=>
   simp only[Aq]at e;split at e
   .rename_i kd n G H c
    injection e with e;subst e;obtain⟨arr,clock,E,F⟩:=g.bl k _ c
    cases f with
    |ext r=>cases r with
     |mp _=>
      have Q:C.w0.heap.size<=(L k).b:=g.own k _ c;exact .mp kd n G _ arr clock E (λd=>by have d:(L k).b<C.w0.heap.size:=d;omega) F
   .cases e
 |_=>cases e
theorem zR(d:MemL C L h w)(a:∀{b:Nat},(C.w0.heap.size<=b\/(C.S b/\∀o,¬C.M0 b o))->C.w0.heap.size<=b):∀{xs:List AV}{us:List Value}{ps:List PV},aB w (ak C L h) L h xs us->yz h xs=some ps->bR w (xc C) ps us
 |[],us,ps,c,e=>by
  simp only[yz,Z9]at e;subst e;rw[c.nil_inv];exact .nil
 |x::r,us,ps,c,e=>by
  simp only[yz]at e;split at e
  .rename_i p k f g
   injection e with e;subst e;obtain⟨u,l,rfl,j,i⟩:=c.cons_inv;exact .cons (Bz d a j f) (zR d a i g)
  .cases e
theorem vi(s:MemL C L h w)(g:∀{b:Nat},(C.w0.heap.size<=b\/(C.S b/\∀o,¬C.M0 b o))->C.w0.heap.size<=b)(a:RepA w (ak C L h) L h x u)(e:CR h x=some p):Rep w (xc C) p u:=by
 unfold CR at e;split at e
 .rename_i k n B
  split at e
  .rename_i cs J E
   split at e
   .rename_i hn
    split at e
    .rename_i d G
     split at e
     .rename_i I
      injection e with e;subst e;obtain⟨arr,K,m,f⟩:=s.bl k _ E;have y:=zR s g f G;have F:C.w0.heap.size<=(L k).b:=g (s.own k _ E)
      have l:d.length=n:=by rw[y.1,<-f.1];exact hn
      have one:∀(i:Nat) x(j:Nat) p,d[i]?=some x->x.cells[j]?=some p->j=0/\p=x:=by
       grind [iR,List.all_eq_true,List.mem_of_getElem?]
      have get:∀(i:Nat) p,d[i]?=some p->∃v,arr[i]?=some v/\Rep w (xc C) p v:=by
       intro i p hp
       have r:i<arr.toList.length:=by rw[<-y.1];exact(th.1 hp).1
       have c:arr.toList[i]?=some (arr.toList[i]):=an r;exact⟨_,by rw[<-Array.getElem?_toList];exact c,y.2 i p _ hp c⟩
      cases a with
      |ext A=>cases A with
       |barr H _=>
        have key:Rep w (xc C) (.sl d) (.slice (some ⟨(L k).b,0,none⟩) d.length B):=by
         refine .sl d (L k).b 0 B 1 (λi _=>(arr[i]?).getD undef) (by omega) (λi x a=>by rw[iR (IV.1 I x (In a))];rfl) ?_ ?_
         .intro i x j p a q
          obtain⟨rfl,rfl⟩:=one i x j p a q;obtain⟨v,c,_⟩:=get i p a;refine⟨by rw[gm m];simp[c],λD=>?_⟩;have D:(L k).b<C.w0.heap.size:=D;omega
         .intro i x j p a q
          obtain⟨rfl,rfl⟩:=one i x j p a q;obtain⟨v,c,z⟩:=get i p a;simp only[c,yAl];exact z
        rw[l]at key;exact key
     .cases e
    .cases e
   .cases e
  .cases e
 grind [Bz]
theorem qF(d:MemL C L h w)(a:∀{b:Nat},(C.w0.heap.size<=b\/(C.S b/\∀o,¬C.M0 b o))->C.w0.heap.size<=b):∀{xs:List AV}{us:List Value}{ps:List PV},aB w (ak C L h) L h xs us->wJ h xs=some ps->bR w (xc C) ps us
 |[],us,ps,c,e=>by
  simp only[wJ,Z9]at e;subst e;rw[c.nil_inv];exact .nil
 |x::r,us,ps,c,e=>by
  simp only[wJ]at e;split at e
  .rename_i p k f g
   injection e with e;subst e;obtain⟨u,l,rfl,j,i⟩:=c.cons_inv;exact .cons (vi d a j f) (qF d a i g)
  .cases e
theorem FV(f:MemL C L h w)(a:∀{b:Nat},(C.w0.heap.size<=b\/(C.S b/\∀o,¬C.M0 b o))->C.w0.heap.size<=b)(D:RepA w (ak C L h) L h x u)(e:Bh h x=some p):Rep w (xc C) p u:=by
 unfold Bh at e;split at e
 .rename_i k
  split at e
  .rename_i cs F g
   split at e
   .rename_i s z
    obtain⟨arr,G,A,c⟩:=f.bl k _ g;have m:=qF f a c z;have l:C.w0.heap.size<=(L k).b:=a (f.own k _ g)
    have key:∀y:PV,y.cells=s->Rep w (xc C) (.rptr y 0) u:=by
     intro y E
     have get:∀(i:Nat) p,y.cells[i]?=some p->∃v,arr[i]?=some v/\Rep w (xc C) p v:=by
      intro i p hp;rw[E]at hp
      have d:i<arr.toList.length:=by rw[<-m.1];exact(th.1 hp).1
      have n:arr.toList[i]?=some (arr.toList[i]):=an d;exact⟨_,by rw[<-Array.getElem?_toList];exact n,m.2 i p _ hp n⟩
     cases D with
     |ptr _=>
      refine .rptr y (L k).b 0 0 (λj=>(arr[j]?).getD undef) (λj p B=>?_) (λj p B=>?_)
      all_goals grind [get,gm]
    split at e
    .rename_i hq
     injection e with e;subst e
     exact key _ (by cases s with
      |nil=>simp[ju]at hq
      |cons q r=>cases r with
       |nil=>simp only[ju]at hq;exact iR hq
       |cons _ _=>simp[ju]at hq)
    grind [kX]
   .cases e
  .cases e
 grind [vi]
theorem wq(d:MemL C L h w)(a:∀{b:Nat},(C.w0.heap.size<=b\/(C.S b/\∀o,¬C.M0 b o))->C.w0.heap.size<=b):∀{xs:List AV}{us:List Value}{ps:List PV},aB w (ak C L h) L h xs us->qV h xs=some ps->bR w (xc C) ps us
 |[],us,ps,c,e=>by
  simp only[qV,Z9]at e;subst e;rw[c.nil_inv];exact .nil
 |x::r,us,ps,c,e=>by
  simp only[qV]at e;split at e
  .rename_i p k f g
   injection e with e;subst e;obtain⟨u,l,rfl,j,i⟩:=c.cons_inv;exact .cons (FV d a j f) (wq d a i g)
  .cases e
theorem KS(i:MemL C L h w)(c:∀{b:Nat},(C.w0.heap.size<=b\/(C.S b/\∀o,¬C.M0 b o))->C.w0.heap.size<=b)(k:RepA w (ak C L h) L h x u)(e:Pn h x=some p):Rep w (xc C) p u:=by
 unfold Pn at e;split at e
 .rename_i f first caps
  split at e
  .rename_i j qs d m
   injection e with e;subst e
   cases k with
   |fn _ _ _ l us g q h1 n=>
    have a:=qF i c ⟨g,h1⟩ d;have b:=wq i c ⟨q,n⟩ m;exact .fn f j qs l us a.1 b.1 a.2 b.2
  .cases e
 .rename_i l
  split at e
  .rename_i j d
   injection e with e;subst e
   cases k with
   |tup _ us g h1=>
    have a:=qF i c ⟨g,h1⟩ d;exact .tup j us a.1 a.2
  .cases e
 grind [vi]
end
theorem rd(hf:P.funcs[f]?=some fn)(l:fn.body=some c)(ad:dW P f=true){args:List Arg}(a7:args.length<=fn.ntmps)
 (b8:hout.length=hin.length)(b5:∀(i j:Nat),args[i]?=some (.bx j)->j<hin.length)
 (h:∀C:Cx,C.P=P->C.N=fn.ntmps->WP C c (KQ P fn.results.toList hout res) (zQ args hin)):aO P f args hin hout res:=by
 refine⟨ad,b8,λw M F E hM a6 cf I a5 U=>?_⟩
 let C:Cx:={P:=P,N:=fn.ntmps,M0:=M,S:=λb=>b∈F,pb:=λk=>if k<1000000 then none else F[k-1000000]?,w0:=w}
 let L:Nat->Loc:=λk=>⟨(F[k-1000000]?).getD 0,0,false⟩
 have X:∀k ab,(zQ args hin).h k=some ab->∃i D b,k=pk i/\hin[i]?=some D/\F[i]?=some b/\ab=.box (D.map .pv) false false:=by
  intro k ab a;simp only[zQ,C8]at a;split at a
  .cases a
  .rename_i cd
   split at a
   .rename_i D s
    injection a with a
    have g:k-1000000<F.length:=by rw[a6];exact(th.1 s).1
    exact⟨k-1000000,D,F[k-1000000],by unfold pk;omega,s,an g,a.symm⟩
   .cases a
 have R:∀i b,F[i]?=some b->(L (pk i)).b=b:=by
  intro i b l;show(F[pk i-1000000]?).getD 0=b;rw[show pk i-1000000=i from by unfold pk;omega,l];rfl
 have ay:∀b o,ak C L (zQ args hin).h b o↔M b o:=by
  intro b o;constructor
  .rintro(h0|⟨k,ab,a,hl,l,hf⟩)
   all_goals grind
  .exact .inl
 have ax:ak C L (zQ args hin).h=M:=by funext b o;exact propext (ay b o)
 have b0:gQ C (zQ args hin) {tmps:=E.toArray++Array.replicate (fn.ntmps-E.toArray.size) undef,defers:=[]} w:=by
  refine⟨L,⟨Ext.refl _ _,hM,?_,?_,?_⟩,by show(E.toArray++Array.replicate (fn.ntmps-E.toArray.size) undef).size=fn.ntmps;simp;omega,jZ.nil _,λn=>?_⟩
  .intro k ab a
   obtain⟨i,D,b,rfl,s,l,rfl⟩:=X k ab a;obtain⟨arr,ty,e1,e2⟩:=(I i b D l s).2;refine⟨arr,ty,by rw[R i b l];exact e1,?_⟩
   grind [aB.map_pv]
  .grind [List.getElem?_eq_some_iff,List.getElem_inj]
  .intro k ab a
   obtain⟨i,D,b,rfl,s,l,rfl⟩:=X k ab a;refine⟨rfl,?_,?_,?_,?_⟩
   .rw[R i b l]
    show(if pk i<1000000 then none else F[pk i-1000000]?)=some b;rw[L4 (by unfold pk;omega),show pk i-1000000=i from by unfold pk;omega,l]
   .grind
   .rw[R i b l];exact hM b 0 ((I i b D l s).1 0)
   grind
  .rw[ax]
   simp only[zQ,M5];split
   .rename_i p hp
    have g:n<E.length:=by rw[<-a5];exact(th.1 hp).1
    have:=U n (.pv p) E[n] hp (an g)
    have K:(E.toArray++Array.replicate (fn.ntmps-E.toArray.size) undef).getD n undef=E[n]:=by
     rw[yAc,yAH (by simpa using g)];simp[g]
    simp only[K];exact .pv this
   .rename_i j hp
    have g:n<E.length:=by rw[<-a5];exact(th.1 hp).1
    obtain⟨b,l,hv⟩:=U n (.bx j) E[n] hp (an g)
    have K:(E.toArray++Array.replicate (fn.ntmps-E.toArray.size) undef).getD n undef=E[n]:=by
     rw[yAc,yAH (by simpa using g)];simp[g]
    simp only[K];rw[hv,<-R j b l];have hj:=b5 n j hp;refine .ptr (cs:=(hin[j]).map .pv) (own:=false) (fz:=false) ?_;simp only[C8,L4 (show¬pk j<1000000 by unfold pk;omega),show pk j-1000000=j from by unfold pk;omega]
    grind
   .exact .undef _
 refine calls_of_wp_defers hf l (wp_mono (h C rfl rfl _ w b0) ?_)
 have V:∀(Z:Act) Q z,gQ C z Z Q->yP P fn.results.toList hout res z->jZ P Z.defers/\∃v,(results fn Z.tmps).run P Q=.ok v Q/\
  ∃v',Ending.returned v=.returned v'/\Ext (·∈F) w Q/\(∀(i:Nat) b D,F[i]?=some b->hout[i]?=some D->ru Q M b D)/\KH w Q M res v':=by
  rintro Z Q z ⟨H,A,hN,b7,ht⟩ ⟨r,T,ca,m⟩;obtain⟨u,cb,G⟩:=By (C:=C) A ht T;have B:∀b o,M b o->ak C H z.h b o:=λb o h=>.inl h
  have J:∀{b:Nat},(C.w0.heap.size<=b\/(C.S b/\∀o,¬C.M0 b o))->w.heap.size<=b:=by
   intro b h9;rcases h9 with h9|⟨h9,b3⟩
   .exact h9
   .obtain⟨i,hi⟩:=yBg.1 (show b∈F from h9)
    have g:i<hin.length:=by rw[<-a6];exact(th.1 hi).1
    exact absurd ((I i b hin[i] hi (an g)).1 0) (b3 0)
  refine⟨b7,u,cb,u,rfl,A.ext,?_,?_⟩
  .intro i b D l s
   have a:=ca i D s;obtain⟨arr,ty,e1,e2⟩:=A.bl _ _ a;have q:=A.own _ _ a
   have bk:C.pb (pk i)=some b:=by
    show(if pk i<1000000 then none else F[pk i-1000000]?)=some b;rw[L4 (by unfold pk;omega),show pk i-1000000=i from by unfold pk;omega,l]
   have b4:(H (pk i)).b=b:=by
    have:=q.2.1;rw[bk]at this;injection this with this;exact this.symm
   rw[b4]at e1;exact⟨arr,ty,e1,e2.map_pv_inv.mono (Pres.sub B)⟩
  .cases res with
   |pv p=>
    obtain⟨W,hW⟩:=m;obtain⟨b1,b2,_⟩:=lL A (bW.refl _) G hW;exact b2.mono (Pres.sub (λb o h=>.inl h))
   |new p=>exact KS A J G m
   |box D=>
    obtain⟨k,rfl,a⟩:=m;obtain⟨arr,ty,e1,e2⟩:=A.bl _ _ a;have q:=J (A.own _ _ a)
    cases G with
    |ptr _=>
     refine⟨(H k).b,q,rfl,arr,ty,e1,e2.map_pv_inv.mono (Pres.sub ?_)⟩;rintro b o (h|rfl)
     .exact .inl h
     .exact .inr ⟨k,_,a,trivial,rfl,by simp[Blk.frz]⟩
   |row e sz xs=>
    obtain⟨k,rfl,a⟩:=m;have q:=A.own _ _ a;have l:=A.bl _ _ a
    have y:u=(H k).slice xs.length:=by
     cases G with
     |arr d a8 Y=>
      rw[a]at d;injection d with d;injection d with a1 a2 a3 a4;subst a3;exact Y rfl
    refine⟨H k,y,λhn=>J (q.row hn),?_⟩;obtain⟨c1,c2,c3,c4,c5⟩:=l;refine⟨c1,yAT _,c3,c4,λhn=>?_⟩;obtain⟨d1,d2,arr,d3,d4,d5⟩:=c5 hn;refine⟨d1,d2,arr,d3,d4,λi x j p hx hj=>?_⟩;obtain⟨v,hv,T⟩:=d5 i x j p hx hj;refine⟨v,hv,T.mono (Pres.sub ?_)⟩;rintro b o (h|⟨_,rfl⟩)
    .exact .inl h
    .exact .inr ⟨k,_,a,hn,rfl,by simp[Blk.frz]⟩
   |nrow e sz xs=>
    obtain⟨b9,k,rfl,a⟩:=m;have q:=A.own _ _ a;have l:=A.bl _ _ a
    have y:u=(H k).slice xs.length:=by
     cases G with
     |arr d a8 Y=>
      rw[a]at d;injection d with d;injection d with a1 a2 a3 a4;subst a3;exact Y rfl
    refine⟨b9,H k,y,λhn=>J (q.row hn),?_⟩;obtain⟨c1,c2,c3,c4,c5⟩:=l;refine⟨c1,yAT _,c3,c4,λhn=>?_⟩;obtain⟨d1,d2,arr,d3,d4,d5⟩:=c5 hn;refine⟨d1,d2,arr,d3,d4,λi x j p hx hj=>?_⟩;obtain⟨v,hv,T⟩:=d5 i x j p hx hj;refine⟨v,hv,T.mono (Pres.sub ?_)⟩;rintro b o (h|⟨_,rfl⟩)
    .exact .inl h
    .exact .inr ⟨k,_,a,hn,rfl,by simp[Blk.frz]⟩
   |srow pre e sz xs=>
    obtain⟨k,rfl,a⟩:=m;have q:=A.own _ _ a;have l:=A.bl _ _ a
    cases G with
    |agg _ us hl hh=>
     have a7:us.length=pre.length+1:=by simpa using hl.symm
     have g:pre.length<us.length:=by omega
     have O:=hh pre.length (.arr k xs.length) us[pre.length] (by rw[yAa (by simp)];simp) (an g)
     have y:us[pre.length]=(H k).slice xs.length:=by
      generalize us[pre.length]=u at O
      cases O with
      |arr d a8 Y=>
       rw[a]at d;injection d with d;injection d with a1 a2 a3 a4;subst a3;exact Y rfl
     have B:∀b o,(M b o\/((H k).isNil=false/\b=(H k).b))->ak C H z.h b o:=by
      rintro b o (h|⟨hn,rfl⟩)
      .exact .inl h
      .exact .inr ⟨k,_,a,hn,rfl,by simp[Blk.frz]⟩
     refine⟨H k,us.take pre.length,?_,λhn=>J (q.row hn),⟨by rw[yAN];omega,λi p u hp Y=>?_⟩,?_⟩
     .congr 1
      rw[<-y,<-List.take_succ_eq_append_getElem g,yAu (by omega)]
     .have hi:=(th.1 hp).1
      rw[yAw,yAb hi]at Y;have:=hh i (.pv p) u (by rw[ZX (by simpa using hi),ZW,hp];rfl) Y
      cases this with
      |pv T=>exact T.mono (Pres.sub B)
     .obtain⟨c1,c2,c3,c4,c5⟩:=l
      refine⟨c1,yAT _,c3,c4,λhn=>?_⟩;obtain⟨d1,d2,arr,d3,d4,d5⟩:=c5 hn;refine⟨d1,d2,arr,d3,d4,λi x j p hx hj=>?_⟩;obtain⟨v,hv,T⟩:=d5 i x j p hx hj;exact⟨v,hv,T.mono (Pres.sub B)⟩
 rintro e Z Q ⟨z,bq,hq⟩
 cases e with
 |normal=>obtain⟨h1,v,h2,h3⟩:=V Z Q z bq hq;exact iS h1 h2 h3
 |ret=>obtain⟨h1,v,h2,h3⟩:=V Z Q z bq hq;exact iS h1 h2 h3
 |exit=>exact hq.elim
 |goto=>exact hq.elim
 |panic=>exact hq.elim
 |outgrown=>exact hq.elim
section
variable {V:Type}
def j6(n:Nat)(wr:Nat->Option V)(x0:V)(a:Nat->Bool):V:=(List.range n).foldl (λx i=>if a i=true then(wr i).getD x else x) x0
theorem lP(n:Nat)(wr:Nat->Option V)(x0:V)(a:Nat->Bool):j6 (n+1) wr x0 a=if a n=true then(wr n).getD (j6 n wr x0 a)else j6 n wr x0 a:=by
 simp[j6,yBo,yB1]
theorem iE{wr:Nat->Option V}{x0:V}{ls':Nat->Bool}(h:∀j,j<n->(wr j).isSome=true->ls j=ls' j):j6 n wr x0 ls=j6 n wr x0 ls':=by
 induction n with
 |zero=>rfl
 |succ n ih=>
  rw[lP,lP,ih (λj b=>h j (by omega))]
  cases a:wr n with
  |none=>simp
  |some v=>rw[h n (by omega) (by simp[a])]
theorem BA{wr:Nat->Option V}{x0:V}(hi:i<=n):j6 n wr x0 (λj=>decide (j<i))=j6 i wr x0 (λ_=>true):=by
 induction n with
 |zero=>have:i=0:=by omega
        subst this;rfl
 |succ n ih=>
  by_cases e:i=n+1
  .subst e
   refine(iE (λj a _=>?_));simpa using a
  .rw[lP,ih (by omega)]
   have:¬n<i:=by omega
   simp[this]
theorem zS{wr:Nat->Option V}{x0:V}(hi:i<n)(a:(wr i).isSome=true->∀j,i<j->j<n->(wr j).isSome=true->ls j=false):
 j6 n wr x0 (λj=>ls j||j==i)=(wr i).getD (j6 n wr x0 ls):=by
 cases c:wr i with
 |none=>
  simp only[Option.getD_none];refine iE (λj _ g=>?_)
  have:j≠i:=λe=>by rw[e,c]at g;cases g
  simp[this]
 |some v=>
  simp only[yAl];have k:=a (by simp[c]);clear a
  induction n with
  |zero=>omega
  |succ n ih=>
   rw[lP];by_cases e:n=i
   .subst e;simp[c]
   .have f:=ih (by omega) (λj h1 l=>k j h1 (by omega))
    rw[f]
    have b:(n==i)=false:=by simpa using e
    simp only[b,Bool.or_false]
    cases d:wr n with
    |none=>simp
    |some u=>rw[k n (by omega) (by omega) (by simp[d])];simp
end
def rC(a:Array Oper)(i j:Nat):Prop:=∃o,a[j]?=some o/\∃e∈o.after.toList,Region.binds .any e=true/\e.on=i
inductive Pre(ops:Array Oper):Nat->Nat->Prop
 |one {i j:Nat} (h:rC ops i j):Pre ops i j
 |step {i q j:Nat} (h:Pre ops i q) (h':rC ops q j):Pre ops i j
def FW(acc:List Nat)(a:List Edge):Nat:=a.foldl (λs e=>if Region.binds .any e=true then s ||| 2^e.on ||| acc.getD e.on 0 else s) 0
def mR:List Oper->List Nat->List Nat
 |[],acc=>acc
 |o::r,acc=>mR r (acc++[FW acc o.after.toList])
theorem BB{acc:List Nat}{i:Nat}:∀(b:List Edge)(s:Nat),(b.foldl (λs e=>if Region.binds .any e=true then s ||| 2^e.on ||| acc.getD e.on 0 else s) s).testBit i=true->
 s.testBit i=true\/∃e∈b,Region.binds .any e=true/\(e.on=i\/(acc.getD e.on 0).testBit i=true)
 |[],s,h=>.inl h
 |e::b,s,h=>by
  simp only[yBr]at h;rcases BB b _ h with a|⟨f,d,c,g⟩
  .split at a
   .rename_i c
    rw[Nat.testBit_or,Nat.testBit_or,yAV,yAV]at a;rcases a with(a|a)|a
    .exact .inl a
    .refine .inr ⟨e,by simp,c,.inl ?_⟩
     rw[Nat.testBit_two_pow]at a;simpa using a
    .exact .inr ⟨e,by simp,c,.inr a⟩
   .exact .inl a
  .exact .inr ⟨f,by simp[d],c,g⟩
theorem vj{b:Array Oper}:∀{l:List Oper}{acc:List Nat},(∀j,l[j]?=b[acc.length+j]?)->(∀i j,(acc.getD j 0).testBit i=true->Pre b i j)->
 ∀i j,((mR l acc).getD j 0).testBit i=true->Pre b i j
 |[],acc,_,h,i,j,a=>h i j a
 |o::l,acc,m,h,i,j,a=>by
  refine vj (l:=l) (acc:=acc++[FW acc o.after.toList]) (λj=>?_) ?_ i j a
  .have:=m (j+1)
   simp only[yBX]at this;rw[this];congr 1;simp;omega
  .intro i j a
   by_cases p:j<acc.length
   .refine h i j ?_
    rwa [yBN,ZX p,<-List.getD_eq_getElem?_getD]at a
   .by_cases d:j=acc.length
    .subst d
     rw[yBN,yAa (by omega)]at a;simp only[yBO,yBe,yAl,FW]at a
     have g:b[acc.length]?=some o:=by have:=m 0;simpa using this.symm
     rcases BB _ _ a with n|⟨e,k,c,f⟩
     .simp at n
     .rcases f with rfl|f
      .exact .one ⟨o,g,e,k,c,rfl⟩
      .exact .step (h i e.on f) ⟨o,g,e,k,c,rfl⟩
    .rw[yBN,yAf (by simp;omega)]at a
     simp at a
def KT(xs:List Operand):List Nat:=xs.filterMap λ|.tmp t=>some t|_=>none
def xd(a:Array Oper)(o:Oper):List Nat:=KT o.op.operands.toList++(match o.guard with|some (j,_)=>((a[j]?).bind (·.dst)).toList|none=>[])
def rD(a:Array Oper)(x y:Oper):Bool:=
 (match x.dst with|some r=>(xd a y).contains r||y.dst==some r|none=>false)||(match y.dst with|some r=>(xd a x).contains r|none=>false)
def KU(a:Array Oper):Bool:=(List.range a.size).all λj=>match a[j]? with
 |some o=>o.after.toList.all λe=>!Region.binds .any e||decide (e.on<j)
 |none=>true
def mS(a:Array Oper):Bool:=
 let b:=mR a.toList []
 KU a&&(List.range a.size).all λj=>(List.range j).all λi=>match a[i]?,a[j]? with
  |some x,some y=>!rD a x y||(b.getD j 0).testBit i
  |_,_=>true
def Da:Op->Bool
 |.lookup ..|.mapUpdate ..|.load ..|.store ..|.alloc _|.box ..|.build ..|.buildSlice ..|.indexAddr ..|.fieldAddr ..|.makeSlice ..|.call _|.assign _|.makeInterface ..=>true
 |_=>false
def yQ(h:Hp)(k:Nat):List Nat:=match h k with
 |some (.box cs _ _)=>cs.flatMap yx
 |_=>[]
def Ic(h:Hp):AV->List Nat
 |.ptr k _=>yQ h k
 |_=>[]
def Pq(h:Hp):AV->List Nat
 |.fn _ _ caps=>let b:=caps.flatMap (Ic h);b++b.flatMap (yQ h)
 |.ext (.barr k _ _)=>yQ h k
 |_=>[]
def KV:Op->Bool
 |.call _=>true
 |_=>false
def mI(o:Oper)(ρ:Operand->AV)(h:Hp):List Nat:=(if Da o.op then o.op.operands.toList.flatMap λx=>Rt (ρ x)else[])++((if KV o.op then o.op.operands.toList.flatMap λx=>Pq h (ρ x)else[])++o.dst.toList)
def df(K:List Nat)(h:Hp):Hp:=λk=>if K.contains k=true then h k else none
abbrev rE:=List (List Nat×List Nat)
def Ry(a b:List Nat):Bool:=a.all λx=>!b.contains x
def qG(a:List Nat)(acc:rE):Bool:=
 (List.range acc.length).all λj=>(List.range j).all λi=>match acc[i]?,acc[j]? with
   |some (W,K),some (c,b)=>(Ry W b&&Ry c K)||(a.getD j 0).testBit i
   |_,_=>true
def mT(P:Program)(hn:List Nat)(N:Nat)(c:Array Oper)(Q:rE->St->Prop):List Oper->rE->St->Prop
 |[],acc,st=>Q acc st
 |o::rest,acc,st=>lu N o.dst=true/\(match lJ c st.t o.guard with
   |some none=>wi P hn o st.ev (df (mI o st.ev st.h) st.h) (λe=>(e.2.all λf=>(mI o st.ev st.h).contains f.1)=true/\mT P hn N c Q rest (acc++[(e.2.map (·.1),mI o st.ev st.h)]) (st.put o.dst e.1 e.2))
   |some (some (d,b,want))=>Bo b d st (λg a=>if g=want then wi P hn o a.ev (df (mI o a.ev a.h) a.h) (λe=>(e.2.all λf=>(mI o a.ev a.h).contains f.1)=true/\mT P hn N c Q rest (acc++[(e.2.map (·.1),mI o a.ev a.h)]) (a.put o.dst e.1 e.2))
    else mT P hn N c Q rest (acc++[([],[])]) (a.put o.dst (.pv (.val (.tuple #[]))) []))
   |none=>False)
theorem Ed{c:AV}{d:Option Nat}(e:gz P c args d h K):∃a,gz P c args d h (λx=>x=a)/\K a:=by
 unfold gz at e|-;split at e
 .exact e.elim
 .split at e
  .exact e.elim
  .split at e
   .exact e.elim
   .rename_i hd
    split at e
    .exact e.elim
    .obtain⟨hout,res,b,f⟩:=e
     unfold iP at f;split at f
     .rename_i e0 g
      refine⟨e0,?_,f⟩;simp only[hd];exact⟨hout,res,b,by unfold iP;simp only[g]⟩
     .exact f.elim
theorem KW(e:wi P hn o ρ h K):∃a,wi P hn o ρ h (λx=>x=a)/\K a:=by
 have hp:iP (dI P hn o ρ h) K->∃a,iP (dI P hn o ρ h) (λx=>x=a)/\K a:=by
  intro e;unfold iP at e|-;split at e
  .rename_i a _;exact⟨a,rfl,e⟩
  .exact e.elim
 unfold wi at e|-;split at e
 .split at e
  .rename_i c d f b
   exact Ed e
  .exact Ed e
  .exact hp e
 .exact hp e
theorem rF(c:∀cs b,o.op≠.select cs b)(h:∀x∈o.op.operands,ρ x=ρ' x):bf P o ρ=bf P o ρ':=by
 unfold bf
 have h1:(o.op.operands.toList.all λx=>(dV (ρ x)).isSome)=(o.op.operands.toList.all λx=>(dV (ρ' x)).isSome):=by
  rw[Bool.eq_iff_iff,IV,IV];constructor
  .intro d x a;rw[<-h x (by simpa using a)];exact d x a
  .intro d x a;rw[h x (by simpa using a)];exact d x a
 have e:execOp (λx=>pB (ρ x)) o=execOp (λx=>pB (ρ' x)) o:=execOp_congr o c (λx a=>by simp only[h x a]);rw[h1,e]
structure Ef where
 d:Option Nat
 v:AV
 W:List (Nat×Blk)
 K:List Nat
 deriving Inhabited
def run(fs:List Ef)(st:St):St:=fs.foldl (λs f=>s.put f.d f.v f.W) st
def rf(P:Program)(o:Oper)(ρ:Operand->AV)(f:Hp)(v:AV)(W:List (Nat×Blk)):Prop:=
 ∀(C:Cx)(L:Nat->Loc)(h:Hp)(w:World)(a:Act),C.P=P->MemL C L h w->(∀k b,f k=some b->h k=some b)->(∀d,o.dst=some d->f d=h d/\d<2000000)->
  (∀x∈o.op.operands,RepA w (ak C L h) L h (ρ x) (a.eval x))->∀(next:Act->World->Prop)(Q:Exit->Act->World->Prop),
  (∀u e c,aZ C L h w c (ah h W) e->RepA e (ak C c (ah h W)) c (ah h W) v u->next (a.put o.dst u) e)->o.wp C.P a w next Q
theorem Id{c:Hp}{v:AV}(e:wi P hn o ρ c (λx=>x=(v,W))):rf P o ρ c v W:=by
 intro C L h w a hP j k hf m next Q b
 subst hP;refine KP j k hf m e (λf u n d i g l=>?_);subst i;exact b u n d g l
theorem rf.congr{d:Hp}{v:AV}(i:∀x∈o.op.operands,ρ x=ρ' x)(h:rf P o ρ d v W):rf P o ρ' d v W:=by
 intro C L e w a hP f g hf j next Q b
 exact h C L e w a hP f g hf (λx c=>by rw[i x c];exact j x c) next Q b
def xe(P:Program)(hn:List Nat)(N:Nat)(a:Array Oper)(o:Oper)(st:St)(f:Ef):Prop:=
 lu N o.dst=true/\f.d=o.dst/\
  ((lI a st.t o.guard=some true/\(∀d,o.dst=some d->f.K.contains d=true)/\rf P o st.ev (df f.K st.h) f.v f.W/\(f.W.all λb=>f.K.contains b.1)=true)\/
   (lI a st.t o.guard=some false/\f.v=.pv (.val (.tuple #[]))/\f.W=[]/\f.K=[]))
theorem Ie{P:Program}{hn:List Nat}{N:Nat}{j:Array Oper}{Q:rE->St->Prop}:∀{l:List Oper}{acc:rE}{st:St},mT P hn N j Q l acc st->
 ∃fs:List Ef,fs.length=l.length/\(∀(i:Nat) o f,l[i]?=some o->fs[i]?=some f->xe P hn N j o (run (fs.take i) st) f)/\Q (acc++fs.map λf=>(f.W.map (·.1),f.K)) (run fs st)
 |[],acc,st,e=>⟨[],rfl,λi o f h=>by simp at h,by simpa[mT,run]using e⟩
 |o::l,acc,st,e=>by
  simp only[mT]at e;obtain⟨hd,e⟩:=e
  have fin:∀(f:Ef),xe P hn N j o st f->mT P hn N j Q l (acc++[(f.W.map (·.1),f.K)]) (st.put f.d f.v f.W)->
   ∃fs:List Ef,fs.length=(o::l).length/\(∀(i:Nat) q n,(o::l)[i]?=some q->fs[i]?=some n->xe P hn N j q (run (fs.take i) st) n)/\Q (acc++fs.map λf=>(f.W.map (·.1),f.K)) (run fs st):=by
   intro f hf a;obtain⟨fs,h1,y,z⟩:=Ie a;refine⟨f::fs,by simp[h1],λi q n x m=>?_,?_⟩
   .cases i with
    |zero=>simp at x m;subst x;subst m;exact hf
    |succ i=>exact y i q n (by simpa using x) (by simpa using m)
   .simpa[run,yA8]using z
  split at e
  .rename_i p
   obtain⟨c,r,g,a⟩:=KW e;exact fin ⟨o.dst,c.1,c.2,mI o st.ev st.h⟩ ⟨hd,rfl,.inl ⟨tD p,λd k=>by simp[mI,k],Id r,g⟩⟩ a
  .rename_i d b want p
   unfold Bo at e;simp only at e;split at e
   .rename_i u
    subst u;obtain⟨c,r,g,a⟩:=KW e;exact fin ⟨o.dst,c.1,c.2,mI o st.ev st.h⟩ ⟨hd,rfl,.inl ⟨(pC p).trans (by simp),λd k=>by simp[mI,k],Id r,g⟩⟩ a
   .rename_i s
    exact fin ⟨o.dst,.pv (.val (.tuple #[])),[],[]⟩ ⟨hd,rfl,.inr ⟨(pC p).trans (by simpa using s),rfl,rfl,rfl⟩⟩ e
  .exact e.elim
def jw(W:List (Nat×Blk))(k:Nat):Option (Option Blk):=W.foldl (λx a=>if k=a.1 then some (some a.2)else x) none
theorem qH(k:Nat):∀(W:List (Nat×Blk))(x:Option (Option Blk)),W.foldl (λx a=>if k=a.1 then some (some a.2)else x) x=(match jw W k with|some y=>some y|none=>x)
 |[],x=>by simp[jw]
 |a::W,x=>by
  simp only[yBr,jw];rw[qH k W (if k=a.1 then some (some a.2)else x),qH k W (if k=a.1 then some (some a.2)else none)]
  cases jw W k with
  |some y=>rfl
  |none=>simp only;split<;>rfl
theorem tH(k:Nat):∀(W:List (Nat×Blk))(h:Hp),ah h W k=(jw W k).getD (h k)
 |[],h=>rfl
 |a::W,h=>by
  show ah (aH h a.1 (some a.2)) W k=_;rw[tH k W]
  have b:jw (a::W) k=(match jw W k with|some y=>some y|none=>if k=a.1 then some (some a.2)else none):=by
   conv=>lhs;unfold jw
   rw[yBr,qH k W (if k=a.1 then some (some a.2)else none)]
  rw[b]
  cases jw W k with
  |some y=>rfl
  |none=>simp only[Option.getD_none,aH];split<;>rfl
theorem Ee{k:Nat}:∀{W:List (Nat×Blk)},(jw W k).isSome=true->k∈W.map (·.1)
 |[],h=>by simp[jw]at h
 |kb::W,h=>by
  simp only[jw,yBr]at h;rw[qH k W (if k=kb.1 then some (some kb.2)else none)]at h;by_cases e:k=kb.1
  .simp[e]
  .rw[L4 e]at h
   have:(jw W k).isSome=true:=by cases a:jw W k<;>simp_all
   have:=Ee this;simp at this|-;exact .inr this
section
variable (fs:List Ef)
def BC(r i:Nat):Option AV:=match fs[i]? with
 |some f=>if f.d=some r then some f.v else none
 |none=>none
def BD(k i:Nat):Option (Option Blk):=match fs[i]? with
 |some f=>jw f.W k
 |none=>none
def lw(n:Nat)(st:St)(a:Nat->Bool):St:=⟨λr=>j6 n (BC fs r) (st.t r) a,λk=>j6 n (BD fs k) (st.h k) a⟩
theorem vk(st:St):∀i,i<=fs.length->∀r,(run (fs.take i) st).t r=j6 i (BC fs r) (st.t r) (λ_=>true)
 |0,_,r=>by simp[run,j6]
 |i+1,hi,r=>by
  have a:i<fs.length:=by omega
  rw[yAP a,lP];simp only[run,yB1,yBr,List.foldl_nil,yAn];have ih:=vk st i (by omega) r;rw[run]at ih
  have b:BC fs r i=if fs[i].d=some r then some fs[i].v else none:=by simp[BC,an a]
  rw[b,<-ih]
  cases hd:fs[i].d with
  |none=>simp[St.put]
  |some d=>
   simp only[St.put,aH,Z9];by_cases e:d=r
   .subst e;simp
   .rw[L4 (λh=>e h.symm),L4 e];rfl
theorem vm(st:St):∀i,i<=fs.length->∀k,(run (fs.take i) st).h k=j6 i (BD fs k) (st.h k) (λ_=>true)
 |0,_,r=>by simp[run,j6]
 |i+1,hi,r=>by
  have a:i<fs.length:=by omega
  rw[yAP a,lP];simp only[run,yB1,yBr,List.foldl_nil,yAn];have ih:=vm st i (by omega) r;rw[run]at ih
  have b:BD fs r i=jw fs[i].W r:=by simp[BD,an a]
  rw[b,<-ih];simp only[St.put];exact tH r _ _
end
section
variable {C:Cx} {hn:List Nat} {ops:Array Oper} {fs:List Ef} {st:St}
def cF(a:Array Bool):Nat->Bool:=λi=>a.getD i true
theorem BE(a:∀i j,rC ops i j->ls j=true->ls i=true)(h:Pre ops i j):ls j=true->ls i=true:=by
 induction h with
 |one h=>exact a _ _ h
 |step _ b ih=>exact λc=>ih (a _ _ b c)
theorem vn(hs:mS ops=true){x y:Oper}(b:i<j)(f:ops[i]?=some x)(c:ops[j]?=some y)(d:rD ops x y=true):Pre ops i j:=by
 simp only[mS,An]at hs;have e:j<ops.size:=(yAC.1 c).1;have h1:=IV.1 hs.2 j (yAJ.2 e);have a:=IV.1 h1 i (yAJ.2 b);rw[f,c]at a;simp only[d,yBy,Bool.false_or]at a;exact vj (l:=ops.toList) (acc:=[]) (λj=>by simp) (λi j h=>by simp at h) i j a
theorem xf{acc:rE}(hs:qG (mR ops.toList []) acc=true){W K f e:List Nat}(d:i<j)(o:acc[i]?=some (W,K))(g:acc[j]?=some (f,e))(m:∃k,(k∈W/\k∈e)\/(k∈f/\k∈K)):Pre ops i j:=by
 have n:j<acc.length:=(th.1 g).1;have h1:=IV.1 hs j (yAJ.2 n);have c:=IV.1 h1 i (yAJ.2 d);rw[o,g]at c;simp only[yAV,An]at c;rcases c with⟨d1,d2⟩|c
 .obtain⟨k,⟨a,b⟩|⟨a,b⟩⟩:=m
  .have:=IV.1 d1 k a
   simp at this;exact absurd b this
  .have:=IV.1 d2 k a
   simp at this;exact absurd b this
 .exact vj (l:=ops.toList) (acc:=[]) (λj=>by simp) (λi j h=>by simp at h) i j c
theorem BF(hs:mS ops=true)(h:rC ops i j):i<j:=by
 simp only[mS,An]at hs;obtain⟨o,a,e,d,c,rfl⟩:=h;have h1:=IV.1 hs.1 j (yAJ.2 (yAC.1 a).1);rw[a]at h1;have b:=IV.1 h1 e d;simpa[c]using b
theorem vo{a:Array Bool}:i∈Region.ready .any ops a↔i<ops.size/\cF a i=false/\∀q,rC ops q i->a.getD q false=true:=by
 unfold Region.ready cF;rw[yA5,yAJ];constructor
 .rintro⟨h1,b⟩
  simp only[An,yAI]at b;refine⟨h1,b.1,?_⟩;rintro q ⟨o,d,e,g,f,rfl⟩;have c:=b.2;rw[d]at c;simp only[yAQ,yAl,Array.all_eq_true_iff_forall_mem]at c;have:=c e (by simpa using g);simpa[f]using this
 .rintro⟨h1,b,c⟩
  refine⟨h1,?_⟩;simp only[An,yAI];refine⟨b,?_⟩;have d:ops[i]?=some ops[i]:=yAL h1;rw[d];simp only[yAQ,yAl,Array.all_eq_true_iff_forall_mem];intro e g
  cases f:Region.binds .any e with
  |false=>simp
  |true=>simp[c e.on ⟨_,d,e,by simpa using g,f,rfl⟩]
theorem M6(z:mS ops=true)(b4:fs.length=ops.size)(T:∀(i:Nat) o f,ops[i]?=some o->fs[i]?=some f->xe C.P hn C.N ops o (run (fs.take i) st) f)
 (O:qG (mR ops.toList []) (fs.map λf=>(f.W.map (·.1),f.K))=true){Q':Exit->Act->World->Prop}(hQ:∀a w,gQ C (run fs st) a w->Q' .normal a w):
 ∀(fuel:Nat)(c:Array Bool)(a:Act)(w:World),c.size=ops.size->((List.range ops.size).filter λj=>!cF c j).length<=fuel->(∀i j,rC ops i j->cF c j=true->cF c i=true)->
  gQ C (lw fs ops.size st (cF c)) a w->wpAny C.P .any ops Q' fuel c a w:=by
 have G:∀c:Array Bool,Region.ready .any ops c=[]->c.size=ops.size->∀j,j<ops.size->cF c j=true:=by
  intro c U B j
  induction j using Nat.strongRecOn with
  |_ j ih=>
   intro l
   cases hl:cF c j with
   |true=>rfl
   |false=>
    have:j∈Region.ready .any ops c:=vo.2 ⟨l,hl,λq hq=>by
     have ck:=BF z hq;have:=ih q ck (by omega);unfold cF at this;rw[yAc]at this|-;rw[yAL (by omega)]at this|-
     simpa using this⟩
    rw[U]at this;cases this
 have ad:∀(c:Array Bool) a w,Region.ready .any ops c=[]->c.size=ops.size->gQ C (lw fs ops.size st (cF c)) a w->Q' .normal a w:=by
  intro c a w U B D;apply hQ;have hl:=G c U B
  have:lw fs ops.size st (cF c)=run fs st:=by
   have ht:run fs st=run (fs.take ops.size) st:=by rw[yAu (by omega)]
   rw[ht]
   have h1:(lw fs ops.size st (cF c)).t=(run (fs.take ops.size) st).t:=by
    funext r;rw[vk fs st _ (by omega)];exact iE (λj l _=>hl j l)
   have F:(lw fs ops.size st (cF c)).h=(run (fs.take ops.size) st).h:=by
    funext r;rw[vm fs st _ (by omega)];exact iE (λj l _=>hl j l)
   cases hA:lw fs ops.size st (cF c);cases hB:run (fs.take ops.size) st;rw[hA,hB]at h1 F;simp at h1 F;rw[h1,F]
  rw[<-this];exact D
 intro fuel
 induction fuel with
 |zero=>
  intro c a w B bs V D
  have Z:Region.ready .any ops c=[]:=by
   cases U:Region.ready .any ops c with
   |nil=>rfl
   |cons i r=>
    have hi:i∈Region.ready .any ops c:=by rw[U];simp
    obtain⟨h1,F,_⟩:=vo.1 hi;have:i∈(List.range ops.size).filter λj=>!cF c j:=yA5.2 ⟨yAJ.2 h1,by simp[F]⟩;have b7:((List.range ops.size).filter λj=>!cF c j)=[]:=yAA (by omega);rw[b7]at this;cases this
  exact⟨Z,ad c a w Z B D⟩
 |succ fuel ih=>
  intro c a w B bs V D;refine⟨λU=>ad c a w U B D,λi hi=>?_⟩;obtain⟨hin,Q,b1⟩:=vo.1 hi;have ho:ops[i]?=some ops[i]:=yAL hin;have hf:fs[i]?=some (fs[i]'(by omega)):=an _;generalize ops[i]=o at ho;generalize fs[i]'(by omega)=f at hf;obtain⟨I,b3,H⟩:=T i o f ho hf
  have y:∀q,Pre ops q i->cF c q=true:=by
   intro q hq
   have hd:∀q,rC ops q i->cF c q=true:=by
    intro q hq;have cp:=BF z hq;have:=b1 q hq;unfold cF;rw[yAc]at this|-;rw[yAL (by omega)]at this|-;simpa using this
   cases hq with
   |one h=>exact hd q h
   |step h h'=>exact BE V h (hd _ h')
  have s:∀q,Pre ops i q->cF c q=false:=by
   intro q hq
   cases cj:cF c q with
   |false=>rfl
   |true=>rw[BE V hq cj]at Q;cases Q
  have a1:∀j r,(BC fs r j).isSome=true->∃oj A,ops[j]?=some oj/\fs[j]?=some A/\oj.dst=some r:=by
   intro j r l;unfold BC at l;split at l
   .rename_i A p
    split at l
    .rename_i hd
     have ch:j<ops.size:=by rw[<-b4];exact(th.1 p).1
     have E:ops[j]?=some ops[j]:=yAL ch;obtain⟨_,F,_⟩:=T j _ A E p;exact⟨_,A,E,p,by rw[<-F];exact hd⟩
    .cases l
   .cases l
  have a7:∀j k,(BD fs k j).isSome=true->∃A,fs[j]?=some A/\k∈A.W.map (·.1):=by
   intro j k l;unfold BD at l;split at l
   .rename_i A p;exact⟨A,p,Ee l⟩
   .cases l
  have g:∀(j:Nat)(A:Ef),fs[j]?=some A->(fs.map λf=>(f.W.map (·.1),f.K))[j]?=some (A.W.map (·.1),A.K):=λj A h=>by simp[h]
  have Y:∀r∈xd ops o,(lw fs ops.size st (cF c)).t r=(run (fs.take i) st).t r:=by
   intro r U;rw[vk fs st i (by omega),<-BA (n:=ops.size) (by omega)];refine iE (λj l hw=>?_);obtain⟨oj,A,E,p,hd⟩:=a1 j r hw;rcases yBG j i with R|rfl|a2
   .rw[y j (vn z R E ho (by simp[rD,hd,U]))];simp[R]
   .rw[Q];simp
   .rw[s j (vn z a2 ho E (by simp[rD,hd,U]))]
    have:¬j<i:=by omega
    simp[this]
  have bq:∀k∈f.K,(lw fs ops.size st (cF c)).h k=(run (fs.take i) st).h k:=by
   intro k M;rw[vm fs st i (by omega),<-BA (n:=ops.size) (by omega)];refine iE (λj l hw=>?_);obtain⟨A,p,hd⟩:=a7 j k hw;rcases yBG j i with R|rfl|a2
   .rw[y j (xf O R (g j A p) (g i f hf) ⟨k,.inl ⟨hd,M⟩⟩)];simp[R]
   .rw[Q];simp
   .rw[s j (xf O a2 (g i f hf) (g j A p) ⟨k,.inr ⟨hd,M⟩⟩)]
    have:¬j<i:=by omega
    simp[this]
  have cb:∀k,k∈f.W.map (·.1)->k∈f.K:=by
   intro k M;obtain⟨kb,a6,rfl⟩:=yAt.1 M;rcases H with⟨_,_,_,G⟩|⟨_,_,hW,_⟩
   .have:=IV.1 G kb a6;simpa using this
   .rw[hW]at a6;cases a6
  have n9:lw fs ops.size st (cF (c.setIfInBounds i true))=(lw fs ops.size st (cF c)).put f.d f.v f.W:=by
   have b5:∀j,j<ops.size->cF (c.setIfInBounds i true) j=(cF c j||j==i):=by
    intro j l;unfold cF;by_cases e:j=i
    .subst e;simp[yAc,B,l]
    .have h1:(j==i)=false:=by simpa using e
     rw[h1,Bool.or_false,yAc,yAc,yAX (by omega)]
   have h1:(lw fs ops.size st (cF (c.setIfInBounds i true))).t=((lw fs ops.size st (cF c)).put f.d f.v f.W).t:=by
    funext r
    show j6 ops.size (BC fs r) (st.t r) (cF (c.setIfInBounds i true))=_;rw[iE (λj l _=>b5 j l),zS hin ?_]
    .have hw:BC fs r i=if f.d=some r then some f.v else none:=by simp[BC,hf]
     rw[hw]
     cases hd:f.d with
     |none=>simp[St.put,lw]
     |some d=>
      simp only[St.put,aH,Z9];by_cases e:d=r
      .subst e;simp
      .rw[L4 e,L4 (λh=>e h.symm)];rfl
    .intro a8 j a5 l bk
     obtain⟨oi,fi,X,J,ay⟩:=a1 i r a8;obtain⟨oj,A,E,p,hd⟩:=a1 j r bk;rw[ho]at X;injection X with X;subst X;exact s j (vn z a5 ho E (by simp[rD,ay,hd]))
   have F:(lw fs ops.size st (cF (c.setIfInBounds i true))).h=((lw fs ops.size st (cF c)).put f.d f.v f.W).h:=by
    funext k
    show j6 ops.size (BD fs k) (st.h k) (cF (c.setIfInBounds i true))=_;rw[iE (λj l _=>b5 j l),zS hin ?_]
    .have hw:BD fs k i=jw f.W k:=by simp[BD,hf]
     rw[hw];simp only[St.put];exact(tH k f.W (lw fs ops.size st (cF c)).h).symm
    .intro a8 j a5 l bk
     obtain⟨fi,J,ay⟩:=a7 i k a8;obtain⟨A,p,hd⟩:=a7 j k bk;rw[hf]at J;injection J with J;subst J;exact s j (xf O a5 (g i f hf) (g j A p) ⟨k,.inr ⟨hd,cb k ay⟩⟩)
   cases hA:lw fs ops.size st (cF (c.setIfInBounds i true));cases hB:(lw fs ops.size st (cF c)).put f.d f.v f.W;rw[hA,hB]at h1 F;simp at h1 F;rw[h1,F]
  have S:∀a' w',gQ C ((lw fs ops.size st (cF c)).put f.d f.v f.W) a' w'->wpAny C.P .any ops Q' fuel (c.setIfInBounds i true) a' w':=by
   intro a' w' cm;refine ih (c.setIfInBounds i true) a' w' (by simp[B]) ?_ ?_ (by rw[n9];exact cm)
   .have cn:((List.range ops.size).filter λj=>!cF (c.setIfInBounds i true) j).length<((List.range ops.size).filter λj=>!cF c j).length:=by
     have cf:((List.range ops.size).filter λj=>!cF (c.setIfInBounds i true) j)=((List.range ops.size).filter λj=>!cF c j).filter λj=>!(j==i):=by
      rw[List.filter_filter];refine List.filter_congr (λj l=>?_);have cg:=yAJ.1 l;unfold cF;by_cases e:j=i
      .subst e;simp[yAc,B,cg]
      .have h1:(j==i)=false:=by simpa using e
       rw[h1,yAc,yAc,yAX (by omega)];simp
     rw[cf];refine List.length_filter_lt_length_iff_exists.2 ⟨i,yA5.2 ⟨yAJ.2 hin,by simp[Q]⟩,by simp⟩
    omega
   .intro q j hd l
    have ca:∀m,cF (c.setIfInBounds i true) m=true↔(cF c m=true\/m=i):=by
     intro m;unfold cF;by_cases e:m=i
     .subst e;simp[yAc,B,hin]
     .rw[yAc,yAc,yAX (by omega)];simp[e]
    rw[ca]at l|-;rcases l with l|rfl
    .exact .inl (V q j hd l)
    .exact .inl (y q (.one hd))
  obtain⟨L,hm,hN,b0,ht⟩:=D
  have hgd:lI ops (lw fs ops.size st (cF c)).t o.guard=lI ops (run (fs.take i) st).t o.guard:=by
   unfold lI;split
   .rfl
   .rename_i j want hg
    split
    .rename_i d hd
     rw[Y d (by simp[xd,hg,hd])]
    .rfl
  unfold wpOp;rw[ho];simp only;rcases H with⟨hg,hK,b2,cd⟩|⟨hg,hv,hW,_⟩
  .rw[j5 ht (hgd.trans hg)]
   rw[yAb rfl];refine .inl ?_
   have b8:∀x∈o.op.operands,(run (fs.take i) st).ev x=(lw fs ops.size st (cF c)).ev x:=by
    intro x hx
    cases x with
    |tmp t=>
     refine(Y t ?_).symm;simp only[xd,KT,yAk,List.mem_filterMap];exact .inl ⟨.tmp t,by simpa using hx,rfl⟩
    |_=>rfl
   have b9:df f.K (run (fs.take i) st).h=df f.K (lw fs ops.size st (cF c)).h:=by
    funext k
    unfold df;split
    .rename_i M;exact(bq k (by simpa using M)).symm
    .rfl
   rw[b9]at b2;refine rf.congr b8 b2 C L _ w a rfl hm ?_ ?_ (λx _=>dM ht x) _ _ (λu w' L' hA hv=>?_)
   .intro k b M;unfold df at M;split at M
    .exact M
    .cases M
   .intro d hd
    unfold df;rw[yAb (hK d hd)];refine⟨rfl,?_⟩;have ax:=I;rw[hd]at ax;simp only[lu,An,Is]at ax;exact ax.2
   .refine S _ _ ?_
    rw[b3];exact gQ.put hm hN b0 ht I hA hv
  .rw[j5 ht (hgd.trans hg)]
   simp only[ZY,yAi];refine S _ _ ?_;rw[b3,hv,hW];exact gQ.put hm hN b0 ht I (W:=[]) (aZ.refl hm) (.pv (.val _))
theorem WP.drawF(k:C.P.follows .mixedOrders=true)(c:mS ops=true){fs:List Ef}(h1:fs.length=ops.size)(p:∀(i:Nat) o f,ops[i]?=some o->fs[i]?=some f->xe C.P hn C.N ops o (run (fs.take i) st) f)
 (q:qG (mR ops.toList []) (fs.map λf=>(f.W.map (·.1),f.K))=true)(r:Q .normal (run fs st)):WP C (.region id ops true) Q st:=by
 intro a w l;refine wp_region_any k (M6 (fs:=fs) (st:=st) c h1 p q (λa w l=>⟨_,l,r⟩) _ _ _ _ (by simp) ?_ ?_ ?_)
 .refine yBC (yB7 _ _) (by simp)
 .intro i j hd b
  have g:j<ops.size:=by obtain⟨o,u,_⟩:=hd;exact(yAC.1 u).1
  unfold cF at b;rw[yAc,yBR,yAb g]at b;cases b
 .have:lw fs ops.size st (cF (Array.replicate ops.size false))=st:=by
   have hf:∀j,j<ops.size->cF (Array.replicate ops.size false) j=false:=by
    intro j b;unfold cF;rw[yAc,yBR,yAb b];rfl
   have x:∀{V:Type}(wr:Nat->Option V)(d:V),j6 ops.size wr d (cF (Array.replicate ops.size false))=d:=by
    intro V wr d;rw[iE (ls':=λ_=>false) (λj b _=>hf j b)]
    have:∀n,j6 n wr d (λ_=>false)=d:=by
     intro n;induction n with
     |zero=>rfl
     |succ n ih=>rw[lP];simp[ih]
    exact this _
   cases st;unfold lw;simp[x]
  rw[this];obtain⟨L,s,hN,e,v⟩:=l;have m:=s.grow (Ext.drew (λ_=>False) w);exact⟨L,m.1,hN,e,λn=>(v n).mono m.2 (KC.refl _ _)⟩
theorem WP.draw(b:C.P.follows .mixedOrders=true)(a:mS ops=true)
 (h:mT C.P hn C.N ops (λacc st=>qG (mR ops.toList []) acc=true/\Q .normal st) ops.toList [] st):WP C (.region id ops true) Q st:=by
 obtain⟨fs,h1,c,d,e⟩:=Ie h;exact WP.drawF (hn:=hn) b a (by rw[h1];simp) (λi o f g hf=>c i o f (by simpa using g) hf) (by simpa using d) e
end
@[simp] theorem KX{α:Type}(f:Nat->α)(k:Nat)(v:α)(n:Nat):aH f k v n=if n=k then v else f n:=rfl
@[simp] theorem Ue(args:List Arg)(n:Nat):M5 args n=(match args[n]? with
 |some (.pv p)=>.pv p
 |some (.bx i)=>.ptr (pk i) 0
 |none=>.undef):=rfl
theorem BG(a:List (List PV))(k:Nat):C8 a k=if k<1000000 then none else(match a[k-1000000]? with
 |some b=>some (.box (b.map .pv) false false)
 |none=>none):=rfl
@[simp] theorem Qf(K:List Nat)(h:Hp)(k:Nat):df K h k=if K.contains k=true then h k else none:=rfl
@[simp] theorem T8:FT C y Q .normal st=WP C y Q st:=rfl
@[simp] theorem Vy:FT C y Q .ret st=Q .ret st:=rfl
@[simp] theorem UM:FT C y Q (.exit i) st=Q (.exit i) st:=rfl
@[simp] theorem Rz:yN id Q .normal st=Q .normal st:=rfl
@[simp] theorem UN:yN id Q .ret st=Q .ret st:=rfl
@[simp] theorem Uf:yN id Q (.exit i) st=if i=id then Q .normal st else Q (.exit i) st:=rfl
@[simp] theorem Yt:KQ P rs hout res .ret st=yP P rs hout res st:=rfl
@[simp] theorem Ug:KQ P rs hout res .normal st=yP P rs hout res st:=rfl
@[simp] theorem YN(ks:List Nat)(st:St)(n:Nat):(st.kill ks).t n=iD ks (st.t n):=rfl
@[simp] theorem YO(ks:List Nat)(st:St)(k:Nat):(st.kill ks).h k=if ks.contains k=true then none else(st.h k).map (fA ks):=rfl
@[simp] theorem Vz:Bo true d st F=F true st:=rfl
@[simp] theorem UO:Bo false d st F=F false st:=rfl
def St.lit(st:St)(d:Nat)(b:Bool):St:=⟨aH st.t d (.pv (.val (.bool b))),st.h⟩
section
variable (P:Program) (hn:List Nat) (N:Nat) (ops:Array Oper) (Q:St->Prop) (o:Oper) (rest:List Oper) (st:St)
def xK(x:Option bF):Prop:=iP x (λe=>fW P hn N ops Q rest (st.put o.dst e.1 e.2))
def xC(g:FuncId)(as:List Arg)(ks:List Nat)(b:List (Nat×Blk))(a:List (List PV)):Prop:=At P g as a λhout res=>xK P hn N ops Q o rest st (mm st.h o.dst ks b hout res)
def RC(g:FuncId)(as:List Arg)(ks:List Nat)(a:List (Nat×Blk)):Bool->Option (List (List PV))->Prop
 |false,some hin=>xC P hn N ops Q o rest st g as ks a hin
 |_,_=>False
def Pr(g:FuncId):Option (List Arg×List Nat×List (Nat×Blk))->Prop
 |some (as,ks,W0)=>RC P hn N ops Q o rest st g as ks W0 (W0.any λa=>ks.contains a.1) (n9 st.h ks)
 |none=>False
def FX(args:List AV):Option (FuncId×List AV×List AV)->Prop
 |some (g,first,caps)=>Pr P hn N ops Q o rest st g (jv st.h (first++args++caps) [])
 |none=>False
def UP:AV->Prop
 |.fn (.func g) _ _=>dR P g/\fW P hn N ops Q rest (st.put o.dst .undef [])
 |_=>False
def xN:Bool->Prop
 |true=>Jw (fW P hn N ops Q rest (st.put o.dst (.pv (.val (.bool true))) [])) (fW P hn N ops Q rest (st.put o.dst (.pv (.val (.bool false))) []))
 |false=>xK P hn N ops Q o rest st (dI P hn o st.ev st.h)
def xO:Prop:=match o.op with
 |.call c=>match c.callee with
  |.value f=>FX P hn N ops Q o rest st (c.args.toList.map st.ev) (dw (st.ev f))
  |.invoke r name=>FX P hn N ops Q o rest st (c.args.toList.map st.ev) (dw (qe P name (st.ev r)))
  |_=>xK P hn N ops Q o rest st (dI P hn o st.ev st.h)
 |.defer c=>match c.callee with
  |.value f=>if c.args.size=0 then UP P hn N ops Q o rest st (st.ev f)else False
  |_=>False
 |.binOp op t x y _=>xN P hn N ops Q o rest st (nX (st.ev y)&&ng P t&&qY st.h (st.ev x)&&(op==.eql||op==.neq))
 |_=>xK P hn N ops Q o rest st (dI P hn o st.ev st.h)
def xB(_:Nat)(want:Bool)(b:Bool):Prop:=if b=want then xO P hn N ops Q o rest st else fW P hn N ops Q rest (st.put o.dst (.pv (.val (.tuple #[]))) [])
def xG:Option (Option (Nat×Bool×Bool))->Prop
 |some none=>xO P hn N ops Q o rest st
 |some (some (d,b,want))=>xB P hn N ops Q o rest st d want b
 |none=>False
end
section
variable {P:Program} {hn:List Nat} {N:Nat} {ops:Array Oper} {Q:St->Prop} {o:Oper} {rest:List Oper} {st:St}
@[simp] theorem VA:xN P hn N ops Q o rest st false=xK P hn N ops Q o rest st (dI P hn o st.ev st.h):=rfl
@[simp] theorem Yu:xN P hn N ops Q o rest st true=Jw (fW P hn N ops Q rest (st.put o.dst (.pv (.val (.bool true))) [])) (fW P hn N ops Q rest (st.put o.dst (.pv (.val (.bool false))) [])):=rfl
@[simp] theorem YP{g:FuncId}{f c:List AV}:UP P hn N ops Q o rest st (.fn (.func g) f c)=(dR P g/\fW P hn N ops Q rest (st.put o.dst .undef [])):=rfl
theorem FY{c:AV}:FX P hn N ops Q o rest st args (dw c)=gz P c args o.dst st.h (λe=>fW P hn N ops Q rest (st.put o.dst e.1 e.2)):=by
 unfold gz
 cases dw c with
 |none=>rfl
 |some q=>
  obtain⟨g,first,caps⟩:=q;simp only[FX]
  cases jv st.h (first++args++caps) []with
  |none=>rfl
  |some q=>
   obtain⟨as,ks,W0⟩:=q;simp only[Pr]
   cases W0.any λa=>ks.contains a.1 with
   |true=>rfl
   |false=>
    cases n9 st.h ks with
    |none=>rfl
    |some hin=>rfl
theorem Ps:xO P hn N ops Q o rest st=CV P hn o st.ev st.h (λe=>fW P hn N ops Q rest (st.put o.dst e.1 e.2)):=by
 obtain⟨a,op,g,pos,b,d⟩:=o
 cases op<;>try rfl
 case binOp op t x y t'=>
  simp only[xO,CV];cases nX (st.ev y)&&ng P t&&qY st.h (st.ev x)&&(op==.eql||op==.neq)<;>rfl
 rename_i c;obtain⟨callee,args,ts⟩:=c
 cases callee<;>try rfl
 all_goals first
  |(rename_i f name;show FX P hn N ops Q _ rest st (args.toList.map st.ev) (dw (qe P name (st.ev f)))=gz P (qe P name (st.ev f)) (args.toList.map st.ev) a st.h _;exact FY)
  |(rename_i f;show FX P hn N ops Q _ rest st (args.toList.map st.ev) (dw (st.ev f))=gz P (st.ev f) (args.toList.map st.ev) a st.h _;exact FY)
@[simp] theorem Yv:fW P hn N ops Q [] st=Q st:=rfl
@[simp] theorem VB:fW P hn N ops Q (o::rest) st=(lu N o.dst=true/\xG P hn N ops Q o rest st (lJ ops st.t o.guard)):=by
 simp only[fW]
 congr 1
 cases a:lJ ops st.t o.guard with
 |none=>rfl
 |some g=>cases g with
  |none=>simp only[xG];rw[Ps]
  |some q=>obtain⟨d,b,want⟩:=q;simp only[xG,xB,Bo];rw[Ps]
@[simp] theorem Yw:xG P hn N ops Q o rest st (some none)=xO P hn N ops Q o rest st:=rfl
@[simp] theorem Yx:xG P hn N ops Q o rest st (some (some (d,b,want)))=xB P hn N ops Q o rest st d want b:=rfl
@[simp] theorem ZG:xB P hn N ops Q o rest st d true true=xO P hn N ops Q o rest st:=rfl
@[simp] theorem ZH:xB P hn N ops Q o rest st d false false=xO P hn N ops Q o rest st:=rfl
@[simp] theorem ZI:xB P hn N ops Q o rest st d true false=fW P hn N ops Q rest (st.put o.dst (.pv (.val (.tuple #[]))) []):=rfl
@[simp] theorem ZJ:xB P hn N ops Q o rest st d false true=fW P hn N ops Q rest (st.put o.dst (.pv (.val (.tuple #[]))) []):=rfl
@[simp] theorem Yy{e:bF}:xK P hn N ops Q o rest st (some e)=fW P hn N ops Q rest (st.put o.dst e.1 e.2):=rfl
@[simp] theorem VC{g:FuncId}:FX P hn N ops Q o rest st args (some (g,first,caps))=Pr P hn N ops Q o rest st g (jv st.h (first++args++caps) []):=rfl
@[simp] theorem VD{g:FuncId}:Pr P hn N ops Q o rest st g (some (as,ks,W0))=RC P hn N ops Q o rest st g as ks W0 (W0.any λa=>ks.contains a.1) (n9 st.h ks):=rfl
@[simp] theorem VE{g:FuncId}:RC P hn N ops Q o rest st g as ks W0 false (some hin)=xC P hn N ops Q o rest st g as ks W0 hin:=rfl
attribute [simp] xO
theorem M7{g:FuncId}(h:aO P g as hin hout res)(a:xK P hn N ops Q o rest st (mm st.h o.dst ks W0 hout res)):
 xC P hn N ops Q o rest st g as ks W0 hin:=⟨hout,res,h,a⟩
theorem BH(h:st.t d=.pv (.val (.bool b))):st.lit d b=st:=by
 unfold St.lit
 have:aH st.t d (.pv (.val (.bool b)))=st.t:=by
  grind [KX]
 rw[this]
theorem M8(h:st.t d=.pv (.val (.bool b)))(a:b=true->xB P hn N ops Q o rest (st.lit d true) d want true)(hf:b=false->xB P hn N ops Q o rest (st.lit d false) d want false):
 xB P hn N ops Q o rest st d want b:=by
 cases b with
 |true=>have:=a rfl;rw[BH h]at this;exact this
 |false=>have:=hf rfl;rw[BH h]at this;exact this
end
section
variable (P:Program) (hn:List Nat) (N:Nat) (ops:Array Oper) (Q:rE->St->Prop) (o:Oper) (rest:List Oper) (acc:rE) (st:St) (K:List Nat)
def yK(x:Option bF):Prop:=iP x (λe=>(e.2.all λa=>K.contains a.1)=true/\mT P hn N ops Q rest (acc++[(e.2.map (·.1),K)]) (st.put o.dst e.1 e.2))
def yC(g:FuncId)(as:List Arg)(ks:List Nat)(b:List (Nat×Blk))(a:List (List PV)):Prop:=At P g as a λhout res=>yK P hn N ops Q o rest acc st K (mm (df K st.h) o.dst ks b hout res)
def RD(g:FuncId)(as:List Arg)(ks:List Nat)(a:List (Nat×Blk)):Bool->Option (List (List PV))->Prop
 |false,some hin=>yC P hn N ops Q o rest acc st K g as ks a hin
 |_,_=>False
def Pt(g:FuncId):Option (List Arg×List Nat×List (Nat×Blk))->Prop
 |some (as,ks,W0)=>RD P hn N ops Q o rest acc st K g as ks W0 (W0.any λa=>ks.contains a.1) (n9 (df K st.h) ks)
 |none=>False
def FZ(args:List AV):Option (FuncId×List AV×List AV)->Prop
 |some (g,first,caps)=>Pt P hn N ops Q o rest acc st K g (jv (df K st.h) (first++args++caps) [])
 |none=>False
def yO:Prop:=match o.op with
 |.call c=>match c.callee with
  |.value f=>FZ P hn N ops Q o rest acc st K (c.args.toList.map st.ev) (dw (st.ev f))
  |.invoke r name=>FZ P hn N ops Q o rest acc st K (c.args.toList.map st.ev) (dw (qe P name (st.ev r)))
  |_=>yK P hn N ops Q o rest acc st K (dI P hn o st.ev (df K st.h))
 |_=>yK P hn N ops Q o rest acc st K (dI P hn o st.ev (df K st.h))
def yB(_:Nat)(want:Bool)(b:Bool):Prop:=if b=want then yO P hn N ops Q o rest acc st (mI o st.ev st.h)else mT P hn N ops Q rest (acc++[([],[])]) (st.put o.dst (.pv (.val (.tuple #[]))) [])
def yG:Option (Option (Nat×Bool×Bool))->Prop
 |some none=>yO P hn N ops Q o rest acc st (mI o st.ev st.h)
 |some (some (d,b,want))=>yB P hn N ops Q o rest acc st d want b
 |none=>False
end
section
variable {P:Program} {hn:List Nat} {N:Nat} {ops:Array Oper} {Q:rE->St->Prop} {o:Oper} {rest:List Oper} {acc:rE} {st:St} {K:List Nat}
theorem F0{c:AV}:FZ P hn N ops Q o rest acc st K args (dw c)=gz P c args o.dst (df K st.h) (λe=>(e.2.all λa=>K.contains a.1)=true/\mT P hn N ops Q rest (acc++[(e.2.map (·.1),K)]) (st.put o.dst e.1 e.2)):=by
 unfold gz
 cases dw c with
 |none=>rfl
 |some q=>
  obtain⟨g,first,caps⟩:=q;simp only[FZ]
  cases jv (df K st.h) (first++args++caps) []with
  |none=>rfl
  |some q=>
   obtain⟨as,ks,W0⟩:=q;simp only[Pt]
   cases W0.any λa=>ks.contains a.1 with
   |true=>rfl
   |false=>
    cases n9 (df K st.h) ks with
    |none=>rfl
    |some hin=>rfl
theorem Pu:yO P hn N ops Q o rest acc st K=wi P hn o st.ev (df K st.h) (λe=>(e.2.all λd=>K.contains d.1)=true/\mT P hn N ops Q rest (acc++[(e.2.map (·.1),K)]) (st.put o.dst e.1 e.2)):=by
 obtain⟨a,op,i,pos,b,g⟩:=o
 cases op<;>try rfl
 rename_i c;obtain⟨callee,args,ts⟩:=c
 cases callee<;>try rfl
 all_goals first
  |(rename_i f name;show FZ P hn N ops Q _ rest acc st K (args.toList.map st.ev) (dw (qe P name (st.ev f)))=gz P (qe P name (st.ev f)) (args.toList.map st.ev) a (df K st.h) _;exact F0)
  |(rename_i f;show FZ P hn N ops Q _ rest acc st K (args.toList.map st.ev) (dw (st.ev f))=gz P (st.ev f) (args.toList.map st.ev) a (df K st.h) _;exact F0)
@[simp] theorem Yz:mT P hn N ops Q [] acc st=Q acc st:=rfl
@[simp] theorem VF:mT P hn N ops Q (o::rest) acc st=(lu N o.dst=true/\yG P hn N ops Q o rest acc st (lJ ops st.t o.guard)):=by
 simp only[mT]
 congr 1
 cases a:lJ ops st.t o.guard with
 |none=>rfl
 |some g=>cases g with
  |none=>simp only[yG];rw[Pu]
  |some q=>obtain⟨d,b,want⟩:=q;simp only[yG,yB,Bo];rw[Pu]
@[simp] theorem YA:yG P hn N ops Q o rest acc st (some none)=yO P hn N ops Q o rest acc st (mI o st.ev st.h):=rfl
@[simp] theorem YB:yG P hn N ops Q o rest acc st (some (some (d,b,want)))=yB P hn N ops Q o rest acc st d want b:=rfl
@[simp] theorem ZK:yB P hn N ops Q o rest acc st d true true=yO P hn N ops Q o rest acc st (mI o st.ev st.h):=rfl
@[simp] theorem ZL:yB P hn N ops Q o rest acc st d false false=yO P hn N ops Q o rest acc st (mI o st.ev st.h):=rfl
@[simp] theorem ZM:yB P hn N ops Q o rest acc st d true false=mT P hn N ops Q rest (acc++[([],[])]) (st.put o.dst (.pv (.val (.tuple #[]))) []):=rfl
@[simp] theorem ZN:yB P hn N ops Q o rest acc st d false true=mT P hn N ops Q rest (acc++[([],[])]) (st.put o.dst (.pv (.val (.tuple #[]))) []):=rfl
@[simp] theorem YC{e:bF}:yK P hn N ops Q o rest acc st K (some e)=((e.2.all λa=>K.contains a.1)=true/\mT P hn N ops Q rest (acc++[(e.2.map (·.1),K)]) (st.put o.dst e.1 e.2)):=rfl
@[simp] theorem VG{g:FuncId}:FZ P hn N ops Q o rest acc st K args (some (g,first,caps))=Pt P hn N ops Q o rest acc st K g (jv (df K st.h) (first++args++caps) []):=rfl
@[simp] theorem VH{g:FuncId}:Pt P hn N ops Q o rest acc st K g (some (as,ks,W0))=RD P hn N ops Q o rest acc st K g as ks W0 (W0.any λa=>ks.contains a.1) (n9 (df K st.h) ks):=rfl
@[simp] theorem VJ{g:FuncId}:RD P hn N ops Q o rest acc st K g as ks W0 false (some hin)=yC P hn N ops Q o rest acc st K g as ks W0 hin:=rfl
attribute [simp] yO
theorem M9{g:FuncId}(h:aO P g as hin hout res)(a:yK P hn N ops Q o rest acc st K (mm (df K st.h) o.dst ks W0 hout res)):
 yC P hn N ops Q o rest acc st K g as ks W0 hin:=⟨hout,res,h,a⟩
theorem Na(h:st.t d=.pv (.val (.bool b)))(a:b=true->yB P hn N ops Q o rest acc (st.lit d true) d want true)(hf:b=false->yB P hn N ops Q o rest acc (st.lit d false) d want false):
 yB P hn N ops Q o rest acc st d want b:=by
 cases b with
 |true=>have:=a rfl;rw[BH h]at this;exact this
 |false=>have:=hf rfl;rw[BH h]at this;exact this
end
attribute [simp] CU qe
attribute [simp] lH mY Aq yz CR wJ Bh qV Pn jG uS CS CT yE sy yF E8 uV uW wG rq Ju yQ Ic Pq KV jS XV.key
attribute [simp] FD t7 Jv
attribute [simp] E9 Bm yJ yL Ar
attribute [simp] Bl uZ qY ng Bn FB As FC
attribute [simp] St.lit lu lJ dI St.ev St.put ah ik AV.cells PV.cells Value.cells pu wI TK.isAgg fJ Bg tV kq fe ld
 tY Bk uX yH yI nY dw jv n9 jR mm frz tC qd CQ po rr kV Js yy Fz mQ nX pL lG wH tW ju
 yA cS pA tX uT qW yD qX Jt KF gF uU Bi E7 Bj FA wL nD wZ yP zQ iD fA M4 Rt yx mI Da Op.operands Call.operands
section
variable {C:Cx} {Q:Exit->St->Prop} {st:St} {x y:Code} {c:Operand}
def vq(C:Cx)(x y:Code)(Q:Exit->St->Prop)(st:St):AV->Prop
 |.pv (.val (.bool b))=>(b=true->WP C x Q st)/\(b=false->WP C y Q st)
 |_=>False
theorem HQ(a:b=true->WP C x Q st)(hf:b=false->WP C y Q st):vq C x y Q st (.pv (.val (.bool b))):=⟨a,hf⟩
@[simp] theorem Uh:vq C x y Q st (.pv (.val (.bool true)))=WP C x Q st:=by simp[vq]
@[simp] theorem T9:vq C x y Q st (.pv (.val (.bool false)))=WP C y Q st:=by simp[vq]
theorem WP.cond'(h:vq C x y Q st (st.ev c)):WP C (.cond c x y) Q st:=by
 cases a:st.ev c with
 |pv p=>cases p with
  |val v=>cases v with
   |bool b=>rw[a]at h;exact WP.cond a h.1 h.2
   |_=>rw[a]at h;exact h.elim
  |_=>rw[a]at h;exact h.elim
 |_=>rw[a]at h;exact h.elim
end
section
variable {C:Cx} {Q:Exit->St->Prop} {st:St}
def Fa(ks:List Nat)(J:St->Prop)(Q:Exit->St->Prop):Exit->St->Prop
 |.normal,st=>J (st.kill ks)
 |e,st=>Q e st
@[simp] theorem RE{J:St->Prop}:Fa ks J Q .normal st=J (st.kill ks):=rfl
@[simp] theorem UQ{J:St->Prop}:Fa ks J Q .ret st=Q .ret st:=rfl
@[simp] theorem Ui{J:St->Prop}:Fa ks J Q (.exit i) st=Q (.exit i) st:=rfl
theorem WP.loopN(ks:List Nat)(N:Nat)(I:Nat->St->Prop)(r:I 0 (st.kill ks))
 (round:∀i st,i<=N->I i st->WP C c (Fa ks (λa=>i<N/\I (i+1) a) Q) st):WP C (.loop c) Q st:=by
 classical
 refine WP.loop ks (λst=>∃i,i<=N/\I i st) (λst=>N-(if h:∃i,i<=N/\I i st/\∀j,j<=N->I j st->j<=i then h.choose else 0)) ⟨0,yAT _,r⟩ ?_;intro st ⟨s,p,n⟩
 have l:∃i,i<=N/\I i st/\∀j,j<=N->I j st->j<=i:=by
  have:∀d i,N-i<=d->i<=N->I i st->∃i,i<=N/\I i st/\∀j,j<=N->I j st->j<=i:=by
   intro d
   induction d with
   |zero=>intro i hd hi g;exact⟨i,hi,g,λj k _=>by omega⟩
   |succ d ih=>
    intro i hd hi g;by_cases h:∃j,j<=N/\I j st/\i<j
    .obtain⟨j,k,b,o⟩:=h;exact ih j (by omega) k b
    .exact⟨i,hi,g,λj k b=>Nat.le_of_not_lt (λf=>h ⟨j,k,b,f⟩)⟩
  exact this N s (by omega) p n
 have q:=l.choose_spec;refine WP.mono (round _ st q.1 q.2.1) ?_;intro e a hq
 cases e with
 |normal=>
  obtain⟨f,g⟩:=hq;refine⟨⟨_,f,g⟩,?_⟩
  have m:∃i,i<=N/\I i (a.kill ks)/\∀j,j<=N->I j (a.kill ks)->j<=i:=by
   have:∀d i,N-i<=d->i<=N->I i (a.kill ks)->∃i,i<=N/\I i (a.kill ks)/\∀j,j<=N->I j (a.kill ks)->j<=i:=by
    intro d
    induction d with
    |zero=>intro i hd hi g;exact⟨i,hi,g,λj k _=>by omega⟩
    |succ d ih=>
     intro i hd hi g;by_cases h:∃j,j<=N/\I j (a.kill ks)/\i<j
     .obtain⟨j,k,b,o⟩:=h;exact ih j (by omega) k b
     .exact⟨i,hi,g,λj k b=>Nat.le_of_not_lt (λf=>h ⟨j,k,b,f⟩)⟩
   exact this N _ (by omega) f g
  have h1:=m.choose_spec.2.2 _ f g;rw[dif_pos m,dif_pos l];omega
 |_=>exact hq
end
attribute [simp] Value.oneCell'
def Arg.isPv:Arg->Bool
 |.pv _=>true
 |.bx _=>false
theorem Qg(hf:P.funcs[f]?=some fn)(g:fn.body=some c)(a:dW P f=true){args:List Arg}(b:args.length<=fn.ntmps)(e:args.all Arg.isPv=true)
 (h:∀C:Cx,C.P=P->C.N=fn.ntmps->WP C c (KQ P fn.results.toList [] res) (zQ args [])):aO P f args [] [] res:=by
 refine rd hf g a b rfl (λi j d=>?_) h;have:=IV.1 e _ (In d);simp[Arg.isPv]at this
@[simp] theorem YD(a:List (List PV))(i:Nat):C8 a (pk i)=(a[i]?).map (λb=>.box (b.map .pv) false false):=by
 rw[BG,L4 (by unfold pk;omega),show pk i-1000000=i by unfold pk;omega];cases a[i]?<;>rfl
@[simp] theorem UR(a:List (List PV))(h:k<1000000):C8 a k=none:=by rw[BG,yAb h]
@[simp] theorem YQ(i j:Nat):(pk i=pk j)=(i=j):=by unfold pk;simp
@[simp] theorem ZO(h:n<1000000):(pk i=n)=False:=by unfold pk;simp;omega
@[simp] theorem ZP(h:n<1000000):(n=pk i)=False:=by unfold pk;simp;omega
@[simp] theorem US{F:Nat->List PV->Prop}:(∀(i:Nat)(a:List PV),([]:List (List PV))[i]?=some a->F i a)=True:=by simp
@[simp] theorem UT{a:List PV}{F:Nat->List PV->Prop}:(∀(i:Nat)(b:List PV),[a][i]?=some b->F i b)=F 0 a:=by
 refine propext ⟨λh=>h 0 a rfl,λh i b hi=>?_⟩
 cases i with
 |zero=>simp at hi;subst hi;exact h
 |succ i=>simp at hi
theorem jx:aj P Go.program=some P:=rfl
theorem jy{d:TypeDesc}(h:P.underlying t=some d):aj P (underlying t)=some d:=by
 unfold underlying;rw[ae,jx,yAg,h];rfl
theorem xg(d:Nat)(t:TypeId)(xs ys:Array Value)(c:P.underlying t=some (.struct (P.fieldsOf t)))(hp:P.stoodInHeld t=false):
 aj P (Op.equalIn (d+1) t (.agg xs) (.agg ys))=aj P (Op.eqFields d xs ys (P.fieldsOf t).toList):=by
 simp only[Op.equalIn,ae,jy c,yAg,jx,hp,ZY,yAi];rw[<-Array.forIn_toList];generalize(P.fieldsOf t).toList=fs;clear c
 induction fs with
 |nil=>simp[Op.eqFields];rfl
 |cons f fs ih=>
  simp only[List.forIn_cons,Op.eqFields,ae];by_cases hn:f.name≠ "_"
  .rw[yAb hn,yAb hn]
   simp only[ae]
   cases aj P (part f.type xs f.offset)with
   |none=>rfl
   |some a=>
    simp only[yAg]
    cases aj P (part f.type ys f.offset)with
    |none=>rfl
    |some b=>
     simp only[yAg]
     cases aj P (Op.equalIn d f.type a b)with
     |none=>rfl
     |some r=>
      cases r
      .simp only[yAg,yCk,yAn,dl]
      .simp only[yAg,yBy,ZY,yAi,dl]
       exact ih
  .rw[L4 hn,L4 hn]
   simp only[dl,yAg];exact ih
theorem og(d:Nat)(t:TypeId)(k c:IntKind)(a b:Int)(h:P.underlying t=some (.int c)):aj P (Op.equalIn (d+1) t (.int k a) (.int k b))=some (a==b):=by
 simp only[Op.equalIn,ae,jy h,yAg];rw[yAb trivial];rfl
theorem nE{f:Field}{fs:List Field}{a b:Value}{r c:Bool}(hn:f.name≠ "_")(e:aj P (part f.type xs f.offset)=some a)(g:aj P (part f.type ys f.offset)=some b)
 (i:aj P (Op.equalIn d f.type a b)=some r)(j:aj P (Op.eqFields d xs ys fs)=some c):aj P (Op.eqFields d xs ys (f::fs))=some (r&&c):=by
 simp only[Op.eqFields];rw[yAb hn];simp only[ae,e,g,i,yAg];cases r
 .simp;rfl
 .simp[j]
theorem F3:aj P (Op.eqFields d xs ys [])=some true:=rfl
theorem BI{x y:Operand}(a:o.op=.binOp .neq t x y t')(c:ρ x=.pv (.val (.agg xs)))(d:ρ y=.pv (.val (.agg ys)))
 (f:P.eqGuardType P.depth t=false)(h:aj P (Op.equal t (.agg xs) (.agg ys))=some b):bf P o ρ=some (.pv (.val (.bool !b)),[]):=by
 refine dq (by rw[a];simp[Op.operands,c,d,dV]) ?_;unfold execOp;rw[a];simp only[(bg c).2,(bg d).2]
 have h1:aj P (eqGuard .neq t x y (.agg xs) (.agg ys))=some ():=by
  unfold eqGuard;simp only[yBy,ZY,yAi,ae,jx,yAg,f,yCk,yAn];rfl
 have e:aj P (binOp .neq t (.agg xs) (.agg ys))=some (.bool !b):=by
  simp only[binOp,ae,h,yAg];rfl
 simp only[ae,h1,e,yAg];rfl
theorem qI{x y:Operand}(a:o.op=.binOp .eql t x y t')(c:ρ x=.pv (.val (.agg xs)))(d:ρ y=.pv (.val (.agg ys)))
 (f:P.eqGuardType P.depth t=false)(h:aj P (Op.equal t (.agg xs) (.agg ys))=some b):bf P o ρ=some (.pv (.val (.bool b)),[]):=by
 refine dq (by rw[a];simp[Op.operands,c,d,dV]) ?_;unfold execOp;rw[a];simp only[(bg c).2,(bg d).2]
 have h1:aj P (eqGuard .eql t x y (.agg xs) (.agg ys))=some ():=by
  unfold eqGuard;simp only[yBy,ZY,yAi,ae,jx,yAg,f,yCk,yAn];rfl
 have e:aj P (binOp .eql t (.agg xs) (.agg ys))=some (.bool b):=by
  simp only[binOp,ae,h,yAg];rfl
 simp only[ae,h1,e,yAg];rfl
class Sp(G:Prop)(H:outParam Prop):Prop where
 h:H->G
class Ss(G:Prop)(H:outParam Prop):Prop where
 h:H->G
class Sb(G:Prop)(A B D:outParam Prop):Prop where
 h:A->B->D->G
class Sc(G:Prop)(P:outParam Program)(g:outParam FuncId)(as:outParam (List Arg))(hin:outParam (List (List PV)))(F:outParam (List (List PV)->RV->Prop)):Prop where
 h:∀{hout res},aO P g as hin hout res->F hout res->G
section
variable {C:Cx} {Q:Exit->St->Prop} {st:St} {x y c:Code} {id:Nat} {ops:Array Oper}
instance:Sp (WP C (.seq x y) Q st) (WP C x (FT C y Q) st):=⟨WP.seq⟩
instance:Sp (WP C (.block id c) Q st) (WP C c (yN id Q) st):=⟨WP.block⟩
instance:Ss (WP C (.region id ops false) Q st) (fW C.P [] C.N ops (Q .normal) ops.toList st):=⟨WP.region⟩
instance{o:Operand}:Ss (WP C (.cond o x y) Q st) (vq C x y Q st (st.ev o)):=⟨WP.cond'⟩
instance:Ss (WP C .skip Q st) (Q .normal st):=⟨WP.skip⟩
instance:Ss (WP C .ret Q st) (Q .ret st):=⟨WP.ret⟩
instance:Ss (WP C (.exit id) Q st) (Q (.exit id) st):=⟨WP.exit⟩
theorem Wh(hn:List Nat)(h:fW C.P hn C.N ops (Q .normal) ops.toList st):WP C (.region id ops false) Q st:=WP.region h
theorem Wi(hn:List Nat)(h:mT C.P hn C.N ops (λacc st=>qG (mR ops.toList []) acc=true/\Q .normal st) ops.toList [] st)(b:C.P.follows .mixedOrders=true:=by rw[hP];kernel_rfl)(a:mS ops=true:=by kernel_rfl):WP C (.region id ops true) Q st:=WP.draw b a h
theorem Wd(h:mT C.P [] C.N ops (λacc st=>qG (mR ops.toList []) acc=true/\Q .normal st) ops.toList [] st)(b:C.P.follows .mixedOrders=true:=by rw[hP];kernel_rfl)(a:mS ops=true:=by kernel_rfl):WP C (.region id ops true) Q st:=WP.draw b a h
end
section
variable {P:Program} {hn:List Nat} {N:Nat} {ops:Array Oper} {o:Oper} {rest:List Oper} {st:St} {d:Nat} {want b:Bool} {g:FuncId} {as:List Arg} {ks:List Nat} {W0:List (Nat×Blk)} {hin:List (List PV)}
instance{Q:St->Prop}:Sb (xB P hn N ops Q o rest st d want b) (st.t d=.pv (.val (.bool b))) (b=true->xB P hn N ops Q o rest (st.lit d true) d want true) (b=false->xB P hn N ops Q o rest (st.lit d false) d want false):=⟨M8⟩
instance{Q:rE->St->Prop}{acc:rE}:Sb (yB P hn N ops Q o rest acc st d want b) (st.t d=.pv (.val (.bool b))) (b=true->yB P hn N ops Q o rest acc (st.lit d true) d want true) (b=false->yB P hn N ops Q o rest acc (st.lit d false) d want false):=⟨Na⟩
instance{Q:St->Prop}:Sc (xC P hn N ops Q o rest st g as ks W0 hin) P g as hin (λhout res=>xK P hn N ops Q o rest st (mm st.h o.dst ks W0 hout res)):=⟨M7⟩
instance{Q:rE->St->Prop}{acc:rE}{K:List Nat}:Sc (yC P hn N ops Q o rest acc st K g as ks W0 hin) P g as hin (λhout res=>yK P hn N ops Q o rest acc st K (mm (df K st.h) o.dst ks W0 hout res)):=⟨M9⟩
end
theorem Xx{p:Prop}(h:False:=by first|(clear hP hN;simp_all;done)|(simp at *;omega)):p:=h.elim
theorem Xy{p:Prop}(h:False:=by simp at hgd;first|done|omega):p:=h.elim
theorem Ya{a:List Nat}{acc:rE}{b:Prop}(h:b)(k:qG a acc=true:=by kernel_rfl):qG a acc=true/\b:=⟨k,h⟩
theorem Dp{e g p:String}{i j k:Array TypeId}{l q:Nat}{m o:Bool}{r:Option Nat}{b6:List Departure}{s:Array String}(hf:P.funcs[f]?=some fn){args:List Arg}(h:∀C:Cx,C.P=P->C.N=n->WP C c (KQ P rs [] res) (zQ args []))
 (d:fn=⟨e,g,i,j,k,l,n,rs.toArray,some c,m,o,p,q,r,b6,s⟩:=by rfl)(a:dW P f=true:=by kernel_rfl)(b:args.length<=n:=by exact of_decide_eq_true (by kernel_rfl))(u:args.all Arg.isPv=true:=by rfl):aO P f args [] [] res:=by
 subst d;exact Qg hf rfl a b u h
abbrev X2:=@Jx
abbrev Xd:=@HQ
end Go.Ab
