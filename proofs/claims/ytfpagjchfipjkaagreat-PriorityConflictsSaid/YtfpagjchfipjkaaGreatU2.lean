/- The contracts and facts that the laws of this seat need, in one text (AbB, AbG, AbX, Ab26). -/
import Derived.Test.YtfpagjchfipjkaaGreatU1
import Derived.MapKept
import Derived.Laws.StructEq
set_option linter.all false
set_option maxRecDepth 10000
set_option maxHeartbeats 16000000
namespace Go.Ab
open IntKind (i64)
variable {C:Cx}{F:Bool->St->Prop}{G H S:Prop}{K:bG->Prop}{M M':Nat->Nat->Prop}{P:Program}{Q:Exit->St->Prop}{W W0:List (Nat×Blk)}{a:Act}{args caps first:List AV}{as:List Arg}{b want:Bool}{blk:Blk}{c:Code}{cs xs ys:Array Value}{d e i id j k n sz:Nat}{f g:FuncId}{fn:Func}{h:Hp}{hin hout:List (List PV)}{hn ks:List Nat}{is:List Int}{kd:IntKind}{ls:Nat->Bool}{name:String}{o:Oper}{op:BinOp}{ops:Array Oper}{p:PV}{res:RV}{rs:List ResultVar}{st:St}{t t':TypeId}{ti:TI}{ts:List TypeId}{u v:Value}{us:List Value}{w:World}{x:AV}{y:Operand}{ρ ρ':Operand->AV}{σ:Operand->Value}
theorem eZ{α:Type}{P:Program}:∀{s:Sem α}{a:α},ag P s=some a->∀w,s.run P w=.ok a w
 |.pure a,b,e,w=>by simp only[ag,Za]at e;subst e;rfl
 |.program k,b,e,w=>by simp only[ag]at e;exact eZ (s:=k P) e w
 |.load _ _ _,_,e,_=>by simp[ag]at e
 |.store _ _ _ _,_,e,_=>by simp[ag]at e
 |.new _ _,_,e,_=>by simp[ag]at e
 |.shape _ _,_,e,_=>by simp[ag]at e
 |.freeze _ _ _,_,e,_=>by simp[ag]at e
 |.frozen _ _,_,e,_=>by simp[ag]at e
 |.getObj _ _,_,e,_=>by simp[ag]at e
 |.setObj _ _ _,_,e,_=>by simp[ag]at e
 |.choose _ _,_,e,_=>by simp[ag]at e
 |.sys _ _,_,e,_=>by simp[ag]at e
 |.mark _ _,_,e,_=>by simp[ag]at e
 |.halt _,_,e,_=>by simp[ag]at e
theorem rC(off:Nat):∀(l:List Value)(s:Nat)(arr:Array Value),off+s+l.length<=arr.size->
 ((l.zipIdx s).foldl (λcs(p:Value×Nat)=>cs.setIfInBounds (off+p.2) p.1) arr).toList=br arr.toList (off+s) l
 |[],s,arr,_=>by simp[br]
 |v::r,s,arr,h=>by
  simp only[List.zipIdx_cons,yAv];rw[rC off r (s+1) _ (by simp at h|-;omega)];simp only[Array.toList_setIfInBounds,br,yAE];have:=list_seg_step arr.toList (off+s) v r (by simp at h|-;omega);rw[<-Nat.add_assoc off s 1];rw[show off+s+(r.length+1)=off+s+(r.length+1) from rfl];exact this
section
variable {C:Cx} {L:Nat->Loc} {h1 h:Hp} {w:World} {M:Nat->Nat->Prop}
theorem uS(place:Nat->Option (Nat×Nat)):∀{ps:List (Nat×List AV)}{vs:List (Nat×Value)}{cells f:List AV}{arr:Array Value},aD w M L h cells arr.toList->
 (ps.length=vs.length/\∀(q:Nat)(i:Nat) cs(m:Nat)(v:Value),ps[q]?=some (i,cs)->vs[q]?=some (m,v)->m=i/\aD w M L h cs v.cells.toList)->uK place cells ps=some f->
 ∃k,Instr.fill place arr vs=some k/\aD w M L h f k.toList
 |[],vs,cells,f,arr,r,hp,e=>by
  simp only[uK,Za]at e;subst e;have:vs=[]:=ZC (by have:=hp.1;simpa using this.symm);subst this;exact⟨arr,rfl,r⟩
 |(i,cs)::ps,vs,cells,f,arr,r,hp,e=>by
  cases vs with
  |nil=>exact absurd hp.1 (by simp)
  |cons iv vs=>
   obtain⟨m,v⟩:=iv;obtain⟨rfl,y⟩:=hp.2 0 i cs m v rfl rfl;simp only[uK]at e;simp only[Instr.fill]
   cases l:place m with
   |none=>rw[l]at e;cases e
   |some os=>
    obtain⟨g,size⟩:=os;rw[l]at e;simp only at e|-;split at e
    .cases e
    .rename_i j
     have B:cs.length=v.cells.size:=by have:=y.1;simpa using this
     have A:cells.length=arr.size:=by have:=r.1;simpa using this
     have n:cs.length=size:=Classical.not_not.1 (λh=>j (.inl h));have o:¬g+cs.length>cells.length:=λh=>j (.inr h)
     have s:¬((v.cells.size≠size||g+v.cells.size>arr.size)=true):=by simp;omega
     simp only[Y6 s]
     have u:(v.cells.zipIdx.foldl (λcs(p:Value×Nat)=>cs.setIfInBounds (g+p.2) p.1) arr).toList=br arr.toList g v.cells.toList:=by
      have:=rC g v.cells.toList 0 arr (by simp;omega);rw[<-Array.foldl_toList,Array.toList_zipIdx];simpa using this
     refine uS place (cells:=br cells g cs) ?_ ⟨by have:=hp.1;simpa using this,λq a b c d h1 z=>hp.2 (q+1) a b c d (by simpa using h1) (by simpa using z)⟩ e;have x:=r.splice_ y g;rw[<-u]at x;exact x
theorem vR(hs:∀k b,h1 k=some b->h k=some b){ρ:Operand->AV}{σ:Operand->Value}:∀{ps:List (Nat×Operand)}{c:List (Nat×List AV)},(∀x∈ps.map (·.2),RepA w M L h (ρ x) (σ x))->rl h1 ρ ps=some c->
 c.length=(ps.map λ(i,x)=>(i,σ x)).length/\∀(q:Nat)(i:Nat) cs(g:Nat)(v:Value),c[q]?=some (i,cs)->(ps.map λ(i,x)=>(i,σ x))[q]?=some (g,v)->g=i/\aD w M L h cs v.cells.toList
 |[],c,_,e=>by simp only[rl,Za]at e;subst e;exact⟨rfl,λq i cs g v h=>by simp at h⟩
 |(i,x)::ps,c,j,e=>by
  simp only[rl]at e;split at e
  .rename_i cs s n o
   injection e with e;subst e;obtain⟨p,r⟩:=vR hs (λy l=>j y (by simp at l|-;exact .inr l)) o;refine⟨by simpa using p,λq a d m v hq f=>?_⟩
   cases q with
   |zero=>
    simp at hq f;obtain⟨rfl,rfl⟩:=hq;obtain⟨rfl,rfl⟩:=f;exact⟨rfl,qw hs (j x (by simp)) n⟩
   |succ q=>exact r q a d m v (by simpa using hq) (by simpa using f)
  .cases e
theorem AD{P:Program}(w:World):∀(fs:List Field),(∀f∈fs,∃i,P.info? f.type=some i)->
 (fs.mapM (m:=Sem) λf=>do pure (f.offset,<-sizeOf f.type)).run P w=.ok (fs.map λf=>(f.offset,oX P f.type)) w
 |[],_=>by simp
 |f::fs,hf=>by
  obtain⟨i,hi⟩:=hf f (by simp);simp only[List.mapM_cons,Sem.run_bind,fF hi,Result.andThen_ok,Sem.run_pure,AD w fs (λg a=>hf g (by simp[a]))];simp[oX,hi]
theorem DI(N:aA C.P t=some ti){J:List (Nat×List AV)}{vs:List (Nat×Value)}(hp:J.length=vs.length/\∀(q:Nat)(i:Nat) cs(O:Nat)(v:Value),J[q]?=some (i,cs)->vs[q]?=some (O,v)->O=i/\aD w M L h cs v.cells.toList)
 {v:AV}(e:yb ti J=some v):∃r,(Instr.build t vs.toArray).run C.P w=.ok r w/\RepA w M L h v r:=by
 obtain⟨i,d,hi,hd,R,T,b⟩:=gE N;have l:=AC N;unfold yb at e;split at e
 .cases e
 .rename_i z I
  have F:i.zero=some z:=by rw[<-T];exact I
  have o:aD w M L h (z.cells.toList.map λv=>AV.pv (.val v)) z.cells.toList:=by
   refine⟨by simp,λq p u hp s=>?_⟩;simp only[Y7,II]at hp;obtain⟨y,S,rfl⟩:=hp;rw[S]at s;injection s with s;subst s;exact .pv (.val _)
  have c:(zeroValue t).run C.P w=.ok z w:=by simp[zeroValue,kL hi,F]
  split at e
  .rename_i fs a
   rw[b]at a;split at a
   .rename_i g
    injection a with a;simp only[II]at e;obtain⟨cells,A,rfl⟩:=e;obtain⟨arr,D,E⟩:=uS (arr:=z.cells) _ o hp A;refine⟨.agg arr,?_,?_⟩
    .have k:∀f∈g.toList,∃i,C.P.info? f.type=some i:=by
      unfold mb at l;rw[hd]at l;intro f hf;exact ZA.1 (L4.1 l f hf)
     have H:=AD (P:=C.P) w g.toList k;simp only[Instr.build,Sem.run_bind,c,Result.andThen_ok,bM hd,Array.mapM_eq_mapM_toList,Sem.run_map,H]
     have m:(λ(x:Nat)=>(List.map (λf=>(f.offset,oX C.P f.type)) g.toList).toArray[x]?)=λ(i:Nat)=>fs[i]?:=by funext x;rw[<-a];simp
     simp only[m,D];rfl
    .have:=tz E
     simpa using this
   .cases a
   .split at a<;>cases a
   .cases a
  .rename_i n B a
   rw[b]at a;split at a
   .cases a
   .rename_i U Q
    injection a with _ a;simp only[II]at e;obtain⟨cells,A,rfl⟩:=e;obtain⟨arr,D,E⟩:=uS (arr:=z.cells) _ o hp A;refine⟨.agg arr,?_,?_⟩
    .have k:∃j,C.P.info? Q=some j:=by
      unfold mb at l;rw[hd]at l;exact ZA.1 l
     obtain⟨j,K⟩:=k
     have G:j.size=B:=by rw[<-a];simp[oX,K]
     simp only[Instr.build,Sem.run_bind,c,Result.andThen_ok,bM hd,fF K,G,D];rfl
    .have:=tz E
     simpa using this
   .split at a<;>cases a
   .cases a
  .cases e
theorem zb(hs:∀k b,h1 k=some b->h k=some b){fz:Nat}{xs:List PV}(f:h k=some (.row e sz xs fz))(a:tV h1 k n=true):xs.length=n:=by
 unfold tV at a;split at a
 .rename_i j g i d c
  have:=hs _ _ c;rw[f]at this;injection this with this;injection this with _ _ a3 _;subst a3;simpa using a
 .cases a
theorem yY(R:aA C.P t=some ti){v:AV}{f:Nat}(hs:∀k b,h1 k=some b->h k=some b)(K:RepA w M L h x u)(e:pK ti x f h1=some v):
 ∃r,(Instr.fieldAt t u f).run C.P w=.ok r w/\RepA w M L h v r:=by
 obtain⟨i,d,hi,hd,Q,V,m⟩:=gE R;unfold pK at e;split at e
 .rename_i fs a
  rw[m]at a;split at a
  .rename_i G
   injection a with a;split at e
   .rename_i o s hf
    split at e
    .cases e
    .rename_i O
     rw[<-a]at hf;simp only[Y7,II,Zl]at hf;obtain⟨p,H,rfl,g⟩:=hf
     have l:∃j,C.P.info? p.type=some j/\j.size≠0:=by
      unfold oX at g
      cases E:C.P.info? p.type with
      |none=>rw[E]at g;simp at g;omega
      |some j=>rw[E]at g;simp at g;exact⟨j,rfl,by omega⟩
     obtain⟨j,E,I⟩:=l
     have A:G[f]?=some p:=by rw[<-Array.getElem?_toList];exact H
     have c:∀b q,(Instr.fieldAt t (.pointer (some ⟨b,q,none⟩)) f).run C.P w=.ok (.pointer (some ⟨b,q+p.offset,none⟩)) w:=by
      intro b q;simp only[Instr.fieldAt,Sem.run_bind,bM hd,Result.andThen_ok,A,Instr.sureAddr,Sem.run_pure,fieldPlace,fF E,I,Zk,fo]
     split at e
     .injection e with e;subst e
      cases K with
      |ptr F=>exact⟨_,c _ _,.ptr F⟩
     .rename_i y D
      injection e with e;subst e
      cases K with
      |pv J=>cases J with
       |rptr _ b T _ U N J=>exact⟨_,c _ _,.pv (by rw[yAB];exact .rptr y b T (D+p.offset) U N J)⟩
     .rename_i k n W D
      split at e
      .rename_i z
       injection e with e;subst e
       cases K with
       |eptr F hn S=>
        obtain⟨B,rfl⟩:=S (zb hs F z);exact⟨_,c _ _,.eptr F hn (λ_=>⟨B,by rw[yAB]⟩)⟩
      .cases e
     .cases e
   .cases e
  .cases a
  .split at a<;>cases a
  .cases a
 .cases e
end
section
variable {C:Cx} {L:Nat->Loc} {h1 h:Hp} {w:World}
theorem yZ(hs:∀k b,h1 k=some b->h k=some b)(W:aA C.P t=some ti){v:AV}{n:Int}{kk:IntKind}(O:RepA w M L h x u)
 (I:∀k e sz xs fz,h k=some (.row e sz xs fz)->(L k).isNil=true->xs=[])(e:pL ti x n h1=some v):
 ∃r,(Instr.indexAt t u (.int kk n)).run C.P w=.ok r w/\RepA w M L h v r:=by
 obtain⟨i,d,hi,hd,J,hz,T⟩:=gE W;unfold pL at e;split at e
 .rename_i et q eb ez s
  obtain⟨N,Z,A,rfl,rfl,_⟩:=dJ W s
  have a:∀b o len cap,0<=n->n.toNat<len->(Instr.indexAt t (.slice (some ⟨b,o,none⟩) len cap) (.int kk n)).run C.P w=.ok (.pointer (some ⟨b,o+n.toNat*Z.size,none⟩)) w:=by
   intro b o len cap B l;have g:0<=n/\n<(len:Int):=⟨B,by omega⟩;simp only[Instr.indexAt,asIntOf,Sem.run_bind,Sem.run_pure,Result.andThen_ok,bM N,g,and_self,Zp,fF A,fo]
  split at e
  .rename_i xs
   split at e
   .rename_i B
    split at e
    .rename_i y Q
     split at e
     .rename_i Y
      injection e with e;subst e;have l:n.toNat<xs.length:=(th.1 Q).1
      cases O with
      |pv E=>cases E with
       |sl0=>simp at Q
       |sl _ b o c sz uu ah J g E=>
        refine⟨_,a b o _ c B l,.pv ?_⟩
        have K:sz=Z.size:=by rw[<-J _ y Q];exact Y
        subst K;have:=Rep.rptr (w:=w) (M:=M) y b (o+n.toNat*Z.size) 0 (λj=>uu n.toNat j) (λj p A=>by have:=g _ y j p Q A;rwa [<-Nat.add_assoc]at this) (λj p A=>E _ y j p Q A);exact this
     .cases e
    .cases e
   .cases e
  .rename_i k m
   split at e
   .rename_i e0 sz xs fz s
    split at e
    .rename_i g
     obtain⟨V,F,B,l⟩:=g;injection e with e;subst e;have D:=hs _ _ s
     cases O with
     |arr z aj X=>
      rw[D]at z;injection z with z;injection z with a1 a2 a3 a4;subst a1;subst a2;subst a3;subst a4;rw[X V]
      cases f:(L k).isNil with
      |true=>rw[I k _ _ _ _ D f]at V;simp at V;omega
      |false=>
       simp only[Loc.slice,f,Y9,Zk];refine⟨_,a _ _ _ _ B l,.eptr D (by omega) (λ_=>⟨f,?_⟩)⟩;rw[F];simp
    .cases e
   .cases e
  .cases e
 .rename_i len q s
  split at e
  .rename_i g
   obtain⟨B,l⟩:=g
   have G:∃R,d=.array len R/\oX C.P R=q:=by
    grind
   obtain⟨R,rfl,F⟩:=G
   have U:∃j,C.P.info? R=some j:=by
    have:=AC W
    grind [mb,Option.isSome_iff_exists]
   obtain⟨j,A⟩:=U
   have S:j.size=q:=by rw[<-F];simp[oX,A]
   have a:∀b o,(Instr.indexAt t (.pointer (some ⟨b,o,none⟩)) (.int kk n)).run C.P w=.ok (.pointer (some ⟨b,o+n.toNat*q,none⟩)) w:=by
    intro b o;have g:0<=n/\n<(len:Int):=⟨B,by omega⟩;simp only[Instr.indexAt,asIntOf,Sem.run_bind,Sem.run_pure,Result.andThen_ok,bM hd,Instr.sureAddr,g,and_self,Zp,fF A,fo,S]
   split at e
   .injection e with e;subst e
    cases O with
    |ptr s=>exact⟨_,a _ _,.ptr s⟩
   .rename_i y ad
    injection e with e;subst e
    cases O with
    |pv E=>cases E with
     |rptr _ b o' _ uu g E=>exact⟨_,a _ _,.pv (by rw[yAB];exact .rptr y b o' _ uu g E)⟩
   .rename_i k m j' ad
    split at e
    .rename_i H
     injection e with e;subst e
     cases O with
     |eptr s hn X=>
      obtain⟨f,rfl⟩:=X (zb hs s H);exact⟨_,a _ _,.eptr s hn (λ_=>⟨f,by rw[yAB]⟩)⟩
    .cases e
   .cases e
  .cases e
 .cases e
theorem BP(hs:∀k b,h1 k=some b->h k=some b)(D:aA C.P t=some ti){v:AV}{n:Int}{kk:IntKind}(E:RepA w M L h x u)(e:uJ ti x n h1=some v):
 ∃r,(Instr.indexAt t u (.int kk n)).run C.P w=.ok r w/\RepA w M L h v r:=by
 unfold uJ at e;split at e
 .rename_i J H K k m S s
  obtain⟨a,F,q,i,_,_⟩:=dJ D s;split at e
  .rename_i g
   injection e with e;subst e
   cases E with
   |ext j=>cases j with
    |barr O d=>
     have p:0<=n/\n<(m:Int):=⟨g.1,by omega⟩;refine⟨.pointer (some ⟨(L k).b,n.toNat,none⟩),?_,.ptr d⟩;simp only[Instr.indexAt,asIntOf,Sem.run_bind,Sem.run_pure,Result.andThen_ok,bM a,p,and_self,Zp,fF q,fo,i,yAF,Z7]
  .cases e
 .rename_i J I H K k o m t9 s
  obtain⟨a,F,q,i,_,_⟩:=dJ D s;split at e
  .rename_i e0 sz xs T y
   split at e
   .rename_i g
    obtain⟨c1,G,B,l⟩:=g;injection e with e;subst e;have d:=hs _ _ y
    cases E with
    |ext j=>cases j with
     |suf _ f Q z R=>
      rw[d]at f;injection f with f;injection f with _ a2 a3 _;subst a2;subst a3;obtain⟨A,c,rfl,N⟩:=R c1;rcases N with⟨g1,rfl,g3⟩|⟨g1,_,_⟩
      .have p:0<=n/\n<(m:Int):=⟨B,(Int.toNat_lt B).1 l⟩
       refine⟨.pointer (some ⟨(L k).b,o*sz+n.toNat*F.size,none⟩),?_,.eptr d z (λ_=>⟨g1,?_⟩)⟩
       .simp only[Instr.indexAt,asIntOf,Sem.run_bind,Sem.run_pure,Result.andThen_ok,bM a,p,and_self,Zp,fF q,fo]
       .rw[i,<-G,ZO,yA3]
      .rw[g1]at l;exact absurd l (Nat.not_lt_zero _)
   .cases e
  .cases e
 .cases e
theorem El{x y:Option AV}{v:AV}(e:BI x y=some v):x=some v\/y=some v:=by
 cases x with
 |some a=>exact .inl e
 |none=>exact .inr e
theorem Em{x y:Option bG}{v:bG}(e:BJ x y=some v):x=some v\/y=some v:=by
 cases x with
 |some a=>exact .inl e
 |none=>exact .inr e
theorem Gq(hs:∀k b,h1 k=some b->h k=some b){ty:TypeId}(m:aA C.P t=some ti){v:AV}(p:RepA w M L h x u)
 (G:∀k e sz xs z,h k=some (.row e sz xs z)->(L k).isNil=true->xs=[])(e:DO ti x h1=some v):
 ∃r,(Builtin.len_ #[t] ty #[u]).run C.P w=.ok r w/\RepA w M L h v r:=by
 unfold DO at e;split at e
 .rename_i s i q y xs f
  obtain⟨d,_⟩:=dJ m f;injection e with e;subst e
  have:∃A c,u=.slice A xs.length c:=by
   cases p with
   |pv E=>cases E with
    |sl0 a c=>exact⟨a,c,rfl⟩
    |sl _ b o c=>exact⟨_,c,rfl⟩
  obtain⟨A,c,rfl⟩:=this;exact⟨_,by simp[Builtin.len_,bM d,goInt],.pv (.val _)⟩
 .rename_i s i q y n f
  obtain⟨d,_⟩:=dJ m f;injection e with e;subst e
  cases p with
  |pv E=>cases E with
   |hd _ A c=>exact⟨_,by simp[Builtin.len_,bM d,goInt],.pv (.val _)⟩
 .rename_i s i q y k n f
  obtain⟨d,_⟩:=dJ m f;split at e
  .rename_i e0 sz xs z f
   split at e
   .rename_i F
    injection e with e;subst e;have l:=hs _ _ f
    have:∃A c,u=.slice A n c:=by
     cases p with
     |arr g D H=>
      grind [Loc.slice]
    obtain⟨A,c,rfl⟩:=this;exact⟨_,by simp[Builtin.len_,bM d,goInt],.pv (.val _)⟩
   .cases e
  .cases e
 .rename_i s i q y k n J f
  obtain⟨d,_⟩:=dJ m f;injection e with e;subst e
  cases p with
  |ext j=>cases j with
   |barr _ _=>exact⟨_,by simp[Builtin.len_,bM d,goInt],.pv (.val _)⟩
 .rename_i s i q y k o n t9 f
  obtain⟨d,_⟩:=dJ m f;split at e
  .rename_i e0 sz xs z B
   split at e
   .rename_i F
    injection e with e;subst e;have l:=hs _ _ B
    cases p with
    |ext j=>cases j with
     |suf _ g D I H=>
      rw[l]at g;injection g with g;injection g with _ a2 a3 _;subst a2;subst a3;obtain⟨A,c,rfl,_⟩:=H F;exact⟨_,by simp[Builtin.len_,bM d,goInt],.pv (.val _)⟩
   .cases e
  .cases e
 .cases e
def PH(ul:Option Value)(y:Nat):Sem Nat:=match ul with|some v=>Instr.sliceBound v y .sliceB|none=>pure 0
def PI(uh:Option Value)(n c:Nat):Sem Nat:=match uh with|some v=>Instr.sliceBound v c .sliceAcap|none=>pure n
theorem vT(ht:aA C.P t=some ti){v:AV}(U:RepA w M L h x u){lo hi:Option AV}{ul uh:Option Value}
 (S:∀a,lo=some a->∃b,ul=some b/\RepA w M L h a b)(G:lo=none->ul=none)(R:∀a,hi=some a->∃b,uh=some b/\RepA w M L h a b)(D:hi=none->uh=none)
 (e:iW ti x lo hi=some v):
 ∃r,(Instr.sliceAt t u ul uh none).run C.P w=.ok r w/\RepA w M L h v r:=by
 unfold iW at e;split at e
 .rename_i et X eb ez xs hk
  obtain⟨J,m,E,rfl,rfl,_⟩:=dJ ht hk;simp only at e;split at e
  .rename_i l r g d
   split at e
   .rename_i hc
    obtain⟨c1,V,c3,W⟩:=hc;injection e with e;subst e
    have Y:∃A c,u=.slice A xs.length c/\xs.length<=c:=by
     cases U with
     |pv d=>cases d with
      |sl0 a c=>exact⟨a,c,rfl,ZV _⟩
      |sl _ b o c _ _ z=>exact⟨_,c,rfl,z⟩
    obtain⟨A,c,rfl,ah⟩:=Y
    have O:∀y,l<=y->(PH ul y).run C.P w=.ok l w:=by
     intro y k
     cases lo with
     |none=>rw[G rfl];simp at g;subst g;rfl
     |some a=>
      obtain⟨b,rfl,q⟩:=S a rfl
      cases a with
      |pv p=>cases p with
       |val T=>cases T with
        |int kk n=>
         cases q with
         |pv q=>
          rw[aK q];simp only at g;split at g
          .rename_i N
           injection g with g;have:0<=n/\n<=(y:Int):=⟨N,by omega⟩;simp[PH,Instr.sliceBound,asIntOf,this,g]
          .cases g
        |_=>simp at g
       |_=>simp at g
      |_=>simp at g
    have ad:(PI uh xs.length c).run C.P w=.ok r w:=by
     cases hi with
     |none=>rw[D rfl];simp at d;subst d;rfl
     |some a=>
      obtain⟨b,rfl,q⟩:=R a rfl
      cases a with
      |pv p=>cases p with
       |val T=>cases T with
        |int kk n=>
         cases q with
         |pv q=>
          rw[aK q];simp only at d;split at d
          .rename_i N
           injection d with d;have:0<=n/\n<=(c:Int):=⟨N,by omega⟩;simp[PI,Instr.sliceBound,asIntOf,this,d]
          .cases d
        |_=>simp at d
       |_=>simp at d
      |_=>simp at d
    refine⟨.slice (if c=l then A else A.map (·.add (l*m.size))) (r-l) (c-l),?_,?_⟩
    .have Z:=O r c1
     have key:(Instr.sliceBounds true xs.length c ul uh none).run C.P w=.ok (l,r,c) w:=by
      unfold Instr.sliceBounds;cases uh<;>cases ul<;>simp_all[PH,PI]
     simp only[Instr.sliceAt,Sem.run_bind,bM J,Result.andThen_ok,Instr.slice,key,fF E,Sem.run_pure]
    .have F:((xs.take r).drop l).length=r-l:=by simp;omega
     refine .pv ?_;by_cases hz:r-l=0
     .have:(xs.take r).drop l=[]:=ZC (by omega)
      rw[this,hz];exact .sl0 _ _
     .cases U with
      |pv s=>cases s with
       |sl0=>simp at V;omega
       |sl _ b o _ sz uu aj H B s=>
        have Q:¬c=l:=by omega
        rw[Y6 Q]
        have I:sz=m.size:=by
         have K:0<xs.length:=by omega
         rw[<-H 0 xs[0] (an K)];have:=L4.1 W xs[0] (Zs K);simp[pV]at this;exact this.1
        subst I;simp only[ZS,fo];rw[<-F]
        have f:∀(i:Nat) y,((xs.take r).drop l)[i]?=some y->xs[l+i]?=some y:=by
         intro i y k;rw[Z3,Zy]at k;split at k
         .exact k
         .cases k
        refine .sl _ b (o+l*m.size) _ m.size (λi j=>uu (l+i) j) (by omega) (λi y k=>H _ y (f i y k)) (λi y j p k E=>?_) (λi y j p k E=>s _ y j p (f i y k) E);have:=B _ y j p (f i y k) E;rw[ZO]at this;rw[show o+l*m.size+(i*m.size+j)=o+(l*m.size+i*m.size+j) from by omega];exact this
   .cases e
  .cases e
 .cases e
theorem Ia{a:Bool}(b:MemL C L h w)(hf:bI h1 h)(d:RepA w (ae C L h) L h x u)(e:H1 a h1 x=some (p,W)):
 aH C L h w L (ai h W) w/\Rep w (ae C L (ai h W)) p u/\bI h1 (ai h W):=by
 unfold H1 at e;split at e
 .injection e with e;injection e with e1 e2;subst e1;subst e2
  cases d with
  |pv c=>exact⟨aH.refl b,c,hf⟩
 grind [m8]
theorem vU{ρ:Operand->AV}{σ:Operand->Value}{b:Nat}{l:Bool}:∀{ps:List (Nat×Operand)}{k:Nat}{h:Hp}(_:MemL C L h w)(_:bI h1 h)(_:∀x∈ps.map (·.2),RepA w (ae C L h) L h (ρ x) (σ x)){xs:List PV}{W:List (Nat×Blk)},
 rm h1 ρ b l k ps=some (xs,W)->aH C L h w L (ai h W) w/\bI h1 (ai h W)/\xs.length=ps.length/\(∀x∈xs,x.cells.length=b)/\
  (∀(q:Nat)(i:Nat)(v:Value),(ps.map λ(i,x)=>(i,σ x))[q]?=some (i,v)->i=k+q/\∃p,xs[q]?=some p/\Rep w (ae C L (ai h W)) p v)
 |[],k,h,d,hf,g,xs,W,e=>by
  simp only[rm,Za,Zl]at e;obtain⟨rfl,rfl⟩:=e;exact⟨aH.refl d,hf,rfl,by simp,λq i v h=>by simp at h⟩
 |(i,x)::ps,k,h,d,hf,g,xs,W,e=>by
  simp only[rm]at e;split at e
  .rename_i c
   subst c;split at e
   .rename_i p H G I B D
    split at e
    .rename_i f
     injection e with e;injection e with ea eb;subst ea;subst eb;obtain⟨a1,m,n⟩:=Ia d hf (g x (by simp)) B;obtain⟨b1,o,r,s,u⟩:=vU a1.1 n (λy a=>(g y (by simp at a|-;exact .inr a)).mono a1.2.1 a1.2.2) D;rw[bH];refine⟨a1.trans b1,o,by simp[r],?_,?_⟩
     .intro y a
      rcases Zx.1 a with rfl|a
      .exact f
      .exact s y a
     .intro q E v j
      cases q with
      |zero=>simp at j;obtain⟨rfl,rfl⟩:=j;exact⟨by omega,p,rfl,m.mono b1.2.1⟩
      |succ q=>
       obtain⟨c1,F,z,A⟩:=u q E v (by simpa using j);exact⟨by omega,F,by simpa using z,A⟩
    .cases e
   .cases e
  .cases e
theorem wH{c:Nat}:∀{vs:List (Nat×Value)}{k:Nat}{arr:Array Value},(∀(q:Nat) i v,vs[q]?=some (i,v)->i=k+q/\v.cells.size=c)->arr.size=(k+vs.length)*c->
 ∃d,Instr.fill (λi=>some (i*c,c)) arr vs=some d/\d.size=arr.size/\(∀q,q<k*c->d[q]?=arr[q]?)/\
  ∀(q:Nat) i v(j:Nat),vs[q]?=some (i,v)->j<c->d[(k+q)*c+j]?=v.cells[j]?
 |[],k,arr,_,o=>⟨arr,rfl,rfl,λ_ _=>rfl,λq i v j h=>by simp at h⟩
 |(i,v)::vs,k,arr,s,o=>by
  obtain⟨u,y⟩:=s 0 i v rfl
  obtain rfl:k=i:=by omega
  have x:k*c+c<=arr.size:=by rw[o];simp only[yAE];rw[ZO,ZO];omega
  have m:¬((v.cells.size≠c||k*c+v.cells.size>arr.size)=true):=by simp;omega
  simp only[Instr.fill,Y6 m]
  have e:(v.cells.zipIdx.foldl (λcs(p:Value×Nat)=>cs.setIfInBounds (k*c+p.2) p.1) arr).toList=br arr.toList (k*c) v.cells.toList:=by
   have:=rC (k*c) v.cells.toList 0 arr (by simp;omega);rw[<-Array.foldl_toList,Array.toList_zipIdx];simpa using this
  generalize B:v.cells.zipIdx.foldl (λcs(p:Value×Nat)=>cs.setIfInBounds (k*c+p.2) p.1) arr=A at e
  have g:A.size=arr.size:=by
   have:A.toList.length=arr.size:=by rw[e];simp[br];omega
   simpa using this
  obtain⟨d,g1,g2,g3,g4⟩:=wH (vs:=vs) (k:=k+1) (arr:=A) (λq i r hq=>by
   obtain⟨a,b⟩:=s (q+1) i r (by simpa using hq);exact⟨by omega,b⟩) (by rw[g,o];simp only[yAE];congr 1;omega)
  have f:∀q,q<k*c->A[q]?=arr[q]?:=by
   intro q hq;rw[<-Array.getElem?_toList,e];unfold br;rw[yAd,Y8 (by simp;omega),Zy,Zd hq];simp
  have l:∀j,j<c->A[k*c+j]?=v.cells[j]?:=by
   intro j n;rw[<-Array.getElem?_toList,e];unfold br;rw[yAd,Zc (by simp;omega),Y8 (by simp;omega)];simp only[ZP,yAc];rw[show k*c+j-min (k*c) arr.size=j from by omega];simp
  refine⟨d,g1,by omega,λq hq=>?_,λq z r j hq n=>?_⟩
  .rw[g3 q (by rw[ZO];omega),f q hq]
  .cases q with
   |zero=>
    simp at hq;obtain⟨rfl,rfl⟩:=hq;rw[yA3,g3 _ (by rw[ZO];omega),l j n]
   |succ q=>
    have:=g4 q z r j (by simpa using hq) n;rw[show k+(q+1)=k+1+q from by omega];exact this
end
section
variable {C:Cx} {L:Nat->Loc} {h1 h:Hp} {w:World}
theorem Eo(c:∀cs b,o.op≠.select cs b)(k:∀x∈o.op.operands,RepA w M L h (ρ x) (σ x)){v:AV}
 (e:aU C.P o ρ=some (v,W)):∃u,(execOp σ o).run C.P w=.ok (.value u) w/\W=[]/\v=.pv (.val u):=by
 unfold aU at e;split at e
 .rename_i a
  split at e
  .rename_i u g
   injection e with e;injection e with e1 e2;subst e1;subst e2
   have d:execOp σ o=execOp (λx=>qM (ρ x)) o:=by
    refine execOp_congr o c (λx i=>?_);have h1:=L4.1 a x (by simpa using i);have f:=k x i;generalize ρ x=y at h1 f|-
    cases y with
    |pv p=>cases p with
     |val l=>cases f with
      |pv j=>rw[aK j];rfl
     |_=>simp[er]at h1
    |_=>simp[er]at h1
   grind [eZ]
  .cases e
 .cases e
theorem TE{args:List Operand}(e:args.map ρ=[x]):∃a,args=[a]/\ρ a=x:=by
 simp_all
theorem Ib{args:List Operand}{y:AV}(e:args.map ρ=[x,y]):∃a b,args=[a,b]/\ρ a=x/\ρ b=y:=by
 cases args with
 |nil=>simp at e
 |cons a r=>cases r with
  |nil=>simp at e
  |cons b r=>cases r with
   |nil=>simp at e;exact⟨a,b,rfl,e.1,e.2⟩
   |cons=>simp at e
theorem af{α β:Type}{P:Program}:∀(s:Sem α)(f:α->Sem β),ag P (s >>= f)=(ag P s).bind λa=>ag P (f a)
 |.pure a,f=>rfl
 |.program k,f=>by
  show ag P ((k P) >>= f)=_;rw[af (k P) f];rfl
 |.load _ _ _,_=>rfl
 |.store _ _ _ _,_=>rfl
 |.new _ _,_=>rfl
 |.shape _ _,_=>rfl
 |.freeze _ _ _,_=>rfl
 |.frozen _ _,_=>rfl
 |.getObj _ _,_=>rfl
 |.setObj _ _ _,_=>rfl
 |.choose _ _,_=>rfl
 |.sys _ _,_=>rfl
 |.mark _ _,_=>rfl
 |.halt _,_=>rfl
theorem cH{α:Type}(a:α):ag P (pure a)=some a:=rfl
theorem dF(h1:(o.op.operands.toList.all λx=>(er (ρ x)).isSome)=true)(a:ag P (execOp (λx=>qM (ρ x)) o)=some (.value v)):aU P o ρ=some (.pv (.val v),[]):=by
 grind [aU]
theorem bt(h:x=.pv (.val v)):er x=some v/\qM x=v:=by subst h;exact⟨rfl,rfl⟩
theorem Gr{y:AV}(e:tW op x y=some v)(P:Program)(t:TypeId)(f g:Operand):
 ∃a b,x=.pv (.val a)/\y=.pv (.val b)/\ag P (do eqGuard op t f g a b;binOp op t a b)=some v:=by
 unfold tW at e;split at e
 .rename_i k a i b
  refine⟨.int k a,.int i b,rfl,rfl,?_⟩
  have d:ag P (eqGuard op t f g (.int k a) (.int i b))=some ():=by unfold eqGuard;cases op<;>rfl
  rw[af,d];simp only[Zi];cases op<;>simp only at e
  case shl=>
   split at e
   .rename_i h;injection e with e;subst e
    have:¬b<0:=by omega
    simp only[binOp,Op.shift,this,Zk];rfl
   .cases e
  case shr=>
   split at e
   .rename_i h;injection e with e;subst e
    have:¬b<0:=by omega
    simp only[binOp,Op.shift,this,Zk];rfl
   .cases e
  case quo=>
   split at e
   .rename_i h;injection e with e;subst e
    obtain⟨rfl,c⟩:=h;simp only[binOp,ne_eq,yAw,Zk,Op.intDiv,c];rfl
   .cases e
  case rem=>
   split at e
   .rename_i h;injection e with e;subst e
    obtain⟨rfl,c⟩:=h;simp only[binOp,ne_eq,yAw,Zk,Op.intDiv,c];rfl
   .cases e
  all_goals first
   |(split at e
     .rename_i h;injection e with e;subst e;subst h
      simp only[binOp,ne_eq,yAw,Zk];rfl
     .cases e)
   |cases e
 .rename_i a b
  refine⟨.string a,.string b,rfl,rfl,?_⟩
  have d:ag P (eqGuard op t f g (.string a) (.string b))=some ():=by unfold eqGuard;cases op<;>rfl
  rw[af,d];simp only[Zi]
  cases op<;>simp only at e<;>first|(injection e with e;subst e;rfl)|cases e|skip
  split at e
  .rename_i h
   injection e with e;subst e;show ag P (Op.stringOp .add a b)=_;unfold Op.stringOp;simp only;rw[Y6 (by rw[show i64.max=9223372036854775807 by decide];omega)];rfl
  .cases e
 .cases e
theorem K4{x:Operand}(c:o.op=.binOp op t x y t')(e:tW op (ρ x) (ρ y)=some v):aU P o ρ=some (.pv (.val v),[]):=by
 obtain⟨a,b,d,f,g⟩:=Gr e P t x y;refine dF (by rw[c];simp[Op.operands,d,f,er]) ?_;unfold execOp;rw[c];simp only[(bt d).2,(bt f).2];rw[af,g];rfl
theorem N0{op:UnOp}{x:Operand}(c:o.op=.unOp op t x)(e:Au op (ρ x)=some v):aU P o ρ=some (.pv (.val v),[]):=by
 unfold Au at e;split at e
 .rename_i b a
  injection e with e;subst e;refine dF (by rw[c];simp[Op.operands,a,er]) ?_;unfold execOp;rw[c];simp only[(bt a).2];rfl
 .rename_i k n a
  injection e with e;subst e;refine dF (by rw[c];simp[Op.operands,a,er]) ?_;unfold execOp;rw[c];simp only[(bt a).2];rfl
 .cases e
theorem vV{k:IntKind}(e:gD P t=some k):P.underlying t=some (.int k):=by
 grind [gD]
theorem cw{d:TypeDesc}(e:P.underlying t=some d):ag P (underlying t)=some d:=by
 unfold underlying;rw[af];show ag P (match P.underlying t with|some d=>pure d|none=>stuck "no such type")=some d;rw[e];rfl
theorem Jq{s d:TypeId}{x:Operand}(a:o.op=.convert s d x)(e:uO P s d (ρ x)=some v):aU P o ρ=some (.pv (.val v),[]):=by
 unfold uO at e;split at e
 .rename_i f k k1 n h1 c b
  injection e with e;subst e;refine dF (by rw[a];simp[Op.operands,b,er]) ?_;unfold execOp;rw[a];simp only[(bt b).2];rw[af]
  have:ag P (convert s d (.int k1 n))=some (.int k (k.wrap n)):=by
   unfold convert;rw[af,cw (vV h1)];simp only[Zi];rw[af,cw (vV c)];rfl
  rw[this];rfl
 .cases e
theorem K5{as:List Operand}(d:o.op=.call ⟨.builtin .min,⟨as⟩,⟨ts⟩⟩)(e:ye (as.map ρ)=some v):aU P o ρ=some (.pv (.val v),[]):=by
 unfold ye at e;split at e
 .rename_i k a i b c
  injection e with e;subst e;obtain⟨x,y,rfl,f,g⟩:=Ib c;refine dF (by rw[d];simp[Op.operands,Call.operands,f,g,er]) ?_;unfold execOp;rw[d];simp[resolve,invoke,builtin,Builtin.min_,(bt f).2,(bt g).2,Builtin.min2,af,cH]
 .cases e
theorem K6{as:List Operand}(d:o.op=.call ⟨.builtin .max,⟨as⟩,⟨ts⟩⟩)(e:yg (as.map ρ)=some v):aU P o ρ=some (.pv (.val v),[]):=by
 unfold yg at e;split at e
 .rename_i k a i b c
  injection e with e;subst e;obtain⟨x,y,rfl,f,g⟩:=Ib c;refine dF (by rw[d];simp[Op.operands,Call.operands,f,g,er]) ?_;unfold execOp;rw[d];simp[resolve,invoke,builtin,Builtin.max_,(bt f).2,(bt g).2,Builtin.max2,af,cH]
 .cases e
theorem kM{q:Option Value}{e:bG}(h:∀v,q=some v->aU P o ρ=some (.pv (.val v),[]))(a:nG P o ρ q=some e):aU P o ρ=some e:=by
 cases q with
 |none=>exact a
 |some v=>rw[h v rfl];exact a
theorem mI{i:TypeInfo}(h:P.info? t=some i):ag P (typeInfo t)=some i:=by
 unfold typeInfo;rw[af];show(some P).bind _=_;rw[Zi,h];rfl
theorem N2{x i:Operand}(g:o.op=.index t x i)(e:Av (pW P t) (ρ x) (ρ i)=some v):aU P o ρ=some (.pv (.val v),[]):=by
 unfold Av at e;split at e
 .rename_i s k n A f hi
  have c:P.underlying t=some .string:=by
   grind [pW]
  split at e
  .rename_i l
   simp only[II]at e;obtain⟨b,y,rfl⟩:=e;refine dF (by rw[g];simp[Op.operands,f,hi,er]) ?_;unfold execOp;rw[g];simp only[(bt f).2,(bt hi).2]
   have h1:ag P (Instr.index t (.string s) (.int k n))=some (.int .u8 b.toNat):=by
    unfold Instr.index;simp only[asIntOf,pure_bind];rw[af,cw c,Zi];simp only[l,Zp,y];rfl
   rw[af,h1];rfl
  .cases e
 .rename_i m cs k n A f hi
  split at e
  .rename_i l
   have c:∃el d,P.underlying t=some (.array m el)/\P.underlying el=some d/\(∀fs,d≠.struct fs)/\(∀a b,d≠.array a b)/\∃j,P.info? el=some j/\j.size=1:=by
    grind [pW,Option.isSome_iff_exists,oX]
   obtain⟨el,d,c,hd,B,u,j,z,q⟩:=c;refine dF (by rw[g];simp[Op.operands,f,hi,er]) ?_;unfold execOp;rw[g];simp only[(bt f).2,(bt hi).2]
   have r:ag P (sizeOf el)=some 1:=by
    unfold sizeOf;rw[af,mI z,Zi,<-q];rfl
   have p:ag P (isAgg el)=some false:=by
    unfold isAgg;rw[af,cw hd,Zi]
    cases d<;>first|rfl|exact absurd rfl (B _)|exact absurd rfl (u _ _)
   have h1:ag P (Instr.index t (.agg cs) (.int k n))=some v:=by
    unfold Instr.index;simp only[asIntOf,pure_bind];rw[af,cw c,Zi];simp only[l,and_self,Zp];rw[af,r,Zi,yAF];unfold part;rw[af,p,Zi];simp only[Y9,Zk,e];rfl
   rw[af,h1];rfl
  .cases e
 .cases e
def Ic(C:Cx)(L:Nat->Loc)(h:Hp)(w:World)(o:Oper)(σ:Operand->Value)(v:AV)(W:List (Nat×Blk)):Prop:=
 ∃n u b a,(execOp σ o).run C.P w=.ok n b/\(n=.value u\/(n=.skip/\u=undef))/\aH C L h w a (ai h W) b/\RepA b (ae C a (ai h W)) a (ai h W) v u
theorem dl(a:MemL C L h w){v:AV}(b:RepA w (ae C L h) L h v u)(e:(execOp σ o).run C.P w=.ok (.value u) w):Ic C L h w o σ v []:=
 ⟨_,u,w,L,e,.inl rfl,aH.refl a,b⟩
theorem iu(c:MemL C L h w)(a:∀cs b,o.op≠.select cs b)(d:∀x∈o.op.operands,RepA w (ae C L h) L h (ρ x) (σ x)){v:AV}
 (e:aU C.P o ρ=some (v,W)):Ic C L h w o σ v W:=by
 obtain⟨u,h1,rfl,rfl⟩:=Eo a d e;exact dl c (.pv (.val u)) h1
theorem AE(P:Program)(t:TypeId)(v:Value):(newVar t v).run P w=.ok ⟨w.heap.size,0,none⟩ (w.alloc (.cells v.cells t)):=rfl
theorem GQ(c:MemL C L h w):∀k e sz xs a,h k=some (.row e sz xs a)->(L k).isNil=true->xs=[]:=λk _ _ _ _ b hn=>(c.bl k _ b).2.2.2.1 hn
theorem sO(a:List Operand)(c:∀x∈a,RepA w M L h (ρ x) (σ x)):aD w M L h (a.map ρ) (a.map σ):=by
 refine⟨by simp,λi p u hp b=>?_⟩
 grind
theorem Gs{q:Option Bool}(h:Ax op q=some b):∃a,q=some a/\((op=.eql/\b=a)\/(op=.neq/\b=!a)):=by
 unfold Ax at h
 grind
theorem zI(a:nF x=true)(c:RepA w M L h x u):u=.slice none 0 0:=by
 unfold nF at a;split at a
 .cases c with
  |pv b=>rw[aK b,kK a]
 .cases a
theorem rD(h:mR P t=true):∃e,P.underlying t=some (.slice e):=by
 unfold mR at h;split at h
 .rename_i s z e b c d a
  exact⟨e,(dJ a rfl).1⟩
 .cases h
theorem BQ(q:MemL C L h w)(hs:∀k b,h1 k=some b->h k=some b)(j:RepA w (ae C L h) L h x u)(e:uP h1 x=some b):∃a n c,u=.slice a n c/\a.isNone=b:=by
 unfold uP at e;split at e
 .rename_i v
  split at e
  .rename_i hn
   injection e with e;subst e
   cases j with
   |pv g=>exact⟨none,0,0,by rw[aK g,kK hn],rfl⟩
  .cases e
 .rename_i xs
  split at e
  .cases e
  .rename_i i
   injection e with e;subst e
   cases j with
   |pv g=>
    cases g with
    |sl0 a c=>simp at i
    |sl xs b o c sz u l hs f g=>exact⟨_,_,_,rfl,rfl⟩
 .rename_i k n
  split at e
  .rename_i e0 sz xs s m
   split at e
   .rename_i f
    injection e with e;subst e
    cases j with
    |arr d r y=>
     rw[hs _ _ m]at d;injection d with d;injection d with a1 a2 a3 a4;subst a3
     have p:(L k).isNil=false:=by
      cases hq:(L k).isNil with
      |false=>rfl
      |true=>exact absurd (by rw[(q.bl k _ (hs _ _ m)).2.2.2.1 hq]at f;exact f.1.symm) f.2
     grind [Loc.slice]
   .cases e
  .cases e
 .cases e
theorem Gt(d:Nat){e:TypeId}(a:Option Addr)(n c:Nat)(h:P.underlying t=some (.slice e)):ag P (Op.equalIn (d+1) t (.slice a n c) (.slice none 0 0))=some a.isNone:=by
 unfold Op.equalIn;rw[af]
 have:ag P (underlying t)=some (.slice e):=by unfold underlying;rw[af];show(some P).bind _=_;rw[Zi,h];rfl
 rw[this,Zi];cases a<;>rfl
theorem BR{dst:Option Nat}{x:Operand}{ty:TypeId}{pos:String}{aft:Array Edge}{g:Option (Nat×Bool)}(j:∃e,P.underlying t=some (.slice e))
 {a:Option Addr}{n c:Nat}(k:σ x=.slice a n c)(l:σ y=.slice none 0 0){b:Bool}(f:(op=.eql/\b=a.isNone)\/(op=.neq/\b=!a.isNone)):
 ag P (execOp σ ⟨dst,.binOp op t x y t',ty,pos,aft,g⟩)=some (.value (.bool b)):=by
 obtain⟨e,i⟩:=j;unfold execOp;simp only[k,l];have hq:ag P (Op.equal t (.slice a n c) (.slice none 0 0))=some a.isNone:=Gt _ a n c i;rcases f with⟨rfl,rfl⟩|⟨rfl,rfl⟩
 .have h1:ag P (eqGuard .eql t x y (.slice a n c) (.slice none 0 0))=some ():=rfl
  have d:ag P (binOp .eql t (.slice a n c) (.slice none 0 0))=some (.bool a.isNone):=by simp only[binOp,af,hq,Zi];rfl
  simp only[af,h1,d,Zi];rfl
 .have h1:ag P (eqGuard .neq t x y (.slice a n c) (.slice none 0 0))=some ():=rfl
  have d:ag P (binOp .neq t (.slice a n c) (.slice none 0 0))=some (.bool !a.isNone):=by simp only[binOp,af,hq,Zi];rfl
  simp only[af,h1,d,Zi];rfl
theorem Gu(cs:Array Value)(off sz:Nat):Value.agg (cs.extract off (off+sz))=zE cs off sz:=by
 unfold zE
 congr 1
 grind
theorem rE{j:TypeInfo}(c:nH P t=some true)(d:P.info? t=some j)(cs:Array Value)(off:Nat):ag P (part t cs off)=some (zE cs off j.size):=by
 have a:ag P (isAgg t)=some true:=by
  unfold nH at c;unfold isAgg;rw[af];split at c
  .rename_i h;rw[cw h];rfl
  .rename_i h;rw[cw h];rfl
  all_goals grind
 have b:ag P (sizeOf t)=some j.size:=by
  unfold sizeOf;rw[af,mI d,Zi];rfl
 unfold part;rw[af,a,Zi];show ag P (do pure (Value.agg (cs.extract off (off+(<-sizeOf t)))))=_;rw[af,b,Zi,<-Gu];rfl
theorem mT(a:nH P t=some false){off:Nat}(e:cs[off]?=some v):ag P (part t cs off)=some v:=by
 have b:ag P (isAgg t)=some false:=by
  unfold nH at a;unfold isAgg;rw[af];split at a
  .cases a
  .cases a
  .rename_i d c hn h
   rw[cw h,Zi]
   cases d<;>first|rfl|exact(c _ rfl).elim|exact(hn _ _ rfl).elim
  .cases a
 unfold part;rw[af,b,Zi];simp only[Y9,Zk,e];rfl
theorem N3{x i:Operand}(b:o.op=.index t x i)(e:Aw (DQ P t) (ρ x) (ρ i)=some v):aU P o ρ=some (.pv (.val v),[]):=by
 unfold Aw at e;split at e
 .rename_i n sz cs k d a c hi
  split at e
  .rename_i l
   injection e with e;subst e;unfold DQ at a;split at a
   .rename_i m el q
    split at a
    .rename_i j p f
     injection a with a;injection a with hk1 hk2;subst hk1;subst hk2;refine dF (by rw[b];simp[Op.operands,c,hi,er]) ?_;unfold execOp;rw[b];simp only[(bt c).2,(bt hi).2]
     have g:ag P (sizeOf el)=some j.size:=by
      unfold sizeOf;rw[af,mI f,Zi];rfl
     have h1:ag P (Instr.index t (.agg cs) (.int k d))=some (zE cs (d.toNat*j.size) j.size):=by
      unfold Instr.index;simp only[asIntOf,pure_bind]
      grind [af,cw,rE]
     rw[af,h1];rfl
    .cases a
   .cases a
  .cases e
 .cases e
theorem K7{x:Operand}{f:Nat}(g:o.op=.field t x f)(e:yh (lw P t f) (ρ x)=some v):aU P o ρ=some (.pv (.val v),[]):=by
 have key:∀{b c sz cs},lw P t f=some (b,c,sz)->ρ x=.pv (.val (.agg cs))->∀v,(∀t',nH P t'=some b->(∃j,P.info? t'=some j/\j.size=sz)->ag P (part t' cs c)=some v)->aU P o ρ=some (.pv (.val v),[]):=by
  intro b c sz cs a i v hp;unfold lw at a;split at a
  .rename_i fs k
   split at a
   .rename_i m d
    split at a
    .rename_i l j n p
     injection a with a;injection a with hk1 a;injection a with hk2 hk3;subst hk1;subst hk2;subst hk3;refine dF (by rw[g];simp[Op.operands,i,er]) ?_;unfold execOp;rw[g];simp only[(bt i).2]
     have h1:ag P (Instr.field t (.agg cs) f)=some v:=by
      unfold Instr.field;rw[af,cw k,Zi];simp only[d,asAgg,pure_bind]
      grind
     rw[af,h1];rfl
    .cases a
   .cases a
  .cases a
 unfold yh at e
 grind [rE,mT]
theorem Ep{x y:Option Value}(e:yi x y=some v):x=some v\/y=some v:=by
 unfold yi at e
 grind
theorem Jr{w:World}{L:Nat->Loc}{h:Hp}(f:Fn){vs:List Value}(h1:aD w M L h first us)(a:aD w M L h caps vs):RepA w M L h (DR f first caps) (.func f us.toArray vs.toArray):=by
 unfold DR;split
 .rename_i x r
  have g:=a.nil_inv;subst g;split
  .rename_i i c
   have e:=pT c;rw[e]at h1;have b:=h1.map_pv_inv;split
   .rename_i j d
    rw[uI d b];exact .pv (.val _)
   .exact .pv (.fn f i [] us [] b.1 rfl b.2 bp.nil.2)
  .exact .fn f _ _ us [] h1.1 rfl h1.2 aD.nil.2
 .exact .fn f first caps us vs h1.1 a.1 h1.2 a.2
theorem zd(h:tX P t=true):∃d,P.underlying t=some d/\∀m,d≠.interface m:=by
 grind [tX]
end
theorem CQ{a:TypeId}(e:zD P t=some (kd,n,a)):∃kt e0 j,P.underlying t=some (.map kt a)/\P.underlying kt=some (.array n e0)/\P.underlying e0=some (.int kd)/\P.info? e0=some j/\j.size=1:=by
 unfold zD at e;split at e
 .rename_i kt b h1
  split at e
  .rename_i i e0 c
   split at e
   .rename_i g j d f
    split at e
    .rename_i h5
     injection e with e;injection e with e1 e;injection e with e2 e3;subst e1;subst e2;subst e3;exact⟨kt,e0,j,h1,c,d,f,h5⟩
    .cases e
   .cases e
  .cases e
 .cases e
theorem ze{kd:IntKind}:∀{vs:List Value}{a:List Int},mc kd vs=some a->vs=a.map (Value.int kd)
 |[],a,e=>by simp[mc]at e;subst e;rfl
 |v::r,a,e=>by
  cases v with
  |int k i=>
   simp only[mc]at e;split at e
   .rename_i b
    simp only[II]at e;obtain⟨c,h,rfl⟩:=e;rw[ze h,b];rfl
   .cases e
  |_=>simp[mc]at e
theorem AF{L:Nat->Loc}(c:RepA w M L h x u)(e:wu kd n x=some is):u=kG kd is/\is.length=n:=by
 unfold wu at e;split at e
 .rename_i cs
  split at e
  .rename_i d hi
   split at e
   .rename_i a
    injection e with e;subst e
    cases c with
    |pv b=>
     rw[aK b];refine⟨?_,a⟩;unfold kG;rw[<-ze hi]
   .cases e
  .cases e
 .cases e
section
variable {P:Program} {kt e0:TypeId} {kd:IntKind} {n:Nat} {j:TypeInfo}
theorem Id(a:P.underlying e0=some (.int kd)):nH P e0=some false:=by simp[nH,a]
theorem BS(a:P.underlying e0=some (.int kd)){x:Int}(hi:is[i]?=some x):ag P (part e0 (is.map (Value.int kd)).toArray i)=some (.int kd x):=
 mT (Id a) (by simp[hi])
theorem N4(d:Nat)(a b:Int)(h:P.underlying e0=some (.int kd)):ag P (Op.equalIn (d+1) e0 (.int kd a) (.int kd b))=some (a==b):=by
 simp only[Op.equalIn,af,cw h,Zi];rw[Zd trivial];rfl
theorem N5(a:P.info? e0=some j):ag P (sizeOf e0)=some j.size:=by
 unfold sizeOf;rw[af,mI a];rfl
theorem Er(g:P.underlying kt=some (.array n e0))(c:P.underlying e0=some (.int kd))(e:P.info? e0=some j)(h1:j.size=1)(f:is.length=n)(b:Bool)(d:Nat):
 ag P (Instr.checkKey b (d+2) kt (kG kd is))=some ():=by
 have one:∀x,ag P (Instr.checkKey b (d+1) e0 (.int kd x))=some ():=by
  intro x;simp only[Instr.checkKey,af,cw c,Zi];rfl
 rw[show d+2=(d+1)+1 from rfl,Instr.checkKey];simp only[kG,af,cw g,Zi];simp only[Std.Legacy.Range.forIn_eq_forIn_range',Std.Legacy.Range.size,Nat.sub_zero,Nat.add_one_sub_one,Nat.div_one]
 have key:∀l:List Nat,(∀i∈l,i<n)->ag P (forIn l PUnit.unit λi _=>do
  let __do_lift <-sizeOf e0
  let __do_lift <-part e0 (is.map (Value.int kd)).toArray (i*__do_lift)
  Instr.checkKey b (d+1) e0 __do_lift
  pure (ForInStep.yield PUnit.unit))=some PUnit.unit:=by
  intro l
  induction l with
  |nil=>intro _;rfl
  |cons i l ih=>
   intro a
   have hi:i<is.length:=by rw[f];exact a i (by simp)
   simp only[List.forIn_cons,af,N5 e,Zi,h1,yAF,BS c (an hi),one,cH];exact ih λi hi=>a i (by simp[hi])
 rw[key (List.range' 0 n) (λi hi=>by simpa using hi)];rfl
end
def mJ:List (List Int×Value)->List Int->Nat->Option (Nat×Value)
 |[],_,_=>none
 |(k,v)::r,is,i=>if k=is then some (i,v)else mJ r is (i+1)
theorem CR:∀(xs:List (List Int×Value))(a:List Int)(i:Nat),(mJ xs a i).map (·.2)=iS xs a
 |[],_,_=>rfl
 |(k,v)::r,a,i=>by
  simp only[mJ,iS];split
  .rfl
  .exact CR r a (i+1)
theorem CT:∀{xs:List (List Int×Value)}{a:List Int}{i:Nat}(u:Value),mJ xs a i=none->lS xs a u=xs++[(a,u)]
 |[],_,_,_,_=>rfl
 |(k,v)::r,a,i,u,h=>by
  simp only[mJ]at h;split at h
  .cases h
  .rename_i b
   simp only[lS,Y6 b,CT u h,List.cons_append]
theorem CU:∀{xs:List (List Int×Value)}{a:List Int}{i j:Nat}{v:Value}(u:Value),mJ xs a i=some (j,v)->∃q,j=i+q/\q<xs.length/\(∃x,xs[q]?=some x/\x.1=a)/\lS xs a u=xs.set q (a,u)
 |[],_,_,_,_,_,h=>by cases h
 |(k,v)::r,a,i,j,g,u,h=>by
  simp only[mJ]at h;split at h
  .rename_i d
   injection h with h;injection h with h1 c;exact⟨0,by omega,by simp,⟨(k,v),rfl,d⟩,by simp only[lS,Zd d,List.set_cons_zero]⟩
  .rename_i b
   obtain⟨q,h1,c,⟨x,e,f⟩,h5⟩:=CU u h;exact⟨q+1,by omega,by simpa using c,⟨x,by simpa using e,f⟩,by simp only[lS,Y6 b,h5,List.set_cons_succ]⟩
section
variable {P:Program} {kt e0:TypeId} {kd:IntKind} {n:Nat} {j:TypeInfo} {w:World}
theorem wI(b:P.underlying e0=some (.int kd))(d:Nat){as bs:List Int}(c:as.length=bs.length):∀l:List Nat,(∀i∈l,i<as.length)->
 (Op.eqItems (d+1) e0 1 (as.map (Value.int kd)).toArray (bs.map (Value.int kd)).toArray l).run P w=.ok (l.all λi=>as[i]?==bs[i]?) w
 |[],_=>by simp[Op.eqItems]
 |i::l,f=>by
  have hi:i<as.length:=f i (by simp)
  have a:i<bs.length:=by omega
  have h1:=eZ (BS b (an hi)) w;have g:=eZ (BS b (an a)) w;have j:=eZ (N4 d as[i] bs[i] b) w;simp only[Op.eqItems,yAF,Sem.run_bind,h1,g,j,Result.andThen_ok,List.all_cons,an hi,an a];have ih:=wI b d c l (λi hi=>f i (by simp[hi]))
  have e:(some as[i]==some bs[i])=(as[i]==bs[i]):=by simp
  rw[e]
  cases as[i]==bs[i]with
  |true=>simpa using ih
  |false=>simp
theorem Js(e:P.underlying kt=some (.array n e0))(d:P.underlying e0=some (.int kd))(a:P.info? e0=some j)(h1:j.size=1){as bs:List Int}(b:as.length=n)(f:bs.length=n):
 (Op.equal kt (kG kd as) (kG kd bs)).run P w=.ok (decide (as=bs)) w:=by
 have c:P.cellsOf e0=1:=by simp[Program.cellsOf,a,h1]
 have hd:Op.maxDepth=9998+1+1:=rfl;unfold Op.equal kG;rw[hd,run_equalIn_array _ _ _ _ e a,c,wI d _ (by omega) _ (λi hi=>by rw[b];simpa using hi)]
 congr 1
 rw[Bool.eq_iff_iff,L4,Is];constructor
 .intro h
  apply ZM;intro i;by_cases hi:i<n
  .simpa using h i (by simpa using hi)
  .rw[Zh (by omega),Zh (by omega)]
 .rintro rfl i _;simp
theorem t7(l:P.underlying kt=some (.array n e0))(d:P.underlying e0=some (.int kd))(f:P.info? e0=some j)(h1:j.size=1){b:List Int}(g:b.length=n):
 ∀(es:List MapEntry)(xs:List (List Int×Value))(i:Nat),es.map (λe=>(e.key,e.val))=xs.map (λx=>(kG kd x.1,x.2))->(∀x∈xs,x.1.length=n)->(Instr.findAsking kt (kG kd b) es i).run P w=.ok (mJ xs b i) w
 |[],[],_,_,_=>rfl
 |[],x::xs,_,h,_=>by cases h
 |e::es,[],_,h,_=>by cases h
 |e::es,(k,v)::xs,i,h,m=>by
  simp only[yAf,List.cons.injEq,Zl]at h;obtain⟨⟨o,p⟩,q⟩:=h;have r:=m (k,v) (by simp);have ih:=t7 l d f h1 g es xs (i+1) q (λx c=>m x (by simp[c]));simp only[Instr.findAsking,Sem.run_bind,o,Js l d f h1 g r,Result.andThen_ok,mJ];by_cases a:b=k
  .rw[Zd (by simpa using a),Zd a.symm,p];rfl
  .rw[Y6 (by simpa using a),Y6 (λh=>a h.symm)];exact ih
theorem wJ(b:P.underlying kt=some (.array n e0))(c:P.underlying e0=some (.int kd))(d:P.info? e0=some j)(h1:j.size=1)(f:is.length=n)
 {es:List MapEntry}{xs:List (List Int×Value)}(a:es.map (λe=>(e.key,e.val))=xs.map (λx=>(kG kd x.1,x.2)))(g:∀x∈xs,x.1.length=n):(Instr.findKey kt (kG kd is) es).run P w=.ok (mJ xs is 0) w:=by
 have hf:=t7 (w:=w) b c d h1 f es xs 0 a g;simp only[Instr.findKey,Sem.run_bind,bM b,Result.andThen_ok]
 cases es with
 |nil=>
  cases xs with
  |nil=>rfl
  |cons=>cases a
 |cons e es=>
  have:Instr.findNow (.array n e0) (kG kd is) (e::es) 0=none:=by simp[Instr.findNow,Instr.sameNow,kG]
  rw[this];exact hf
theorem Es(kd:IntKind)(d:List Int):Instr.sameBits 10000 (kG kd d) (kG kd d)=true:=by
 have one:∀m x,Instr.sameBits m (.int kd x) (.int kd x)=true:=by intro m x;cases m<;>simp[Instr.sameBits]
 show Instr.sameBits (9999+1) (.agg _) (.agg _)=true;simp only[Instr.sameBits,beq_self_eq_true,Zu,L4];rintro⟨a,b⟩ c;rw[List.zip_eq_zipWith]at c;simp only[List.zipWith_self,Zv]at c;obtain⟨x,e,h⟩:=c;injection h with h2 h3;subst h2;subst h3;obtain⟨y,_,rfl⟩:=(by simpa using e:∃a,a∈d/\Value.int kd a=x);exact one _ y
end
section
variable {C:Cx} {L:Nat->Loc} {h1 h:Hp} {w:World}
theorem Gv(l:MemL C L h w)(hs:∀k b,h1 k=some b->h k=some b)(d:RepA w (ae C L h) L h x u){es:List (List Int×Value)}(e:DP h1 x=some (kd,n,es)):
 ∃b arr clock,u=.map (some b)/\w.heap[b]?=some (.map arr clock)/\DN kd n es arr:=by
 unfold DP at e;split at e
 .split at e
  .rename_i j
   injection e with e;injection e with e1 e;injection e with e2 e3;subst e1;subst e2;subst e3;obtain⟨arr,clock,f,g⟩:=l.bl _ _ (hs _ _ j)
   cases d with
   |ext c=>cases c with
    |mp _=>exact⟨_,arr,clock,rfl,f,g⟩
  .cases e
 .injection e with e;injection e with e1 e;injection e with e2 e3
  subst e1;subst e2;subst e3
  cases d with
  |pv m=>cases m with
   |mp _ _ _ b arr clock i _ a=>exact⟨b,arr,clock,rfl,i,a⟩
 .cases e
theorem BT(J:MemL C L h w)(hs:∀k b,h1 k=some b->h k=some b){i v:AV}{B A:Value}(K:RepA w (ae C L h) L h x B)(hi:RepA w (ae C L h) L h i A){ok:Bool}(e:uM C.P t x i ok h1=some v):
 ∃r,(Instr.lookup t B A ok).run C.P w=.ok r w/\RepA w (ae C L h) L h v r:=by
 unfold uM at e;split at e
 .rename_i kd n D M R es F E
  split at e
  .rename_i H
   obtain⟨rfl,rfl⟩:=H;split at e
   .rename_i is I
    obtain⟨kt,e0,j,t1,t2,t3,t4,t5⟩:=CQ F;obtain⟨b,arr,clock,rfl,G,d⟩:=Gv J hs K E;obtain⟨rfl,y⟩:=AF hi I;have N:=eZ (Er t2 t3 t4 t5 y arr.isEmpty 9998) w;have O:=wJ (w:=w) t2 t3 t4 t5 y d.1 d.2;have g:=CR es is 0;have o:(getObj b).run C.P w=.ok (.map arr clock) w:=MapKept.run_getObj_map G;simp only[Instr.lookup,Sem.run_bind,bM t1,Result.andThen_ok,o,Sem.run_pure,N,O]
    cases hf:mJ es is 0 with
    |some q=>
     rw[hf]at g;rw[<-g]at e;obtain⟨S,m⟩:=q;simp only[ZS,yd,Za]at e;subst e
     cases ok with
     |true=>exact⟨.tuple #[m,.bool true],by simp,.pv (.tup [.val m,.val (.bool true)] [m,.bool true] rfl (λa p u hp c=>by
       match a,hp,c with
       |0,hp,c=>simp at hp c;subst hp;subst c;exact .val _
       |1,hp,c=>simp at hp c;subst hp;subst c;exact .val _))⟩
     |false=>exact⟨m,by simp,.pv (.val _)⟩
    |none=>
     rw[hf]at g;rw[<-g]at e;simp only[Option.map_none,yd]at e;split at e
     .rename_i z l
      simp only[H2,Option.bind_eq_some_iff]at l;obtain⟨Q,s,l⟩:=l
      have f:(zeroValue D).run C.P w=.ok z w:=by simp[zeroValue,kL s,l]
      injection e with e;subst e
      cases ok with
      |true=>exact⟨.tuple #[z,.bool false],by simp[f],.pv (.tup [.val z,.val (.bool false)] [z,.bool false] rfl (λa p u hp c=>by
        match a,hp,c with
        |0,hp,c=>simp at hp c;subst hp;subst c;exact .val _
        |1,hp,c=>simp at hp c;subst hp;subst c;exact .val _))⟩
      |false=>exact⟨z,by simp[f],.pv (.val _)⟩
     .cases e
   .cases e
  .cases e
 .cases e
theorem AG(l:MemL C L h w){d:Option Nat}(a:∀q,d=some q->h1 q=h q/\q<2000000){v:AV}(e:sN C.P t d h1=some (v,W)):
 ∃r g c,(Instr.makeMap t none).run C.P w=.ok r g/\aH C L h w c (ai h W) g/\RepA g (ae C c (ai h W)) c (ai h W) v r:=by
 unfold sN at e;split at e
 .rename_i kd n o q p
  split at e
  .rename_i hd
   injection e with e;injection e with e1 e2;subst e1;subst e2
   have f:h q=none:=by rw[<-(a q rfl).1];simpa using hd
   have m:Ext (λ_=>False) w (w.alloc (.map #[] 0)):=Ext.alloc _ w _;refine⟨.map (some w.heap.size),w.alloc (.map #[] 0),av L q ⟨w.heap.size,0,false⟩,rfl,l.newKey f (a q rfl).2 m (λ_=>Zf _) (by intro j k e;cases e) ⟨#[],0,jX w _,rfl,by simp⟩,?_⟩;have i:RepX (av L q ⟨w.heap.size,0,false⟩) (av h q (some (.mp kd n [] false))) (.mp q) (.map (some (av L q ⟨w.heap.size,0,false⟩ q).b)):=.mp (aG _ _ _);rw[aG]at i;exact .ext i
  .cases e
 .cases e
theorem BU(J:MemL C L h w)(hs:∀k b,h1 k=some b->h k=some b){i v:AV}{U T A:Value}(hx:RepA w (ae C L h) L h x U)(hi:RepA w (ae C L h) L h i T)(hv:RepA w (ae C L h) L h v A)
 {W:List (Nat×Blk)}(e:uN C.P t x i v h1=some W):∃V,(Instr.mapUpdate t U T A).run C.P w=.ok () V/\aH C L h w L (ai h W) V:=by
 unfold uN at e;split at e
 .rename_i kd n et k val Y
  split at e
  .rename_i u S es is hk E
   split at e
   .rename_i Z
    obtain⟨rfl,rfl⟩:=Z;injection e with e;subst e;obtain⟨kt,e0,j,t1,t2,t3,t4,t5⟩:=CQ Y;have r:=hs _ _ hk;obtain⟨arr,clock,F,g⟩:=J.bl k _ r;obtain⟨rfl,G⟩:=AF hi E
    have N:A=val:=by cases hv with|pv hr=>exact aK hr
    subst N
    cases hx with
    |ext O=>cases O with
     |mp _=>
      have r1:=eZ (Er t2 t3 t4 t5 G false 9998) w;have r2:=wJ (w:=w) t2 t3 t4 t5 G g.1 g.2;have I:(getObj (L k).b).run C.P w=.ok (.map arr clock) w:=MapKept.run_getObj_map F
      have B:∀(f:Array MapEntry)(c:Nat),DN u S (lS es is A) f->aH C L h w L (ai h [(k,.mp u S (lS es is A) false)]) {w with heap:=w.heap.setIfInBounds (L k).b (.map f c)}:=by
       intro f c D;obtain⟨s1,s2⟩:=MapKept.heap_set (o':=.map f c) F;exact J.touch r (λb _ K=>s2 b (K trivial)) (by simp) rfl rfl rfl (λo v _ hf _=>by simp[Blk.frz]at hf) (λo hf=>by simp[Blk.frz]at hf) ⟨rfl,rfl,rfl⟩ yAn (by have:=J.own k _ r;exact this) ⟨f,c,s1,D⟩ (by intro _ _ _ h;cases h)
      simp only[Instr.mapUpdate,Sem.run_bind,bM t1,Result.andThen_ok,I,r1,r2]
      cases hf:mJ es is 0 with
      |none=>
       refine⟨_,MapKept.run_setObj_map _ F,B _ _ ?_⟩;rw[CT A hf];refine⟨by simp[g.1],λy m=>?_⟩;rcases Zm.1 m with m|m
       .exact g.2 y m
       .simp at m;subst m;exact G
      |some q=>
       obtain⟨z,q2⟩:=q;obtain⟨p,h3,X,⟨y,h5,h6⟩,h7⟩:=CU A hf
       have hp:z=p:=by omega
       subst hp
       have R:arr.size=es.length:=by have:=yAx List.length g.1;simpa using this
       have M:z<arr.size:=by omega
       have d:arr[z]?=some arr[z]:=by simp[M]
       have s:arr[z].key=kG u is:=by
        have:=yAx (λl=>l[z]?) g.1;simp only[Y7,ZU,d,h5,ZS,Za,Zl]at this;rw[this.1,h6]
       simp only[d,ZS,Zn,s,Instr.keyThatStays,Es,Zp,Sem.run_pure,Result.andThen_ok];refine⟨_,MapKept.run_setObj_map _ F,B _ _ ?_⟩;rw[h7];refine⟨?_,λy m=>?_⟩
       .apply ZM
        intro a;have Q:=yAx (λl=>l[a]?) g.1;simp only[Y7,ZU]at Q|-;rw[Array.getElem?_modify,Zg];by_cases H:z=a
        .subst H
         simp[d,X]
        .rw[Y6 H,Y6 H];exact Q
       .rcases ZT m with m|m
        .exact g.2 y m
        .subst m;exact G
   .cases e
  .cases e
 .cases e
theorem Ie(G:MemL C L h w)(hs:∀k b,h1 k=some b->h k=some b)(g:∀d,o.dst=some d->h1 d=h d/\d<2000000)
 (F:∀x∈o.op.operands,RepA w (ae C L h) L h (ρ x) (σ x)){hn:List Nat}{v:AV}{W:List (Nat×Blk)}(e:du C.P hn o ρ h1=some (v,W)):Ic C L h w o σ v W:=by
 obtain⟨b7,op,type,pos,after,guard⟩:=o;simp only at g
 cases op with
 |move x=>
  simp only[du,Za,Zl]at e;obtain⟨rfl,rfl⟩:=e;exact dl G (F x (by simp[Op.operands])) rfl
 |assign x=>
  have H:=F x (by simp[Op.operands]);simp only[du]at e
  have Z:some (ρ x,[])=some (v,W)->Ic C L h w ⟨b7,.assign x,type,pos,after,guard⟩ σ v W:=by
   intro e;simp only[Za,Zl]at e;obtain⟨rfl,rfl⟩:=e;exact dl G H rfl
  split at e
  .rename_i d
   split at e
   .rename_i hc
    simp only[up]at hc;split at e
    .rename_i sz zr et bq eb ez A
     split at e
     .rename_i hd
      injection e with e;injection e with B O;subst B;subst O
      have Q:h d=none:=by rw[<-(g d rfl).1];simpa using hd.1
      have ck:σ x=.slice none 0 0:=by
       have h2:=hc.2;generalize ρ x=y at h2 H;unfold nF at h2;split at h2
       .cases H with
        |pv V=>rw[aK V,kK h2]
       .cases h2
      have J:=ly (e:=et) (sz:=bq) (xs:=[]) (l:=⟨0,0,true⟩) G (Ext.refl _ w) Q (g d rfl).2 (λh=>by cases h)
       ⟨hd.2,ZV _,by simp,λ_=>rfl,(λh=>by cases h)⟩
      exact⟨.value (.slice none 0 0),.slice none 0 0,w,_,by simp[execOp,ck],.inl rfl,J.1,J.2⟩
     .cases e
    .cases e
   .exact Z e
  .exact Z e
 |pick c a b=>
  simp only[du]at e;split at e
  .rename_i t ht
   injection e with e;injection e with B O;subst B;subst O;have hc:=F c (by simp[Op.operands]);rw[ht]at hc
   have cq:σ c=.bool t:=by cases hc with|pv V=>exact aK V
   refine dl G (u:=if t then σ a else σ b) ?_ (by simp[execOp,cq,asBool])
   cases t with
   |true=>exact F a (by simp[Op.operands])
   |false=>exact F b (by simp[Op.operands])
  .cases e
 |alloc elem=>
  simp only[du]at e;split at e
  .rename_i sz z kd d A
   split at e
   .rename_i hd
    injection e with e;injection e with B O;subst B;subst O
    have Q:h d=none:=by rw[<-(g d rfl).1];simpa using hd
    obtain⟨i,dd,hi,_,_,hz,_⟩:=gE A
    have cM:aD w (ae C L h) L h (z.cells.toList.map λv=>AV.pv (.val v)) z.cells.toList:=by
     refine⟨by simp,λq p u hp hu=>?_⟩;simp only[Y7,II]at hp;obtain⟨y,hy,rfl⟩:=hp;rw[hy]at hu;injection hu with hu;subst hu;exact .pv (.val _)
    have hb:=BN (us:=z.cells) G Q (g d rfl).2 cM elem;refine⟨.value (.pointer (some ⟨w.heap.size,0,none⟩)),_,_,_,?_,.inl rfl,hb.1,hb.2⟩;simp only at hz;simp[execOp,Instr.alloc,zeroValue,kL hi,<-hz,AE]
   .cases e
  .cases e
 |box elem x=>
  simp only[du]at e;split at e
  .rename_i cs d cp
   split at e
   .rename_i hd
    injection e with e;injection e with B O;subst B;subst O
    have Q:h d=none:=by rw[<-(g d rfl).1];simpa using hd
    have V:=qw hs (F x (by simp[Op.operands])) cp;have hb:=BN (us:=(σ x).cells) G Q (g d rfl).2 V elem;refine⟨.value (.pointer (some ⟨w.heap.size,0,none⟩)),_,_,_,?_,.inl rfl,hb.1,hb.2⟩;simp[execOp,Instr.box,AE]
   .cases e
  .cases e
 |build t ps=>
  simp only[du]at e;split at e
  .rename_i ti qs A cz
   simp only[II,Zl]at e;obtain⟨v',B,rfl,rfl⟩:=e;have hp:=vR (σ:=σ) hs (λx H=>F x (by simpa[Op.operands]using H)) cz;obtain⟨r,D,E⟩:=DI A hp B;refine dl G E ?_
   have:(ps.map λ(i,x)=>(i,σ x))=(ps.toList.map λ(i,x)=>(i,σ x)).toArray:=by
    apply Array.ext';simp
   simp only[execOp,Sem.run_bind,this,D,Result.andThen_ok,Sem.run_pure]
  .cases e
 |buildSlice t len ps=>
  simp only[du]at e;split at e
  .rename_i cP I
   injection e with e;subst e;unfold zF at I;split at I
   .rename_i d cx
    split at I
    .split at I
     .rename_i s0 z0 et bq eb z1 A
      split at I
      .rename_i hc
       injection I with I;injection I with B O;subst B;subst O;obtain⟨ad,jt,hj,cf,_,cg⟩:=dJ A rfl
       have Q:h d=none:=by rw[<-(g d rfl).1];simpa using hc.1
       have J:=ly (e:=et) (sz:=bq) (xs:=[]) (l:=⟨w.heap.size,0,false⟩) G (Ext.alloc (λ_=>False) w (.cells #[] et)) Q (g d rfl).2 (λ_=>Zf _)
        ⟨hc.2,ZV _,by simp,λ_=>rfl,λ_=>⟨Zf _,ZV _,#[],jX w _,by simp,λi x j p H=>by simp at H⟩⟩
       have cm:ps=#[]:=by apply Array.ext';simpa using cx
       subst cm;refine⟨.value (.slice (some ⟨w.heap.size,0,none⟩) 0 0),_,w.alloc (.cells #[] et),_,?_,.inl rfl,J.1,J.2⟩
       have h0:¬0>2^24:=by omega
       simp only[execOp,Instr.buildSlice,Sem.run_bind,bM ad,Result.andThen_ok,fF hj,yBi,Zp,pure_bind,h0,Zk]
       have B:Array.range 0=#[]:=by simp
       rw[B];simp only[List.map_toArray,yBk,Instr.fill];rfl
      .cases I
     .cases I
    .cases I
   .cases I
  split at e
  .rename_i s0 z0 et bq eb z1 A
   split at e
   .rename_i xs W' cr
    split at e
    .rename_i hc
     obtain⟨c1,c2,c3⟩:=hc;obtain⟨ad,jt,hj,cf,_,cg⟩:=dJ A rfl;subst cf;obtain⟨a1,a2,a3,a4,a5⟩:=vU (σ:=σ) G (bI.of_sub hs) (λx H=>F x (by simpa[Op.operands]using H)) cr
     have ah:(ps.map λ(i,x)=>(i,σ x)).toList=ps.toList.map λ(i,x)=>(i,σ x):=by simp
     have cn:ps.toList.length=len:=by omega
     have a6:∀(q:Nat) i v,(ps.toList.map λ(i,x)=>(i,σ x))[q]?=some (i,v)->i=0+q/\v.cells.size=jt.size:=by
      intro q i v hq;obtain⟨b1,p,b2,b3⟩:=a5 q i v hq;refine⟨b1,?_⟩;have:=b3.cells.1;rw[a4 p (An b2)]at this;simpa using this.symm
     obtain⟨arr,f1,f2,f3,f4⟩:=wH (arr:=(Array.range (len*jt.size)).map ((if len*jt.size=0 then #[]else z1.cells:Array Value)[·% (if len*jt.size=0 then #[]else z1.cells:Array Value).size]!)) a6 (by simp[cn]);have hg:=a1.1.grow (Ext.alloc (λ_=>False) w (.cells arr et))
     have b5:(execOp σ ⟨b7,.buildSlice t len ps,type,pos,after,guard⟩).run C.P w=.ok (.value (.slice (some ⟨w.heap.size,0,none⟩) len len)) (w.alloc (.cells arr et)):=by
      have cj:¬len*jt.size>2^24:=by omega
      have cb:(zeroValue et).run C.P w=.ok z1 w:=by simp[zeroValue,kL hj,cg]
      by_cases hl:len*jt.size=0
      .simp only[hl,Zp]at f1
       have h0:¬0>2^24:=by omega
       simp only[execOp,Instr.buildSlice,Sem.run_bind,bM ad,Result.andThen_ok,fF hj,hl,h0,Zk,Zp,pure_bind,ah,f1];rfl
      .simp only[hl,Zk]at f1
       simp only[execOp,Instr.buildSlice,Sem.run_bind,bM ad,Result.andThen_ok,fF hj,cj,hl,Zk,pure_bind,cb,ah,f1];rfl
     have b4:∀(i:Nat) x(j:Nat) p,xs[i]?=some x->x.cells[j]?=some p->∃u,arr[i*jt.size+j]?=some u/\Rep w (ae C L (ai h W')) p u:=by
      intro i x j p H U
      have ca:i<(ps.toList.map λ(i,x)=>(i,σ x)).length:=by rw[ZB];have:=(th.1 H).1;omega
      obtain⟨⟨i',vv⟩,Y⟩:∃y,(ps.toList.map λ(i,x)=>(i,σ x))[i]?=some y:=⟨_,an ca⟩;obtain⟨b1,p',b2,b3⟩:=a5 i i' vv Y;rw[H]at b2;injection b2 with b2;subst b2
      have aj:j<jt.size:=by rw[<-a4 x (An H)];exact(th.1 U).1
      have M:=f4 i i' vv j Y aj;rw[Z7]at M
      have a7:j<vv.cells.size:=by rw[(a6 i i' vv Y).2];exact aj
      rw[ZN a7]at M;exact⟨_,M,b3.cells.2 j p vv.cells[j] U (by simp[a7])⟩
     split at e
     .rename_i d hd
      unfold Ec at hd;split at hd
      .rename_i d' _
       split at hd
       .rename_i cc
        injection hd with hd;subst hd;injection e with e;injection e with B O;subst B;subst O;simp only[up,Option.isNone_iff_eq_none]at cc
        have Q:h d'=none:=by rw[<-(g d' rfl).1];exact cc.2
        have J:=ly (e:=et) (sz:=jt.size) (xs:=xs) (l:=⟨w.heap.size,len,false⟩) G (Ext.alloc (λ_=>False) w (.cells arr et)) Q (g d' rfl).2 (λ_=>Zf _) (by
         refine⟨c2,ZV _,λx H=>a4 x H,(λh=>by cases h),λ_=>⟨by show xs.length<=len;omega,by simp only[maxLen];have:=Nat.le_mul_of_pos_right len c2;omega,arr,jX w _,?_,?_⟩⟩
         .rw[f2];simp
         .intro i x j p H U
          obtain⟨u,hu,V⟩:=b4 i x j p H U
          exact⟨u,hu,V.mono (t6 (Ext.alloc (λ_=>False) w (.cells arr et)) (λ_=>Zf _))⟩)
        rw[c1]at J;exact⟨_,_,_,_,b5,.inl rfl,J.1,J.2⟩
       .cases hd
      .cases hd
     injection e with e;injection e with B O;subst B;subst O;refine⟨.value (.slice (some ⟨w.heap.size,0,none⟩) len len),_,w.alloc (.cells arr et),L,b5,.inl rfl,a1.trans ⟨hg.1,hg.2,KC.refl _ _⟩,.pv ?_⟩
     .rw[<-c1]
      refine .sl xs w.heap.size 0 xs.length jt.size (λi j=>(arr[i*jt.size+j]?).getD undef) (Zf _) (λi x H=>a4 x (An H)) ?_ ?_
      all_goals
       intro i x j p H U
       have ca:i<(ps.toList.map λ(i,x)=>(i,σ x)).length:=by rw[ZB];have:=(th.1 H).1;omega
       obtain⟨⟨i',vv⟩,Y⟩:∃y,(ps.toList.map λ(i,x)=>(i,σ x))[i]?=some y:=⟨_,an ca⟩;obtain⟨b1,p',b2,b3⟩:=a5 i i' vv Y;rw[H]at b2;injection b2 with b2;subst b2
       have aj:j<jt.size:=by rw[<-a4 x (An H)];exact(th.1 U).1
       have M:=f4 i i' vv j Y aj;rw[Z7]at M
       have a7:j<vv.cells.size:=by rw[(a6 i i' vv Y).2];exact aj
       rw[ZN a7]at M
      .refine⟨by rw[fU (jX w _),Z7,M];rfl,λhM=>?_⟩
       have:=a1.1.mlt hM;omega
      .simp only[M,Zn]
       have:=b3.cells.2 j p vv.cells[j] U (by simp[a7]);exact this.mono hg.2
    .cases e
   .cases e
  .cases e
 |load t a=>
  simp only[du]at e;split at e
  .rename_i ti A
   simp only[II,Zl]at e;obtain⟨v',B,rfl,rfl⟩:=e;obtain⟨r,D,E⟩:=wG G hs A (F a (by simp[Op.operands])) B;exact dl G E (by simp[execOp,D])
  .cases e
 |store t a x=>
  simp only[du]at e;split at e
  .rename_i ti A
   simp only[II,Zl]at e;obtain⟨W',B,rfl,rfl⟩:=e;obtain⟨w',D,E⟩:=DG G hs A (F a (by simp[Op.operands])) (F x (by simp[Op.operands])) B;exact⟨.skip,undef,w',L,by simp[execOp,D],.inr ⟨rfl,rfl⟩,E,.undef _⟩
  .cases e
 |nilCheck x=>
  have H:=F x (by simp[Op.operands]);simp only[du]at e;split at e
  .rename_i k cN hk
   injection e with e;injection e with B O;subst B;subst O;rw[hk]at H;have a8:=H;generalize hσ:σ x=u at H a8
   cases H with
   |ptr ch=>exact dl G a8 (by simp[execOp,hσ])
  .rename_i y cN hk
   injection e with e;injection e with B O;subst B;subst O;rw[hk]at H;have a8:=H;generalize hσ:σ x=u at H a8
   cases H with
   |pv V=>cases V with
    |rptr=>exact dl G a8 (by simp[execOp,hσ])
  .cases e
 |fieldAddr s x f=>
  simp only[du]at e;split at e
  .rename_i ti A
   simp only[II,Zl]at e;obtain⟨v',B,rfl,rfl⟩:=e;obtain⟨r,D,E⟩:=yY A hs (F x (by simp[Op.operands])) B;exact dl G E (by simp[execOp,D])
  .cases e
 |indexAddr t x ix=>
  simp only[du]at e;split at e
  .rename_i ti n A hn
   simp only[II,Zl]at e;obtain⟨v',B,rfl,rfl⟩:=e;have cd:=F ix (by simp[Op.operands])
   have hint:∃kk,σ ix=.int kk n:=by
    generalize ρ ix=y at hn cd;unfold Ea at hn;split at hn
    .rename_i kk m
     injection hn with hn;subst hn
     cases cd with
     |pv V=>exact⟨kk,aK V⟩
    .cases hn
   obtain⟨kk,ch⟩:=hint;obtain⟨r,D,E⟩:=(El B).elim (yZ (kk:=kk) hs A (F x (by simp[Op.operands])) (GQ G)) (BP (kk:=kk) hs A (F x (by simp[Op.operands])));exact dl G E (by simp[execOp,ch,D])
  .cases e
 |makeInterface t x=>
  simp only[du]at e;split at e
  .rename_i hp
   split at e
   .rename_i p W' B
    injection e with e;injection e with e1' e2';subst e1';subst e2';obtain⟨b1,b2,_⟩:=m8 G (bI.of_sub hs) (F x (by simp[Op.operands])) B;refine⟨.value (.iface t (σ x)),_,w,L,?_,.inl rfl,b1,.pv (.ifc t p _ b2)⟩;obtain⟨d,hd,b8⟩:=zd hp;simp only[execOp,Instr.makeInterface,Sem.run_bind,run_underlying hd,Result.andThen_ok]
    cases d<;>first|rfl|exact(b8 _ rfl).elim
   .cases e
  .cases e
 |typeAssert x xt a' ok=>
  have H:=F x (by simp[Op.operands]);simp only[du]at e;split at e
  .rename_i t p hk
   split at e
   .rename_i hp
    simp only[II,Zl]at e;obtain⟨v',B,rfl,rfl⟩:=e;rw[hk]at H;generalize hσ:σ x=u at H
    cases H with
    |pv V=>cases V with
     |ifc _ _ v S=>
      obtain⟨d,hd,b8⟩:=zd hp;unfold BL at B
      have ar:(Instr.typeAssert (.iface t v) xt a' ok).run C.P w=(if t=a' then .ok (if ok then .tuple #[v,.bool true]else v) w else if ok then((zeroValue a').run C.P w).andThen λz w=>.ok (.tuple #[z,.bool false]) w else(runtimePanic (.typeAssertion (some xt) (some t) a' ""):Sem Value).run C.P w):=by
       unfold Instr.typeAssert;simp only[Sem.run_bind,bM hd,Result.andThen_ok]
       cases d with
       |interface m=>exact(b8 m rfl).elim
       |_=>split<;>split<;>simp[Sem.run_bind]<;>rfl
      split at B
      .rename_i ht
       injection B with B;subst B;refine dl G (u:=if ok then .tuple #[v,.bool true]else v) ?_ (by simp only[execOp,hσ,Sem.run_bind,ar,Zd ht,Result.andThen_ok];rfl)
       cases ok with
       |false=>exact .pv S
       |true=>exact .pv (.tup [p,.val (.bool true)] [v,.bool true] rfl (bp.cons S (bp.cons (.val _) .nil)).2)
      .rename_i ht
       split at B
       .rename_i cu
        split at B
        .rename_i z hz
         injection B with B;subst B;obtain⟨ti,A,cD⟩:=Option.bind_eq_some_iff.1 hz;obtain⟨i,_,hi,_,_,ct,_⟩:=gE A;subst cu
         have cb:(zeroValue a').run C.P w=.ok z w:=by
          have:i.zero=some z:=ct▸cD;simp[zeroValue,kL hi,this]
         refine dl G (u:=.tuple #[z,.bool false]) ?_ (by simp only[execOp,hσ,Sem.run_bind,ar,Y6 ht,Zp,cb,Result.andThen_ok];rfl);exact .pv (.tup [.val z,.val (.bool false)] [z,.bool false] rfl (bp.cons (.val _) (bp.cons (.val _) .nil)).2)
        .cases B
       .cases B
   .cases e
  .cases e
 |makeFunc f first caps=>
  obtain⟨first⟩:=first
  obtain⟨caps⟩:=caps;simp only[du,Za,Zl]at e;obtain⟨rfl,rfl⟩:=e
  have a1:=sO (σ:=σ) first (λx H=>F x (by simp[Op.operands,H]))
  have a2:=sO (σ:=σ) caps (λx H=>F x (by simp[Op.operands,H]));refine dl G (u:=.func f (first.map σ).toArray (caps.map σ).toArray) ?_ (by simp[execOp,Instr.makeFunc]);exact Jr f a1 a2
 |makeSlice t l c=>
  simp only[du]at e;split at e
  .rename_i ti A
   obtain⟨r,w',L',D,E,X⟩:=(Em e).elim (DH G A g (F l (by simp[Op.operands])) (F c (by simp[Op.operands]))) (Ej G A g (F l (by simp[Op.operands])) (F c (by simp[Op.operands])));exact⟨.value r,r,w',L',by simp[execOp,D],.inl rfl,E,X⟩
  .cases e
 |slice t x lo hi mx=>
  simp only[du]at e;split at e
  .exact iu G (by intro _ _ h;cases h) F e
  .rename_i k n hk
   split at e
   .rename_i ti A
    unfold Nb at e;split at e
    .rename_i p W1 B
     split at e
     .rename_i v1 O
      injection e with e;injection e with ea eb;subst ea;subst eb;have H:=F x (by simp[Op.operands]);rw[hk]at H;obtain⟨a1,a2,_⟩:=nI G (bI.of_sub hs) H B
      obtain⟨r,D,E⟩:=vT (ul:=lo.map σ) (uh:=hi.map σ) A (.pv a2)
       (by intro a K;cases lo with
         |none=>cases K
         |some y=>simp at K;subst K;exact⟨_,rfl,(F y (by simp[Op.operands])).mono a1.2.1 a1.2.2⟩) (by intro K;cases lo with
         |none=>rfl
         |some y=>cases K)
       (by intro a K;cases hi with
         |none=>cases K
         |some y=>simp at K;subst K;exact⟨_,rfl,(F y (by simp[Op.operands])).mono a1.2.1 a1.2.2⟩) (by intro K;cases hi with
         |none=>rfl
         |some y=>cases K) O
      exact⟨.value r,r,w,L,by simp[execOp,D],.inl rfl,a1,E⟩
     .cases e
    .cases e
   .cases e
  .split at e
   .rename_i ti A
    simp only[II,Zl]at e;obtain⟨v',B,rfl,rfl⟩:=e
    obtain⟨r,D,E⟩:=vT (ul:=lo.map σ) (uh:=hi.map σ) A (F x (by simp[Op.operands]))
     (by intro a K;cases lo with
       |none=>cases K
       |some y=>simp at K;subst K;exact⟨_,rfl,F y (by simp[Op.operands])⟩) (by intro K;cases lo with
       |none=>rfl
       |some y=>cases K)
     (by intro a K;cases hi with
       |none=>cases K
       |some y=>simp at K;subst K;exact⟨_,rfl,F y (by simp[Op.operands])⟩) (by intro K;cases hi with
       |none=>rfl
       |some y=>cases K) B
    exact dl G E (by simp[execOp,D])
   .cases e
  .cases e
 |extract t i=>
  have ht:=F t (by simp[Op.operands]);simp only[du]at e;split at e
  .rename_i vs ah
   simp only[II,Zl]at e;obtain⟨v',B,rfl,rfl⟩:=e;rw[ah]at ht;generalize hσ:σ t=u at ht
   cases ht with
   |tup _ us hl hh=>
    have ak:i<us.length:=by rw[<-hl];exact(th.1 B).1
    exact dl G (hh i v' us[i] B (an ak)) (by simp[execOp,hσ,Instr.extract,ak])
  .rename_i vs ah
   simp only[II,Zl]at e;obtain⟨v',B,rfl,rfl⟩:=e;rw[ah]at ht;generalize hσ:σ t=u at ht
   cases ht with
   |pv V=>cases V with
    |tup _ us hl hh=>
     have ak:i<us.length:=by rw[<-hl];exact(th.1 B).1
     exact dl G (.pv (hh i v' us[i] B (an ak))) (by simp[execOp,hσ,Instr.extract,ak])
  .exact iu G (by intro _ _ h;cases h) F e
  .cases e
 |call c=>
  simp only[du]at e;split at e
  .rename_i b hb
   obtain⟨callee,args,argTypes⟩:=c;simp only at hb e;subst hb;obtain⟨args⟩:=args;obtain⟨argTypes⟩:=argTypes;simp only at e;have b9:(execOp σ ⟨b7,.call ⟨.builtin b,⟨args⟩,⟨argTypes⟩⟩,type,pos,after,guard⟩)=builtin b ⟨argTypes⟩ type ((⟨args⟩:Array Operand).map λ|.const _=>true|_=>false) ((⟨args⟩:Array Operand).map σ):=rfl;have R:∀x∈args,RepA w (ae C L h) L h (ρ x) (σ x):=λx H=>F x (by simp[Op.operands,Call.operands,H]);unfold wC at e;split at e
   .rename_i _ _ x t N
    .obtain⟨a,rfl,rfl⟩:=TE N
     split at e
     .exact iu G (by intro _ _ h;cases h) F e
     .split at e
      .rename_i ti A
       simp only[II,Zl]at e;obtain⟨v',B,rfl,rfl⟩:=e;obtain⟨r,D,E⟩:=Gq (ty:=type) hs A (R a (by simp)) (GQ G) B;exact dl G E (by rw[b9];simp[builtin,D])
      .cases e
   .rename_i _ _ s x t t' N
    .obtain⟨a,b,rfl,rfl,rfl⟩:=Ib N
     split at e
     .rename_i cB
      subst cB;split at e
      .rename_i ti A
       obtain⟨r,w',L',D,E,X⟩:=BO (ty:=type) G hs A g (R a (by simp)) (R b (by simp)) e;exact⟨.value r,r,w',L',by rw[b9];simp[builtin,D],.inl rfl,E,X⟩
      .cases e
     .cases e
   .rename_i _ _ s x t t' N
    .obtain⟨a,b,rfl,rfl,rfl⟩:=Ib N
     split at e
     .rename_i ti A
      obtain⟨r,w',D,E,X⟩:=Ek (t':=t') (ty:=type) G hs A (R a (by simp)) (R b (by simp)) e;exact⟨.value r,r,w',L,by rw[b9];simp[builtin,D],.inl rfl,E,X⟩
     .cases e
   .exact iu G (by intro _ _ h;cases h) F (kM (λv S=>K5 rfl S) e)
   .exact iu G (by intro _ _ h;cases h) F (kM (λv S=>K6 rfl S) e)
   .cases e
  .cases e
 |binOp op t x y t'=>
  simp only[du]at e;split at e
  .rename_i b hb
   injection e with e;injection e with B O;subst B;subst O;unfold Eb at hb;split at hb
   .rename_i T
    simp only[up]at T;obtain⟨b',hk,cv⟩:=Gs hb;have hy:=zI T.1 (F y (by simp[Op.operands]));obtain⟨a,n,c,H,K⟩:=BQ G hs (F x (by simp[Op.operands])) hk;refine dl G (.pv (.val (.bool b))) (eZ (BR (rD T.2) H hy ?_) w);rcases cv with⟨rfl,rfl⟩|⟨rfl,rfl⟩
    .left;exact⟨rfl,by rw[K]⟩
    .right;exact⟨rfl,by rw[K]⟩
   .cases hb
  .exact iu G (by intro _ _ h;cases h) F (kM (λv S=>K4 rfl S) e)
 |unOp _ _ _=>simp only[du]at e;exact iu G (by intro _ _ h;cases h) F (kM (λv S=>N0 rfl S) e)
 |convert _ _ _=>simp only[du]at e;exact iu G (by intro _ _ h;cases h) F (kM (λv S=>Jq rfl S) e)
 |field _ _ _=>simp only[du]at e;exact iu G (by intro _ _ h;cases h) F (kM (λv S=>K7 rfl S) e)
 |index _ _ _=>simp only[du]at e;exact iu G (by intro _ _ h;cases h) F (kM (λv S=>(Ep S).elim (N2 rfl) (N3 rfl)) e)
 |makeMap t r=>
  cases r with
  |some r=>simp[du]at e
  |none=>
   simp only[du]at e;obtain⟨r,w',L',D,E,X⟩:=AG G g e;exact⟨.value r,r,w',L',by simp only[execOp,Option.map_none,Sem.run_bind,D,Result.andThen_ok,Sem.run_pure],.inl rfl,E,X⟩
 |lookup t x i ok=>
  simp only[du,II,Zl]at e;obtain⟨v',B,rfl,rfl⟩:=e;obtain⟨r,D,E⟩:=BT G hs (F x (by simp[Op.operands])) (F i (by simp[Op.operands])) B;exact dl G E (by simp only[execOp,Sem.run_bind,D,Result.andThen_ok,Sem.run_pure])
 |mapUpdate t m k x=>
  simp only[du,II,Zl]at e;obtain⟨W',B,rfl,rfl⟩:=e;obtain⟨w',D,E⟩:=BU G hs (F m (by simp[Op.operands])) (F k (by simp[Op.operands])) (F x (by simp[Op.operands])) B;exact⟨.skip,undef,w',L,by simp only[execOp,Sem.run_bind,D,Result.andThen_ok,Sem.run_pure],.inr ⟨rfl,rfl⟩,E,.undef _⟩
 |_=>simp[du]at e
end
section
variable {C:Cx} {L:Nat->Loc} {h1 h:Hp} {w:World}
theorem kO:∀{W:List (Nat×Blk)}{h:Hp}{k:Nat},(∀d∈W,d.1≠k)->ai h W k=h k
 |[],h,k,_=>rfl
 |(q,b)::W,h,k,a=>by
  show ai (av h q (some b)) W k=h k;rw[kO (λd c=>a d (by simp[c])),bc (λe=>a (q,b) (by simp) e.symm)]
theorem MemL.callStep(m:MemL C L h w){w':World}{h':Hp}(H:Ext (·∈ks.map λk=>(L k).b) w w')(v:hout.length=ks.length)
 (s:∀k,k∉ks->h' k=h k)
 (O:∀(i:Nat) k f,ks[i]?=some k->hout[i]?=some f->∃cs own,h k=some (.box cs own false)/\h' k=some (.box (f.map .pv) own false)/\kh w' (ae C L h) (L k).b f):aH C L h w L h' w':=by
 have hin:∀k,k∈ks->∃f cs own,h k=some (.box cs own false)/\h' k=some (.box (f.map .pv) own false)/\kh w' (ae C L h) (L k).b f:=by
  intro k R;obtain⟨i,hi⟩:=yAl.1 R
  have D:i<hout.length:=by rw[v];exact(th.1 hi).1
  obtain⟨cs,own,a,b,c⟩:=O i k hout[i] hi (an D)
  grind
 have A:∀b o,ae C L h' b o->ae C L h b o:=by
  rintro b o (z|⟨q,blk,hq,l,j,hf⟩)
  .exact .inl z
  .by_cases e:q∈ks
   .obtain⟨f,cs,own,a,_,_⟩:=hin q e
    exact .inr ⟨q,_,a,trivial,j,by simp[Blk.frz]⟩
   .rw[s q e]at hq;exact .inr ⟨q,blk,hq,l,j,hf⟩
 have G:∀b o,ae C L h b o->ae C L h' b o:=by
  rintro b o (z|⟨q,blk,hq,l,j,hf⟩)
  .exact .inl z
  .by_cases e:q∈ks
   .obtain⟨f,cs,own,a,p,_⟩:=hin q e
    exact .inr ⟨q,_,p,trivial,j,by simp[Blk.frz]⟩
   .exact .inr ⟨q,blk,by rw[s q e];exact hq,l,j,hf⟩
 have u:KC L h L h':=by
  intro q blk hq;by_cases e:q∈ks
  .obtain⟨f,cs,own,a,p,_⟩:=hin q e
   rw[a]at hq;injection hq with hq;subst hq;exact⟨_,p,rfl⟩
  .exact⟨blk,by rw[s q e];exact hq,bv _ _⟩
 have y:∀b o,¬ae C L h b o->b∉ks.map λk=>(L k).b:=by
  intro b o hn d;obtain⟨q,hq,rfl⟩:=Zv.1 d;obtain⟨f,cs,own,a,_,_⟩:=hin q hq;exact hn (.inr ⟨q,_,a,trivial,rfl,by simp[Blk.frz]⟩)
 have g:Pres w (ae C L h) w' (ae C L h'):=by
  grind [Pres.ext]
 refine⟨⟨?_,m.m0,?_,?_,?_⟩,g,u⟩
 .refine m.ext.trans H (λb P d=>?_)
  obtain⟨q,hq,rfl⟩:=Zv.1 d;obtain⟨f,cs,own,a,_,_⟩:=hin q hq;have:=m.own q _ a
  cases own with
  |false=>exact this.2.2.1
  |true=>rcases this with F|F
         .omega
         .exact F.1
 .intro q blk hq
  by_cases e:q∈ks
  .obtain⟨f,cs,own,a,p,arr,S,M,N⟩:=hin q e
   rw[p]at hq;injection hq with hq;subst hq;exact⟨arr,S,M,(aD.map_pv (N.mono (Pres.sub A)))⟩
  .rw[s q e]at hq
   refine(m.bl q blk hq).mono g u (λl=>H.block _ ((m.bl q blk hq).lt l) (λd=>?_));obtain⟨x,n,Q⟩:=Zv.1 d;obtain⟨f,cs,own,a,_,_⟩:=hin x n;exact m.sep q x _ _ (λK=>e (K▸n)) hq a l trivial Q.symm
 .intro q x b1 I E hq n l B
  have r:∀q b,h' q=some b->b.live (L q)->∃b0,h q=some b0/\b0.live (L q):=by
   intro q b hq l;by_cases e:q∈ks
   .obtain⟨f,cs,own,a,_,_⟩:=hin q e;exact⟨_,a,trivial⟩
   grind
  obtain⟨c1,d1,f1⟩:=r q b1 hq l;obtain⟨J,d2,f2⟩:=r x I n B;exact m.sep q x c1 J E d1 d2 f1 f2
 .intro q blk hq
  by_cases e:q∈ks
  .obtain⟨f,cs,own,a,p,_⟩:=hin q e
   rw[p]at hq;injection hq with hq;subst hq;have:=m.own q _ a;cases own<;>exact this
  .rw[s q e]at hq;exact m.own q blk hq
theorem CV(e:iT h1 x=some (p,W)):∀a∈W,(h1 a.1).isSome=true:=by
 unfold iT at e
 grind
theorem uT:∀{xs:List AV}{p:List PV}{W:List (Nat×Blk)},dZ h1 xs=some (p,W)->∀a∈W,(h1 a.1).isSome=true
 |[],p,W,e=>by simp only[dZ,Za,Zl]at e;obtain⟨_,rfl⟩:=e;simp
 |x::r,p,W,e=>by
  simp only[dZ]at e;split at e
  .rename_i d f
   injection e with e;injection e with _ e;subst e;intro a c;rcases Zm.1 c with b|b
   .exact CV d a b
   .exact uT f a b
  .cases e
theorem wK(e:tB h1 x=some (p,W)):∀b∈W,(h1 b.1).isSome=true:=by
 unfold tB at e;split at e
 .split at e
  .rename_i d
   split at e
   .split at e
    .rename_i c
     split at e
     .injection e with e;injection e with _ e;subst e
      intro b a
      grind [uT,List.mem_singleton]
     .cases e
    .cases e
   .split at e
    .split at e
     .rename_i c
      split at e
      .injection e with e;injection e with _ e;subst e
       intro b a
       grind [uT,List.mem_singleton]
      .cases e
     .cases e
    .cases e
  .cases e
 .exact CV e
theorem pX:∀{xs:List AV}{p:List PV}{W:List (Nat×Blk)},qq h1 xs=some (p,W)->∀a∈W,(h1 a.1).isSome=true
 |[],p,W,e=>by simp only[qq,Za,Zl]at e;obtain⟨_,rfl⟩:=e;simp
 |x::r,p,W,e=>by
  simp only[qq]at e;split at e
  .rename_i d f
   injection e with e;injection e with _ e;subst e;intro a c;rcases Zm.1 c with b|b
   .exact wK d a b
   .exact pX f a b
  .cases e
theorem zf(e:rA h1 x=some (p,W)):∀c∈W,(h1 c.1).isSome=true:=by
 unfold rA at e;split at e
 .grind
 .split at e
  .rename_i f
   split at e
   .grind
   .split at e
    .rename_i d
     split at e
     all_goals
      injection e with e;injection e with _ e;subst e;intro c b;rcases Zm.1 b with a|a
      .exact pX d c a
      .simp only[ZG]at a;subst a;simp[f]
    .cases e
  .cases e
 .cases e
theorem rG:∀{xs:List AV}{p:List PV}{W:List (Nat×Blk)},kn h1 xs=some (p,W)->∀a∈W,(h1 a.1).isSome=true
 |[],p,W,e=>by simp only[kn,Za,Zl]at e;obtain⟨_,rfl⟩:=e;simp
 |x::r,p,W,e=>by
  simp only[kn]at e;split at e
  .rename_i d f
   injection e with e;injection e with _ e;subst e;intro a c;rcases Zm.1 c with b|b
   .exact zf d a b
   .exact rG f a b
  .cases e
theorem Ju(e:BG h1 x=some (p,W)):∀b∈W,(h1 b.1).isSome=true:=by
 unfold BG at e;split at e
 .split at e
  .rename_i a;injection e with e;injection e with _ e;subst e;exact pX a
  .cases e
 .split at e
  .rename_i a d
   injection e with e;injection e with _ e;subst e;intro b c
   grind [pX,rG]
  .cases e
 .exact wK e
theorem uU:∀{xs:List AV}{p:List PV}{W:List (Nat×Blk)},pJ h1 xs=some (p,W)->∀a∈W,(h1 a.1).isSome=true
 |[],p,W,e=>by simp only[pJ,Za,Zl]at e;obtain⟨_,rfl⟩:=e;simp
 |x::r,p,W,e=>by
  simp only[pJ]at e;split at e
  .rename_i d f
   injection e with e;injection e with _ e;subst e;intro a c;rcases Zm.1 c with b|b
   .exact Ju d a b
   .exact uU f a b
  .cases e
theorem K8(e:frz h1 x=some (p,W)):∀b∈W,(h1 b.1).isSome=true:=by
 unfold frz at e;split at e
 .split at e
  .rename_i a;injection e with e;injection e with _ e;subst e;exact uU a
  .cases e
 .split at e
  .rename_i a d
   injection e with e;injection e with _ e;subst e;intro b c
   grind [pX,rG]
  .cases e
 .split at e
  .rename_i a;injection e with e;injection e with _ e;subst e;exact uU a
  .cases e
 .exact wK e
theorem nK:∀{xs:List AV}{c:List Nat}{h:Hp}(_:MemL C L h w)(_:bI h1 h){us:List Value}(_:aD w (ae C L h) L h xs us){as:List Arg}{ks:List Nat}{W:List (Nat×Blk)},
 i6 h1 xs c=some (as,ks,W)->aH C L h w L (ai h W) w/\bI h1 (ai h W)/\(∃o,ks=c++o)/\(c.Nodup->ks.Nodup)/\as.length=us.length/\
  (∀n∈W,(h1 n.1).isSome=true)/\∀(i:Nat) a v,as[i]?=some a->us[i]?=some v->Jn w (ae C L (ai h W)) (ks.map λk=>(L k).b) a v
 |[],c,h,F,hf,us,Q,as,ks,W,e=>by
  simp only[i6,Za,Zl]at e;obtain⟨rfl,rfl,rfl⟩:=e;rw[Q.nil_inv];exact⟨aH.refl F,hf,⟨[],by simp⟩,id,rfl,by simp,λi a v h=>by simp at h⟩
 |x::r,c,h,F,hf,us,Q,as,ks,W,e=>by
  obtain⟨u,Y,rfl,R,m⟩:=Q.cons_inv;unfold i6 at e;split at e
  .rename_i k X
   split at e
   .rename_i U
    obtain⟨rfl,N,_⟩:=U;split at e
    .rename_i E I Z g
     injection e with e;injection e with ea eb;injection eb with eb ec;subst ea;subst eb;subst ec;obtain⟨a1,y,⟨o,s⟩,z,A,B,D⟩:=nK F hf m g;refine⟨a1,y,⟨k::o,by rw[s];simp⟩,λP=>z ?_,by simp[A],B,λi a v d f=>?_⟩
     .rw[List.nodup_append]
      refine⟨P,by simp,?_⟩;intro q hq q' G O;simp at G;subst G;subst O;have H:c.contains q=true:=List.contains_iff_mem.2 hq;rw[N]at H;cases H
     .cases i with
      |zero=>
       simp at d f;subst d;subst f;refine⟨(L k).b,by rw[s];simp,?_⟩
       cases R with
       |ptr _=>rfl
      |succ i=>exact D i a v (by simpa using d) (by simpa using f)
    .cases e
   .split at e
    .split at e
     .rename_i p S E I T g M
      injection e with e;injection e with ea eb;injection eb with eb ec;subst ea;subst eb;subst ec;obtain⟨b1,J,K⟩:=wE F hf R g;obtain⟨a1,y,s,z,A,B,D⟩:=nK b1.1 K (m.mono b1.2.1 b1.2.2) M;rw[bH];refine⟨b1.trans a1,y,s,z,by simp[A],?_,λi a v d f=>?_⟩
      .intro n l
       rcases Zm.1 l with j|j
       .exact zf g n j
       .exact B n j
      .cases i with
       |zero=>simp at d f;subst d;subst f;exact J.mono a1.2.1
       |succ i=>exact D i a v (by simpa using d) (by simpa using f)
     .cases e
    .cases e
  .rename_i x' V
   split at e
   .rename_i p S E I T g M
    injection e with e;injection e with ea eb;injection eb with eb ec;subst ea;subst eb;subst ec;obtain⟨b1,J,K⟩:=m8 F hf R g;obtain⟨a1,y,s,z,A,B,D⟩:=nK b1.1 K (m.mono b1.2.1 b1.2.2) M;rw[bH];refine⟨b1.trans a1,y,s,z,by simp[A],?_,λi a v d f=>?_⟩
    .intro n l
     rcases Zm.1 l with j|j
     .exact K8 g n j
     .exact B n j
    .cases i with
     |zero=>simp at d f;subst d;subst f;exact J.mono a1.2.1
     |succ i=>exact D i a v (by simpa using d) (by simpa using f)
   .cases e
theorem CW:∀{ks:List Nat}{hin:List (List PV)},lT h1 ks=some hin->hin.length=ks.length/\∀(i:Nat) k d,ks[i]?=some k->hin[i]?=some d->∃own,h1 k=some (.box (d.map .pv) own false)
 |[],hin,e=>by simp only[lT,Za]at e;subst e;exact⟨rfl,λi k d h=>by simp at h⟩
 |k::ks,hin,e=>by
  simp only[lT]at e;split at e
  .rename_i cs own l g f
   split at e
   .rename_i d hp
    injection e with e;subst e;obtain⟨a,b⟩:=CW f;refine⟨by simp[a],λi q j hq c=>?_⟩
    cases i with
    |zero=>simp at hq c;subst hq;subst c;exact⟨own,by rw[<-pT hp];exact g⟩
    |succ i=>exact b i q j (by simpa using hq) (by simpa using c)
   .cases e
  .cases e
theorem AI:∀{ks:List Nat}{hout:List (List PV)}{h:Hp},ks.Nodup->hout.length=ks.length->(∀k∈ks,∃cs own j,h1 k=some (.box cs own j))->
 (∀k,k∉ks->ai h (jw h1 ks hout) k=h k)/\(∀r∈jw h1 ks hout,r.1∈ks)/\
 (∀(i:Nat) k b,ks[i]?=some k->hout[i]?=some b->∀cs own j,h1 k=some (.box cs own j)->ai h (jw h1 ks hout) k=some (.box (b.map .pv) own false))
 |[],hout,h,_,_,_=>by
  refine⟨λk _=>?_,?_,λi k b h=>by simp at h⟩
  .cases hout<;>rfl
  .cases hout<;>simp[jw]
 |k::ks,hout,h,e,u,s=>by
  cases hout with
  |nil=>simp at u
  |cons b f=>
   obtain⟨cs,own,j,d⟩:=s k (by simp);have o:k∉ks:=(yBh.1 e).1;have ih:=λ(h:Hp)=>AI (hout:=f) (h:=h) (yBh.1 e).2 (by simpa using u) (λq hq=>s q (by simp[hq]))
   have p:jw h1 (k::ks) (b::f)=(k,.box (b.map .pv) own false)::jw h1 ks f:=by simp[jw,d]
   rw[p];have v:∀q,ai h ((k,.box (b.map .pv) own false)::jw h1 ks f) q=ai (av h k (some (.box (b.map .pv) own false))) (jw h1 ks f) q:=λq=>rfl;refine⟨λq hq=>?_,?_,λi q y hq c l g m a=>?_⟩
   .simp at hq
    rw[v,(ih _).1 q hq.2,bc hq.1]
   .intro r n
    rcases Zx.1 n with rfl|x
    .simp
    .have:=(ih h).2.1 r x;simp[this]
   .rw[v]
    cases i with
    |zero=>
     simp at hq c;subst hq;subst c;rw[(ih _).1 k o,aG];rw[d]at a;injection a with a;injection a with _ h2 _;rw[h2]
    |succ i=>exact(ih _).2.2 i q y (by simpa using hq) (by simpa using c) l g m a
end
section
variable {C:Cx} {L:Nat->Loc} {h1 h:Hp} {w:World}
theorem jC{c:AV}(i:RepA w M L h c u)(e:bC c=some (g,first,caps)):
 ∃a us:List Value,u=.func (.func g) a.toArray us.toArray/\aD w M L h first a/\aD w M L h caps us:=by
 unfold bC at e;split at e
 .rename_i f fs cs
  simp only[Za,Zl]at e;obtain⟨rfl,rfl,rfl⟩:=e
  cases i with
  |pv l=>
   rw[aK l];refine⟨fs.toList,cs.toList,by simp,?_,?_⟩
   all_goals
    refine⟨by simp,λq p u hp b=>?_⟩;simp only[Y7,II]at hp;obtain⟨y,m,rfl⟩:=hp;rw[m]at b;injection b with b;subst b;exact .pv (.val _)
 .simp only[Za,Zl]at e
  obtain⟨rfl,rfl,rfl⟩:=e
  cases i with
  |pv l=>cases l with
   |fn _ _ _ a us k j h1 d=>exact⟨a,us,rfl,aD.map_pv ⟨k,h1⟩,aD.map_pv ⟨j,d⟩⟩
 .simp only[Za,Zl]at e
  obtain⟨rfl,rfl,rfl⟩:=e
  cases i with
  |fn _ _ _ a us k j h1 d=>exact⟨a,us,rfl,⟨k,h1⟩,⟨j,d⟩⟩
 .cases e
theorem Et{w:World}(hp:kI p=true)(h:Rep w M p v):Rep w M' p v:=by
 cases h with
 |val v=>exact .val v
 |agg cs e b a=>
  refine .agg cs e b (λi q u hq d=>?_);have:=L4.1 hp q (An hq);have c:=a i q u hq d
  cases q with
  |val f=>rw[aK c];exact .val _
  |_=>cases this
 |_=>cases hp
theorem t8{w:World}{x:PV}(hp:kI x=true)(a:x.cells[j]?=some p)(h:Rep w M p v):Rep w M' p v:=by
 cases x with
 |val u=>
  simp only[PV.cells,Y7,II]at a;obtain⟨y,_,rfl⟩:=a;rw[aK h];exact .val _
 |agg cs=>
  have:=L4.1 hp p (An a)
  cases p with
  |val b=>rw[aK h];exact .val _
  |_=>cases this
 |_=>cases hp
theorem Gw{w:World}{l:Loc}{xs:List PV}(n:xs.all kI=true)(h:dk w M (λ_=>default) (λ_=>none) l (.row e sz xs 0)):dk w M' (λ_=>default) (λ_=>none) l (.row e sz xs 0):=by
 obtain⟨c1,c,d,f,g⟩:=h;refine⟨c1,c,d,f,λhn=>?_⟩;obtain⟨d1,d2,arr,d3,d4,d5⟩:=g hn;refine⟨d1,d2,arr,d3,d4,λi x j p a b=>?_⟩;obtain⟨v,m,k⟩:=d5 i x j p a b;exact⟨v,m,t8 (L4.1 n x (An a)) b k⟩
theorem tF{w:World}(hp:tY p=true)(h:Rep w M p v):Rep w M' p v:=by
 cases h with
 |val v=>exact .val v
 |hd n a c=>exact .hd n a c
 |tup cs g e d=>
  refine .tup cs g e (λi q u hq f=>?_);have:=L4.1 hp q (An hq);have b:=d i q u hq f
  cases q with
  |val j=>rw[aK b];exact .val _
  |hd n=>cases b with
   |hd _ a c=>exact .hd n a c
  |_=>cases this
 |agg cs g e d=>
  refine .agg cs g e (λi q u hq f=>?_);have:=L4.1 hp q (An hq);have b:=d i q u hq f
  cases q with
  |val j=>rw[aK b];exact .val _
  |hd n=>cases b with
   |hd _ a c=>exact .hd n a c
  |_=>cases this
 |_=>cases hp
theorem wL(hm:MemL C L h w)(hs:∀k b,h1 k=some b->h k=some b){d:Option Nat}(f:∀q,d=some q->h1 q=h q/\q<2000000){c:AV}(hc:RepA w (ae C L h) L h c u)(ha:aD w (ae C L h) L h args us)
 {K:bG->Prop}(e:gc C.P c args d h1 K):∃g vs cs,u=.func (.func g) vs cs/\bS C.P g=true/\∃T:bG,K T/\
  Calls C.P g (vs.toList++us++cs.toList).toArray w λe H=>∃r L',e=.returned r/\aH C L h w L' (ai h T.2) H/\RepA H (ae C L' (ai h T.2)) L' (ai h T.2) T.1 r:=by
 unfold gc at e;split at e
 .exact e.elim
 .rename_i g first caps cc
  obtain⟨vs,cs,rfl,hf,cd⟩:=jC hc cc;split at e
  .exact e.elim
  .rename_i as ks W0 ck
   split at e
   .exact e.elim
   .rename_i b4
    split at e
    .exact e.elim
    .rename_i hin cg
     obtain⟨hout,res,b3,he⟩:=e;have a8:aD w (ae C L h) L h (first++args++caps) (vs++us++cs):=(hf.append ha).append cd;obtain⟨a1,a2,⟨cv,a3⟩,a4,a5,a6,a7⟩:=nK hm (bI.of_sub hs) a8 ck;have ar:ks.Nodup:=a4 (by simp);obtain⟨b1,b2⟩:=CW cg
     have m:∀k∈ks,∃(G:List PV)(own:Bool),h1 k=some (.box (G.map .pv) own false)/\ai h W0 k=some (.box (G.map .pv) own false):=by
      intro k B;obtain⟨i,hi⟩:=yAl.1 B
      have ch:i<hin.length:=by rw[b1];exact(th.1 hi).1
      obtain⟨own,Q⟩:=b2 i k hin[i] hi (an ch);refine⟨_,own,Q,?_⟩;rw[kO,hs _ _ Q];intro kb D he;apply b4;rw[yAT];exact⟨kb,D,List.contains_iff_mem.2 (he▸B)⟩
     obtain⟨aj,ad,hD⟩:=b3
     have cj:(ks.map λk=>(L k).b).Nodup:=by
      rw[List.nodup_iff_pairwise_ne]at ar|-;rw[List.pairwise_map];refine List.Pairwise.imp_of_mem ?_ ar;intro x y j hy cn;obtain⟨_,_,_,cm⟩:=m x j;obtain⟨_,_,_,cp⟩:=m y hy;exact a1.1.sep x y _ _ cn cm cp trivial trivial
     have X:=hD w (ae C L (ai h W0)) (ks.map λk=>(L k).b) (vs++us++cs) (λb o hM=>a1.1.mlt hM) (by simp[b1]) cj
      (λi b G hb Z=>by
        simp only[Y7,II]at hb;obtain⟨k,B,rfl⟩:=hb;obtain⟨own,Q⟩:=b2 i k G B Z
        have hw:ai h W0 k=some (.box (G.map .pv) own false):=by
         obtain⟨cq,cr,R,h10⟩:=m k (An B);rw[Q]at R;injection R with R;injection R with h11 h12;rw[h10,h11,h12]
        refine⟨λo=>.inr ⟨k,_,hw,trivial,rfl,by simp[Blk.frz]⟩,?_⟩;obtain⟨arr,ty,e1,e2⟩:=a1.1.bl k _ hw
        exact⟨arr,ty,e1,e2.map_pv_inv⟩) a5 a7
     refine⟨g,vs.toArray,cs.toArray,rfl,aj,?_⟩;have O:=AI (h1:=h1) (h:=ai h W0) ar (by rw[ad,b1]) (λk B=>by obtain⟨G,own,R,_⟩:=m k B;exact⟨_,own,false,R⟩)
     have W:∀H,Ext (·∈ks.map λk=>(L k).b) w H->(∀(i:Nat) b G,(ks.map λk=>(L k).b)[i]?=some b->hout[i]?=some G->kh H (ae C L (ai h W0)) b G)->
      aH C L h w L (ai h (W0++jw h1 ks hout)) H:=by
      intro H j U;rw[bH];refine a1.trans (a1.1.callStep j (by rw[ad,b1]) O.1 (λi k G B Z=>?_));obtain⟨cq,own,R,h10⟩:=m k (An B);exact⟨_,own,h10,O.2.2 i k G B Z _ own false R,U i _ G (by simp[B]) Z⟩
     unfold iA lx at he;split at he
     .rename_i e0 a
      refine⟨e0,he,?_⟩
      have bq:(vs.toArray.toList++us++cs.toArray.toList).toArray=(vs++us++cs).toArray:=by simp
      rw[bq];refine X.mono ?_;rintro e1 H ⟨v,rfl,j,U,s⟩;have hA:=W H j U
      have N:∀q,h q=none->ai h W0 q=none:=by
       intro q hq;rw[kO,hq];intro kb D he;have:=a6 kb D;rw[he]at this;obtain⟨b,hb⟩:=ZA.1 this;rw[hs _ _ hb]at hq;cases hq
      have ah:∀b o,ae C L (ai h (W0++jw h1 ks hout)) b o->ae C L (ai h W0) b o:=by
       rw[bH];rintro b o (h0|⟨q,blk,hq,hl,b8,hf⟩)
       .exact .inl h0
       .by_cases b9:q∈ks
        .obtain⟨G,own,R,h10⟩:=m q b9
         exact .inr ⟨q,_,h10,trivial,b8,by simp[Blk.frz]⟩
        .rw[O.1 q b9]at hq;exact .inr ⟨q,blk,hq,hl,b8,hf⟩
      split at a
      .rename_i p _
       injection a with a;subst a;unfold H4;split
       .rename_i V
        simp only[up]at V;have ak:ks=[]:=List.isEmpty_iff.1 V.1;subst ak;have z:Ext (λ_=>False) w H:=⟨j.os,j.tape,j.output,j.size,λS n _=>j.block S n (by simp)⟩;obtain⟨g1,g2⟩:=hm.grow z
        have e0:([]++jw h1 [] hout:List (Nat×Blk))=[]:=by cases hout<;>rfl
        show∃r L',_/\aH C L h w L' (ai h ([]++jw h1 [] hout)) H/\_;rw[e0];exact⟨v,L,rfl,⟨g1,g2,KC.refl _ _⟩,.pv (tF V.2 s)⟩
       .exact⟨v,L,rfl,hA,.pv (Rep.mono (Pres.sub ah) s)⟩
      .rename_i p _
       split at a
       .rename_i ak
        injection a with a;subst a;subst ak;have z:Ext (λ_=>False) w H:=⟨j.os,j.tape,j.output,j.size,λS n _=>j.block S n (by simp)⟩;obtain⟨g1,g2⟩:=hm.grow z;exact⟨v,L,rfl,⟨g1,g2,KC.refl _ _⟩,.pv (Rep.mono (Pres.sub (λb o R=>hm.mlt R)) s)⟩
       .cases a
      .rename_i G q
       split at a
       .rename_i hq
        obtain⟨hq,rfl⟩:=hq;injection a with a;subst a;obtain⟨b,I,rfl,J⟩:=s;have F:=N q (by rw[<-(f q rfl).1];simpa using hq);simp only;rw[bH,jW];obtain⟨arr,ty,e1,e2⟩:=J;have z:Ext (λ_=>False) w H:=⟨j.os,j.tape,j.output,j.size,λS n _=>j.block S n (by simp)⟩
        have A:=a1.1.newKey F (f q rfl).2 (l:=⟨b,0,false⟩) (blk:=.box (G.map .pv) true false) z (λ_=>I) (by intro ct cu e;injection e with _ e2;cases e2)
         ⟨arr,ty,e1,aD.map_pv (e2.mono (Pres.sub (λS o' hh=>hh.elim .inl (λR=>.inr R.2))))⟩
        refine⟨_,av L q ⟨b,0,false⟩,rfl,a1.trans A,?_⟩;have:=RepA.ptr (w:=H) (M:=ae C (av L q ⟨b,0,false⟩) (av (ai h W0) q (some (.box (G.map .pv) true false)))) (L:=av L q ⟨b,0,false⟩) (h:=av (ai h W0) q (some (.box (G.map .pv) true false))) (k:=q) (off:=0) (aG _ _ _);rw[aG]at this;exact this
       .cases a
      .rename_i e9 sz xs q
       split at a
       .rename_i hq
        obtain⟨hq,rfl⟩:=hq;injection a with a;subst a;obtain⟨l,rfl,I,J⟩:=s;have F:=N q (by rw[<-(f q rfl).1];simpa using hq);simp only;rw[bH,jW];have z:Ext (λ_=>False) w H:=⟨j.os,j.tape,j.output,j.size,λS n _=>j.block S n (by simp)⟩;have A:=ly (e:=e9) (sz:=sz) (xs:=xs) a1.1 z F (f q rfl).2 I J;exact⟨_,_,rfl,a1.trans A.1,A.2⟩
       .cases a
      .rename_i e9 sz xs q
       split at a
       .rename_i hq
        obtain⟨hq,rfl⟩:=hq;injection a with a;subst a;obtain⟨V,l,rfl,I,J⟩:=s
        have ca:h q=none:=by rw[<-(f q rfl).1];simpa using hq
        have z:Ext (λ_=>False) w H:=⟨j.os,j.tape,j.output,j.size,λS n _=>j.block S n (by simp)⟩;have A:=ly (e:=e9) (sz:=sz) (xs:=xs) hm z ca (f q rfl).2 I (Gw V J);simp only;rw[jW];exact⟨_,_,rfl,A.1,A.2⟩
       .cases a
      .rename_i pre e9 sz xs q
       split at a
       .rename_i hq
        obtain⟨hq,rfl⟩:=hq;injection a with a;subst a;obtain⟨l,cx,rfl,I,E,J⟩:=s;have F:=N q (by rw[<-(f q rfl).1];simpa using hq);simp only;rw[bH,jW];have z:Ext (λ_=>False) w H:=⟨j.os,j.tape,j.output,j.size,λS n _=>j.block S n (by simp)⟩;have A:=ly (e:=e9) (sz:=sz) (xs:=xs) a1.1 z F (f q rfl).2 I J;refine⟨_,_,rfl,a1.trans A.1,?_⟩
        have cb:∀b o,ae C (av L q l) (av (ai h W0) q (some (.row e9 sz xs 0))) b o->ae C L (ai h W0) b o\/(l.isNil=false/\b=l.b):=by
         rintro b o (h0|⟨k,blk,B,Y,D,cf⟩)
         .exact .inl (.inl h0)
         .by_cases b7:k=q
          .subst b7
           rw[aG]at B D Y;injection B with B;subst B;exact .inr ⟨Y,D.symm⟩
          .rw[bc b7]at B D Y
           exact .inl (.inr ⟨k,blk,B,Y,D,cf⟩)
        refine .agg _ _ (by simp[E.1]) ?_;intro i p u hp hu;by_cases hi:i<pre.length
        .rw[Y8 (by simpa using hi),Y7,an hi]at hp
         rw[Y8 (by rw[<-E.1];exact hi)]at hu;simp only[ZS,Za]at hp;subst hp;exact .pv ((E.2 i _ u (an hi) hu).mono (Pres.sub cb))
        .rw[Zc (by simpa using hi)]at hp
         rw[Zc (by rw[<-E.1];omega)]at hu;simp only[ZB]at hp
         have b5:i-pre.length=0:=by
          have:=(th.1 hp).1;simp at this;omega
         rw[<-E.1,b5]at hu;rw[b5]at hp;simp only[yAj,Za]at hp hu;subst hp;subst hu;exact A.2
       .cases a
      .cases a
     .exact he.elim
end
theorem Gx(e:Ay P t name=some f)(n:Nat):(method (n+1) t v name).run P w=.ok (f,v) w:=by
 unfold Ay at e;split at e
 .rename_i i hi
  split at e
  .rename_i m c
   split at e
   .rename_i hp
    have g:m.path.toList=[]:=by
     grind
    rw[method];simp only[Sem.run_bind,kL hi,Result.andThen_ok,c,g,follow]
    cases a:m.func with
    |none=>rw[a]at e;simp at e
    |some q=>
     obtain⟨j,b⟩:=q;rw[a]at e
     cases b with
     |true=>simp at e
     |false=>
      cases hd:P.underlying t with
      |none=>rw[hd]at e;simp at e
      |some d=>
       rw[hd]at e;simp only[Sem.run_pure,Result.andThen_ok,Sem.run_bind,receiverAt,bM hd]
       cases d<;>first|(simp at e;done)|(simp at e;subst e;rfl)
   .cases e
  .cases e
 .cases e
theorem If(e:Ay P t name=some f):(method (P.types.size+Made.depth) t v name).run P w=.ok (f,v) w:=
 Gx e (P.types.size+99)
theorem Jv{d:Option Nat}(e:gc P (qu P name x) args d h K):∃t p f,x=.pv (.ifc t p)/\Ay P t name=some f/\qu P name x=.fn (.func f) [.pv p] []:=by
 unfold qu at e|-;split at e
 .rename_i t p
  split at e
  .grind
  .simp[gc,bC]at e
 .simp[gc,bC]at e
section
variable {C:Cx} {L:Nat->Loc} {h1 h:Hp} {w:World}
theorem Eu(V:MemL C L h w)(hs:∀k b,h1 k=some b->h k=some b)(l:∀d,o.dst=some d->h1 d=h d/\d<2000000)
 (I:∀x∈o.op.operands,RepA w (ae C L h) L h (ρ x) (a.eval x)){hn:List Nat}{K:bG->Prop}(e:tZ C.P hn o ρ h1 K){next:Act->World->Prop}{Q:Exit->Act->World->Prop}
 (y:∀j u F E,K j->aH C L h w E (ai h j.2) F->RepA F (ae C E (ai h j.2)) E (ai h j.2) j.1 u->next (a.put o.dst u) F):o.wp C.P a w next Q:=by
 have M:iA (du C.P hn o ρ h1) K->o.wp C.P a w next Q:=by
  intro e;unfold iA at e;split at e
  .rename_i j H
   obtain⟨v,W⟩:=j;obtain⟨n,u,F,E,D,Y,ha,N⟩:=Ie V hs l I H;unfold Oper.wp;rw[D];rcases Y with rfl|⟨rfl,rfl⟩
   .exact y (v,W) u F E e ha N
   .exact y (v,W) undef F E e ha N
  .exact e.elim
 unfold tZ at e;split at e
 .rename_i c z
  split at e
  .rename_i f m
   obtain⟨callee,args,argTypes⟩:=c;simp only at m e;subst m;have hf:RepA w (ae C L h) L h (ρ f) (a.eval f):=I f (by rw[z];simp[Op.operands,Call.operands]);have q:aD w (ae C L h) L h (args.toList.map ρ) (args.toList.map a.eval):=sO _ (λx G=>I x (by rw[z];simp at G;simp[Op.operands,Call.operands,G]));obtain⟨g,O,cs,Z,i,j,hK,T⟩:=wL V hs l hf q e;unfold Oper.wp
   have B:(execOp a.eval o).run C.P w=.ok (.enter g (O.toList++args.toList.map a.eval++cs.toList).toArray) w:=by
    unfold bS at i
    cases s:C.P.funcs[g]? with
    |none=>rw[s]at i;cases i
    |some fn=>
     rw[s]at i;simp only[up,ZK,yAb,ne_eq]at i
     have R:fn.body.isNone=false:=by cases S:fn.body<;>simp_all
     have A:(O++args.map a.eval)++cs=(O.toList++args.toList.map a.eval++cs.toList).toArray:=by
      grind
     unfold execOp;rw[z];simp only[resolve,Z,Deferred.ofValue,pure_bind,Sem.run_bind,Result.andThen_ok,invoke,callFunc,program,Sem.run,s];simp[i.2,R,A]
   rw[B];simp only[Oper.upon];refine T.mono ?_
   grind
  .rename_i r name m
   obtain⟨callee,args,argTypes⟩:=c;simp only at m e;subst m;have D:RepA w (ae C L h) L h (ρ r) (a.eval r):=I r (by rw[z];simp[Op.operands,Call.operands]);have q:aD w (ae C L h) L h (args.toList.map ρ) (args.toList.map a.eval):=sO _ (λx G=>I x (by rw[z];simp at G;simp[Op.operands,Call.operands,G]));obtain⟨t,p,f,G,X,hi⟩:=Jv e;rw[G]at D;generalize Z:a.eval r=u at D
   cases D with
   |pv D=>cases D with
    |ifc _ _ v N=>
     have hf:RepA w (ae C L h) L h (qu C.P name (ρ r)) (.func (.func f) #[v] #[]):=by
      rw[hi];exact .fn (.func f) [.pv p] [] [v] [] rfl rfl (aD.cons (.pv N) .nil).2 aD.nil.2
     obtain⟨g,O,cs,ad,i,j,hK,T⟩:=wL V hs l hf q e;injection ad with J e2 e3;injection J with J;subst J;subst e2;subst e3;unfold Oper.wp
     have B:(execOp a.eval o).run C.P w=.ok (.enter f (#[v].toList++args.toList.map a.eval++#[].toList).toArray) w:=by
      unfold bS at i
      cases s:C.P.funcs[f]? with
      |none=>rw[s]at i;cases i
      |some fn=>
       rw[s]at i;simp only[up,ZK,yAb,ne_eq]at i
       have R:fn.body.isNone=false:=by cases S:fn.body<;>simp_all
       have A:#[v]++args.map a.eval=(#[v].toList++args.toList.map a.eval++#[].toList).toArray:=by
        apply Array.ext';simp
       have U:(#[Value.iface t v]++args.map a.eval).extract 1 (#[Value.iface t v]++args.map a.eval).size=args.map a.eval:=by
        apply Array.ext';simp;exact Zw (by simp)
       have h0:(#[Value.iface t v]++args.map a.eval)[0]?=some (.iface t v):=by rw[ZJ (by simp)];rfl
       unfold execOp;rw[z];simp only[resolve,Z,pure_bind,Sem.run_bind,Result.andThen_ok,invoke,h0,callMethod,U];rw[show Sem.run C.P program w=.ok C.P w from rfl,Result.andThen_ok,If X,Result.andThen_ok];simp only[callFunc,program,Sem.run_bind,Sem.run,s,Result.andThen_ok];rw[A];simp[i.2,R]
     rw[B];simp only[Oper.upon];refine T.mono ?_;rintro J F ⟨r,E,rfl,hA,D⟩;exact y j r F E hK hA D
  grind
 grind
end
def jD(P:Program)(ds:List Deferred):Prop:=∀d∈ds,∃g cap,d.target=.fn (.func g) cap/\gR P g
theorem jD.nil(P:Program):jD P []:=λd h=>by simp at h
def dM(C:Cx)(st:St)(a:Act)(w:World):Prop:=
 ∃L,MemL C L st.h w/\a.tmps.size=C.N/\jD C.P a.defers/\∀n,RepA w (ae C L st.h) L st.h (st.t n) (a.tmps.getD n undef)
theorem dM.forget(hs:dM C st a w){t:Nat->AV}(d:∀n,t n=.undef\/t n=st.t n):dM C ⟨t,st.h⟩ a w:=by
 obtain⟨L,h1,b,c,f⟩:=hs;refine⟨L,h1,b,c,λn=>?_⟩;show RepA w (ae C L st.h) L st.h (t n) (a.tmps.getD n undef);rcases d n with e|e
 .rw[e];exact .undef _
 grind
theorem bE{L:Nat->Loc}(b:∀n,RepA w (ae C L st.h) L st.h (st.t n) (a.tmps.getD n undef))(x:Operand):RepA w (ae C L st.h) L st.h (st.ev x) (a.eval x):=by
 cases x with
 |tmp n=>exact b n
 |const v=>exact .pv (.val v)
 |global g=>exact .undef _
 |func f=>exact .pv (.val _)
theorem gW(hd:d<a.tmps.size)(n:Nat):(a.put (some d) u).tmps.getD n undef=if n=d then u else a.tmps.getD n undef:=by
 simp only[Act.put,Ze]
 grind
theorem dM.put{L:Nat->Loc}(_:MemL C L st.h w)(hN:a.tmps.size=C.N)(f:jD C.P a.defers)(g:∀n,RepA w (ae C L st.h) L st.h (st.t n) (a.tmps.getD n undef))
 {d:Option Nat}(hd:dI C.N d=true){v:AV}{W:List (Nat×Blk)}{u:Value}{w':World}{L':Nat->Loc}(c:aH C L st.h w L' (ai st.h W) w')(i:RepA w' (ae C L' (ai st.h W)) L' (ai st.h W) v u):
 dM C (st.put d v W) (a.put d u) w':=by
 refine⟨L',c.1,?_,?_,λn=>?_⟩
 .cases d<;>simp[Act.put,hN]
 .cases d<;>exact f
 .have b:=(g n).mono c.2.1 c.2.2
  cases d with
  |none=>exact b
  |some d=>
   have e:d<a.tmps.size:=by rw[hN];simp only[dI,up,Is]at hd;exact hd.1
   rw[gW e];simp only[St.put,av]
   grind
theorem dB{L:Nat->Loc}{t:Nat->AV}(k:∀n,RepA w (ae C L h) L h (t n) (a.tmps.getD n undef)){g:Bool}(e:eC ops t o.guard=some g):
 Region.wanted o (yielded ops a.tmps)=g:=by
 unfold eC at e;unfold Region.wanted;split at e
 .grind
 .rename_i j want l
  rw[l];simp only;split at e
  .rename_i d hd
   split at e
   .rename_i b f
    injection e with e;subst e;have:=k d;rw[f]at this
    have c:a.tmps.getD d undef=.bool b:=by cases this with|pv hr=>exact aK hr
    have i:a.tmps[d]?=some (.bool b):=by
     rw[Ze]at c
     cases hq:a.tmps[d]? with
     |none=>rw[hq]at c;simp[undef]at c
     |some q=>rw[hq]at c;simp at c;rw[c]
    unfold yielded
    grind
   .rename_i q f
    injection e with e;subst e;have:=k d;rw[f]at this
    have c:a.tmps.getD d undef=.tuple q:=by cases this with|pv hr=>exact aK hr
    rw[Ze]at c;unfold yielded
    grind
   .cases e
  .cases e
theorem Oper.wp_defer{c:Call}(i:o.op=.defer c){f:Operand}(hf:c.callee=.value f)(e:c.args.size=0){vs:Array Value}(j:a.eval f=.func (.func g) vs cs)
 {next:Act->World->Prop}{Q:Exit->Act->World->Prop}(h:next (({a with defers:={target:=.fn (.func g) cs,args:=vs}::a.defers}:Act).put o.dst undef) w):o.wp P a w next Q:=by
 unfold Oper.wp;have b:c.args=#[]:=Array.size_eq_zero_iff.1 e
 have d:(execOp a.eval o).run P w=.ok (.defer {target:=.fn (.func g) cs,args:=vs}) w:=by
  unfold execOp;rw[i];simp only[resolve,hf,j,Deferred.ofValue,b,pure_bind,Sem.run_bind,Sem.run_pure,Result.andThen_ok];simp
 rw[d];exact h
theorem Jw{L:Nat->Loc}{f:Fn}(b:RepA w M L h (.fn f first caps) u):∃a cs,u=.func f a cs:=by
 cases b with
 |fn _ _ _ a us e d h1 c=>exact⟨_,_,rfl⟩
theorem vW{L:Nat->Loc}(_:MemL C L h w)(i:RepA w (ae C L h) L h x u)(e:rn h x=true):∃a n c,u=.slice a n c:=by
 unfold rn at e;split at e
 .cases i with
  |pv g=>
   cases g with
   |sl0 a c=>exact⟨_,_,_,rfl⟩
   |sl xs b o c sz u f r q g=>exact⟨_,_,_,rfl⟩
 .rename_i k n
  split at e
  .rename_i e0 sz xs p j
   simp only[up,Is]at e
   cases i with
   |arr d l m=>
    rw[j]at d;injection d with d;injection d with a1 a2 a3 a4;subst a3;rw[m e.1,Loc.slice];split<;>exact⟨_,_,_,rfl⟩
  .cases e
 .cases e
theorem yj{L:Nat->Loc}(p:MemL C L st.h w)(hN:a.tmps.size=C.N)(m:jD C.P a.defers)(q:∀n,RepA w (ae C L st.h) L st.h (st.t n) (a.tmps.getD n undef))
 {o:Oper}(hd:dI C.N o.dst=true){hn:List Nat}{K:bG->Prop}(e:wD C.P hn o st.ev st.h K){next:Act->World->Prop}{Q:Exit->Act->World->Prop}
 (i:∀j E D,K j->dM C (st.put o.dst j.1 j.2) E D->next E D):o.wp C.P a w next Q:=by
 have v:tZ C.P hn o st.ev st.h K->o.wp C.P a w next Q:=λe=>
  Eu p (λ_ _ h=>h) (λd z=>⟨rfl,by rw[z]at hd;simp only[dI,up,Is]at hd;exact hd.2⟩) (λx _=>bE q x) e (λj u D L' V S B=>i j _ _ V (dM.put p hN m q hd S B))
 unfold wD at e;split at e
 .rename_i c k
  split at e
  .rename_i f r
   split at e
   .rename_i R
    unfold GO at e;split at e
    .rename_i g first caps A
     obtain⟨H,cs,B⟩:=Jw (by have:=bE q f;rw[A]at this;exact this);refine Oper.wp_defer k r R B (i _ _ _ e.2 ?_)
     have hq:jD C.P ({target:=.fn (.func g) cs,args:=H}::a.defers):=by
      intro d l;rcases Zx.1 l with rfl|l
      .grind
      .exact m d l
     exact dM.put (a:={a with defers:={target:=.fn (.func g) cs,args:=H}::a.defers}) p hN hq q hd (W:=[]) (aH.refl p) (.undef _)
    .exact e.elim
   .exact e.elim
  .exact e.elim
 .rename_i op t x y t' k
  split at e
  .rename_i G
   simp only[up,ZX,ZW]at G;obtain⟨⟨⟨c1,J⟩,M⟩,c4⟩:=G;have Y:=zI c1 (bE q y);obtain⟨F,n,c,X⟩:=vW p (bE q x) M
   obtain⟨b,U⟩:∃b:Bool,(op=.eql/\b=F.isNone)\/(op=.neq/\b=!F.isNone):=by
    grind
   have s:(execOp a.eval o).run C.P w=.ok (.value (.bool b)) w:=by
    obtain⟨O,Z,ty,pos,I,g⟩:=o;simp only at k;subst k;exact eZ (BR (rD J) X Y U) w
   have T:K (.pv (.val (.bool b)),[]):=by cases b with
    |true=>exact e.1
    |false=>exact e.2
   unfold Oper.wp;rw[s];exact i _ _ _ T (dM.put p hN m q hd (W:=[]) (aH.refl p) (.pv (.val _)))
  grind
 grind
theorem fW{C:Cx}{hn:List Nat}{ops:Array Oper}{Q:St->Prop}{Q':Exit->Act->World->Prop}(j:∀st a w,dM C st a w->Q st->Q' .normal a w):
 ∀{l:List Oper}{st:St}{a:Act}{w:World},dM C st a w->bZ C.P hn C.N ops Q l st->wpList C.P ops Q' l a w
 |[],st,a,w,r,e=>j st a w r e
 |o::l,st,a,w,r,e=>by
  obtain⟨L,k,hN,f,i⟩:=r;simp only[bZ]at e;obtain⟨hd,e⟩:=e;refine wpList_step (λK n=>?_);split at e
  .rename_i p
   rw[dB i (pM p),Zd rfl];exact yj k hN f i hd e (λm s u q c=>n _ _ (fW j c q))
  .rename_i d b want p
   rw[dB i (me p)];unfold y7 at e;simp only at e;split at e
   .rename_i g
    subst g;rw[Zd (by simp)];exact yj k hN f i hd e (λm s u q c=>n _ _ (fW j c q))
   .rename_i g
    rw[Y6 (by simpa using g)];exact n _ _ (fW j (dM.put k hN f i hd (W:=[]) (aH.refl k) (.pv (.val _))) e)
  .exact e.elim
def WP(C:Cx)(c:Code)(Q:Exit->St->Prop)(st:St):Prop:=∀a w,dM C st a w->c.wp C.P (λe d f=>∃b,dM C b d f/\Q e b) a w
section
variable {C:Cx} {Q:Exit->St->Prop} {st:St}
theorem WP.region(h:bZ C.P hn C.N ops (Q .normal) ops.toList st):WP C (.region id ops false) Q st:=
 λ_ _ c=>wp_region_list (fW (λb _ _ a hq=>⟨b,a,hq⟩) c h)
def Ev(C:Cx)(y:Code)(Q:Exit->St->Prop):Exit->St->Prop
 |.normal,st=>WP C y Q st
 |e,st=>Q e st
theorem WP.seq{x y:Code}(h:WP C x (Ev C y Q) st):WP C (.seq x y) Q st:=by
 intro a w f;refine wp_seq (wp_mono (h a w f) ?_);rintro e d g ⟨c,b,hq⟩
 cases e with
 |normal=>exact hq d g b
 |_=>exact⟨c,b,hq⟩
theorem WP.mono{Q':Exit->St->Prop}(h:WP C c Q st)(hq:∀e st,Q e st->Q' e st):WP C c Q' st:=
 λa w g=>wp_mono (h a w g) (λe _ _ ⟨b,f,d⟩=>⟨b,f,hq e b d⟩)
theorem WP.skip(h:Q .normal st):WP C .skip Q st:=λ_ _ a=>wp_skip ⟨st,a,h⟩
theorem WP.ret(h:Q .ret st):WP C .ret Q st:=λ_ _ a=>wp_ret ⟨st,a,h⟩
theorem WP.exit(h:Q (.exit id) st):WP C (.exit id) Q st:=λ_ _ a=>wp_exit ⟨st,a,h⟩
theorem WP.cond{c:Operand}{x y:Code}(i:st.ev c=.pv (.val (.bool b)))(l:b=true->WP C x Q st)(hf:b=false->WP C y Q st):WP C (.cond c x y) Q st:=by
 intro a w f
 have d:a.eval c=.bool b:=by
  obtain⟨L,m,hN,j,g⟩:=f;have:=bE g c;rw[i]at this
  cases this with
  |pv k=>exact aK k
 exact wp_cond_split d (λe=>l e a w f) (λe=>hf e a w f)
def nM(id:Nat)(Q:Exit->St->Prop):Exit->St->Prop
 |.exit i,st=>if i=id then Q .normal st else Q (.exit i) st
 |e,st=>Q e st
theorem WP.block(h:WP C c (nM id Q) st):WP C (.block id c) Q st:=by
 intro a w f;refine wp_block (wp_mono (h a w f) ?_);rintro e g j ⟨d,b,hq⟩
 cases e with
 |exit i=>
  simp only[nM,Exit.inBlock]at hq|-
  grind
 |_=>exact⟨d,b,hq⟩
def fw(ks:List Nat):AV->Bool
 |.pv _=>false
 |.ptr k _|.arr k _|.eptr k _ _ _=>ks.contains k
 |.ext x=>ks.contains x.key
 |_=>true
def oZ(ks:List Nat):AV->Bool
 |.agg cs=>cs.any (fw ks)
 |.fn _ first caps=>first.any (fw ks)||caps.any (fw ks)
 |.tup _=>true
 |x=>fw ks x
def dK(ks:List Nat)(x:AV):AV:=if oZ ks x=true then .undef else x
def fx(ks:List Nat):Blk->Blk
 |.box cs own a=>.box (cs.map (dK ks)) own a
 |b=>b
def St.kill(ks:List Nat)(st:St):St:=⟨λn=>dK ks (st.t n),λk=>if ks.contains k=true then none else(st.h k).map (fx ks)⟩
def cut(ks:List Nat)(h:Hp):Hp:=λk=>if ks.contains k=true then none else h k
theorem ro(a:ks.contains k=false)(b:h k=some blk):cut ks h k=some blk:=by
 unfold cut;rw[Y6 (by rw[a];decide),b]
theorem jR{L:Nat->Loc}(hd:fw ks x=false)(i:RepA w M L h x u):RepA w M L (cut ks h) x u:=by
 cases i with
 |pv f=>exact .pv f
 |ptr a=>exact .ptr (ro (by simpa only[fw]using hd) a)
 |arr a hn b=>exact .arr (ro (by simpa only[fw]using hd) a) hn b
 |eptr a hn b=>exact .eptr (ro (by simpa only[fw]using hd) a) hn b
 |ext d=>
  cases d with
  |barr e a=>exact .ext (.barr e (ro (by simpa only[fw,XV.key]using hd) a))
  |mp a=>exact .ext (.mp (ro (by simpa only[fw,XV.key]using hd) a))
  |suf c a hn g b=>exact .ext (.suf c (ro (by simpa only[fw,XV.key]using hd) a) hn g b)
 |agg=>cases hd
 |fn=>cases hd
 |tup=>cases hd
 |undef=>cases hd
theorem wM{L:Nat->Loc}(m:RepA w M L h x u):RepA w M L (cut ks h) (dK ks x) u:=by
 unfold dK;split
 .exact .undef _
 .rename_i hd
  have hd:oZ ks x=false:=by simpa using hd
  have el:∀{cs:List AV}{i:Nat}{p:AV},cs.any (fw ks)=false->cs[i]?=some p->fw ks p=false:=by
   grind
  cases m with
  |agg cs g d k=>exact .agg cs g d (λi p u a b=>jR (el hd a) (k i p u a b))
  |fn f first caps g us d c h1 j=>
   have hd:(first.any (fw ks)||caps.any (fw ks))=false:=hd;rw[yAk]at hd
   exact .fn f first caps g us d c (λi p u a b=>jR (el hd.1 a) (h1 i p u a b)) (λi p u a b=>jR (el hd.2 a) (j i p u a b))
  |tup=>cases hd
  |undef=>exact .undef _
  |pv l=>exact jR hd (.pv l)
  |ptr c=>exact jR hd (.ptr c)
  |arr c hn b=>exact jR hd (.arr c hn b)
  |eptr c hn b=>exact jR hd (.eptr c hn b)
  |ext e=>exact jR hd (.ext e)
theorem wN(ks:List Nat)(b:Blk)(l:Loc):dh b l (fx ks b) l:=by cases b<;>simp[dh,fx]
theorem GR{L:Nat->Loc}:KC L (cut ks h) L (λk=>if ks.contains k=true then none else(h k).map (fx ks)):=by
 intro k blk a;unfold cut at a;split at a
 .cases a
 .rename_i b
  exact⟨fx ks blk,by simp only[Y6 b,a];rfl,wN ks blk _⟩
theorem wO{L:Nat->Loc}(hp:Pres w M w M')(a:RepA w M L h x u):
 RepA w M' L (λk=>if ks.contains k=true then none else(h k).map (fx ks)) (dK ks x) u:=(wM a).mono hp GR
theorem dM.kill(ks:List Nat)(hs:dM C st a w):dM C (st.kill ks) a w:=by
 obtain⟨L,g,hN,y,W⟩:=hs
 have d:∀k c,(st.kill ks).h k=some c->∃blk,st.h k=some blk/\fx ks blk=c/\c.live (L k)=blk.live (L k)/\∀o,c.frz o=blk.frz o:=by
  intro k c f;simp only[St.kill]at f;split at f
  .cases f
  .simp only[II]at f
   obtain⟨blk,h1,rfl⟩:=f;exact⟨blk,h1,rfl,by cases blk<;>rfl,λo=>by cases blk<;>rfl⟩
 have S:∀b o,ae C L (st.kill ks).h b o->ae C L st.h b o:=by
  rintro b o (P|⟨k,c,f,A,T,hf⟩)
  .exact .inl P
  .obtain⟨blk,h1,_,Q,R⟩:=d k c f
   exact .inr ⟨k,blk,h1,Q▸A,T,R o▸hf⟩
 have hp:Pres w (ae C L st.h) w (ae C L (st.kill ks).h):=Pres.sub S;refine⟨L,⟨g.ext,g.m0,?_,?_,?_⟩,hN,y,λn=>wO hp (W n)⟩
 .intro k c f
  obtain⟨blk,h1,rfl,_,_⟩:=d k c f;have:=g.bl k blk h1
  cases blk with
  |box cs own v=>
   obtain⟨arr,Y,s,m⟩:=this;refine⟨arr,Y,s,by simpa using m.1,λi p u l E=>?_⟩;simp only[Y7,II]at l;obtain⟨q,hq,rfl⟩:=l;exact wO hp (m.2 i q u hq E)
  |row e sz xs v=>
   obtain⟨a1,G,H,I,J⟩:=this;refine⟨a1,G,H,I,λhn=>?_⟩;obtain⟨b1,r,arr,K,M,N⟩:=J hn;exact⟨b1,r,arr,K,M,λi x j p X U=>by obtain⟨u,E,V⟩:=N i x j p X U;exact⟨u,E,V.mono hp⟩⟩
  |mp kd n es v=>exact this
 .intro k F b1 r D f z A B
  obtain⟨c1,d1,_,s,_⟩:=d k b1 f;obtain⟨O,d2,_,m,_⟩:=d F r z;exact g.sep k F c1 O D d1 d2 (s▸A) (m▸B)
 .intro k c f
  obtain⟨blk,h1,rfl,_,_⟩:=d k c f;have:=g.own k blk h1
  cases blk with
  |box cs own v=>cases own<;>exact this
  |row=>exact this
  |mp=>exact this
theorem WP.loop(ks:List Nat)(I:St->Prop)(μ:St->Nat)(A:I (st.kill ks))
 (round:∀st,I st->WP C c (λe d=>match e with|.normal=>I (d.kill ks)/\μ (d.kill ks)<μ st|e=>Q e d) st):WP C (.loop c) Q st:=by
 intro a w u
 have key:∀n st a w,μ st=n->I st->dM C st a w->∀b k cs,∃e o p,(∃d,dM C d o p/\Q e d)/\Arrives C.P (lone (b.at a (.code c::.inLoop c::k)) cs w) b k cs e o p:=by
  intro n
  induction n using Nat.strongRecOn with
  |_ n ih=>
   intro st a w hn z u b k cs;obtain⟨e,j,m,⟨d,g,hq⟩,f⟩:=round st z a w u b (.inLoop c::k) cs
   cases e with
   |normal=>
    obtain⟨q,r⟩:=hq;obtain⟨y,v,B,s,i⟩:=ih (μ (d.kill ks)) (hn▸r) _ j m rfl q (g.kill ks) b k cs;exact⟨y,v,B,s,.of_steps (Steps.trans f (.one step_inLoop)) i⟩
   |exit id=>exact⟨_,j,m,⟨d,g,hq⟩,.pass (x:=.inLoop c) rfl (λ_ _=>.inl (by simp)) f⟩
   |goto l=>exact⟨_,j,m,⟨d,g,hq⟩,.pass (x:=.inLoop c) rfl (λ_ _=>.inl (by simp)) f⟩
   |ret=>exact⟨_,j,m,⟨d,g,hq⟩,.pass (x:=.inLoop c) rfl (λ_ _=>.inl (by simp)) f⟩
   |panic D=>exact⟨_,j,m,⟨d,g,hq⟩,.pass (x:=.inLoop c) rfl (λ_ _=>.inl (by simp)) f⟩
   |outgrown=>exact⟨_,j,m,⟨d,g,hq⟩,.pass (x:=.inLoop c) rfl (λ_ _=>.inl (by simp)) f⟩
 intro b k cs;obtain⟨e,o,p,hq,f⟩:=key _ (st.kill ks) a w rfl A (u.kill ks) b k cs;exact⟨e,o,p,hq,.of_steps (.one step_loop) f⟩
end
def pk(i:Nat):Nat:=1000000+i
def Ew(args:List Arg):Nat->AV:=λn=>match args[n]? with
 |some (.pv p)=>.pv p
 |some (.bx i)=>.ptr (pk i) 0
 |none=>.undef
def o6(hin:List (List PV)):Hp:=λk=>if k<1000000 then none else match hin[k-1000000]? with
 |some a=>some (.box (a.map .pv) false false)
 |none=>none
def rH(args:List Arg)(hin:List (List PV)):St:=⟨Ew args,o6 hin⟩
def m9(P:Program)(st:St):List ResultVar->Option (List AV)
 |[]=>some []
 |.tmp t::r=>(m9 P st r).map (st.t t::·)
 |.cell a b::r=>match aA P b with
  |some ti=>match ww ti (st.t a) st.h,m9 P st r with
   |some v,some c=>some (v::c)
   |_,_=>none
  |none=>none
def mf(P:Program)(st:St)(rs:List ResultVar):Option AV:=match m9 P st rs with
 |some [v]=>some v
 |some a=>some (.tup a)
 |none=>none
def iK(P:Program)(rs:List ResultVar)(hout:List (List PV))(res:RV)(st:St):Prop:=
 ∃r,mf P st rs=some r/\(∀(i:Nat) a,hout[i]?=some a->st.h (pk i)=some (.box (a.map .pv) false false))/\
  (match res with
  |.pv p=>∃W,frz st.h r=some (p,W)
  |.new p=>Na st.h r=some p
  |.box a=>∃k,r=.ptr k 0/\st.h k=some (.box (a.map .pv) true false)
  |.row e sz xs=>∃k,r=.arr k xs.length/\st.h k=some (.row e sz xs 0)
  |.nrow e sz xs=>xs.all kI=true/\∃k,r=.arr k xs.length/\st.h k=some (.row e sz xs 0)
  |.srow pre e sz xs=>∃k,r=.agg (pre.map .pv++[.arr k xs.length])/\st.h k=some (.row e sz xs 0))
def Fin(P:Program)(rs:List ResultVar)(hout:List (List PV))(res:RV):Exit->St->Prop
 |.normal,st=>iK P rs hout res st
 |.ret,st=>iK P rs hout res st
 |_,_=>False
theorem sP(c:bS P g=true)(cap a:Array Value)(w:World):(invoke (.fn (.func g) cap) a).run P w=.ok (.enter g (a++cap)) w:=by
 unfold bS at c
 cases b:P.funcs[g]? with
 |none=>rw[b]at c;cases c
 |some fn=>
  rw[b]at c;simp only[up,ZK,yAb,ne_eq]at c
  have d:fn.body.isNone=false:=by cases e:fn.body<;>simp_all
  simp only[invoke,callFunc,program,Sem.run_bind,Sem.run,Result.andThen_ok,b];simp[c.2,d]
theorem iD{P:Program}{fn:Func}{tmps:Array Value}{R:Ending->World->Prop}{w:World}{v:Value}:∀{ds:List Deferred},jD P ds->(results fn tmps).run P w=.ok v w->R (.returned v) w->Leaves P fn tmps R ds .returning w
 |[],_,b,a=>⟨v,b,a⟩
 |d::ds,hq,b,a=>by
  obtain⟨g,cap,f,c⟩:=hq d (by simp);refine⟨by simp,.func g,cap,g,d.args++cap,f,by rw[f];exact sP c.1 _ _ _,(c.2 _ w).mono ?_⟩;rintro e i k ⟨rfl,⟨j,rfl⟩,rfl⟩;exact iD (λd hd=>hq d (by simp[hd])) b a
def BV(tmps:Array Value):ResultVar->Sem Value
 |.tmp t=>pure (tmps.getD t undef)
 |.cell b t=>do loadVar t (<-asAddr (tmps.getD b undef))
section
variable {C:Cx} {L:Nat->Loc} {st:St} {a:Act} {w:World}
theorem pN(o:MemL C L st.h w)(k:∀n,RepA w (ae C L st.h) L st.h (st.t n) (a.tmps.getD n undef)):∀{rs:List ResultVar}{vs:List AV},m9 C.P st rs=some vs->
 ∃us:List Value,(rs.mapM (BV a.tmps)).run C.P w=.ok us w/\aD w (ae C L st.h) L st.h vs us
 |[],vs,e=>by
  simp only[m9,Za]at e;subst e;exact⟨[],by simp,aD.nil⟩
 |.tmp t::r,vs,e=>by
  simp only[m9,II]at e;obtain⟨x,l,rfl⟩:=e;obtain⟨us,h1,m⟩:=pN o k l;refine⟨a.tmps.getD t undef::us,?_,.cons (k t) m⟩;simp only[List.mapM_cons,BV,Sem.run_bind,Sem.run_pure,Result.andThen_ok,h1]
 |.cell b z::r,vs,e=>by
  simp only[m9]at e;split at e
  .rename_i ti s
   split at e
   .rename_i v x e0 l
    injection e with e;subst e;obtain⟨us,h1,m⟩:=pN o k l;obtain⟨u,c,q⟩:=wG o (λ_ _ h=>h) s (k b) e0;refine⟨u::us,?_,.cons q m⟩
    have d:∃f,a.tmps.getD b undef=.pointer (some f):=by
     unfold Instr.loadAt at c
     cases y:a.tmps.getD b undef with
     |pointer p=>cases p with
      |none=>rw[y]at c;simp[Instr.sureAddr,stuck]at c
      |some f=>exact⟨f,rfl⟩
     |_=>rw[y]at c;simp[Instr.sureAddr,stuck]at c
    obtain⟨f,g⟩:=d;rw[g]at c;have j:(loadVar z f).run C.P w=.ok u w:=c
    have i:(BV a.tmps (.cell b z)).run C.P w=.ok u w:=by simp only[BV,g,asAddr,pure_bind,j]
    simp only[List.mapM_cons,Sem.run_bind,i,Sem.run_pure,Result.andThen_ok,h1]
   .cases e
  .cases e
theorem nN(i:MemL C L st.h w)(j:∀n,RepA w (ae C L st.h) L st.h (st.t n) (a.tmps.getD n undef)){r:AV}(e:mf C.P st fn.results.toList=some r):
 ∃u,(results fn a.tmps).run C.P w=.ok u w/\RepA w (ae C L st.h) L st.h r u:=by
 unfold mf at e
 have key:∀b us,(fn.results.toList.mapM (BV a.tmps)).run C.P w=.ok us w->aD w (ae C L st.h) L st.h b us->
  (results fn a.tmps).run C.P w=.ok (if h:us.toArray.size=1 then us.toArray[0]else .tuple us.toArray) w:=by
  intro b us h1 _;have:results fn a.tmps=(do let b <-fn.results.mapM (BV a.tmps);pure (if h:b.size=1 then b[0]else .tuple b)):=rfl;rw[this,Array.mapM_eq_mapM_toList];simp only[Sem.run_bind,Sem.run_map,h1,Result.andThen_ok];rfl
 split at e
 .rename_i v f
  injection e with e;subst e;obtain⟨us,h1,c⟩:=pN i j f;obtain⟨u,k,rfl,l,hn⟩:=c.cons_inv;have:=hn.nil_inv;subst this
  grind
 .rename_i b d f
  injection e with e;subst e;obtain⟨us,h1,c⟩:=pN i j f;refine⟨.tuple us.toArray,?_,.tup b us c.1 c.2⟩;rw[key _ _ h1 c]
  have:¬us.length=1:=by
   intro g
   cases b with
   |nil=>have:=c.1;simp at this;rw[<-this]at g;simp at g
   |cons v r=>cases r with
    |nil=>exact d v rfl
    |cons=>have:=c.1;simp at this;omega
  simp[this]
 .cases e
end
section
variable {C:Cx} {L:Nat->Loc} {h:Hp} {w:World}
abbrev wP(C:Cx):Nat->Nat->Prop:=λb _=>b<C.w0.heap.size
theorem AJ(f:MemL C L h w)(g:∀{b:Nat},(C.w0.heap.size<=b\/(C.S b/\∀o,¬C.M0 b o))->C.w0.heap.size<=b)(d:RepA w (ae C L h) L h x u)(e:wx h x=some p):Rep w (wP C) p u:=by
 cases x with
 |pv q=>
  simp only[wx]at e;split at e
  .rename_i hq
   injection e with e;subst e
   cases d with
   |pv F=>exact Et hq F
  .cases e
 |arr k n=>
  simp only[wx]at e;split at e
  .rename_i I sz xs D c
   split at e
   .rename_i v
    injection e with e;subst e
    cases d with
    |arr a E G=>
     rw[c]at a;injection a with a;injection a with a1 m r s;subst a1;subst m;subst r;subst s;rw[G v.1];obtain⟨_,_,g3,g4,g5⟩:=f.bl k _ c;unfold Loc.slice
     cases hn:(L k).isNil with
     |true=>rw[g4 hn];exact .sl0 none 0
     |false=>
      obtain⟨a1,m,arr,r,s,H⟩:=g5 hn;have z:=g ((f.own k _ c).row hn);simp only[Y9,Zk];rw[<-v.1];refine .sl xs (L k).b 0 (L k).cap sz (λi j=>(arr[i*sz+j]?).getD undef) a1 (λi x d=>g3 x (An d)) ?_ ?_
      all_goals grind [fU,t8,List.all_eq_true,List.mem_of_getElem?]
   .cases e
  .cases e
 |ext y=>
  cases y with
  |barr=>cases e
  |suf=>cases e
  |mp k=>
   simp only[wx]at e;split at e
   .rename_i kd n es D c
    injection e with e;subst e;obtain⟨arr,clock,A,B⟩:=f.bl k _ c
    cases d with
    |ext l=>cases l with
     |mp _=>
      have J:C.w0.heap.size<=(L k).b:=f.own k _ c;exact .mp kd n es _ arr clock A (λh10=>by have h10:(L k).b<C.w0.heap.size:=h10;omega) B
   .cases e
 |_=>cases e
theorem zg(d:MemL C L h w)(a:∀{b:Nat},(C.w0.heap.size<=b\/(C.S b/\∀o,¬C.M0 b o))->C.w0.heap.size<=b):∀{xs:List AV}{us:List Value}{ps:List PV},aD w (ae C L h) L h xs us->sM h xs=some ps->bp w (wP C) ps us
 |[],us,ps,c,e=>by
  simp only[sM,Za]at e;subst e;rw[c.nil_inv];exact .nil
 |x::r,us,ps,c,e=>by
  simp only[sM]at e;split at e
  .rename_i p k f g
   injection e with e;subst e;obtain⟨u,l,rfl,j,i⟩:=c.cons_inv;exact .cons (AJ d a j f) (zg d a i g)
  .cases e
theorem uV(s:MemL C L h w)(g:∀{b:Nat},(C.w0.heap.size<=b\/(C.S b/\∀o,¬C.M0 b o))->C.w0.heap.size<=b)(a:RepA w (ae C L h) L h x u)(e:BH h x=some p):Rep w (wP C) p u:=by
 unfold BH at e;split at e
 .rename_i k n B
  split at e
  .rename_i cs J E
   split at e
   .rename_i hn
    split at e
    .rename_i d G
     split at e
     .rename_i I
      injection e with e;subst e;obtain⟨arr,K,m,f⟩:=s.bl k _ E;have y:=zg s g f G;have F:C.w0.heap.size<=(L k).b:=g (s.own k _ E)
      have l:d.length=n:=by rw[y.1,<-f.1];exact hn
      have one:∀(i:Nat) x(j:Nat) p,d[i]?=some x->x.cells[j]?=some p->j=0/\p=x:=by
       grind [iC,List.all_eq_true,List.mem_of_getElem?]
      have get:∀(i:Nat) p,d[i]?=some p->∃v,arr[i]?=some v/\Rep w (wP C) p v:=by
       intro i p hp
       have r:i<arr.toList.length:=by rw[<-y.1];exact(th.1 hp).1
       have c:arr.toList[i]?=some (arr.toList[i]):=an r;exact⟨_,by rw[<-Array.getElem?_toList];exact c,y.2 i p _ hp c⟩
      cases a with
      |ext A=>cases A with
       |barr H _=>
        have key:Rep w (wP C) (.sl d) (.slice (some ⟨(L k).b,0,none⟩) d.length B):=by
         refine .sl d (L k).b 0 B 1 (λi _=>(arr[i]?).getD undef) (by omega) (λi x a=>by rw[iC (L4.1 I x (An a))];rfl) ?_ ?_
         .intro i x j p a q
          obtain⟨rfl,rfl⟩:=one i x j p a q;obtain⟨v,c,_⟩:=get i p a;refine⟨by rw[fU m];simp[c],λD=>?_⟩;have D:(L k).b<C.w0.heap.size:=D;omega
         .intro i x j p a q
          obtain⟨rfl,rfl⟩:=one i x j p a q;obtain⟨v,c,z⟩:=get i p a;simp only[c,Zn];exact z
        rw[l]at key;exact key
     .cases e
    .cases e
   .cases e
  .cases e
 grind [AJ]
theorem qN(d:MemL C L h w)(a:∀{b:Nat},(C.w0.heap.size<=b\/(C.S b/\∀o,¬C.M0 b o))->C.w0.heap.size<=b):∀{xs:List AV}{us:List Value}{ps:List PV},aD w (ae C L h) L h xs us->wy h xs=some ps->bp w (wP C) ps us
 |[],us,ps,c,e=>by
  simp only[wy,Za]at e;subst e;rw[c.nil_inv];exact .nil
 |x::r,us,ps,c,e=>by
  simp only[wy]at e;split at e
  .rename_i p k f g
   injection e with e;subst e;obtain⟨u,l,rfl,j,i⟩:=c.cons_inv;exact .cons (uV d a j f) (qN d a i g)
  .cases e
theorem Ex(f:MemL C L h w)(a:∀{b:Nat},(C.w0.heap.size<=b\/(C.S b/\∀o,¬C.M0 b o))->C.w0.heap.size<=b)(D:RepA w (ae C L h) L h x u)(e:Ar h x=some p):Rep w (wP C) p u:=by
 unfold Ar at e;split at e
 .rename_i k
  split at e
  .rename_i cs F g
   split at e
   .rename_i s z
    obtain⟨arr,G,A,c⟩:=f.bl k _ g;have m:=qN f a c z;have l:C.w0.heap.size<=(L k).b:=a (f.own k _ g)
    have key:∀y:PV,y.cells=s->Rep w (wP C) (.rptr y 0) u:=by
     intro y E
     have get:∀(i:Nat) p,y.cells[i]?=some p->∃v,arr[i]?=some v/\Rep w (wP C) p v:=by
      intro i p hp;rw[E]at hp
      have d:i<arr.toList.length:=by rw[<-m.1];exact(th.1 hp).1
      have n:arr.toList[i]?=some (arr.toList[i]):=an d;exact⟨_,by rw[<-Array.getElem?_toList];exact n,m.2 i p _ hp n⟩
     cases D with
     |ptr _=>
      refine .rptr y (L k).b 0 0 (λj=>(arr[j]?).getD undef) (λj p B=>?_) (λj p B=>?_)
      all_goals grind [get,fU]
    split at e
    .rename_i hq
     injection e with e;subst e
     exact key _ (by cases s with
      |nil=>simp[i5]at hq
      |cons q r=>cases r with
       |nil=>simp only[i5]at hq;exact iC hq
       |cons _ _=>simp[i5]at hq)
    grind [ko]
   .cases e
  .cases e
 grind [uV]
theorem vX(d:MemL C L h w)(a:∀{b:Nat},(C.w0.heap.size<=b\/(C.S b/\∀o,¬C.M0 b o))->C.w0.heap.size<=b):∀{xs:List AV}{us:List Value}{ps:List PV},aD w (ae C L h) L h xs us->rj h xs=some ps->bp w (wP C) ps us
 |[],us,ps,c,e=>by
  simp only[rj,Za]at e;subst e;rw[c.nil_inv];exact .nil
 |x::r,us,ps,c,e=>by
  simp only[rj]at e;split at e
  .rename_i p k f g
   injection e with e;subst e;obtain⟨u,l,rfl,j,i⟩:=c.cons_inv;exact .cons (Ex d a j f) (vX d a i g)
  .cases e
theorem Jy(i:MemL C L h w)(c:∀{b:Nat},(C.w0.heap.size<=b\/(C.S b/\∀o,¬C.M0 b o))->C.w0.heap.size<=b)(k:RepA w (ae C L h) L h x u)(e:Na h x=some p):Rep w (wP C) p u:=by
 unfold Na at e;split at e
 .rename_i f first caps
  split at e
  .rename_i j r d m
   injection e with e;subst e
   cases k with
   |fn _ _ _ l us g q h1 n=>
    have a:=qN i c ⟨g,h1⟩ d;have b:=vX i c ⟨q,n⟩ m;exact .fn f j r l us a.1 b.1 a.2 b.2
  .cases e
 .rename_i l
  split at e
  .rename_i j d
   injection e with e;subst e
   cases k with
   |tup _ us g h1=>
    have a:=qN i c ⟨g,h1⟩ d;exact .tup j us a.1 a.2
  .cases e
 grind [uV]
end
theorem yk(hf:P.funcs[f]?=some fn)(l:fn.body=some c)(ad:bS P f=true){args:List Arg}(a6:args.length<=fn.ntmps)
 (b8:hout.length=hin.length)(b5:∀(i j:Nat),args[i]?=some (.bx j)->j<hin.length)
 (h:∀C:Cx,C.P=P->C.N=fn.ntmps->WP C c (Fin P fn.results.toList hout res) (rH args hin)):aW P f args hin hout res:=by
 refine⟨ad,b8,λw M F E hM ar cd I ak U=>?_⟩
 let C:Cx:={P:=P,N:=fn.ntmps,M0:=M,S:=λb=>b∈F,pb:=λk=>if k<1000000 then none else F[k-1000000]?,w0:=w}
 let L:Nat->Loc:=λk=>⟨(F[k-1000000]?).getD 0,0,false⟩
 have X:∀k blk,(rH args hin).h k=some blk->∃i D b,k=pk i/\hin[i]?=some D/\F[i]?=some b/\blk=.box (D.map .pv) false false:=by
  intro k blk a;simp only[rH,o6]at a;split at a
  .cases a
  .rename_i cc
   split at a
   .rename_i D s
    injection a with a
    have g:k-1000000<F.length:=by rw[ar];exact(th.1 s).1
    exact⟨k-1000000,D,F[k-1000000],by unfold pk;omega,s,an g,a.symm⟩
   .cases a
 have R:∀i b,F[i]?=some b->(L (pk i)).b=b:=by
  intro i b l;show(F[pk i-1000000]?).getD 0=b;rw[show pk i-1000000=i from by unfold pk;omega,l];rfl
 have aj:∀b o,ae C L (rH args hin).h b o↔M b o:=by
  intro b o;constructor
  .rintro(h0|⟨k,blk,a,hl,l,hf⟩)
   all_goals grind
  .exact .inl
 have ah:ae C L (rH args hin).h=M:=by funext b o;exact propext (aj b o)
 have b3:dM C (rH args hin) {tmps:=E.toArray++Array.replicate (fn.ntmps-E.toArray.size) undef,defers:=[]} w:=by
  refine⟨L,⟨Ext.refl _ _,hM,?_,?_,?_⟩,by show(E.toArray++Array.replicate (fn.ntmps-E.toArray.size) undef).size=fn.ntmps;simp;omega,jD.nil _,λn=>?_⟩
  .intro k blk a
   obtain⟨i,D,b,rfl,s,l,rfl⟩:=X k blk a;obtain⟨arr,ty,e1,e2⟩:=(I i b D l s).2;refine⟨arr,ty,by rw[R i b l];exact e1,?_⟩
   grind [aD.map_pv]
  .grind [List.getElem?_eq_some_iff,List.getElem_inj]
  .intro k blk a
   obtain⟨i,D,b,rfl,s,l,rfl⟩:=X k blk a;refine⟨rfl,?_,?_,?_,?_⟩
   .rw[R i b l]
    show(if pk i<1000000 then none else F[pk i-1000000]?)=some b;rw[Y6 (by unfold pk;omega),show pk i-1000000=i from by unfold pk;omega,l]
   .grind
   .rw[R i b l];exact hM b 0 ((I i b D l s).1 0)
   grind
  .rw[ah]
   simp only[rH,Ew];split
   .rename_i p hp
    have g:n<E.length:=by rw[<-ak];exact(th.1 hp).1
    have:=U n (.pv p) E[n] hp (an g)
    have K:(E.toArray++Array.replicate (fn.ntmps-E.toArray.size) undef).getD n undef=E[n]:=by
     rw[Ze,ZJ (by simpa using g)];simp[g]
    simp only[K];exact .pv this
   .rename_i j hp
    have g:n<E.length:=by rw[<-ak];exact(th.1 hp).1
    obtain⟨b,l,hv⟩:=U n (.bx j) E[n] hp (an g)
    have K:(E.toArray++Array.replicate (fn.ntmps-E.toArray.size) undef).getD n undef=E[n]:=by
     rw[Ze,ZJ (by simpa using g)];simp[g]
    simp only[K];rw[hv,<-R j b l];have hj:=b5 n j hp;refine .ptr (cs:=(hin[j]).map .pv) (own:=false) (fz:=false) ?_;simp only[o6,Y6 (show¬pk j<1000000 by unfold pk;omega),show pk j-1000000=j from by unfold pk;omega]
    grind
   .exact .undef _
 refine calls_of_wp_defers hf l (wp_mono (h C rfl rfl _ w b3) ?_)
 have V:∀(Z:Act) Q z,dM C z Z Q->iK P fn.results.toList hout res z->jD P Z.defers/\∃v,(results fn Z.tmps).run P Q=.ok v Q/\
  ∃v',Ending.returned v=.returned v'/\Ext (·∈F) w Q/\(∀(i:Nat) b D,F[i]?=some b->hout[i]?=some D->kh Q M b D)/\Az w Q M res v':=by
  rintro Z Q z ⟨H,A,hN,b7,ht⟩ ⟨r,T,ca,m⟩;obtain⟨u,cb,G⟩:=nN (C:=C) A ht T;have B:∀b o,M b o->ae C H z.h b o:=λb o h=>.inl h
  have J:∀{b:Nat},(C.w0.heap.size<=b\/(C.S b/\∀o,¬C.M0 b o))->w.heap.size<=b:=by
   intro b h9;rcases h9 with h9|⟨h9,h10⟩
   .exact h9
   .obtain⟨i,hi⟩:=yAl.1 (show b∈F from h9)
    have g:i<hin.length:=by rw[<-ar];exact(th.1 hi).1
    exact absurd ((I i b hin[i] hi (an g)).1 0) (h10 0)
  refine⟨b7,u,cb,u,rfl,A.ext,?_,?_⟩
  .intro i b D l s
   have a:=ca i D s;obtain⟨arr,ty,e1,e2⟩:=A.bl _ _ a;have q:=A.own _ _ a
   have a8:C.pb (pk i)=some b:=by
    show(if pk i<1000000 then none else F[pk i-1000000]?)=some b;rw[Y6 (by unfold pk;omega),show pk i-1000000=i from by unfold pk;omega,l]
   have b4:(H (pk i)).b=b:=by
    have:=q.2.1;rw[a8]at this;injection this with this;exact this.symm
   rw[b4]at e1;exact⟨arr,ty,e1,e2.map_pv_inv.mono (Pres.sub B)⟩
  .cases res with
   |pv p=>
    obtain⟨W,hW⟩:=m;obtain⟨b1,b2,_⟩:=m8 A (bI.refl _) G hW;exact b2.mono (Pres.sub (λb o h=>.inl h))
   |new p=>exact Jy A J G m
   |box D=>
    obtain⟨k,rfl,a⟩:=m;obtain⟨arr,ty,e1,e2⟩:=A.bl _ _ a;have q:=J (A.own _ _ a)
    cases G with
    |ptr _=>
     refine⟨(H k).b,q,rfl,arr,ty,e1,e2.map_pv_inv.mono (Pres.sub ?_)⟩;rintro b o (h|rfl)
     .exact .inl h
     .exact .inr ⟨k,_,a,trivial,rfl,by simp[Blk.frz]⟩
   |row e sz xs=>
    obtain⟨k,rfl,a⟩:=m;have q:=A.own _ _ a;have l:=A.bl _ _ a
    have y:u=(H k).slice xs.length:=by
     cases G with
     |arr d a7 Y=>
      rw[a]at d;injection d with d;injection d with a1 a2 a3 a4;subst a3;exact Y rfl
    refine⟨H k,y,λhn=>J (q.row hn),?_⟩;obtain⟨c1,c2,c3,c4,c5⟩:=l;refine⟨c1,ZV _,c3,c4,λhn=>?_⟩;obtain⟨d1,d2,arr,d3,d4,d5⟩:=c5 hn;refine⟨d1,d2,arr,d3,d4,λi x j p hx hj=>?_⟩;obtain⟨v,hv,T⟩:=d5 i x j p hx hj;refine⟨v,hv,T.mono (Pres.sub ?_)⟩;rintro b o (h|⟨_,rfl⟩)
    .exact .inl h
    .exact .inr ⟨k,_,a,hn,rfl,by simp[Blk.frz]⟩
   |nrow e sz xs=>
    obtain⟨b9,k,rfl,a⟩:=m;have q:=A.own _ _ a;have l:=A.bl _ _ a
    have y:u=(H k).slice xs.length:=by
     cases G with
     |arr d a7 Y=>
      rw[a]at d;injection d with d;injection d with a1 a2 a3 a4;subst a3;exact Y rfl
    refine⟨b9,H k,y,λhn=>J (q.row hn),?_⟩;obtain⟨c1,c2,c3,c4,c5⟩:=l;refine⟨c1,ZV _,c3,c4,λhn=>?_⟩;obtain⟨d1,d2,arr,d3,d4,d5⟩:=c5 hn;refine⟨d1,d2,arr,d3,d4,λi x j p hx hj=>?_⟩;obtain⟨v,hv,T⟩:=d5 i x j p hx hj;refine⟨v,hv,T.mono (Pres.sub ?_)⟩;rintro b o (h|⟨_,rfl⟩)
    .exact .inl h
    .exact .inr ⟨k,_,a,hn,rfl,by simp[Blk.frz]⟩
   |srow pre e sz xs=>
    obtain⟨k,rfl,a⟩:=m;have q:=A.own _ _ a;have l:=A.bl _ _ a
    cases G with
    |agg _ us hl hh=>
     have a6:us.length=pre.length+1:=by simpa using hl.symm
     have g:pre.length<us.length:=by omega
     have O:=hh pre.length (.arr k xs.length) us[pre.length] (by rw[Zc (by simp)];simp) (an g)
     have y:us[pre.length]=(H k).slice xs.length:=by
      generalize us[pre.length]=u at O
      cases O with
      |arr d a7 Y=>
       rw[a]at d;injection d with d;injection d with a1 a2 a3 a4;subst a3;exact Y rfl
     have B:∀b o,(M b o\/((H k).isNil=false/\b=(H k).b))->ae C H z.h b o:=by
      rintro b o (h|⟨hn,rfl⟩)
      .exact .inl h
      .exact .inr ⟨k,_,a,hn,rfl,by simp[Blk.frz]⟩
     refine⟨H k,us.take pre.length,?_,λhn=>J (q.row hn),⟨by rw[ZP];omega,λi p u hp Y=>?_⟩,?_⟩
     .congr 1
      rw[<-y,<-List.take_succ_eq_append_getElem g,Zw (by omega)]
     .have hi:=(th.1 hp).1
      rw[Zy,Zd hi]at Y;have:=hh i (.pv p) u (by rw[Y8 (by simpa using hi),Y7,hp];rfl) Y
      cases this with
      |pv T=>exact T.mono (Pres.sub B)
     .obtain⟨c1,c2,c3,c4,c5⟩:=l
      refine⟨c1,ZV _,c3,c4,λhn=>?_⟩;obtain⟨d1,d2,arr,d3,d4,d5⟩:=c5 hn;refine⟨d1,d2,arr,d3,d4,λi x j p hx hj=>?_⟩;obtain⟨v,hv,T⟩:=d5 i x j p hx hj;exact⟨v,hv,T.mono (Pres.sub B)⟩
 rintro e Z Q ⟨z,bq,hq⟩
 cases e with
 |normal=>obtain⟨h1,v,h2,h3⟩:=V Z Q z bq hq;exact iD h1 h2 h3
 |ret=>obtain⟨h1,v,h2,h3⟩:=V Z Q z bq hq;exact iD h1 h2 h3
 |exit=>exact hq.elim
 |goto=>exact hq.elim
 |panic=>exact hq.elim
 |outgrown=>exact hq.elim
section
variable {V:Type}
def gF(n:Nat)(wr:Nat->Option V)(x0:V)(ls:Nat->Bool):V:=(List.range n).foldl (λx i=>if ls i=true then(wr i).getD x else x) x0
theorem i7(n:Nat)(wr:Nat->Option V)(x0:V)(ls:Nat->Bool):gF (n+1) wr x0 ls=if ls n=true then(wr n).getD (gF n wr x0 ls)else gF n wr x0 ls:=by
 simp[gF,yAs,yA5]
theorem dm{wr:Nat->Option V}{x0:V}{ls':Nat->Bool}(h:∀j,j<n->(wr j).isSome=true->ls j=ls' j):gF n wr x0 ls=gF n wr x0 ls':=by
 induction n with
 |zero=>rfl
 |succ n ih=>
  rw[i7,i7,ih (λj b=>h j (by omega))]
  cases a:wr n with
  |none=>simp
  |some v=>rw[h n (by omega) (by simp[a])]
theorem qO{wr:Nat->Option V}{x0:V}(hi:i<=n):gF n wr x0 (λj=>decide (j<i))=gF i wr x0 (λ_=>true):=by
 induction n with
 |zero=>have:i=0:=by omega
        subst this;rfl
 |succ n ih=>
  by_cases e:i=n+1
  .subst e
   refine(dm (λj a _=>?_));simpa using a
  .rw[i7,ih (by omega)]
   have:¬n<i:=by omega
   simp[this]
theorem pO{wr:Nat->Option V}{x0:V}(hi:i<n)(a:(wr i).isSome=true->∀j,i<j->j<n->(wr j).isSome=true->ls j=false):
 gF n wr x0 (λj=>ls j||j==i)=(wr i).getD (gF n wr x0 ls):=by
 cases c:wr i with
 |none=>
  simp only[Option.getD_none];refine dm (λj _ g=>?_)
  have:j≠i:=λe=>by rw[e,c]at g;cases g
  simp[this]
 |some v=>
  simp only[Zn];have k:=a (by simp[c]);clear a
  induction n with
  |zero=>omega
  |succ n ih=>
   rw[i7];by_cases e:n=i
   .subst e;simp[c]
   .have f:=ih (by omega) (λj h1 l=>k j h1 (by omega))
    rw[f]
    have b:(n==i)=false:=by simpa using e
    simp only[b,Bool.or_false]
    cases d:wr n with
    |none=>simp
    |some u=>rw[k n (by omega) (by omega) (by simp[d])];simp
end
def iE(ops:Array Oper)(i j:Nat):Prop:=∃o,ops[j]?=some o/\∃e∈o.after.toList,Region.binds .any e=true/\e.on=i
inductive Pre(ops:Array Oper):Nat->Nat->Prop
 |one {i j:Nat} (h:iE ops i j):Pre ops i j
 |step {i q j:Nat} (h:Pre ops i q) (h':iE ops q j):Pre ops i j
def Ey(acc:List Nat)(es:List Edge):Nat:=es.foldl (λs e=>if Region.binds .any e=true then s ||| 2^e.on ||| acc.getD e.on 0 else s) 0
def gG:List Oper->List Nat->List Nat
 |[],acc=>acc
 |o::r,acc=>gG r (acc++[Ey acc o.after.toList])
theorem AK{acc:List Nat}{i:Nat}:∀(es:List Edge)(s:Nat),(es.foldl (λs e=>if Region.binds .any e=true then s ||| 2^e.on ||| acc.getD e.on 0 else s) s).testBit i=true->
 s.testBit i=true\/∃e∈es,Region.binds .any e=true/\(e.on=i\/(acc.getD e.on 0).testBit i=true)
 |[],s,h=>.inl h
 |e::es,s,h=>by
  simp only[yAv]at h;rcases AK es _ h with a|⟨d,c,b,f⟩
  .split at a
   .rename_i b
    rw[Nat.testBit_or,Nat.testBit_or,ZX,ZX]at a;rcases a with(a|a)|a
    .exact .inl a
    .refine .inr ⟨e,by simp,b,.inl ?_⟩
     rw[Nat.testBit_two_pow]at a;simpa using a
    .exact .inr ⟨e,by simp,b,.inr a⟩
   .exact .inl a
  .exact .inr ⟨d,by simp[c],b,f⟩
theorem nO{ops:Array Oper}:∀{l:List Oper}{acc:List Nat},(∀j,l[j]?=ops[acc.length+j]?)->(∀i j,(acc.getD j 0).testBit i=true->Pre ops i j)->
 ∀i j,((gG l acc).getD j 0).testBit i=true->Pre ops i j
 |[],acc,_,h,i,j,a=>h i j a
 |o::l,acc,k,h,i,j,a=>by
  refine nO (l:=l) (acc:=acc++[Ey acc o.after.toList]) (λj=>?_) ?_ i j a
  .have:=k (j+1)
   simp only[yA1]at this;rw[this];congr 1;simp;omega
  .intro i j a
   by_cases n:j<acc.length
   .refine h i j ?_
    rwa [yAQ,Y8 n,<-List.getD_eq_getElem?_getD]at a
   .by_cases c:j=acc.length
    .subst c
     rw[yAQ,Zc (by omega)]at a;simp only[yAR,yAj,Zn,Ey]at a
     have f:ops[acc.length]?=some o:=by have:=k 0;simpa using this.symm
     rcases AK _ _ a with m|⟨e,g,b,d⟩
     .simp at m
     .rcases d with rfl|d
      .exact .one ⟨o,f,e,g,b,rfl⟩
      .exact .step (h i e.on d) ⟨o,f,e,g,b,rfl⟩
    .rw[yAQ,Zh (by simp;omega)]at a
     simp at a
def Ez(xs:List Operand):List Nat:=xs.filterMap λ|.tmp t=>some t|_=>none
def pY(ops:Array Oper)(o:Oper):List Nat:=Ez o.op.operands.toList++(match o.guard with|some (j,_)=>((ops[j]?).bind (·.dst)).toList|none=>[])
def kP(ops:Array Oper)(x y:Oper):Bool:=
 (match x.dst with|some r=>(pY ops y).contains r||y.dst==some r|none=>false)||(match y.dst with|some r=>(pY ops x).contains r|none=>false)
def Jz(ops:Array Oper):Bool:=(List.range ops.size).all λj=>match ops[j]? with
 |some o=>o.after.toList.all λe=>!Region.binds .any e||decide (e.on<j)
 |none=>true
def fG(ops:Array Oper):Bool:=
 let a:=gG ops.toList []
 Jz ops&&(List.range ops.size).all λj=>(List.range j).all λi=>match ops[i]?,ops[j]? with
  |some x,some y=>!kP ops x y||(a.getD j 0).testBit i
  |_,_=>true
def GW:Op->Bool
 |.lookup ..|.mapUpdate ..|.load ..|.store ..|.alloc _|.box ..|.build ..|.buildSlice ..|.indexAddr ..|.fieldAddr ..|.makeSlice ..|.call _|.assign _|.makeInterface ..=>true
 |_=>false
def yn(h:Hp)(k:Nat):List Nat:=match h k with
 |some (.box cs _ _)=>cs.flatMap mH
 |_=>[]
def GX(h:Hp):AV->List Nat
 |.ptr k _=>yn h k
 |_=>[]
def Nc(h:Hp):AV->List Nat
 |.fn _ _ caps=>let b:=caps.flatMap (GX h);b++b.flatMap (yn h)
 |.ext (.barr k _ _)=>yn h k
 |_=>[]
def JA:Op->Bool
 |.call _=>true
 |_=>false
def lU(o:Oper)(ρ:Operand->AV)(h:Hp):List Nat:=(if GW o.op then o.op.operands.toList.flatMap λx=>PF (ρ x)else[])++((if JA o.op then o.op.operands.toList.flatMap λx=>Nc h (ρ x)else[])++o.dst.toList)
def bz(K:List Nat)(h:Hp):Hp:=λk=>if K.contains k=true then h k else none
abbrev nP:=List (List Nat×List Nat)
def EB(a b:List Nat):Bool:=a.all λx=>!b.contains x
def gS(a:List Nat)(acc:nP):Bool:=
 (List.range acc.length).all λj=>(List.range j).all λi=>match acc[i]?,acc[j]? with
   |some (W,K),some (c,b)=>(EB W b&&EB c K)||(a.getD j 0).testBit i
   |_,_=>true
def jS(P:Program)(hn:List Nat)(N:Nat)(ops:Array Oper)(Q:nP->St->Prop):List Oper->nP->St->Prop
 |[],acc,st=>Q acc st
 |o::rest,acc,st=>dI N o.dst=true/\(match kJ ops st.t o.guard with
   |some none=>tZ P hn o st.ev (bz (lU o st.ev st.h) st.h) (λe=>(e.2.all λc=>(lU o st.ev st.h).contains c.1)=true/\jS P hn N ops Q rest (acc++[(e.2.map (·.1),lU o st.ev st.h)]) (st.put o.dst e.1 e.2))
   |some (some (d,b,want))=>y7 b d st (λf a=>if f=want then tZ P hn o a.ev (bz (lU o a.ev a.h) a.h) (λe=>(e.2.all λc=>(lU o a.ev a.h).contains c.1)=true/\jS P hn N ops Q rest (acc++[(e.2.map (·.1),lU o a.ev a.h)]) (a.put o.dst e.1 e.2))
    else jS P hn N ops Q rest (acc++[([],[])]) (a.put o.dst (.pv (.val (.tuple #[]))) []))
   |none=>False)
theorem CX{c:AV}{d:Option Nat}(e:gc P c args d h K):∃a,gc P c args d h (λx=>x=a)/\K a:=by
 unfold gc at e|-;split at e
 .exact e.elim
 .split at e
  .exact e.elim
  .split at e
   .exact e.elim
   .rename_i hd
    split at e
    .exact e.elim
    .obtain⟨hout,res,b,f⟩:=e
     unfold iA at f;split at f
     .rename_i e0 g
      refine⟨e0,?_,f⟩;simp only[hd];exact⟨hout,res,b,by unfold iA;simp only[g]⟩
     .exact f.elim
theorem JB(e:tZ P hn o ρ h K):∃a,tZ P hn o ρ h (λx=>x=a)/\K a:=by
 have hp:iA (du P hn o ρ h) K->∃a,iA (du P hn o ρ h) (λx=>x=a)/\K a:=by
  intro e;unfold iA at e|-;split at e
  .rename_i a _;exact⟨a,rfl,e⟩
  .exact e.elim
 unfold tZ at e|-;split at e
 .split at e
  .rename_i c d f b
   exact CX e
  .exact CX e
  .exact hp e
 .exact hp e
theorem nQ(c:∀cs b,o.op≠.select cs b)(h:∀x∈o.op.operands,ρ x=ρ' x):aU P o ρ=aU P o ρ':=by
 unfold aU
 have h1:(o.op.operands.toList.all λx=>(er (ρ x)).isSome)=(o.op.operands.toList.all λx=>(er (ρ' x)).isSome):=by
  rw[Bool.eq_iff_iff,L4,L4];constructor
  .intro d x a;rw[<-h x (by simpa using a)];exact d x a
  .intro d x a;rw[h x (by simpa using a)];exact d x a
 have e:execOp (λx=>qM (ρ x)) o=execOp (λx=>qM (ρ' x)) o:=execOp_congr o c (λx a=>by simp only[h x a]);rw[h1,e]
structure Ef where
 d:Option Nat
 v:AV
 W:List (Nat×Blk)
 K:List Nat
 deriving Inhabited
def run(fs:List Ef)(st:St):St:=fs.foldl (λs f=>s.put f.d f.v f.W) st
def o7(P:Program)(o:Oper)(ρ:Operand->AV)(f:Hp)(v:AV)(W:List (Nat×Blk)):Prop:=
 ∀(C:Cx)(L:Nat->Loc)(h:Hp)(w:World)(a:Act),C.P=P->MemL C L h w->(∀k b,f k=some b->h k=some b)->(∀d,o.dst=some d->f d=h d/\d<2000000)->
  (∀x∈o.op.operands,RepA w (ae C L h) L h (ρ x) (a.eval x))->∀(next:Act->World->Prop)(Q:Exit->Act->World->Prop),
  (∀u e c,aH C L h w c (ai h W) e->RepA e (ae C c (ai h W)) c (ai h W) v u->next (a.put o.dst u) e)->o.wp C.P a w next Q
theorem GY{c:Hp}{v:AV}(e:tZ P hn o ρ c (λx=>x=(v,W))):o7 P o ρ c v W:=by
 intro C L h w a hP j k hf m next Q b
 subst hP;refine Eu j k hf m e (λf u n d i g l=>?_);subst i;exact b u n d g l
theorem o7.congr{d:Hp}{v:AV}(i:∀x∈o.op.operands,ρ x=ρ' x)(h:o7 P o ρ d v W):o7 P o ρ' d v W:=by
 intro C L e w a hP f g hf j next Q b
 exact h C L e w a hP f g hf (λx c=>by rw[i x c];exact j x c) next Q b
def pZ(P:Program)(hn:List Nat)(N:Nat)(ops:Array Oper)(o:Oper)(st:St)(f:Ef):Prop:=
 dI N o.dst=true/\f.d=o.dst/\
  ((eC ops st.t o.guard=some true/\(∀d,o.dst=some d->f.K.contains d=true)/\o7 P o st.ev (bz f.K st.h) f.v f.W/\(f.W.all λa=>f.K.contains a.1)=true)\/
   (eC ops st.t o.guard=some false/\f.v=.pv (.val (.tuple #[]))/\f.W=[]/\f.K=[]))
theorem yp{P:Program}{hn:List Nat}{N:Nat}{ops:Array Oper}{Q:nP->St->Prop}:∀{l:List Oper}{acc:nP}{st:St},jS P hn N ops Q l acc st->
 ∃fs:List Ef,fs.length=l.length/\(∀(i:Nat) o f,l[i]?=some o->fs[i]?=some f->pZ P hn N ops o (run (fs.take i) st) f)/\Q (acc++fs.map λf=>(f.W.map (·.1),f.K)) (run fs st)
 |[],acc,st,e=>⟨[],rfl,λi o f h=>by simp at h,by simpa[jS,run]using e⟩
 |o::l,acc,st,e=>by
  simp only[jS]at e;obtain⟨hd,e⟩:=e
  have j:∀(f:Ef),pZ P hn N ops o st f->jS P hn N ops Q l (acc++[(f.W.map (·.1),f.K)]) (st.put f.d f.v f.W)->
   ∃fs:List Ef,fs.length=(o::l).length/\(∀(i:Nat) q n,(o::l)[i]?=some q->fs[i]?=some n->pZ P hn N ops q (run (fs.take i) st) n)/\Q (acc++fs.map λf=>(f.W.map (·.1),f.K)) (run fs st):=by
   intro f hf a;obtain⟨fs,h1,y,z⟩:=yp a;refine⟨f::fs,by simp[h1],λi q n x m=>?_,?_⟩
   .cases i with
    |zero=>simp at x m;subst x;subst m;exact hf
    |succ i=>exact y i q n (by simpa using x) (by simpa using m)
   .simpa[run,yAd]using z
  split at e
  .rename_i p
   obtain⟨c,r,g,a⟩:=JB e;exact j ⟨o.dst,c.1,c.2,lU o st.ev st.h⟩ ⟨hd,rfl,.inl ⟨pM p,λd k=>by simp[lU,k],GY r,g⟩⟩ a
  .rename_i d b want p
   unfold y7 at e;simp only at e;split at e
   .rename_i u
    subst u;obtain⟨c,r,g,a⟩:=JB e;exact j ⟨o.dst,c.1,c.2,lU o st.ev st.h⟩ ⟨hd,rfl,.inl ⟨(me p).trans (by simp),λd k=>by simp[lU,k],GY r,g⟩⟩ a
   .rename_i s
    exact j ⟨o.dst,.pv (.val (.tuple #[])),[],[]⟩ ⟨hd,rfl,.inr ⟨(me p).trans (by simpa using s),rfl,rfl,rfl⟩⟩ e
  .exact e.elim
def iM(W:List (Nat×Blk))(k:Nat):Option (Option Blk):=W.foldl (λx a=>if k=a.1 then some (some a.2)else x) none
theorem qQ(k:Nat):∀(W:List (Nat×Blk))(x:Option (Option Blk)),W.foldl (λx a=>if k=a.1 then some (some a.2)else x) x=(match iM W k with|some y=>some y|none=>x)
 |[],x=>by simp[iM]
 |a::W,x=>by
  simp only[yAv,iM];rw[qQ k W (if k=a.1 then some (some a.2)else x),qQ k W (if k=a.1 then some (some a.2)else none)]
  cases iM W k with
  |some y=>rfl
  |none=>simp only;split<;>rfl
theorem pP(k:Nat):∀(W:List (Nat×Blk))(h:Hp),ai h W k=(iM W k).getD (h k)
 |[],h=>rfl
 |a::W,h=>by
  show ai (av h a.1 (some a.2)) W k=_;rw[pP k W]
  have b:iM (a::W) k=(match iM W k with|some y=>some y|none=>if k=a.1 then some (some a.2)else none):=by
   conv=>lhs;unfold iM
   rw[yAv,qQ k W (if k=a.1 then some (some a.2)else none)]
  rw[b]
  cases iM W k with
  |some y=>rfl
  |none=>simp only[Option.getD_none,av];split<;>rfl
theorem wQ{k:Nat}:∀{W:List (Nat×Blk)},(iM W k).isSome=true->k∈W.map (·.1)
 |[],h=>by simp[iM]at h
 |kb::W,h=>by
  simp only[iM,yAv]at h;rw[qQ k W (if k=kb.1 then some (some kb.2)else none)]at h;by_cases e:k=kb.1
  .simp[e]
  .rw[Y6 e]at h
   have:(iM W k).isSome=true:=by cases a:iM W k<;>simp_all
   have:=wQ this;simp at this|-;exact .inr this
section
variable (fs:List Ef)
def sQ(r i:Nat):Option AV:=match fs[i]? with
 |some f=>if f.d=some r then some f.v else none
 |none=>none
def sR(k i:Nat):Option (Option Blk):=match fs[i]? with
 |some f=>iM f.W k
 |none=>none
def dU(n:Nat)(st:St)(ls:Nat->Bool):St:=⟨λr=>gF n (sQ fs r) (st.t r) ls,λk=>gF n (sR fs k) (st.h k) ls⟩
theorem nR(st:St):∀i,i<=fs.length->∀r,(run (fs.take i) st).t r=gF i (sQ fs r) (st.t r) (λ_=>true)
 |0,_,r=>by simp[run,gF]
 |i+1,hi,r=>by
  have a:i<fs.length:=by omega
  rw[ZR a,i7];simp only[run,yA5,yAv,List.foldl_nil,Zp];have ih:=nR st i (by omega) r;rw[run]at ih
  have b:sQ fs r i=if fs[i].d=some r then some fs[i].v else none:=by simp[sQ,an a]
  rw[b,<-ih]
  cases hd:fs[i].d with
  |none=>simp[St.put]
  |some d=>
   simp only[St.put,av,Za];by_cases e:d=r
   .subst e;simp
   .rw[Y6 (λh=>e h.symm),Y6 e];rfl
theorem nS(st:St):∀i,i<=fs.length->∀k,(run (fs.take i) st).h k=gF i (sR fs k) (st.h k) (λ_=>true)
 |0,_,r=>by simp[run,gF]
 |i+1,hi,r=>by
  have a:i<fs.length:=by omega
  rw[ZR a,i7];simp only[run,yA5,yAv,List.foldl_nil,Zp];have ih:=nS st i (by omega) r;rw[run]at ih
  have b:sR fs r i=iM fs[i].W r:=by simp[sR,an a]
  rw[b,<-ih];simp only[St.put];exact pP r _ _
end
section
variable {C:Cx} {hn:List Nat} {ops:Array Oper} {fs:List Ef} {st:St}
def aC(a:Array Bool):Nat->Bool:=λi=>a.getD i true
theorem nT(a:∀i j,iE ops i j->ls j=true->ls i=true)(h:Pre ops i j):ls j=true->ls i=true:=by
 induction h with
 |one h=>exact a _ _ h
 |step _ b ih=>exact λc=>ih (a _ _ b c)
theorem lz(hs:fG ops=true){x y:Oper}(b:i<j)(f:ops[i]?=some x)(c:ops[j]?=some y)(d:kP ops x y=true):Pre ops i j:=by
 simp only[fG,up]at hs;have e:j<ops.size:=(ZE.1 c).1;have h1:=L4.1 hs.2 j (ZL.2 e);have a:=L4.1 h1 i (ZL.2 b);rw[f,c]at a;simp only[d,yAC,Bool.false_or]at a;exact nO (l:=ops.toList) (acc:=[]) (λj=>by simp) (λi j h=>by simp at h) i j a
theorem nc{acc:nP}(hs:gS (gG ops.toList []) acc=true){W K f e:List Nat}(d:i<j)(o:acc[i]?=some (W,K))(g:acc[j]?=some (f,e))(m:∃k,(k∈W/\k∈e)\/(k∈f/\k∈K)):Pre ops i j:=by
 have n:j<acc.length:=(th.1 g).1;have h1:=L4.1 hs j (ZL.2 n);have c:=L4.1 h1 i (ZL.2 d);rw[o,g]at c;simp only[ZX,up]at c;rcases c with⟨d1,d2⟩|c
 .obtain⟨k,⟨a,b⟩|⟨a,b⟩⟩:=m
  .have:=L4.1 d1 k a
   simp at this;exact absurd b this
  .have:=L4.1 d2 k a
   simp at this;exact absurd b this
 .exact nO (l:=ops.toList) (acc:=[]) (λj=>by simp) (λi j h=>by simp at h) i j c
theorem il(hs:fG ops=true)(h:iE ops i j):i<j:=by
 simp only[fG,up]at hs;obtain⟨o,a,e,d,c,rfl⟩:=h;have h1:=L4.1 hs.1 j (ZL.2 (ZE.1 a).1);rw[a]at h1;have b:=L4.1 h1 e d;simpa[c]using b
theorem bW{a:Array Bool}:i∈Region.ready .any ops a↔i<ops.size/\aC a i=false/\∀q,iE ops q i->a.getD q false=true:=by
 unfold Region.ready aC;rw[yAa,ZL];constructor
 .rintro⟨h1,b⟩
  simp only[up,ZK]at b;refine⟨h1,b.1,?_⟩;rintro q ⟨o,d,e,g,f,rfl⟩;have c:=b.2;rw[d]at c;simp only[ZS,Zn,Array.all_eq_true_iff_forall_mem]at c;have:=c e (by simpa using g);simpa[f]using this
 .rintro⟨h1,b,c⟩
  refine⟨h1,?_⟩;simp only[up,ZK];refine⟨b,?_⟩;have d:ops[i]?=some ops[i]:=ZN h1;rw[d];simp only[ZS,Zn,Array.all_eq_true_iff_forall_mem];intro e g
  cases f:Region.binds .any e with
  |false=>simp
  |true=>simp[c e.on ⟨_,d,e,by simpa using g,f,rfl⟩]
theorem EC(z:fG ops=true)(ca:fs.length=ops.size)(T:∀(i:Nat) o f,ops[i]?=some o->fs[i]?=some f->pZ C.P hn C.N ops o (run (fs.take i) st) f)
 (O:gS (gG ops.toList []) (fs.map λf=>(f.W.map (·.1),f.K))=true){Q':Exit->Act->World->Prop}(hQ:∀a w,dM C (run fs st) a w->Q' .normal a w):
 ∀(fuel:Nat)(c:Array Bool)(a:Act)(w:World),c.size=ops.size->((List.range ops.size).filter λj=>!aC c j).length<=fuel->(∀i j,iE ops i j->aC c j=true->aC c i=true)->
  dM C (dU fs ops.size st (aC c)) a w->wpAny C.P .any ops Q' fuel c a w:=by
 have G:∀c:Array Bool,Region.ready .any ops c=[]->c.size=ops.size->∀j,j<ops.size->aC c j=true:=by
  intro c U B j
  induction j using Nat.strongRecOn with
  |_ j ih=>
   intro l
   cases hl:aC c j with
   |true=>rfl
   |false=>
    have:j∈Region.ready .any ops c:=bW.2 ⟨l,hl,λq hq=>by
     have cq:=il z hq;have:=ih q cq (by omega);unfold aC at this;rw[Ze]at this|-;rw[ZN (by omega)]at this|-
     simpa using this⟩
    rw[U]at this;cases this
 have ad:∀(c:Array Bool) a w,Region.ready .any ops c=[]->c.size=ops.size->dM C (dU fs ops.size st (aC c)) a w->Q' .normal a w:=by
  intro c a w U B D;apply hQ;have hl:=G c U B
  have:dU fs ops.size st (aC c)=run fs st:=by
   have ht:run fs st=run (fs.take ops.size) st:=by rw[Zw (by omega)]
   rw[ht]
   have h1:(dU fs ops.size st (aC c)).t=(run (fs.take ops.size) st).t:=by
    funext r;rw[nR fs st _ (by omega)];exact dm (λj l _=>hl j l)
   have F:(dU fs ops.size st (aC c)).h=(run (fs.take ops.size) st).h:=by
    funext r;rw[nS fs st _ (by omega)];exact dm (λj l _=>hl j l)
   cases hA:dU fs ops.size st (aC c);cases hB:run (fs.take ops.size) st;rw[hA,hB]at h1 F;simp at h1 F;rw[h1,F]
  rw[<-this];exact D
 intro fuel
 induction fuel with
 |zero=>
  intro c a w B b4 V D
  have Z:Region.ready .any ops c=[]:=by
   cases U:Region.ready .any ops c with
   |nil=>rfl
   |cons i r=>
    have hi:i∈Region.ready .any ops c:=by rw[U];simp
    obtain⟨h1,F,_⟩:=bW.1 hi;have:i∈(List.range ops.size).filter λj=>!aC c j:=yAa.2 ⟨ZL.2 h1,by simp[F]⟩;have cc:((List.range ops.size).filter λj=>!aC c j)=[]:=ZC (by omega);rw[cc]at this;cases this
  exact⟨Z,ad c a w Z B D⟩
 |succ fuel ih=>
  intro c a w B b4 V D;refine⟨λU=>ad c a w U B D,λi hi=>?_⟩;obtain⟨hin,Q,b7⟩:=bW.1 hi;have ho:ops[i]?=some ops[i]:=ZN hin;have hf:fs[i]?=some (fs[i]'(by omega)):=an _;generalize ops[i]=o at ho;generalize fs[i]'(by omega)=f at hf;obtain⟨I,b9,H⟩:=T i o f ho hf
  have y:∀q,Pre ops q i->aC c q=true:=by
   intro q hq
   have hd:∀q,iE ops q i->aC c q=true:=by
    intro q hq;have cu:=il z hq;have:=b7 q hq;unfold aC;rw[Ze]at this|-;rw[ZN (by omega)]at this|-;simpa using this
   cases hq with
   |one h=>exact hd q h
   |step h h'=>exact nT V h (hd _ h')
  have s:∀q,Pre ops i q->aC c q=false:=by
   intro q hq
   cases cp:aC c q with
   |false=>rfl
   |true=>rw[nT V hq cp]at Q;cases Q
  have ak:∀j r,(sQ fs r j).isSome=true->∃oj A,ops[j]?=some oj/\fs[j]?=some A/\oj.dst=some r:=by
   intro j r l;unfold sQ at l;split at l
   .rename_i A p
    split at l
    .rename_i hd
     have cn:j<ops.size:=by rw[<-ca];exact(th.1 p).1
     have E:ops[j]?=some ops[j]:=ZN cn;obtain⟨_,F,_⟩:=T j _ A E p;exact⟨_,A,E,p,by rw[<-F];exact hd⟩
    .cases l
   .cases l
  have a8:∀j k,(sR fs k j).isSome=true->∃A,fs[j]?=some A/\k∈A.W.map (·.1):=by
   intro j k l;unfold sR at l;split at l
   .rename_i A p;exact⟨A,p,wQ l⟩
   .cases l
  have g:∀(j:Nat)(A:Ef),fs[j]?=some A->(fs.map λf=>(f.W.map (·.1),f.K))[j]?=some (A.W.map (·.1),A.K):=λj A h=>by simp[h]
  have Y:∀r∈pY ops o,(dU fs ops.size st (aC c)).t r=(run (fs.take i) st).t r:=by
   intro r U;rw[nR fs st i (by omega),<-qO (n:=ops.size) (by omega)];refine dm (λj l hw=>?_);obtain⟨oj,A,E,p,hd⟩:=ak j r hw;rcases yAK j i with R|rfl|ar
   .rw[y j (lz z R E ho (by simp[kP,hd,U]))];simp[R]
   .rw[Q];simp
   .rw[s j (lz z ar ho E (by simp[kP,hd,U]))]
    have:¬j<i:=by omega
    simp[this]
  have b3:∀k∈f.K,(dU fs ops.size st (aC c)).h k=(run (fs.take i) st).h k:=by
   intro k M;rw[nS fs st i (by omega),<-qO (n:=ops.size) (by omega)];refine dm (λj l hw=>?_);obtain⟨A,p,hd⟩:=a8 j k hw;rcases yAK j i with R|rfl|ar
   .rw[y j (nc O R (g j A p) (g i f hf) ⟨k,.inl ⟨hd,M⟩⟩)];simp[R]
   .rw[Q];simp
   .rw[s j (nc O ar (g i f hf) (g j A p) ⟨k,.inr ⟨hd,M⟩⟩)]
    have:¬j<i:=by omega
    simp[this]
  have ch:∀k,k∈f.W.map (·.1)->k∈f.K:=by
   intro k M;obtain⟨kb,a7,rfl⟩:=Zv.1 M;rcases H with⟨_,_,_,G⟩|⟨_,_,hW,_⟩
   .have:=L4.1 G kb a7;simpa using this
   .rw[hW]at a7;cases a7
  have lT:dU fs ops.size st (aC (c.setIfInBounds i true))=(dU fs ops.size st (aC c)).put f.d f.v f.W:=by
   have cb:∀j,j<ops.size->aC (c.setIfInBounds i true) j=(aC c j||j==i):=by
    intro j l;unfold aC;by_cases e:j=i
    .subst e;simp[Ze,B,l]
    .have h1:(j==i)=false:=by simpa using e
     rw[h1,Bool.or_false,Ze,Ze,ZZ (by omega)]
   have h1:(dU fs ops.size st (aC (c.setIfInBounds i true))).t=((dU fs ops.size st (aC c)).put f.d f.v f.W).t:=by
    funext r
    show gF ops.size (sQ fs r) (st.t r) (aC (c.setIfInBounds i true))=_;rw[dm (λj l _=>cb j l),pO hin ?_]
    .have hw:sQ fs r i=if f.d=some r then some f.v else none:=by simp[sQ,hf]
     rw[hw]
     cases hd:f.d with
     |none=>simp[St.put,dU]
     |some d=>
      simp only[St.put,av,Za];by_cases e:d=r
      .subst e;simp
      .rw[Y6 e,Y6 (λh=>e h.symm)];rfl
    .intro bq j a6 l b2
     obtain⟨oi,fi,X,J,aj⟩:=ak i r bq;obtain⟨oj,A,E,p,hd⟩:=ak j r b2;rw[ho]at X;injection X with X;subst X;exact s j (lz z a6 ho E (by simp[kP,aj,hd]))
   have F:(dU fs ops.size st (aC (c.setIfInBounds i true))).h=((dU fs ops.size st (aC c)).put f.d f.v f.W).h:=by
    funext k
    show gF ops.size (sR fs k) (st.h k) (aC (c.setIfInBounds i true))=_;rw[dm (λj l _=>cb j l),pO hin ?_]
    .have hw:sR fs k i=iM f.W k:=by simp[sR,hf]
     rw[hw];simp only[St.put];exact(pP k f.W (dU fs ops.size st (aC c)).h).symm
    .intro bq j a6 l b2
     obtain⟨fi,J,aj⟩:=a8 i k bq;obtain⟨A,p,hd⟩:=a8 j k b2;rw[hf]at J;injection J with J;subst J;exact s j (nc O a6 (g i f hf) (g j A p) ⟨k,.inr ⟨hd,ch k aj⟩⟩)
   cases hA:dU fs ops.size st (aC (c.setIfInBounds i true));cases hB:(dU fs ops.size st (aC c)).put f.d f.v f.W;rw[hA,hB]at h1 F;simp at h1 F;rw[h1,F]
  have S:∀a' w',dM C ((dU fs ops.size st (aC c)).put f.d f.v f.W) a' w'->wpAny C.P .any ops Q' fuel (c.setIfInBounds i true) a' w':=by
   intro a' w' cr;refine ih (c.setIfInBounds i true) a' w' (by simp[B]) ?_ ?_ (by rw[lT];exact cr)
   .have ct:((List.range ops.size).filter λj=>!aC (c.setIfInBounds i true) j).length<((List.range ops.size).filter λj=>!aC c j).length:=by
     have ck:((List.range ops.size).filter λj=>!aC (c.setIfInBounds i true) j)=((List.range ops.size).filter λj=>!aC c j).filter λj=>!(j==i):=by
      rw[List.filter_filter];refine List.filter_congr (λj l=>?_);have cm:=ZL.1 l;unfold aC;by_cases e:j=i
      .subst e;simp[Ze,B,cm]
      .have h1:(j==i)=false:=by simpa using e
       rw[h1,Ze,Ze,ZZ (by omega)];simp
     rw[ck];refine List.length_filter_lt_length_iff_exists.2 ⟨i,yAa.2 ⟨ZL.2 hin,by simp[Q]⟩,by simp⟩
    omega
   .intro q j hd l
    have cg:∀m,aC (c.setIfInBounds i true) m=true↔(aC c m=true\/m=i):=by
     intro m;unfold aC;by_cases e:m=i
     .subst e;simp[Ze,B,hin]
     .rw[Ze,Ze,ZZ (by omega)];simp[e]
    rw[cg]at l|-;rcases l with l|rfl
    .exact .inl (V q j hd l)
    .exact .inl (y q (.one hd))
  obtain⟨L,hm,hN,b5,ht⟩:=D
  have hgd:eC ops (dU fs ops.size st (aC c)).t o.guard=eC ops (run (fs.take i) st).t o.guard:=by
   unfold eC;split
   .rfl
   .rename_i j want hg
    split
    .rename_i d hd
     rw[Y d (by simp[pY,hg,hd])]
    .rfl
  unfold wpOp;rw[ho];simp only;rcases H with⟨hg,hK,b8,cj⟩|⟨hg,hv,hW,_⟩
  .rw[dB ht (hgd.trans hg)]
   rw[Zd rfl];refine .inl ?_
   have cd:∀x∈o.op.operands,(run (fs.take i) st).ev x=(dU fs ops.size st (aC c)).ev x:=by
    intro x hx
    cases x with
    |tmp t=>
     refine(Y t ?_).symm;simp only[pY,Ez,Zm,List.mem_filterMap];exact .inl ⟨.tmp t,by simpa using hx,rfl⟩
    |_=>rfl
   have cf:bz f.K (run (fs.take i) st).h=bz f.K (dU fs ops.size st (aC c)).h:=by
    funext k
    unfold bz;split
    .rename_i M;exact(b3 k (by simpa using M)).symm
    .rfl
   rw[cf]at b8;refine o7.congr cd b8 C L _ w a rfl hm ?_ ?_ (λx _=>bE ht x) _ _ (λu w' L' hA hv=>?_)
   .intro k b M;unfold bz at M;split at M
    .exact M
    .cases M
   .intro d hd
    unfold bz;rw[Zd (hK d hd)];refine⟨rfl,?_⟩;have ah:=I;rw[hd]at ah;simp only[dI,up,Is]at ah;exact ah.2
   .refine S _ _ ?_
    rw[b9];exact dM.put hm hN b5 ht I hA hv
  .rw[dB ht (hgd.trans hg)]
   simp only[Y9,Zk];refine S _ _ ?_;rw[b9,hv,hW];exact dM.put hm hN b5 ht I (W:=[]) (aH.refl hm) (.pv (.val _))
theorem WP.drawF(k:C.P.follows .mixedOrders=true)(c:fG ops=true){fs:List Ef}(h1:fs.length=ops.size)(p:∀(i:Nat) o f,ops[i]?=some o->fs[i]?=some f->pZ C.P hn C.N ops o (run (fs.take i) st) f)
 (q:gS (gG ops.toList []) (fs.map λf=>(f.W.map (·.1),f.K))=true)(r:Q .normal (run fs st)):WP C (.region id ops true) Q st:=by
 intro a w l;refine wp_region_any k (EC (fs:=fs) (st:=st) c h1 p q (λa w l=>⟨_,l,r⟩) _ _ _ _ (by simp) ?_ ?_ ?_)
 .refine yAG (yBb _ _) (by simp)
 .intro i j hd b
  have g:j<ops.size:=by obtain⟨o,u,_⟩:=hd;exact(ZE.1 u).1
  unfold aC at b;rw[Ze,yAU,Zd g]at b;cases b
 .have:dU fs ops.size st (aC (Array.replicate ops.size false))=st:=by
   have hf:∀j,j<ops.size->aC (Array.replicate ops.size false) j=false:=by
    intro j b;unfold aC;rw[Ze,yAU,Zd b];rfl
   have x:∀{V:Type}(wr:Nat->Option V)(d:V),gF ops.size wr d (aC (Array.replicate ops.size false))=d:=by
    intro V wr d;rw[dm (ls':=λ_=>false) (λj b _=>hf j b)]
    have:∀n,gF n wr d (λ_=>false)=d:=by
     intro n;induction n with
     |zero=>rfl
     |succ n ih=>rw[i7];simp[ih]
    exact this _
   cases st;unfold dU;simp[x]
  rw[this];obtain⟨L,s,hN,e,v⟩:=l;have m:=s.grow (Ext.drew (λ_=>False) w);exact⟨L,m.1,hN,e,λn=>(v n).mono m.2 (KC.refl _ _)⟩
theorem WP.draw(b:C.P.follows .mixedOrders=true)(a:fG ops=true)
 (h:jS C.P hn C.N ops (λacc st=>gS (gG ops.toList []) acc=true/\Q .normal st) ops.toList [] st):WP C (.region id ops true) Q st:=by
 obtain⟨fs,h1,c,d,e⟩:=yp h;exact WP.drawF (hn:=hn) b a (by rw[h1];simp) (λi o f g hf=>c i o f (by simpa using g) hf) (by simpa using d) e
end
@[simp] theorem JC{α:Type}(f:Nat->α)(k:Nat)(v:α)(n:Nat):av f k v n=if n=k then v else f n:=rfl
@[simp] theorem RZ(args:List Arg)(n:Nat):Ew args n=(match args[n]? with
 |some (.pv p)=>.pv p
 |some (.bx i)=>.ptr (pk i) 0
 |none=>.undef):=rfl
theorem uW(hin:List (List PV))(k:Nat):o6 hin k=if k<1000000 then none else(match hin[k-1000000]? with
 |some a=>some (.box (a.map .pv) false false)
 |none=>none):=rfl
@[simp] theorem N6(K:List Nat)(h:Hp)(k:Nat):bz K h k=if K.contains k=true then h k else none:=rfl
@[simp] theorem RS{y:Code}:Ev C y Q .normal st=WP C y Q st:=rfl
@[simp] theorem TF{y:Code}:Ev C y Q .ret st=Q .ret st:=rfl
@[simp] theorem SY{y:Code}:Ev C y Q (.exit i) st=Q (.exit i) st:=rfl
@[simp] theorem PJ:nM id Q .normal st=Q .normal st:=rfl
@[simp] theorem SZ:nM id Q .ret st=Q .ret st:=rfl
@[simp] theorem R0:nM id Q (.exit i) st=if i=id then Q .normal st else Q (.exit i) st:=rfl
@[simp] theorem WU:Fin P rs hout res .ret st=iK P rs hout res st:=rfl
@[simp] theorem R3:Fin P rs hout res .normal st=iK P rs hout res st:=rfl
@[simp] theorem Xc(ks:List Nat)(st:St)(n:Nat):(st.kill ks).t n=dK ks (st.t n):=rfl
@[simp] theorem Xe(ks:List Nat)(st:St)(k:Nat):(st.kill ks).h k=if ks.contains k=true then none else(st.h k).map (fx ks):=rfl
@[simp] theorem TG:y7 true d st F=F true st:=rfl
@[simp] theorem S0:y7 false d st F=F false st:=rfl
def St.lit(st:St)(d:Nat)(b:Bool):St:=⟨av st.t d (.pv (.val (.bool b))),st.h⟩
section
variable (P:Program) (hn:List Nat) (N:Nat) (ops:Array Oper) (Q:St->Prop) (o:Oper) (rest:List Oper) (st:St)
def xK(x:Option bG):Prop:=iA x (λe=>bZ P hn N ops Q rest (st.put o.dst e.1 e.2))
def xC(g:FuncId)(as:List Arg)(ks:List Nat)(a:List (Nat×Blk))(hin:List (List PV)):Prop:=zG P g as hin λhout res=>xK P hn N ops Q o rest st (lx st.h o.dst ks a hout res)
def PK(g:FuncId)(as:List Arg)(ks:List Nat)(a:List (Nat×Blk)):Bool->Option (List (List PV))->Prop
 |false,some hin=>xC P hn N ops Q o rest st g as ks a hin
 |_,_=>False
def Nd(g:FuncId):Option (List Arg×List Nat×List (Nat×Blk))->Prop
 |some (as,ks,W0)=>PK P hn N ops Q o rest st g as ks W0 (W0.any λa=>ks.contains a.1) (lT st.h ks)
 |none=>False
def ED(args:List AV):Option (FuncId×List AV×List AV)->Prop
 |some (g,first,caps)=>Nd P hn N ops Q o rest st g (i6 st.h (first++args++caps) [])
 |none=>False
def S5:AV->Prop
 |.fn (.func g) _ _=>gR P g/\bZ P hn N ops Q rest (st.put o.dst .undef [])
 |_=>False
def xN:Bool->Prop
 |true=>H5 (bZ P hn N ops Q rest (st.put o.dst (.pv (.val (.bool true))) [])) (bZ P hn N ops Q rest (st.put o.dst (.pv (.val (.bool false))) []))
 |false=>xK P hn N ops Q o rest st (du P hn o st.ev st.h)
def xO:Prop:=match o.op with
 |.call c=>match c.callee with
  |.value f=>ED P hn N ops Q o rest st (c.args.toList.map st.ev) (bC (st.ev f))
  |.invoke r name=>ED P hn N ops Q o rest st (c.args.toList.map st.ev) (bC (qu P name (st.ev r)))
  |_=>xK P hn N ops Q o rest st (du P hn o st.ev st.h)
 |.defer c=>match c.callee with
  |.value f=>if c.args.size=0 then S5 P hn N ops Q o rest st (st.ev f)else False
  |_=>False
 |.binOp op t x y _=>xN P hn N ops Q o rest st (nF (st.ev y)&&mR P t&&rn st.h (st.ev x)&&(op==.eql||op==.neq))
 |_=>xK P hn N ops Q o rest st (du P hn o st.ev st.h)
def xB(_:Nat)(want:Bool)(b:Bool):Prop:=if b=want then xO P hn N ops Q o rest st else bZ P hn N ops Q rest (st.put o.dst (.pv (.val (.tuple #[]))) [])
def xG:Option (Option (Nat×Bool×Bool))->Prop
 |some none=>xO P hn N ops Q o rest st
 |some (some (d,b,want))=>xB P hn N ops Q o rest st d want b
 |none=>False
end
section
variable {P:Program} {hn:List Nat} {N:Nat} {ops:Array Oper} {Q:St->Prop} {o:Oper} {rest:List Oper} {st:St}
@[simp] theorem TH:xN P hn N ops Q o rest st false=xK P hn N ops Q o rest st (du P hn o st.ev st.h):=rfl
@[simp] theorem WV:xN P hn N ops Q o rest st true=H5 (bZ P hn N ops Q rest (st.put o.dst (.pv (.val (.bool true))) [])) (bZ P hn N ops Q rest (st.put o.dst (.pv (.val (.bool false))) [])):=rfl
@[simp] theorem Xf{f c:List AV}:S5 P hn N ops Q o rest st (.fn (.func g) f c)=(gR P g/\bZ P hn N ops Q rest (st.put o.dst .undef [])):=rfl
theorem EE{c:AV}:ED P hn N ops Q o rest st args (bC c)=gc P c args o.dst st.h (λe=>bZ P hn N ops Q rest (st.put o.dst e.1 e.2)):=by
 unfold gc
 cases bC c with
 |none=>rfl
 |some q=>
  obtain⟨g,first,caps⟩:=q;simp only[ED]
  cases i6 st.h (first++args++caps) []with
  |none=>rfl
  |some q=>
   obtain⟨as,ks,W0⟩:=q;simp only[Nd]
   cases W0.any λa=>ks.contains a.1 with
   |true=>rfl
   |false=>
    cases lT st.h ks with
    |none=>rfl
    |some hin=>rfl
theorem Nf:xO P hn N ops Q o rest st=wD P hn o st.ev st.h (λe=>bZ P hn N ops Q rest (st.put o.dst e.1 e.2)):=by
 obtain⟨a,op,g,pos,b,d⟩:=o
 cases op<;>try rfl
 case binOp op t x y t'=>
  simp only[xO,wD];cases nF (st.ev y)&&mR P t&&rn st.h (st.ev x)&&(op==.eql||op==.neq)<;>rfl
 rename_i c;obtain⟨callee,args,ts⟩:=c
 cases callee<;>try rfl
 all_goals first
  |(rename_i f name;show ED P hn N ops Q _ rest st (args.toList.map st.ev) (bC (qu P name (st.ev f)))=gc P (qu P name (st.ev f)) (args.toList.map st.ev) a st.h _;exact EE)
  |(rename_i f;show ED P hn N ops Q _ rest st (args.toList.map st.ev) (bC (st.ev f))=gc P (st.ev f) (args.toList.map st.ev) a st.h _;exact EE)
@[simp] theorem WW:bZ P hn N ops Q [] st=Q st:=rfl
@[simp] theorem TJ:bZ P hn N ops Q (o::rest) st=(dI N o.dst=true/\xG P hn N ops Q o rest st (kJ ops st.t o.guard)):=by
 simp only[bZ]
 congr 1
 cases a:kJ ops st.t o.guard with
 |none=>rfl
 |some g=>cases g with
  |none=>simp only[xG];rw[Nf]
  |some q=>obtain⟨d,b,want⟩:=q;simp only[xG,xB,y7];rw[Nf]
@[simp] theorem WX:xG P hn N ops Q o rest st (some none)=xO P hn N ops Q o rest st:=rfl
@[simp] theorem WY:xG P hn N ops Q o rest st (some (some (d,b,want)))=xB P hn N ops Q o rest st d want b:=rfl
@[simp] theorem YJ:xB P hn N ops Q o rest st d true true=xO P hn N ops Q o rest st:=rfl
@[simp] theorem YK:xB P hn N ops Q o rest st d false false=xO P hn N ops Q o rest st:=rfl
@[simp] theorem YL:xB P hn N ops Q o rest st d true false=bZ P hn N ops Q rest (st.put o.dst (.pv (.val (.tuple #[]))) []):=rfl
@[simp] theorem YM:xB P hn N ops Q o rest st d false true=bZ P hn N ops Q rest (st.put o.dst (.pv (.val (.tuple #[]))) []):=rfl
@[simp] theorem WZ{e:bG}:xK P hn N ops Q o rest st (some e)=bZ P hn N ops Q rest (st.put o.dst e.1 e.2):=rfl
@[simp] theorem TL:ED P hn N ops Q o rest st args (some (g,first,caps))=Nd P hn N ops Q o rest st g (i6 st.h (first++args++caps) []):=rfl
@[simp] theorem TM:Nd P hn N ops Q o rest st g (some (as,ks,W0))=PK P hn N ops Q o rest st g as ks W0 (W0.any λa=>ks.contains a.1) (lT st.h ks):=rfl
@[simp] theorem TN:PK P hn N ops Q o rest st g as ks W0 false (some hin)=xC P hn N ops Q o rest st g as ks W0 hin:=rfl
attribute [simp] xO
theorem rI(h:aW P g as hin hout res)(a:xK P hn N ops Q o rest st (lx st.h o.dst ks W0 hout res)):
 xC P hn N ops Q o rest st g as ks W0 hin:=⟨hout,res,h,a⟩
theorem AL(h:st.t d=.pv (.val (.bool b))):st.lit d b=st:=by
 unfold St.lit
 have:av st.t d (.pv (.val (.bool b)))=st.t:=by
  grind [JC]
 rw[this]
theorem mU(h:st.t d=.pv (.val (.bool b)))(a:b=true->xB P hn N ops Q o rest (st.lit d true) d want true)(hf:b=false->xB P hn N ops Q o rest (st.lit d false) d want false):
 xB P hn N ops Q o rest st d want b:=by
 cases b with
 |true=>have:=a rfl;rw[AL h]at this;exact this
 |false=>have:=hf rfl;rw[AL h]at this;exact this
end
section
variable (P:Program) (hn:List Nat) (N:Nat) (ops:Array Oper) (Q:nP->St->Prop) (o:Oper) (rest:List Oper) (acc:nP) (st:St) (K:List Nat)
def yK(x:Option bG):Prop:=iA x (λe=>(e.2.all λa=>K.contains a.1)=true/\jS P hn N ops Q rest (acc++[(e.2.map (·.1),K)]) (st.put o.dst e.1 e.2))
def yC(g:FuncId)(as:List Arg)(ks:List Nat)(a:List (Nat×Blk))(hin:List (List PV)):Prop:=zG P g as hin λhout res=>yK P hn N ops Q o rest acc st K (lx (bz K st.h) o.dst ks a hout res)
def PL(g:FuncId)(as:List Arg)(ks:List Nat)(a:List (Nat×Blk)):Bool->Option (List (List PV))->Prop
 |false,some hin=>yC P hn N ops Q o rest acc st K g as ks a hin
 |_,_=>False
def Ng(g:FuncId):Option (List Arg×List Nat×List (Nat×Blk))->Prop
 |some (as,ks,W0)=>PL P hn N ops Q o rest acc st K g as ks W0 (W0.any λa=>ks.contains a.1) (lT (bz K st.h) ks)
 |none=>False
def EF(args:List AV):Option (FuncId×List AV×List AV)->Prop
 |some (g,first,caps)=>Ng P hn N ops Q o rest acc st K g (i6 (bz K st.h) (first++args++caps) [])
 |none=>False
def yO:Prop:=match o.op with
 |.call c=>match c.callee with
  |.value f=>EF P hn N ops Q o rest acc st K (c.args.toList.map st.ev) (bC (st.ev f))
  |.invoke r name=>EF P hn N ops Q o rest acc st K (c.args.toList.map st.ev) (bC (qu P name (st.ev r)))
  |_=>yK P hn N ops Q o rest acc st K (du P hn o st.ev (bz K st.h))
 |_=>yK P hn N ops Q o rest acc st K (du P hn o st.ev (bz K st.h))
def yB(_:Nat)(want:Bool)(b:Bool):Prop:=if b=want then yO P hn N ops Q o rest acc st (lU o st.ev st.h)else jS P hn N ops Q rest (acc++[([],[])]) (st.put o.dst (.pv (.val (.tuple #[]))) [])
def yG:Option (Option (Nat×Bool×Bool))->Prop
 |some none=>yO P hn N ops Q o rest acc st (lU o st.ev st.h)
 |some (some (d,b,want))=>yB P hn N ops Q o rest acc st d want b
 |none=>False
end
section
variable {P:Program} {hn:List Nat} {N:Nat} {ops:Array Oper} {Q:nP->St->Prop} {o:Oper} {rest:List Oper} {acc:nP} {st:St} {K:List Nat}
theorem EG{c:AV}:EF P hn N ops Q o rest acc st K args (bC c)=gc P c args o.dst (bz K st.h) (λe=>(e.2.all λa=>K.contains a.1)=true/\jS P hn N ops Q rest (acc++[(e.2.map (·.1),K)]) (st.put o.dst e.1 e.2)):=by
 unfold gc
 cases bC c with
 |none=>rfl
 |some q=>
  obtain⟨g,first,caps⟩:=q;simp only[EF]
  cases i6 (bz K st.h) (first++args++caps) []with
  |none=>rfl
  |some q=>
   obtain⟨as,ks,W0⟩:=q;simp only[Ng]
   cases W0.any λa=>ks.contains a.1 with
   |true=>rfl
   |false=>
    cases lT (bz K st.h) ks with
    |none=>rfl
    |some hin=>rfl
theorem Nh:yO P hn N ops Q o rest acc st K=tZ P hn o st.ev (bz K st.h) (λe=>(e.2.all λd=>K.contains d.1)=true/\jS P hn N ops Q rest (acc++[(e.2.map (·.1),K)]) (st.put o.dst e.1 e.2)):=by
 obtain⟨a,op,i,pos,b,g⟩:=o
 cases op<;>try rfl
 rename_i c;obtain⟨callee,args,ts⟩:=c
 cases callee<;>try rfl
 all_goals first
  |(rename_i f name;show EF P hn N ops Q _ rest acc st K (args.toList.map st.ev) (bC (qu P name (st.ev f)))=gc P (qu P name (st.ev f)) (args.toList.map st.ev) a (bz K st.h) _;exact EG)
  |(rename_i f;show EF P hn N ops Q _ rest acc st K (args.toList.map st.ev) (bC (st.ev f))=gc P (st.ev f) (args.toList.map st.ev) a (bz K st.h) _;exact EG)
@[simp] theorem W3:jS P hn N ops Q [] acc st=Q acc st:=rfl
@[simp] theorem TO:jS P hn N ops Q (o::rest) acc st=(dI N o.dst=true/\yG P hn N ops Q o rest acc st (kJ ops st.t o.guard)):=by
 simp only[jS]
 congr 1
 cases a:kJ ops st.t o.guard with
 |none=>rfl
 |some g=>cases g with
  |none=>simp only[yG];rw[Nh]
  |some q=>obtain⟨d,b,want⟩:=q;simp only[yG,yB,y7];rw[Nh]
@[simp] theorem W4:yG P hn N ops Q o rest acc st (some none)=yO P hn N ops Q o rest acc st (lU o st.ev st.h):=rfl
@[simp] theorem W5:yG P hn N ops Q o rest acc st (some (some (d,b,want)))=yB P hn N ops Q o rest acc st d want b:=rfl
@[simp] theorem YN:yB P hn N ops Q o rest acc st d true true=yO P hn N ops Q o rest acc st (lU o st.ev st.h):=rfl
@[simp] theorem YO:yB P hn N ops Q o rest acc st d false false=yO P hn N ops Q o rest acc st (lU o st.ev st.h):=rfl
@[simp] theorem YP:yB P hn N ops Q o rest acc st d true false=jS P hn N ops Q rest (acc++[([],[])]) (st.put o.dst (.pv (.val (.tuple #[]))) []):=rfl
@[simp] theorem YQ:yB P hn N ops Q o rest acc st d false true=jS P hn N ops Q rest (acc++[([],[])]) (st.put o.dst (.pv (.val (.tuple #[]))) []):=rfl
@[simp] theorem W6{e:bG}:yK P hn N ops Q o rest acc st K (some e)=((e.2.all λa=>K.contains a.1)=true/\jS P hn N ops Q rest (acc++[(e.2.map (·.1),K)]) (st.put o.dst e.1 e.2)):=rfl
@[simp] theorem TP:EF P hn N ops Q o rest acc st K args (some (g,first,caps))=Ng P hn N ops Q o rest acc st K g (i6 (bz K st.h) (first++args++caps) []):=rfl
@[simp] theorem TQ:Ng P hn N ops Q o rest acc st K g (some (as,ks,W0))=PL P hn N ops Q o rest acc st K g as ks W0 (W0.any λa=>ks.contains a.1) (lT (bz K st.h) ks):=rfl
@[simp] theorem TR:PL P hn N ops Q o rest acc st K g as ks W0 false (some hin)=yC P hn N ops Q o rest acc st K g as ks W0 hin:=rfl
attribute [simp] yO
theorem uX(h:aW P g as hin hout res)(a:yK P hn N ops Q o rest acc st K (lx (bz K st.h) o.dst ks W0 hout res)):
 yC P hn N ops Q o rest acc st K g as ks W0 hin:=⟨hout,res,h,a⟩
theorem K9(h:st.t d=.pv (.val (.bool b)))(a:b=true->yB P hn N ops Q o rest acc (st.lit d true) d want true)(hf:b=false->yB P hn N ops Q o rest acc (st.lit d false) d want false):
 yB P hn N ops Q o rest acc st d want b:=by
 cases b with
 |true=>have:=a rfl;rw[AL h]at this;exact this
 |false=>have:=hf rfl;rw[AL h]at this;exact this
end
attribute [simp] BL qu
attribute [simp] iT dZ wx sM BH wy Ar rj Na kI uJ BI BJ yc sN yd DP uM uN wu mc H3 yn GX Nc JA fw XV.key
attribute [simp] Ed tY H4
attribute [simp] DR Aw yh yi zE
attribute [simp] Av uP rn mR Ax Eb zF Ec
attribute [simp] St.lit dI kJ du St.ev St.put ai gQ AV.cells PV.cells Value.cells pK ww TK.isAgg fq Aq tU fE cW jk
 tW Au uO ye yg nG bC i6 lT jw lx frz tB qq BG pJ rA kn norm xY D9 md nF pU jl wv pV i5
 xZ br pL tV uK rl yb rm H1 Jm gj uL As DO At Ea wC m9 mf iK rH dK fx oZ PF mH lU GW Op.operands Call.operands
section
variable {C:Cx} {Q:Exit->St->Prop} {st:St} {x y:Code} {c:Operand}
def uY(C:Cx)(x y:Code)(Q:Exit->St->Prop)(st:St):AV->Prop
 |.pv (.val (.bool b))=>(b=true->WP C x Q st)/\(b=false->WP C y Q st)
 |_=>False
theorem GA(a:b=true->WP C x Q st)(hf:b=false->WP C y Q st):uY C x y Q st (.pv (.val (.bool b))):=⟨a,hf⟩
@[simp] theorem R4:uY C x y Q st (.pv (.val (.bool true)))=WP C x Q st:=by simp[uY]
@[simp] theorem RT:uY C x y Q st (.pv (.val (.bool false)))=WP C y Q st:=by simp[uY]
theorem WP.cond'(h:uY C x y Q st (st.ev c)):WP C (.cond c x y) Q st:=by
 cases a:st.ev c with
 |pv p=>cases p with
  |val v=>cases v with
   |bool b=>rw[a]at h;exact WP.cond a h.1 h.2
   |_=>rw[a]at h;exact h.elim
  |_=>rw[a]at h;exact h.elim
 |_=>rw[a]at h;exact h.elim
end
section
variable {C:Cx} {Q:Exit->St->Prop} {st:St}
def DS(ks:List Nat)(J:St->Prop)(Q:Exit->St->Prop):Exit->St->Prop
 |.normal,st=>J (st.kill ks)
 |e,st=>Q e st
@[simp] theorem PN{J:St->Prop}:DS ks J Q .normal st=J (st.kill ks):=rfl
@[simp] theorem S6{J:St->Prop}:DS ks J Q .ret st=Q .ret st:=rfl
@[simp] theorem R5{J:St->Prop}:DS ks J Q (.exit i) st=Q (.exit i) st:=rfl
theorem WP.loopN(ks:List Nat)(N:Nat)(I:Nat->St->Prop)(r:I 0 (st.kill ks))
 (round:∀i st,i<=N->I i st->WP C c (DS ks (λa=>i<N/\I (i+1) a) Q) st):WP C (.loop c) Q st:=by
 classical
 refine WP.loop ks (λst=>∃i,i<=N/\I i st) (λst=>N-(if h:∃i,i<=N/\I i st/\∀j,j<=N->I j st->j<=i then h.choose else 0)) ⟨0,ZV _,r⟩ ?_;intro st ⟨s,p,n⟩
 have l:∃i,i<=N/\I i st/\∀j,j<=N->I j st->j<=i:=by
  have:∀d i,N-i<=d->i<=N->I i st->∃i,i<=N/\I i st/\∀j,j<=N->I j st->j<=i:=by
   intro d
   induction d with
   |zero=>intro i hd hi g;exact⟨i,hi,g,λj k _=>by omega⟩
   |succ d ih=>
    intro i hd hi g;by_cases h:∃j,j<=N/\I j st/\i<j
    .obtain⟨j,k,b,o⟩:=h;exact ih j (by omega) k b
    .exact⟨i,hi,g,λj k b=>Nat.le_of_not_lt (λf=>h ⟨j,k,b,f⟩)⟩
  exact this N s (by omega) p n
 have q:=l.choose_spec;refine WP.mono (round _ st q.1 q.2.1) ?_;intro e a hq
 cases e with
 |normal=>
  obtain⟨f,g⟩:=hq;refine⟨⟨_,f,g⟩,?_⟩
  have m:∃i,i<=N/\I i (a.kill ks)/\∀j,j<=N->I j (a.kill ks)->j<=i:=by
   have:∀d i,N-i<=d->i<=N->I i (a.kill ks)->∃i,i<=N/\I i (a.kill ks)/\∀j,j<=N->I j (a.kill ks)->j<=i:=by
    intro d
    induction d with
    |zero=>intro i hd hi g;exact⟨i,hi,g,λj k _=>by omega⟩
    |succ d ih=>
     intro i hd hi g;by_cases h:∃j,j<=N/\I j (a.kill ks)/\i<j
     .obtain⟨j,k,b,o⟩:=h;exact ih j (by omega) k b
     .exact⟨i,hi,g,λj k b=>Nat.le_of_not_lt (λf=>h ⟨j,k,b,f⟩)⟩
   exact this N _ (by omega) f g
  have h1:=m.choose_spec.2.2 _ f g;rw[dif_pos m,dif_pos l];omega
 |_=>exact hq
end
attribute [simp] Value.oneCell'
def Arg.isPv:Arg->Bool
 |.pv _=>true
 |.bx _=>false
theorem N7(hf:P.funcs[f]?=some fn)(g:fn.body=some c)(a:bS P f=true){args:List Arg}(b:args.length<=fn.ntmps)(e:args.all Arg.isPv=true)
 (h:∀C:Cx,C.P=P->C.N=fn.ntmps->WP C c (Fin P fn.results.toList [] res) (rH args [])):aW P f args [] [] res:=by
 refine yk hf g a b rfl (λi j d=>?_) h;have:=L4.1 e _ (An d);simp[Arg.isPv]at this
@[simp] theorem W7(hin:List (List PV))(i:Nat):o6 hin (pk i)=(hin[i]?).map (λa=>.box (a.map .pv) false false):=by
 rw[uW,Y6 (by unfold pk;omega),show pk i-1000000=i by unfold pk;omega];cases hin[i]?<;>rfl
@[simp] theorem S7(hin:List (List PV))(h:k<1000000):o6 hin k=none:=by rw[uW,Zd h]
@[simp] theorem Xg(i j:Nat):(pk i=pk j)=(i=j):=by unfold pk;simp
@[simp] theorem YR(h:n<1000000):(pk i=n)=False:=by unfold pk;simp;omega
@[simp] theorem S8{a:List PV}{F:Nat->List PV->Prop}:(∀(i:Nat)(b:List PV),[a][i]?=some b->F i b)=F 0 a:=by
 refine propext ⟨λh=>h 0 a rfl,λh i b hi=>?_⟩
 cases i with
 |zero=>simp at hi;subst hi;exact h
 |succ i=>simp at hi
theorem i8:ag P Go.program=some P:=rfl
theorem i9{d:TypeDesc}(h:P.underlying t=some d):ag P (underlying t)=some d:=by
 unfold underlying;rw[af,i8,Zi,h];rfl
theorem p9(d:Nat)(t:TypeId)(xs ys:Array Value)(c:P.underlying t=some (.struct (P.fieldsOf t)))(hp:P.stoodInHeld t=false):
 ag P (Op.equalIn (d+1) t (.agg xs) (.agg ys))=ag P (Op.eqFields d xs ys (P.fieldsOf t).toList):=by
 simp only[Op.equalIn,af,i9 c,Zi,i8,hp,Y9,Zk];rw[<-Array.forIn_toList];generalize(P.fieldsOf t).toList=fs;clear c
 induction fs with
 |nil=>simp[Op.eqFields];rfl
 |cons f fs ih=>
  simp only[List.forIn_cons,Op.eqFields,af];by_cases hn:f.name≠ "_"
  .rw[Zd hn,Zd hn]
   simp only[af]
   cases ag P (part f.type xs f.offset)with
   |none=>rfl
   |some a=>
    simp only[Zi]
    cases ag P (part f.type ys f.offset)with
    |none=>rfl
    |some b=>
     simp only[Zi]
     cases ag P (Op.equalIn d f.type a b)with
     |none=>rfl
     |some r=>
      cases r
      .simp only[Zi,yBo,Zp,cH]
      .simp only[Zi,yAC,Y9,Zk,cH]
       exact ih
  .rw[Y6 hn,Y6 hn]
   simp only[cH,Zi];exact ih
theorem kQ(d:Nat)(t:TypeId)(k c:IntKind)(a b:Int)(h:P.underlying t=some (.int c)):ag P (Op.equalIn (d+1) t (.int k a) (.int k b))=some (a==b):=by
 simp only[Op.equalIn,af,i9 h,Zi];rw[Zd trivial];rfl
theorem iX{f:Field}{fs:List Field}{a b:Value}{r r':Bool}(hn:f.name≠ "_")(c:ag P (part f.type xs f.offset)=some a)(e:ag P (part f.type ys f.offset)=some b)
 (g:ag P (Op.equalIn d f.type a b)=some r)(i:ag P (Op.eqFields d xs ys fs)=some r'):ag P (Op.eqFields d xs ys (f::fs))=some (r&&r'):=by
 simp only[Op.eqFields];rw[Zd hn];simp only[af,c,e,g,Zi];cases r
 .simp;rfl
 .simp[i]
theorem wR:ag P (Op.eqFields d xs ys [])=some true:=rfl
theorem AM{x:Operand}(a:o.op=.binOp .neq t x y t')(c:ρ x=.pv (.val (.agg xs)))(d:ρ y=.pv (.val (.agg ys)))
 (f:P.eqGuardType P.depth t=false)(h:ag P (Op.equal t (.agg xs) (.agg ys))=some b):aU P o ρ=some (.pv (.val (.bool !b)),[]):=by
 refine dF (by rw[a];simp[Op.operands,c,d,er]) ?_;unfold execOp;rw[a];simp only[(bt c).2,(bt d).2]
 have h1:ag P (eqGuard .neq t x y (.agg xs) (.agg ys))=some ():=by
  unfold eqGuard;simp only[yAC,Y9,Zk,af,i8,Zi,f,yBo,Zp];rfl
 have e:ag P (binOp .neq t (.agg xs) (.agg ys))=some (.bool !b):=by
  simp only[binOp,af,h,Zi];rfl
 simp only[af,h1,e,Zi];rfl
theorem uZ{x:Operand}(a:o.op=.binOp .eql t x y t')(c:ρ x=.pv (.val (.agg xs)))(d:ρ y=.pv (.val (.agg ys)))
 (f:P.eqGuardType P.depth t=false)(h:ag P (Op.equal t (.agg xs) (.agg ys))=some b):aU P o ρ=some (.pv (.val (.bool b)),[]):=by
 refine dF (by rw[a];simp[Op.operands,c,d,er]) ?_;unfold execOp;rw[a];simp only[(bt c).2,(bt d).2]
 have h1:ag P (eqGuard .eql t x y (.agg xs) (.agg ys))=some ():=by
  unfold eqGuard;simp only[yAC,Y9,Zk,af,i8,Zi,f,yBo,Zp];rfl
 have e:ag P (binOp .eql t (.agg xs) (.agg ys))=some (.bool b):=by
  simp only[binOp,af,h,Zi];rfl
 simp only[af,h1,e,Zi];rfl
class Sp(G:Prop)(H:outParam Prop):Prop where
 h:H->G
class Ss(G:Prop)(H:outParam Prop):Prop where
 h:H->G
class Sb(G:Prop)(A B D:outParam Prop):Prop where
 h:A->B->D->G
class Sc(G:Prop)(P:outParam Program)(g:outParam FuncId)(as:outParam (List Arg))(hin:outParam (List (List PV)))(F:outParam (List (List PV)->RV->Prop)):Prop where
 h:∀{hout res},aW P g as hin hout res->F hout res->G
section
variable {C:Cx} {Q:Exit->St->Prop} {st:St} {x y c:Code} {id:Nat} {ops:Array Oper}
instance:Sp (WP C (.seq x y) Q st) (WP C x (Ev C y Q) st):=⟨WP.seq⟩
instance:Sp (WP C (.block id c) Q st) (WP C c (nM id Q) st):=⟨WP.block⟩
instance:Ss (WP C (.region id ops false) Q st) (bZ C.P [] C.N ops (Q .normal) ops.toList st):=⟨WP.region⟩
instance{o:Operand}:Ss (WP C (.cond o x y) Q st) (uY C x y Q st (st.ev o)):=⟨WP.cond'⟩
instance:Ss (WP C .skip Q st) (Q .normal st):=⟨WP.skip⟩
instance:Ss (WP C .ret Q st) (Q .ret st):=⟨WP.ret⟩
instance:Ss (WP C (.exit id) Q st) (Q (.exit id) st):=⟨WP.exit⟩
theorem Wh(hn:List Nat)(h:bZ C.P hn C.N ops (Q .normal) ops.toList st):WP C (.region id ops false) Q st:=WP.region h
theorem Wi(hn:List Nat)(h:jS C.P hn C.N ops (λacc st=>gS (gG ops.toList []) acc=true/\Q .normal st) ops.toList [] st)(b:C.P.follows .mixedOrders=true:=by rw[hP];kernel_rfl)(a:fG ops=true:=by kernel_rfl):WP C (.region id ops true) Q st:=WP.draw b a h
theorem Wd(h:jS C.P [] C.N ops (λacc st=>gS (gG ops.toList []) acc=true/\Q .normal st) ops.toList [] st)(b:C.P.follows .mixedOrders=true:=by rw[hP];kernel_rfl)(a:fG ops=true:=by kernel_rfl):WP C (.region id ops true) Q st:=WP.draw b a h
end
section
variable {P:Program} {hn:List Nat} {N:Nat} {ops:Array Oper} {o:Oper} {rest:List Oper} {st:St} {d:Nat} {want b:Bool} {g:FuncId} {as:List Arg} {ks:List Nat} {W0:List (Nat×Blk)} {hin:List (List PV)}
instance{Q:St->Prop}:Sb (xB P hn N ops Q o rest st d want b) (st.t d=.pv (.val (.bool b))) (b=true->xB P hn N ops Q o rest (st.lit d true) d want true) (b=false->xB P hn N ops Q o rest (st.lit d false) d want false):=⟨mU⟩
instance{Q:nP->St->Prop}{acc:nP}:Sb (yB P hn N ops Q o rest acc st d want b) (st.t d=.pv (.val (.bool b))) (b=true->yB P hn N ops Q o rest acc (st.lit d true) d want true) (b=false->yB P hn N ops Q o rest acc (st.lit d false) d want false):=⟨K9⟩
instance{Q:St->Prop}:Sc (xC P hn N ops Q o rest st g as ks W0 hin) P g as hin (λhout res=>xK P hn N ops Q o rest st (lx st.h o.dst ks W0 hout res)):=⟨rI⟩
instance{Q:nP->St->Prop}{acc:nP}{K:List Nat}:Sc (yC P hn N ops Q o rest acc st K g as ks W0 hin) P g as hin (λhout res=>yK P hn N ops Q o rest acc st K (lx (bz K st.h) o.dst ks W0 hout res)):=⟨uX⟩
end
theorem Xx{p:Prop}(h:False:=by first|(clear hP hN;simp_all;done)|(simp at *;omega)):p:=h.elim
theorem Xy{p:Prop}(h:False:=by simp at hgd;first|done|omega):p:=h.elim
theorem Ya{a:List Nat}{acc:nP}{b:Prop}(h:b)(k:gS a acc=true:=by kernel_rfl):gS a acc=true/\b:=⟨k,h⟩
theorem Dp{a1 e l:String}{a3 g i:Array TypeId}{j m:Nat}{b1 k:Bool}{o:Option Nat}{b6:List Departure}{p:Array String}(hf:P.funcs[f]?=some fn){args:List Arg}(h:∀C:Cx,C.P=P->C.N=n->WP C c (Fin P rs [] res) (rH args []))
 (d:fn=⟨a1,e,a3,g,i,j,n,rs.toArray,some c,b1,k,l,m,o,b6,p⟩:=by rfl)(a:bS P f=true:=by kernel_rfl)(b:args.length<=n:=by exact of_decide_eq_true (by kernel_rfl))(q:args.all Arg.isPv=true:=by rfl):aW P f args [] [] res:=by
 subst d;exact N7 hf rfl a b q h
abbrev X2:=@jV
abbrev Xd:=@GA
structure Hid(H:Prop):Prop where
 h:H
theorem Gy(h:G:=by
 with_reducible repeat' (first|refine Sp.h ?_|((first|refine Wd ?_|refine Ss.h ?_|refine Sc.h (by assumption) ?_|(refine Sb.h ?_ ?_ ?_<;>(try intro hgd)<;>try exact Xy))<;>simp -implicitDefEqProofs (maxSteps:=2000000) [hP,hN, *]<;>try refine Ya ?_)|refine X2 ?_ ?_|(refine Xd ?_ ?_<;>intro hcd<;>try exact Xx))):G:=h
theorem Gz(x:H)(h:Hid H->G:=by
 intro hG0
 with_reducible repeat' (first|refine Sp.h ?_|((first|refine Wd ?_|refine Ss.h ?_|refine Sc.h (by assumption) ?_|(refine Sb.h ?_ ?_ ?_<;>(try intro hgd)<;>try exact Xy))<;>simp -implicitDefEqProofs (maxSteps:=2000000) [hP,hN, *]<;>try refine Ya ?_)|refine X2 ?_ ?_|(refine Xd ?_ ?_<;>intro hcd<;>try exact Xx))
 exact hG0.h):G:=h ⟨x⟩
theorem gA{a b:Prop}(x:a)(y:b):a/\b:=⟨x,y⟩
theorem be{p0 a b:Prop}(c:p0)(h1:a)(d:b):p0∧a∧b:=⟨c,h1,d⟩
theorem go{p0 a b c:Prop}(d:p0)(h1:a)(e:b)(f:c):p0∧a∧b∧c:=⟨d,h1,e,f⟩
theorem it{p0 a b c d:Prop}(e:p0)(h1:a)(f:b)(g:c)(i:d):p0∧a∧b∧c∧d:=⟨e,h1,f,g,i⟩
theorem so{p0 a b c d e:Prop}(f:p0)(h1:a)(g:b)(i:c)(j:d)(h5:e):p0∧a∧b∧c∧d∧e:=⟨f,h1,g,i,j,h5⟩
theorem zAa{p0 a b c d e f:Prop}(g:p0)(h1:a)(i:b)(j:c)(k:d)(h5:e)(h6:f):p0∧a∧b∧c∧d∧e∧f:=⟨g,h1,i,j,k,h5,h6⟩
theorem zAb{p0 a b c d e f g:Prop}(i:p0)(h1:a)(j:b)(k:c)(l:d)(h5:e)(h6:f)(h7:g):p0∧a∧b∧c∧d∧e∧f∧g:=⟨i,h1,j,k,l,h5,h6,h7⟩
theorem zAc{p0 a b c d e f g i p9:Prop}(j:p0)(h1:a)(k:b)(l:c)(m:d)(h5:e)(h6:f)(h7:g)(h8:i)(n:p9):p0∧a∧b∧c∧d∧e∧f∧g∧i∧p9:=⟨j,h1,k,l,m,h5,h6,h7,h8,n⟩
theorem zAd{p0 c d e f g i j k p9 a b:Prop}(l:p0)(h1:c)(m:d)(n:e)(o:f)(h5:g)(h6:i)(h7:j)(h8:k)(p:p9)(h10:a)(h11:b):p0∧c∧d∧e∧f∧g∧i∧j∧k∧p9∧a∧b:=⟨l,h1,m,n,o,h5,h6,h7,h8,p,h10,h11⟩
theorem zAe{p0 j k l m n o p q p9 a b c d e:Prop}(r:p0)(h1:j)(s:k)(u:l)(v:m)(h5:n)(h6:o)(h7:p)(h8:q)(x:p9)(h10:a)(h11:b)(f:c)(g:d)(i:e):p0∧j∧k∧l∧m∧n∧o∧p∧q∧p9∧a∧b∧c∧d∧e:=⟨r,h1,s,u,v,h5,h6,h7,h8,x,h10,h11,f,g,i⟩
structure Lw(l:List Nat):Prop where
 u:True
section
variable {C:Cx} {Q:Exit->St->Prop} {st:St} {id:Nat} {ops:Array Oper} {hn:List Nat}
theorem Wl(_:Lw hn)(h:bZ C.P hn C.N ops (Q .normal) ops.toList st):WP C (.region id ops false) Q st:=WP.region h
theorem Wm(_:Lw hn)(h:jS C.P hn C.N ops (λacc st=>gS (gG ops.toList []) acc=true/\Q .normal st) ops.toList [] st)(b:C.P.follows .mixedOrders=true:=by rw[hP];kernel_rfl)(a:fG ops=true:=by kernel_rfl):WP C (.region id ops true) Q st:=Wi hn h b a
end
theorem GS(s:S)(h:S->G:=by
 intro hS
 with_reducible repeat' (first|refine Sp.h ?_|((first|refine Wd ?_|refine Ss.h ?_|refine Sc.h (by first|assumption|apply_assumption) ?_|(refine Sb.h ?_ ?_ ?_<;>(try intro hgd)<;>try exact Xy))<;>simp -implicitDefEqProofs (maxSteps:=2000000) [hP,hN,hS]<;>try refine Ya ?_)|refine X2 ?_ ?_|(refine Xd ?_ ?_<;>intro hcd<;>try exact Xx))):G:=h s
theorem GT(s:S)(x:H)(h:S->Hid H->G:=by
 intro hS hG0
 with_reducible repeat' (first|refine Sp.h ?_|((first|refine Wd ?_|refine Ss.h ?_|refine Sc.h (by first|assumption|apply_assumption) ?_|(refine Sb.h ?_ ?_ ?_<;>(try intro hgd)<;>try exact Xy))<;>simp -implicitDefEqProofs (maxSteps:=2000000) [hP,hN,hS]<;>try refine Ya ?_)|refine X2 ?_ ?_|(refine Xd ?_ ?_<;>intro hcd<;>try exact Xx))
 exact hG0.h):G:=h s ⟨x⟩
theorem Ta(l:List Nat)(s:S)(h:Lw l->S->G:=by
 intro hL hS
 with_reducible repeat' (first|refine Sp.h ?_|((first|refine Wl hL ?_|refine Wm hL ?_|refine Ss.h ?_|refine Sc.h (by first|assumption|apply_assumption) ?_|(refine Sb.h ?_ ?_ ?_<;>(try intro hgd)<;>try exact Xy))<;>simp -implicitDefEqProofs (maxSteps:=2000000) [hP,hN,hS]<;>try refine Ya ?_)|refine X2 ?_ ?_|(refine Xd ?_ ?_<;>intro hcd<;>try exact Xx))):G:=h ⟨trivial⟩ s
theorem ki(l:List Nat)(s:S)(x:H)(h:Lw l->S->Hid H->G:=by
 intro hL hS hG0
 with_reducible repeat' (first|refine Sp.h ?_|((first|refine Wl hL ?_|refine Wm hL ?_|refine Ss.h ?_|refine Sc.h (by first|assumption|apply_assumption) ?_|(refine Sb.h ?_ ?_ ?_<;>(try intro hgd)<;>try exact Xy))<;>simp -implicitDefEqProofs (maxSteps:=2000000) [hP,hN,hS]<;>try refine Ya ?_)|refine X2 ?_ ?_|(refine Xd ?_ ?_<;>intro hcd<;>try exact Xx))
 exact hG0.h):G:=h ⟨trivial⟩ s ⟨x⟩
def TV(d a:Nat):Blk->AV->AV->Prop
 |.row _ _ xs _,x,y=>x=.arr d xs.length/\y=.arr a xs.length
 |.mp _ _ _ _,x,y=>x=.ext (.mp d)/\y=.ext (.mp a)
 |_,_,_=>False
def nW(h:Hp)(d a b:Nat)(blk:Blk)(bx:Blk):Hp:=λq=>if q=a then some blk else if q=d then none else if q=b then some bx else(h q).map (fx [d])
theorem WP.rename(T j d r:Nat){y:AV}{cs:List AV}{own fb:Bool}(hd:st.h d=some blk)(M:st.h r=none)(b7:r<2000000)
 (I:st.h T=some (.box cs own fb))(Z:cs[j]?=some x)(D:TV d r blk x y)(ar:∀(i:Nat) c,cs[i]?=some c->i≠j->oZ [d] c=false)
 (h:WP C c Q ⟨λn=>dK [d] (st.t n),nW st.h d r T blk (.box (cs.set j y) own fb)⟩):WP C c Q st:=by
 intro a w hs;obtain⟨L,O,hN,a7,b9⟩:=hs
 have cb:r≠d:=by intro e;rw[e,hd]at M;cases M
 have ad:T≠d:=by
  intro e;rw[e,hd]at I;injection I with I;subst I;exact D.elim
 have N:T≠r:=by intro e;rw[e,M]at I;cases I
 let s:=av L r (L d)
 let v:=nW st.h d r T blk (.box (cs.set j y) own fb)
 have get:∀{q b},v q=some b->(q=r/\b=blk)\/(q≠r/\q≠d/\∃b0,st.h q=some b0/\(∀l,b.live l=b0.live l)/\(∀o,b.frz o=b0.frz o)/\s q=L q):=by
  intro q b hq;simp only[v,nW]at hq;split at hq
  .rename_i e;injection hq with hq;exact .inl ⟨e,hq.symm⟩
  .rename_i m
   have hL:s q=L q:=bc m;split at hq
   .cases hq
   .rename_i g
    split at hq
    .rename_i H;subst H;injection hq with hq;subst hq
     exact .inr ⟨m,g,_,I,λ_=>rfl,λ_=>rfl,hL⟩
    .simp only[II]at hq
     obtain⟨b0,h1,rfl⟩:=hq;exact .inr ⟨m,g,b0,h1,λl=>by cases b0<;>rfl,λo=>by cases b0<;>rfl,hL⟩
 have hM:∀b o,ae C s v b o->ae C L st.h b o:=by
  rintro b o (h0|⟨q,b1,hq,E,K,hf⟩)
  .exact .inl h0
  .rcases get hq with⟨rfl,rfl⟩|⟨_,_,b0,h1,Y,h3,P⟩
   .rw[show s q=L d from aG _ _ _]at E K
    exact .inr ⟨d,_,hd,E,K,hf⟩
   .rw[P]at E K;rw[Y]at E;rw[h3]at hf
    exact .inr ⟨q,b0,h1,E,K,hf⟩
 have hp:Pres w (ae C L st.h) w (ae C s v):=Pres.sub hM
 have a8:KC L (cut [d] st.h) s v:=by
  intro q b hq;unfold cut at hq;split at hq
  .cases hq
  .rename_i hc
   have g:q≠d:=by simpa using hc
   have m:q≠r:=by intro e;rw[e,M]at hq;cases hq
   have hL:s q=L q:=bc m;by_cases H:q=T
   .subst H
    rw[I]at hq;injection hq with hq;subst hq;exact⟨.box (cs.set j y) own fb,by simp only[v,nW,Y6 m,Y6 g,Zp],by rw[hL];rfl⟩
   .exact⟨fx [d] b,by simp only[v,nW,Y6 m,Y6 g,Y6 H,hq];rfl,by rw[hL];exact wN _ _ _⟩
 have G:∀{x u},RepA w (ae C L st.h) L st.h x u->RepA w (ae C s v) s v (dK [d] x) u:=λS=>(wM S).mono hp a8
 have R:v r=some blk:=by simp only[v,nW,Zp]
 have A:s r=L d:=aG _ _ _
 have hy:∀u,RepA w (ae C L st.h) L st.h x u->RepA w (ae C s v) s v y u:=by
  intro u S
  cases blk with
  |box=>exact D.elim
  |row e sz xs V=>
   obtain⟨rfl,rfl⟩:=D
   cases S with
   |arr hk hn J=>
    rw[hd]at hk;injection hk with hk;injection hk with _ _ W _;subst W;exact .arr R (Zf _) (λ_=>by rw[A];exact J rfl)
  |mp kd n es V=>
   obtain⟨rfl,rfl⟩:=D
   cases S with
   |ext ca=>cases ca with
    |mp _=>
     have:=RepX.mp (L:=s) (k:=r) R;rw[A]at this;exact .ext this
 refine h a w ⟨s,⟨O.ext,O.m0,?_,?_,?_⟩,hN,a7,λn=>G (b9 n)⟩
 .intro q b hq
  by_cases H:q=T
  .subst H
   have e:b=.box (cs.set j y) own fb:=by
    simp only[v,nW,Y6 N,Y6 ad,Zp]at hq;injection hq with hq;exact hq.symm
   subst e;obtain⟨arr,ty,m,g⟩:=O.bl q _ I;have hL:s q=L q:=bc N;refine⟨arr,ty,by rw[hL];exact m,by simpa using g.1,λi p u f J=>?_⟩;rw[Zg]at f;by_cases ei:j=i
   .subst ei
    rw[Zd rfl]at f;split at f
    .injection f with f;subst f
     exact hy u (g.2 j _ u Z J)
    .cases f
   .rw[Y6 ei]at f
    have a6:=ar i p f (λe=>ei e.symm);have:=G (g.2 i p u f J);unfold dK at this;rw[Y6 (by rw[a6];decide)]at this;exact this
  .rcases get hq with⟨rfl,rfl⟩|⟨m,g,b0,h1,Y,h3,P⟩
   .have B:=O.bl d _ hd
    rw[A]
    cases b with
    |box=>exact D.elim
    |row e sz xs V=>
     obtain⟨a1,a2,W,a4,a5⟩:=B;refine⟨a1,a2,W,a4,λhn=>?_⟩;obtain⟨b1,b2,arr,b3,b4,b5⟩:=a5 hn;exact⟨b1,b2,arr,b3,b4,λi x j p S Z=>by obtain⟨u,J,hr⟩:=b5 i x j p S Z;exact⟨u,J,hr.mono hp⟩⟩
    |mp kd n es V=>exact B
   .have B:=O.bl q b0 h1
    rw[P]
    have e:b=fx [d] b0:=by
     simp only[v,nW,Y6 m,Y6 g,Y6 H,h1,ZS]at hq;injection hq with hq;exact hq.symm
    subst e
    cases b0 with
    |box aj U ak=>
     obtain⟨arr,ty,d1,d2⟩:=B;refine⟨arr,ty,d1,by simpa using d2.1,λi p u f J=>?_⟩;simp only[Y7,II]at f;obtain⟨z,hz,rfl⟩:=f;exact G (d2.2 i z u hz J)
    |row e sz xs V=>
     obtain⟨a1,a2,W,a4,a5⟩:=B;refine⟨a1,a2,W,a4,λhn=>?_⟩;obtain⟨b1,b2,arr,b3,b4,b5⟩:=a5 hn;exact⟨b1,b2,arr,b3,b4,λi x j p S Z=>by obtain⟨u,J,hr⟩:=b5 i x j p S Z;exact⟨u,J,hr.mono hp⟩⟩
    |mp kd n es V=>exact B
 .intro q q' b1 b2 ah hq b8 E bq
  have X:∀{q b},v q=some b->b.live (s q)->∃q0 b0,st.h q0=some b0/\b0.live (L q0)/\s q=L q0/\(q=r->q0=d)/\(q≠r->q0=q/\q≠d):=by
   intro q b hq E;rcases get hq with⟨rfl,rfl⟩|⟨m,g,b0,h1,Y,h3,P⟩
   .rw[A]at E
    exact⟨d,_,hd,E,A,λ_=>rfl,λe=>absurd rfl e⟩
   .rw[P,Y]at E
    exact⟨q,b0,h1,E,P,λe=>absurd e m,λ_=>⟨rfl,g⟩⟩
  obtain⟨p1,c1,d1,f1,g1,i1,j1⟩:=X hq E;obtain⟨p2,c2,d2,f2,g2,i2,j2⟩:=X b8 bq;rw[g1,g2];refine O.sep p1 p2 c1 c2 ?_ d1 d2 f1 f2;intro e;by_cases m:q=r
  .have g:q'≠r:=λg=>ah (m.trans g.symm)
   have:=j2 g;rw[i1 m]at e;exact this.2 (this.1.symm.trans e.symm)
  .have h1:=j1 m
   by_cases g:q'=r
   .rw[i2 g]at e
    exact h1.2 (h1.1.symm.trans e)
   .exact ah (h1.1.symm.trans (e.trans (j2 g).1))
 .intro q b hq
  by_cases H:q=T
  .subst H
   have e:b=.box (cs.set j y) own fb:=by
    simp only[v,nW,Y6 N,Y6 ad,Zp]at hq;injection hq with hq;exact hq.symm
   subst e;have hL:s q=L q:=bc N;have:=O.own q _ I;rw[hL];cases own<;>exact this
  .rcases get hq with⟨rfl,rfl⟩|⟨m,g,b0,h1,Y,h3,P⟩
   .have:=O.own d _ hd
    rw[A]
    cases b with
    |box=>exact D.elim
    |row e sz xs V=>
     unfold dw;simp only[C.hpr q b7];exact λhn=>this.row hn
    |mp=>exact this
   .have F:=O.own q b0 h1
    rw[P]
    have e:b=fx [d] b0:=by
     simp only[v,nW,Y6 m,Y6 g,Y6 H,h1,ZS]at hq;injection hq with hq;exact hq.symm
    subst e
    cases b0 with
    |box aj U ak=>cases U<;>exact F
    |row=>exact F
    |mp=>exact F
theorem fD{C:Cx}{hn:List Nat}{ops:Array Oper}{Q:St->Prop}{Q':Exit->Act->World->Prop}{rest:List Oper}(j:∀st a w,dM C st a w->Q st->wpList C.P ops Q' rest a w):
 ∀{l:List Oper}{st:St}{a:Act}{w:World},dM C st a w->bZ C.P hn C.N ops Q l st->wpList C.P ops Q' (l++rest) a w
 |[],st,a,w,r,e=>j st a w r e
 |o::l,st,a,w,r,e=>by
  obtain⟨L,k,hN,f,i⟩:=r;rw[bZ.eq_2]at e;obtain⟨hd,e⟩:=e;rw[List.cons_append];refine wpList_step (λK n=>?_);split at e
  .rename_i p
   rw[dB i (pM p),Zd rfl];exact yj k hN f i hd e (λm s u q c=>n _ _ (fD j c q))
  .rename_i d b want p
   rw[dB i (me p)];unfold y7 at e;simp only at e;split at e
   .rename_i g
    subst g;rw[Zd (by simp)];exact yj k hN f i hd e (λm s u q c=>n _ _ (fD j c q))
   .rename_i g
    rw[Y6 (by simpa using g)];exact n _ _ (fD j (dM.put k hN f i hd (W:=[]) (aH.refl k) (.pv (.val _))) e)
  .exact e.elim
theorem HV{w':World}{L:Nat->Loc}(hp:Pres w M w' M')(a:RepA w M L h x u):
 RepA w' M' L (λk=>if ks.contains k=true then none else(h k).map (fx ks)) (dK ks x) u:=
 (wM a).mono hp GR
def rekey(h:Hp)(ks:List Nat)(k:Nat)(blk:Blk):Hp:=λq=>if q=k then some blk else if ks.contains q=true then none else(h q).map (fx ks)
def St.rekey(st:St)(ks:List Nat)(k:Nat)(blk:Blk):St:=⟨λn=>dK ks (st.t n),Go.Ab.rekey st.h ks k blk⟩
theorem sJ{q:Nat}{b:Blk}(hq:rekey h ks k blk q=some b):(q=k/\b=blk)\/(q≠k/\q∉ks/\∃b0,h q=some b0/\b=fx ks b0):=by
 unfold rekey at hq;split at hq
 .rename_i e;injection hq with hq;exact .inl ⟨e,hq.symm⟩
 .rename_i e
  split at hq
  .cases hq
  .rename_i c
   simp only[II]at hq;obtain⟨b0,h1,a⟩:=hq;exact .inr ⟨e,by simpa using c,b0,h1,a.symm⟩
theorem Ak(b:Blk)(l:Loc):(fx ks b).live l=b.live l:=by cases b<;>rfl
theorem Jf(b:Blk)(o:Nat):(fx ks b).frz o=b.frz o:=by cases b<;>rfl
theorem Jg{l:Loc}{b:Blk}(h:dw C k l b):dw C k l (fx ks b):=by
 cases b with
 |box cs own a=>cases own<;>exact h
 |row=>exact h
 |mp=>exact h
section
variable {C:Cx} {L:Nat->Loc} {h:Hp} {w:World}
theorem MemL.retake(f:MemL C L h w){m:Nat}{xs:List PV}(v:h k=some (.row e sz xs 0)):
 MemL C L (rekey h [k] k (.row e sz (xs.take m) 0)) w/\∀x u,RepA w (ae C L h) L h x u->RepA w (ae C L (rekey h [k] k (.row e sz (xs.take m) 0))) L (rekey h [k] k (.row e sz (xs.take m) 0)) (dK [k] x) u:=by
 have W:∀b o,ae C L (rekey h [k] k (.row e sz (xs.take m) 0)) b o->ae C L h b o:=by
  rintro b o (U|⟨q,blk,hq,c,N,hf⟩)
  .exact .inl U
  .rcases sJ hq with⟨rfl,rfl⟩|⟨_,_,b0,h1,rfl⟩
   .exact .inr ⟨q,_,v,c,N,hf⟩
   .rw[Ak]at c;rw[Jf]at hf
    exact .inr ⟨q,b0,h1,c,N,hf⟩
 have hp:=Pres.sub (w:=w) W
 have F:KC L (λq=>if[k].contains q=true then none else(h q).map (fx [k])) L (rekey h [k] k (.row e sz (xs.take m) 0)):=by
  intro q blk hq;simp only at hq;split at hq
  .cases hq
  .rename_i O
   have g:q≠k:=by simpa using O
   refine⟨blk,?_,bv _ _⟩;simp only[rekey,Y6 g,Y6 O];exact hq
 have d:∀x u,RepA w (ae C L h) L h x u->RepA w (ae C L (rekey h [k] k (.row e sz (xs.take m) 0))) L (rekey h [k] k (.row e sz (xs.take m) 0)) (dK [k] x) u:=
  λx u a=>(HV (ks:=[k]) hp a).mono (Pres.refl _ _) F
 refine⟨⟨f.ext,f.m0,?_,?_,?_⟩,d⟩
 .intro q blk hq
  rcases sJ hq with⟨rfl,rfl⟩|⟨_,_,b0,h1,rfl⟩
  .obtain⟨g1,g2,g3,g4,g5⟩:=f.bl q _ v
   refine⟨g1,ZV _,λx a=>g3 x (yAO a),λhn=>by rw[g4 hn];simp,λhn=>?_⟩;obtain⟨a1,z,arr,A,B,D⟩:=g5 hn;refine⟨by rw[ZP];omega,z,arr,A,B,λi x j p a E=>?_⟩;rw[Zy]at a;split at a
   .obtain⟨u,s,I⟩:=D i x j p a E
    exact⟨u,s,I.mono hp⟩
   .cases a
  .have:=f.bl q b0 h1
   cases b0 with
   |box cs own M=>
    obtain⟨arr,ty,T,K⟩:=this;refine⟨arr,ty,T,by simpa using K.1,λi p u r s=>?_⟩;simp only[Y7,II]at r;obtain⟨y,X,rfl⟩:=r;exact d _ _ (K.2 i y u X s)
   |row e' Z ys M=>
    obtain⟨a1,z,A,B,D⟩:=this;refine⟨a1,z,A,B,λhn=>?_⟩;obtain⟨b1,J,arr,P,Q,R⟩:=D hn;exact⟨b1,J,arr,P,Q,λi x j p a E=>by obtain⟨u,s,I⟩:=R i x j p a E;exact⟨u,s,I.mono hp⟩⟩
   |mp kd n es M=>exact this
 .intro q Y b1 J g hq H c G
  have l:∀{q b},rekey h [k] k (.row e sz (xs.take m) 0) q=some b->b.live (L q)->∃b0,h q=some b0/\b0.live (L q):=by
   intro q b hq c;rcases sJ hq with⟨rfl,rfl⟩|⟨_,_,b0,h1,rfl⟩
   .exact⟨_,v,c⟩
   .rw[Ak]at c;exact⟨b0,h1,c⟩
  obtain⟨c1,d1,f1⟩:=l hq c;obtain⟨S,d2,f2⟩:=l H G;exact f.sep q Y c1 S g d1 d2 f1 f2
 .intro q blk hq
  rcases sJ hq with⟨rfl,rfl⟩|⟨_,_,b0,h1,rfl⟩
  .have V:=f.own q _ v;exact V
  .exact Jg (f.own q b0 h1)
end
section
variable {C:Cx} {Q:Exit->St->Prop} {st:St}
theorem eI(b:o.guard=none):Region.wanted o (yielded ops a.tmps)=true:=by
 unfold Region.wanted;rw[b]
def PD(C:Cx)(hn:List Nat)(ops:Array Oper)(Q:St->Prop)(t:TypeId)(x y:Operand)(d:Nat)(post:List Oper)(st:St):Prop:=
 ∃k e sz n m c,st.ev x=.arr k n/\st.ev y=.pv (.val (.int c (m:Nat)))/\(∃xs,st.h k=some (.row e sz xs 0)/\xs.length=n/\n≠0/\m<=n/\(∃ti a b z,aA C.P t=some ti/\ti.kind=.slice a sz b z)/\d<C.N/\
  bZ C.P hn C.N ops Q post ((st.rekey [k] k (.row e sz (xs.take m) 0)).put (some d) (.arr k m) []))
theorem WP.trunc{pre post:List Oper}{x:Operand}(j:ops.toList=pre++o::post)(G:o.op=.slice t x none (some y) none)(hd:o.dst=some d)(hg:o.guard=none)
 (hq:bZ C.P hn C.N ops (PD C hn ops (Q .normal) t x y d post) pre st):WP C (.region id ops false) Q st:=by
 intro a w hs;refine wp_region_list ?_;rw[j];refine fD (λY a1 w1 M I=>?_) hs hq;obtain⟨k,e,sz,n,m,kk,S,V,xs,B,c,aj,ah,⟨ti,e',b',z',R,D⟩,z,i⟩:=I;obtain⟨L,Z,hN,A,O⟩:=M;refine wpList_step (λK hK=>?_);rw[eI hg,Zd rfl];have r:=bE O x;rw[S]at r
 have U:a1.eval x=(L k).slice n:=by
  cases r with
  |arr g ak hu=>
   rw[B]at g;injection g with g;injection g with _ _ a3 _;subst a3;exact hu c
 have s:=bE O y;rw[V]at s
 have W:a1.eval y=.int kk (m:Nat):=by
  cases s with
  |pv hr=>exact aK hr
 have f:(L k).isNil=false/\xs.length<=(L k).cap:=by
  rcases oY Z B with⟨_,u⟩|⟨u,h10,_⟩
  .rw[u]at c;simp at c;omega
  .exact⟨u,h10⟩
 obtain⟨q,jt,hj,ad,_,_⟩:=dJ R D
 have T:a1.eval x=.slice (some ⟨(L k).b,0,none⟩) n (L k).cap:=by rw[U];simp[Loc.slice,f.1]
 have p:(execOp a1.eval o).run C.P w1=.ok (.value (.slice (some ⟨(L k).b,0,none⟩) m (L k).cap)) w1:=by
  have v:¬(L k).cap=0:=by omega
  have F:(0:Int)<=(m:Int)/\(m:Int)<=((L k).cap:Int):=by omega
  have key:(Instr.sliceBounds true n (L k).cap none (some (.int kk (m:Nat))) none).run C.P w1=.ok (0,m,(L k).cap) w1:=by
   simp[Instr.sliceBounds,Instr.sliceBound,asIntOf,F]
   try (intro u;omega)
  have h2:(Instr.sliceAt t (a1.eval x) none (some (a1.eval y)) none).run C.P w1=.ok (.slice (some ⟨(L k).b,0,none⟩) m (L k).cap) w1:=by
   rw[T,W];simp only[Instr.sliceAt,Sem.run_bind,bM q,Result.andThen_ok,Instr.slice,key,fF hj,Sem.run_pure];simp[v,Addr.add]
  unfold execOp;rw[G];simp[h2]
 unfold Oper.wp;rw[p];refine hK _ _ ?_;obtain⟨E,l⟩:=Z.retake (m:=m) B;refine fW (λX a' w' J H=>⟨X,J,H⟩) (st:=(Y.rekey [k] k (.row e sz (xs.take m) 0)).put (some d) (.arr k m) []) ?_ i;refine⟨L,E,?_,?_,λn'=>?_⟩
 .rw[hd];simp[Act.put,hN]
 .rw[hd];exact A
 .rw[hd,gW (by rw[hN];exact z)]
  simp only[St.put,av];split
  .refine .arr (e:=e) (sz:=sz) (fz:=0) (xs:=xs.take m) (by simp[St.rekey,Go.Ab.rekey,ai]) (by rw[ZP];omega) (λ_=>?_)
   simp[Loc.slice,f.1]
  .exact l _ _ (O n')
end
attribute [simp] St.rekey rekey
end Go.Ab
