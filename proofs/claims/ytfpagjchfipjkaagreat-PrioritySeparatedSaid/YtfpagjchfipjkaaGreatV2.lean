/- The contracts and facts that the laws of this seat need, in one text (AbB, AbG, AbX, Ab26). -/
import Derived.Test.YtfpagjchfipjkaaGreatV1
import Derived.MapKept
import Derived.Laws.StructEq
set_option linter.all false
set_option maxRecDepth 10000
set_option maxHeartbeats 16000000
namespace Go.Ab
open IntKind (i64)
variable {C:Cx}{F:Bool->St->Prop}{G H S:Prop}{K:bP->Prop}{M M':Nat->Nat->Prop}{P:Program}{Q:Exit->St->Prop}{W W0:List (Nat×Blk)}{a:Act}{args caps first:List AV}{as:List Arg}{b want:Bool}{blk:Blk}{c:Code}{cs xs ys:Array Value}{d e i id j k n sz:Nat}{f g:FuncId}{fn:Func}{h:Hp}{hin hout:List (List PV)}{hn ks:List Nat}{is:List Int}{kd:IntKind}{ls:Nat->Bool}{name:String}{o:Oper}{op:BinOp}{ops:Array Oper}{p:PV}{res:RV}{rs:List ResultVar}{st:St}{t t':TypeId}{ti:TI}{ts:List TypeId}{u v:Value}{us:List Value}{w:World}{x:AV}{y:Operand}{ρ ρ':Operand->AV}{σ:Operand->Value}
theorem eJ{α:Type}{P:Program}:∀{s:Sem α}{a:α},al P s=some a->∀w,s.run P w=.ok a w
 |.pure a,b,e,w=>by simp only[al,YV]at e;subst e;rfl
 |.program k,b,e,w=>by simp only[al]at e;exact eJ (s:=k P) e w
 |.load _ _ _,_,e,_=>by simp[al]at e
 |.store _ _ _ _,_,e,_=>by simp[al]at e
 |.new _ _,_,e,_=>by simp[al]at e
 |.shape _ _,_,e,_=>by simp[al]at e
 |.freeze _ _ _,_,e,_=>by simp[al]at e
 |.frozen _ _,_,e,_=>by simp[al]at e
 |.getObj _ _,_,e,_=>by simp[al]at e
 |.setObj _ _ _,_,e,_=>by simp[al]at e
 |.choose _ _,_,e,_=>by simp[al]at e
 |.sys _ _,_,e,_=>by simp[al]at e
 |.mark _ _,_,e,_=>by simp[al]at e
 |.halt _,_,e,_=>by simp[al]at e
theorem rK(off:Nat):∀(l:List Value)(s:Nat)(arr:Array Value),off+s+l.length<=arr.size->
 ((l.zipIdx s).foldl (λcs(p:Value×Nat)=>cs.setIfInBounds (off+p.2) p.1) arr).toList=bo arr.toList (off+s) l
 |[],s,arr,_=>by simp[bo]
 |v::r,s,arr,h=>by
  simp only[List.zipIdx_cons,yAh];rw[rK off r (s+1) _ (by simp at h|-;omega)];simp only[Array.toList_setIfInBounds,bo,yAq];have:=list_seg_step arr.toList (off+s) v r (by simp at h|-;omega);rw[<-Nat.add_assoc off s 1];rw[show off+s+(r.length+1)=off+s+(r.length+1) from rfl];exact this
section
variable {C:Cx} {L:Nat->Loc} {h1 h:Hp} {w:World} {M:Nat->Nat->Prop}
theorem uY(place:Nat->Option (Nat×Nat)):∀{ps:List (Nat×List AV)}{vs:List (Nat×Value)}{cells f:List AV}{arr:Array Value},aC w M L h cells arr.toList->
 (ps.length=vs.length/\∀(q:Nat)(i:Nat) cs(m:Nat)(v:Value),ps[q]?=some (i,cs)->vs[q]?=some (m,v)->m=i/\aC w M L h cs v.cells.toList)->uQ place cells ps=some f->
 ∃k,Instr.fill place arr vs=some k/\aC w M L h f k.toList
 |[],vs,cells,f,arr,r,hp,e=>by
  simp only[uQ,YV]at e;subst e;have:vs=[]:=Zn (by have:=hp.1;simpa using this.symm);subst this;exact⟨arr,rfl,r⟩
 |(i,cs)::ps,vs,cells,f,arr,r,hp,e=>by
  cases vs with
  |nil=>exact absurd hp.1 (by simp)
  |cons iv vs=>
   obtain⟨m,v⟩:=iv;obtain⟨rfl,hc⟩:=hp.2 0 i cs m v rfl rfl;simp only[uQ]at e;simp only[Instr.fill]
   cases l:place m with
   |none=>rw[l]at e;cases e
   |some os=>
    obtain⟨g,size⟩:=os;rw[l]at e;simp only at e|-;split at e
    .cases e
    .rename_i j
     have y:cs.length=v.cells.size:=by have:=hc.1;simpa using this
     have x:cells.length=arr.size:=by have:=r.1;simpa using this
     have n:cs.length=size:=Classical.not_not.1 (λh=>j (.inl h));have o:¬g+cs.length>cells.length:=λh=>j (.inr h)
     have s:¬((v.cells.size≠size||g+v.cells.size>arr.size)=true):=by simp;omega
     simp only[YR s]
     have u:(v.cells.zipIdx.foldl (λcs(p:Value×Nat)=>cs.setIfInBounds (g+p.2) p.1) arr).toList=bo arr.toList g v.cells.toList:=by
      have:=rK g v.cells.toList 0 arr (by simp;omega);rw[<-Array.foldl_toList,Array.toList_zipIdx];simpa using this
     refine uY place (cells:=bo cells g cs) ?_ ⟨by have:=hp.1;simpa using this,λq a b c d h1 h2=>hp.2 (q+1) a b c d (by simpa using h1) (by simpa using h2)⟩ e;have h9:=r.splice_ hc g;rw[<-u]at h9;exact h9
theorem vX(hs:∀k b,h1 k=some b->h k=some b){ρ:Operand->AV}{σ:Operand->Value}:∀{ps:List (Nat×Operand)}{qs:List (Nat×List AV)},(∀x∈ps.map (·.2),RepA w M L h (ρ x) (σ x))->ry h1 ρ ps=some qs->
 qs.length=(ps.map λ(i,x)=>(i,σ x)).length/\∀(q:Nat)(i:Nat) cs(f:Nat)(v:Value),qs[q]?=some (i,cs)->(ps.map λ(i,x)=>(i,σ x))[q]?=some (f,v)->f=i/\aC w M L h cs v.cells.toList
 |[],qs,_,e=>by simp only[ry,YV]at e;subst e;exact⟨rfl,λq i cs f v h=>by simp at h⟩
 |(i,x)::ps,qs,g,e=>by
  simp only[ry]at e;split at e
  .rename_i cs o m n
   injection e with e;subst e;obtain⟨h2,h3⟩:=vX hs (λy j=>g y (by simp at j|-;exact .inr j)) n;refine⟨by simpa using h2,λq a c l v hq d=>?_⟩
   cases q with
   |zero=>
    simp at hq d;obtain⟨rfl,rfl⟩:=hq;obtain⟨rfl,rfl⟩:=d;exact⟨rfl,qG hs (g x (by simp)) m⟩
   |succ q=>exact h3 q a c l v (by simpa using hq) (by simpa using d)
  .cases e
theorem AP{P:Program}(w:World):∀(fs:List Field),(∀f∈fs,∃i,P.info? f.type=some i)->
 (fs.mapM (m:=Sem) λf=>do pure (f.offset,<-sizeOf f.type)).run P w=.ok (fs.map λf=>(f.offset,oZ P f.type)) w
 |[],_=>by simp
 |f::fs,hf=>by
  obtain⟨i,hi⟩:=hf f (by simp);simp only[List.mapM_cons,Sem.run_bind,fG hi,Result.andThen_ok,Sem.run_pure,AP w fs (λg a=>hf g (by simp[a]))];simp[oZ,hi]
theorem DR(I:az C.P t=some ti){qs:List (Nat×List AV)}{vs:List (Nat×Value)}(hp:qs.length=vs.length/\∀(q:Nat)(i:Nat) cs(J:Nat)(v:Value),qs[q]?=some (i,cs)->vs[q]?=some (J,v)->J=i/\aC w M L h cs v.cells.toList)
 {v:AV}(e:yd ti qs=some v):∃r,(Instr.build t vs.toArray).run C.P w=.ok r w/\RepA w M L h v r:=by
 obtain⟨i,d,hi,hd,N,Q,b⟩:=gJ I;have l:=AO I;unfold yd at e;split at e
 .cases e
 .rename_i z G
  have D:i.zero=some z:=by rw[<-Q];exact G
  have o:aC w M L h (z.cells.toList.map λv=>AV.pv (.val v)) z.cells.toList:=by
   refine⟨by simp,λq p u hp s=>?_⟩;simp only[YS,II]at hp;obtain⟨y,O,rfl⟩:=hp;rw[O]at s;injection s with s;subst s;exact .pv (.val _)
  have c:(zeroValue t).run C.P w=.ok z w:=by simp[zeroValue,kS hi,D]
  split at e
  .rename_i fs a
   rw[b]at a;split at a
   .rename_i g
    injection a with a;simp only[II]at e;obtain⟨cells,A,rfl⟩:=e;obtain⟨arr,h2,h3⟩:=uY (arr:=z.cells) _ o hp A;refine⟨.agg arr,?_,?_⟩
    .have k:∀f∈g.toList,∃i,C.P.info? f.type=some i:=by
      unfold mb at l;rw[hd]at l;intro f hf;exact Zl.1 (L4.1 l f hf)
     have F:=AP (P:=C.P) w g.toList k;simp only[Instr.build,Sem.run_bind,c,Result.andThen_ok,bL hd,Array.mapM_eq_mapM_toList,Sem.run_map,F]
     have m:(λ(x:Nat)=>(List.map (λf=>(f.offset,oZ C.P f.type)) g.toList).toArray[x]?)=λ(i:Nat)=>fs[i]?:=by funext x;rw[<-a];simp
     simp only[m,h2];rfl
    .have:=tG h3
     simpa using this
   .cases a
   .split at a<;>cases a
   .cases a
  .rename_i n B a
   rw[b]at a;split at a
   .cases a
   .rename_i R K
    injection a with _ a;simp only[II]at e;obtain⟨cells,A,rfl⟩:=e;obtain⟨arr,h2,h3⟩:=uY (arr:=z.cells) _ o hp A;refine⟨.agg arr,?_,?_⟩
    .have k:∃j,C.P.info? K=some j:=by
      unfold mb at l;rw[hd]at l;exact Zl.1 l
     obtain⟨j,H⟩:=k
     have E:j.size=B:=by rw[<-a];simp[oZ,H]
     simp only[Instr.build,Sem.run_bind,c,Result.andThen_ok,bL hd,fG H,E,h2];rfl
    .have:=tG h3
     simpa using this
   .split at a<;>cases a
   .cases a
  .cases e
theorem zh(hs:∀k b,h1 k=some b->h k=some b){fz:Nat}{xs:List PV}(d:h k=some (.row e sz xs fz))(hc:ub h1 k n=true):xs.length=n:=by
 unfold ub at hc;split at hc
 .rename_i i f g c a
  have:=hs _ _ a;rw[d]at this;injection this with this;injection this with _ _ a3 _;subst a3;simpa using hc
 .cases hc
theorem y8(Q:az C.P t=some ti){v:AV}{f:Nat}(hs:∀k b,h1 k=some b->h k=some b)(K:RepA w M L h x u)(e:pR ti x f h1=some v):
 ∃r,(Instr.fieldAt t u f).run C.P w=.ok r w/\RepA w M L h v r:=by
 obtain⟨i,d,hi,hd,O,U,m⟩:=gJ Q;unfold pR at e;split at e
 .rename_i fs a
  rw[m]at a;split at a
  .rename_i G
   injection a with a;split at e
   .rename_i o s hf
    split at e
    .cases e
    .rename_i N
     rw[<-a]at hf;simp only[YS,II,Y6]at hf;obtain⟨p,H,rfl,g⟩:=hf
     have l:∃j,C.P.info? p.type=some j/\j.size≠0:=by
      unfold oZ at g
      cases E:C.P.info? p.type with
      |none=>rw[E]at g;simp at g;omega
      |some j=>rw[E]at g;simp at g;exact⟨j,rfl,by omega⟩
     obtain⟨j,E,I⟩:=l
     have A:G[f]?=some p:=by rw[<-Array.getElem?_toList];exact H
     have c:∀b q,(Instr.fieldAt t (.pointer (some ⟨b,q,none⟩)) f).run C.P w=.ok (.pointer (some ⟨b,q+p.offset,none⟩)) w:=by
      intro b q;simp only[Instr.fieldAt,Sem.run_bind,bL hd,Result.andThen_ok,A,Instr.sureAddr,Sem.run_pure,fieldPlace,fG E,I,Y5,fo]
     split at e
     .injection e with e;subst e
      cases K with
      |ptr F=>exact⟨_,c _ _,.ptr F⟩
     .rename_i y D
      injection e with e;subst e
      cases K with
      |pv J=>cases J with
       |rptr _ b S _ T hc J=>exact⟨_,c _ _,.pv (by rw[yAn];exact .rptr y b S (D+p.offset) T hc J)⟩
     .rename_i k n V D
      split at e
      .rename_i z
       injection e with e;subst e
       cases K with
       |eptr F hn R=>
        obtain⟨B,rfl⟩:=R (zh hs F z);exact⟨_,c _ _,.eptr F hn (λ_=>⟨B,by rw[yAn]⟩)⟩
      .cases e
     .cases e
   .cases e
  .cases a
  .split at a<;>cases a
  .cases a
 .cases e
end
section
variable {C:Cx} {L:Nat->Loc} {h1 h:Hp} {w:World}
theorem za(hs:∀k b,h1 k=some b->h k=some b)(V:az C.P t=some ti){v:AV}{n:Int}{kk:IntKind}(N:RepA w M L h x u)
 (H:∀k e sz xs fz,h k=some (.row e sz xs fz)->(L k).isNil=true->xs=[])(e:pS ti x n h1=some v):
 ∃r,(Instr.indexAt t u (.int kk n)).run C.P w=.ok r w/\RepA w M L h v r:=by
 obtain⟨i,d,hi,hd,I,hz,S⟩:=gJ V;unfold pS at e;split at e
 .rename_i et l eb ez q
  obtain⟨K,Y,z,rfl,rfl,_⟩:=dK V q
  have a:∀b o len cap,0<=n->n.toNat<len->(Instr.indexAt t (.slice (some ⟨b,o,none⟩) len cap) (.int kk n)).run C.P w=.ok (.pointer (some ⟨b,o+n.toNat*Y.size,none⟩)) w:=by
   intro b o len cap A g;have hc:0<=n/\n<(len:Int):=⟨A,by omega⟩;simp only[Instr.indexAt,asIntOf,Sem.run_bind,Sem.run_pure,Result.andThen_ok,bL K,hc,and_self,Za,fG z,fo]
  split at e
  .rename_i xs
   split at e
   .rename_i A
    split at e
    .rename_i y O
     split at e
     .rename_i X
      injection e with e;subst e;have g:n.toNat<xs.length:=(th.1 O).1
      cases N with
      |pv D=>cases D with
       |sl0=>simp at O
       |sl _ b o c sz uu ad I hc D=>
        refine⟨_,a b o _ c A g,.pv ?_⟩
        have J:sz=Y.size:=by rw[<-I _ y O];exact X
        subst J;have:=Rep.rptr (w:=w) (M:=M) y b (o+n.toNat*Y.size) 0 (λj=>uu n.toNat j) (λj p z=>by have:=hc _ y j p O z;rwa [<-Nat.add_assoc]at this) (λj p z=>D _ y j p O z);exact this
     .cases e
    .cases e
   .cases e
  .rename_i k m
   split at e
   .rename_i e0 sz xs fz q
    split at e
    .rename_i hc
     obtain⟨U,E,A,g⟩:=hc;injection e with e;subst e;have B:=hs _ _ q
     cases N with
     |arr s ah W=>
      rw[B]at s;injection s with s;injection s with a1 a2 a3 a4;subst a1;subst a2;subst a3;subst a4;rw[W U]
      cases f:(L k).isNil with
      |true=>rw[H k _ _ _ _ B f]at U;simp at U;omega
      |false=>
       simp only[Loc.slice,f,YU,Y5];refine⟨_,a _ _ _ _ A g,.eptr B (by omega) (λ_=>⟨f,?_⟩)⟩;rw[E];simp
    .cases e
   .cases e
  .cases e
 .rename_i len l q
  split at e
  .rename_i hc
   obtain⟨A,g⟩:=hc
   have F:∃Q,d=.array len Q/\oZ C.P Q=l:=by
    grind
   obtain⟨Q,rfl,E⟩:=F
   have T:∃j,C.P.info? Q=some j:=by
    have:=AO V
    grind [mb,Option.isSome_iff_exists]
   obtain⟨j,z⟩:=T
   have R:j.size=l:=by rw[<-E];simp[oZ,z]
   have a:∀b o,(Instr.indexAt t (.pointer (some ⟨b,o,none⟩)) (.int kk n)).run C.P w=.ok (.pointer (some ⟨b,o+n.toNat*l,none⟩)) w:=by
    intro b o;have hc:0<=n/\n<(len:Int):=⟨A,by omega⟩;simp only[Instr.indexAt,asIntOf,Sem.run_bind,Sem.run_pure,Result.andThen_ok,bL hd,Instr.sureAddr,hc,and_self,Za,fG z,fo,R]
   split at e
   .injection e with e;subst e
    cases N with
    |ptr q=>exact⟨_,a _ _,.ptr q⟩
   .rename_i y Z
    injection e with e;subst e
    cases N with
    |pv D=>cases D with
     |rptr _ b o' _ uu hc D=>exact⟨_,a _ _,.pv (by rw[yAn];exact .rptr y b o' _ uu hc D)⟩
   .rename_i k m j' Z
    split at e
    .rename_i G
     injection e with e;subst e
     cases N with
     |eptr q hn W=>
      obtain⟨f,rfl⟩:=W (zh hs q G);exact⟨_,a _ _,.eptr q hn (λ_=>⟨f,by rw[yAn]⟩)⟩
    .cases e
   .cases e
  .cases e
 .cases e
theorem B7(hs:∀k b,h1 k=some b->h k=some b)(B:az C.P t=some ti){v:AV}{n:Int}{kk:IntKind}(D:RepA w M L h x u)(e:uP ti x n h1=some v):
 ∃r,(Instr.indexAt t u (.int kk n)).run C.P w=.ok r w/\RepA w M L h v r:=by
 unfold uP at e;split at e
 .rename_i I G J k m Q q
  obtain⟨a,E,p,i,_,_⟩:=dK B q;split at e
  .rename_i g
   injection e with e;subst e
   cases D with
   |ext j=>cases j with
    |barr K d=>
     have hc:0<=n/\n<(m:Int):=⟨g.1,by omega⟩;refine⟨.pointer (some ⟨(L k).b,n.toNat,none⟩),?_,.ptr d⟩;simp only[Instr.indexAt,asIntOf,Sem.run_bind,Sem.run_pure,Result.andThen_ok,bL a,hc,and_self,Za,fG p,fo,i,yAr,ZS]
  .cases e
 .rename_i I H G J k o m t9 q
  obtain⟨a,E,p,i,_,_⟩:=dK B q;split at e
  .rename_i e0 sz xs R s
   split at e
   .rename_i g
    obtain⟨c1,F,z,l⟩:=g;injection e with e;subst e;have d:=hs _ _ s
    cases D with
    |ext j=>cases j with
     |suf _ f N y O=>
      rw[d]at f;injection f with f;injection f with _ a2 a3 _;subst a2;subst a3;obtain⟨A,c,rfl,h9⟩:=O c1;rcases h9 with⟨g1,rfl,g3⟩|⟨g1,_,_⟩
      .have hc:0<=n/\n<(m:Int):=⟨z,(Int.toNat_lt z).1 l⟩
       refine⟨.pointer (some ⟨(L k).b,o*sz+n.toNat*E.size,none⟩),?_,.eptr d y (λ_=>⟨g1,?_⟩)⟩
       .simp only[Instr.indexAt,asIntOf,Sem.run_bind,Sem.run_pure,Result.andThen_ok,bL a,hc,and_self,Za,fG p,fo]
       .rw[i,<-F,Zz,yAP]
      .rw[g1]at l;exact absurd l (Nat.not_lt_zero _)
   .cases e
  .cases e
 .cases e
theorem Eu{x y:Option AV}{v:AV}(e:BW x y=some v):x=some v\/y=some v:=by
 cases x with
 |some a=>exact .inl e
 |none=>exact .inr e
theorem Ev{x y:Option bP}{v:bP}(e:BX x y=some v):x=some v\/y=some v:=by
 cases x with
 |some a=>exact .inl e
 |none=>exact .inr e
theorem Gw(hs:∀k b,h1 k=some b->h k=some b){ty:TypeId}(m:az C.P t=some ti){v:AV}(p:RepA w M L h x u)
 (G:∀k e sz xs z,h k=some (.row e sz xs z)->(L k).isNil=true->xs=[])(e:DX ti x h1=some v):
 ∃r,(Builtin.len_ #[t] ty #[u]).run C.P w=.ok r w/\RepA w M L h v r:=by
 unfold DX at e;split at e
 .rename_i s i q y xs f
  obtain⟨d,_⟩:=dK m f;injection e with e;subst e
  have:∃A c,u=.slice A xs.length c:=by
   cases p with
   |pv E=>cases E with
    |sl0 a c=>exact⟨a,c,rfl⟩
    |sl _ b o c=>exact⟨_,c,rfl⟩
  obtain⟨A,c,rfl⟩:=this;exact⟨_,by simp[Builtin.len_,bL d,goInt],.pv (.val _)⟩
 .rename_i s i q y n f
  obtain⟨d,_⟩:=dK m f;injection e with e;subst e
  cases p with
  |pv E=>cases E with
   |hd _ A c=>exact⟨_,by simp[Builtin.len_,bL d,goInt],.pv (.val _)⟩
 .rename_i s i q y k n f
  obtain⟨d,_⟩:=dK m f;split at e
  .rename_i e0 sz xs z f
   split at e
   .rename_i F
    injection e with e;subst e;have l:=hs _ _ f
    have:∃A c,u=.slice A n c:=by
     cases p with
     |arr g D H=>
      grind [Loc.slice]
    obtain⟨A,c,rfl⟩:=this;exact⟨_,by simp[Builtin.len_,bL d,goInt],.pv (.val _)⟩
   .cases e
  .cases e
 .rename_i s i q y k n J f
  obtain⟨d,_⟩:=dK m f;injection e with e;subst e
  cases p with
  |ext j=>cases j with
   |barr _ _=>exact⟨_,by simp[Builtin.len_,bL d,goInt],.pv (.val _)⟩
 .rename_i s i q y k o n t9 f
  obtain⟨d,_⟩:=dK m f;split at e
  .rename_i e0 sz xs z B
   split at e
   .rename_i F
    injection e with e;subst e;have l:=hs _ _ B
    cases p with
    |ext j=>cases j with
     |suf _ g D I H=>
      rw[l]at g;injection g with g;injection g with _ a2 a3 _;subst a2;subst a3;obtain⟨A,c,rfl,_⟩:=H F;exact⟨_,by simp[Builtin.len_,bL d,goInt],.pv (.val _)⟩
   .cases e
  .cases e
 .cases e
def Pw(ul:Option Value)(y:Nat):Sem Nat:=match ul with|some v=>Instr.sliceBound v y .sliceB|none=>pure 0
def Px(uh:Option Value)(n c:Nat):Sem Nat:=match uh with|some v=>Instr.sliceBound v c .sliceAcap|none=>pure n
theorem vY(ht:az C.P t=some ti){v:AV}(T:RepA w M L h x u){lo hi:Option AV}{ul uh:Option Value}
 (R:∀a,lo=some a->∃b,ul=some b/\RepA w M L h a b)(F:lo=none->ul=none)(Q:∀a,hi=some a->∃b,uh=some b/\RepA w M L h a b)(B:hi=none->uh=none)
 (e:kw ti x lo hi=some v):
 ∃r,(Instr.sliceAt t u ul uh none).run C.P w=.ok r w/\RepA w M L h v r:=by
 unfold kw at e;split at e
 .rename_i et W eb ez xs hk
  obtain⟨I,m,D,rfl,rfl,_⟩:=dK ht hk;simp only at e;split at e
  .rename_i l r g d
   split at e
   .rename_i hc
    obtain⟨c1,U,c3,V⟩:=hc;injection e with e;subst e
    have X:∃A c,u=.slice A xs.length c/\xs.length<=c:=by
     cases T with
     |pv d=>cases d with
      |sl0 a c=>exact⟨a,c,rfl,ZG _⟩
      |sl _ b o c _ _ s=>exact⟨_,c,rfl,s⟩
    obtain⟨A,c,rfl,ad⟩:=X
    have N:∀y,l<=y->(Pw ul y).run C.P w=.ok l w:=by
     intro y k
     cases lo with
     |none=>rw[F rfl];simp at g;subst g;rfl
     |some a=>
      obtain⟨b,rfl,hb⟩:=R a rfl
      cases a with
      |pv p=>cases p with
       |val S=>cases S with
        |int kk n=>
         cases hb with
         |pv hb=>
          rw[aJ hb];simp only at g;split at g
          .rename_i K
           injection g with g;have:0<=n/\n<=(y:Int):=⟨K,by omega⟩;simp[Pw,Instr.sliceBound,asIntOf,this,g]
          .cases g
        |_=>simp at g
       |_=>simp at g
      |_=>simp at g
    have Z:(Px uh xs.length c).run C.P w=.ok r w:=by
     cases hi with
     |none=>rw[B rfl];simp at d;subst d;rfl
     |some a=>
      obtain⟨b,rfl,hb⟩:=Q a rfl
      cases a with
      |pv p=>cases p with
       |val S=>cases S with
        |int kk n=>
         cases hb with
         |pv hb=>
          rw[aJ hb];simp only at d;split at d
          .rename_i K
           injection d with d;have:0<=n/\n<=(c:Int):=⟨K,by omega⟩;simp[Px,Instr.sliceBound,asIntOf,this,d]
          .cases d
        |_=>simp at d
       |_=>simp at d
      |_=>simp at d
    refine⟨.slice (if c=l then A else A.map (·.add (l*m.size))) (r-l) (c-l),?_,?_⟩
    .have Y:=N r c1
     have key:(Instr.sliceBounds true xs.length c ul uh none).run C.P w=.ok (l,r,c) w:=by
      unfold Instr.sliceBounds;cases uh<;>cases ul<;>simp_all[Pw,Px]
     simp only[Instr.sliceAt,Sem.run_bind,bL I,Result.andThen_ok,Instr.slice,key,fG D,Sem.run_pure]
    .have E:((xs.take r).drop l).length=r-l:=by simp;omega
     refine .pv ?_;by_cases hz:r-l=0
     .have:(xs.take r).drop l=[]:=Zn (by omega)
      rw[this,hz];exact .sl0 _ _
     .cases T with
      |pv q=>cases q with
       |sl0=>simp at U;omega
       |sl _ b o _ sz uu ah G z q=>
        have O:¬c=l:=by omega
        rw[YR O]
        have H:sz=m.size:=by
         have J:0<xs.length:=by omega
         rw[<-G 0 xs[0] (an J)];have:=L4.1 V xs[0] (Zd J);simp[rH]at this;exact this.1
        subst H;simp only[ZD,fo];rw[<-E]
        have f:∀(i:Nat) y,((xs.take r).drop l)[i]?=some y->xs[l+i]?=some y:=by
         intro i y k;rw[ZO,Zj]at k;split at k
         .exact k
         .cases k
        refine .sl _ b (o+l*m.size) _ m.size (λi j=>uu (l+i) j) (by omega) (λi y k=>G _ y (f i y k)) (λi y j p k D=>?_) (λi y j p k D=>q _ y j p (f i y k) D);have:=z _ y j p (f i y k) D;rw[Zz]at this;rw[show o+l*m.size+(i*m.size+j)=o+(l*m.size+i*m.size+j) from by omega];exact this
   .cases e
  .cases e
 .cases e
theorem Il{a:Bool}(b:MemL C L h w)(hf:bH h1 h)(d:RepA w (ab C L h) L h x u)(e:Ic a h1 x=some (p,W)):
 aF C L h w L (ag h W) w/\Rep w (ab C L (ag h W)) p u/\bH h1 (ag h W):=by
 unfold Ic at e;split at e
 .injection e with e;injection e with e1 e2;subst e1;subst e2
  cases d with
  |pv c=>exact⟨aF.refl b,c,hf⟩
 grind [m9]
theorem vZ{ρ:Operand->AV}{σ:Operand->Value}{b:Nat}{l:Bool}:∀{ps:List (Nat×Operand)}{k:Nat}{h:Hp}(_:MemL C L h w)(_:bH h1 h)(_:∀x∈ps.map (·.2),RepA w (ab C L h) L h (ρ x) (σ x)){xs:List PV}{W:List (Nat×Blk)},
 rz h1 ρ b l k ps=some (xs,W)->aF C L h w L (ag h W) w/\bH h1 (ag h W)/\xs.length=ps.length/\(∀x∈xs,x.cells.length=b)/\
  (∀(q:Nat)(i:Nat)(v:Value),(ps.map λ(i,x)=>(i,σ x))[q]?=some (i,v)->i=k+q/\∃p,xs[q]?=some p/\Rep w (ab C L (ag h W)) p v)
 |[],k,h,d,hf,g,xs,W,e=>by
  simp only[rz,YV,Y6]at e;obtain⟨rfl,rfl⟩:=e;exact⟨aF.refl d,hf,rfl,by simp,λq i v h=>by simp at h⟩
 |(i,x)::ps,k,h,d,hf,g,xs,W,e=>by
  simp only[rz]at e;split at e
  .rename_i c
   subst c;split at e
   .rename_i p H G I B D
    split at e
    .rename_i f
     injection e with e;injection e with ea eb;subst ea;subst eb;obtain⟨a1,m,n⟩:=Il d hf (g x (by simp)) B;obtain⟨b1,o,r,s,u⟩:=vZ a1.1 n (λy a=>(g y (by simp at a|-;exact .inr a)).mono a1.2.1 a1.2.2) D;rw[bG];refine⟨a1.trans b1,o,by simp[r],?_,?_⟩
     .intro y a
      rcases Zi.1 a with rfl|a
      .exact f
      .exact s y a
     .intro q E v j
      cases q with
      |zero=>simp at j;obtain⟨rfl,rfl⟩:=j;exact⟨by omega,p,rfl,m.mono b1.2.1⟩
      |succ q=>
       obtain⟨c1,F,z,A⟩:=u q E v (by simpa using j);exact⟨by omega,F,by simpa using z,A⟩
    .cases e
   .cases e
  .cases e
theorem wK{c:Nat}:∀{vs:List (Nat×Value)}{k:Nat}{arr:Array Value},(∀(q:Nat) i v,vs[q]?=some (i,v)->i=k+q/\v.cells.size=c)->arr.size=(k+vs.length)*c->
 ∃d,Instr.fill (λi=>some (i*c,c)) arr vs=some d/\d.size=arr.size/\(∀q,q<k*c->d[q]?=arr[q]?)/\
  ∀(q:Nat) i v(j:Nat),vs[q]?=some (i,v)->j<c->d[(k+q)*c+j]?=v.cells[j]?
 |[],k,arr,_,o=>⟨arr,rfl,rfl,λ_ _=>rfl,λq i v j h=>by simp at h⟩
 |(i,v)::vs,k,arr,s,o=>by
  obtain⟨u,y⟩:=s 0 i v rfl
  obtain rfl:k=i:=by omega
  have x:k*c+c<=arr.size:=by rw[o];simp only[yAq];rw[Zz,Zz];omega
  have m:¬((v.cells.size≠c||k*c+v.cells.size>arr.size)=true):=by simp;omega
  simp only[Instr.fill,YR m]
  have e:(v.cells.zipIdx.foldl (λcs(p:Value×Nat)=>cs.setIfInBounds (k*c+p.2) p.1) arr).toList=bo arr.toList (k*c) v.cells.toList:=by
   have:=rK (k*c) v.cells.toList 0 arr (by simp;omega);rw[<-Array.foldl_toList,Array.toList_zipIdx];simpa using this
  generalize B:v.cells.zipIdx.foldl (λcs(p:Value×Nat)=>cs.setIfInBounds (k*c+p.2) p.1) arr=A at e
  have g:A.size=arr.size:=by
   have:A.toList.length=arr.size:=by rw[e];simp[bo];omega
   simpa using this
  obtain⟨d,g1,g2,g3,g4⟩:=wK (vs:=vs) (k:=k+1) (arr:=A) (λq i r hq=>by
   obtain⟨a,b⟩:=s (q+1) i r (by simpa using hq);exact⟨by omega,b⟩) (by rw[g,o];simp only[yAq];congr 1;omega)
  have f:∀q,q<k*c->A[q]?=arr[q]?:=by
   intro q hq;rw[<-Array.getElem?_toList,e];unfold bo;rw[ZY,YT (by simp;omega),Zj,YY hq];simp
  have l:∀j,j<c->A[k*c+j]?=v.cells[j]?:=by
   intro j n;rw[<-Array.getElem?_toList,e];unfold bo;rw[ZY,YX (by simp;omega),YT (by simp;omega)];simp only[ZA,ZX];rw[show k*c+j-min (k*c) arr.size=j from by omega];simp
  refine⟨d,g1,by omega,λq hq=>?_,λq z r j hq n=>?_⟩
  .rw[g3 q (by rw[Zz];omega),f q hq]
  .cases q with
   |zero=>
    simp at hq;obtain⟨rfl,rfl⟩:=hq;rw[yAP,g3 _ (by rw[Zz];omega),l j n]
   |succ q=>
    have:=g4 q z r j (by simpa using hq) n;rw[show k+(q+1)=k+1+q from by omega];exact this
end
section
variable {C:Cx} {L:Nat->Loc} {h1 h:Hp} {w:World}
theorem Ew(c:∀cs b,o.op≠.select cs b)(j:∀x∈o.op.operands,RepA w M L h (ρ x) (σ x)){v:AV}
 (e:aV C.P o ρ=some (v,W)):∃u,(execOp σ o).run C.P w=.ok (.value u) w/\W=[]/\v=.pv (.val u):=by
 unfold aV at e;split at e
 .rename_i a
  split at e
  .rename_i u f
   injection e with e;injection e with e1 e2;subst e1;subst e2
   have d:execOp σ o=execOp (λx=>qU (ρ x)) o:=by
    refine execOp_congr o c (λx g=>?_);have h1:=L4.1 a x (by simpa using g);have h2:=j x g;generalize ρ x=y at h1 h2|-
    cases y with
    |pv p=>cases p with
     |val k=>cases h2 with
      |pv i=>rw[aJ i];rfl
     |_=>simp[eN]at h1
    |_=>simp[eN]at h1
   grind [eJ]
  .cases e
 .cases e
theorem Tq{args:List Operand}(e:args.map ρ=[x]):∃a,args=[a]/\ρ a=x:=by
 simp_all
theorem Im{args:List Operand}{y:AV}(e:args.map ρ=[x,y]):∃a b,args=[a,b]/\ρ a=x/\ρ b=y:=by
 cases args with
 |nil=>simp at e
 |cons a r=>cases r with
  |nil=>simp at e
  |cons b r=>cases r with
   |nil=>simp at e;exact⟨a,b,rfl,e.1,e.2⟩
   |cons=>simp at e
theorem af{α β:Type}{P:Program}:∀(s:Sem α)(f:α->Sem β),al P (s >>= f)=(al P s).bind λa=>al P (f a)
 |.pure a,f=>rfl
 |.program k,f=>by
  show al P ((k P) >>= f)=_;rw[af (k P) f];rfl
 |.load _ _ _,_=>rfl
 |.store _ _ _ _,_=>rfl
 |.new _ _,_=>rfl
 |.shape _ _,_=>rfl
 |.freeze _ _ _,_=>rfl
 |.frozen _ _,_=>rfl
 |.getObj _ _,_=>rfl
 |.setObj _ _ _,_=>rfl
 |.choose _ _,_=>rfl
 |.sys _ _,_=>rfl
 |.mark _ _,_=>rfl
 |.halt _,_=>rfl
theorem cK{α:Type}(a:α):al P (pure a)=some a:=rfl
theorem dW(h1:(o.op.operands.toList.all λx=>(eN (ρ x)).isSome)=true)(h2:al P (execOp (λx=>qU (ρ x)) o)=some (.value v)):aV P o ρ=some (.pv (.val v),[]):=by
 grind [aV]
theorem bC(h:x=.pv (.val v)):eN x=some v/\qU x=v:=by subst h;exact⟨rfl,rfl⟩
theorem Gx{y:AV}(e:ud op x y=some v)(P:Program)(t:TypeId)(d f:Operand):
 ∃a b,x=.pv (.val a)/\y=.pv (.val b)/\al P (do eqGuard op t d f a b;binOp op t a b)=some v:=by
 unfold ud at e;split at e
 .rename_i k a g b
  refine⟨.int k a,.int g b,rfl,rfl,?_⟩
  have c:al P (eqGuard op t d f (.int k a) (.int g b))=some ():=by unfold eqGuard;cases op<;>rfl
  rw[af,c];simp only[Y3];cases op<;>simp only at e
  case shl=>
   split at e
   .rename_i h;injection e with e;subst e
    have:¬b<0:=by omega
    simp only[binOp,Op.shift,this,Y5];rfl
   .cases e
  case shr=>
   split at e
   .rename_i h;injection e with e;subst e
    have:¬b<0:=by omega
    simp only[binOp,Op.shift,this,Y5];rfl
   .cases e
  case quo=>
   split at e
   .rename_i h;injection e with e;subst e
    obtain⟨rfl,hb⟩:=h;simp only[binOp,ne_eq,yAi,Y5,Op.intDiv,hb];rfl
   .cases e
  case rem=>
   split at e
   .rename_i h;injection e with e;subst e
    obtain⟨rfl,hb⟩:=h;simp only[binOp,ne_eq,yAi,Y5,Op.intDiv,hb];rfl
   .cases e
  all_goals first
   |(split at e
     .rename_i h;injection e with e;subst e;subst h
      simp only[binOp,ne_eq,yAi,Y5];rfl
     .cases e)
   |cases e
 .rename_i a b
  refine⟨.string a,.string b,rfl,rfl,?_⟩
  have c:al P (eqGuard op t d f (.string a) (.string b))=some ():=by unfold eqGuard;cases op<;>rfl
  rw[af,c];simp only[Y3]
  cases op<;>simp only at e<;>first|(injection e with e;subst e;rfl)|cases e|skip
  split at e
  .rename_i h
   injection e with e;subst e;show al P (Op.stringOp .add a b)=_;unfold Op.stringOp;simp only;rw[YR (by rw[show i64.max=9223372036854775807 by decide];omega)];rfl
  .cases e
 .cases e
theorem Lb{x:Operand}(c:o.op=.binOp op t x y t')(e:ud op (ρ x) (ρ y)=some v):aV P o ρ=some (.pv (.val v),[]):=by
 obtain⟨a,b,d,f,g⟩:=Gx e P t x y;refine dW (by rw[c];simp[Op.operands,d,f,eN]) ?_;unfold execOp;rw[c];simp only[(bC d).2,(bC f).2];rw[af,g];rfl
theorem NZ{op:UnOp}{x:Operand}(c:o.op=.unOp op t x)(e:AF op (ρ x)=some v):aV P o ρ=some (.pv (.val v),[]):=by
 unfold AF at e;split at e
 .rename_i b a
  injection e with e;subst e;refine dW (by rw[c];simp[Op.operands,a,eN]) ?_;unfold execOp;rw[c];simp only[(bC a).2];rfl
 .rename_i k n a
  injection e with e;subst e;refine dW (by rw[c];simp[Op.operands,a,eN]) ?_;unfold execOp;rw[c];simp only[(bC a).2];rfl
 .cases e
theorem v8{k:IntKind}(e:gH P t=some k):P.underlying t=some (.int k):=by
 grind [gH]
theorem cG{d:TypeDesc}(e:P.underlying t=some d):al P (underlying t)=some d:=by
 unfold underlying;rw[af];show al P (match P.underlying t with|some d=>pure d|none=>stuck "no such type")=some d;rw[e];rfl
theorem JL{s d:TypeId}{x:Operand}(a:o.op=.convert s d x)(e:uU P s d (ρ x)=some v):aV P o ρ=some (.pv (.val v),[]):=by
 unfold uU at e;split at e
 .rename_i c k k1 n h1 h2 b
  injection e with e;subst e;refine dW (by rw[a];simp[Op.operands,b,eN]) ?_;unfold execOp;rw[a];simp only[(bC b).2];rw[af]
  have:al P (convert s d (.int k1 n))=some (.int k (k.wrap n)):=by
   unfold convert;rw[af,cG (v8 h1)];simp only[Y3];rw[af,cG (v8 h2)];rfl
  rw[this];rfl
 .cases e
theorem Lc{as:List Operand}(d:o.op=.call ⟨.builtin .min,⟨as⟩,⟨ts⟩⟩)(e:yh (as.map ρ)=some v):aV P o ρ=some (.pv (.val v),[]):=by
 unfold yh at e;split at e
 .rename_i k a i b c
  injection e with e;subst e;obtain⟨x,y,rfl,f,g⟩:=Im c;refine dW (by rw[d];simp[Op.operands,Call.operands,f,g,eN]) ?_;unfold execOp;rw[d];simp[resolve,invoke,builtin,Builtin.min_,(bC f).2,(bC g).2,Builtin.min2,af,cK]
 .cases e
theorem Ld{as:List Operand}(d:o.op=.call ⟨.builtin .max,⟨as⟩,⟨ts⟩⟩)(e:yi (as.map ρ)=some v):aV P o ρ=some (.pv (.val v),[]):=by
 unfold yi at e;split at e
 .rename_i k a i b c
  injection e with e;subst e;obtain⟨x,y,rfl,f,g⟩:=Im c;refine dW (by rw[d];simp[Op.operands,Call.operands,f,g,eN]) ?_;unfold execOp;rw[d];simp[resolve,invoke,builtin,Builtin.max_,(bC f).2,(bC g).2,Builtin.max2,af,cK]
 .cases e
theorem kT{q:Option Value}{e:bP}(h:∀v,q=some v->aV P o ρ=some (.pv (.val v),[]))(a:nK P o ρ q=some e):aV P o ρ=some e:=by
 cases q with
 |none=>exact a
 |some v=>rw[h v rfl];exact a
theorem mK{i:TypeInfo}(h:P.info? t=some i):al P (typeInfo t)=some i:=by
 unfold typeInfo;rw[af];show(some P).bind _=_;rw[Y3,h];rfl
theorem N0{x i:Operand}(g:o.op=.index t x i)(e:AG (qd P t) (ρ x) (ρ i)=some v):aV P o ρ=some (.pv (.val v),[]):=by
 unfold AG at e;split at e
 .rename_i s k n y f hi
  have c:P.underlying t=some .string:=by
   grind [qd]
  split at e
  .rename_i l
   simp only[II]at e;obtain⟨b,hb,rfl⟩:=e;refine dW (by rw[g];simp[Op.operands,f,hi,eN]) ?_;unfold execOp;rw[g];simp only[(bC f).2,(bC hi).2]
   have h1:al P (Instr.index t (.string s) (.int k n))=some (.int .u8 b.toNat):=by
    unfold Instr.index;simp only[asIntOf,pure_bind];rw[af,cG c,Y3];simp only[l,Za,hb];rfl
   rw[af,h1];rfl
  .cases e
 .rename_i m cs k n y f hi
  split at e
  .rename_i l
   have c:∃el d,P.underlying t=some (.array m el)/\P.underlying el=some d/\(∀fs,d≠.struct fs)/\(∀a b,d≠.array a b)/\∃j,P.info? el=some j/\j.size=1:=by
    grind [qd,Option.isSome_iff_exists,oZ]
   obtain⟨el,d,c,hd,z,ha,j,u,q⟩:=c;refine dW (by rw[g];simp[Op.operands,f,hi,eN]) ?_;unfold execOp;rw[g];simp only[(bC f).2,(bC hi).2]
   have r:al P (sizeOf el)=some 1:=by
    unfold sizeOf;rw[af,mK u,Y3,<-q];rfl
   have p:al P (isAgg el)=some false:=by
    unfold isAgg;rw[af,cG hd,Y3]
    cases d<;>first|rfl|exact absurd rfl (z _)|exact absurd rfl (ha _ _)
   have h1:al P (Instr.index t (.agg cs) (.int k n))=some v:=by
    unfold Instr.index;simp only[asIntOf,pure_bind];rw[af,cG c,Y3];simp only[l,and_self,Za];rw[af,r,Y3,yAr];unfold part;rw[af,p,Y3];simp only[YU,Y5,e];rfl
   rw[af,h1];rfl
  .cases e
 .cases e
def Io(C:Cx)(L:Nat->Loc)(h:Hp)(w:World)(o:Oper)(σ:Operand->Value)(v:AV)(W:List (Nat×Blk)):Prop:=
 ∃n u b a,(execOp σ o).run C.P w=.ok n b/\(n=.value u\/(n=.skip/\u=undef))/\aF C L h w a (ag h W) b/\RepA b (ab C a (ag h W)) a (ag h W) v u
theorem dk(a:MemL C L h w){v:AV}(b:RepA w (ab C L h) L h v u)(e:(execOp σ o).run C.P w=.ok (.value u) w):Io C L h w o σ v []:=
 ⟨_,u,w,L,e,.inl rfl,aF.refl a,b⟩
theorem iA(c:MemL C L h w)(a:∀cs b,o.op≠.select cs b)(d:∀x∈o.op.operands,RepA w (ab C L h) L h (ρ x) (σ x)){v:AV}
 (e:aV C.P o ρ=some (v,W)):Io C L h w o σ v W:=by
 obtain⟨u,h1,rfl,rfl⟩:=Ew a d e;exact dk c (.pv (.val u)) h1
theorem AQ(P:Program)(t:TypeId)(v:Value):(newVar t v).run P w=.ok ⟨w.heap.size,0,none⟩ (w.alloc (.cells v.cells t)):=rfl
theorem GZ(c:MemL C L h w):∀k e sz xs a,h k=some (.row e sz xs a)->(L k).isNil=true->xs=[]:=λk _ _ _ _ b hn=>(c.bl k _ b).2.2.2.1 hn
theorem sV(a:List Operand)(c:∀x∈a,RepA w M L h (ρ x) (σ x)):aC w M L h (a.map ρ) (a.map σ):=by
 refine⟨by simp,λi p u hp b=>?_⟩
 grind
theorem GA{q:Option Bool}(h:AJ op q=some b):∃a,q=some a/\((op=.eql/\b=a)\/(op=.neq/\b=!a)):=by
 unfold AJ at h
 grind
theorem zR(a:nJ x=true)(c:RepA w M L h x u):u=.slice none 0 0:=by
 unfold nJ at a;split at a
 .cases c with
  |pv b=>rw[aJ b,kR a]
 .cases a
theorem rL(h:mT P t=true):∃e,P.underlying t=some (.slice e):=by
 unfold mT at h;split at h
 .rename_i s z e b c d a
  exact⟨e,(dK a rfl).1⟩
 .cases h
theorem B8(p:MemL C L h w)(hs:∀k b,h1 k=some b->h k=some b)(i:RepA w (ab C L h) L h x u)(e:uV h1 x=some b):∃a n c,u=.slice a n c/\a.isNone=b:=by
 unfold uV at e;split at e
 .rename_i v
  split at e
  .rename_i hn
   injection e with e;subst e
   cases i with
   |pv f=>exact⟨none,0,0,by rw[aJ f,kR hn],rfl⟩
  .cases e
 .rename_i xs
  split at e
  .cases e
  .rename_i g
   injection e with e;subst e
   cases i with
   |pv f=>
    cases f with
    |sl0 a c=>simp at g
    |sl xs b o c sz u j hs hc f=>exact⟨_,_,_,rfl,rfl⟩
 .rename_i k n
  split at e
  .rename_i e0 sz xs r l
   split at e
   .rename_i hc
    injection e with e;subst e
    cases i with
    |arr d q s=>
     rw[hs _ _ l]at d;injection d with d;injection d with a1 a2 a3 a4;subst a3
     have m:(L k).isNil=false:=by
      cases hq:(L k).isNil with
      |false=>rfl
      |true=>exact absurd (by rw[(p.bl k _ (hs _ _ l)).2.2.2.1 hq]at hc;exact hc.1.symm) hc.2
     grind [Loc.slice]
   .cases e
  .cases e
 .cases e
theorem GB(d:Nat){e:TypeId}(a:Option Addr)(n c:Nat)(h:P.underlying t=some (.slice e)):al P (Op.equalIn (d+1) t (.slice a n c) (.slice none 0 0))=some a.isNone:=by
 unfold Op.equalIn;rw[af]
 have:al P (underlying t)=some (.slice e):=by unfold underlying;rw[af];show(some P).bind _=_;rw[Y3,h];rfl
 rw[this,Y3];cases a<;>rfl
theorem B9{dst:Option Nat}{x:Operand}{ty:TypeId}{pos:String}{aft:Array Edge}{g:Option (Nat×Bool)}(i:∃e,P.underlying t=some (.slice e))
 {a:Option Addr}{n c:Nat}(j:σ x=.slice a n c)(k:σ y=.slice none 0 0){b:Bool}(d:(op=.eql/\b=a.isNone)\/(op=.neq/\b=!a.isNone)):
 al P (execOp σ ⟨dst,.binOp op t x y t',ty,pos,aft,g⟩)=some (.value (.bool b)):=by
 obtain⟨e,f⟩:=i;unfold execOp;simp only[j,k];have hq:al P (Op.equal t (.slice a n c) (.slice none 0 0))=some a.isNone:=GB _ a n c f;rcases d with⟨rfl,rfl⟩|⟨rfl,rfl⟩
 .have h1:al P (eqGuard .eql t x y (.slice a n c) (.slice none 0 0))=some ():=rfl
  have h2:al P (binOp .eql t (.slice a n c) (.slice none 0 0))=some (.bool a.isNone):=by simp only[binOp,af,hq,Y3];rfl
  simp only[af,h1,h2,Y3];rfl
 .have h1:al P (eqGuard .neq t x y (.slice a n c) (.slice none 0 0))=some ():=rfl
  have h2:al P (binOp .neq t (.slice a n c) (.slice none 0 0))=some (.bool !a.isNone):=by simp only[binOp,af,hq,Y3];rfl
  simp only[af,h1,h2,Y3];rfl
theorem GC(cs:Array Value)(off sz:Nat):Value.agg (cs.extract off (off+sz))=zM cs off sz:=by
 unfold zM
 congr 1
 grind
theorem rM{j:TypeInfo}(ha:nM P t=some true)(c:P.info? t=some j)(cs:Array Value)(off:Nat):al P (part t cs off)=some (zM cs off j.size):=by
 have a:al P (isAgg t)=some true:=by
  unfold nM at ha;unfold isAgg;rw[af];split at ha
  .rename_i h;rw[cG h];rfl
  .rename_i h;rw[cG h];rfl
  all_goals grind
 have b:al P (sizeOf t)=some j.size:=by
  unfold sizeOf;rw[af,mK c,Y3];rfl
 unfold part;rw[af,a,Y3];show al P (do pure (Value.agg (cs.extract off (off+(<-sizeOf t)))))=_;rw[af,b,Y3,<-GC];rfl
theorem mU(ha:nM P t=some false){off:Nat}(c:cs[off]?=some v):al P (part t cs off)=some v:=by
 have a:al P (isAgg t)=some false:=by
  unfold nM at ha;unfold isAgg;rw[af];split at ha
  .cases ha
  .cases ha
  .rename_i d b hn h
   rw[cG h,Y3]
   cases d<;>first|rfl|exact(b _ rfl).elim|exact(hn _ _ rfl).elim
  .cases ha
 unfold part;rw[af,a,Y3];simp only[YU,Y5,c];rfl
theorem N2{x i:Operand}(b:o.op=.index t x i)(e:AI (DZ P t) (ρ x) (ρ i)=some v):aV P o ρ=some (.pv (.val v),[]):=by
 unfold AI at e;split at e
 .rename_i n sz cs k d a c hi
  split at e
  .rename_i l
   injection e with e;subst e;unfold DZ at a;split at a
   .rename_i m el p
    split at a
    .rename_i j ha f
     injection a with a;injection a with hk1 hk2;subst hk1;subst hk2;refine dW (by rw[b];simp[Op.operands,c,hi,eN]) ?_;unfold execOp;rw[b];simp only[(bC c).2,(bC hi).2]
     have g:al P (sizeOf el)=some j.size:=by
      unfold sizeOf;rw[af,mK f,Y3];rfl
     have h1:al P (Instr.index t (.agg cs) (.int k d))=some (zM cs (d.toNat*j.size) j.size):=by
      unfold Instr.index;simp only[asIntOf,pure_bind]
      grind [af,cG,rM]
     rw[af,h1];rfl
    .cases a
   .cases a
  .cases e
 .cases e
theorem Le{x:Operand}{f:Nat}(g:o.op=.field t x f)(e:yj (ly P t f) (ρ x)=some v):aV P o ρ=some (.pv (.val v),[]):=by
 have key:∀{b c sz cs},ly P t f=some (b,c,sz)->ρ x=.pv (.val (.agg cs))->∀v,(∀t',nM P t'=some b->(∃j,P.info? t'=some j/\j.size=sz)->al P (part t' cs c)=some v)->aV P o ρ=some (.pv (.val v),[]):=by
  intro b c sz cs a i v hp;unfold ly at a;split at a
  .rename_i fs k
   split at a
   .rename_i m d
    split at a
    .rename_i l j ha n
     injection a with a;injection a with hk1 a;injection a with hk2 hk3;subst hk1;subst hk2;subst hk3;refine dW (by rw[g];simp[Op.operands,i,eN]) ?_;unfold execOp;rw[g];simp only[(bC i).2]
     have h1:al P (Instr.field t (.agg cs) f)=some v:=by
      unfold Instr.field;rw[af,cG k,Y3];simp only[d,asAgg,pure_bind]
      grind
     rw[af,h1];rfl
    .cases a
   .cases a
  .cases a
 unfold yj at e
 grind [rM,mU]
theorem Ex{x y:Option Value}(e:yk x y=some v):x=some v\/y=some v:=by
 unfold yk at e
 grind
theorem JM{w:World}{L:Nat->Loc}{h:Hp}(f:Fn){vs:List Value}(h1:aC w M L h first us)(h2:aC w M L h caps vs):RepA w M L h (D0 f first caps) (.func f us.toArray vs.toArray):=by
 unfold D0;split
 .rename_i x r
  have c:=h2.nil_inv;subst c;split
  .rename_i d a
   have e:=qb a;rw[e]at h1;have h3:=h1.map_pv_inv;split
   .rename_i g b
    rw[uO b h3];exact .pv (.val _)
   .exact .pv (.fn f d [] us [] h3.1 rfl h3.2 bn.nil.2)
  .exact .fn f _ _ us [] h1.1 rfl h1.2 aC.nil.2
 .exact .fn f first caps us vs h1.1 h2.1 h1.2 h2.2
theorem zi(h:ue P t=true):∃d,P.underlying t=some d/\∀m,d≠.interface m:=by
 grind [ue]
end
theorem CZ{a:TypeId}(e:zL P t=some (kd,n,a)):∃kt e0 j,P.underlying t=some (.map kt a)/\P.underlying kt=some (.array n e0)/\P.underlying e0=some (.int kd)/\P.info? e0=some j/\j.size=1:=by
 unfold zL at e;split at e
 .rename_i kt b h1
  split at e
  .rename_i d e0 h2
   split at e
   .rename_i c j h3 h4
    split at e
    .rename_i h5
     injection e with e;injection e with e1 e;injection e with e2 e3;subst e1;subst e2;subst e3;exact⟨kt,e0,j,h1,h2,h3,h4,h5⟩
    .cases e
   .cases e
  .cases e
 .cases e
theorem zj{kd:IntKind}:∀{vs:List Value}{a:List Int},mc kd vs=some a->vs=a.map (Value.int kd)
 |[],a,e=>by simp[mc]at e;subst e;rfl
 |v::r,a,e=>by
  cases v with
  |int k i=>
   simp only[mc]at e;split at e
   .rename_i b
    simp only[II]at e;obtain⟨c,h,rfl⟩:=e;rw[zj h,b];rfl
   .cases e
  |_=>simp[mc]at e
theorem AR{L:Nat->Loc}(c:RepA w M L h x u)(e:wx kd n x=some is):u=kM kd is/\is.length=n:=by
 unfold wx at e;split at e
 .rename_i cs
  split at e
  .rename_i d hi
   split at e
   .rename_i a
    injection e with e;subst e
    cases c with
    |pv b=>
     rw[aJ b];refine⟨?_,a⟩;unfold kM;rw[<-zj hi]
   .cases e
  .cases e
 .cases e
section
variable {P:Program} {kt e0:TypeId} {kd:IntKind} {n:Nat} {j:TypeInfo}
theorem Ip(a:P.underlying e0=some (.int kd)):nM P e0=some false:=by simp[nM,a]
theorem Ca(a:P.underlying e0=some (.int kd)){x:Int}(hi:is[i]?=some x):al P (part e0 (is.map (Value.int kd)).toArray i)=some (.int kd x):=
 mU (Ip a) (by simp[hi])
theorem N3(d:Nat)(a b:Int)(h:P.underlying e0=some (.int kd)):al P (Op.equalIn (d+1) e0 (.int kd a) (.int kd b))=some (a==b):=by
 simp only[Op.equalIn,af,cG h,Y3];rw[YY trivial];rfl
theorem N4(a:P.info? e0=some j):al P (sizeOf e0)=some j.size:=by
 unfold sizeOf;rw[af,mK a];rfl
theorem Ey(g:P.underlying kt=some (.array n e0))(c:P.underlying e0=some (.int kd))(e:P.info? e0=some j)(h1:j.size=1)(f:is.length=n)(b:Bool)(d:Nat):
 al P (Instr.checkKey b (d+2) kt (kM kd is))=some ():=by
 have one:∀x,al P (Instr.checkKey b (d+1) e0 (.int kd x))=some ():=by
  intro x;simp only[Instr.checkKey,af,cG c,Y3];rfl
 rw[show d+2=(d+1)+1 from rfl,Instr.checkKey];simp only[kM,af,cG g,Y3];simp only[Std.Legacy.Range.forIn_eq_forIn_range',Std.Legacy.Range.size,Nat.sub_zero,Nat.add_one_sub_one,Nat.div_one]
 have key:∀l:List Nat,(∀i∈l,i<n)->al P (forIn l PUnit.unit λi _=>do
  let __do_lift <-sizeOf e0
  let __do_lift <-part e0 (is.map (Value.int kd)).toArray (i*__do_lift)
  Instr.checkKey b (d+1) e0 __do_lift
  pure (ForInStep.yield PUnit.unit))=some PUnit.unit:=by
  intro l
  induction l with
  |nil=>intro _;rfl
  |cons i l ih=>
   intro a
   have hi:i<is.length:=by rw[f];exact a i (by simp)
   simp only[List.forIn_cons,af,N4 e,Y3,h1,yAr,Ca c (an hi),one,cK];exact ih λi hi=>a i (by simp[hi])
 rw[key (List.range' 0 n) (λi hi=>by simpa using hi)];rfl
end
def mM:List (List Int×Value)->List Int->Nat->Option (Nat×Value)
 |[],_,_=>none
 |(k,v)::r,is,i=>if k=is then some (i,v)else mM r is (i+1)
theorem C3:∀(xs:List (List Int×Value))(a:List Int)(i:Nat),(mM xs a i).map (·.2)=iW xs a
 |[],_,_=>rfl
 |(k,v)::r,a,i=>by
  simp only[mM,iW];split
  .rfl
  .exact C3 r a (i+1)
theorem C4:∀{xs:List (List Int×Value)}{a:List Int}{i:Nat}(u:Value),mM xs a i=none->lU xs a u=xs++[(a,u)]
 |[],_,_,_,_=>rfl
 |(k,v)::r,a,i,u,h=>by
  simp only[mM]at h;split at h
  .cases h
  .rename_i b
   simp only[lU,YR b,C4 u h,List.cons_append]
theorem C5:∀{xs:List (List Int×Value)}{a:List Int}{i j:Nat}{v:Value}(u:Value),mM xs a i=some (j,v)->∃q,j=i+q/\q<xs.length/\(∃x,xs[q]?=some x/\x.1=a)/\lU xs a u=xs.set q (a,u)
 |[],_,_,_,_,_,h=>by cases h
 |(k,v)::r,a,i,j,d,u,h=>by
  simp only[mM]at h;split at h
  .rename_i c
   injection h with h;injection h with h1 h2;exact⟨0,by omega,by simp,⟨(k,v),rfl,c⟩,by simp only[lU,YY c,List.set_cons_zero]⟩
  .rename_i b
   obtain⟨q,h1,h2,⟨x,h3,h4⟩,h5⟩:=C5 u h;exact⟨q+1,by omega,by simpa using h2,⟨x,by simpa using h3,h4⟩,by simp only[lU,YR b,h5,List.set_cons_succ]⟩
section
variable {P:Program} {kt e0:TypeId} {kd:IntKind} {n:Nat} {j:TypeInfo} {w:World}
theorem wL(b:P.underlying e0=some (.int kd))(d:Nat){as bs:List Int}(c:as.length=bs.length):∀l:List Nat,(∀i∈l,i<as.length)->
 (Op.eqItems (d+1) e0 1 (as.map (Value.int kd)).toArray (bs.map (Value.int kd)).toArray l).run P w=.ok (l.all λi=>as[i]?==bs[i]?) w
 |[],_=>by simp[Op.eqItems]
 |i::l,f=>by
  have hi:i<as.length:=f i (by simp)
  have a:i<bs.length:=by omega
  have h1:=eJ (Ca b (an hi)) w;have h2:=eJ (Ca b (an a)) w;have h3:=eJ (N3 d as[i] bs[i] b) w;simp only[Op.eqItems,yAr,Sem.run_bind,h1,h2,h3,Result.andThen_ok,List.all_cons,an hi,an a];have ih:=wL b d c l (λi hi=>f i (by simp[hi]))
  have e:(some as[i]==some bs[i])=(as[i]==bs[i]):=by simp
  rw[e]
  cases as[i]==bs[i]with
  |true=>simpa using ih
  |false=>simp
theorem JN(c:P.underlying kt=some (.array n e0))(b:P.underlying e0=some (.int kd))(a:P.info? e0=some j)(h1:j.size=1){as bs:List Int}(ha:as.length=n)(hb:bs.length=n):
 (Op.equal kt (kM kd as) (kM kd bs)).run P w=.ok (decide (as=bs)) w:=by
 have hc:P.cellsOf e0=1:=by simp[Program.cellsOf,a,h1]
 have hd:Op.maxDepth=9998+1+1:=rfl;unfold Op.equal kM;rw[hd,run_equalIn_array _ _ _ _ c a,hc,wL b _ (by omega) _ (λi hi=>by rw[ha];simpa using hi)]
 congr 1
 rw[Bool.eq_iff_iff,L4,Is];constructor
 .intro h
  apply Zx;intro i;by_cases hi:i<n
  .simpa using h i (by simpa using hi)
  .rw[Y2 (by omega),Y2 (by omega)]
 .rintro rfl i _;simp
theorem uk(l:P.underlying kt=some (.array n e0))(d:P.underlying e0=some (.int kd))(f:P.info? e0=some j)(h1:j.size=1){b:List Int}(g:b.length=n):
 ∀(es:List MapEntry)(xs:List (List Int×Value))(i:Nat),es.map (λe=>(e.key,e.val))=xs.map (λx=>(kM kd x.1,x.2))->(∀x∈xs,x.1.length=n)->(Instr.findAsking kt (kM kd b) es i).run P w=.ok (mM xs b i) w
 |[],[],_,_,_=>rfl
 |[],x::xs,_,h,_=>by cases h
 |e::es,[],_,h,_=>by cases h
 |e::es,(k,v)::xs,i,h,m=>by
  simp only[Z0,List.cons.injEq,Y6]at h;obtain⟨⟨h2,h3⟩,h4⟩:=h;have o:=m (k,v) (by simp);have ih:=uk l d f h1 g es xs (i+1) h4 (λx c=>m x (by simp[c]));simp only[Instr.findAsking,Sem.run_bind,h2,JN l d f h1 g o,Result.andThen_ok,mM];by_cases a:b=k
  .rw[YY (by simpa using a),YY a.symm,h3];rfl
  .rw[YR (by simpa using a),YR (λh=>a h.symm)];exact ih
theorem wM(b:P.underlying kt=some (.array n e0))(c:P.underlying e0=some (.int kd))(d:P.info? e0=some j)(h1:j.size=1)(f:is.length=n)
 {es:List MapEntry}{xs:List (List Int×Value)}(a:es.map (λe=>(e.key,e.val))=xs.map (λx=>(kM kd x.1,x.2)))(g:∀x∈xs,x.1.length=n):(Instr.findKey kt (kM kd is) es).run P w=.ok (mM xs is 0) w:=by
 have hf:=uk (w:=w) b c d h1 f es xs 0 a g;simp only[Instr.findKey,Sem.run_bind,bL b,Result.andThen_ok]
 cases es with
 |nil=>
  cases xs with
  |nil=>rfl
  |cons=>cases a
 |cons e es=>
  have:Instr.findNow (.array n e0) (kM kd is) (e::es) 0=none:=by simp[Instr.findNow,Instr.sameNow,kM]
  rw[this];exact hf
theorem Ez(kd:IntKind)(d:List Int):Instr.sameBits 10000 (kM kd d) (kM kd d)=true:=by
 have one:∀m x,Instr.sameBits m (.int kd x) (.int kd x)=true:=by intro m x;cases m<;>simp[Instr.sameBits]
 show Instr.sameBits (9999+1) (.agg _) (.agg _)=true;simp only[Instr.sameBits,beq_self_eq_true,Zf,L4];rintro⟨a,b⟩ c;rw[List.zip_eq_zipWith]at c;simp only[List.zipWith_self,Zg]at c;obtain⟨x,e,h⟩:=c;injection h with h2 h3;subst h2;subst h3;obtain⟨y,_,rfl⟩:=(by simpa using e:∃a,a∈d/\Value.int kd a=x);exact one _ y
end
section
variable {C:Cx} {L:Nat->Loc} {h1 h:Hp} {w:World}
theorem GD(g:MemL C L h w)(hs:∀k b,h1 k=some b->h k=some b)(d:RepA w (ab C L h) L h x u){es:List (List Int×Value)}(e:DY h1 x=some (kd,n,es)):
 ∃b arr clock,u=.map (some b)/\w.heap[b]?=some (.map arr clock)/\DW kd n es arr:=by
 unfold DY at e;split at e
 .split at e
  .rename_i f
   injection e with e;injection e with e1 e;injection e with e2 e3;subst e1;subst e2;subst e3;obtain⟨arr,clock,h2,h3⟩:=g.bl _ _ (hs _ _ f)
   cases d with
   |ext c=>cases c with
    |mp _=>exact⟨_,arr,clock,rfl,h2,h3⟩
  .cases e
 .injection e with e;injection e with e1 e;injection e with e2 e3
  subst e1;subst e2;subst e3
  cases d with
  |pv i=>cases i with
   |mp _ _ _ b arr clock hb _ a=>exact⟨b,arr,clock,rfl,hb,a⟩
 .cases e
theorem Cb(H:MemL C L h w)(hs:∀k b,h1 k=some b->h k=some b){i v:AV}{B A:Value}(I:RepA w (ab C L h) L h x B)(hi:RepA w (ab C L h) L h i A){ok:Bool}(e:uS C.P t x i ok h1=some v):
 ∃r,(Instr.lookup t B A ok).run C.P w=.ok r w/\RepA w (ab C L h) L h v r:=by
 unfold uS at e;split at e
 .rename_i kd n D J O es F E
  split at e
  .rename_i hc
   obtain⟨rfl,rfl⟩:=hc;split at e
   .rename_i is G
    obtain⟨kt,e0,j,t1,t2,t3,t4,t5⟩:=CZ F;obtain⟨b,arr,clock,rfl,hb,d⟩:=GD H hs I E;obtain⟨rfl,y⟩:=AR hi G;have K:=eJ (Ey t2 t3 t4 t5 y arr.isEmpty 9998) w;have M:=wM (w:=w) t2 t3 t4 t5 y d.1 d.2;have g:=C3 es is 0;have o:(getObj b).run C.P w=.ok (.map arr clock) w:=MapKept.run_getObj_map hb;simp only[Instr.lookup,Sem.run_bind,bL t1,Result.andThen_ok,o,Sem.run_pure,K,M]
    cases hf:mM es is 0 with
    |some q=>
     rw[hf]at g;rw[<-g]at e;obtain⟨Q,m⟩:=q;simp only[ZD,yg,YV]at e;subst e
     cases ok with
     |true=>exact⟨.tuple #[m,.bool true],by simp,.pv (.tup [.val m,.val (.bool true)] [m,.bool true] rfl (λa p u hp c=>by
       match a,hp,c with
       |0,hp,c=>simp at hp c;subst hp;subst c;exact .val _
       |1,hp,c=>simp at hp c;subst hp;subst c;exact .val _))⟩
     |false=>exact⟨m,by simp,.pv (.val _)⟩
    |none=>
     rw[hf]at g;rw[<-g]at e;simp only[Option.map_none,yg]at e;split at e
     .rename_i z l
      simp only[Id,Option.bind_eq_some_iff]at l;obtain⟨N,s,l⟩:=l
      have f:(zeroValue D).run C.P w=.ok z w:=by simp[zeroValue,kS s,l]
      injection e with e;subst e
      cases ok with
      |true=>exact⟨.tuple #[z,.bool false],by simp[f],.pv (.tup [.val z,.val (.bool false)] [z,.bool false] rfl (λa p u hp c=>by
        match a,hp,c with
        |0,hp,c=>simp at hp c;subst hp;subst c;exact .val _
        |1,hp,c=>simp at hp c;subst hp;subst c;exact .val _))⟩
      |false=>exact⟨z,by simp[f],.pv (.val _)⟩
     .cases e
   .cases e
  .cases e
 .cases e
theorem AS(k:MemL C L h w){d:Option Nat}(a:∀q,d=some q->h1 q=h q/\q<2000000){v:AV}(e:sU C.P t d h1=some (v,W)):
 ∃r g c,(Instr.makeMap t none).run C.P w=.ok r g/\aF C L h w c (ag h W) g/\RepA g (ab C c (ag h W)) c (ag h W) v r:=by
 unfold sU at e;split at e
 .rename_i kd n m q o
  split at e
  .rename_i hd
   injection e with e;injection e with e1 e2;subst e1;subst e2
   have f:h q=none:=by rw[<-(a q rfl).1];simpa using hd
   have l:Ext (λ_=>False) w (w.alloc (.map #[] 0)):=Ext.alloc _ w _;refine⟨.map (some w.heap.size),w.alloc (.map #[] 0),av L q ⟨w.heap.size,0,false⟩,rfl,k.newKey f (a q rfl).2 l (λ_=>Y0 _) (by intro i j e;cases e) ⟨#[],0,j8 w _,rfl,by simp⟩,?_⟩;have h9:RepX (av L q ⟨w.heap.size,0,false⟩) (av h q (some (.mp kd n [] false))) (.mp q) (.map (some (av L q ⟨w.heap.size,0,false⟩ q).b)):=.mp (aE _ _ _);rw[aE]at h9;exact .ext h9
  .cases e
 .cases e
theorem Cc(I:MemL C L h w)(hs:∀k b,h1 k=some b->h k=some b){i v:AV}{S R A:Value}(Y:RepA w (ab C L h) L h x S)(hi:RepA w (ab C L h) L h i R)(X:RepA w (ab C L h) L h v A)
 {W:List (Nat×Blk)}(e:uT C.P t x i v h1=some W):∃T,(Instr.mapUpdate t S R A).run C.P w=.ok () T/\aF C L h w L (ag h W) T:=by
 unfold uT at e;split at e
 .rename_i kd n et k val U
  split at e
  .rename_i u Q es is V E
   split at e
   .rename_i hc
    obtain⟨rfl,rfl⟩:=hc;injection e with e;subst e;obtain⟨kt,e0,j,t1,t2,t3,t4,t5⟩:=CZ U;have r:=hs _ _ V;obtain⟨arr,clock,hb,g⟩:=I.bl k _ r;obtain⟨rfl,F⟩:=AR hi E
    have M:A=val:=by cases X with|pv hr=>exact aJ hr
    subst M
    cases Y with
    |ext N=>cases N with
     |mp _=>
      have Z:=eJ (Ey t2 t3 t4 t5 F false 9998) w;have r2:=wM (w:=w) t2 t3 t4 t5 F g.1 g.2;have H:(getObj (L k).b).run C.P w=.ok (.map arr clock) w:=MapKept.run_getObj_map hb
      have B:∀(f:Array MapEntry)(c:Nat),DW u Q (lU es is A) f->aF C L h w L (ag h [(k,.mp u Q (lU es is A) false)]) {w with heap:=w.heap.setIfInBounds (L k).b (.map f c)}:=by
       intro f c D;obtain⟨s1,s2⟩:=MapKept.heap_set (o':=.map f c) hb;exact I.touch r (λb _ J=>s2 b (J trivial)) (by simp) rfl rfl rfl (λo v _ hf _=>by simp[Blk.frz]at hf) (λo hf=>by simp[Blk.frz]at hf) ⟨rfl,rfl,rfl⟩ Z8 (by have:=I.own k _ r;exact this) ⟨f,c,s1,D⟩ (by intro _ _ _ h;cases h)
      simp only[Instr.mapUpdate,Sem.run_bind,bL t1,Result.andThen_ok,H,Z,r2]
      cases hf:mM es is 0 with
      |none=>
       refine⟨_,MapKept.run_setObj_map _ hb,B _ _ ?_⟩;rw[C4 A hf];refine⟨by simp[g.1],λy m=>?_⟩;rcases Y7.1 m with m|m
       .exact g.2 y m
       .simp at m;subst m;exact F
      |some q=>
       obtain⟨z,q2⟩:=q;obtain⟨p,h3,h4,⟨y,h5,h6⟩,h7⟩:=C5 A hf
       have hp:z=p:=by omega
       subst hp
       have O:arr.size=es.length:=by have:=yAj List.length g.1;simpa using this
       have K:z<arr.size:=by omega
       have d:arr[z]?=some arr[z]:=by simp[K]
       have s:arr[z].key=kM u is:=by
        have:=yAj (λl=>l[z]?) g.1;simp only[YS,ZF,d,h5,ZD,YV,Y6]at this;rw[this.1,h6]
       simp only[d,ZD,Y8,s,Instr.keyThatStays,Ez,Za,Sem.run_pure,Result.andThen_ok];refine⟨_,MapKept.run_setObj_map _ hb,B _ _ ?_⟩;rw[h7];refine⟨?_,λy m=>?_⟩
       .apply Zx
        intro a;have ha:=yAj (λl=>l[a]?) g.1;simp only[YS,ZF]at ha|-;rw[Array.getElem?_modify,Y1];by_cases G:z=a
        .subst G
         simp[d,h4]
        .rw[YR G,YR G];exact ha
       .rcases ZE m with m|m
        .exact g.2 y m
        .subst m;exact F
   .cases e
  .cases e
 .cases e
theorem Iq(G:MemL C L h w)(hs:∀k b,h1 k=some b->h k=some b)(g:∀d,o.dst=some d->h1 d=h d/\d<2000000)
 (F:∀x∈o.op.operands,RepA w (ab C L h) L h (ρ x) (σ x)){hn:List Nat}{v:AV}{W:List (Nat×Blk)}(e:dw C.P hn o ρ h1=some (v,W)):Io C L h w o σ v W:=by
 obtain⟨b5,op,type,pos,after,guard⟩:=o;simp only at g
 cases op with
 |move x=>
  simp only[dw,YV,Y6]at e;obtain⟨rfl,rfl⟩:=e;exact dk G (F x (by simp[Op.operands])) rfl
 |assign x=>
  have H:=F x (by simp[Op.operands]);simp only[dw]at e
  have Y:some (ρ x,[])=some (v,W)->Io C L h w ⟨b5,.assign x,type,pos,after,guard⟩ σ v W:=by
   intro e;simp only[YV,Y6]at e;obtain⟨rfl,rfl⟩:=e;exact dk G H rfl
  split at e
  .rename_i d
   split at e
   .rename_i hc
    simp only[up]at hc;split at e
    .rename_i sz zr et a8 eb ez A
     split at e
     .rename_i hd
      injection e with e;injection e with B N;subst B;subst N
      have O:h d=none:=by rw[<-(g d rfl).1];simpa using hd.1
      have cj:σ x=.slice none 0 0:=by
       have h2:=hc.2;generalize ρ x=y at h2 H;unfold nJ at h2;split at h2
       .cases H with
        |pv U=>rw[aJ U,kR h2]
       .cases h2
      have J:=lA (e:=et) (sz:=a8) (xs:=[]) (l:=⟨0,0,true⟩) G (Ext.refl _ w) O (g d rfl).2 (λh=>by cases h)
       ⟨hd.2,ZG _,by simp,λ_=>rfl,(λh=>by cases h)⟩
      exact⟨.value (.slice none 0 0),.slice none 0 0,w,_,by simp[execOp,cj],.inl rfl,J.1,J.2⟩
     .cases e
    .cases e
   .exact Y e
  .exact Y e
 |pick c a b=>
  simp only[dw]at e;split at e
  .rename_i t ht
   injection e with e;injection e with B N;subst B;subst N;have hc:=F c (by simp[Op.operands]);rw[ht]at hc
   have cp:σ c=.bool t:=by cases hc with|pv U=>exact aJ U
   refine dk G (u:=if t then σ a else σ b) ?_ (by simp[execOp,cp,asBool])
   cases t with
   |true=>exact F a (by simp[Op.operands])
   |false=>exact F b (by simp[Op.operands])
  .cases e
 |alloc elem=>
  simp only[dw]at e;split at e
  .rename_i sz z kd d A
   split at e
   .rename_i hd
    injection e with e;injection e with B N;subst B;subst N
    have O:h d=none:=by rw[<-(g d rfl).1];simpa using hd
    obtain⟨i,dd,hi,_,_,hz,_⟩:=gJ A
    have cD:aC w (ab C L h) L h (z.cells.toList.map λv=>AV.pv (.val v)) z.cells.toList:=by
     refine⟨by simp,λq p u hp hu=>?_⟩;simp only[YS,II]at hp;obtain⟨y,hy,rfl⟩:=hp;rw[hy]at hu;injection hu with hu;subst hu;exact .pv (.val _)
    have hb:=B5 (us:=z.cells) G O (g d rfl).2 cD elem;refine⟨.value (.pointer (some ⟨w.heap.size,0,none⟩)),_,_,_,?_,.inl rfl,hb.1,hb.2⟩;simp only at hz;simp[execOp,Instr.alloc,zeroValue,kS hi,<-hz,AQ]
   .cases e
  .cases e
 |box elem x=>
  simp only[dw]at e;split at e
  .rename_i cs d cn
   split at e
   .rename_i hd
    injection e with e;injection e with B N;subst B;subst N
    have O:h d=none:=by rw[<-(g d rfl).1];simpa using hd
    have U:=qG hs (F x (by simp[Op.operands])) cn;have hb:=B5 (us:=(σ x).cells) G O (g d rfl).2 U elem;refine⟨.value (.pointer (some ⟨w.heap.size,0,none⟩)),_,_,_,?_,.inl rfl,hb.1,hb.2⟩;simp[execOp,Instr.box,AQ]
   .cases e
  .cases e
 |build t ps=>
  simp only[dw]at e;split at e
  .rename_i ti qs A cx
   simp only[II,Y6]at e;obtain⟨v',B,rfl,rfl⟩:=e;have hp:=vX (σ:=σ) hs (λx H=>F x (by simpa[Op.operands]using H)) cx;obtain⟨r,D,E⟩:=DR A hp B;refine dk G E ?_
   have:(ps.map λ(i,x)=>(i,σ x))=(ps.toList.map λ(i,x)=>(i,σ x)).toArray:=by
    apply Array.ext';simp
   simp only[execOp,Sem.run_bind,this,D,Result.andThen_ok,Sem.run_pure]
  .cases e
 |buildSlice t len ps=>
  simp only[dw]at e;split at e
  .rename_i cN I
   injection e with e;subst e;unfold zN at I;split at I
   .rename_i d cv
    split at I
    .split at I
     .rename_i s0 z0 et a8 eb z1 A
      split at I
      .rename_i hc
       injection I with I;injection I with B N;subst B;subst N;obtain⟨Z,jt,hj,cd,_,cf⟩:=dK A rfl
       have O:h d=none:=by rw[<-(g d rfl).1];simpa using hc.1
       have J:=lA (e:=et) (sz:=a8) (xs:=[]) (l:=⟨w.heap.size,0,false⟩) G (Ext.alloc (λ_=>False) w (.cells #[] et)) O (g d rfl).2 (λ_=>Y0 _)
        ⟨hc.2,ZG _,by simp,λ_=>rfl,λ_=>⟨Y0 _,ZG _,#[],j8 w _,by simp,λi x j p H=>by simp at H⟩⟩
       have ck:ps=#[]:=by apply Array.ext';simpa using cv
       subst ck;refine⟨.value (.slice (some ⟨w.heap.size,0,none⟩) 0 0),_,w.alloc (.cells #[] et),_,?_,.inl rfl,J.1,J.2⟩
       have h0:¬0>2^24:=by omega
       simp only[execOp,Instr.buildSlice,Sem.run_bind,bL Z,Result.andThen_ok,fG hj,yA4,Za,pure_bind,h0,Y5]
       have B:Array.range 0=#[]:=by simp
       rw[B];simp only[List.map_toArray,yA6,Instr.fill];rfl
      .cases I
     .cases I
    .cases I
   .cases I
  split at e
  .rename_i s0 z0 et a8 eb z1 A
   split at e
   .rename_i xs W' cq
    split at e
    .rename_i hc
     obtain⟨c1,c2,c3⟩:=hc;obtain⟨Z,jt,hj,cd,_,cf⟩:=dK A rfl;subst cd;obtain⟨a1,a2,a3,a4,a5⟩:=vZ (σ:=σ) G (bH.of_sub hs) (λx H=>F x (by simpa[Op.operands]using H)) cq
     have ad:(ps.map λ(i,x)=>(i,σ x)).toList=ps.toList.map λ(i,x)=>(i,σ x):=by simp
     have cm:ps.toList.length=len:=by omega
     have ar:∀(q:Nat) i v,(ps.toList.map λ(i,x)=>(i,σ x))[q]?=some (i,v)->i=0+q/\v.cells.size=jt.size:=by
      intro q i v hq;obtain⟨b1,p,b2,b3⟩:=a5 q i v hq;refine⟨b1,?_⟩;have:=b3.cells.1;rw[a4 p (An b2)]at this;simpa using this.symm
     obtain⟨arr,f1,f2,f3,f4⟩:=wK (arr:=(Array.range (len*jt.size)).map ((if len*jt.size=0 then #[]else z1.cells:Array Value)[·% (if len*jt.size=0 then #[]else z1.cells:Array Value).size]!)) ar (by simp[cm]);have hg:=a1.1.grow (Ext.alloc (λ_=>False) w (.cells arr et))
     have b4:(execOp σ ⟨b5,.buildSlice t len ps,type,pos,after,guard⟩).run C.P w=.ok (.value (.slice (some ⟨w.heap.size,0,none⟩) len len)) (w.alloc (.cells arr et)):=by
      have ch:¬len*jt.size>2^24:=by omega
      have ca:(zeroValue et).run C.P w=.ok z1 w:=by simp[zeroValue,kS hj,cf]
      by_cases hl:len*jt.size=0
      .simp only[hl,Za]at f1
       have h0:¬0>2^24:=by omega
       simp only[execOp,Instr.buildSlice,Sem.run_bind,bL Z,Result.andThen_ok,fG hj,hl,h0,Y5,Za,pure_bind,ad,f1];rfl
      .simp only[hl,Y5]at f1
       simp only[execOp,Instr.buildSlice,Sem.run_bind,bL Z,Result.andThen_ok,fG hj,ch,hl,Y5,pure_bind,ca,ad,f1];rfl
     have bq:∀(i:Nat) x(j:Nat) p,xs[i]?=some x->x.cells[j]?=some p->∃u,arr[i*jt.size+j]?=some u/\Rep w (ab C L (ag h W')) p u:=by
      intro i x j p H T
      have b9:i<(ps.toList.map λ(i,x)=>(i,σ x)).length:=by rw[Zm];have:=(th.1 H).1;omega
      obtain⟨⟨i',vv⟩,X⟩:∃y,(ps.toList.map λ(i,x)=>(i,σ x))[i]?=some y:=⟨_,an b9⟩;obtain⟨b1,p',b2,b3⟩:=a5 i i' vv X;rw[H]at b2;injection b2 with b2;subst b2
      have ah:j<jt.size:=by rw[<-a4 x (An H)];exact(th.1 T).1
      have K:=f4 i i' vv j X ah;rw[ZS]at K
      have a6:j<vv.cells.size:=by rw[(ar i i' vv X).2];exact ah
      rw[Zy a6]at K;exact⟨_,K,b3.cells.2 j p vv.cells[j] T (by simp[a6])⟩
     split at e
     .rename_i d hd
      unfold El at hd;split at hd
      .rename_i d' _
       split at hd
       .rename_i cb
        injection hd with hd;subst hd;injection e with e;injection e with B N;subst B;subst N;simp only[up,Option.isNone_iff_eq_none]at cb
        have O:h d'=none:=by rw[<-(g d' rfl).1];exact cb.2
        have J:=lA (e:=et) (sz:=jt.size) (xs:=xs) (l:=⟨w.heap.size,len,false⟩) G (Ext.alloc (λ_=>False) w (.cells arr et)) O (g d' rfl).2 (λ_=>Y0 _) (by
         refine⟨c2,ZG _,λx H=>a4 x H,(λh=>by cases h),λ_=>⟨by show xs.length<=len;omega,by simp only[maxLen];have:=Nat.le_mul_of_pos_right len c2;omega,arr,j8 w _,?_,?_⟩⟩
         .rw[f2];simp
         .intro i x j p H T
          obtain⟨u,hu,U⟩:=bq i x j p H T
          exact⟨u,hu,U.mono (uj (Ext.alloc (λ_=>False) w (.cells arr et)) (λ_=>Y0 _))⟩)
        rw[c1]at J;exact⟨_,_,_,_,b4,.inl rfl,J.1,J.2⟩
       .cases hd
      .cases hd
     injection e with e;injection e with B N;subst B;subst N;refine⟨.value (.slice (some ⟨w.heap.size,0,none⟩) len len),_,w.alloc (.cells arr et),L,b4,.inl rfl,a1.trans ⟨hg.1,hg.2,KC.refl _ _⟩,.pv ?_⟩
     .rw[<-c1]
      refine .sl xs w.heap.size 0 xs.length jt.size (λi j=>(arr[i*jt.size+j]?).getD undef) (Y0 _) (λi x H=>a4 x (An H)) ?_ ?_
      all_goals
       intro i x j p H T
       have b9:i<(ps.toList.map λ(i,x)=>(i,σ x)).length:=by rw[Zm];have:=(th.1 H).1;omega
       obtain⟨⟨i',vv⟩,X⟩:∃y,(ps.toList.map λ(i,x)=>(i,σ x))[i]?=some y:=⟨_,an b9⟩;obtain⟨b1,p',b2,b3⟩:=a5 i i' vv X;rw[H]at b2;injection b2 with b2;subst b2
       have ah:j<jt.size:=by rw[<-a4 x (An H)];exact(th.1 T).1
       have K:=f4 i i' vv j X ah;rw[ZS]at K
       have a6:j<vv.cells.size:=by rw[(ar i i' vv X).2];exact ah
       rw[Zy a6]at K
      .refine⟨by rw[gc (j8 w _),ZS,K];rfl,λhM=>?_⟩
       have:=a1.1.mlt hM;omega
      .simp only[K,Y8]
       have:=b3.cells.2 j p vv.cells[j] T (by simp[a6]);exact this.mono hg.2
    .cases e
   .cases e
  .cases e
 |load t a=>
  simp only[dw]at e;split at e
  .rename_i ti A
   simp only[II,Y6]at e;obtain⟨v',B,rfl,rfl⟩:=e;obtain⟨r,D,E⟩:=wJ G hs A (F a (by simp[Op.operands])) B;exact dk G E (by simp[execOp,D])
  .cases e
 |store t a x=>
  simp only[dw]at e;split at e
  .rename_i ti A
   simp only[II,Y6]at e;obtain⟨W',B,rfl,rfl⟩:=e;obtain⟨w',D,E⟩:=DP G hs A (F a (by simp[Op.operands])) (F x (by simp[Op.operands])) B;exact⟨.skip,undef,w',L,by simp[execOp,D],.inr ⟨rfl,rfl⟩,E,.undef _⟩
  .cases e
 |nilCheck x=>
  have H:=F x (by simp[Op.operands]);simp only[dw]at e;split at e
  .rename_i k cM hk
   injection e with e;injection e with B N;subst B;subst N;rw[hk]at H;have a7:=H;generalize hσ:σ x=u at H a7
   cases H with
   |ptr cg=>exact dk G a7 (by simp[execOp,hσ])
  .rename_i y cM hk
   injection e with e;injection e with B N;subst B;subst N;rw[hk]at H;have a7:=H;generalize hσ:σ x=u at H a7
   cases H with
   |pv U=>cases U with
    |rptr=>exact dk G a7 (by simp[execOp,hσ])
  .cases e
 |fieldAddr s x f=>
  simp only[dw]at e;split at e
  .rename_i ti A
   simp only[II,Y6]at e;obtain⟨v',B,rfl,rfl⟩:=e;obtain⟨r,D,E⟩:=y8 A hs (F x (by simp[Op.operands])) B;exact dk G E (by simp[execOp,D])
  .cases e
 |indexAddr t x ix=>
  simp only[dw]at e;split at e
  .rename_i ti n A hn
   simp only[II,Y6]at e;obtain⟨v',B,rfl,rfl⟩:=e;have cc:=F ix (by simp[Op.operands])
   have hint:∃kk,σ ix=.int kk n:=by
    generalize ρ ix=y at hn cc;unfold Ej at hn;split at hn
    .rename_i kk m
     injection hn with hn;subst hn
     cases cc with
     |pv U=>exact⟨kk,aJ U⟩
    .cases hn
   obtain⟨kk,cg⟩:=hint;obtain⟨r,D,E⟩:=(Eu B).elim (za (kk:=kk) hs A (F x (by simp[Op.operands])) (GZ G)) (B7 (kk:=kk) hs A (F x (by simp[Op.operands])));exact dk G E (by simp[execOp,cg,D])
  .cases e
 |makeInterface t x=>
  simp only[dw]at e;split at e
  .rename_i hp
   split at e
   .rename_i p W' B
    injection e with e;injection e with e1' e2';subst e1';subst e2';obtain⟨b1,b2,_⟩:=m9 G (bH.of_sub hs) (F x (by simp[Op.operands])) B;refine⟨.value (.iface t (σ x)),_,w,L,?_,.inl rfl,b1,.pv (.ifc t p _ b2)⟩;obtain⟨d,hd,b7⟩:=zi hp;simp only[execOp,Instr.makeInterface,Sem.run_bind,run_underlying hd,Result.andThen_ok]
    cases d<;>first|rfl|exact(b7 _ rfl).elim
   .cases e
  .cases e
 |typeAssert x xt a' ok=>
  have H:=F x (by simp[Op.operands]);simp only[dw]at e;split at e
  .rename_i t p hk
   split at e
   .rename_i hp
    simp only[II,Y6]at e;obtain⟨v',B,rfl,rfl⟩:=e;rw[hk]at H;generalize hσ:σ x=u at H
    cases H with
    |pv U=>cases U with
     |ifc _ _ v R=>
      obtain⟨d,hd,b7⟩:=zi hp;unfold BZ at B
      have ak:(Instr.typeAssert (.iface t v) xt a' ok).run C.P w=(if t=a' then .ok (if ok then .tuple #[v,.bool true]else v) w else if ok then((zeroValue a').run C.P w).andThen λz w=>.ok (.tuple #[z,.bool false]) w else(runtimePanic (.typeAssertion (some xt) (some t) a' ""):Sem Value).run C.P w):=by
       unfold Instr.typeAssert;simp only[Sem.run_bind,bL hd,Result.andThen_ok]
       cases d with
       |interface m=>exact(b7 m rfl).elim
       |_=>split<;>split<;>simp[Sem.run_bind]<;>rfl
      split at B
      .rename_i ht
       injection B with B;subst B;refine dk G (u:=if ok then .tuple #[v,.bool true]else v) ?_ (by simp only[execOp,hσ,Sem.run_bind,ak,YY ht,Result.andThen_ok];rfl)
       cases ok with
       |false=>exact .pv R
       |true=>exact .pv (.tup [p,.val (.bool true)] [v,.bool true] rfl (bn.cons R (bn.cons (.val _) .nil)).2)
      .rename_i ht
       split at B
       .rename_i ct
        split at B
        .rename_i z hz
         injection B with B;subst B;obtain⟨ti,A,cB⟩:=Option.bind_eq_some_iff.1 hz;obtain⟨i,_,hi,_,_,cr,_⟩:=gJ A;subst ct
         have ca:(zeroValue a').run C.P w=.ok z w:=by
          have:i.zero=some z:=cr▸cB;simp[zeroValue,kS hi,this]
         refine dk G (u:=.tuple #[z,.bool false]) ?_ (by simp only[execOp,hσ,Sem.run_bind,ak,YR ht,Za,ca,Result.andThen_ok];rfl);exact .pv (.tup [.val z,.val (.bool false)] [z,.bool false] rfl (bn.cons (.val _) (bn.cons (.val _) .nil)).2)
        .cases B
       .cases B
   .cases e
  .cases e
 |makeFunc f first caps=>
  obtain⟨first⟩:=first
  obtain⟨caps⟩:=caps;simp only[dw,YV,Y6]at e;obtain⟨rfl,rfl⟩:=e
  have a1:=sV (σ:=σ) first (λx H=>F x (by simp[Op.operands,H]))
  have a2:=sV (σ:=σ) caps (λx H=>F x (by simp[Op.operands,H]));refine dk G (u:=.func f (first.map σ).toArray (caps.map σ).toArray) ?_ (by simp[execOp,Instr.makeFunc]);exact JM f a1 a2
 |makeSlice t l c=>
  simp only[dw]at e;split at e
  .rename_i ti A
   obtain⟨r,w',L',D,E,V⟩:=(Ev e).elim (DQ G A g (F l (by simp[Op.operands])) (F c (by simp[Op.operands]))) (Es G A g (F l (by simp[Op.operands])) (F c (by simp[Op.operands])));exact⟨.value r,r,w',L',by simp[execOp,D],.inl rfl,E,V⟩
  .cases e
 |slice t x lo hi mx=>
  simp only[dw]at e;split at e
  .exact iA G (by intro _ _ h;cases h) F e
  .rename_i k n hk
   split at e
   .rename_i ti A
    unfold Nd at e;split at e
    .rename_i p W1 B
     split at e
     .rename_i v1 N
      injection e with e;injection e with ea eb;subst ea;subst eb;have H:=F x (by simp[Op.operands]);rw[hk]at H;obtain⟨a1,a2,_⟩:=nN G (bH.of_sub hs) H B
      obtain⟨r,D,E⟩:=vY (ul:=lo.map σ) (uh:=hi.map σ) A (.pv a2)
       (by intro a ha;cases lo with
         |none=>cases ha
         |some y=>simp at ha;subst ha;exact⟨_,rfl,(F y (by simp[Op.operands])).mono a1.2.1 a1.2.2⟩) (by intro ha;cases lo with
         |none=>rfl
         |some y=>cases ha)
       (by intro a ha;cases hi with
         |none=>cases ha
         |some y=>simp at ha;subst ha;exact⟨_,rfl,(F y (by simp[Op.operands])).mono a1.2.1 a1.2.2⟩) (by intro ha;cases hi with
         |none=>rfl
         |some y=>cases ha) N
      exact⟨.value r,r,w,L,by simp[execOp,D],.inl rfl,a1,E⟩
     .cases e
    .cases e
   .cases e
  .split at e
   .rename_i ti A
    simp only[II,Y6]at e;obtain⟨v',B,rfl,rfl⟩:=e
    obtain⟨r,D,E⟩:=vY (ul:=lo.map σ) (uh:=hi.map σ) A (F x (by simp[Op.operands]))
     (by intro a ha;cases lo with
       |none=>cases ha
       |some y=>simp at ha;subst ha;exact⟨_,rfl,F y (by simp[Op.operands])⟩) (by intro ha;cases lo with
       |none=>rfl
       |some y=>cases ha)
     (by intro a ha;cases hi with
       |none=>cases ha
       |some y=>simp at ha;subst ha;exact⟨_,rfl,F y (by simp[Op.operands])⟩) (by intro ha;cases hi with
       |none=>rfl
       |some y=>cases ha) B
    exact dk G E (by simp[execOp,D])
   .cases e
  .cases e
 |extract t i=>
  have ht:=F t (by simp[Op.operands]);simp only[dw]at e;split at e
  .rename_i vs ad
   simp only[II,Y6]at e;obtain⟨v',B,rfl,rfl⟩:=e;rw[ad]at ht;generalize hσ:σ t=u at ht
   cases ht with
   |tup _ us hl hh=>
    have aj:i<us.length:=by rw[<-hl];exact(th.1 B).1
    exact dk G (hh i v' us[i] B (an aj)) (by simp[execOp,hσ,Instr.extract,aj])
  .rename_i vs ad
   simp only[II,Y6]at e;obtain⟨v',B,rfl,rfl⟩:=e;rw[ad]at ht;generalize hσ:σ t=u at ht
   cases ht with
   |pv U=>cases U with
    |tup _ us hl hh=>
     have aj:i<us.length:=by rw[<-hl];exact(th.1 B).1
     exact dk G (.pv (hh i v' us[i] B (an aj))) (by simp[execOp,hσ,Instr.extract,aj])
  .exact iA G (by intro _ _ h;cases h) F e
  .cases e
 |call c=>
  simp only[dw]at e;split at e
  .rename_i b hb
   obtain⟨callee,args,argTypes⟩:=c;simp only at hb e;subst hb;obtain⟨args⟩:=args;obtain⟨argTypes⟩:=argTypes;simp only at e;have b8:(execOp σ ⟨b5,.call ⟨.builtin b,⟨args⟩,⟨argTypes⟩⟩,type,pos,after,guard⟩)=builtin b ⟨argTypes⟩ type ((⟨args⟩:Array Operand).map λ|.const _=>true|_=>false) ((⟨args⟩:Array Operand).map σ):=rfl;have Q:∀x∈args,RepA w (ab C L h) L h (ρ x) (σ x):=λx H=>F x (by simp[Op.operands,Call.operands,H]);unfold wG at e;split at e
   .rename_i _ _ x t M
    .obtain⟨a,rfl,rfl⟩:=Tq M
     split at e
     .exact iA G (by intro _ _ h;cases h) F e
     .split at e
      .rename_i ti A
       simp only[II,Y6]at e;obtain⟨v',B,rfl,rfl⟩:=e;obtain⟨r,D,E⟩:=Gw (ty:=type) hs A (Q a (by simp)) (GZ G) B;exact dk G E (by rw[b8];simp[builtin,D])
      .cases e
   .rename_i _ _ s x t t' M
    .obtain⟨a,b,rfl,rfl,rfl⟩:=Im M
     split at e
     .rename_i cz
      subst cz;split at e
      .rename_i ti A
       obtain⟨r,w',L',D,E,V⟩:=B6 (ty:=type) G hs A g (Q a (by simp)) (Q b (by simp)) e;exact⟨.value r,r,w',L',by rw[b8];simp[builtin,D],.inl rfl,E,V⟩
      .cases e
     .cases e
   .rename_i _ _ s x t t' M
    .obtain⟨a,b,rfl,rfl,rfl⟩:=Im M
     split at e
     .rename_i ti A
      obtain⟨r,w',D,E,V⟩:=Et (t':=t') (ty:=type) G hs A (Q a (by simp)) (Q b (by simp)) e;exact⟨.value r,r,w',L,by rw[b8];simp[builtin,D],.inl rfl,E,V⟩
     .cases e
   .exact iA G (by intro _ _ h;cases h) F (kT (λv R=>Lc rfl R) e)
   .exact iA G (by intro _ _ h;cases h) F (kT (λv R=>Ld rfl R) e)
   .cases e
  .cases e
 |binOp op t x y t'=>
  simp only[dw]at e;split at e
  .rename_i b hb
   injection e with e;injection e with B N;subst B;subst N;unfold Ek at hb;split at hb
   .rename_i S
    simp only[up]at S;obtain⟨b',hk,cu⟩:=GA hb;have hy:=zR S.1 (F y (by simp[Op.operands]));obtain⟨a,n,c,H,ha⟩:=B8 G hs (F x (by simp[Op.operands])) hk;refine dk G (.pv (.val (.bool b))) (eJ (B9 (rL S.2) H hy ?_) w);rcases cu with⟨rfl,rfl⟩|⟨rfl,rfl⟩
    .left;exact⟨rfl,by rw[ha]⟩
    .right;exact⟨rfl,by rw[ha]⟩
   .cases hb
  .exact iA G (by intro _ _ h;cases h) F (kT (λv R=>Lb rfl R) e)
 |unOp _ _ _=>simp only[dw]at e;exact iA G (by intro _ _ h;cases h) F (kT (λv R=>NZ rfl R) e)
 |convert _ _ _=>simp only[dw]at e;exact iA G (by intro _ _ h;cases h) F (kT (λv R=>JL rfl R) e)
 |field _ _ _=>simp only[dw]at e;exact iA G (by intro _ _ h;cases h) F (kT (λv R=>Le rfl R) e)
 |index _ _ _=>simp only[dw]at e;exact iA G (by intro _ _ h;cases h) F (kT (λv R=>(Ex R).elim (N0 rfl) (N2 rfl)) e)
 |makeMap t r=>
  cases r with
  |some r=>simp[dw]at e
  |none=>
   simp only[dw]at e;obtain⟨r,w',L',D,E,V⟩:=AS G g e;exact⟨.value r,r,w',L',by simp only[execOp,Option.map_none,Sem.run_bind,D,Result.andThen_ok,Sem.run_pure],.inl rfl,E,V⟩
 |lookup t x i ok=>
  simp only[dw,II,Y6]at e;obtain⟨v',B,rfl,rfl⟩:=e;obtain⟨r,D,E⟩:=Cb G hs (F x (by simp[Op.operands])) (F i (by simp[Op.operands])) B;exact dk G E (by simp only[execOp,Sem.run_bind,D,Result.andThen_ok,Sem.run_pure])
 |mapUpdate t m k x=>
  simp only[dw,II,Y6]at e;obtain⟨W',B,rfl,rfl⟩:=e;obtain⟨w',D,E⟩:=Cc G hs (F m (by simp[Op.operands])) (F k (by simp[Op.operands])) (F x (by simp[Op.operands])) B;exact⟨.skip,undef,w',L,by simp only[execOp,Sem.run_bind,D,Result.andThen_ok,Sem.run_pure],.inr ⟨rfl,rfl⟩,E,.undef _⟩
 |_=>simp[dw]at e
end
section
variable {C:Cx} {L:Nat->Loc} {h1 h:Hp} {w:World}
theorem kU:∀{W:List (Nat×Blk)}{h:Hp}{k:Nat},(∀d∈W,d.1≠k)->ag h W k=h k
 |[],h,k,_=>rfl
 |(q,b)::W,h,k,a=>by
  show ag (av h q (some b)) W k=h k;rw[kU (λd c=>a d (by simp[c])),bc (λe=>a (q,b) (by simp) e.symm)]
theorem MemL.callStep(m:MemL C L h w){w':World}{h':Hp}(F:Ext (·∈ks.map λk=>(L k).b) w w')(u:hout.length=ks.length)
 (ha:∀k,k∉ks->h' k=h k)
 (hb:∀(i:Nat) k f,ks[i]?=some k->hout[i]?=some f->∃cs own,h k=some (.box cs own false)/\h' k=some (.box (f.map .pv) own false)/\ko w' (ab C L h) (L k).b f):aF C L h w L h' w':=by
 have hin:∀k,k∈ks->∃f cs own,h k=some (.box cs own false)/\h' k=some (.box (f.map .pv) own false)/\ko w' (ab C L h) (L k).b f:=by
  intro k O;obtain⟨i,hi⟩:=Z6.1 O
  have B:i<hout.length:=by rw[u];exact(th.1 hi).1
  obtain⟨cs,own,a,b,c⟩:=hb i k hout[i] hi (an B)
  grind
 have z:∀b o,ab C L h' b o->ab C L h b o:=by
  rintro b o (y|⟨q,blk,hq,l,j,hf⟩)
  .exact .inl y
  .by_cases e:q∈ks
   .obtain⟨f,cs,own,a,_,_⟩:=hin q e
    exact .inr ⟨q,_,a,trivial,j,by simp[Blk.frz]⟩
   .rw[ha q e]at hq;exact .inr ⟨q,blk,hq,l,j,hf⟩
 have E:∀b o,ab C L h b o->ab C L h' b o:=by
  rintro b o (y|⟨q,blk,hq,l,j,hf⟩)
  .exact .inl y
  .by_cases e:q∈ks
   .obtain⟨f,cs,own,a,p,_⟩:=hin q e
    exact .inr ⟨q,_,p,trivial,j,by simp[Blk.frz]⟩
   .exact .inr ⟨q,blk,by rw[ha q e];exact hq,l,j,hf⟩
 have s:KC L h L h':=by
  intro q blk hq;by_cases e:q∈ks
  .obtain⟨f,cs,own,a,p,_⟩:=hin q e
   rw[a]at hq;injection hq with hq;subst hq;exact⟨_,p,rfl⟩
  .exact⟨blk,by rw[ha q e];exact hq,bt _ _⟩
 have x:∀b o,¬ab C L h b o->b∉ks.map λk=>(L k).b:=by
  intro b o hn d;obtain⟨q,hq,rfl⟩:=Zg.1 d;obtain⟨f,cs,own,a,_,_⟩:=hin q hq;exact hn (.inr ⟨q,_,a,trivial,rfl,by simp[Blk.frz]⟩)
 have g:Pres w (ab C L h) w' (ab C L h'):=by
  grind [Pres.ext]
 refine⟨⟨?_,m.m0,?_,?_,?_⟩,g,s⟩
 .refine m.ext.trans F (λb M d=>?_)
  obtain⟨q,hq,rfl⟩:=Zg.1 d;obtain⟨f,cs,own,a,_,_⟩:=hin q hq;have:=m.own q _ a
  cases own with
  |false=>exact this.2.2.1
  |true=>rcases this with h9|h9
         .omega
         .exact h9.1
 .intro q blk hq
  by_cases e:q∈ks
  .obtain⟨f,cs,own,a,p,arr,P,J,K⟩:=hin q e
   rw[p]at hq;injection hq with hq;subst hq;exact⟨arr,P,J,(aC.map_pv (K.mono (Pres.sub z)))⟩
  .rw[ha q e]at hq
   refine(m.bl q blk hq).mono g s (λl=>F.block _ ((m.bl q blk hq).lt l) (λd=>?_));obtain⟨v,n,N⟩:=Zg.1 d;obtain⟨f,cs,own,a,_,_⟩:=hin v n;exact m.sep q v _ _ (λI=>e (I▸n)) hq a l trivial N.symm
 .intro q v b1 G D hq n l A
  have r:∀q b,h' q=some b->b.live (L q)->∃b0,h q=some b0/\b0.live (L q):=by
   intro q b hq l;by_cases e:q∈ks
   .obtain⟨f,cs,own,a,_,_⟩:=hin q e;exact⟨_,a,trivial⟩
   grind
  obtain⟨c1,d1,f1⟩:=r q b1 hq l;obtain⟨H,d2,f2⟩:=r v G n A;exact m.sep q v c1 H D d1 d2 f1 f2
 .intro q blk hq
  by_cases e:q∈ks
  .obtain⟨f,cs,own,a,p,_⟩:=hin q e
   rw[p]at hq;injection hq with hq;subst hq;have:=m.own q _ a;cases own<;>exact this
  .rw[ha q e]at hq;exact m.own q blk hq
theorem C6(e:iX h1 x=some (p,W)):∀a∈W,(h1 a.1).isSome=true:=by
 unfold iX at e
 grind
theorem uZ:∀{xs:List AV}{p:List PV}{W:List (Nat×Blk)},eh h1 xs=some (p,W)->∀a∈W,(h1 a.1).isSome=true
 |[],p,W,e=>by simp only[eh,YV,Y6]at e;obtain⟨_,rfl⟩:=e;simp
 |x::r,p,W,e=>by
  simp only[eh]at e;split at e
  .rename_i d f
   injection e with e;injection e with _ e;subst e;intro a c;rcases Y7.1 c with b|b
   .exact C6 d a b
   .exact uZ f a b
  .cases e
theorem wN(e:tH h1 x=some (p,W)):∀b∈W,(h1 b.1).isSome=true:=by
 unfold tH at e;split at e
 .split at e
  .rename_i d
   split at e
   .split at e
    .rename_i c
     split at e
     .injection e with e;injection e with _ e;subst e
      intro b a
      grind [uZ,List.mem_singleton]
     .cases e
    .cases e
   .split at e
    .split at e
     .rename_i c
      split at e
      .injection e with e;injection e with _ e;subst e
       intro b a
       grind [uZ,List.mem_singleton]
      .cases e
     .cases e
    .cases e
  .cases e
 .exact C6 e
theorem qe:∀{xs:List AV}{p:List PV}{W:List (Nat×Blk)},qC h1 xs=some (p,W)->∀a∈W,(h1 a.1).isSome=true
 |[],p,W,e=>by simp only[qC,YV,Y6]at e;obtain⟨_,rfl⟩:=e;simp
 |x::r,p,W,e=>by
  simp only[qC]at e;split at e
  .rename_i d f
   injection e with e;injection e with _ e;subst e;intro a c;rcases Y7.1 c with b|b
   .exact wN d a b
   .exact qe f a b
  .cases e
theorem zk(e:rI h1 x=some (p,W)):∀c∈W,(h1 c.1).isSome=true:=by
 unfold rI at e;split at e
 .grind
 .split at e
  .rename_i f
   split at e
   .grind
   .split at e
    .rename_i d
     split at e
     all_goals
      injection e with e;injection e with _ e;subst e;intro c b;rcases Y7.1 b with a|a
      .exact qe d c a
      .simp only[Zr]at a;subst a;simp[f]
    .cases e
  .cases e
 .cases e
theorem rN:∀{xs:List AV}{p:List PV}{W:List (Nat×Blk)},kv h1 xs=some (p,W)->∀a∈W,(h1 a.1).isSome=true
 |[],p,W,e=>by simp only[kv,YV,Y6]at e;obtain⟨_,rfl⟩:=e;simp
 |x::r,p,W,e=>by
  simp only[kv]at e;split at e
  .rename_i d f
   injection e with e;injection e with _ e;subst e;intro a c;rcases Y7.1 c with b|b
   .exact zk d a b
   .exact rN f a b
  .cases e
theorem JO(e:BU h1 x=some (p,W)):∀b∈W,(h1 b.1).isSome=true:=by
 unfold BU at e;split at e
 .split at e
  .rename_i a;injection e with e;injection e with _ e;subst e;exact qe a
  .cases e
 .split at e
  .rename_i a d
   injection e with e;injection e with _ e;subst e;intro b c
   grind [qe,rN]
  .cases e
 .exact wN e
theorem u7:∀{xs:List AV}{p:List PV}{W:List (Nat×Blk)},pQ h1 xs=some (p,W)->∀a∈W,(h1 a.1).isSome=true
 |[],p,W,e=>by simp only[pQ,YV,Y6]at e;obtain⟨_,rfl⟩:=e;simp
 |x::r,p,W,e=>by
  simp only[pQ]at e;split at e
  .rename_i d f
   injection e with e;injection e with _ e;subst e;intro a c;rcases Y7.1 c with b|b
   .exact JO d a b
   .exact u7 f a b
  .cases e
theorem Lf(e:frz h1 x=some (p,W)):∀b∈W,(h1 b.1).isSome=true:=by
 unfold frz at e;split at e
 .split at e
  .rename_i a;injection e with e;injection e with _ e;subst e;exact u7 a
  .cases e
 .split at e
  .rename_i a d
   injection e with e;injection e with _ e;subst e;intro b c
   grind [qe,rN]
  .cases e
 .split at e
  .rename_i a;injection e with e;injection e with _ e;subst e;exact u7 a
  .cases e
 .exact wN e
theorem nP:∀{xs:List AV}{c:List Nat}{h:Hp}(_:MemL C L h w)(_:bH h1 h){us:List Value}(_:aC w (ab C L h) L h xs us){as:List Arg}{ks:List Nat}{W:List (Nat×Blk)},
 i8 h1 xs c=some (as,ks,W)->aF C L h w L (ag h W) w/\bH h1 (ag h W)/\(∃n,ks=c++n)/\(c.Nodup->ks.Nodup)/\as.length=us.length/\
  (∀m∈W,(h1 m.1).isSome=true)/\∀(i:Nat) a v,as[i]?=some a->us[i]?=some v->JH w (ab C L (ag h W)) (ks.map λk=>(L k).b) a v
 |[],c,h,E,hf,us,P,as,ks,W,e=>by
  simp only[i8,YV,Y6]at e;obtain⟨rfl,rfl,rfl⟩:=e;rw[P.nil_inv];exact⟨aF.refl E,hf,⟨[],by simp⟩,id,rfl,by simp,λi a v h=>by simp at h⟩
 |x::r,c,h,E,hf,us,P,as,ks,W,e=>by
  obtain⟨u,V,rfl,Q,l⟩:=P.cons_inv;unfold i8 at e;split at e
  .rename_i k U
   split at e
   .rename_i hc
    obtain⟨rfl,M,_⟩:=hc;split at e
    .rename_i D H X f
     injection e with e;injection e with ea eb;injection eb with eb ec;subst ea;subst eb;subst ec;obtain⟨a1,s,⟨n,o⟩,y,z,A,B⟩:=nP E hf l f;refine⟨a1,s,⟨k::n,by rw[o];simp⟩,λO=>y ?_,by simp[z],A,λi a v ha d=>?_⟩
     .rw[List.nodup_append]
      refine⟨O,by simp,?_⟩;intro q hq Y F N;simp at F;subst F;subst N;have G:c.contains q=true:=List.contains_iff_mem.2 hq;rw[M]at G;cases G
     .cases i with
      |zero=>
       simp at ha d;subst ha;subst d;refine⟨(L k).b,by rw[o];simp,?_⟩
       cases Q with
       |ptr _=>rfl
      |succ i=>exact B i a v (by simpa using ha) (by simpa using d)
    .cases e
   .split at e
    .split at e
     .rename_i p R D H S f K
      injection e with e;injection e with ea eb;injection eb with eb ec;subst ea;subst eb;subst ec;obtain⟨b1,I,J⟩:=wI E hf Q f;obtain⟨a1,s,o,y,z,A,B⟩:=nP b1.1 J (l.mono b1.2.1 b1.2.2) K;rw[bG];refine⟨b1.trans a1,s,o,y,by simp[z],?_,λi a v ha d=>?_⟩
      .intro m j
       rcases Y7.1 j with g|g
       .exact zk f m g
       .exact A m g
      .cases i with
       |zero=>simp at ha d;subst ha;subst d;exact I.mono a1.2.1
       |succ i=>exact B i a v (by simpa using ha) (by simpa using d)
     .cases e
    .cases e
  .rename_i Z T
   split at e
   .rename_i p R D H S f K
    injection e with e;injection e with ea eb;injection eb with eb ec;subst ea;subst eb;subst ec;obtain⟨b1,I,J⟩:=m9 E hf Q f;obtain⟨a1,s,o,y,z,A,B⟩:=nP b1.1 J (l.mono b1.2.1 b1.2.2) K;rw[bG];refine⟨b1.trans a1,s,o,y,by simp[z],?_,λi a v ha d=>?_⟩
    .intro m j
     rcases Y7.1 j with g|g
     .exact Lf f m g
     .exact A m g
    .cases i with
     |zero=>simp at ha d;subst ha;subst d;exact I.mono a1.2.1
     |succ i=>exact B i a v (by simpa using ha) (by simpa using d)
   .cases e
theorem C7:∀{ks:List Nat}{hin:List (List PV)},lV h1 ks=some hin->hin.length=ks.length/\∀(i:Nat) k d,ks[i]?=some k->hin[i]?=some d->∃own,h1 k=some (.box (d.map .pv) own false)
 |[],hin,e=>by simp only[lV,YV]at e;subst e;exact⟨rfl,λi k d h=>by simp at h⟩
 |k::ks,hin,e=>by
  simp only[lV]at e;split at e
  .rename_i cs own l g f
   split at e
   .rename_i d hp
    injection e with e;subst e;obtain⟨a,b⟩:=C7 f;refine⟨by simp[a],λi q j hq c=>?_⟩
    cases i with
    |zero=>simp at hq c;subst hq;subst c;exact⟨own,by rw[<-qb hp];exact g⟩
    |succ i=>exact b i q j (by simpa using hq) (by simpa using c)
   .cases e
  .cases e
theorem AT:∀{ks:List Nat}{hout:List (List PV)}{h:Hp},ks.Nodup->hout.length=ks.length->(∀k∈ks,∃cs own j,h1 k=some (.box cs own j))->
 (∀k,k∉ks->ag h (jC h1 ks hout) k=h k)/\(∀r∈jC h1 ks hout,r.1∈ks)/\
 (∀(i:Nat) k b,ks[i]?=some k->hout[i]?=some b->∀cs own j,h1 k=some (.box cs own j)->ag h (jC h1 ks hout) k=some (.box (b.map .pv) own false))
 |[],hout,h,_,_,_=>by
  refine⟨λk _=>?_,?_,λi k b h=>by simp at h⟩
  .cases hout<;>rfl
  .cases hout<;>simp[jC]
 |k::ks,hout,h,e,u,s=>by
  cases hout with
  |nil=>simp at u
  |cons b f=>
   obtain⟨cs,own,j,d⟩:=s k (by simp);have o:k∉ks:=(yA3.1 e).1;have ih:=λ(h:Hp)=>AT (hout:=f) (h:=h) (yA3.1 e).2 (by simpa using u) (λq hq=>s q (by simp[hq]))
   have p:jC h1 (k::ks) (b::f)=(k,.box (b.map .pv) own false)::jC h1 ks f:=by simp[jC,d]
   rw[p];have v:∀q,ag h ((k,.box (b.map .pv) own false)::jC h1 ks f) q=ag (av h k (some (.box (b.map .pv) own false))) (jC h1 ks f) q:=λq=>rfl;refine⟨λq hq=>?_,?_,λi q y hq c l g m a=>?_⟩
   .simp at hq
    rw[v,(ih _).1 q hq.2,bc hq.1]
   .intro r n
    rcases Zi.1 n with rfl|x
    .simp
    .have:=(ih h).2.1 r x;simp[this]
   .rw[v]
    cases i with
    |zero=>
     simp at hq c;subst hq;subst c;rw[(ih _).1 k o,aE];rw[d]at a;injection a with a;injection a with _ h2 _;rw[h2]
    |succ i=>exact(ih _).2.2 i q y (by simpa using hq) (by simpa using c) l g m a
end
section
variable {C:Cx} {L:Nat->Loc} {h1 h:Hp} {w:World}
theorem jH{c:AV}(hc:RepA w M L h c u)(e:bA c=some (g,first,caps)):
 ∃a us:List Value,u=.func (.func g) a.toArray us.toArray/\aC w M L h first a/\aC w M L h caps us:=by
 unfold bA at e;split at e
 .rename_i f fs cs
  simp only[YV,Y6]at e;obtain⟨rfl,rfl,rfl⟩:=e
  cases hc with
  |pv j=>
   rw[aJ j];refine⟨fs.toList,cs.toList,by simp,?_,?_⟩
   all_goals
    refine⟨by simp,λq p u hp b=>?_⟩;simp only[YS,II]at hp;obtain⟨y,k,rfl⟩:=hp;rw[k]at b;injection b with b;subst b;exact .pv (.val _)
 .simp only[YV,Y6]at e
  obtain⟨rfl,rfl,rfl⟩:=e
  cases hc with
  |pv j=>cases j with
   |fn _ _ _ a us i d h1 h2=>exact⟨a,us,rfl,aC.map_pv ⟨i,h1⟩,aC.map_pv ⟨d,h2⟩⟩
 .simp only[YV,Y6]at e
  obtain⟨rfl,rfl,rfl⟩:=e
  cases hc with
  |fn _ _ _ a us i d h1 h2=>exact⟨a,us,rfl,⟨i,h1⟩,⟨d,h2⟩⟩
 .cases e
theorem EB{w:World}(hp:kP p=true)(h:Rep w M p v):Rep w M' p v:=by
 cases h with
 |val v=>exact .val v
 |agg cs e b a=>
  refine .agg cs e b (λi q u hq d=>?_);have:=L4.1 hp q (An hq);have c:=a i q u hq d
  cases q with
  |val f=>rw[aJ c];exact .val _
  |_=>cases this
 |_=>cases hp
theorem um{w:World}{x:PV}(hp:kP x=true)(a:x.cells[j]?=some p)(h:Rep w M p v):Rep w M' p v:=by
 cases x with
 |val u=>
  simp only[PV.cells,YS,II]at a;obtain⟨y,_,rfl⟩:=a;rw[aJ h];exact .val _
 |agg cs=>
  have:=L4.1 hp p (An a)
  cases p with
  |val b=>rw[aJ h];exact .val _
  |_=>cases this
 |_=>cases hp
theorem GE{w:World}{l:Loc}{xs:List PV}(n:xs.all kP=true)(h:dh w M (λ_=>default) (λ_=>none) l (.row e sz xs 0)):dh w M' (λ_=>default) (λ_=>none) l (.row e sz xs 0):=by
 obtain⟨c1,c,d,f,g⟩:=h;refine⟨c1,c,d,f,λhn=>?_⟩;obtain⟨d1,d2,arr,d3,d4,d5⟩:=g hn;refine⟨d1,d2,arr,d3,d4,λi x j p a b=>?_⟩;obtain⟨v,m,k⟩:=d5 i x j p a b;exact⟨v,m,um (L4.1 n x (An a)) b k⟩
theorem tM{w:World}(hp:uf p=true)(h:Rep w M p v):Rep w M' p v:=by
 cases h with
 |val v=>exact .val v
 |hd n a c=>exact .hd n a c
 |tup cs g e d=>
  refine .tup cs g e (λi q u hq f=>?_);have:=L4.1 hp q (An hq);have b:=d i q u hq f
  cases q with
  |val j=>rw[aJ b];exact .val _
  |hd n=>cases b with
   |hd _ a c=>exact .hd n a c
  |_=>cases this
 |agg cs g e d=>
  refine .agg cs g e (λi q u hq f=>?_);have:=L4.1 hp q (An hq);have b:=d i q u hq f
  cases q with
  |val j=>rw[aJ b];exact .val _
  |hd n=>cases b with
   |hd _ a c=>exact .hd n a c
  |_=>cases this
 |_=>cases hp
theorem wO(hm:MemL C L h w)(hs:∀k b,h1 k=some b->h k=some b){d:Option Nat}(f:∀q,d=some q->h1 q=h q/\q<2000000){c:AV}(hc:RepA w (ab C L h) L h c u)(ha:aC w (ab C L h) L h args us)
 {K:bP->Prop}(e:gk C.P c args d h1 K):∃g vs cs,u=.func (.func g) vs cs/\bR C.P g=true/\∃S:bP,K S/\
  Calls C.P g (vs.toList++us++cs.toList).toArray w λe H=>∃r L',e=.returned r/\aF C L h w L' (ag h S.2) H/\RepA H (ab C L' (ag h S.2)) L' (ag h S.2) S.1 r:=by
 unfold gk at e;split at e
 .exact e.elim
 .rename_i g first caps cc
  obtain⟨vs,cs,rfl,hf,cd⟩:=jH hc cc;split at e
  .exact e.elim
  .rename_i as ks W0 ck
   split at e
   .exact e.elim
   .rename_i b4
    split at e
    .exact e.elim
    .rename_i hin cg
     obtain⟨hout,res,b3,Z⟩:=e;have a8:aC w (ab C L h) L h (first++args++caps) (vs++us++cs):=(hf.append ha).append cd;obtain⟨a1,a2,⟨cv,a3⟩,a4,a5,a6,a7⟩:=nP hm (bH.of_sub hs) a8 ck;have ar:ks.Nodup:=a4 (by simp);obtain⟨b1,b2⟩:=C7 cg
     have m:∀k∈ks,∃(G:List PV)(own:Bool),h1 k=some (.box (G.map .pv) own false)/\ag h W0 k=some (.box (G.map .pv) own false):=by
      intro k B;obtain⟨i,hi⟩:=Z6.1 B
      have ch:i<hin.length:=by rw[b1];exact(th.1 hi).1
      obtain⟨own,Q⟩:=b2 i k hin[i] hi (an ch);refine⟨_,own,Q,?_⟩;rw[kU,hs _ _ Q];intro kb D Z;apply b4;rw[yAF];exact⟨kb,D,List.contains_iff_mem.2 (Z▸B)⟩
     obtain⟨aj,ad,hD⟩:=b3
     have cj:(ks.map λk=>(L k).b).Nodup:=by
      rw[List.nodup_iff_pairwise_ne]at ar|-;rw[List.pairwise_map];refine List.Pairwise.imp_of_mem ?_ ar;intro x y j hy cn;obtain⟨_,_,_,cm⟩:=m x j;obtain⟨_,_,_,cp⟩:=m y hy;exact a1.1.sep x y _ _ cn cm cp trivial trivial
     have W:=hD w (ab C L (ag h W0)) (ks.map λk=>(L k).b) (vs++us++cs) (λb o hM=>a1.1.mlt hM) (by simp[b1]) cj
      (λi b G hb Y=>by
        simp only[YS,II]at hb;obtain⟨k,B,rfl⟩:=hb;obtain⟨own,Q⟩:=b2 i k G B Y
        have hw:ag h W0 k=some (.box (G.map .pv) own false):=by
         obtain⟨cq,cr,h9,h10⟩:=m k (An B);rw[Q]at h9;injection h9 with h9;injection h9 with h11 h12;rw[h10,h11,h12]
        refine⟨λo=>.inr ⟨k,_,hw,trivial,rfl,by simp[Blk.frz]⟩,?_⟩;obtain⟨arr,ty,e1,e2⟩:=a1.1.bl k _ hw
        exact⟨arr,ty,e1,e2.map_pv_inv⟩) a5 a7
     refine⟨g,vs.toArray,cs.toArray,rfl,aj,?_⟩;have O:=AT (h1:=h1) (h:=ag h W0) ar (by rw[ad,b1]) (λk B=>by obtain⟨G,own,h9,_⟩:=m k B;exact⟨_,own,false,h9⟩)
     have V:∀H,Ext (·∈ks.map λk=>(L k).b) w H->(∀(i:Nat) b G,(ks.map λk=>(L k).b)[i]?=some b->hout[i]?=some G->ko H (ab C L (ag h W0)) b G)->
      aF C L h w L (ag h (W0++jC h1 ks hout)) H:=by
      intro H j T;rw[bG];refine a1.trans (a1.1.callStep j (by rw[ad,b1]) O.1 (λi k G B Y=>?_));obtain⟨cq,own,h9,h10⟩:=m k (An B);exact⟨_,own,h10,O.2.2 i k G B Y _ own false h9,T i _ G (by simp[B]) Y⟩
     unfold iE lz at Z;split at Z
     .rename_i e0 a
      refine⟨e0,Z,?_⟩
      have bq:(vs.toArray.toList++us++cs.toArray.toList).toArray=(vs++us++cs).toArray:=by simp
      rw[bq];refine W.mono ?_;rintro e1 H ⟨v,rfl,j,T,s⟩;have hA:=V H j T
      have N:∀q,h q=none->ag h W0 q=none:=by
       intro q hq;rw[kU,hq];intro kb D Z;have:=a6 kb D;rw[Z]at this;obtain⟨b,hb⟩:=Zl.1 this;rw[hs _ _ hb]at hq;cases hq
      have ah:∀b o,ab C L (ag h (W0++jC h1 ks hout)) b o->ab C L (ag h W0) b o:=by
       rw[bG];rintro b o (h0|⟨q,blk,hq,hl,b8,hf⟩)
       .exact .inl h0
       .by_cases b9:q∈ks
        .obtain⟨G,own,h9,h10⟩:=m q b9
         exact .inr ⟨q,_,h10,trivial,b8,by simp[Blk.frz]⟩
        .rw[O.1 q b9]at hq;exact .inr ⟨q,blk,hq,hl,b8,hf⟩
      split at a
      .rename_i p _
       injection a with a;subst a;unfold If;split
       .rename_i U
        simp only[up]at U;have ak:ks=[]:=List.isEmpty_iff.1 U.1;subst ak;have z:Ext (λ_=>False) w H:=⟨j.os,j.tape,j.output,j.size,λR n _=>j.block R n (by simp)⟩;obtain⟨g1,g2⟩:=hm.grow z
        have e0:([]++jC h1 [] hout:List (Nat×Blk))=[]:=by cases hout<;>rfl
        show∃r L',_/\aF C L h w L' (ag h ([]++jC h1 [] hout)) H/\_;rw[e0];exact⟨v,L,rfl,⟨g1,g2,KC.refl _ _⟩,.pv (tM U.2 s)⟩
       .exact⟨v,L,rfl,hA,.pv (Rep.mono (Pres.sub ah) s)⟩
      .rename_i p _
       split at a
       .rename_i ak
        injection a with a;subst a;subst ak;have z:Ext (λ_=>False) w H:=⟨j.os,j.tape,j.output,j.size,λR n _=>j.block R n (by simp)⟩;obtain⟨g1,g2⟩:=hm.grow z;exact⟨v,L,rfl,⟨g1,g2,KC.refl _ _⟩,.pv (Rep.mono (Pres.sub (λb o h9=>hm.mlt h9)) s)⟩
       .cases a
      .rename_i G q
       split at a
       .rename_i hq
        obtain⟨hq,rfl⟩:=hq;injection a with a;subst a;obtain⟨b,I,rfl,J⟩:=s;have F:=N q (by rw[<-(f q rfl).1];simpa using hq);simp only;rw[bG,j7];obtain⟨arr,ty,e1,e2⟩:=J;have z:Ext (λ_=>False) w H:=⟨j.os,j.tape,j.output,j.size,λR n _=>j.block R n (by simp)⟩
        have A:=a1.1.newKey F (f q rfl).2 (l:=⟨b,0,false⟩) (blk:=.box (G.map .pv) true false) z (λ_=>I) (by intro ct cu e;injection e with _ e2;cases e2)
         ⟨arr,ty,e1,aC.map_pv (e2.mono (Pres.sub (λR o' hh=>hh.elim .inl (λh9=>.inr h9.2))))⟩
        refine⟨_,av L q ⟨b,0,false⟩,rfl,a1.trans A,?_⟩;have:=RepA.ptr (w:=H) (M:=ab C (av L q ⟨b,0,false⟩) (av (ag h W0) q (some (.box (G.map .pv) true false)))) (L:=av L q ⟨b,0,false⟩) (h:=av (ag h W0) q (some (.box (G.map .pv) true false))) (k:=q) (off:=0) (aE _ _ _);rw[aE]at this;exact this
       .cases a
      .rename_i e9 sz xs q
       split at a
       .rename_i hq
        obtain⟨hq,rfl⟩:=hq;injection a with a;subst a;obtain⟨l,rfl,I,J⟩:=s;have F:=N q (by rw[<-(f q rfl).1];simpa using hq);simp only;rw[bG,j7];have z:Ext (λ_=>False) w H:=⟨j.os,j.tape,j.output,j.size,λR n _=>j.block R n (by simp)⟩;have A:=lA (e:=e9) (sz:=sz) (xs:=xs) a1.1 z F (f q rfl).2 I J;exact⟨_,_,rfl,a1.trans A.1,A.2⟩
       .cases a
      .rename_i e9 sz xs q
       split at a
       .rename_i hq
        obtain⟨hq,rfl⟩:=hq;injection a with a;subst a;obtain⟨U,l,rfl,I,J⟩:=s
        have ca:h q=none:=by rw[<-(f q rfl).1];simpa using hq
        have z:Ext (λ_=>False) w H:=⟨j.os,j.tape,j.output,j.size,λR n _=>j.block R n (by simp)⟩;have A:=lA (e:=e9) (sz:=sz) (xs:=xs) hm z ca (f q rfl).2 I (GE U J);simp only;rw[j7];exact⟨_,_,rfl,A.1,A.2⟩
       .cases a
      .rename_i pre e9 sz xs q
       split at a
       .rename_i hq
        obtain⟨hq,rfl⟩:=hq;injection a with a;subst a;obtain⟨l,cx,rfl,I,E,J⟩:=s;have F:=N q (by rw[<-(f q rfl).1];simpa using hq);simp only;rw[bG,j7];have z:Ext (λ_=>False) w H:=⟨j.os,j.tape,j.output,j.size,λR n _=>j.block R n (by simp)⟩;have A:=lA (e:=e9) (sz:=sz) (xs:=xs) a1.1 z F (f q rfl).2 I J;refine⟨_,_,rfl,a1.trans A.1,?_⟩
        have cb:∀b o,ab C (av L q l) (av (ag h W0) q (some (.row e9 sz xs 0))) b o->ab C L (ag h W0) b o\/(l.isNil=false/\b=l.b):=by
         rintro b o (h0|⟨k,blk,B,X,D,cf⟩)
         .exact .inl (.inl h0)
         .by_cases b7:k=q
          .subst b7
           rw[aE]at B D X;injection B with B;subst B;exact .inr ⟨X,D.symm⟩
          .rw[bc b7]at B D X
           exact .inl (.inr ⟨k,blk,B,X,D,cf⟩)
        refine .agg _ _ (by simp[E.1]) ?_;intro i p u hp hu;by_cases hi:i<pre.length
        .rw[YT (by simpa using hi),YS,an hi]at hp
         rw[YT (by rw[<-E.1];exact hi)]at hu;simp only[ZD,YV]at hp;subst hp;exact .pv ((E.2 i _ u (an hi) hu).mono (Pres.sub cb))
        .rw[YX (by simpa using hi)]at hp
         rw[YX (by rw[<-E.1];omega)]at hu;simp only[Zm]at hp
         have b5:i-pre.length=0:=by
          have:=(th.1 hp).1;simp at this;omega
         rw[<-E.1,b5]at hu;rw[b5]at hp;simp only[Z4,YV]at hp hu;subst hp;subst hu;exact A.2
       .cases a
      .cases a
     .exact Z.elim
end
theorem GF(e:AK P t name=some f)(n:Nat):(method (n+1) t v name).run P w=.ok (f,v) w:=by
 unfold AK at e;split at e
 .rename_i i hi
  split at e
  .rename_i m c
   split at e
   .rename_i hp
    have g:m.path.toList=[]:=by
     grind
    rw[method];simp only[Sem.run_bind,kS hi,Result.andThen_ok,c,g,follow]
    cases a:m.func with
    |none=>rw[a]at e;simp at e
    |some q=>
     obtain⟨j,b⟩:=q;rw[a]at e
     cases b with
     |true=>simp at e
     |false=>
      cases hd:P.underlying t with
      |none=>rw[hd]at e;simp at e
      |some d=>
       rw[hd]at e;simp only[Sem.run_pure,Result.andThen_ok,Sem.run_bind,receiverAt,bL hd]
       cases d<;>first|(simp at e;done)|(simp at e;subst e;rfl)
   .cases e
  .cases e
 .cases e
theorem Ir(e:AK P t name=some f):(method (P.types.size+Made.depth) t v name).run P w=.ok (f,v) w:=
 GF e (P.types.size+99)
theorem JP{d:Option Nat}(e:gk P (qD P name x) args d h K):∃t p f,x=.pv (.ifc t p)/\AK P t name=some f/\qD P name x=.fn (.func f) [.pv p] []:=by
 unfold qD at e|-;split at e
 .rename_i t p
  split at e
  .grind
  .simp[gk,bA]at e
 .simp[gk,bA]at e
section
variable {C:Cx} {L:Nat->Loc} {h1 h:Hp} {w:World}
theorem EC(T:MemL C L h w)(hs:∀k b,h1 k=some b->h k=some b)(l:∀d,o.dst=some d->h1 d=h d/\d<2000000)
 (I:∀x∈o.op.operands,RepA w (ab C L h) L h (ρ x) (a.eval x)){hn:List Nat}{K:bP->Prop}(e:ug C.P hn o ρ h1 K){next:Act->World->Prop}{Q:Exit->Act->World->Prop}
 (y:∀j u F E,K j->aF C L h w E (ag h j.2) F->RepA F (ab C E (ag h j.2)) E (ag h j.2) j.1 u->next (a.put o.dst u) F):o.wp C.P a w next Q:=by
 have M:iE (dw C.P hn o ρ h1) K->o.wp C.P a w next Q:=by
  intro e;unfold iE at e;split at e
  .rename_i j H
   obtain⟨v,W⟩:=j;obtain⟨n,u,F,E,D,V,ha,N⟩:=Iq T hs l I H;unfold Oper.wp;rw[D];rcases V with rfl|⟨rfl,rfl⟩
   .exact y (v,W) u F E e ha N
   .exact y (v,W) undef F E e ha N
  .exact e.elim
 unfold ug at e;split at e
 .rename_i c z
  split at e
  .rename_i f m
   obtain⟨callee,args,argTypes⟩:=c;simp only at m e;subst m;have hf:RepA w (ab C L h) L h (ρ f) (a.eval f):=I f (by rw[z];simp[Op.operands,Call.operands]);have q:aC w (ab C L h) L h (args.toList.map ρ) (args.toList.map a.eval):=sV _ (λx G=>I x (by rw[z];simp at G;simp[Op.operands,Call.operands,G]));obtain⟨g,O,cs,X,i,j,Z,hc⟩:=wO T hs l hf q e;unfold Oper.wp
   have B:(execOp a.eval o).run C.P w=.ok (.enter g (O.toList++args.toList.map a.eval++cs.toList).toArray) w:=by
    unfold bR at i
    cases s:C.P.funcs[g]? with
    |none=>rw[s]at i;cases i
    |some fn=>
     rw[s]at i;simp only[up,Zv,ZW,ne_eq]at i
     have hb:fn.body.isNone=false:=by cases R:fn.body<;>simp_all
     have A:(O++args.map a.eval)++cs=(O.toList++args.toList.map a.eval++cs.toList).toArray:=by
      grind
     unfold execOp;rw[z];simp only[resolve,X,Deferred.ofValue,pure_bind,Sem.run_bind,Result.andThen_ok,invoke,callFunc,program,Sem.run,s];simp[i.2,hb,A]
   rw[B];simp only[Oper.upon];refine hc.mono ?_
   grind
  .rename_i r name m
   obtain⟨callee,args,argTypes⟩:=c;simp only at m e;subst m;have D:RepA w (ab C L h) L h (ρ r) (a.eval r):=I r (by rw[z];simp[Op.operands,Call.operands]);have q:aC w (ab C L h) L h (args.toList.map ρ) (args.toList.map a.eval):=sV _ (λx G=>I x (by rw[z];simp at G;simp[Op.operands,Call.operands,G]));obtain⟨t,p,f,G,U,hi⟩:=JP e;rw[G]at D;generalize X:a.eval r=u at D
   cases D with
   |pv D=>cases D with
    |ifc _ _ v N=>
     have hf:RepA w (ab C L h) L h (qD C.P name (ρ r)) (.func (.func f) #[v] #[]):=by
      rw[hi];exact .fn (.func f) [.pv p] [] [v] [] rfl rfl (aC.cons (.pv N) .nil).2 aC.nil.2
     obtain⟨g,O,cs,Y,i,j,Z,hc⟩:=wO T hs l hf q e;injection Y with J e2 e3;injection J with J;subst J;subst e2;subst e3;unfold Oper.wp
     have B:(execOp a.eval o).run C.P w=.ok (.enter f (#[v].toList++args.toList.map a.eval++#[].toList).toArray) w:=by
      unfold bR at i
      cases s:C.P.funcs[f]? with
      |none=>rw[s]at i;cases i
      |some fn=>
       rw[s]at i;simp only[up,Zv,ZW,ne_eq]at i
       have hb:fn.body.isNone=false:=by cases R:fn.body<;>simp_all
       have A:#[v]++args.map a.eval=(#[v].toList++args.toList.map a.eval++#[].toList).toArray:=by
        apply Array.ext';simp
       have S:(#[Value.iface t v]++args.map a.eval).extract 1 (#[Value.iface t v]++args.map a.eval).size=args.map a.eval:=by
        apply Array.ext';simp;exact Zh (by simp)
       have h0:(#[Value.iface t v]++args.map a.eval)[0]?=some (.iface t v):=by rw[Zu (by simp)];rfl
       unfold execOp;rw[z];simp only[resolve,X,pure_bind,Sem.run_bind,Result.andThen_ok,invoke,h0,callMethod,S];rw[show Sem.run C.P program w=.ok C.P w from rfl,Result.andThen_ok,Ir U,Result.andThen_ok];simp only[callFunc,program,Sem.run_bind,Sem.run,s,Result.andThen_ok];rw[A];simp[i.2,hb]
     rw[B];simp only[Oper.upon];refine hc.mono ?_;rintro J F ⟨r,E,rfl,hA,D⟩;exact y j r F E Z hA D
  grind
 grind
end
def jI(P:Program)(ds:List Deferred):Prop:=∀d∈ds,∃g cap,d.target=.fn (.func g) cap/\gW P g
theorem jI.nil(P:Program):jI P []:=λd h=>by simp at h
def dH(C:Cx)(st:St)(a:Act)(w:World):Prop:=
 ∃L,MemL C L st.h w/\a.tmps.size=C.N/\jI C.P a.defers/\∀n,RepA w (ab C L st.h) L st.h (st.t n) (a.tmps.getD n undef)
theorem dH.forget(hs:dH C st a w){t:Nat->AV}(b:∀n,t n=.undef\/t n=st.t n):dH C ⟨t,st.h⟩ a w:=by
 obtain⟨L,h1,h2,h3,h4⟩:=hs;refine⟨L,h1,h2,h3,λn=>?_⟩;show RepA w (ab C L st.h) L st.h (t n) (a.tmps.getD n undef);rcases b n with e|e
 .rw[e];exact .undef _
 grind
theorem bB{L:Nat->Loc}(b:∀n,RepA w (ab C L st.h) L st.h (st.t n) (a.tmps.getD n undef))(x:Operand):RepA w (ab C L st.h) L st.h (st.ev x) (a.eval x):=by
 cases x with
 |tmp n=>exact b n
 |const v=>exact .pv (.val v)
 |global g=>exact .undef _
 |func f=>exact .pv (.val _)
theorem gZ(hd:d<a.tmps.size)(n:Nat):(a.put (some d) u).tmps.getD n undef=if n=d then u else a.tmps.getD n undef:=by
 simp only[Act.put,YZ]
 grind
theorem dH.put{L:Nat->Loc}(_:MemL C L st.h w)(hN:a.tmps.size=C.N)(f:jI C.P a.defers)(g:∀n,RepA w (ab C L st.h) L st.h (st.t n) (a.tmps.getD n undef))
 {d:Option Nat}(hd:dJ C.N d=true){v:AV}{W:List (Nat×Blk)}{u:Value}{w':World}{L':Nat->Loc}(c:aF C L st.h w L' (ag st.h W) w')(i:RepA w' (ab C L' (ag st.h W)) L' (ag st.h W) v u):
 dH C (st.put d v W) (a.put d u) w':=by
 refine⟨L',c.1,?_,?_,λn=>?_⟩
 .cases d<;>simp[Act.put,hN]
 .cases d<;>exact f
 .have b:=(g n).mono c.2.1 c.2.2
  cases d with
  |none=>exact b
  |some d=>
   have e:d<a.tmps.size:=by rw[hN];simp only[dJ,up,Is]at hd;exact hd.1
   rw[gZ e];simp only[St.put,av]
   grind
theorem dl{L:Nat->Loc}{t:Nat->AV}(i:∀n,RepA w (ab C L h) L h (t n) (a.tmps.getD n undef)){g:Bool}(e:dR ops t o.guard=some g):
 Region.wanted o (yielded ops a.tmps)=g:=by
 unfold dR at e;unfold Region.wanted;split at e
 .grind
 .rename_i j want k
  rw[k];simp only;split at e
  .rename_i d hd
   split at e
   .rename_i b hb
    injection e with e;subst e;have:=i d;rw[hb]at this
    have c:a.tmps.getD d undef=.bool b:=by cases this with|pv hr=>exact aJ hr
    have f:a.tmps[d]?=some (.bool b):=by
     rw[YZ]at c
     cases hq:a.tmps[d]? with
     |none=>rw[hq]at c;simp[undef]at c
     |some q=>rw[hq]at c;simp at c;rw[c]
    unfold yielded
    grind
   .rename_i q hb
    injection e with e;subst e;have:=i d;rw[hb]at this
    have c:a.tmps.getD d undef=.tuple q:=by cases this with|pv hr=>exact aJ hr
    rw[YZ]at c;unfold yielded
    grind
   .cases e
  .cases e
theorem Oper.wp_defer{c:Call}(i:o.op=.defer c){f:Operand}(hf:c.callee=.value f)(e:c.args.size=0){vs:Array Value}(j:a.eval f=.func (.func g) vs cs)
 {next:Act->World->Prop}{Q:Exit->Act->World->Prop}(h:next (({a with defers:={target:=.fn (.func g) cs,args:=vs}::a.defers}:Act).put o.dst undef) w):o.wp P a w next Q:=by
 unfold Oper.wp;have b:c.args=#[]:=Array.size_eq_zero_iff.1 e
 have d:(execOp a.eval o).run P w=.ok (.defer {target:=.fn (.func g) cs,args:=vs}) w:=by
  unfold execOp;rw[i];simp only[resolve,hf,j,Deferred.ofValue,b,pure_bind,Sem.run_bind,Sem.run_pure,Result.andThen_ok];simp
 rw[d];exact h
theorem JQ{L:Nat->Loc}{f:Fn}(b:RepA w M L h (.fn f first caps) u):∃a cs,u=.func f a cs:=by
 cases b with
 |fn _ _ _ a us d c h1 h2=>exact⟨_,_,rfl⟩
theorem wc{L:Nat->Loc}(_:MemL C L h w)(i:RepA w (ab C L h) L h x u)(e:rA h x=true):∃a n c,u=.slice a n c:=by
 unfold rA at e;split at e
 .cases i with
  |pv g=>
   cases g with
   |sl0 a c=>exact⟨_,_,_,rfl⟩
   |sl xs b o c sz u f q hc g=>exact⟨_,_,_,rfl⟩
 .rename_i k n
  split at e
  .rename_i e0 sz xs p j
   simp only[up,Is]at e
   cases i with
   |arr d l m=>
    rw[j]at d;injection d with d;injection d with a1 a2 a3 a4;subst a3;rw[m e.1,Loc.slice];split<;>exact⟨_,_,_,rfl⟩
  .cases e
 .cases e
theorem ym{L:Nat->Loc}(p:MemL C L st.h w)(hN:a.tmps.size=C.N)(m:jI C.P a.defers)(q:∀n,RepA w (ab C L st.h) L st.h (st.t n) (a.tmps.getD n undef))
 {o:Oper}(hd:dJ C.N o.dst=true){hn:List Nat}{K:bP->Prop}(e:wH C.P hn o st.ev st.h K){next:Act->World->Prop}{Q:Exit->Act->World->Prop}
 (i:∀j E D,K j->dH C (st.put o.dst j.1 j.2) E D->next E D):o.wp C.P a w next Q:=by
 have v:ug C.P hn o st.ev st.h K->o.wp C.P a w next Q:=λe=>
  EC p (λ_ _ h=>h) (λd z=>⟨rfl,by rw[z]at hd;simp only[dJ,up,Is]at hd;exact hd.2⟩) (λx _=>bB q x) e (λj u D Y T R B=>i j _ _ T (dH.put p hN m q hd R B))
 unfold wH at e;split at e
 .rename_i c k
  split at e
  .rename_i f r
   split at e
   .rename_i O
    unfold GX at e;split at e
    .rename_i g first caps A
     obtain⟨G,cs,B⟩:=JQ (by have:=bB q f;rw[A]at this;exact this);refine Oper.wp_defer k r O B (i _ _ _ e.2 ?_)
     have hq:jI C.P ({target:=.fn (.func g) cs,args:=G}::a.defers):=by
      intro d l;rcases Zi.1 l with rfl|l
      .grind
      .exact m d l
     exact dH.put (a:={a with defers:={target:=.fn (.func g) cs,args:=G}::a.defers}) p hN hq q hd (W:=[]) (aF.refl p) (.undef _)
    .exact e.elim
   .exact e.elim
  .exact e.elim
 .rename_i op t x y t' k
  split at e
  .rename_i hc
   simp only[up,ZI,ZH]at hc;obtain⟨⟨⟨c1,I⟩,J⟩,Z⟩:=hc;have V:=zR c1 (bB q y);obtain⟨F,n,c,U⟩:=wc p (bB q x) J
   obtain⟨b,hb⟩:∃b:Bool,(op=.eql/\b=F.isNone)\/(op=.neq/\b=!F.isNone):=by
    grind
   have s:(execOp a.eval o).run C.P w=.ok (.value (.bool b)) w:=by
    obtain⟨M,X,ty,pos,H,g⟩:=o;simp only at k;subst k;exact eJ (B9 (rL I) U V hb) w
   have S:K (.pv (.val (.bool b)),[]):=by cases b with
    |true=>exact e.1
    |false=>exact e.2
   unfold Oper.wp;rw[s];exact i _ _ _ S (dH.put p hN m q hd (W:=[]) (aF.refl p) (.pv (.val _)))
  grind
 grind
theorem fu{C:Cx}{hn:List Nat}{ops:Array Oper}{Q:St->Prop}{Q':Exit->Act->World->Prop}(j:∀st a w,dH C st a w->Q st->Q' .normal a w):
 ∀{l:List Oper}{st:St}{a:Act}{w:World},dH C st a w->cw C.P hn C.N ops Q l st->wpList C.P ops Q' l a w
 |[],st,a,w,r,e=>j st a w r e
 |o::l,st,a,w,r,e=>by
  obtain⟨L,k,hN,f,i⟩:=r;simp only[cw]at e;obtain⟨hd,e⟩:=e;refine wpList_step (λK n=>?_);split at e
  .rename_i p
   rw[dl i (pT p),YY rfl];exact ym k hN f i hd e (λm s u q c=>n _ _ (fu j c q))
  .rename_i d b want p
   rw[dl i (me p)];unfold ze at e;simp only at e;split at e
   .rename_i g
    subst g;rw[YY (by simp)];exact ym k hN f i hd e (λm s u q c=>n _ _ (fu j c q))
   .rename_i g
    rw[YR (by simpa using g)];exact n _ _ (fu j (dH.put k hN f i hd (W:=[]) (aF.refl k) (.pv (.val _))) e)
  .exact e.elim
def WP(C:Cx)(c:Code)(Q:Exit->St->Prop)(st:St):Prop:=∀a w,dH C st a w->c.wp C.P (λe d f=>∃b,dH C b d f/\Q e b) a w
section
variable {C:Cx} {Q:Exit->St->Prop} {st:St}
theorem WP.region(h:cw C.P hn C.N ops (Q .normal) ops.toList st):WP C (.region id ops false) Q st:=
 λ_ _ c=>wp_region_list (fu (λb _ _ a hq=>⟨b,a,hq⟩) c h)
def ED(C:Cx)(y:Code)(Q:Exit->St->Prop):Exit->St->Prop
 |.normal,st=>WP C y Q st
 |e,st=>Q e st
theorem WP.seq{x y:Code}(h:WP C x (ED C y Q) st):WP C (.seq x y) Q st:=by
 intro a w f;refine wp_seq (wp_mono (h a w f) ?_);rintro e d g ⟨c,b,hq⟩
 cases e with
 |normal=>exact hq d g b
 |_=>exact⟨c,b,hq⟩
theorem WP.mono{Q':Exit->St->Prop}(h:WP C c Q st)(hq:∀e st,Q e st->Q' e st):WP C c Q' st:=
 λa w g=>wp_mono (h a w g) (λe _ _ ⟨b,f,d⟩=>⟨b,f,hq e b d⟩)
theorem WP.skip(h:Q .normal st):WP C .skip Q st:=λ_ _ a=>wp_skip ⟨st,a,h⟩
theorem WP.ret(h:Q .ret st):WP C .ret Q st:=λ_ _ a=>wp_ret ⟨st,a,h⟩
theorem WP.exit(h:Q (.exit id) st):WP C (.exit id) Q st:=λ_ _ a=>wp_exit ⟨st,a,h⟩
theorem WP.cond{c:Operand}{x y:Code}(hc:st.ev c=.pv (.val (.bool b)))(k:b=true->WP C x Q st)(hf:b=false->WP C y Q st):WP C (.cond c x y) Q st:=by
 intro a w f
 have d:a.eval c=.bool b:=by
  obtain⟨L,l,hN,i,g⟩:=f;have:=bB g c;rw[hc]at this
  cases this with
  |pv j=>exact aJ j
 exact wp_cond_split d (λe=>k e a w f) (λe=>hf e a w f)
def nQ(id:Nat)(Q:Exit->St->Prop):Exit->St->Prop
 |.exit i,st=>if i=id then Q .normal st else Q (.exit i) st
 |e,st=>Q e st
theorem WP.block(h:WP C c (nQ id Q) st):WP C (.block id c) Q st:=by
 intro a w f;refine wp_block (wp_mono (h a w f) ?_);rintro e g j ⟨d,b,hq⟩
 cases e with
 |exit i=>
  simp only[nQ,Exit.inBlock]at hq|-
  grind
 |_=>exact⟨d,b,hq⟩
def fA(ks:List Nat):AV->Bool
 |.pv _=>false
 |.ptr k _|.arr k _|.eptr k _ _ _=>ks.contains k
 |.ext x=>ks.contains x.key
 |_=>true
def o7(ks:List Nat):AV->Bool
 |.agg cs=>cs.any (fA ks)
 |.fn _ first caps=>first.any (fA ks)||caps.any (fA ks)
 |.tup _=>true
 |x=>fA ks x
def dL(ks:List Nat)(x:AV):AV:=if o7 ks x=true then .undef else x
def fB(ks:List Nat):Blk->Blk
 |.box cs own a=>.box (cs.map (dL ks)) own a
 |b=>b
def St.kill(ks:List Nat)(st:St):St:=⟨λn=>dL ks (st.t n),λk=>if ks.contains k=true then none else(st.h k).map (fB ks)⟩
def cut(ks:List Nat)(h:Hp):Hp:=λk=>if ks.contains k=true then none else h k
theorem rB(hc:ks.contains k=false)(a:h k=some blk):cut ks h k=some blk:=by
 unfold cut;rw[YR (by rw[hc];decide),a]
theorem jW{L:Nat->Loc}(hd:fA ks x=false)(g:RepA w M L h x u):RepA w M L (cut ks h) x u:=by
 cases g with
 |pv e=>exact .pv e
 |ptr a=>exact .ptr (rB (by simpa only[fA]using hd) a)
 |arr a hn b=>exact .arr (rB (by simpa only[fA]using hd) a) hn b
 |eptr a hn b=>exact .eptr (rB (by simpa only[fA]using hd) a) hn b
 |ext d=>
  cases d with
  |barr hc a=>exact .ext (.barr hc (rB (by simpa only[fA,XV.key]using hd) a))
  |mp a=>exact .ext (.mp (rB (by simpa only[fA,XV.key]using hd) a))
  |suf c a hn f b=>exact .ext (.suf c (rB (by simpa only[fA,XV.key]using hd) a) hn f b)
 |agg=>cases hd
 |fn=>cases hd
 |tup=>cases hd
 |undef=>cases hd
theorem wP{L:Nat->Loc}(k:RepA w M L h x u):RepA w M L (cut ks h) (dL ks x) u:=by
 unfold dL;split
 .exact .undef _
 .rename_i hd
  have hd:o7 ks x=false:=by simpa using hd
  have el:∀{cs:List AV}{i:Nat}{p:AV},cs.any (fA ks)=false->cs[i]?=some p->fA ks p=false:=by
   grind
  cases k with
  |agg cs g d ha=>exact .agg cs g d (λi p u a b=>jW (el hd a) (ha i p u a b))
  |fn f first caps g us d c h1 h2=>
   have hd:(first.any (fA ks)||caps.any (fA ks))=false:=hd;rw[Z5]at hd
   exact .fn f first caps g us d c (λi p u a b=>jW (el hd.1 a) (h1 i p u a b)) (λi p u a b=>jW (el hd.2 a) (h2 i p u a b))
  |tup=>cases hd
  |undef=>exact .undef _
  |pv j=>exact jW hd (.pv j)
  |ptr c=>exact jW hd (.ptr c)
  |arr c hn b=>exact jW hd (.arr c hn b)
  |eptr c hn b=>exact jW hd (.eptr c hn b)
  |ext e=>exact jW hd (.ext e)
theorem wQ(ks:List Nat)(b:Blk)(l:Loc):dg b l (fB ks b) l:=by cases b<;>simp[dg,fB]
theorem G2{L:Nat->Loc}:KC L (cut ks h) L (λk=>if ks.contains k=true then none else(h k).map (fB ks)):=by
 intro k blk a;unfold cut at a;split at a
 .cases a
 .rename_i hc
  exact⟨fB ks blk,by simp only[YR hc,a];rfl,wQ ks blk _⟩
theorem wR{L:Nat->Loc}(hp:Pres w M w M')(a:RepA w M L h x u):
 RepA w M' L (λk=>if ks.contains k=true then none else(h k).map (fB ks)) (dL ks x) u:=(wP a).mono hp G2
theorem dH.kill(ks:List Nat)(hs:dH C st a w):dH C (st.kill ks) a w:=by
 obtain⟨L,g,hN,y,T⟩:=hs
 have d:∀k c,(st.kill ks).h k=some c->∃blk,st.h k=some blk/\fB ks blk=c/\c.live (L k)=blk.live (L k)/\∀o,c.frz o=blk.frz o:=by
  intro k c f;simp only[St.kill]at f;split at f
  .cases f
  .simp only[II]at f
   obtain⟨blk,h1,rfl⟩:=f;exact⟨blk,h1,rfl,by cases blk<;>rfl,λo=>by cases blk<;>rfl⟩
 have Q:∀b o,ab C L (st.kill ks).h b o->ab C L st.h b o:=by
  rintro b o (P|⟨k,c,f,A,hb,hf⟩)
  .exact .inl P
  .obtain⟨blk,h1,_,h2,h3⟩:=d k c f
   exact .inr ⟨k,blk,h1,h2▸A,hb,h3 o▸hf⟩
 have hp:Pres w (ab C L st.h) w (ab C L (st.kill ks).h):=Pres.sub Q;refine⟨L,⟨g.ext,g.m0,?_,?_,?_⟩,hN,y,λn=>wR hp (T n)⟩
 .intro k c f
  obtain⟨blk,h1,rfl,_,_⟩:=d k c f;have:=g.bl k blk h1
  cases blk with
  |box cs own v=>
   obtain⟨arr,V,s,m⟩:=this;refine⟨arr,V,s,by simpa using m.1,λi p u l E=>?_⟩;simp only[YS,II]at l;obtain⟨q,hq,rfl⟩:=l;exact wR hp (m.2 i q u hq E)
  |row e sz xs v=>
   obtain⟨a1,G,H,I,J⟩:=this;refine⟨a1,G,H,I,λhn=>?_⟩;obtain⟨b1,r,arr,K,M,N⟩:=J hn;exact⟨b1,r,arr,K,M,λi x j p U R=>by obtain⟨u,E,S⟩:=N i x j p U R;exact⟨u,E,S.mono hp⟩⟩
  |mp kd n es v=>exact this
 .intro k F b1 r D f z A B
  obtain⟨c1,d1,_,s,_⟩:=d k b1 f;obtain⟨O,d2,_,m,_⟩:=d F r z;exact g.sep k F c1 O D d1 d2 (s▸A) (m▸B)
 .intro k c f
  obtain⟨blk,h1,rfl,_,_⟩:=d k c f;have:=g.own k blk h1
  cases blk with
  |box cs own v=>cases own<;>exact this
  |row=>exact this
  |mp=>exact this
theorem WP.loop(ks:List Nat)(I:St->Prop)(μ:St->Nat)(A:I (st.kill ks))
 (round:∀st,I st->WP C c (λe d=>match e with|.normal=>I (d.kill ks)/\μ (d.kill ks)<μ st|e=>Q e d) st):WP C (.loop c) Q st:=by
 intro a w u
 have key:∀n st a w,μ st=n->I st->dH C st a w->∀b k cs,∃e o p,(∃d,dH C d o p/\Q e d)/\Arrives C.P (lone (b.at a (.code c::.inLoop c::k)) cs w) b k cs e o p:=by
  intro n
  induction n using Nat.strongRecOn with
  |_ n ih=>
   intro st a w hn z u b k cs;obtain⟨e,j,m,⟨d,g,hq⟩,f⟩:=round st z a w u b (.inLoop c::k) cs
   cases e with
   |normal=>
    obtain⟨q,r⟩:=hq;obtain⟨y,v,B,s,i⟩:=ih (μ (d.kill ks)) (hn▸r) _ j m rfl q (g.kill ks) b k cs;exact⟨y,v,B,s,.of_steps (Steps.trans f (.one step_inLoop)) i⟩
   |exit id=>exact⟨_,j,m,⟨d,g,hq⟩,.pass (x:=.inLoop c) rfl (λ_ _=>.inl (by simp)) f⟩
   |goto l=>exact⟨_,j,m,⟨d,g,hq⟩,.pass (x:=.inLoop c) rfl (λ_ _=>.inl (by simp)) f⟩
   |ret=>exact⟨_,j,m,⟨d,g,hq⟩,.pass (x:=.inLoop c) rfl (λ_ _=>.inl (by simp)) f⟩
   |panic D=>exact⟨_,j,m,⟨d,g,hq⟩,.pass (x:=.inLoop c) rfl (λ_ _=>.inl (by simp)) f⟩
   |outgrown=>exact⟨_,j,m,⟨d,g,hq⟩,.pass (x:=.inLoop c) rfl (λ_ _=>.inl (by simp)) f⟩
 intro b k cs;obtain⟨e,o,p,hq,f⟩:=key _ (st.kill ks) a w rfl A (u.kill ks) b k cs;exact⟨e,o,p,hq,.of_steps (.one step_loop) f⟩
end
def pk(i:Nat):Nat:=1000000+i
def EE(args:List Arg):Nat->AV:=λn=>match args[n]? with
 |some (.pv p)=>.pv p
 |some (.bx i)=>.ptr (pk i) 0
 |none=>.undef
def o8(hin:List (List PV)):Hp:=λk=>if k<1000000 then none else match hin[k-1000000]? with
 |some a=>some (.box (a.map .pv) false false)
 |none=>none
def rO(args:List Arg)(hin:List (List PV)):St:=⟨EE args,o8 hin⟩
def nc(P:Program)(st:St):List ResultVar->Option (List AV)
 |[]=>some []
 |.tmp t::r=>(nc P st r).map (st.t t::·)
 |.cell a b::r=>match az P b with
  |some ti=>match wC ti (st.t a) st.h,nc P st r with
   |some v,some c=>some (v::c)
   |_,_=>none
  |none=>none
def mf(P:Program)(st:St)(rs:List ResultVar):Option AV:=match nc P st rs with
 |some [v]=>some v
 |some a=>some (.tup a)
 |none=>none
def iP(P:Program)(rs:List ResultVar)(hout:List (List PV))(res:RV)(st:St):Prop:=
 ∃r,mf P st rs=some r/\(∀(i:Nat) a,hout[i]?=some a->st.h (pk i)=some (.box (a.map .pv) false false))/\
  (match res with
  |.pv p=>∃W,frz st.h r=some (p,W)
  |.new p=>Nc st.h r=some p
  |.box a=>∃k,r=.ptr k 0/\st.h k=some (.box (a.map .pv) true false)
  |.row e sz xs=>∃k,r=.arr k xs.length/\st.h k=some (.row e sz xs 0)
  |.nrow e sz xs=>xs.all kP=true/\∃k,r=.arr k xs.length/\st.h k=some (.row e sz xs 0)
  |.srow pre e sz xs=>∃k,r=.agg (pre.map .pv++[.arr k xs.length])/\st.h k=some (.row e sz xs 0))
def Fin(P:Program)(rs:List ResultVar)(hout:List (List PV))(res:RV):Exit->St->Prop
 |.normal,st=>iP P rs hout res st
 |.ret,st=>iP P rs hout res st
 |_,_=>False
theorem sW(hc:bR P g=true)(cap a:Array Value)(w:World):(invoke (.fn (.func g) cap) a).run P w=.ok (.enter g (a++cap)) w:=by
 unfold bR at hc
 cases b:P.funcs[g]? with
 |none=>rw[b]at hc;cases hc
 |some fn=>
  rw[b]at hc;simp only[up,Zv,ZW,ne_eq]at hc
  have hb:fn.body.isNone=false:=by cases c:fn.body<;>simp_all
  simp only[invoke,callFunc,program,Sem.run_bind,Sem.run,Result.andThen_ok,b];simp[hc.2,hb]
theorem iH{P:Program}{fn:Func}{tmps:Array Value}{R:Ending->World->Prop}{w:World}{v:Value}:∀{ds:List Deferred},jI P ds->(results fn tmps).run P w=.ok v w->R (.returned v) w->Leaves P fn tmps R ds .returning w
 |[],_,b,a=>⟨v,b,a⟩
 |d::ds,hq,b,a=>by
  obtain⟨g,cap,f,c⟩:=hq d (by simp);refine⟨by simp,.func g,cap,g,d.args++cap,f,by rw[f];exact sW c.1 _ _ _,(c.2 _ w).mono ?_⟩;rintro e i k ⟨rfl,⟨j,rfl⟩,rfl⟩;exact iH (λd hd=>hq d (by simp[hd])) b a
def Cd(tmps:Array Value):ResultVar->Sem Value
 |.tmp t=>pure (tmps.getD t undef)
 |.cell b t=>do loadVar t (<-asAddr (tmps.getD b undef))
section
variable {C:Cx} {L:Nat->Loc} {st:St} {a:Act} {w:World}
theorem pU(m:MemL C L st.h w)(k:∀n,RepA w (ab C L st.h) L st.h (st.t n) (a.tmps.getD n undef)):∀{rs:List ResultVar}{vs:List AV},nc C.P st rs=some vs->
 ∃us:List Value,(rs.mapM (Cd a.tmps)).run C.P w=.ok us w/\aC w (ab C L st.h) L st.h vs us
 |[],vs,e=>by
  simp only[nc,YV]at e;subst e;exact⟨[],by simp,aC.nil⟩
 |.tmp t::r,vs,e=>by
  simp only[nc,II]at e;obtain⟨s,l,rfl⟩:=e;obtain⟨us,h1,h2⟩:=pU m k l;refine⟨a.tmps.getD t undef::us,?_,.cons (k t) h2⟩;simp only[List.mapM_cons,Cd,Sem.run_bind,Sem.run_pure,Result.andThen_ok,h1]
 |.cell b y::r,vs,e=>by
  simp only[nc]at e;split at e
  .rename_i ti q
   split at e
   .rename_i v s e0 l
    injection e with e;subst e;obtain⟨us,h1,h2⟩:=pU m k l;obtain⟨u,c,o⟩:=wJ m (λ_ _ h=>h) q (k b) e0;refine⟨u::us,?_,.cons o h2⟩
    have d:∃f,a.tmps.getD b undef=.pointer (some f):=by
     unfold Instr.loadAt at c
     cases x:a.tmps.getD b undef with
     |pointer p=>cases p with
      |none=>rw[x]at c;simp[Instr.sureAddr,stuck]at c
      |some f=>exact⟨f,rfl⟩
     |_=>rw[x]at c;simp[Instr.sureAddr,stuck]at c
    obtain⟨f,g⟩:=d;rw[g]at c;have j:(loadVar y f).run C.P w=.ok u w:=c
    have i:(Cd a.tmps (.cell b y)).run C.P w=.ok u w:=by simp only[Cd,g,asAddr,pure_bind,j]
    simp only[List.mapM_cons,Sem.run_bind,i,Sem.run_pure,Result.andThen_ok,h1]
   .cases e
  .cases e
theorem nR(g:MemL C L st.h w)(i:∀n,RepA w (ab C L st.h) L st.h (st.t n) (a.tmps.getD n undef)){r:AV}(e:mf C.P st fn.results.toList=some r):
 ∃u,(results fn a.tmps).run C.P w=.ok u w/\RepA w (ab C L st.h) L st.h r u:=by
 unfold mf at e
 have key:∀b us,(fn.results.toList.mapM (Cd a.tmps)).run C.P w=.ok us w->aC w (ab C L st.h) L st.h b us->
  (results fn a.tmps).run C.P w=.ok (if h:us.toArray.size=1 then us.toArray[0]else .tuple us.toArray) w:=by
  intro b us h1 _;have:results fn a.tmps=(do let b <-fn.results.mapM (Cd a.tmps);pure (if h:b.size=1 then b[0]else .tuple b)):=rfl;rw[this,Array.mapM_eq_mapM_toList];simp only[Sem.run_bind,Sem.run_map,h1,Result.andThen_ok];rfl
 split at e
 .rename_i v d
  injection e with e;subst e;obtain⟨us,h1,h2⟩:=pU g i d;obtain⟨u,j,rfl,k,hn⟩:=h2.cons_inv;have:=hn.nil_inv;subst this
  grind
 .rename_i b c d
  injection e with e;subst e;obtain⟨us,h1,h2⟩:=pU g i d;refine⟨.tuple us.toArray,?_,.tup b us h2.1 h2.2⟩;rw[key _ _ h1 h2]
  have:¬us.length=1:=by
   intro f
   cases b with
   |nil=>have:=h2.1;simp at this;rw[<-this]at f;simp at f
   |cons v r=>cases r with
    |nil=>exact c v rfl
    |cons=>have:=h2.1;simp at this;omega
  simp[this]
 .cases e
end
section
variable {C:Cx} {L:Nat->Loc} {h:Hp} {w:World}
abbrev wU(C:Cx):Nat->Nat->Prop:=λb _=>b<C.w0.heap.size
theorem AU(f:MemL C L h w)(g:∀{b:Nat},(C.w0.heap.size<=b\/(C.S b/\∀o,¬C.M0 b o))->C.w0.heap.size<=b)(d:RepA w (ab C L h) L h x u)(e:wD h x=some p):Rep w (wU C) p u:=by
 cases x with
 |pv q=>
  simp only[wD]at e;split at e
  .rename_i hq
   injection e with e;subst e
   cases d with
   |pv E=>exact EB hq E
  .cases e
 |arr k n=>
  simp only[wD]at e;split at e
  .rename_i H sz xs B c
   split at e
   .rename_i hc
    injection e with e;subst e
    cases d with
    |arr a D F=>
     rw[c]at a;injection a with a;injection a with a1 m r s;subst a1;subst m;subst r;subst s;rw[F hc.1];obtain⟨_,_,g3,g4,g5⟩:=f.bl k _ c;unfold Loc.slice
     cases hn:(L k).isNil with
     |true=>rw[g4 hn];exact .sl0 none 0
     |false=>
      obtain⟨a1,m,arr,r,s,G⟩:=g5 hn;have v:=g ((f.own k _ c).row hn);simp only[YU,Y5];rw[<-hc.1];refine .sl xs (L k).b 0 (L k).cap sz (λi j=>(arr[i*sz+j]?).getD undef) a1 (λi x d=>g3 x (An d)) ?_ ?_
      all_goals grind [gc,um,List.all_eq_true,List.mem_of_getElem?]
   .cases e
  .cases e
 |ext y=>
  cases y with
  |barr=>cases e
  |suf=>cases e
  |mp k=>
   simp only[wD]at e;split at e
   .rename_i kd n es B c
    injection e with e;subst e;obtain⟨arr,clock,z,A⟩:=f.bl k _ c
    cases d with
    |ext l=>cases l with
     |mp _=>
      have h9:C.w0.heap.size<=(L k).b:=f.own k _ c;exact .mp kd n es _ arr clock z (λh10=>by have h10:(L k).b<C.w0.heap.size:=h10;omega) A
   .cases e
 |_=>cases e
theorem zl(d:MemL C L h w)(a:∀{b:Nat},(C.w0.heap.size<=b\/(C.S b/\∀o,¬C.M0 b o))->C.w0.heap.size<=b):∀{xs:List AV}{us:List Value}{ps:List PV},aC w (ab C L h) L h xs us->sT h xs=some ps->bn w (wU C) ps us
 |[],us,ps,c,e=>by
  simp only[sT,YV]at e;subst e;rw[c.nil_inv];exact .nil
 |x::r,us,ps,c,e=>by
  simp only[sT]at e;split at e
  .rename_i p k f g
   injection e with e;subst e;obtain⟨u,l,rfl,j,i⟩:=c.cons_inv;exact .cons (AU d a j f) (zl d a i g)
  .cases e
theorem u9(s:MemL C L h w)(g:∀{b:Nat},(C.w0.heap.size<=b\/(C.S b/\∀o,¬C.M0 b o))->C.w0.heap.size<=b)(a:RepA w (ab C L h) L h x u)(e:BV h x=some p):Rep w (wU C) p u:=by
 unfold BV at e;split at e
 .rename_i k n B
  split at e
  .rename_i cs I D
   split at e
   .rename_i hn
    split at e
    .rename_i d F
     split at e
     .rename_i H
      injection e with e;subst e;obtain⟨arr,J,m,f⟩:=s.bl k _ D;have y:=zl s g f F;have E:C.w0.heap.size<=(L k).b:=g (s.own k _ D)
      have l:d.length=n:=by rw[y.1,<-f.1];exact hn
      have one:∀(i:Nat) x(j:Nat) p,d[i]?=some x->x.cells[j]?=some p->j=0/\p=x:=by
       grind [iG,List.all_eq_true,List.mem_of_getElem?]
      have get:∀(i:Nat) p,d[i]?=some p->∃v,arr[i]?=some v/\Rep w (wU C) p v:=by
       intro i p hp
       have r:i<arr.toList.length:=by rw[<-y.1];exact(th.1 hp).1
       have c:arr.toList[i]?=some (arr.toList[i]):=an r;exact⟨_,by rw[<-Array.getElem?_toList];exact c,y.2 i p _ hp c⟩
      cases a with
      |ext A=>cases A with
       |barr G _=>
        have key:Rep w (wU C) (.sl d) (.slice (some ⟨(L k).b,0,none⟩) d.length B):=by
         refine .sl d (L k).b 0 B 1 (λi _=>(arr[i]?).getD undef) (by omega) (λi x a=>by rw[iG (L4.1 H x (An a))];rfl) ?_ ?_
         .intro i x j p a q
          obtain⟨rfl,rfl⟩:=one i x j p a q;obtain⟨v,c,_⟩:=get i p a;refine⟨by rw[gc m];simp[c],λh9=>?_⟩;have h9:(L k).b<C.w0.heap.size:=h9;omega
         .intro i x j p a q
          obtain⟨rfl,rfl⟩:=one i x j p a q;obtain⟨v,c,z⟩:=get i p a;simp only[c,Y8];exact z
        rw[l]at key;exact key
     .cases e
    .cases e
   .cases e
  .cases e
 grind [AU]
theorem qV(d:MemL C L h w)(a:∀{b:Nat},(C.w0.heap.size<=b\/(C.S b/\∀o,¬C.M0 b o))->C.w0.heap.size<=b):∀{xs:List AV}{us:List Value}{ps:List PV},aC w (ab C L h) L h xs us->wE h xs=some ps->bn w (wU C) ps us
 |[],us,ps,c,e=>by
  simp only[wE,YV]at e;subst e;rw[c.nil_inv];exact .nil
 |x::r,us,ps,c,e=>by
  simp only[wE]at e;split at e
  .rename_i p k f g
   injection e with e;subst e;obtain⟨u,l,rfl,j,i⟩:=c.cons_inv;exact .cons (u9 d a j f) (qV d a i g)
  .cases e
theorem EF(f:MemL C L h w)(a:∀{b:Nat},(C.w0.heap.size<=b\/(C.S b/\∀o,¬C.M0 b o))->C.w0.heap.size<=b)(D:RepA w (ab C L h) L h x u)(e:AC h x=some p):Rep w (wU C) p u:=by
 unfold AC at e;split at e
 .rename_i k
  split at e
  .rename_i cs F g
   split at e
   .rename_i s z
    obtain⟨arr,G,A,c⟩:=f.bl k _ g;have m:=qV f a c z;have l:C.w0.heap.size<=(L k).b:=a (f.own k _ g)
    have key:∀y:PV,y.cells=s->Rep w (wU C) (.rptr y 0) u:=by
     intro y E
     have get:∀(i:Nat) p,y.cells[i]?=some p->∃v,arr[i]?=some v/\Rep w (wU C) p v:=by
      intro i p hp;rw[E]at hp
      have d:i<arr.toList.length:=by rw[<-m.1];exact(th.1 hp).1
      have n:arr.toList[i]?=some (arr.toList[i]):=an d;exact⟨_,by rw[<-Array.getElem?_toList];exact n,m.2 i p _ hp n⟩
     cases D with
     |ptr _=>
      refine .rptr y (L k).b 0 0 (λj=>(arr[j]?).getD undef) (λj p B=>?_) (λj p B=>?_)
      all_goals grind [get,gc]
    split at e
    .rename_i hq
     injection e with e;subst e
     exact key _ (by cases s with
      |nil=>simp[i7]at hq
      |cons q r=>cases r with
       |nil=>simp only[i7]at hq;exact iG hq
       |cons _ _=>simp[i7]at hq)
    grind [kx]
   .cases e
  .cases e
 grind [u9]
theorem we(d:MemL C L h w)(a:∀{b:Nat},(C.w0.heap.size<=b\/(C.S b/\∀o,¬C.M0 b o))->C.w0.heap.size<=b):∀{xs:List AV}{us:List Value}{ps:List PV},aC w (ab C L h) L h xs us->rx h xs=some ps->bn w (wU C) ps us
 |[],us,ps,c,e=>by
  simp only[rx,YV]at e;subst e;rw[c.nil_inv];exact .nil
 |x::r,us,ps,c,e=>by
  simp only[rx]at e;split at e
  .rename_i p k f g
   injection e with e;subst e;obtain⟨u,l,rfl,j,i⟩:=c.cons_inv;exact .cons (EF d a j f) (we d a i g)
  .cases e
theorem JR(i:MemL C L h w)(c:∀{b:Nat},(C.w0.heap.size<=b\/(C.S b/\∀o,¬C.M0 b o))->C.w0.heap.size<=b)(k:RepA w (ab C L h) L h x u)(e:Nc h x=some p):Rep w (wU C) p u:=by
 unfold Nc at e;split at e
 .rename_i f first caps
  split at e
  .rename_i j q d m
   injection e with e;subst e
   cases k with
   |fn _ _ _ l us g n h1 h2=>
    have a:=qV i c ⟨g,h1⟩ d;have b:=we i c ⟨n,h2⟩ m;exact .fn f j q l us a.1 b.1 a.2 b.2
  .cases e
 .rename_i l
  split at e
  .rename_i j d
   injection e with e;subst e
   cases k with
   |tup _ us g h1=>
    have a:=qV i c ⟨g,h1⟩ d;exact .tup j us a.1 a.2
  .cases e
 grind [u9]
end
theorem yn(hf:P.funcs[f]?=some fn)(hb:fn.body=some c)(Z:bR P f=true){args:List Arg}(ar:args.length<=fn.ntmps)
 (b7:hout.length=hin.length)(b4:∀(i j:Nat),args[i]?=some (.bx j)->j<hin.length)
 (h:∀C:Cx,C.P=P->C.N=fn.ntmps->WP C c (Fin P fn.results.toList hout res) (rO args hin)):aS P f args hin hout res:=by
 refine⟨Z,b7,λw M E D hM ak cc H aj T=>?_⟩
 let C:Cx:={P:=P,N:=fn.ntmps,M0:=M,S:=λb=>b∈E,pb:=λk=>if k<1000000 then none else E[k-1000000]?,w0:=w}
 let L:Nat->Loc:=λk=>⟨(E[k-1000000]?).getD 0,0,false⟩
 have V:∀k blk,(rO args hin).h k=some blk->∃i B b,k=pk i/\hin[i]?=some B/\E[i]?=some b/\blk=.box (B.map .pv) false false:=by
  intro k blk a;simp only[rO,o8]at a;split at a
  .cases a
  .rename_i cb
   split at a
   .rename_i B q
    injection a with a
    have g:k-1000000<E.length:=by rw[ak];exact(th.1 q).1
    exact⟨k-1000000,B,E[k-1000000],by unfold pk;omega,q,an g,a.symm⟩
   .cases a
 have Q:∀i b,E[i]?=some b->(L (pk i)).b=b:=by
  intro i b hb;show(E[pk i-1000000]?).getD 0=b;rw[show pk i-1000000=i from by unfold pk;omega,hb];rfl
 have ah:∀b o,ab C L (rO args hin).h b o↔M b o:=by
  intro b o;constructor
  .rintro(h0|⟨k,blk,a,hl,hb,hf⟩)
   all_goals grind
  .exact .inl
 have ad:ab C L (rO args hin).h=M:=by funext b o;exact propext (ah b o)
 have bq:dH C (rO args hin) {tmps:=D.toArray++Array.replicate (fn.ntmps-D.toArray.size) undef,defers:=[]} w:=by
  refine⟨L,⟨Ext.refl _ _,hM,?_,?_,?_⟩,by show(D.toArray++Array.replicate (fn.ntmps-D.toArray.size) undef).size=fn.ntmps;simp;omega,jI.nil _,λn=>?_⟩
  .intro k blk a
   obtain⟨i,B,b,rfl,q,hb,rfl⟩:=V k blk a;obtain⟨arr,ty,e1,e2⟩:=(H i b B hb q).2;refine⟨arr,ty,by rw[Q i b hb];exact e1,?_⟩
   grind [aC.map_pv]
  .grind [List.getElem?_eq_some_iff,List.getElem_inj]
  .intro k blk a
   obtain⟨i,B,b,rfl,q,hb,rfl⟩:=V k blk a;refine⟨rfl,?_,?_,?_,?_⟩
   .rw[Q i b hb]
    show(if pk i<1000000 then none else E[pk i-1000000]?)=some b;rw[YR (by unfold pk;omega),show pk i-1000000=i from by unfold pk;omega,hb]
   .grind
   .rw[Q i b hb];exact hM b 0 ((H i b B hb q).1 0)
   grind
  .rw[ad]
   simp only[rO,EE];split
   .rename_i p hp
    have g:n<D.length:=by rw[<-aj];exact(th.1 hp).1
    have:=T n (.pv p) D[n] hp (an g)
    have J:(D.toArray++Array.replicate (fn.ntmps-D.toArray.size) undef).getD n undef=D[n]:=by
     rw[YZ,Zu (by simpa using g)];simp[g]
    simp only[J];exact .pv this
   .rename_i j hp
    have g:n<D.length:=by rw[<-aj];exact(th.1 hp).1
    obtain⟨b,hb,hv⟩:=T n (.bx j) D[n] hp (an g)
    have J:(D.toArray++Array.replicate (fn.ntmps-D.toArray.size) undef).getD n undef=D[n]:=by
     rw[YZ,Zu (by simpa using g)];simp[g]
    simp only[J];rw[hv,<-Q j b hb];have hj:=b4 n j hp;refine .ptr (cs:=(hin[j]).map .pv) (own:=false) (fz:=false) ?_;simp only[o8,YR (show¬pk j<1000000 by unfold pk;omega),show pk j-1000000=j from by unfold pk;omega]
    grind
   .exact .undef _
 refine calls_of_wp_defers hf hb (wp_mono (h C rfl rfl _ w bq) ?_)
 have U:∀(Y:Act) O y,dH C y Y O->iP P fn.results.toList hout res y->jI P Y.defers/\∃v,(results fn Y.tmps).run P O=.ok v O/\
  ∃v',Ending.returned v=.returned v'/\Ext (·∈E) w O/\(∀(i:Nat) b B,E[i]?=some b->hout[i]?=some B->ko O M b B)/\AL w O M res v':=by
  rintro Y O y ⟨G,z,hN,b5,ht⟩ ⟨r,R,b9,l⟩;obtain⟨u,ca,F⟩:=nR (C:=C) z ht R;have A:∀b o,M b o->ab C G y.h b o:=λb o h=>.inl h
  have I:∀{b:Nat},(C.w0.heap.size<=b\/(C.S b/\∀o,¬C.M0 b o))->w.heap.size<=b:=by
   intro b h9;rcases h9 with h9|⟨h9,h10⟩
   .exact h9
   .obtain⟨i,hi⟩:=Z6.1 (show b∈E from h9)
    have g:i<hin.length:=by rw[<-ak];exact(th.1 hi).1
    exact absurd ((H i b hin[i] hi (an g)).1 0) (h10 0)
  refine⟨b5,u,ca,u,rfl,z.ext,?_,?_⟩
  .intro i b B hb q
   have a:=b9 i B q;obtain⟨arr,ty,e1,e2⟩:=z.bl _ _ a;have m:=z.own _ _ a
   have a7:C.pb (pk i)=some b:=by
    show(if pk i<1000000 then none else E[pk i-1000000]?)=some b;rw[YR (by unfold pk;omega),show pk i-1000000=i from by unfold pk;omega,hb]
   have b3:(G (pk i)).b=b:=by
    have:=m.2.1;rw[a7]at this;injection this with this;exact this.symm
   rw[b3]at e1;exact⟨arr,ty,e1,e2.map_pv_inv.mono (Pres.sub A)⟩
  .cases res with
   |pv p=>
    obtain⟨W,hW⟩:=l;obtain⟨b1,b2,_⟩:=m9 z (bH.refl _) F hW;exact b2.mono (Pres.sub (λb o h=>.inl h))
   |new p=>exact JR z I F l
   |box B=>
    obtain⟨k,rfl,a⟩:=l;obtain⟨arr,ty,e1,e2⟩:=z.bl _ _ a;have m:=I (z.own _ _ a)
    cases F with
    |ptr _=>
     refine⟨(G k).b,m,rfl,arr,ty,e1,e2.map_pv_inv.mono (Pres.sub ?_)⟩;rintro b o (h|rfl)
     .exact .inl h
     .exact .inr ⟨k,_,a,trivial,rfl,by simp[Blk.frz]⟩
   |row e sz xs=>
    obtain⟨k,rfl,a⟩:=l;have m:=z.own _ _ a;have hb:=z.bl _ _ a
    have s:u=(G k).slice xs.length:=by
     cases F with
     |arr d a6 X=>
      rw[a]at d;injection d with d;injection d with a1 a2 a3 a4;subst a3;exact X rfl
    refine⟨G k,s,λhn=>I (m.row hn),?_⟩;obtain⟨c1,c2,c3,c4,c5⟩:=hb;refine⟨c1,ZG _,c3,c4,λhn=>?_⟩;obtain⟨d1,d2,arr,d3,d4,d5⟩:=c5 hn;refine⟨d1,d2,arr,d3,d4,λi x j p hx hj=>?_⟩;obtain⟨v,hv,R⟩:=d5 i x j p hx hj;refine⟨v,hv,R.mono (Pres.sub ?_)⟩;rintro b o (h|⟨_,rfl⟩)
    .exact .inl h
    .exact .inr ⟨k,_,a,hn,rfl,by simp[Blk.frz]⟩
   |nrow e sz xs=>
    obtain⟨b8,k,rfl,a⟩:=l;have m:=z.own _ _ a;have hb:=z.bl _ _ a
    have s:u=(G k).slice xs.length:=by
     cases F with
     |arr d a6 X=>
      rw[a]at d;injection d with d;injection d with a1 a2 a3 a4;subst a3;exact X rfl
    refine⟨b8,G k,s,λhn=>I (m.row hn),?_⟩;obtain⟨c1,c2,c3,c4,c5⟩:=hb;refine⟨c1,ZG _,c3,c4,λhn=>?_⟩;obtain⟨d1,d2,arr,d3,d4,d5⟩:=c5 hn;refine⟨d1,d2,arr,d3,d4,λi x j p hx hj=>?_⟩;obtain⟨v,hv,R⟩:=d5 i x j p hx hj;refine⟨v,hv,R.mono (Pres.sub ?_)⟩;rintro b o (h|⟨_,rfl⟩)
    .exact .inl h
    .exact .inr ⟨k,_,a,hn,rfl,by simp[Blk.frz]⟩
   |srow pre e sz xs=>
    obtain⟨k,rfl,a⟩:=l;have m:=z.own _ _ a;have hb:=z.bl _ _ a
    cases F with
    |agg _ us hl hh=>
     have ar:us.length=pre.length+1:=by simpa using hl.symm
     have g:pre.length<us.length:=by omega
     have K:=hh pre.length (.arr k xs.length) us[pre.length] (by rw[YX (by simp)];simp) (an g)
     have s:us[pre.length]=(G k).slice xs.length:=by
      generalize us[pre.length]=u at K
      cases K with
      |arr d a6 X=>
       rw[a]at d;injection d with d;injection d with a1 a2 a3 a4;subst a3;exact X rfl
     have A:∀b o,(M b o\/((G k).isNil=false/\b=(G k).b))->ab C G y.h b o:=by
      rintro b o (h|⟨hn,rfl⟩)
      .exact .inl h
      .exact .inr ⟨k,_,a,hn,rfl,by simp[Blk.frz]⟩
     refine⟨G k,us.take pre.length,?_,λhn=>I (m.row hn),⟨by rw[ZA];omega,λi p u hp X=>?_⟩,?_⟩
     .congr 1
      rw[<-s,<-List.take_succ_eq_append_getElem g,Zh (by omega)]
     .have hi:=(th.1 hp).1
      rw[Zj,YY hi]at X;have:=hh i (.pv p) u (by rw[YT (by simpa using hi),YS,hp];rfl) X
      cases this with
      |pv R=>exact R.mono (Pres.sub A)
     .obtain⟨c1,c2,c3,c4,c5⟩:=hb
      refine⟨c1,ZG _,c3,c4,λhn=>?_⟩;obtain⟨d1,d2,arr,d3,d4,d5⟩:=c5 hn;refine⟨d1,d2,arr,d3,d4,λi x j p hx hj=>?_⟩;obtain⟨v,hv,R⟩:=d5 i x j p hx hj;exact⟨v,hv,R.mono (Pres.sub A)⟩
 rintro e Y O ⟨y,a8,hq⟩
 cases e with
 |normal=>obtain⟨h1,v,h2,h3⟩:=U Y O y a8 hq;exact iH h1 h2 h3
 |ret=>obtain⟨h1,v,h2,h3⟩:=U Y O y a8 hq;exact iH h1 h2 h3
 |exit=>exact hq.elim
 |goto=>exact hq.elim
 |panic=>exact hq.elim
 |outgrown=>exact hq.elim
section
variable {V:Type}
def gM(n:Nat)(wr:Nat->Option V)(x0:V)(ls:Nat->Bool):V:=(List.range n).foldl (λx i=>if ls i=true then(wr i).getD x else x) x0
theorem i9(n:Nat)(wr:Nat->Option V)(x0:V)(ls:Nat->Bool):gM (n+1) wr x0 ls=if ls n=true then(wr n).getD (gM n wr x0 ls)else gM n wr x0 ls:=by
 simp[gM,yAd,yAR]
theorem dm{wr:Nat->Option V}{x0:V}{ls':Nat->Bool}(h:∀j,j<n->(wr j).isSome=true->ls j=ls' j):gM n wr x0 ls=gM n wr x0 ls':=by
 induction n with
 |zero=>rfl
 |succ n ih=>
  rw[i9,i9,ih (λj b=>h j (by omega))]
  cases a:wr n with
  |none=>simp
  |some v=>rw[h n (by omega) (by simp[a])]
theorem qW{wr:Nat->Option V}{x0:V}(hi:i<=n):gM n wr x0 (λj=>decide (j<i))=gM i wr x0 (λ_=>true):=by
 induction n with
 |zero=>have:i=0:=by omega
        subst this;rfl
 |succ n ih=>
  by_cases e:i=n+1
  .subst e
   refine(dm (λj a _=>?_));simpa using a
  .rw[i9,ih (by omega)]
   have:¬n<i:=by omega
   simp[this]
theorem pV{wr:Nat->Option V}{x0:V}(hi:i<n)(a:(wr i).isSome=true->∀j,i<j->j<n->(wr j).isSome=true->ls j=false):
 gM n wr x0 (λj=>ls j||j==i)=(wr i).getD (gM n wr x0 ls):=by
 cases c:wr i with
 |none=>
  simp only[Option.getD_none];refine dm (λj _ g=>?_)
  have:j≠i:=λe=>by rw[e,c]at g;cases g
  simp[this]
 |some v=>
  simp only[Y8];have k:=a (by simp[c]);clear a
  induction n with
  |zero=>omega
  |succ n ih=>
   rw[i9];by_cases e:n=i
   .subst e;simp[c]
   .have f:=ih (by omega) (λj h1 h2=>k j h1 (by omega))
    rw[f]
    have b:(n==i)=false:=by simpa using e
    simp only[b,Bool.or_false]
    cases d:wr n with
    |none=>simp
    |some u=>rw[k n (by omega) (by omega) (by simp[d])];simp
end
def iI(ops:Array Oper)(i j:Nat):Prop:=∃o,ops[j]?=some o/\∃e∈o.after.toList,Region.binds .any e=true/\e.on=i
inductive Pre(ops:Array Oper):Nat->Nat->Prop
 |one {i j:Nat} (h:iI ops i j):Pre ops i j
 |step {i q j:Nat} (h:Pre ops i q) (h':iI ops q j):Pre ops i j
def EG(acc:List Nat)(es:List Edge):Nat:=es.foldl (λs e=>if Region.binds .any e=true then s ||| 2^e.on ||| acc.getD e.on 0 else s) 0
def gO:List Oper->List Nat->List Nat
 |[],acc=>acc
 |o::r,acc=>gO r (acc++[EG acc o.after.toList])
theorem AW{acc:List Nat}{i:Nat}:∀(es:List Edge)(s:Nat),(es.foldl (λs e=>if Region.binds .any e=true then s ||| 2^e.on ||| acc.getD e.on 0 else s) s).testBit i=true->
 s.testBit i=true\/∃e∈es,Region.binds .any e=true/\(e.on=i\/(acc.getD e.on 0).testBit i=true)
 |[],s,h=>.inl h
 |e::es,s,h=>by
  simp only[yAh]at h;rcases AW es _ h with a|⟨c,b,hb,d⟩
  .split at a
   .rename_i hb
    rw[Nat.testBit_or,Nat.testBit_or,ZI,ZI]at a;rcases a with(a|a)|a
    .exact .inl a
    .refine .inr ⟨e,by simp,hb,.inl ?_⟩
     rw[Nat.testBit_two_pow]at a;simpa using a
    .exact .inr ⟨e,by simp,hb,.inr a⟩
   .exact .inl a
  .exact .inr ⟨c,by simp[b],hb,d⟩
theorem nS{ops:Array Oper}:∀{l:List Oper}{acc:List Nat},(∀j,l[j]?=ops[acc.length+j]?)->(∀i j,(acc.getD j 0).testBit i=true->Pre ops i j)->
 ∀i j,((gO l acc).getD j 0).testBit i=true->Pre ops i j
 |[],acc,_,h,i,j,hb=>h i j hb
 |o::l,acc,g,h,i,j,hb=>by
  refine nS (l:=l) (acc:=acc++[EG acc o.after.toList]) (λj=>?_) ?_ i j hb
  .have:=g (j+1)
   simp only[yAN]at this;rw[this];congr 1;simp;omega
  .intro i j hb
   by_cases m:j<acc.length
   .refine h i j ?_
    rwa [yAC,YT m,<-List.getD_eq_getElem?_getD]at hb
   .by_cases b:j=acc.length
    .subst b
     rw[yAC,YX (by omega)]at hb;simp only[yAD,Z4,Y8,EG]at hb
     have d:ops[acc.length]?=some o:=by have:=g 0;simpa using this.symm
     rcases AW _ _ hb with k|⟨e,f,a,c⟩
     .simp at k
     .rcases c with rfl|c
      .exact .one ⟨o,d,e,f,a,rfl⟩
      .exact .step (h i e.on c) ⟨o,d,e,f,a,rfl⟩
    .rw[yAC,Y2 (by simp;omega)]at hb
     simp at hb
def EH(xs:List Operand):List Nat:=xs.filterMap λ|.tmp t=>some t|_=>none
def qf(ops:Array Oper)(o:Oper):List Nat:=EH o.op.operands.toList++(match o.guard with|some (j,_)=>((ops[j]?).bind (·.dst)).toList|none=>[])
def kV(ops:Array Oper)(x y:Oper):Bool:=
 (match x.dst with|some r=>(qf ops y).contains r||y.dst==some r|none=>false)||(match y.dst with|some r=>(qf ops x).contains r|none=>false)
def JS(ops:Array Oper):Bool:=(List.range ops.size).all λj=>match ops[j]? with
 |some o=>o.after.toList.all λe=>!Region.binds .any e||decide (e.on<j)
 |none=>true
def fH(ops:Array Oper):Bool:=
 let a:=gO ops.toList []
 JS ops&&(List.range ops.size).all λj=>(List.range j).all λi=>match ops[i]?,ops[j]? with
  |some x,some y=>!kV ops x y||(a.getD j 0).testBit i
  |_,_=>true
def G3:Op->Bool
 |.lookup ..|.mapUpdate ..|.load ..|.store ..|.alloc _|.box ..|.build ..|.buildSlice ..|.indexAddr ..|.fieldAddr ..|.makeSlice ..|.call _|.assign _|.makeInterface ..=>true
 |_=>false
def yp(h:Hp)(k:Nat):List Nat:=match h k with
 |some (.box cs _ _)=>cs.flatMap mJ
 |_=>[]
def G4(h:Hp):AV->List Nat
 |.ptr k _=>yp h k
 |_=>[]
def Nf(h:Hp):AV->List Nat
 |.fn _ _ caps=>let b:=caps.flatMap (G4 h);b++b.flatMap (yp h)
 |.ext (.barr k _ _)=>yp h k
 |_=>[]
def JT:Op->Bool
 |.call _=>true
 |_=>false
def lW(o:Oper)(ρ:Operand->AV)(h:Hp):List Nat:=(if G3 o.op then o.op.operands.toList.flatMap λx=>Ps (ρ x)else[])++((if JT o.op then o.op.operands.toList.flatMap λx=>Nf h (ρ x)else[])++o.dst.toList)
def bv(K:List Nat)(h:Hp):Hp:=λk=>if K.contains k=true then h k else none
abbrev nT:=List (List Nat×List Nat)
def EI(a b:List Nat):Bool:=a.all λx=>!b.contains x
def gX(a:List Nat)(acc:nT):Bool:=
 (List.range acc.length).all λj=>(List.range j).all λi=>match acc[i]?,acc[j]? with
   |some (W,K),some (c,b)=>(EI W b&&EI c K)||(a.getD j 0).testBit i
   |_,_=>true
def jX(P:Program)(hn:List Nat)(N:Nat)(ops:Array Oper)(Q:nT->St->Prop):List Oper->nT->St->Prop
 |[],acc,st=>Q acc st
 |o::rest,acc,st=>dJ N o.dst=true/\(match kQ ops st.t o.guard with
   |some none=>ug P hn o st.ev (bv (lW o st.ev st.h) st.h) (λe=>(e.2.all λc=>(lW o st.ev st.h).contains c.1)=true/\jX P hn N ops Q rest (acc++[(e.2.map (·.1),lW o st.ev st.h)]) (st.put o.dst e.1 e.2))
   |some (some (d,b,want))=>ze b d st (λf a=>if f=want then ug P hn o a.ev (bv (lW o a.ev a.h) a.h) (λe=>(e.2.all λc=>(lW o a.ev a.h).contains c.1)=true/\jX P hn N ops Q rest (acc++[(e.2.map (·.1),lW o a.ev a.h)]) (a.put o.dst e.1 e.2))
    else jX P hn N ops Q rest (acc++[([],[])]) (a.put o.dst (.pv (.val (.tuple #[]))) []))
   |none=>False)
theorem C8{c:AV}{d:Option Nat}(e:gk P c args d h K):∃a,gk P c args d h (λx=>x=a)/\K a:=by
 unfold gk at e|-;split at e
 .exact e.elim
 .split at e
  .exact e.elim
  .split at e
   .exact e.elim
   .rename_i hd
    split at e
    .exact e.elim
    .obtain⟨hout,res,b,f⟩:=e
     unfold iE at f;split at f
     .rename_i e0 g
      refine⟨e0,?_,f⟩;simp only[hd];exact⟨hout,res,b,by unfold iE;simp only[g]⟩
     .exact f.elim
theorem JU(e:ug P hn o ρ h K):∃a,ug P hn o ρ h (λx=>x=a)/\K a:=by
 have hp:iE (dw P hn o ρ h) K->∃a,iE (dw P hn o ρ h) (λx=>x=a)/\K a:=by
  intro e;unfold iE at e|-;split at e
  .rename_i a _;exact⟨a,rfl,e⟩
  .exact e.elim
 unfold ug at e|-;split at e
 .split at e
  .rename_i c d f b
   exact C8 e
  .exact C8 e
  .exact hp e
 .exact hp e
theorem nU(c:∀cs b,o.op≠.select cs b)(h:∀x∈o.op.operands,ρ x=ρ' x):aV P o ρ=aV P o ρ':=by
 unfold aV
 have h1:(o.op.operands.toList.all λx=>(eN (ρ x)).isSome)=(o.op.operands.toList.all λx=>(eN (ρ' x)).isSome):=by
  rw[Bool.eq_iff_iff,L4,L4];constructor
  .intro d x a;rw[<-h x (by simpa using a)];exact d x a
  .intro d x a;rw[h x (by simpa using a)];exact d x a
 have h2:execOp (λx=>qU (ρ x)) o=execOp (λx=>qU (ρ' x)) o:=execOp_congr o c (λx a=>by simp only[h x a]);rw[h1,h2]
structure Ef where
 d:Option Nat
 v:AV
 W:List (Nat×Blk)
 K:List Nat
 deriving Inhabited
def run(fs:List Ef)(st:St):St:=fs.foldl (λs f=>s.put f.d f.v f.W) st
def pc(P:Program)(o:Oper)(ρ:Operand->AV)(f:Hp)(v:AV)(W:List (Nat×Blk)):Prop:=
 ∀(C:Cx)(L:Nat->Loc)(h:Hp)(w:World)(a:Act),C.P=P->MemL C L h w->(∀k b,f k=some b->h k=some b)->(∀d,o.dst=some d->f d=h d/\d<2000000)->
  (∀x∈o.op.operands,RepA w (ab C L h) L h (ρ x) (a.eval x))->∀(next:Act->World->Prop)(Q:Exit->Act->World->Prop),
  (∀u e c,aF C L h w c (ag h W) e->RepA e (ab C c (ag h W)) c (ag h W) v u->next (a.put o.dst u) e)->o.wp C.P a w next Q
theorem G5{c:Hp}{v:AV}(e:ug P hn o ρ c (λx=>x=(v,W))):pc P o ρ c v W:=by
 intro C L h w a hP j k hf m next Q b
 subst hP;refine EC j k hf m e (λf u n d i g l=>?_);subst i;exact b u n d g l
theorem pc.congr{d:Hp}{v:AV}(i:∀x∈o.op.operands,ρ x=ρ' x)(h:pc P o ρ d v W):pc P o ρ' d v W:=by
 intro C L e w a hP f g hf j next Q b
 exact h C L e w a hP f g hf (λx c=>by rw[i x c];exact j x c) next Q b
def qg(P:Program)(hn:List Nat)(N:Nat)(ops:Array Oper)(o:Oper)(st:St)(f:Ef):Prop:=
 dJ N o.dst=true/\f.d=o.dst/\
  ((dR ops st.t o.guard=some true/\(∀d,o.dst=some d->f.K.contains d=true)/\pc P o st.ev (bv f.K st.h) f.v f.W/\(f.W.all λa=>f.K.contains a.1)=true)\/
   (dR ops st.t o.guard=some false/\f.v=.pv (.val (.tuple #[]))/\f.W=[]/\f.K=[]))
theorem yq{P:Program}{hn:List Nat}{N:Nat}{ops:Array Oper}{Q:nT->St->Prop}:∀{l:List Oper}{acc:nT}{st:St},jX P hn N ops Q l acc st->
 ∃fs:List Ef,fs.length=l.length/\(∀(i:Nat) o f,l[i]?=some o->fs[i]?=some f->qg P hn N ops o (run (fs.take i) st) f)/\Q (acc++fs.map λf=>(f.W.map (·.1),f.K)) (run fs st)
 |[],acc,st,e=>⟨[],rfl,λi o f h=>by simp at h,by simpa[jX,run]using e⟩
 |o::l,acc,st,e=>by
  simp only[jX]at e;obtain⟨hd,e⟩:=e
  have j:∀(f:Ef),qg P hn N ops o st f->jX P hn N ops Q l (acc++[(f.W.map (·.1),f.K)]) (st.put f.d f.v f.W)->
   ∃fs:List Ef,fs.length=(o::l).length/\(∀(i:Nat) q n,(o::l)[i]?=some q->fs[i]?=some n->qg P hn N ops q (run (fs.take i) st) n)/\Q (acc++fs.map λf=>(f.W.map (·.1),f.K)) (run fs st):=by
   intro f hf a;obtain⟨fs,h1,h2,h3⟩:=yq a;refine⟨f::fs,by simp[h1],λi q n x m=>?_,?_⟩
   .cases i with
    |zero=>simp at x m;subst x;subst m;exact hf
    |succ i=>exact h2 i q n (by simpa using x) (by simpa using m)
   .simpa[run,ZY]using h3
  split at e
  .rename_i p
   obtain⟨c,r,g,a⟩:=JU e;exact j ⟨o.dst,c.1,c.2,lW o st.ev st.h⟩ ⟨hd,rfl,.inl ⟨pT p,λd k=>by simp[lW,k],G5 r,g⟩⟩ a
  .rename_i d b want p
   unfold ze at e;simp only at e;split at e
   .rename_i u
    subst u;obtain⟨c,r,g,a⟩:=JU e;exact j ⟨o.dst,c.1,c.2,lW o st.ev st.h⟩ ⟨hd,rfl,.inl ⟨(me p).trans (by simp),λd k=>by simp[lW,k],G5 r,g⟩⟩ a
   .rename_i s
    exact j ⟨o.dst,.pv (.val (.tuple #[])),[],[]⟩ ⟨hd,rfl,.inr ⟨(me p).trans (by simpa using s),rfl,rfl,rfl⟩⟩ e
  .exact e.elim
def iQ(W:List (Nat×Blk))(k:Nat):Option (Option Blk):=W.foldl (λx a=>if k=a.1 then some (some a.2)else x) none
theorem qX(k:Nat):∀(W:List (Nat×Blk))(x:Option (Option Blk)),W.foldl (λx a=>if k=a.1 then some (some a.2)else x) x=(match iQ W k with|some y=>some y|none=>x)
 |[],x=>by simp[iQ]
 |a::W,x=>by
  simp only[yAh,iQ];rw[qX k W (if k=a.1 then some (some a.2)else x),qX k W (if k=a.1 then some (some a.2)else none)]
  cases iQ W k with
  |some y=>rfl
  |none=>simp only;split<;>rfl
theorem pW(k:Nat):∀(W:List (Nat×Blk))(h:Hp),ag h W k=(iQ W k).getD (h k)
 |[],h=>rfl
 |a::W,h=>by
  show ag (av h a.1 (some a.2)) W k=_;rw[pW k W]
  have hc:iQ (a::W) k=(match iQ W k with|some y=>some y|none=>if k=a.1 then some (some a.2)else none):=by
   conv=>lhs;unfold iQ
   rw[yAh,qX k W (if k=a.1 then some (some a.2)else none)]
  rw[hc]
  cases iQ W k with
  |some y=>rfl
  |none=>simp only[Option.getD_none,av];split<;>rfl
theorem wV{k:Nat}:∀{W:List (Nat×Blk)},(iQ W k).isSome=true->k∈W.map (·.1)
 |[],h=>by simp[iQ]at h
 |kb::W,h=>by
  simp only[iQ,yAh]at h;rw[qX k W (if k=kb.1 then some (some kb.2)else none)]at h;by_cases e:k=kb.1
  .simp[e]
  .rw[YR e]at h
   have:(iQ W k).isSome=true:=by cases a:iQ W k<;>simp_all
   have:=wV this;simp at this|-;exact .inr this
section
variable (fs:List Ef)
def sX(r i:Nat):Option AV:=match fs[i]? with
 |some f=>if f.d=some r then some f.v else none
 |none=>none
def sY(k i:Nat):Option (Option Blk):=match fs[i]? with
 |some f=>iQ f.W k
 |none=>none
def dX(n:Nat)(st:St)(ls:Nat->Bool):St:=⟨λr=>gM n (sX fs r) (st.t r) ls,λk=>gM n (sY fs k) (st.h k) ls⟩
theorem nV(st:St):∀i,i<=fs.length->∀r,(run (fs.take i) st).t r=gM i (sX fs r) (st.t r) (λ_=>true)
 |0,_,r=>by simp[run,gM]
 |i+1,hi,r=>by
  have a:i<fs.length:=by omega
  rw[ZC a,i9];simp only[run,yAR,yAh,List.foldl_nil,Za];have ih:=nV st i (by omega) r;rw[run]at ih
  have b:sX fs r i=if fs[i].d=some r then some fs[i].v else none:=by simp[sX,an a]
  rw[b,<-ih]
  cases hd:fs[i].d with
  |none=>simp[St.put]
  |some d=>
   simp only[St.put,av,YV];by_cases e:d=r
   .subst e;simp
   .rw[YR (λh=>e h.symm),YR e];rfl
theorem nW(st:St):∀i,i<=fs.length->∀k,(run (fs.take i) st).h k=gM i (sY fs k) (st.h k) (λ_=>true)
 |0,_,r=>by simp[run,gM]
 |i+1,hi,r=>by
  have a:i<fs.length:=by omega
  rw[ZC a,i9];simp only[run,yAR,yAh,List.foldl_nil,Za];have ih:=nW st i (by omega) r;rw[run]at ih
  have b:sY fs r i=iQ fs[i].W r:=by simp[sY,an a]
  rw[b,<-ih];simp only[St.put];exact pW r _ _
end
section
variable {C:Cx} {hn:List Nat} {ops:Array Oper} {fs:List Ef} {st:St}
def aA(a:Array Bool):Nat->Bool:=λi=>a.getD i true
theorem nX(hc:∀i j,iI ops i j->ls j=true->ls i=true)(h:Pre ops i j):ls j=true->ls i=true:=by
 induction h with
 |one h=>exact hc _ _ h
 |step _ a ih=>exact λb=>ih (hc _ _ a b)
theorem lB(hs:fH ops=true){x y:Oper}(a:i<j)(d:ops[i]?=some x)(b:ops[j]?=some y)(hc:kV ops x y=true):Pre ops i j:=by
 simp only[fH,up]at hs;have c:j<ops.size:=(Zp.1 b).1;have h1:=L4.1 hs.2 j (Zw.2 c);have h2:=L4.1 h1 i (Zw.2 a);rw[d,b]at h2;simp only[hc,yAo,Bool.false_or]at h2;exact nS (l:=ops.toList) (acc:=[]) (λj=>by simp) (λi j h=>by simp at h) i j h2
theorem nd{acc:nT}(hs:gX (gO ops.toList []) acc=true){W K e d:List Nat}(c:i<j)(m:acc[i]?=some (W,K))(f:acc[j]?=some (e,d))(hc:∃k,(k∈W/\k∈d)\/(k∈e/\k∈K)):Pre ops i j:=by
 have g:j<acc.length:=(th.1 f).1;have h1:=L4.1 hs j (Zw.2 g);have h2:=L4.1 h1 i (Zw.2 c);rw[m,f]at h2;simp only[ZI,up]at h2;rcases h2 with⟨d1,d2⟩|h2
 .obtain⟨k,⟨a,b⟩|⟨a,b⟩⟩:=hc
  .have:=L4.1 d1 k a
   simp at this;exact absurd b this
  .have:=L4.1 d2 k a
   simp at this;exact absurd b this
 .exact nS (l:=ops.toList) (acc:=[]) (λj=>by simp) (λi j h=>by simp at h) i j h2
theorem iu(hs:fH ops=true)(h:iI ops i j):i<j:=by
 simp only[fH,up]at hs;obtain⟨o,a,e,b,hb,rfl⟩:=h;have h1:=L4.1 hs.1 j (Zw.2 (Zp.1 a).1);rw[a]at h1;have h2:=L4.1 h1 e b;simpa[hb]using h2
theorem bW{a:Array Bool}:i∈Region.ready .any ops a↔i<ops.size/\aA a i=false/\∀q,iI ops q i->a.getD q false=true:=by
 unfold Region.ready aA;rw[ZV,Zw];constructor
 .rintro⟨h1,h2⟩
  simp only[up,Zv]at h2;refine⟨h1,h2.1,?_⟩;rintro q ⟨o,b,e,c,hb,rfl⟩;have h3:=h2.2;rw[b]at h3;simp only[ZD,Y8,Array.all_eq_true_iff_forall_mem]at h3;have:=h3 e (by simpa using c);simpa[hb]using this
 .rintro⟨h1,h2,h3⟩
  refine⟨h1,?_⟩;simp only[up,Zv];refine⟨h2,?_⟩;have b:ops[i]?=some ops[i]:=Zy h1;rw[b];simp only[ZD,Y8,Array.all_eq_true_iff_forall_mem];intro e c
  cases hb:Region.binds .any e with
  |false=>simp
  |true=>simp[h3 e.on ⟨_,b,e,by simpa using c,hb,rfl⟩]
theorem EJ(z:fH ops=true)(b9:fs.length=ops.size)(S:∀(i:Nat) o f,ops[i]?=some o->fs[i]?=some f->qg C.P hn C.N ops o (run (fs.take i) st) f)
 (M:gX (gO ops.toList []) (fs.map λf=>(f.W.map (·.1),f.K))=true){Q':Exit->Act->World->Prop}(hQ:∀a w,dH C (run fs st) a w->Q' .normal a w):
 ∀(fuel:Nat)(c:Array Bool)(a:Act)(w:World),c.size=ops.size->((List.range ops.size).filter λj=>!aA c j).length<=fuel->(∀i j,iI ops i j->aA c j=true->aA c i=true)->
  dH C (dX fs ops.size st (aA c)) a w->wpAny C.P .any ops Q' fuel c a w:=by
 have F:∀c:Array Bool,Region.ready .any ops c=[]->c.size=ops.size->∀j,j<ops.size->aA c j=true:=by
  intro c T B j
  induction j using Nat.strongRecOn with
  |_ j ih=>
   intro l
   cases hl:aA c j with
   |true=>rfl
   |false=>
    have:j∈Region.ready .any ops c:=bW.2 ⟨l,hl,λq hq=>by
     have cp:=iu z hq;have:=ih q cp (by omega);unfold aA at this;rw[YZ]at this|-;rw[Zy (by omega)]at this|-
     simpa using this⟩
    rw[T]at this;cases this
 have Z:∀(c:Array Bool) a w,Region.ready .any ops c=[]->c.size=ops.size->dH C (dX fs ops.size st (aA c)) a w->Q' .normal a w:=by
  intro c a w T B D;apply hQ;have hl:=F c T B
  have:dX fs ops.size st (aA c)=run fs st:=by
   have ht:run fs st=run (fs.take ops.size) st:=by rw[Zh (by omega)]
   rw[ht]
   have h1:(dX fs ops.size st (aA c)).t=(run (fs.take ops.size) st).t:=by
    funext r;rw[nV fs st _ (by omega)];exact dm (λj l _=>hl j l)
   have h2:(dX fs ops.size st (aA c)).h=(run (fs.take ops.size) st).h:=by
    funext r;rw[nW fs st _ (by omega)];exact dm (λj l _=>hl j l)
   cases hA:dX fs ops.size st (aA c);cases hB:run (fs.take ops.size) st;rw[hA,hB]at h1 h2;simp at h1 h2;rw[h1,h2]
  rw[<-this];exact D
 intro fuel
 induction fuel with
 |zero=>
  intro c a w B b3 U D
  have Y:Region.ready .any ops c=[]:=by
   cases T:Region.ready .any ops c with
   |nil=>rfl
   |cons i r=>
    have hi:i∈Region.ready .any ops c:=by rw[T];simp
    obtain⟨h1,h2,_⟩:=bW.1 hi;have:i∈(List.range ops.size).filter λj=>!aA c j:=ZV.2 ⟨Zw.2 h1,by simp[h2]⟩;have cb:((List.range ops.size).filter λj=>!aA c j)=[]:=Zn (by omega);rw[cb]at this;cases this
  exact⟨Y,Z c a w Y B D⟩
 |succ fuel ih=>
  intro c a w B b3 U D;refine⟨λT=>Z c a w T B D,λi hi=>?_⟩;obtain⟨hin,O,b5⟩:=bW.1 hi;have ho:ops[i]?=some ops[i]:=Zy hin;have hf:fs[i]?=some (fs[i]'(by omega)):=an _;generalize ops[i]=o at ho;generalize fs[i]'(by omega)=f at hf;obtain⟨H,b8,G⟩:=S i o f ho hf
  have y:∀q,Pre ops q i->aA c q=true:=by
   intro q hq
   have hd:∀q,iI ops q i->aA c q=true:=by
    intro q hq;have ct:=iu z hq;have:=b5 q hq;unfold aA;rw[YZ]at this|-;rw[Zy (by omega)]at this|-;simpa using this
   cases hq with
   |one h=>exact hd q h
   |step h h'=>exact nX U h (hd _ h')
  have s:∀q,Pre ops i q->aA c q=false:=by
   intro q hq
   cases cn:aA c q with
   |false=>rfl
   |true=>rw[nX U hq cn]at O;cases O
  have aj:∀j r,(sX fs r j).isSome=true->∃oj A,ops[j]?=some oj/\fs[j]?=some A/\oj.dst=some r:=by
   intro j r l;unfold sX at l;split at l
   .rename_i A p
    split at l
    .rename_i hd
     have cm:j<ops.size:=by rw[<-b9];exact(th.1 p).1
     have E:ops[j]?=some ops[j]:=Zy cm;obtain⟨_,h2,_⟩:=S j _ A E p;exact⟨_,A,E,p,by rw[<-h2];exact hd⟩
    .cases l
   .cases l
  have a7:∀j k,(sY fs k j).isSome=true->∃A,fs[j]?=some A/\k∈A.W.map (·.1):=by
   intro j k l;unfold sY at l;split at l
   .rename_i A p;exact⟨A,p,wV l⟩
   .cases l
  have g:∀(j:Nat)(A:Ef),fs[j]?=some A->(fs.map λf=>(f.W.map (·.1),f.K))[j]?=some (A.W.map (·.1),A.K):=λj A h=>by simp[h]
  have X:∀r∈qf ops o,(dX fs ops.size st (aA c)).t r=(run (fs.take i) st).t r:=by
   intro r T;rw[nV fs st i (by omega),<-qW (n:=ops.size) (by omega)];refine dm (λj l hw=>?_);obtain⟨oj,A,E,p,hd⟩:=aj j r hw;rcases yAw j i with Q|rfl|ak
   .rw[y j (lB z Q E ho (by simp[kV,hd,T]))];simp[Q]
   .rw[O];simp
   .rw[s j (lB z ak ho E (by simp[kV,hd,T]))]
    have:¬j<i:=by omega
    simp[this]
  have b2:∀k∈f.K,(dX fs ops.size st (aA c)).h k=(run (fs.take i) st).h k:=by
   intro k J;rw[nW fs st i (by omega),<-qW (n:=ops.size) (by omega)];refine dm (λj l hw=>?_);obtain⟨A,p,hd⟩:=a7 j k hw;rcases yAw j i with Q|rfl|ak
   .rw[y j (nd M Q (g j A p) (g i f hf) ⟨k,.inl ⟨hd,J⟩⟩)];simp[Q]
   .rw[O];simp
   .rw[s j (nd M ak (g i f hf) (g j A p) ⟨k,.inr ⟨hd,J⟩⟩)]
    have:¬j<i:=by omega
    simp[this]
  have cg:∀k,k∈f.W.map (·.1)->k∈f.K:=by
   intro k J;obtain⟨kb,a6,rfl⟩:=Zg.1 J;rcases G with⟨_,_,_,F⟩|⟨_,_,hW,_⟩
   .have:=L4.1 F kb a6;simpa using this
   .rw[hW]at a6;cases a6
  have lV:dX fs ops.size st (aA (c.setIfInBounds i true))=(dX fs ops.size st (aA c)).put f.d f.v f.W:=by
   have ca:∀j,j<ops.size->aA (c.setIfInBounds i true) j=(aA c j||j==i):=by
    intro j l;unfold aA;by_cases e:j=i
    .subst e;simp[YZ,B,l]
    .have h1:(j==i)=false:=by simpa using e
     rw[h1,Bool.or_false,YZ,YZ,ZK (by omega)]
   have h1:(dX fs ops.size st (aA (c.setIfInBounds i true))).t=((dX fs ops.size st (aA c)).put f.d f.v f.W).t:=by
    funext r
    show gM ops.size (sX fs r) (st.t r) (aA (c.setIfInBounds i true))=_;rw[dm (λj l _=>ca j l),pV hin ?_]
    .have hw:sX fs r i=if f.d=some r then some f.v else none:=by simp[sX,hf]
     rw[hw]
     cases hd:f.d with
     |none=>simp[St.put,dX]
     |some d=>
      simp only[St.put,av,YV];by_cases e:d=r
      .subst e;simp
      .rw[YR e,YR (λh=>e h.symm)];rfl
    .intro a8 j ar l bq
     obtain⟨oi,fi,V,I,ah⟩:=aj i r a8;obtain⟨oj,A,E,p,hd⟩:=aj j r bq;rw[ho]at V;injection V with V;subst V;exact s j (lB z ar ho E (by simp[kV,ah,hd]))
   have h2:(dX fs ops.size st (aA (c.setIfInBounds i true))).h=((dX fs ops.size st (aA c)).put f.d f.v f.W).h:=by
    funext k
    show gM ops.size (sY fs k) (st.h k) (aA (c.setIfInBounds i true))=_;rw[dm (λj l _=>ca j l),pV hin ?_]
    .have hw:sY fs k i=iQ f.W k:=by simp[sY,hf]
     rw[hw];simp only[St.put];exact(pW k f.W (dX fs ops.size st (aA c)).h).symm
    .intro a8 j ar l bq
     obtain⟨fi,I,ah⟩:=a7 i k a8;obtain⟨A,p,hd⟩:=a7 j k bq;rw[hf]at I;injection I with I;subst I;exact s j (nd M ar (g i f hf) (g j A p) ⟨k,.inr ⟨hd,cg k ah⟩⟩)
   cases hA:dX fs ops.size st (aA (c.setIfInBounds i true));cases hB:(dX fs ops.size st (aA c)).put f.d f.v f.W;rw[hA,hB]at h1 h2;simp at h1 h2;rw[h1,h2]
  have R:∀a' w',dH C ((dX fs ops.size st (aA c)).put f.d f.v f.W) a' w'->wpAny C.P .any ops Q' fuel (c.setIfInBounds i true) a' w':=by
   intro a' w' cq;refine ih (c.setIfInBounds i true) a' w' (by simp[B]) ?_ ?_ (by rw[lV];exact cq)
   .have cr:((List.range ops.size).filter λj=>!aA (c.setIfInBounds i true) j).length<((List.range ops.size).filter λj=>!aA c j).length:=by
     have cj:((List.range ops.size).filter λj=>!aA (c.setIfInBounds i true) j)=((List.range ops.size).filter λj=>!aA c j).filter λj=>!(j==i):=by
      rw[List.filter_filter];refine List.filter_congr (λj l=>?_);have ck:=Zw.1 l;unfold aA;by_cases e:j=i
      .subst e;simp[YZ,B,ck]
      .have h1:(j==i)=false:=by simpa using e
       rw[h1,YZ,YZ,ZK (by omega)];simp
     rw[cj];refine List.length_filter_lt_length_iff_exists.2 ⟨i,ZV.2 ⟨Zw.2 hin,by simp[O]⟩,by simp⟩
    omega
   .intro q j hd l
    have cf:∀m,aA (c.setIfInBounds i true) m=true↔(aA c m=true\/m=i):=by
     intro m;unfold aA;by_cases e:m=i
     .subst e;simp[YZ,B,hin]
     .rw[YZ,YZ,ZK (by omega)];simp[e]
    rw[cf]at l|-;rcases l with l|rfl
    .exact .inl (U q j hd l)
    .exact .inl (y q (.one hd))
  obtain⟨L,hm,hN,b4,ht⟩:=D
  have hgd:dR ops (dX fs ops.size st (aA c)).t o.guard=dR ops (run (fs.take i) st).t o.guard:=by
   unfold dR;split
   .rfl
   .rename_i j want hg
    split
    .rename_i d hd
     rw[X d (by simp[qf,hg,hd])]
    .rfl
  unfold wpOp;rw[ho];simp only;rcases G with⟨hg,hK,b7,ch⟩|⟨hg,hv,hW,_⟩
  .rw[dl ht (hgd.trans hg)]
   rw[YY rfl];refine .inl ?_
   have cc:∀x∈o.op.operands,(run (fs.take i) st).ev x=(dX fs ops.size st (aA c)).ev x:=by
    intro x hx
    cases x with
    |tmp t=>
     refine(X t ?_).symm;simp only[qf,EH,Y7,List.mem_filterMap];exact .inl ⟨.tmp t,by simpa using hx,rfl⟩
    |_=>rfl
   have cd:bv f.K (run (fs.take i) st).h=bv f.K (dX fs ops.size st (aA c)).h:=by
    funext k
    unfold bv;split
    .rename_i J;exact(b2 k (by simpa using J)).symm
    .rfl
   rw[cd]at b7;refine pc.congr cc b7 C L _ w a rfl hm ?_ ?_ (λx _=>bB ht x) _ _ (λu w' L' hA hv=>?_)
   .intro k b J;unfold bv at J;split at J
    .exact J
    .cases J
   .intro d hd
    unfold bv;rw[YY (hK d hd)];refine⟨rfl,?_⟩;have ad:=H;rw[hd]at ad;simp only[dJ,up,Is]at ad;exact ad.2
   .refine R _ _ ?_
    rw[b8];exact dH.put hm hN b4 ht H hA hv
  .rw[dl ht (hgd.trans hg)]
   simp only[YU,Y5];refine R _ _ ?_;rw[b8,hv,hW];exact dH.put hm hN b4 ht H (W:=[]) (aF.refl hm) (.pv (.val _))
theorem WP.drawF(g:C.P.follows .mixedOrders=true)(c:fH ops=true){fs:List Ef}(h1:fs.length=ops.size)(h2:∀(i:Nat) o f,ops[i]?=some o->fs[i]?=some f->qg C.P hn C.N ops o (run (fs.take i) st) f)
 (h3:gX (gO ops.toList []) (fs.map λf=>(f.W.map (·.1),f.K))=true)(h4:Q .normal (run fs st)):WP C (.region id ops true) Q st:=by
 intro a w k;refine wp_region_any g (EJ (fs:=fs) (st:=st) c h1 h2 h3 (λa w k=>⟨_,k,h4⟩) _ _ _ _ (by simp) ?_ ?_ ?_)
 .refine yAs (yAX _ _) (by simp)
 .intro i j hd b
  have e:j<ops.size:=by obtain⟨o,p,_⟩:=hd;exact(Zp.1 p).1
  unfold aA at b;rw[YZ,yAG,YY e]at b;cases b
 .have:dX fs ops.size st (aA (Array.replicate ops.size false))=st:=by
   have hf:∀j,j<ops.size->aA (Array.replicate ops.size false) j=false:=by
    intro j b;unfold aA;rw[YZ,yAG,YY b];rfl
   have r:∀{V:Type}(wr:Nat->Option V)(x0:V),gM ops.size wr x0 (aA (Array.replicate ops.size false))=x0:=by
    intro V wr x0;rw[dm (ls':=λ_=>false) (λj b _=>hf j b)]
    have:∀n,gM n wr x0 (λ_=>false)=x0:=by
     intro n;induction n with
     |zero=>rfl
     |succ n ih=>rw[i9];simp[ih]
    exact this _
   cases st;unfold dX;simp[r]
  rw[this];obtain⟨L,m,hN,d,q⟩:=k;have l:=m.grow (Ext.drew (λ_=>False) w);exact⟨L,l.1,hN,d,λn=>(q n).mono l.2 (KC.refl _ _)⟩
theorem WP.draw(b:C.P.follows .mixedOrders=true)(a:fH ops=true)
 (h:jX C.P hn C.N ops (λacc st=>gX (gO ops.toList []) acc=true/\Q .normal st) ops.toList [] st):WP C (.region id ops true) Q st:=by
 obtain⟨fs,h1,h2,h3,h4⟩:=yq h;exact WP.drawF (hn:=hn) b a (by rw[h1];simp) (λi o f c hf=>h2 i o f (by simpa using c) hf) (by simpa using h3) h4
end
@[simp] theorem JV{α:Type}(f:Nat->α)(k:Nat)(v:α)(n:Nat):av f k v n=if n=k then v else f n:=rfl
@[simp] theorem RM(args:List Arg)(n:Nat):EE args n=(match args[n]? with
 |some (.pv p)=>.pv p
 |some (.bx i)=>.ptr (pk i) 0
 |none=>.undef):=rfl
theorem va(hin:List (List PV))(k:Nat):o8 hin k=if k<1000000 then none else(match hin[k-1000000]? with
 |some a=>some (.box (a.map .pv) false false)
 |none=>none):=rfl
@[simp] theorem N5(K:List Nat)(h:Hp)(k:Nat):bv K h k=if K.contains k=true then h k else none:=rfl
@[simp] theorem RG{y:Code}:ED C y Q .normal st=WP C y Q st:=rfl
@[simp] theorem Ts{y:Code}:ED C y Q .ret st=Q .ret st:=rfl
@[simp] theorem SL{y:Code}:ED C y Q (.exit i) st=Q (.exit i) st:=rfl
@[simp] theorem Py:nQ id Q .normal st=Q .normal st:=rfl
@[simp] theorem SM:nQ id Q .ret st=Q .ret st:=rfl
@[simp] theorem RN:nQ id Q (.exit i) st=if i=id then Q .normal st else Q (.exit i) st:=rfl
@[simp] theorem WH:Fin P rs hout res .ret st=iP P rs hout res st:=rfl
@[simp] theorem RO:Fin P rs hout res .normal st=iP P rs hout res st:=rfl
@[simp] theorem WY(ks:List Nat)(st:St)(n:Nat):(st.kill ks).t n=dL ks (st.t n):=rfl
@[simp] theorem WZ(ks:List Nat)(st:St)(k:Nat):(st.kill ks).h k=if ks.contains k=true then none else(st.h k).map (fB ks):=rfl
@[simp] theorem Tt:ze true d st F=F true st:=rfl
@[simp] theorem SN:ze false d st F=F false st:=rfl
def St.lit(st:St)(d:Nat)(b:Bool):St:=⟨av st.t d (.pv (.val (.bool b))),st.h⟩
section
variable (P:Program) (hn:List Nat) (N:Nat) (ops:Array Oper) (Q:St->Prop) (o:Oper) (rest:List Oper) (st:St)
def xK(x:Option bP):Prop:=iE x (λe=>cw P hn N ops Q rest (st.put o.dst e.1 e.2))
def xC(g:FuncId)(as:List Arg)(ks:List Nat)(a:List (Nat×Blk))(hin:List (List PV)):Prop:=zO P g as hin λhout res=>xK P hn N ops Q o rest st (lz st.h o.dst ks a hout res)
def Pz(g:FuncId)(as:List Arg)(ks:List Nat)(a:List (Nat×Blk)):Bool->Option (List (List PV))->Prop
 |false,some hin=>xC P hn N ops Q o rest st g as ks a hin
 |_,_=>False
def Ng(g:FuncId):Option (List Arg×List Nat×List (Nat×Blk))->Prop
 |some (as,ks,W0)=>Pz P hn N ops Q o rest st g as ks W0 (W0.any λa=>ks.contains a.1) (lV st.h ks)
 |none=>False
def EK(args:List AV):Option (FuncId×List AV×List AV)->Prop
 |some (g,first,caps)=>Ng P hn N ops Q o rest st g (i8 st.h (first++args++caps) [])
 |none=>False
def SO:AV->Prop
 |.fn (.func g) _ _=>gW P g/\cw P hn N ops Q rest (st.put o.dst .undef [])
 |_=>False
def xN:Bool->Prop
 |true=>Ig (cw P hn N ops Q rest (st.put o.dst (.pv (.val (.bool true))) [])) (cw P hn N ops Q rest (st.put o.dst (.pv (.val (.bool false))) []))
 |false=>xK P hn N ops Q o rest st (dw P hn o st.ev st.h)
def xO:Prop:=match o.op with
 |.call c=>match c.callee with
  |.value f=>EK P hn N ops Q o rest st (c.args.toList.map st.ev) (bA (st.ev f))
  |.invoke r name=>EK P hn N ops Q o rest st (c.args.toList.map st.ev) (bA (qD P name (st.ev r)))
  |_=>xK P hn N ops Q o rest st (dw P hn o st.ev st.h)
 |.defer c=>match c.callee with
  |.value f=>if c.args.size=0 then SO P hn N ops Q o rest st (st.ev f)else False
  |_=>False
 |.binOp op t x y _=>xN P hn N ops Q o rest st (nJ (st.ev y)&&mT P t&&rA st.h (st.ev x)&&(op==.eql||op==.neq))
 |_=>xK P hn N ops Q o rest st (dw P hn o st.ev st.h)
def xB(_:Nat)(want:Bool)(b:Bool):Prop:=if b=want then xO P hn N ops Q o rest st else cw P hn N ops Q rest (st.put o.dst (.pv (.val (.tuple #[]))) [])
def xG:Option (Option (Nat×Bool×Bool))->Prop
 |some none=>xO P hn N ops Q o rest st
 |some (some (d,b,want))=>xB P hn N ops Q o rest st d want b
 |none=>False
end
section
variable {P:Program} {hn:List Nat} {N:Nat} {ops:Array Oper} {Q:St->Prop} {o:Oper} {rest:List Oper} {st:St}
@[simp] theorem Tu:xN P hn N ops Q o rest st false=xK P hn N ops Q o rest st (dw P hn o st.ev st.h):=rfl
@[simp] theorem WI:xN P hn N ops Q o rest st true=Ig (cw P hn N ops Q rest (st.put o.dst (.pv (.val (.bool true))) [])) (cw P hn N ops Q rest (st.put o.dst (.pv (.val (.bool false))) [])):=rfl
@[simp] theorem W3{f c:List AV}:SO P hn N ops Q o rest st (.fn (.func g) f c)=(gW P g/\cw P hn N ops Q rest (st.put o.dst .undef [])):=rfl
theorem EL{c:AV}:EK P hn N ops Q o rest st args (bA c)=gk P c args o.dst st.h (λe=>cw P hn N ops Q rest (st.put o.dst e.1 e.2)):=by
 unfold gk
 cases bA c with
 |none=>rfl
 |some q=>
  obtain⟨g,first,caps⟩:=q;simp only[EK]
  cases i8 st.h (first++args++caps) []with
  |none=>rfl
  |some q=>
   obtain⟨as,ks,W0⟩:=q;simp only[Ng]
   cases W0.any λa=>ks.contains a.1 with
   |true=>rfl
   |false=>
    cases lV st.h ks with
    |none=>rfl
    |some hin=>rfl
theorem Nh:xO P hn N ops Q o rest st=wH P hn o st.ev st.h (λe=>cw P hn N ops Q rest (st.put o.dst e.1 e.2)):=by
 obtain⟨a,op,g,pos,b,d⟩:=o
 cases op<;>try rfl
 case binOp op t x y t'=>
  simp only[xO,wH];cases nJ (st.ev y)&&mT P t&&rA st.h (st.ev x)&&(op==.eql||op==.neq)<;>rfl
 rename_i c;obtain⟨callee,args,ts⟩:=c
 cases callee<;>try rfl
 all_goals first
  |(rename_i f name;show EK P hn N ops Q _ rest st (args.toList.map st.ev) (bA (qD P name (st.ev f)))=gk P (qD P name (st.ev f)) (args.toList.map st.ev) a st.h _;exact EL)
  |(rename_i f;show EK P hn N ops Q _ rest st (args.toList.map st.ev) (bA (st.ev f))=gk P (st.ev f) (args.toList.map st.ev) a st.h _;exact EL)
@[simp] theorem WJ:cw P hn N ops Q [] st=Q st:=rfl
@[simp] theorem Tv:cw P hn N ops Q (o::rest) st=(dJ N o.dst=true/\xG P hn N ops Q o rest st (kQ ops st.t o.guard)):=by
 simp only[cw]
 congr 1
 cases a:kQ ops st.t o.guard with
 |none=>rfl
 |some g=>cases g with
  |none=>simp only[xG];rw[Nh]
  |some q=>obtain⟨d,b,want⟩:=q;simp only[xG,xB,ze];rw[Nh]
@[simp] theorem WK:xG P hn N ops Q o rest st (some none)=xO P hn N ops Q o rest st:=rfl
@[simp] theorem WL:xG P hn N ops Q o rest st (some (some (d,b,want)))=xB P hn N ops Q o rest st d want b:=rfl
@[simp] theorem Yv:xB P hn N ops Q o rest st d true true=xO P hn N ops Q o rest st:=rfl
@[simp] theorem Yw:xB P hn N ops Q o rest st d false false=xO P hn N ops Q o rest st:=rfl
@[simp] theorem Yx:xB P hn N ops Q o rest st d true false=cw P hn N ops Q rest (st.put o.dst (.pv (.val (.tuple #[]))) []):=rfl
@[simp] theorem Yy:xB P hn N ops Q o rest st d false true=cw P hn N ops Q rest (st.put o.dst (.pv (.val (.tuple #[]))) []):=rfl
@[simp] theorem WM{e:bP}:xK P hn N ops Q o rest st (some e)=cw P hn N ops Q rest (st.put o.dst e.1 e.2):=rfl
@[simp] theorem Tw:EK P hn N ops Q o rest st args (some (g,first,caps))=Ng P hn N ops Q o rest st g (i8 st.h (first++args++caps) []):=rfl
@[simp] theorem Tx:Ng P hn N ops Q o rest st g (some (as,ks,W0))=Pz P hn N ops Q o rest st g as ks W0 (W0.any λa=>ks.contains a.1) (lV st.h ks):=rfl
@[simp] theorem Ty:Pz P hn N ops Q o rest st g as ks W0 false (some hin)=xC P hn N ops Q o rest st g as ks W0 hin:=rfl
attribute [simp] xO
theorem rP(h:aS P g as hin hout res)(a:xK P hn N ops Q o rest st (lz st.h o.dst ks W0 hout res)):
 xC P hn N ops Q o rest st g as ks W0 hin:=⟨hout,res,h,a⟩
theorem AY(h:st.t d=.pv (.val (.bool b))):st.lit d b=st:=by
 unfold St.lit
 have:av st.t d (.pv (.val (.bool b)))=st.t:=by
  grind [JV]
 rw[this]
theorem mV(h:st.t d=.pv (.val (.bool b)))(a:b=true->xB P hn N ops Q o rest (st.lit d true) d want true)(hf:b=false->xB P hn N ops Q o rest (st.lit d false) d want false):
 xB P hn N ops Q o rest st d want b:=by
 cases b with
 |true=>have:=a rfl;rw[AY h]at this;exact this
 |false=>have:=hf rfl;rw[AY h]at this;exact this
end
section
variable (P:Program) (hn:List Nat) (N:Nat) (ops:Array Oper) (Q:nT->St->Prop) (o:Oper) (rest:List Oper) (acc:nT) (st:St) (K:List Nat)
def yK(x:Option bP):Prop:=iE x (λe=>(e.2.all λa=>K.contains a.1)=true/\jX P hn N ops Q rest (acc++[(e.2.map (·.1),K)]) (st.put o.dst e.1 e.2))
def yC(g:FuncId)(as:List Arg)(ks:List Nat)(a:List (Nat×Blk))(hin:List (List PV)):Prop:=zO P g as hin λhout res=>yK P hn N ops Q o rest acc st K (lz (bv K st.h) o.dst ks a hout res)
def PA(g:FuncId)(as:List Arg)(ks:List Nat)(a:List (Nat×Blk)):Bool->Option (List (List PV))->Prop
 |false,some hin=>yC P hn N ops Q o rest acc st K g as ks a hin
 |_,_=>False
def Ni(g:FuncId):Option (List Arg×List Nat×List (Nat×Blk))->Prop
 |some (as,ks,W0)=>PA P hn N ops Q o rest acc st K g as ks W0 (W0.any λa=>ks.contains a.1) (lV (bv K st.h) ks)
 |none=>False
def EM(args:List AV):Option (FuncId×List AV×List AV)->Prop
 |some (g,first,caps)=>Ni P hn N ops Q o rest acc st K g (i8 (bv K st.h) (first++args++caps) [])
 |none=>False
def yO:Prop:=match o.op with
 |.call c=>match c.callee with
  |.value f=>EM P hn N ops Q o rest acc st K (c.args.toList.map st.ev) (bA (st.ev f))
  |.invoke r name=>EM P hn N ops Q o rest acc st K (c.args.toList.map st.ev) (bA (qD P name (st.ev r)))
  |_=>yK P hn N ops Q o rest acc st K (dw P hn o st.ev (bv K st.h))
 |_=>yK P hn N ops Q o rest acc st K (dw P hn o st.ev (bv K st.h))
def yB(_:Nat)(want:Bool)(b:Bool):Prop:=if b=want then yO P hn N ops Q o rest acc st (lW o st.ev st.h)else jX P hn N ops Q rest (acc++[([],[])]) (st.put o.dst (.pv (.val (.tuple #[]))) [])
def yG:Option (Option (Nat×Bool×Bool))->Prop
 |some none=>yO P hn N ops Q o rest acc st (lW o st.ev st.h)
 |some (some (d,b,want))=>yB P hn N ops Q o rest acc st d want b
 |none=>False
end
section
variable {P:Program} {hn:List Nat} {N:Nat} {ops:Array Oper} {Q:nT->St->Prop} {o:Oper} {rest:List Oper} {acc:nT} {st:St} {K:List Nat}
theorem EN{c:AV}:EM P hn N ops Q o rest acc st K args (bA c)=gk P c args o.dst (bv K st.h) (λe=>(e.2.all λa=>K.contains a.1)=true/\jX P hn N ops Q rest (acc++[(e.2.map (·.1),K)]) (st.put o.dst e.1 e.2)):=by
 unfold gk
 cases bA c with
 |none=>rfl
 |some q=>
  obtain⟨g,first,caps⟩:=q;simp only[EM]
  cases i8 (bv K st.h) (first++args++caps) []with
  |none=>rfl
  |some q=>
   obtain⟨as,ks,W0⟩:=q;simp only[Ni]
   cases W0.any λa=>ks.contains a.1 with
   |true=>rfl
   |false=>
    cases lV (bv K st.h) ks with
    |none=>rfl
    |some hin=>rfl
theorem Nj:yO P hn N ops Q o rest acc st K=ug P hn o st.ev (bv K st.h) (λe=>(e.2.all λd=>K.contains d.1)=true/\jX P hn N ops Q rest (acc++[(e.2.map (·.1),K)]) (st.put o.dst e.1 e.2)):=by
 obtain⟨a,op,i,pos,b,g⟩:=o
 cases op<;>try rfl
 rename_i c;obtain⟨callee,args,ts⟩:=c
 cases callee<;>try rfl
 all_goals first
  |(rename_i f name;show EM P hn N ops Q _ rest acc st K (args.toList.map st.ev) (bA (qD P name (st.ev f)))=gk P (qD P name (st.ev f)) (args.toList.map st.ev) a (bv K st.h) _;exact EN)
  |(rename_i f;show EM P hn N ops Q _ rest acc st K (args.toList.map st.ev) (bA (st.ev f))=gk P (st.ev f) (args.toList.map st.ev) a (bv K st.h) _;exact EN)
@[simp] theorem WN:jX P hn N ops Q [] acc st=Q acc st:=rfl
@[simp] theorem Tz:jX P hn N ops Q (o::rest) acc st=(dJ N o.dst=true/\yG P hn N ops Q o rest acc st (kQ ops st.t o.guard)):=by
 simp only[jX]
 congr 1
 cases a:kQ ops st.t o.guard with
 |none=>rfl
 |some g=>cases g with
  |none=>simp only[yG];rw[Nj]
  |some q=>obtain⟨d,b,want⟩:=q;simp only[yG,yB,ze];rw[Nj]
@[simp] theorem WO:yG P hn N ops Q o rest acc st (some none)=yO P hn N ops Q o rest acc st (lW o st.ev st.h):=rfl
@[simp] theorem WQ:yG P hn N ops Q o rest acc st (some (some (d,b,want)))=yB P hn N ops Q o rest acc st d want b:=rfl
@[simp] theorem Yz:yB P hn N ops Q o rest acc st d true true=yO P hn N ops Q o rest acc st (lW o st.ev st.h):=rfl
@[simp] theorem YA:yB P hn N ops Q o rest acc st d false false=yO P hn N ops Q o rest acc st (lW o st.ev st.h):=rfl
@[simp] theorem YB:yB P hn N ops Q o rest acc st d true false=jX P hn N ops Q rest (acc++[([],[])]) (st.put o.dst (.pv (.val (.tuple #[]))) []):=rfl
@[simp] theorem YC:yB P hn N ops Q o rest acc st d false true=jX P hn N ops Q rest (acc++[([],[])]) (st.put o.dst (.pv (.val (.tuple #[]))) []):=rfl
@[simp] theorem WR{e:bP}:yK P hn N ops Q o rest acc st K (some e)=((e.2.all λa=>K.contains a.1)=true/\jX P hn N ops Q rest (acc++[(e.2.map (·.1),K)]) (st.put o.dst e.1 e.2)):=rfl
@[simp] theorem TA:EM P hn N ops Q o rest acc st K args (some (g,first,caps))=Ni P hn N ops Q o rest acc st K g (i8 (bv K st.h) (first++args++caps) []):=rfl
@[simp] theorem TB:Ni P hn N ops Q o rest acc st K g (some (as,ks,W0))=PA P hn N ops Q o rest acc st K g as ks W0 (W0.any λa=>ks.contains a.1) (lV (bv K st.h) ks):=rfl
@[simp] theorem TC:PA P hn N ops Q o rest acc st K g as ks W0 false (some hin)=yC P hn N ops Q o rest acc st K g as ks W0 hin:=rfl
attribute [simp] yO
theorem vb(h:aS P g as hin hout res)(a:yK P hn N ops Q o rest acc st K (lz (bv K st.h) o.dst ks W0 hout res)):
 yC P hn N ops Q o rest acc st K g as ks W0 hin:=⟨hout,res,h,a⟩
theorem Lg(h:st.t d=.pv (.val (.bool b)))(a:b=true->yB P hn N ops Q o rest acc (st.lit d true) d want true)(hf:b=false->yB P hn N ops Q o rest acc (st.lit d false) d want false):
 yB P hn N ops Q o rest acc st d want b:=by
 cases b with
 |true=>have:=a rfl;rw[AY h]at this;exact this
 |false=>have:=hf rfl;rw[AY h]at this;exact this
end
attribute [simp] BZ qD
attribute [simp] iX eh wD sT BV wE AC rx Nc kP uP BW BX ye sU yg DY uS uT wx mc Ie yp G4 Nf JT fA XV.key
attribute [simp] Em uf If
attribute [simp] D0 AI yj yk zM
attribute [simp] AG uV rA mT AJ Ek zN El
attribute [simp] St.lit dJ kQ dw St.ev St.put ag gV AV.cells PV.cells Value.cells pR wC TK.isAgg ft AB ua j5 eg jo
 ud AF uU yh yi nK bA i8 lV jC lz frz tH qC BU pQ rI kv norm yb Ei md nJ qc jp wy rH i7
 yc bo pS ub uQ ry yd rz Ic JG gq uR AD DX AE Ej wG nc mf iP rO dL fB o7 Ps mJ lW G3 Op.operands Call.operands
section
variable {C:Cx} {Q:Exit->St->Prop} {st:St} {x y:Code} {c:Operand}
def vd(C:Cx)(x y:Code)(Q:Exit->St->Prop)(st:St):AV->Prop
 |.pv (.val (.bool b))=>(b=true->WP C x Q st)/\(b=false->WP C y Q st)
 |_=>False
theorem GG(a:b=true->WP C x Q st)(hf:b=false->WP C y Q st):vd C x y Q st (.pv (.val (.bool b))):=⟨a,hf⟩
@[simp] theorem RP:vd C x y Q st (.pv (.val (.bool true)))=WP C x Q st:=by simp[vd]
@[simp] theorem RH:vd C x y Q st (.pv (.val (.bool false)))=WP C y Q st:=by simp[vd]
theorem WP.cond'(h:vd C x y Q st (st.ev c)):WP C (.cond c x y) Q st:=by
 cases a:st.ev c with
 |pv p=>cases p with
  |val v=>cases v with
   |bool b=>rw[a]at h;exact WP.cond a h.1 h.2
   |_=>rw[a]at h;exact h.elim
  |_=>rw[a]at h;exact h.elim
 |_=>rw[a]at h;exact h.elim
end
section
variable {C:Cx} {Q:Exit->St->Prop} {st:St}
def D1(ks:List Nat)(J:St->Prop)(Q:Exit->St->Prop):Exit->St->Prop
 |.normal,st=>J (st.kill ks)
 |e,st=>Q e st
@[simp] theorem PB{J:St->Prop}:D1 ks J Q .normal st=J (st.kill ks):=rfl
@[simp] theorem SP{J:St->Prop}:D1 ks J Q .ret st=Q .ret st:=rfl
@[simp] theorem RQ{J:St->Prop}:D1 ks J Q (.exit i) st=Q (.exit i) st:=rfl
theorem WP.loopN(ks:List Nat)(N:Nat)(I:Nat->St->Prop)(r:I 0 (st.kill ks))
 (round:∀i st,i<=N->I i st->WP C c (D1 ks (λa=>i<N/\I (i+1) a) Q) st):WP C (.loop c) Q st:=by
 classical
 refine WP.loop ks (λst=>∃i,i<=N/\I i st) (λst=>N-(if h:∃i,i<=N/\I i st/\∀j,j<=N->I j st->j<=i then h.choose else 0)) ⟨0,ZG _,r⟩ ?_;intro st ⟨s,p,n⟩
 have l:∃i,i<=N/\I i st/\∀j,j<=N->I j st->j<=i:=by
  have:∀d i,N-i<=d->i<=N->I i st->∃i,i<=N/\I i st/\∀j,j<=N->I j st->j<=i:=by
   intro d
   induction d with
   |zero=>intro i hd hi g;exact⟨i,hi,g,λj k _=>by omega⟩
   |succ d ih=>
    intro i hd hi g;by_cases h:∃j,j<=N/\I j st/\i<j
    .obtain⟨j,k,b,o⟩:=h;exact ih j (by omega) k b
    .exact⟨i,hi,g,λj k b=>Nat.le_of_not_lt (λf=>h ⟨j,k,b,f⟩)⟩
  exact this N s (by omega) p n
 have q:=l.choose_spec;refine WP.mono (round _ st q.1 q.2.1) ?_;intro e a hq
 cases e with
 |normal=>
  obtain⟨f,g⟩:=hq;refine⟨⟨_,f,g⟩,?_⟩
  have m:∃i,i<=N/\I i (a.kill ks)/\∀j,j<=N->I j (a.kill ks)->j<=i:=by
   have:∀d i,N-i<=d->i<=N->I i (a.kill ks)->∃i,i<=N/\I i (a.kill ks)/\∀j,j<=N->I j (a.kill ks)->j<=i:=by
    intro d
    induction d with
    |zero=>intro i hd hi g;exact⟨i,hi,g,λj k _=>by omega⟩
    |succ d ih=>
     intro i hd hi g;by_cases h:∃j,j<=N/\I j (a.kill ks)/\i<j
     .obtain⟨j,k,b,o⟩:=h;exact ih j (by omega) k b
     .exact⟨i,hi,g,λj k b=>Nat.le_of_not_lt (λf=>h ⟨j,k,b,f⟩)⟩
   exact this N _ (by omega) f g
  have h1:=m.choose_spec.2.2 _ f g;rw[dif_pos m,dif_pos l];omega
 |_=>exact hq
end
attribute [simp] Value.oneCell'
def Arg.isPv:Arg->Bool
 |.pv _=>true
 |.bx _=>false
theorem N6(hf:P.funcs[f]?=some fn)(hb:fn.body=some c)(a:bR P f=true){args:List Arg}(b:args.length<=fn.ntmps)(ha:args.all Arg.isPv=true)
 (h:∀C:Cx,C.P=P->C.N=fn.ntmps->WP C c (Fin P fn.results.toList [] res) (rO args [])):aS P f args [] [] res:=by
 refine yn hf hb a b rfl (λi j d=>?_) h;have:=L4.1 ha _ (An d);simp[Arg.isPv]at this
@[simp] theorem WS(hin:List (List PV))(i:Nat):o8 hin (pk i)=(hin[i]?).map (λa=>.box (a.map .pv) false false):=by
 rw[va,YR (by unfold pk;omega),show pk i-1000000=i by unfold pk;omega];cases hin[i]?<;>rfl
@[simp] theorem SQ(hin:List (List PV))(h:k<1000000):o8 hin k=none:=by rw[va,YY h]
@[simp] theorem W4(i j:Nat):(pk i=pk j)=(i=j):=by unfold pk;simp
@[simp] theorem YD(h:n<1000000):(pk i=n)=False:=by unfold pk;simp;omega
@[simp] theorem SR{a:List PV}{F:Nat->List PV->Prop}:(∀(i:Nat)(b:List PV),[a][i]?=some b->F i b)=F 0 a:=by
 refine propext ⟨λh=>h 0 a rfl,λh i b hi=>?_⟩
 cases i with
 |zero=>simp at hi;subst hi;exact h
 |succ i=>simp at hi
theorem ja:al P Go.program=some P:=rfl
theorem jb{d:TypeDesc}(h:P.underlying t=some d):al P (underlying t)=some d:=by
 unfold underlying;rw[af,ja,Y3,h];rfl
theorem wW(d:Nat)(t:TypeId)(xs ys:Array Value)(c:P.underlying t=some (.struct (P.fieldsOf t)))(hp:P.stoodInHeld t=false):
 al P (Op.equalIn (d+1) t (.agg xs) (.agg ys))=al P (Op.eqFields d xs ys (P.fieldsOf t).toList):=by
 simp only[Op.equalIn,af,jb c,Y3,ja,hp,YU,Y5];rw[<-Array.forIn_toList];generalize(P.fieldsOf t).toList=fs;clear c
 induction fs with
 |nil=>simp[Op.eqFields];rfl
 |cons f fs ih=>
  simp only[List.forIn_cons,Op.eqFields,af];by_cases hn:f.name≠ "_"
  .rw[YY hn,YY hn]
   simp only[af]
   cases al P (part f.type xs f.offset)with
   |none=>rfl
   |some a=>
    simp only[Y3]
    cases al P (part f.type ys f.offset)with
    |none=>rfl
    |some b=>
     simp only[Y3]
     cases al P (Op.equalIn d f.type a b)with
     |none=>rfl
     |some r=>
      cases r
      .simp only[Y3,yBa,Za,cK]
      .simp only[Y3,yAo,YU,Y5,cK]
       exact ih
  .rw[YR hn,YR hn]
   simp only[cK,Y3];exact ih
theorem qh(d:Nat)(t:TypeId)(k c:IntKind)(a b:Int)(h:P.underlying t=some (.int c)):al P (Op.equalIn (d+1) t (.int k a) (.int k b))=some (a==b):=by
 simp only[Op.equalIn,af,jb h,Y3];rw[YY trivial];rfl
theorem pd{f:Field}{fs:List Field}{a b:Value}{r r':Bool}(hn:f.name≠ "_")(ha:al P (part f.type xs f.offset)=some a)(hb:al P (part f.type ys f.offset)=some b)
 (c:al P (Op.equalIn d f.type a b)=some r)(e:al P (Op.eqFields d xs ys fs)=some r'):al P (Op.eqFields d xs ys (f::fs))=some (r&&r'):=by
 simp only[Op.eqFields];rw[YY hn];simp only[af,ha,hb,c,Y3];cases r
 .simp;rfl
 .simp[e]
theorem EO:al P (Op.eqFields d xs ys [])=some true:=rfl
theorem It{x:Operand}(a:o.op=.binOp .neq t x y t')(c:ρ x=.pv (.val (.agg xs)))(d:ρ y=.pv (.val (.agg ys)))
 (e:P.eqGuardType P.depth t=false)(h:al P (Op.equal t (.agg xs) (.agg ys))=some b):aV P o ρ=some (.pv (.val (.bool !b)),[]):=by
 refine dW (by rw[a];simp[Op.operands,c,d,eN]) ?_;unfold execOp;rw[a];simp only[(bC c).2,(bC d).2]
 have h1:al P (eqGuard .neq t x y (.agg xs) (.agg ys))=some ():=by
  unfold eqGuard;simp only[yAo,YU,Y5,af,ja,Y3,e,yBa,Za];rfl
 have h2:al P (binOp .neq t (.agg xs) (.agg ys))=some (.bool !b):=by
  simp only[binOp,af,h,Y3];rfl
 simp only[af,h1,h2,Y3];rfl
theorem ve{x:Operand}(a:o.op=.binOp .eql t x y t')(c:ρ x=.pv (.val (.agg xs)))(d:ρ y=.pv (.val (.agg ys)))
 (e:P.eqGuardType P.depth t=false)(h:al P (Op.equal t (.agg xs) (.agg ys))=some b):aV P o ρ=some (.pv (.val (.bool b)),[]):=by
 refine dW (by rw[a];simp[Op.operands,c,d,eN]) ?_;unfold execOp;rw[a];simp only[(bC c).2,(bC d).2]
 have h1:al P (eqGuard .eql t x y (.agg xs) (.agg ys))=some ():=by
  unfold eqGuard;simp only[yAo,YU,Y5,af,ja,Y3,e,yBa,Za];rfl
 have h2:al P (binOp .eql t (.agg xs) (.agg ys))=some (.bool b):=by
  simp only[binOp,af,h,Y3];rfl
 simp only[af,h1,h2,Y3];rfl
class Sp(G:Prop)(H:outParam Prop):Prop where
 h:H->G
class Ss(G:Prop)(H:outParam Prop):Prop where
 h:H->G
class Sb(G:Prop)(A B D:outParam Prop):Prop where
 h:A->B->D->G
class Sc(G:Prop)(P:outParam Program)(g:outParam FuncId)(as:outParam (List Arg))(hin:outParam (List (List PV)))(F:outParam (List (List PV)->RV->Prop)):Prop where
 h:∀{hout res},aS P g as hin hout res->F hout res->G
section
variable {C:Cx} {Q:Exit->St->Prop} {st:St} {x y c:Code} {id:Nat} {ops:Array Oper}
instance:Sp (WP C (.seq x y) Q st) (WP C x (ED C y Q) st):=⟨WP.seq⟩
instance:Sp (WP C (.block id c) Q st) (WP C c (nQ id Q) st):=⟨WP.block⟩
instance:Ss (WP C (.region id ops false) Q st) (cw C.P [] C.N ops (Q .normal) ops.toList st):=⟨WP.region⟩
instance{o:Operand}:Ss (WP C (.cond o x y) Q st) (vd C x y Q st (st.ev o)):=⟨WP.cond'⟩
instance:Ss (WP C .skip Q st) (Q .normal st):=⟨WP.skip⟩
instance:Ss (WP C .ret Q st) (Q .ret st):=⟨WP.ret⟩
instance:Ss (WP C (.exit id) Q st) (Q (.exit id) st):=⟨WP.exit⟩
theorem Wh(hn:List Nat)(h:cw C.P hn C.N ops (Q .normal) ops.toList st):WP C (.region id ops false) Q st:=WP.region h
theorem Wi(hn:List Nat)(h:jX C.P hn C.N ops (λacc st=>gX (gO ops.toList []) acc=true/\Q .normal st) ops.toList [] st)(b:C.P.follows .mixedOrders=true:=by rw[hP];kernel_rfl)(a:fH ops=true:=by kernel_rfl):WP C (.region id ops true) Q st:=WP.draw b a h
theorem Wd(h:jX C.P [] C.N ops (λacc st=>gX (gO ops.toList []) acc=true/\Q .normal st) ops.toList [] st)(b:C.P.follows .mixedOrders=true:=by rw[hP];kernel_rfl)(a:fH ops=true:=by kernel_rfl):WP C (.region id ops true) Q st:=WP.draw b a h
end
section
variable {P:Program} {hn:List Nat} {N:Nat} {ops:Array Oper} {o:Oper} {rest:List Oper} {st:St} {d:Nat} {want b:Bool} {g:FuncId} {as:List Arg} {ks:List Nat} {W0:List (Nat×Blk)} {hin:List (List PV)}
instance{Q:St->Prop}:Sb (xB P hn N ops Q o rest st d want b) (st.t d=.pv (.val (.bool b))) (b=true->xB P hn N ops Q o rest (st.lit d true) d want true) (b=false->xB P hn N ops Q o rest (st.lit d false) d want false):=⟨mV⟩
instance{Q:nT->St->Prop}{acc:nT}:Sb (yB P hn N ops Q o rest acc st d want b) (st.t d=.pv (.val (.bool b))) (b=true->yB P hn N ops Q o rest acc (st.lit d true) d want true) (b=false->yB P hn N ops Q o rest acc (st.lit d false) d want false):=⟨Lg⟩
instance{Q:St->Prop}:Sc (xC P hn N ops Q o rest st g as ks W0 hin) P g as hin (λhout res=>xK P hn N ops Q o rest st (lz st.h o.dst ks W0 hout res)):=⟨rP⟩
instance{Q:nT->St->Prop}{acc:nT}{K:List Nat}:Sc (yC P hn N ops Q o rest acc st K g as ks W0 hin) P g as hin (λhout res=>yK P hn N ops Q o rest acc st K (lz (bv K st.h) o.dst ks W0 hout res)):=⟨vb⟩
end
theorem Xx{p:Prop}(h:False:=by first|(clear hP hN;simp_all;done)|(simp at *;omega)):p:=h.elim
theorem Xy{p:Prop}(h:False:=by simp at hgd;first|done|omega):p:=h.elim
theorem Ya{a:List Nat}{acc:nT}{b:Prop}(h:b)(k:gX a acc=true:=by kernel_rfl):gX a acc=true/\b:=⟨k,h⟩
theorem Dp{a1 e l:String}{a3 g i:Array TypeId}{j m:Nat}{b1 k:Bool}{o:Option Nat}{b6:List Departure}{p:Array String}(hf:P.funcs[f]?=some fn){args:List Arg}(h:∀C:Cx,C.P=P->C.N=n->WP C c (Fin P rs [] res) (rO args []))
 (d:fn=⟨a1,e,a3,g,i,j,n,rs.toArray,some c,b1,k,l,m,o,b6,p⟩:=by rfl)(a:bR P f=true:=by kernel_rfl)(b:args.length<=n:=by exact of_decide_eq_true (by kernel_rfl))(ha:args.all Arg.isPv=true:=by rfl):aS P f args [] [] res:=by
 subst d;exact N6 hf rfl a b ha h
abbrev X2:=@j6
abbrev Xd:=@GG
structure Hid(H:Prop):Prop where
 h:H
theorem Gy(h:G:=by
 with_reducible repeat' (first|refine Sp.h ?_|((first|refine Wd ?_|refine Ss.h ?_|refine Sc.h (by assumption) ?_|(refine Sb.h ?_ ?_ ?_<;>(try intro hgd)<;>try exact Xy))<;>simp -implicitDefEqProofs (maxSteps:=2000000) [hP,hN, *]<;>try refine Ya ?_)|refine X2 ?_ ?_|(refine Xd ?_ ?_<;>intro hcd<;>try exact Xx))):G:=h
theorem Gz(x:H)(h:Hid H->G:=by
 intro hG0
 with_reducible repeat' (first|refine Sp.h ?_|((first|refine Wd ?_|refine Ss.h ?_|refine Sc.h (by assumption) ?_|(refine Sb.h ?_ ?_ ?_<;>(try intro hgd)<;>try exact Xy))<;>simp -implicitDefEqProofs (maxSteps:=2000000) [hP,hN, *]<;>try refine Ya ?_)|refine X2 ?_ ?_|(refine Xd ?_ ?_<;>intro hcd<;>try exact Xx))
 exact hG0.h):G:=h ⟨x⟩
theorem gA{a b:Prop}(x:a)(y:b):a/\b:=⟨x,y⟩
theorem be{p0 a b:Prop}(c:p0)(h1:a)(h2:b):p0∧a∧b:=⟨c,h1,h2⟩
theorem go{p0 a b c:Prop}(d:p0)(h1:a)(h2:b)(h3:c):p0∧a∧b∧c:=⟨d,h1,h2,h3⟩
theorem it{p0 a b c d:Prop}(e:p0)(h1:a)(h2:b)(h3:c)(h4:d):p0∧a∧b∧c∧d:=⟨e,h1,h2,h3,h4⟩
theorem so{p0 a b c d e:Prop}(f:p0)(h1:a)(h2:b)(h3:c)(h4:d)(h5:e):p0∧a∧b∧c∧d∧e:=⟨f,h1,h2,h3,h4,h5⟩
theorem s6{p0 a b c d e f:Prop}(g:p0)(h1:a)(h2:b)(h3:c)(h4:d)(h5:e)(h6:f):p0∧a∧b∧c∧d∧e∧f:=⟨g,h1,h2,h3,h4,h5,h6⟩
theorem s7{p0 a b c d e f g:Prop}(i:p0)(h1:a)(h2:b)(h3:c)(h4:d)(h5:e)(h6:f)(h7:g):p0∧a∧b∧c∧d∧e∧f∧g:=⟨i,h1,h2,h3,h4,h5,h6,h7⟩
theorem zAa{p0 a b c d e f g i p9:Prop}(j:p0)(h1:a)(h2:b)(h3:c)(h4:d)(h5:e)(h6:f)(h7:g)(h8:i)(h9:p9):p0∧a∧b∧c∧d∧e∧f∧g∧i∧p9:=⟨j,h1,h2,h3,h4,h5,h6,h7,h8,h9⟩
theorem zAb{p0 c d e f g i j k p9 a b:Prop}(l:p0)(h1:c)(h2:d)(h3:e)(h4:f)(h5:g)(h6:i)(h7:j)(h8:k)(h9:p9)(h10:a)(h11:b):p0∧c∧d∧e∧f∧g∧i∧j∧k∧p9∧a∧b:=⟨l,h1,h2,h3,h4,h5,h6,h7,h8,h9,h10,h11⟩
theorem zAc{p0 j k l m n o p q p9 a b c d e:Prop}(r:p0)(h1:j)(h2:k)(h3:l)(h4:m)(h5:n)(h6:o)(h7:p)(h8:q)(h9:p9)(h10:a)(h11:b)(f:c)(g:d)(i:e):p0∧j∧k∧l∧m∧n∧o∧p∧q∧p9∧a∧b∧c∧d∧e:=⟨r,h1,h2,h3,h4,h5,h6,h7,h8,h9,h10,h11,f,g,i⟩
structure Lw(l:List Nat):Prop where
 u:True
section
variable {C:Cx} {Q:Exit->St->Prop} {st:St} {id:Nat} {ops:Array Oper} {hn:List Nat}
theorem Wl(_:Lw hn)(h:cw C.P hn C.N ops (Q .normal) ops.toList st):WP C (.region id ops false) Q st:=WP.region h
theorem Wm(_:Lw hn)(h:jX C.P hn C.N ops (λacc st=>gX (gO ops.toList []) acc=true/\Q .normal st) ops.toList [] st)(b:C.P.follows .mixedOrders=true:=by rw[hP];kernel_rfl)(a:fH ops=true:=by kernel_rfl):WP C (.region id ops true) Q st:=Wi hn h b a
end
theorem GS(s:S)(h:S->G:=by
 intro hS
 with_reducible repeat' (first|refine Sp.h ?_|((first|refine Wd ?_|refine Ss.h ?_|refine Sc.h (by first|assumption|apply_assumption) ?_|(refine Sb.h ?_ ?_ ?_<;>(try intro hgd)<;>try exact Xy))<;>simp -implicitDefEqProofs (maxSteps:=2000000) [hP,hN,hS]<;>try refine Ya ?_)|refine X2 ?_ ?_|(refine Xd ?_ ?_<;>intro hcd<;>try exact Xx))):G:=h s
theorem GT(s:S)(x:H)(h:S->Hid H->G:=by
 intro hS hG0
 with_reducible repeat' (first|refine Sp.h ?_|((first|refine Wd ?_|refine Ss.h ?_|refine Sc.h (by first|assumption|apply_assumption) ?_|(refine Sb.h ?_ ?_ ?_<;>(try intro hgd)<;>try exact Xy))<;>simp -implicitDefEqProofs (maxSteps:=2000000) [hP,hN,hS]<;>try refine Ya ?_)|refine X2 ?_ ?_|(refine Xd ?_ ?_<;>intro hcd<;>try exact Xx))
 exact hG0.h):G:=h s ⟨x⟩
theorem ST(l:List Nat)(s:S)(h:Lw l->S->G:=by
 intro hL hS
 with_reducible repeat' (first|refine Sp.h ?_|((first|refine Wl hL ?_|refine Wm hL ?_|refine Ss.h ?_|refine Sc.h (by first|assumption|apply_assumption) ?_|(refine Sb.h ?_ ?_ ?_<;>(try intro hgd)<;>try exact Xy))<;>simp -implicitDefEqProofs (maxSteps:=2000000) [hP,hN,hS]<;>try refine Ya ?_)|refine X2 ?_ ?_|(refine Xd ?_ ?_<;>intro hcd<;>try exact Xx))):G:=h ⟨trivial⟩ s
theorem kp(l:List Nat)(s:S)(x:H)(h:Lw l->S->Hid H->G:=by
 intro hL hS hG0
 with_reducible repeat' (first|refine Sp.h ?_|((first|refine Wl hL ?_|refine Wm hL ?_|refine Ss.h ?_|refine Sc.h (by first|assumption|apply_assumption) ?_|(refine Sb.h ?_ ?_ ?_<;>(try intro hgd)<;>try exact Xy))<;>simp -implicitDefEqProofs (maxSteps:=2000000) [hP,hN,hS]<;>try refine Ya ?_)|refine X2 ?_ ?_|(refine Xd ?_ ?_<;>intro hcd<;>try exact Xx))
 exact hG0.h):G:=h ⟨trivial⟩ s ⟨x⟩
def TF(d a:Nat):Blk->AV->AV->Prop
 |.row _ _ xs _,x,y=>x=.arr d xs.length/\y=.arr a xs.length
 |.mp _ _ _ _,x,y=>x=.ext (.mp d)/\y=.ext (.mp a)
 |_,_,_=>False
def oa(h:Hp)(d a b:Nat)(blk:Blk)(bx:Blk):Hp:=λq=>if q=a then some blk else if q=d then none else if q=b then some bx else(h q).map (fB [d])
theorem WP.rename(R j d r:Nat){y:AV}{cs:List AV}{own fb:Bool}(hd:st.h d=some blk)(K:st.h r=none)(a8:r<2000000)
 (hb:st.h R=some (.box cs own fb))(W:cs[j]?=some x)(D:TF d r blk x y)(aj:∀(i:Nat) c,cs[i]?=some c->i≠j->o7 [d] c=false)
 (h:WP C c Q ⟨λn=>dL [d] (st.t n),oa st.h d r R blk (.box (cs.set j y) own fb)⟩):WP C c Q st:=by
 intro a w hs;obtain⟨L,N,hN,ar,b7⟩:=hs
 have b9:r≠d:=by intro e;rw[e,hd]at K;cases K
 have X:R≠d:=by
  intro e;rw[e,hd]at hb;injection hb with hb;subst hb;exact D.elim
 have M:R≠r:=by intro e;rw[e,K]at hb;cases hb
 let s:=av L r (L d)
 let v:=oa st.h d r R blk (.box (cs.set j y) own fb)
 have get:∀{q b},v q=some b->(q=r/\b=blk)\/(q≠r/\q≠d/\∃b0,st.h q=some b0/\(∀l,b.live l=b0.live l)/\(∀o,b.frz o=b0.frz o)/\s q=L q):=by
  intro q b hq;simp only[v,oa]at hq;split at hq
  .rename_i e;injection hq with hq;exact .inl ⟨e,hq.symm⟩
  .rename_i m
   have hL:s q=L q:=bc m;split at hq
   .cases hq
   .rename_i g
    split at hq
    .rename_i H;subst H;injection hq with hq;subst hq
     exact .inr ⟨m,g,_,hb,λ_=>rfl,λ_=>rfl,hL⟩
    .simp only[II]at hq
     obtain⟨b0,h1,rfl⟩:=hq;exact .inr ⟨m,g,b0,h1,λl=>by cases b0<;>rfl,λo=>by cases b0<;>rfl,hL⟩
 have hM:∀b o,ab C s v b o->ab C L st.h b o:=by
  rintro b o (h0|⟨q,b1,hq,E,J,hf⟩)
  .exact .inl h0
  .rcases get hq with⟨rfl,rfl⟩|⟨_,_,b0,h1,h2,h3,h4⟩
   .rw[show s q=L d from aE _ _ _]at E J
    exact .inr ⟨d,_,hd,E,J,hf⟩
   .rw[h4]at E J;rw[h2]at E;rw[h3]at hf
    exact .inr ⟨q,b0,h1,E,J,hf⟩
 have hp:Pres w (ab C L st.h) w (ab C s v):=Pres.sub hM
 have a6:KC L (cut [d] st.h) s v:=by
  intro q b hq;unfold cut at hq;split at hq
  .cases hq
  .rename_i hc
   have g:q≠d:=by simpa using hc
   have m:q≠r:=by intro e;rw[e,K]at hq;cases hq
   have hL:s q=L q:=bc m;by_cases H:q=R
   .subst H
    rw[hb]at hq;injection hq with hq;subst hq;exact⟨.box (cs.set j y) own fb,by simp only[v,oa,YR m,YR g,Za],by rw[hL];rfl⟩
   .exact⟨fB [d] b,by simp only[v,oa,YR m,YR g,YR H,hq];rfl,by rw[hL];exact wQ _ _ _⟩
 have G:∀{x u},RepA w (ab C L st.h) L st.h x u->RepA w (ab C s v) s v (dL [d] x) u:=λP=>(wP P).mono hp a6
 have O:v r=some blk:=by simp only[v,oa,Za]
 have A:s r=L d:=aE _ _ _
 have hy:∀u,RepA w (ab C L st.h) L st.h x u->RepA w (ab C s v) s v y u:=by
  intro u P
  cases blk with
  |box=>exact D.elim
  |row e sz xs T=>
   obtain⟨rfl,rfl⟩:=D
   cases P with
   |arr hk hn I=>
    rw[hd]at hk;injection hk with hk;injection hk with _ _ U _;subst U;exact .arr O (Y0 _) (λ_=>by rw[A];exact I rfl)
  |mp kd n es T=>
   obtain⟨rfl,rfl⟩:=D
   cases P with
   |ext b8=>cases b8 with
    |mp _=>
     have:=RepX.mp (L:=s) (k:=r) O;rw[A]at this;exact .ext this
 refine h a w ⟨s,⟨N.ext,N.m0,?_,?_,?_⟩,hN,ar,λn=>G (b7 n)⟩
 .intro q b hq
  by_cases H:q=R
  .subst H
   have e:b=.box (cs.set j y) own fb:=by
    simp only[v,oa,YR M,YR X,Za]at hq;injection hq with hq;exact hq.symm
   subst e;obtain⟨arr,ty,m,g⟩:=N.bl q _ hb;have hL:s q=L q:=bc M;refine⟨arr,ty,by rw[hL];exact m,by simpa using g.1,λi p u f I=>?_⟩;rw[Y1]at f;by_cases ei:j=i
   .subst ei
    rw[YY rfl]at f;split at f
    .injection f with f;subst f
     exact hy u (g.2 j _ u W I)
    .cases f
   .rw[YR ei]at f
    have ak:=aj i p f (λe=>ei e.symm);have:=G (g.2 i p u f I);unfold dL at this;rw[YR (by rw[ak];decide)]at this;exact this
  .rcases get hq with⟨rfl,rfl⟩|⟨m,g,b0,h1,h2,h3,h4⟩
   .have B:=N.bl d _ hd
    rw[A]
    cases b with
    |box=>exact D.elim
    |row e sz xs T=>
     obtain⟨a1,a2,U,a4,a5⟩:=B;refine⟨a1,a2,U,a4,λhn=>?_⟩;obtain⟨b1,b2,arr,b3,b4,b5⟩:=a5 hn;exact⟨b1,b2,arr,b3,b4,λi x j p P W=>by obtain⟨u,I,hr⟩:=b5 i x j p P W;exact⟨u,I,hr.mono hp⟩⟩
    |mp kd n es T=>exact B
   .have B:=N.bl q b0 h1
    rw[h4]
    have e:b=fB [d] b0:=by
     simp only[v,oa,YR m,YR g,YR H,h1,ZD]at hq;injection hq with hq;exact hq.symm
    subst e
    cases b0 with
    |box ad S ah=>
     obtain⟨arr,ty,d1,d2⟩:=B;refine⟨arr,ty,d1,by simpa using d2.1,λi p u f I=>?_⟩;simp only[YS,II]at f;obtain⟨z,hz,rfl⟩:=f;exact G (d2.2 i z u hz I)
    |row e sz xs T=>
     obtain⟨a1,a2,U,a4,a5⟩:=B;refine⟨a1,a2,U,a4,λhn=>?_⟩;obtain⟨b1,b2,arr,b3,b4,b5⟩:=a5 hn;exact⟨b1,b2,arr,b3,b4,λi x j p P W=>by obtain⟨u,I,hr⟩:=b5 i x j p P W;exact⟨u,I,hr.mono hp⟩⟩
    |mp kd n es T=>exact B
 .intro q q' b1 b2 Y hq bq E a7
  have V:∀{q b},v q=some b->b.live (s q)->∃Z b0,st.h Z=some b0/\b0.live (L Z)/\s q=L Z/\(q=r->Z=d)/\(q≠r->Z=q/\q≠d):=by
   intro q b hq E;rcases get hq with⟨rfl,rfl⟩|⟨m,g,b0,h1,h2,h3,h4⟩
   .rw[A]at E
    exact⟨d,_,hd,E,A,λ_=>rfl,λe=>absurd rfl e⟩
   .rw[h4,h2]at E
    exact⟨q,b0,h1,E,h4,λe=>absurd e m,λ_=>⟨rfl,g⟩⟩
  obtain⟨p1,c1,d1,f1,g1,i1,j1⟩:=V hq E;obtain⟨p2,c2,d2,f2,g2,i2,j2⟩:=V bq a7;rw[g1,g2];refine N.sep p1 p2 c1 c2 ?_ d1 d2 f1 f2;intro e;by_cases m:q=r
  .have g:q'≠r:=λg=>Y (m.trans g.symm)
   have:=j2 g;rw[i1 m]at e;exact this.2 (this.1.symm.trans e.symm)
  .have h1:=j1 m
   by_cases g:q'=r
   .rw[i2 g]at e
    exact h1.2 (h1.1.symm.trans e)
   .exact Y (h1.1.symm.trans (e.trans (j2 g).1))
 .intro q b hq
  by_cases H:q=R
  .subst H
   have e:b=.box (cs.set j y) own fb:=by
    simp only[v,oa,YR M,YR X,Za]at hq;injection hq with hq;exact hq.symm
   subst e;have hL:s q=L q:=bc M;have:=N.own q _ hb;rw[hL];cases own<;>exact this
  .rcases get hq with⟨rfl,rfl⟩|⟨m,g,b0,h1,h2,h3,h4⟩
   .have:=N.own d _ hd
    rw[A]
    cases b with
    |box=>exact D.elim
    |row e sz xs T=>
     unfold dy;simp only[C.hpr q a8];exact λhn=>this.row hn
    |mp=>exact this
   .have F:=N.own q b0 h1
    rw[h4]
    have e:b=fB [d] b0:=by
     simp only[v,oa,YR m,YR g,YR H,h1,ZD]at hq;injection hq with hq;exact hq.symm
    subst e
    cases b0 with
    |box ad S ah=>cases S<;>exact F
    |row=>exact F
    |mp=>exact F
theorem fh{C:Cx}{hn:List Nat}{ops:Array Oper}{Q:St->Prop}{Q':Exit->Act->World->Prop}{rest:List Oper}(j:∀st a w,dH C st a w->Q st->wpList C.P ops Q' rest a w):
 ∀{l:List Oper}{st:St}{a:Act}{w:World},dH C st a w->cw C.P hn C.N ops Q l st->wpList C.P ops Q' (l++rest) a w
 |[],st,a,w,r,e=>j st a w r e
 |o::l,st,a,w,r,e=>by
  obtain⟨L,k,hN,f,i⟩:=r;rw[cw.eq_2]at e;obtain⟨hd,e⟩:=e;rw[List.cons_append];refine wpList_step (λK n=>?_);split at e
  .rename_i p
   rw[dl i (pT p),YY rfl];exact ym k hN f i hd e (λm s u q c=>n _ _ (fh j c q))
  .rename_i d b want p
   rw[dl i (me p)];unfold ze at e;simp only at e;split at e
   .rename_i g
    subst g;rw[YY (by simp)];exact ym k hN f i hd e (λm s u q c=>n _ _ (fh j c q))
   .rename_i g
    rw[YR (by simpa using g)];exact n _ _ (fh j (dH.put k hN f i hd (W:=[]) (aF.refl k) (.pv (.val _))) e)
  .exact e.elim
theorem H7{w':World}{L:Nat->Loc}(hp:Pres w M w' M')(a:RepA w M L h x u):
 RepA w' M' L (λk=>if ks.contains k=true then none else(h k).map (fB ks)) (dL ks x) u:=
 (wP a).mono hp G2
def rekey(h:Hp)(ks:List Nat)(k:Nat)(blk:Blk):Hp:=λq=>if q=k then some blk else if ks.contains q=true then none else(h q).map (fB ks)
def St.rekey(st:St)(ks:List Nat)(k:Nat)(blk:Blk):St:=⟨λn=>dL ks (st.t n),Go.Ab.rekey st.h ks k blk⟩
theorem sQ{q:Nat}{b:Blk}(hq:rekey h ks k blk q=some b):(q=k/\b=blk)\/(q≠k/\q∉ks/\∃b0,h q=some b0/\b=fB ks b0):=by
 unfold rekey at hq;split at hq
 .rename_i e;injection hq with hq;exact .inl ⟨e,hq.symm⟩
 .rename_i e
  split at hq
  .cases hq
  .rename_i hc
   simp only[II]at hq;obtain⟨b0,h1,h2⟩:=hq;exact .inr ⟨e,by simpa using hc,b0,h1,h2.symm⟩
theorem Aw(b:Blk)(l:Loc):(fB ks b).live l=b.live l:=by cases b<;>rfl
theorem Jz(b:Blk)(o:Nat):(fB ks b).frz o=b.frz o:=by cases b<;>rfl
theorem JA{l:Loc}{b:Blk}(h:dy C k l b):dy C k l (fB ks b):=by
 cases b with
 |box cs own a=>cases own<;>exact h
 |row=>exact h
 |mp=>exact h
section
variable {C:Cx} {L:Nat->Loc} {h:Hp} {w:World}
theorem MemL.retake(f:MemL C L h w){m:Nat}{xs:List PV}(v:h k=some (.row e sz xs 0)):
 MemL C L (rekey h [k] k (.row e sz (xs.take m) 0)) w/\∀x u,RepA w (ab C L h) L h x u->RepA w (ab C L (rekey h [k] k (.row e sz (xs.take m) 0))) L (rekey h [k] k (.row e sz (xs.take m) 0)) (dL [k] x) u:=by
 have T:∀b o,ab C L (rekey h [k] k (.row e sz (xs.take m) 0)) b o->ab C L h b o:=by
  rintro b o (S|⟨q,blk,hq,c,hb,hf⟩)
  .exact .inl S
  .rcases sQ hq with⟨rfl,rfl⟩|⟨_,_,b0,h1,rfl⟩
   .exact .inr ⟨q,_,v,c,hb,hf⟩
   .rw[Aw]at c;rw[Jz]at hf
    exact .inr ⟨q,b0,h1,c,hb,hf⟩
 have hp:=Pres.sub (w:=w) T
 have F:KC L (λq=>if[k].contains q=true then none else(h q).map (fB [k])) L (rekey h [k] k (.row e sz (xs.take m) 0)):=by
  intro q blk hq;simp only at hq;split at hq
  .cases hq
  .rename_i hc
   have g:q≠k:=by simpa using hc
   refine⟨blk,?_,bt _ _⟩;simp only[rekey,YR g,YR hc];exact hq
 have d:∀x u,RepA w (ab C L h) L h x u->RepA w (ab C L (rekey h [k] k (.row e sz (xs.take m) 0))) L (rekey h [k] k (.row e sz (xs.take m) 0)) (dL [k] x) u:=
  λx u a=>(H7 (ks:=[k]) hp a).mono (Pres.refl _ _) F
 refine⟨⟨f.ext,f.m0,?_,?_,?_⟩,d⟩
 .intro q blk hq
  rcases sQ hq with⟨rfl,rfl⟩|⟨_,_,b0,h1,rfl⟩
  .obtain⟨g1,g2,g3,g4,g5⟩:=f.bl q _ v
   refine⟨g1,ZG _,λx a=>g3 x (yAA a),λhn=>by rw[g4 hn];simp,λhn=>?_⟩;obtain⟨a1,z,arr,A,B,D⟩:=g5 hn;refine⟨by rw[ZA];omega,z,arr,A,B,λi x j p a E=>?_⟩;rw[Zj]at a;split at a
   .obtain⟨u,s,I⟩:=D i x j p a E
    exact⟨u,s,I.mono hp⟩
   .cases a
  .have:=f.bl q b0 h1
   cases b0 with
   |box cs own M=>
    obtain⟨arr,X,R,K⟩:=this;refine⟨arr,X,R,by simpa using K.1,λi p u r s=>?_⟩;simp only[YS,II]at r;obtain⟨y,U,rfl⟩:=r;exact d _ _ (K.2 i y u U s)
   |row Y W ys M=>
    obtain⟨a1,z,A,B,D⟩:=this;refine⟨a1,z,A,B,λhn=>?_⟩;obtain⟨b1,J,arr,N,O,P⟩:=D hn;exact⟨b1,J,arr,N,O,λi x j p a E=>by obtain⟨u,s,I⟩:=P i x j p a E;exact⟨u,s,I.mono hp⟩⟩
   |mp kd n es M=>exact this
 .intro q V b1 J g hq H c G
  have l:∀{q b},rekey h [k] k (.row e sz (xs.take m) 0) q=some b->b.live (L q)->∃b0,h q=some b0/\b0.live (L q):=by
   intro q b hq c;rcases sQ hq with⟨rfl,rfl⟩|⟨_,_,b0,h1,rfl⟩
   .exact⟨_,v,c⟩
   .rw[Aw]at c;exact⟨b0,h1,c⟩
  obtain⟨c1,d1,f1⟩:=l hq c;obtain⟨Q,d2,f2⟩:=l H G;exact f.sep q V c1 Q g d1 d2 f1 f2
 .intro q blk hq
  rcases sQ hq with⟨rfl,rfl⟩|⟨_,_,b0,h1,rfl⟩
  .have h9:=f.own q _ v;exact h9
  .exact JA (f.own q b0 h1)
end
section
variable {C:Cx} {Q:Exit->St->Prop} {st:St}
theorem eI(b:o.guard=none):Region.wanted o (yielded ops a.tmps)=true:=by
 unfold Region.wanted;rw[b]
def Pq(C:Cx)(hn:List Nat)(ops:Array Oper)(Q:St->Prop)(t:TypeId)(x y:Operand)(d:Nat)(post:List Oper)(st:St):Prop:=
 ∃k e sz n m c,st.ev x=.arr k n/\st.ev y=.pv (.val (.int c (m:Nat)))/\(∃xs,st.h k=some (.row e sz xs 0)/\xs.length=n/\n≠0/\m<=n/\(∃ti a b z,az C.P t=some ti/\ti.kind=.slice a sz b z)/\d<C.N/\
  cw C.P hn C.N ops Q post ((st.rekey [k] k (.row e sz (xs.take m) 0)).put (some d) (.arr k m) []))
theorem WP.trunc{pre post:List Oper}{x:Operand}(j:ops.toList=pre++o::post)(F:o.op=.slice t x none (some y) none)(hd:o.dst=some d)(hg:o.guard=none)
 (hq:cw C.P hn C.N ops (Pq C hn ops (Q .normal) t x y d post) pre st):WP C (.region id ops false) Q st:=by
 intro a w hs;refine wp_region_list ?_;rw[j];refine fh (λX a1 w1 J H=>?_) hs hq;obtain⟨k,e,sz,n,m,Z,R,U,xs,A,c,aj,ah,⟨ti,e',b',z',O,B⟩,v,i⟩:=H;obtain⟨L,Y,hN,z,M⟩:=J;refine wpList_step (λK hK=>?_);rw[eI hg,YY rfl];have r:=bB M x;rw[R]at r
 have T:a1.eval x=(L k).slice n:=by
  cases r with
  |arr g ak hu=>
   rw[A]at g;injection g with g;injection g with _ _ a3 _;subst a3;exact hu c
 have s:=bB M y;rw[U]at s
 have V:a1.eval y=.int Z (m:Nat):=by
  cases s with
  |pv hr=>exact aJ hr
 have f:(L k).isNil=false/\xs.length<=(L k).cap:=by
  rcases o6 Y A with⟨_,h9⟩|⟨h9,h10,_⟩
  .rw[h9]at c;simp at c;omega
  .exact⟨h9,h10⟩
 obtain⟨q,jt,hj,ad,_,_⟩:=dK O B
 have S:a1.eval x=.slice (some ⟨(L k).b,0,none⟩) n (L k).cap:=by rw[T];simp[Loc.slice,f.1]
 have p:(execOp a1.eval o).run C.P w1=.ok (.value (.slice (some ⟨(L k).b,0,none⟩) m (L k).cap)) w1:=by
  have u:¬(L k).cap=0:=by omega
  have E:(0:Int)<=(m:Int)/\(m:Int)<=((L k).cap:Int):=by omega
  have key:(Instr.sliceBounds true n (L k).cap none (some (.int Z (m:Nat))) none).run C.P w1=.ok (0,m,(L k).cap) w1:=by
   simp[Instr.sliceBounds,Instr.sliceBound,asIntOf,E]
   try (intro h9;omega)
  have h2:(Instr.sliceAt t (a1.eval x) none (some (a1.eval y)) none).run C.P w1=.ok (.slice (some ⟨(L k).b,0,none⟩) m (L k).cap) w1:=by
   rw[S,V];simp only[Instr.sliceAt,Sem.run_bind,bL q,Result.andThen_ok,Instr.slice,key,fG hj,Sem.run_pure];simp[u,Addr.add]
  unfold execOp;rw[F];simp[h2]
 unfold Oper.wp;rw[p];refine hK _ _ ?_;obtain⟨D,l⟩:=Y.retake (m:=m) A;refine fu (λW a' w' I G=>⟨W,I,G⟩) (st:=(X.rekey [k] k (.row e sz (xs.take m) 0)).put (some d) (.arr k m) []) ?_ i;refine⟨L,D,?_,?_,λn'=>?_⟩
 .rw[hd];simp[Act.put,hN]
 .rw[hd];exact z
 .rw[hd,gZ (by rw[hN];exact v)]
  simp only[St.put,av];split
  .refine .arr (e:=e) (sz:=sz) (fz:=0) (xs:=xs.take m) (by simp[St.rekey,Go.Ab.rekey,ag]) (by rw[ZA];omega) (λ_=>?_)
   simp[Loc.slice,f.1]
  .exact l _ _ (M n')
end
attribute [simp] St.rekey rekey
end Go.Ab
