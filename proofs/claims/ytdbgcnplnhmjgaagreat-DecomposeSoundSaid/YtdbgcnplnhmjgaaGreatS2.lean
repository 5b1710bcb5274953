/- The contracts and facts that the laws of this seat need, in one text (AbB). -/
import Derived.Test.YtdbgcnplnhmjgaaGreatS1
import Derived.MapKept
import Derived.Laws.StructEq
set_option linter.all false
set_option maxRecDepth 10000
set_option maxHeartbeats 16000000
namespace Go.Ab
variable {C:Cx}{F:Bool->St->Prop}{K:dl->Prop}{L:Nat->Loc}{M M':Nat->Nat->Prop}{P:Program}{Q:Exit->St->Prop}{W W0:List (Nat×Blk)}{a:Act}{args caps first:List AV}{as:List Arg}{b want:Bool}{c y:Code}{cs xs ys:Array Value}{d i id j k n:Nat}{f g:FuncId}{fn:Func}{h:Hp}{hin hout:List (List PV)}{hn ks:List Nat}{ls:Nat->Bool}{name:String}{o:Oper}{op:BinOp}{ops:Array Oper}{p:PV}{res:RV}{rs:List ResultVar}{st:St}{t t':TypeId}{ti:TI}{ts:List TypeId}{u v:Value}{us:List Value}{w:World}{x:AV}{ρ ρ':Operand->AV}{σ:Operand->Value}
theorem mR{α:Type}{P:Program}:∀{s:Sem α}{a:α},aq P s=some a->∀w,s.run P w=.ok a w
 |.pure a,b,e,w=>by simp only[aq,IL]at e;subst e;rfl
 |.program k,b,e,w=>by simp only[aq]at e;exact mR (s:=k P) e w
 |.load _ _ _,_,e,_=>by simp[aq]at e
 |.store _ _ _ _,_,e,_=>by simp[aq]at e
 |.new _ _,_,e,_=>by simp[aq]at e
 |.shape _ _,_,e,_=>by simp[aq]at e
 |.freeze _ _ _,_,e,_=>by simp[aq]at e
 |.frozen _ _,_,e,_=>by simp[aq]at e
 |.getObj _ _,_,e,_=>by simp[aq]at e
 |.setObj _ _ _,_,e,_=>by simp[aq]at e
 |.choose _ _,_,e,_=>by simp[aq]at e
 |.sys _ _,_,e,_=>by simp[aq]at e
 |.mark _ _,_,e,_=>by simp[aq]at e
 |.halt _,_,e,_=>by simp[aq]at e
theorem rX(off:Nat):∀(l:List Value)(s:Nat)(arr:Array Value),off+s+l.length<=arr.size->
 ((l.zipIdx s).foldl (λcs(p:Value×Nat)=>cs.setIfInBounds (off+p.2) p.1) arr).toList=dC arr.toList (off+s) l
 |[],s,arr,_=>by simp[dC]
 |v::r,s,arr,h=>by
  simp only[List.zipIdx_cons,P8];rw[rX off r (s+1) _ (by simp at h|-;omega)];simp only[Array.toList_setIfInBounds,dC,Rq];have:=list_seg_step arr.toList (off+s) v r (by simp at h|-;omega);rw[<-QN off s 1];rw[show off+s+(r.length+1)=off+s+(r.length+1) from rfl];exact this
section
variable {C:Cx} {L:Nat->Loc} {h1 h:Hp} {w:World} {M:Nat->Nat->Prop}
theorem uQ(place:Nat->Option (Nat×Nat)):∀{ps:List (Nat×List AV)}{vs:List (Nat×Value)}{cells cells':List AV}{arr:Array Value},aK w M L h cells arr.toList->
 (ps.length=vs.length∧∀(q:Nat)(i:Nat) cs(i':Nat)(v:Value),ps[q]?=some (i,cs)->vs[q]?=some (i',v)->i'=i∧aK w M L h cs v.cells.toList)->uK place cells ps=some cells'->
 ∃arr',Instr.fill place arr vs=some arr'∧aK w M L h cells' arr'.toList
 |[],vs,cells,cells',arr,hr,hp,e=>by
  simp only[uK,IL]at e;subst e;have:vs=[]:=LC (by have:=hp.1;simpa using this.symm);subst this;exact⟨arr,rfl,hr⟩
 |(i,cs)::ps,vs,cells,cells',arr,hr,hp,e=>by
  cases vs with
  |nil=>exact absurd hp.1 (by simp)
  |cons iv vs=>
   obtain⟨i',v⟩:=iv;obtain⟨rfl,hc⟩:=hp.2 0 i cs i' v rfl rfl;simp only[uK]at e;simp only[Instr.fill]
   cases hpl:place i' with
   |none=>rw[hpl]at e;cases e
   |some os=>
    obtain⟨off,size⟩:=os;rw[hpl]at e;simp only at e|-;split at e
    .cases e
    .rename_i hcond
     have hcl:cs.length=v.cells.size:=by have:=hc.1;simpa using this
     have hal:cells.length=arr.size:=by have:=hr.1;simpa using this
     have hcond1:cs.length=size:=Classical.not_not.1 (λh=>hcond (.inl h));have hcond2:¬off+cs.length>cells.length:=λh=>hcond (.inr h)
     have hif:¬((v.cells.size≠size||off+v.cells.size>arr.size)=true):=by simp;omega
     simp only[Ik hif]
     have hsp:(v.cells.zipIdx.foldl (λcs(p:Value×Nat)=>cs.setIfInBounds (off+p.2) p.1) arr).toList=dC arr.toList off v.cells.toList:=by
      have:=rX off v.cells.toList 0 arr (by simp;omega);rw[<-Array.foldl_toList,Array.toList_zipIdx];simpa using this
     refine uQ place (cells:=dC cells off cs) ?_ ⟨by have:=hp.1;simpa using this,λq a b c d h1 h2=>hp.2 (q+1) a b c d (by simpa using h1) (by simpa using h2)⟩ e;have h9:=hr.splice_ hc off;rw[<-hsp]at h9;exact h9
theorem vV(hs:∀k b,h1 k=some b->h k=some b){ρ:Operand->AV}{σ:Operand->Value}:∀{ps:List (Nat×Operand)}{qs:List (Nat×List AV)},(∀x∈ps.map (·.2),RepA w M L h (ρ x) (σ x))->rC h1 ρ ps=some qs->
 qs.length=(ps.map λ(i,x)=>(i,σ x)).length∧∀(q:Nat)(i:Nat) cs(i':Nat)(v:Value),qs[q]?=some (i,cs)->(ps.map λ(i,x)=>(i,σ x))[q]?=some (i',v)->i'=i∧aK w M L h cs v.cells.toList
 |[],qs,_,e=>by simp only[rC,IL]at e;subst e;exact⟨rfl,λq i cs i' v h=>by simp at h⟩
 |(i,x)::ps,qs,hr,e=>by
  simp only[rC]at e;split at e
  .rename_i cs qs' e1 e2
   injection e with e;subst e;obtain⟨h2,h3⟩:=vV hs (λy hy=>hr y (by simp at hy|-;exact .inr hy)) e2;refine⟨by simpa using h2,λq a cs' a' v hq hv=>?_⟩
   cases q with
   |zero=>
    simp at hq hv;obtain⟨rfl,rfl⟩:=hq;obtain⟨rfl,rfl⟩:=hv;exact⟨rfl,qJ hs (hr x (by simp)) e1⟩
   |succ q=>exact h3 q a cs' a' v (by simpa using hq) (by simpa using hv)
  .cases e
theorem Af{P:Program}(w:World):∀(fs:List Field),(∀f∈fs,∃i,P.info? f.type=some i)->
 (fs.mapM (m:=Sem) λf=>do pure (f.offset,<-sizeOf f.type)).run P w=.ok (fs.map λf=>(f.offset,oY P f.type)) w
 |[],_=>by simp
 |f::fs,hf=>by
  obtain⟨i,hi⟩:=hf f (by simp);simp only[List.mapM_cons,Sem.run_bind,gO hi,Result.andThen_ok,Sem.run_pure,Af w fs (λg hg=>hf g (by simp[hg]))];simp[oY,hi]
theorem Cr(ht:ao C.P t=some ti){qs:List (Nat×List AV)}{vs:List (Nat×Value)}(hp:qs.length=vs.length∧∀(q:Nat)(i:Nat) cs(i':Nat)(v:Value),qs[q]?=some (i,cs)->vs[q]?=some (i',v)->i'=i∧aK w M L h cs v.cells.toList)
 {v:AV}(e:xH ti qs=some v):∃r,(Instr.build t vs.toArray).run C.P w=.ok r w∧RepA w M L h v r:=by
 obtain⟨i,d,hi,hd,hsz,hz,hkind⟩:=iD ht;have hk:=Ae ht;unfold xH at e;split at e
 .cases e
 .rename_i z hzz
  have hiz:i.zero=some z:=by rw[<-hz];exact hzz
  have hz0:aK w M L h (z.cells.toList.map λv=>AV.pv (.val v)) z.cells.toList:=by
   refine⟨by simp,λq p u hp hu=>?_⟩;simp only[Is,Ii]at hp;obtain⟨y,hy,rfl⟩:=hp;rw[hy]at hu;injection hu with hu;subst hu;exact .pv (.val _)
  have hzero:(zeroValue t).run C.P w=.ok z w:=by simp[zeroValue,nO hi,hiz]
  split at e
  .rename_i fs hfs
   rw[hkind]at hfs;split at hfs
   .rename_i fs'
    injection hfs with hfs;simp only[Ii]at e;obtain⟨cells,e1,rfl⟩:=e;obtain⟨arr,h2,h3⟩:=uQ (arr:=z.cells) _ hz0 hp e1;refine⟨.agg arr,?_,?_⟩
    .have hkn:∀f∈fs'.toList,∃i,C.P.info? f.type=some i:=by
      unfold mO at hk;rw[hd]at hk;intro f hf;exact Le.1 (Ij.1 hk f hf)
     have hpl:=Af (P:=C.P) w fs'.toList hkn;simp only[Instr.build,Sem.run_bind,hzero,Result.andThen_ok,dR hd,Array.mapM_eq_mapM_toList,Sem.run_map,hpl]
     have hfun:(λ(x:Nat)=>(List.map (λf=>(f.offset,oY C.P f.type)) fs'.toList).toArray[x]?)=λ(i:Nat)=>fs[i]?:=by funext x;rw[<-hfs];simp
     simp only[hfun,h2];rfl
    .have:=tF h3
     simpa using this
   .cases hfs
   .split at hfs<;>cases hfs
   .cases hfs
  .rename_i n esz hfs
   rw[hkind]at hfs;split at hfs
   .cases hfs
   .rename_i n' e'
    injection hfs with _ hfs;simp only[Ii]at e;obtain⟨cells,e1,rfl⟩:=e;obtain⟨arr,h2,h3⟩:=uQ (arr:=z.cells) _ hz0 hp e1;refine⟨.agg arr,?_,?_⟩
    .have hkn:∃j,C.P.info? e'=some j:=by
      unfold mO at hk;rw[hd]at hk;exact Le.1 hk
     obtain⟨j,hj⟩:=hkn
     have hjs:j.size=esz:=by rw[<-hfs];simp[oY,hj]
     simp only[Instr.build,Sem.run_bind,hzero,Result.andThen_ok,dR hd,gO hj,hjs,h2];rfl
    .have:=tF h3
     simpa using this
   .split at hfs<;>cases hfs
   .cases hfs
  .cases e
theorem yv(hs:∀k b,h1 k=some b->h k=some b){e sz fz:Nat}{xs:List PV}(hk:h k=some (.row e sz xs fz))(hc:tY h1 k n=true):xs.length=n:=by
 unfold tY at hc;split at hc
 .rename_i e' sz' xs' fz' hk'
  have:=hs _ _ hk';rw[hk]at this;injection this with this;injection this with _ _ a3 _;subst a3;simpa using hc
 .cases hc
theorem ym(ht:ao C.P t=some ti){v:AV}{f:Nat}(hs:∀k b,h1 k=some b->h k=some b)(hx:RepA w M L h x u)(e:pP ti x f h1=some v):
 ∃r,(Instr.fieldAt t u f).run C.P w=.ok r w∧RepA w M L h v r:=by
 obtain⟨i,d,hi,hd,hsz,hz,hkind⟩:=iD ht;unfold pP at e;split at e
 .rename_i fs hfs
  rw[hkind]at hfs;split at hfs
  .rename_i fs'
   injection hfs with hfs;split at e
   .rename_i o s hf
    split at e
    .cases e
    .rename_i hs0
     rw[<-hfs]at hf;simp only[Is,Ii,JR]at hf;obtain⟨fd,hfd,rfl,hss⟩:=hf
     have hinfo:∃j,C.P.info? fd.type=some j∧j.size≠0:=by
      unfold oY at hss
      cases hj:C.P.info? fd.type with
      |none=>rw[hj]at hss;simp at hss;omega
      |some j=>rw[hj]at hss;simp at hss;exact⟨j,rfl,by omega⟩
     obtain⟨j,hj,hj0⟩:=hinfo
     have hfd':fs'[f]?=some fd:=by rw[<-M7];exact hfd
     have hrun:∀b q,(Instr.fieldAt t (.pointer (some ⟨b,q,none⟩)) f).run C.P w=.ok (.pointer (some ⟨b,q+fd.offset,none⟩)) w:=by
      intro b q;simp only[Instr.fieldAt,Sem.run_bind,dR hd,Result.andThen_ok,hfd',Instr.sureAddr,Sem.run_pure,fieldPlace,gO hj,hj0,JE,fy]
     split at e
     .injection e with e;subst e
      cases hx with
      |ptr hk=>exact⟨_,hrun _ _,.ptr hk⟩
     .rename_i y off
      injection e with e;subst e
      cases hx with
      |pv hr=>cases hr with
       |rptr _ b o' _ uu hc hr=>exact⟨_,hrun _ _,.pv (by rw[QN];exact .rptr y b o' (off+fd.offset) uu hc hr)⟩
     .rename_i k n i' off
      split at e
      .rename_i hcur
       injection e with e;subst e
       cases hx with
       |eptr hk hn hu=>
        obtain⟨hnil,rfl⟩:=hu (yv hs hk hcur);exact⟨_,hrun _ _,.eptr hk hn (λ_=>⟨hnil,by rw[QN]⟩)⟩
      .cases e
     .cases e
   .cases e
  .cases hfs
  .split at hfs<;>cases hfs
  .cases hfs
 .cases e
end
section
variable {C:Cx} {L:Nat->Loc} {h1 h:Hp} {w:World}
theorem yn(hs:∀k b,h1 k=some b->h k=some b)(ht:ao C.P t=some ti){v:AV}{n:Int}{kk:IntKind}(hx:RepA w M L h x u)
 (hrow:∀k e sz xs fz,h k=some (.row e sz xs fz)->(L k).isNil=true->xs=[])(e:pQ ti x n h1=some v):
 ∃r,(Instr.indexAt t u (.int kk n)).run C.P w=.ok r w∧RepA w M L h v r:=by
 obtain⟨i,d,hi,hd,hsz,hz,hkind⟩:=iD ht;unfold pQ at e;split at e
 .rename_i et esz eb ez hk
  obtain⟨hund,jt,hj,rfl,rfl,_⟩:=ej ht hk
  have hrun:∀b o len cap,0<=n->n.toNat<len->(Instr.indexAt t (.slice (some ⟨b,o,none⟩) len cap) (.int kk n)).run C.P w=.ok (.pointer (some ⟨b,o+n.toNat*jt.size,none⟩)) w:=by
   intro b o len cap h0 hlt;have hc:0<=n∧n<(len:Int):=⟨h0,by omega⟩;simp only[Instr.indexAt,asIntOf,Sem.run_bind,Sem.run_pure,Result.andThen_ok,dR hund,hc,and_self,J4,gO hj,fy]
  split at e
  .rename_i xs
   split at e
   .rename_i h0
    split at e
    .rename_i y hy
     split at e
     .rename_i hyl
      injection e with e;subst e;have hlt:n.toNat<xs.length:=(th.1 hy).1
      cases hx with
      |pv hr=>cases hr with
       |sl0=>simp at hy
       |sl _ b o c sz uu hcap hsz hc hr=>
        refine⟨_,hrun b o _ c h0 hlt,.pv ?_⟩
        have hszz:sz=jt.size:=by rw[<-hsz _ y hy];exact hyl
        subst hszz;have:=Rep.rptr (w:=w) (M:=M) y b (o+n.toNat*jt.size) 0 (λj=>uu n.toNat j) (λj p hj=>by have:=hc _ y j p hy hj;rwa [<-QN]at this) (λj p hj=>hr _ y j p hy hj);exact this
     .cases e
    .cases e
   .cases e
  .rename_i k m
   split at e
   .rename_i e0 sz xs fz hk
    split at e
    .rename_i hc
     obtain⟨hl,hss,h0,hlt⟩:=hc;injection e with e;subst e;have hk':=hs _ _ hk
     cases hx with
     |arr hk2 hn2 hu=>
      rw[hk']at hk2;injection hk2 with hk2;injection hk2 with a1 a2 a3 a4;subst a1;subst a2;subst a3;subst a4;rw[hu hl]
      cases hnil:(L k).isNil with
      |true=>rw[hrow k _ _ _ _ hk' hnil]at hl;simp at hl;omega
      |false=>
       simp only[Loc.slice,hnil,IA,JE];refine⟨_,hrun _ _ _ _ h0 hlt,.eptr hk' (by omega) (λ_=>⟨hnil,?_⟩)⟩;rw[hss];simp
    .cases e
   .cases e
  .cases e
 .rename_i len esz hk
  split at e
  .rename_i hc
   obtain⟨h0,hlt⟩:=hc
   have harr:∃e',d=.array len e'∧oY C.P e'=esz:=by
    grind
   obtain⟨e',rfl,hss⟩:=harr
   have hkn:∃j,C.P.info? e'=some j:=by
    have:=Ae ht
    grind [mO,Option.isSome_iff_exists]
   obtain⟨j,hj⟩:=hkn
   have hjs:j.size=esz:=by rw[<-hss];simp[oY,hj]
   have hrun:∀b o,(Instr.indexAt t (.pointer (some ⟨b,o,none⟩)) (.int kk n)).run C.P w=.ok (.pointer (some ⟨b,o+n.toNat*esz,none⟩)) w:=by
    intro b o;have hc:0<=n∧n<(len:Int):=⟨h0,by omega⟩;simp only[Instr.indexAt,asIntOf,Sem.run_bind,Sem.run_pure,Result.andThen_ok,dR hd,Instr.sureAddr,hc,and_self,J4,gO hj,fy,hjs]
   split at e
   .injection e with e;subst e
    cases hx with
    |ptr hk=>exact⟨_,hrun _ _,.ptr hk⟩
   .rename_i y off
    injection e with e;subst e
    cases hx with
    |pv hr=>cases hr with
     |rptr _ b o' _ uu hc hr=>exact⟨_,hrun _ _,.pv (by rw[QN];exact .rptr y b o' _ uu hc hr)⟩
   .rename_i k m j' off
    split at e
    .rename_i hcur
     injection e with e;subst e
     cases hx with
     |eptr hk hn hu=>
      obtain⟨hnil,rfl⟩:=hu (yv hs hk hcur);exact⟨_,hrun _ _,.eptr hk hn (λ_=>⟨hnil,by rw[QN]⟩)⟩
    .cases e
   .cases e
  .cases e
 .cases e
theorem A4(hs:∀k b,h1 k=some b->h k=some b)(ht:ao C.P t=some ti){v:AV}{n:Int}{kk:IntKind}(hx:RepA w M L h x u)(e:uJ ti x n h1=some v):
 ∃r,(Instr.indexAt t u (.int kk n)).run C.P w=.ok r w∧RepA w M L h v r:=by
 unfold uJ at e;split at e
 .rename_i et eb ez k m c0 hk
  obtain⟨hund,jt,hj,hj1,_,_⟩:=ej ht hk;split at e
  .rename_i hc0
   injection e with e;subst e
   cases hx with
   |ext hx'=>cases hx' with
    |barr hc9 hk'=>
     have hc:0<=n∧n<(m:Int):=⟨hc0.1,by omega⟩;refine⟨.pointer (some ⟨(L k).b,n.toNat,none⟩),?_,.ptr hk'⟩;simp only[Instr.indexAt,asIntOf,Sem.run_bind,Sem.run_pure,Result.andThen_ok,dR hund,hc,and_self,J4,gO hj,fy,hj1,SJ,NU]
  .cases e
 .rename_i et esz eb ez k o m t9 hk
  obtain⟨hund,jt,hj,hj1,_,_⟩:=ej ht hk;split at e
  .rename_i e0 sz xs fz hk0
   split at e
   .rename_i hc0
    obtain⟨c1,c2,c3,c4⟩:=hc0;injection e with e;subst e;have hk':=hs _ _ hk0
    cases hx with
    |ext hx'=>cases hx' with
     |suf _ hk2 hn2 ht2 hu=>
      rw[hk']at hk2;injection hk2 with hk2;injection hk2 with _ a2 a3 _;subst a2;subst a3;obtain⟨A,c,rfl,h9⟩:=hu c1;rcases h9 with⟨g1,rfl,g3⟩|⟨g1,_,_⟩
      .have hc:0<=n∧n<(m:Int):=⟨c3,(Int.toNat_lt c3).1 c4⟩
       refine⟨.pointer (some ⟨(L k).b,o*sz+n.toNat*jt.size,none⟩),?_,.eptr hk' ht2 (λ_=>⟨g1,?_⟩)⟩
       .simp only[Instr.indexAt,asIntOf,Sem.run_bind,Sem.run_pure,Result.andThen_ok,dR hund,hc,and_self,J4,gO hj,fy]
       .rw[hj1,<-c2,MB,U2]
      .rw[g1]at c4;exact absurd c4 (Nat.not_lt_zero _)
   .cases e
  .cases e
 .cases e
theorem C4{x y:Option AV}{v:AV}(e:AW x y=some v):x=some v∨y=some v:=by
 cases x with
 |some a=>exact .inl e
 |none=>exact .inr e
theorem C5{x y:Option dl}{v:dl}(e:AY x y=some v):x=some v∨y=some v:=by
 cases x with
 |some a=>exact .inl e
 |none=>exact .inr e
theorem EJ(hs:∀k b,h1 k=some b->h k=some b){ty:TypeId}(ht:ao C.P t=some ti){v:AV}(hx:RepA w M L h x u)
 (hrow:∀k e sz xs fz,h k=some (.row e sz xs fz)->(L k).isNil=true->xs=[])(e:Cv ti x h1=some v):
 ∃r,(Builtin.len_ #[t] ty #[u]).run C.P w=.ok r w∧RepA w M L h v r:=by
 unfold Cv at e;split at e
 .rename_i et esz eb ez xs hk
  obtain⟨hund,_⟩:=ej ht hk;injection e with e;subst e
  have:∃A c,u=.slice A xs.length c:=by
   cases hx with
   |pv hr=>cases hr with
    |sl0 a c=>exact⟨a,c,rfl⟩
    |sl _ b o c=>exact⟨_,c,rfl⟩
  obtain⟨A,c,rfl⟩:=this;exact⟨_,by simp[Builtin.len_,dR hund,goInt],.pv (.val _)⟩
 .rename_i et esz eb ez n hk
  obtain⟨hund,_⟩:=ej ht hk;injection e with e;subst e
  cases hx with
  |pv hr=>cases hr with
   |hd _ A c=>exact⟨_,by simp[Builtin.len_,dR hund,goInt],.pv (.val _)⟩
 .rename_i et esz eb ez k n hk
  obtain⟨hund,_⟩:=ej ht hk;split at e
  .rename_i e0 sz xs fz hk
   split at e
   .rename_i hl
    injection e with e;subst e;have hk':=hs _ _ hk
    have:∃A c,u=.slice A n c:=by
     cases hx with
     |arr hk2 hn2 hu=>
      grind [Loc.slice]
    obtain⟨A,c,rfl⟩:=this;exact⟨_,by simp[Builtin.len_,dR hund,goInt],.pv (.val _)⟩
   .cases e
  .cases e
 .rename_i et esz eb ez k n c0 hk
  obtain⟨hund,_⟩:=ej ht hk;injection e with e;subst e
  cases hx with
  |ext hx'=>cases hx' with
   |barr _ _=>exact⟨_,by simp[Builtin.len_,dR hund,goInt],.pv (.val _)⟩
 .rename_i et esz eb ez k o n t9 hk
  obtain⟨hund,_⟩:=ej ht hk;split at e
  .rename_i e0 sz xs fz hk0
   split at e
   .rename_i hl
    injection e with e;subst e;have hk':=hs _ _ hk0
    cases hx with
    |ext hx'=>cases hx' with
     |suf _ hk2 hn2 ht2 hu=>
      rw[hk']at hk2;injection hk2 with hk2;injection hk2 with _ a2 a3 _;subst a2;subst a3;obtain⟨A,c,rfl,_⟩:=hu hl;exact⟨_,by simp[Builtin.len_,dR hund,goInt],.pv (.val _)⟩
   .cases e
  .cases e
 .cases e
def MS(ul:Option Value)(y:Nat):Sem Nat:=match ul with|some v=>Instr.sliceBound v y .sliceB|none=>pure 0
def MT(uh:Option Value)(n c:Nat):Sem Nat:=match uh with|some v=>Instr.sliceBound v c .sliceAcap|none=>pure n
theorem vW(ht:ao C.P t=some ti){v:AV}(hx:RepA w M L h x u){lo hi:Option AV}{ul uh:Option Value}
 (hlo:∀a,lo=some a->∃b,ul=some b∧RepA w M L h a b)(hlo0:lo=none->ul=none)(hhi:∀a,hi=some a->∃b,uh=some b∧RepA w M L h a b)(hhi0:hi=none->uh=none)
 (e:mf ti x lo hi=some v):
 ∃r,(Instr.sliceAt t u ul uh none).run C.P w=.ok r w∧RepA w M L h v r:=by
 unfold mf at e;split at e
 .rename_i et esz eb ez xs hk
  obtain⟨hund,jt,hj,rfl,rfl,_⟩:=ej ht hk;simp only at e;split at e
  .rename_i l r hl hr
   split at e
   .rename_i hc
    obtain⟨c1,c2,c3,c4⟩:=hc;injection e with e;subst e
    have hA:∃A c,u=.slice A xs.length c∧xs.length<=c:=by
     cases hx with
     |pv hr=>cases hr with
      |sl0 a c=>exact⟨a,c,rfl,Ng _⟩
      |sl _ b o c _ _ hcap=>exact⟨_,c,rfl,hcap⟩
    obtain⟨A,c,rfl,hcc⟩:=hA
    have hbl:∀y,l<=y->(MS ul y).run C.P w=.ok l w:=by
     intro y hy
     cases lo with
     |none=>rw[hlo0 rfl];simp at hl;subst hl;rfl
     |some a=>
      obtain⟨b,rfl,hb⟩:=hlo a rfl
      cases a with
      |pv p=>cases p with
       |val vv=>cases vv with
        |int kk n=>
         cases hb with
         |pv hb=>
          rw[aY hb];simp only at hl;split at hl
          .rename_i h0
           injection hl with hl;have:0<=n∧n<=(y:Int):=⟨h0,by omega⟩;simp[MS,Instr.sliceBound,asIntOf,this,hl]
          .cases hl
        |_=>simp at hl
       |_=>simp at hl
      |_=>simp at hl
    have hbh:(MT uh xs.length c).run C.P w=.ok r w:=by
     cases hi with
     |none=>rw[hhi0 rfl];simp at hr;subst hr;rfl
     |some a=>
      obtain⟨b,rfl,hb⟩:=hhi a rfl
      cases a with
      |pv p=>cases p with
       |val vv=>cases vv with
        |int kk n=>
         cases hb with
         |pv hb=>
          rw[aY hb];simp only at hr;split at hr
          .rename_i h0
           injection hr with hr;have:0<=n∧n<=(c:Int):=⟨h0,by omega⟩;simp[MT,Instr.sliceBound,asIntOf,this,hr]
          .cases hr
        |_=>simp at hr
       |_=>simp at hr
      |_=>simp at hr
    refine⟨.slice (if c=l then A else A.map (·.add (l*jt.size))) (r-l) (c-l),?_,?_⟩
    .have hb1:=hbl r c1
     have key:(Instr.sliceBounds true xs.length c ul uh none).run C.P w=.ok (l,r,c) w:=by
      unfold Instr.sliceBounds;cases uh<;>cases ul<;>simp_all[MS,MT]
     simp only[Instr.sliceAt,Sem.run_bind,dR hund,Result.andThen_ok,Instr.slice,key,gO hj,Sem.run_pure]
    .have hlen:((xs.take r).drop l).length=r-l:=by simp;omega
     refine .pv ?_;by_cases hz:r-l=0
     .have:(xs.take r).drop l=[]:=LC (by omega)
      rw[this,hz];exact .sl0 _ _
     .cases hx with
      |pv hrr=>cases hrr with
       |sl0=>simp at c2;omega
       |sl _ b o _ sz uu hcp hsz hcc' hrr=>
        have hcl:¬c=l:=by omega
        rw[Ik hcl]
        have hszz:sz=jt.size:=by
         have hx0:0<xs.length:=by omega
         rw[<-hsz 0 xs[0] (an hx0)];have:=Ij.1 c4 xs[0] (Ky hx0);simp[qR]at this;exact this.1
        subst hszz;simp only[MG,fy];rw[<-hlen]
        have hget:∀(i:Nat) y,((xs.take r).drop l)[i]?=some y->xs[l+i]?=some y:=by
         intro i y hy;rw[NG,KN]at hy;split at hy
         .exact hy
         .cases hy
        refine .sl _ b (o+l*jt.size) _ jt.size (λi j=>uu (l+i) j) (by omega) (λi y hy=>hsz _ y (hget i y hy)) (λi y j p hy hj=>?_) (λi y j p hy hj=>hrr _ y j p (hget i y hy) hj);have:=hcc' _ y j p (hget i y hy) hj;rw[MB]at this;rw[show o+l*jt.size+(i*jt.size+j)=o+(l*jt.size+i*jt.size+j) from by omega];exact this
   .cases e
  .cases e
 .cases e
theorem Gh{raw:Bool}(hm:MemL C L h w)(hf:dr h1 h)(hx:RepA w (af C L h) L h x u)(e:F9 raw h1 x=some (p,W)):
 aP C L h w L (am h W) w∧Rep w (af C L (am h W)) p u∧dr h1 (am h W):=by
 unfold F9 at e;split at e
 .injection e with e;injection e with e1 e2;subst e1;subst e2
  cases hx with
  |pv hr=>exact⟨aP.refl hm,hr,hf⟩
 grind [nN]
theorem vX{ρ:Operand->AV}{σ:Operand->Value}{esz:Nat}{raw:Bool}:∀{ps:List (Nat×Operand)}{k:Nat}{h:Hp}(_:MemL C L h w)(_:dr h1 h)(_:∀x∈ps.map (·.2),RepA w (af C L h) L h (ρ x) (σ x)){xs:List PV}{W:List (Nat×Blk)},
 rD h1 ρ esz raw k ps=some (xs,W)->aP C L h w L (am h W) w∧dr h1 (am h W)∧xs.length=ps.length∧(∀x∈xs,x.cells.length=esz)∧
  (∀(q:Nat)(i:Nat)(v:Value),(ps.map λ(i,x)=>(i,σ x))[q]?=some (i,v)->i=k+q∧∃p,xs[q]?=some p∧Rep w (af C L (am h W)) p v)
 |[],k,h,hm,hf,hr,xs,W,e=>by
  simp only[rD,IL,JR]at e;obtain⟨rfl,rfl⟩:=e;exact⟨aP.refl hm,hf,rfl,by simp,λq i v h=>by simp at h⟩
 |(i,x)::ps,k,h,hm,hf,hr,xs,W,e=>by
  simp only[rD]at e;split at e
  .rename_i hik
   subst hik;split at e
   .rename_i p W1 ps' W2 e1 e2
    split at e
    .rename_i hpl
     injection e with e;injection e with ea eb;subst ea;subst eb;obtain⟨a1,a2,a3⟩:=Gh hm hf (hr x (by simp)) e1;obtain⟨b1,b2,b3,b4,b5⟩:=vX a1.1 a3 (λy hy=>(hr y (by simp at hy|-;exact .inr hy)).mono a1.2.1 a1.2.2) e2;rw[dn];refine⟨a1.trans b1,b2,by simp[b3],?_,?_⟩
     .intro y hy
      rcases KM.1 hy with rfl|hy
      .exact hpl
      .exact b4 y hy
     .intro q i' v hv
      cases q with
      |zero=>simp at hv;obtain⟨rfl,rfl⟩:=hv;exact⟨by omega,p,rfl,a2.mono b1.2.1⟩
      |succ q=>
       obtain⟨c1,p',c2,c3⟩:=b5 q i' v (by simpa using hv);exact⟨by omega,p',by simpa using c2,c3⟩
    .cases e
   .cases e
  .cases e
theorem wD{esz:Nat}:∀{vs:List (Nat×Value)}{k:Nat}{arr:Array Value},(∀(q:Nat) i v,vs[q]?=some (i,v)->i=k+q∧v.cells.size=esz)->arr.size=(k+vs.length)*esz->
 ∃arr',Instr.fill (λi=>some (i*esz,esz)) arr vs=some arr'∧arr'.size=arr.size∧(∀q,q<k*esz->arr'[q]?=arr[q]?)∧
  ∀(q:Nat) i v(j:Nat),vs[q]?=some (i,v)->j<esz->arr'[(k+q)*esz+j]?=v.cells[j]?
 |[],k,arr,_,hs=>⟨arr,rfl,rfl,λ_ _=>rfl,λq i v j h=>by simp at h⟩
 |(i,v)::vs,k,arr,hv,hs=>by
  obtain⟨hik,hvs⟩:=hv 0 i v rfl
  obtain rfl:k=i:=by omega
  have hle:k*esz+esz<=arr.size:=by rw[hs];simp only[Rq];rw[MB,MB];omega
  have hif:¬((v.cells.size≠esz||k*esz+v.cells.size>arr.size)=true):=by simp;omega
  simp only[Instr.fill,Ik hif]
  have hsp:(v.cells.zipIdx.foldl (λcs(p:Value×Nat)=>cs.setIfInBounds (k*esz+p.2) p.1) arr).toList=dC arr.toList (k*esz) v.cells.toList:=by
   have:=rX (k*esz) v.cells.toList 0 arr (by simp;omega);rw[<-Array.foldl_toList,Array.toList_zipIdx];simpa using this
  generalize hA:v.cells.zipIdx.foldl (λcs(p:Value×Nat)=>cs.setIfInBounds (k*esz+p.2) p.1) arr=A at hsp
  have hAs:A.size=arr.size:=by
   have:A.toList.length=arr.size:=by rw[hsp];simp[dC];omega
   simpa using this
  obtain⟨arr',g1,g2,g3,g4⟩:=wD (vs:=vs) (k:=k+1) (arr:=A) (λq i v' hq=>by
   obtain⟨a,b⟩:=hv (q+1) i v' (by simpa using hq);exact⟨by omega,b⟩) (by rw[hAs,hs];simp only[Rq];congr 1;omega)
  have hAq:∀q,q<k*esz->A[q]?=arr[q]?:=by
   intro q hq;rw[<-M7,hsp];unfold dC;rw[Oo,Iz (by simp;omega),KN,IR hq];simp
  have hAv:∀j,j<esz->A[k*esz+j]?=v.cells[j]?:=by
   intro j hj;rw[<-M7,hsp];unfold dC;rw[Oo,IN (by simp;omega),Iz (by simp;omega)];simp only[MD,On];rw[show k*esz+j-min (k*esz) arr.size=j from by omega];simp
  refine⟨arr',g1,by omega,λq hq=>?_,λq i' v' j hq hj=>?_⟩
  .rw[g3 q (by rw[MB];omega),hAq q hq]
  .cases q with
   |zero=>
    simp at hq;obtain⟨rfl,rfl⟩:=hq;rw[U2,g3 _ (by rw[MB];omega),hAv j hj]
   |succ q=>
    have:=g4 q i' v' j (by simpa using hq) hj;rw[show k+(q+1)=k+1+q from by omega];exact this
end
section
variable {C:Cx} {L:Nat->Loc} {h1 h:Hp} {w:World}
theorem C6(hsel:∀cs b,o.op≠.select cs b)(hρ:∀x∈o.op.operands,RepA w M L h (ρ x) (σ x)){v:AV}
 (e:bR C.P o ρ=some (v,W)):∃u,(execOp σ o).run C.P w=.ok (.value u) w∧W=[]∧v=.pv (.val u):=by
 unfold bR at e;split at e
 .rename_i hall
  split at e
  .rename_i u hrun
   injection e with e;injection e with e1 e2;subst e1;subst e2
   have hcongr:execOp σ o=execOp (λx=>rc (ρ x)) o:=by
    refine execOp_congr o hsel (λx hx=>?_);have h1:=Ij.1 hall x (by simpa using hx);have h2:=hρ x hx;generalize ρ x=y at h1 h2|-
    cases y with
    |pv p=>cases p with
     |val vv=>cases h2 with
      |pv hr=>rw[aY hr];rfl
     |_=>simp[fD]at h1
    |_=>simp[fD]at h1
   grind [mR]
  .cases e
 .cases e
theorem Qr{args:List Operand}(e:args.map ρ=[x]):∃a,args=[a]∧ρ a=x:=by
 simp_all
theorem Gi{args:List Operand}{y:AV}(e:args.map ρ=[x,y]):∃a b,args=[a,b]∧ρ a=x∧ρ b=y:=by
 cases args with
 |nil=>simp at e
 |cons a r=>cases r with
  |nil=>simp at e
  |cons b r=>cases r with
   |nil=>simp at e;exact⟨a,b,rfl,e.1,e.2⟩
   |cons=>simp at e
theorem ak{α β:Type}{P:Program}:∀(s:Sem α)(f:α->Sem β),aq P (s >>= f)=(aq P s).bind λa=>aq P (f a)
 |.pure a,f=>rfl
 |.program k,f=>by
  show aq P ((k P) >>= f)=_;rw[ak (k P) f];rfl
 |.load _ _ _,_=>rfl
 |.store _ _ _ _,_=>rfl
 |.new _ _,_=>rfl
 |.shape _ _,_=>rfl
 |.freeze _ _ _,_=>rfl
 |.frozen _ _,_=>rfl
 |.getObj _ _,_=>rfl
 |.setObj _ _ _,_=>rfl
 |.choose _ _,_=>rfl
 |.sys _ _,_=>rfl
 |.mark _ _,_=>rfl
 |.halt _,_=>rfl
theorem em{α:Type}(a:α):aq P (pure a)=some a:=rfl
theorem eH(h1:(o.op.operands.toList.all λx=>(fD (ρ x)).isSome)=true)(h2:aq P (execOp (λx=>rc (ρ x)) o)=some (.value v)):bR P o ρ=some (.pv (.val v),[]):=by
 grind [bR]
theorem cy(h:x=.pv (.val v)):fD x=some v∧rc x=v:=by subst h;exact⟨rfl,rfl⟩
theorem EK{y:AV}(e:tZ op x y=some v)(P:Program)(t:TypeId)(xo yo:Operand):
 ∃a b,x=.pv (.val a)∧y=.pv (.val b)∧aq P (do eqGuard op t xo yo a b;binOp op t a b)=some v:=by
 unfold tZ at e;split at e
 .rename_i k a k' b
  refine⟨.int k a,.int k' b,rfl,rfl,?_⟩
  have hg:aq P (eqGuard op t xo yo (.int k a) (.int k' b))=some ():=by unfold eqGuard;cases op<;>rfl
  rw[ak,hg];simp only[Js];cases op<;>simp only at e
  case shl=>
   split at e
   .rename_i h;injection e with e;subst e
    have:¬b<0:=by omega
    simp only[binOp,Op.shift,this,JE];rfl
   .cases e
  case shr=>
   split at e
   .rename_i h;injection e with e;subst e
    have:¬b<0:=by omega
    simp only[binOp,Op.shift,this,JE];rfl
   .cases e
  case quo=>
   split at e
   .rename_i h;injection e with e;subst e
    obtain⟨rfl,hb⟩:=h;simp only[binOp,ne_eq,Qe,JE,Op.intDiv,hb];rfl
   .cases e
  case rem=>
   split at e
   .rename_i h;injection e with e;subst e
    obtain⟨rfl,hb⟩:=h;simp only[binOp,ne_eq,Qe,JE,Op.intDiv,hb];rfl
   .cases e
  all_goals first
   |(split at e
     .rename_i h;injection e with e;subst e;subst h
      simp only[binOp,ne_eq,Qe,JE];rfl
     .cases e)
   |cases e
 .rename_i a b
  refine⟨.string a,.string b,rfl,rfl,?_⟩
  have hg:aq P (eqGuard op t xo yo (.string a) (.string b))=some ():=by unfold eqGuard;cases op<;>rfl
  rw[ak,hg];simp only[Js]
  cases op<;>simp only at e<;>first|(injection e with e;subst e;rfl)|cases e
 .cases e
theorem Jf{x y:Operand}(ho:o.op=.binOp op t x y t')(e:tZ op (ρ x) (ρ y)=some v):bR P o ρ=some (.pv (.val v),[]):=by
 obtain⟨a,b,hx,hy,hr⟩:=EK e P t x y;refine eH (by rw[ho];simp[Op.operands,hx,hy,fD]) ?_;unfold execOp;rw[ho];simp only[(cy hx).2,(cy hy).2];rw[ak,hr];rfl
theorem LK{op:UnOp}{x:Operand}(ho:o.op=.unOp op t x)(e:zW op (ρ x)=some v):bR P o ρ=some (.pv (.val v),[]):=by
 unfold zW at e;split at e
 .rename_i b hx
  injection e with e;subst e;refine eH (by rw[ho];simp[Op.operands,hx,fD]) ?_;unfold execOp;rw[ho];simp only[(cy hx).2];rfl
 .rename_i k n hx
  injection e with e;subst e;refine eH (by rw[ho];simp[Op.operands,hx,fD]) ?_;unfold execOp;rw[ho];simp only[(cy hx).2];rfl
 .cases e
theorem vY{k:IntKind}(e:eh P t=some k):P.underlying t=some (.int k):=by
 grind [eh]
theorem fP{d:TypeDesc}(e:P.underlying t=some d):aq P (underlying t)=some d:=by
 unfold underlying;rw[ak];show aq P (match P.underlying t with|some d=>pure d|none=>stuck "no such type")=some d;rw[e];rfl
theorem Hx{s d:TypeId}{x:Operand}(ho:o.op=.convert s d x)(e:uM P s d (ρ x)=some v):bR P o ρ=some (.pv (.val v),[]):=by
 unfold uM at e;split at e
 .rename_i k0 k k1 n h1 h2 hx
  injection e with e;subst e;refine eH (by rw[ho];simp[Op.operands,hx,fD]) ?_;unfold execOp;rw[ho];simp only[(cy hx).2];rw[ak]
  have:aq P (convert s d (.int k1 n))=some (.int k (k.wrap n)):=by
   unfold convert;rw[ak,fP (vY h1)];simp only[Js];rw[ak,fP (vY h2)];rfl
  rw[this];rfl
 .cases e
theorem Jg{as:List Operand}(ho:o.op=.call ⟨.builtin .min,⟨as⟩,⟨ts⟩⟩)(e:xJ (as.map ρ)=some v):bR P o ρ=some (.pv (.val v),[]):=by
 unfold xJ at e;split at e
 .rename_i k a k' b hargs
  injection e with e;subst e;obtain⟨x,y,rfl,hx,hy⟩:=Gi hargs;refine eH (by rw[ho];simp[Op.operands,Call.operands,hx,hy,fD]) ?_;unfold execOp;rw[ho];simp[resolve,invoke,builtin,Builtin.min_,(cy hx).2,(cy hy).2,Builtin.min2,ak,em]
 .cases e
theorem Jh{as:List Operand}(ho:o.op=.call ⟨.builtin .max,⟨as⟩,⟨ts⟩⟩)(e:xL (as.map ρ)=some v):bR P o ρ=some (.pv (.val v),[]):=by
 unfold xL at e;split at e
 .rename_i k a k' b hargs
  injection e with e;subst e;obtain⟨x,y,rfl,hx,hy⟩:=Gi hargs;refine eH (by rw[ho];simp[Op.operands,Call.operands,hx,hy,fD]) ?_;unfold execOp;rw[ho];simp[resolve,invoke,builtin,Builtin.max_,(cy hx).2,(cy hy).2,Builtin.max2,ak,em]
 .cases e
theorem lR{q:Option Value}{e:dl}(h:∀v,q=some v->bR P o ρ=some (.pv (.val v),[]))(he:oe P o ρ q=some e):bR P o ρ=some e:=by
 cases q with
 |none=>exact he
 |some v=>rw[h v rfl];exact he
theorem qK{i:TypeInfo}(h:P.info? t=some i):aq P (typeInfo t)=some i:=by
 unfold typeInfo;rw[ak];show(some P).bind _=_;rw[Js,h];rfl
theorem LN{x i:Operand}(ho:o.op=.index t x i)(e:zX (ik P t) (ρ x) (ρ i)=some v):bR P o ρ=some (.pv (.val v),[]):=by
 unfold zX at e;split at e
 .rename_i s k n hk hx hi
  have hu:P.underlying t=some .string:=by
   grind [ik]
  split at e
  .rename_i h0
   simp only[Ii]at e;obtain⟨b,hb,rfl⟩:=e;refine eH (by rw[ho];simp[Op.operands,hx,hi,fD]) ?_;unfold execOp;rw[ho];simp only[(cy hx).2,(cy hi).2]
   have h1:aq P (Instr.index t (.string s) (.int k n))=some (.int .u8 b.toNat):=by
    unfold Instr.index;simp only[asIntOf,pure_bind];rw[ak,fP hu,Js];simp only[h0,J4,hb];rfl
   rw[ak,h1];rfl
  .cases e
 .rename_i m cs k n hk hx hi
  split at e
  .rename_i h0
   have hu:∃el d,P.underlying t=some (.array m el)∧P.underlying el=some d∧(∀fs,d≠.struct fs)∧(∀a b,d≠.array a b)∧∃j,P.info? el=some j∧j.size=1:=by
    grind [ik,Option.isSome_iff_exists,oY]
   obtain⟨el,d,hu,hd,hs,ha,j,hj,hj1⟩:=hu;refine eH (by rw[ho];simp[Op.operands,hx,hi,fD]) ?_;unfold execOp;rw[ho];simp only[(cy hx).2,(cy hi).2]
   have hsz:aq P (sizeOf el)=some 1:=by
    unfold sizeOf;rw[ak,qK hj,Js,<-hj1];rfl
   have hag:aq P (isAgg el)=some false:=by
    unfold isAgg;rw[ak,fP hd,Js]
    cases d<;>first|rfl|exact absurd rfl (hs _)|exact absurd rfl (ha _ _)
   have h1:aq P (Instr.index t (.agg cs) (.int k n))=some v:=by
    unfold Instr.index;simp only[asIntOf,pure_bind];rw[ak,fP hu,Js];simp only[h0,and_self,J4];rw[ak,hsz,Js,SJ];unfold part;rw[ak,hag,Js];simp only[IA,JE,e];rfl
   rw[ak,h1];rfl
  .cases e
 .cases e
def Gj(C:Cx)(L:Nat->Loc)(h:Hp)(w:World)(o:Oper)(σ:Operand->Value)(v:AV)(W:List (Nat×Blk)):Prop:=
 ∃n u w' L',(execOp σ o).run C.P w=.ok n w'∧(n=.value u∨(n=.skip∧u=undef))∧aP C L h w L' (am h W) w'∧RepA w' (af C L' (am h W)) L' (am h W) v u
theorem eI(hm:MemL C L h w){v:AV}(hr:RepA w (af C L h) L h v u)(e:(execOp σ o).run C.P w=.ok (.value u) w):Gj C L h w o σ v []:=
 ⟨_,u,w,L,e,.inl rfl,aP.refl hm,hr⟩
theorem US(hm:MemL C L h w)(hsel:∀cs b,o.op≠.select cs b)(hρ:∀x∈o.op.operands,RepA w (af C L h) L h (ρ x) (σ x)){v:AV}
 (e:bR C.P o ρ=some (v,W)):Gj C L h w o σ v W:=by
 obtain⟨u,h1,rfl,rfl⟩:=C6 hsel hρ e;exact eI hm (.pv (.val u)) h1
theorem Ag(P:Program)(t:TypeId)(v:Value):(newVar t v).run P w=.ok ⟨w.heap.size,0,none⟩ (w.alloc (.cells v.cells t)):=rfl
theorem E7(hm:MemL C L h w):∀k e sz xs fz,h k=some (.row e sz xs fz)->(L k).isNil=true->xs=[]:=λk _ _ _ _ hk hn=>(hm.bl k _ hk).2.2.2.1 hn
theorem sO(hm:List Operand)(hρ:∀x∈hm,RepA w M L h (ρ x) (σ x)):aK w M L h (hm.map ρ) (hm.map σ):=by
 refine⟨by simp,λi p u hp hu=>?_⟩
 grind
theorem EL{q:Option Bool}(h:zZ op q=some b):∃b',q=some b'∧((op=.eql∧b=b')∨(op=.neq∧b=!b')):=by
 unfold zZ at h
 grind
theorem zb(h0:od x=true)(hx:RepA w M L h x u):u=.slice none 0 0:=by
 unfold od at h0;split at h0
 .cases hx with
  |pv hr=>rw[aY hr,lQ h0]
 .cases h0
theorem rY(h:nB P t=true):∃e,P.underlying t=some (.slice e):=by
 unfold nB at h;split at h
 .rename_i s z e esz eb ez hti
  exact⟨e,(ej hti rfl).1⟩
 .cases h
theorem A5(hm:MemL C L h w)(hs:∀k b,h1 k=some b->h k=some b)(hx:RepA w (af C L h) L h x u)(e:uO h1 x=some b):∃a n c,u=.slice a n c∧a.isNone=b:=by
 unfold uO at e;split at e
 .rename_i v
  split at e
  .rename_i hn
   injection e with e;subst e
   cases hx with
   |pv hr=>exact⟨none,0,0,by rw[aY hr,lQ hn],rfl⟩
  .cases e
 .rename_i xs
  split at e
  .cases e
  .rename_i hne
   injection e with e;subst e
   cases hx with
   |pv hr=>
    cases hr with
    |sl0 a c=>simp at hne
    |sl xs b o c sz u hcap hs hc hr=>exact⟨_,_,_,rfl,rfl⟩
 .rename_i k n
  split at e
  .rename_i e0 sz xs fz hk
   split at e
   .rename_i hc
    injection e with e;subst e
    cases hx with
    |arr hk2 hn2 hu=>
     rw[hs _ _ hk]at hk2;injection hk2 with hk2;injection hk2 with a1 a2 a3 a4;subst a3
     have hnil:(L k).isNil=false:=by
      cases hq:(L k).isNil with
      |false=>rfl
      |true=>exact absurd (by rw[(hm.bl k _ (hs _ _ hk)).2.2.2.1 hq]at hc;exact hc.1.symm) hc.2
     grind [Loc.slice]
   .cases e
  .cases e
 .cases e
theorem EM(d:Nat){e:TypeId}(a:Option Addr)(n c:Nat)(h:P.underlying t=some (.slice e)):aq P (Op.equalIn (d+1) t (.slice a n c) (.slice none 0 0))=some a.isNone:=by
 unfold Op.equalIn;rw[ak]
 have:aq P (underlying t)=some (.slice e):=by unfold underlying;rw[ak];show(some P).bind _=_;rw[Js,h];rfl
 rw[this,Js];cases a<;>rfl
theorem A6{dst:Option Nat}{x y:Operand}{ty:TypeId}{pos:String}{aft:Array Edge}{g:Option (Nat×Bool)}(hu:∃e,P.underlying t=some (.slice e))
 {a:Option Addr}{n c:Nat}(hx:σ x=.slice a n c)(hy:σ y=.slice none 0 0){b:Bool}(hop:(op=.eql∧b=a.isNone)∨(op=.neq∧b=!a.isNone)):
 aq P (execOp σ ⟨dst,.binOp op t x y t',ty,pos,aft,g⟩)=some (.value (.bool b)):=by
 obtain⟨e,he⟩:=hu;unfold execOp;simp only[hx,hy];have hq:aq P (Op.equal t (.slice a n c) (.slice none 0 0))=some a.isNone:=EM _ a n c he;rcases hop with⟨rfl,rfl⟩|⟨rfl,rfl⟩
 .have h1:aq P (eqGuard .eql t x y (.slice a n c) (.slice none 0 0))=some ():=rfl
  have h2:aq P (binOp .eql t (.slice a n c) (.slice none 0 0))=some (.bool a.isNone):=by simp only[binOp,ak,hq,Js];rfl
  simp only[ak,h1,h2,Js];rfl
 .have h1:aq P (eqGuard .neq t x y (.slice a n c) (.slice none 0 0))=some ():=rfl
  have h2:aq P (binOp .neq t (.slice a n c) (.slice none 0 0))=some (.bool !a.isNone):=by simp only[binOp,ak,hq,Js];rfl
  simp only[ak,h1,h2,Js];rfl
theorem EN(cs:Array Value)(off sz:Nat):Value.agg (cs.extract off (off+sz))=y6 cs off sz:=by
 unfold y6
 congr 1
 grind
theorem rZ{j:TypeInfo}(ha:rV P t=some true)(hj:P.info? t=some j)(cs:Array Value)(off:Nat):aq P (part t cs off)=some (y6 cs off j.size):=by
 have hag:aq P (isAgg t)=some true:=by
  unfold rV at ha;unfold isAgg;rw[ak];split at ha
  .rename_i h;rw[fP h];rfl
  .rename_i h;rw[fP h];rfl
  all_goals grind
 have hsz:aq P (sizeOf t)=some j.size:=by
  unfold sizeOf;rw[ak,qK hj,Js];rfl
 unfold part;rw[ak,hag,Js];show aq P (do pure (Value.agg (cs.extract off (off+(<-sizeOf t)))))=_;rw[ak,hsz,Js,<-EN];rfl
theorem zd(ha:rV P t=some false){off:Nat}(hv:cs[off]?=some v):aq P (part t cs off)=some v:=by
 have hag:aq P (isAgg t)=some false:=by
  unfold rV at ha;unfold isAgg;rw[ak];split at ha
  .cases ha
  .cases ha
  .rename_i d hs hn h
   rw[fP h,Js]
   cases d<;>first|rfl|exact(hs _ rfl).elim|exact(hn _ _ rfl).elim
  .cases ha
 unfold part;rw[ak,hag,Js];simp only[IA,JE,hv];rfl
theorem LO{x i:Operand}(ho:o.op=.index t x i)(e:zY (uN P t) (ρ x) (ρ i)=some v):bR P o ρ=some (.pv (.val v),[]):=by
 unfold zY at e;split at e
 .rename_i n sz cs k ix hk hx hi
  split at e
  .rename_i h0
   injection e with e;subst e;unfold uN at hk;split at hk
   .rename_i m el hu
    split at hk
    .rename_i j ha hj
     injection hk with hk;injection hk with hk1 hk2;subst hk1;subst hk2;refine eH (by rw[ho];simp[Op.operands,hx,hi,fD]) ?_;unfold execOp;rw[ho];simp only[(cy hx).2,(cy hi).2]
     have hsz:aq P (sizeOf el)=some j.size:=by
      unfold sizeOf;rw[ak,qK hj,Js];rfl
     have h1:aq P (Instr.index t (.agg cs) (.int k ix))=some (y6 cs (ix.toNat*j.size) j.size):=by
      unfold Instr.index;simp only[asIntOf,pure_bind]
      grind [ak,fP,rZ]
     rw[ak,h1];rfl
    .cases hk
   .cases hk
  .cases e
 .cases e
theorem Ji{x:Operand}{f:Nat}(ho:o.op=.field t x f)(e:xM (t5 P t f) (ρ x)=some v):bR P o ρ=some (.pv (.val v),[]):=by
 have key:∀{b off sz cs},t5 P t f=some (b,off,sz)->ρ x=.pv (.val (.agg cs))->∀v,(∀t',rV P t'=some b->(∃j,P.info? t'=some j∧j.size=sz)->aq P (part t' cs off)=some v)->bR P o ρ=some (.pv (.val v),[]):=by
  intro b off sz cs hk hx v hp;unfold t5 at hk;split at hk
  .rename_i fs hu
   split at hk
   .rename_i fd hfd
    split at hk
    .rename_i b' j ha hj
     injection hk with hk;injection hk with hk1 hk;injection hk with hk2 hk3;subst hk1;subst hk2;subst hk3;refine eH (by rw[ho];simp[Op.operands,hx,fD]) ?_;unfold execOp;rw[ho];simp only[(cy hx).2]
     have h1:aq P (Instr.field t (.agg cs) f)=some v:=by
      unfold Instr.field;rw[ak,fP hu,Js];simp only[hfd,asAgg,pure_bind]
      grind
     rw[ak,h1];rfl
    .cases hk
   .cases hk
  .cases hk
 unfold xM at e
 grind [rZ,zd]
theorem C7{x y:Option Value}(e:xP x y=some v):x=some v∨y=some v:=by
 unfold xP at e
 grind
theorem Hy{w:World}{L:Nat->Loc}{h:Hp}(f:Fn){vs:List Value}(h1:aK w M L h first us)(h2:aK w M L h caps vs):RepA w M L h (Cw f first caps) (.func f us.toArray vs.toArray):=by
 unfold Cw;split
 .rename_i x r
  have hv:=h2.nil_inv;subst hv;split
  .rename_i ps hps
   have e:=qb hps;rw[e]at h1;have h3:=h1.map_pv_inv;split
   .rename_i ws hws
    rw[uI hws h3];exact .pv (.val _)
   .exact .pv (.fn f ps [] us [] h3.1 rfl h3.2 cO.nil.2)
  .exact .fn f _ _ us [] h1.1 rfl h1.2 aK.nil.2
 .exact .fn f first caps us vs h1.1 h2.1 h1.2 h2.2
theorem yw(h:t6 P t=true):∃d,P.underlying t=some d∧∀m,d≠.interface m:=by
 grind [t6]
end
section
variable {P:Program} {kt e0:TypeId} {kd:IntKind} {n:Nat} {j:TypeInfo}
end
section
variable {P:Program} {kt e0:TypeId} {kd:IntKind} {n:Nat} {j:TypeInfo} {w:World}
end
section
variable {C:Cx} {L:Nat->Loc} {h1 h:Hp} {w:World}
theorem Gk(hm:MemL C L h w)(hs:∀k b,h1 k=some b->h k=some b)(hfresh:∀d,o.dst=some d->h1 d=h d∧d<2000000)
 (hρ:∀x∈o.op.operands,RepA w (af C L h) L h (ρ x) (σ x)){hn:List Nat}{v:AV}{W:List (Nat×Blk)}(e:fv C.P hn o ρ h1=some (v,W)):Gj C L h w o σ v W:=by
 obtain⟨dst,op,type,pos,after,guard⟩:=o;simp only at hfresh
 cases op with
 |move x=>
  simp only[fv,IL,JR]at e;obtain⟨rfl,rfl⟩:=e;exact eI hm (hρ x (by simp[Op.operands])) rfl
 |assign x=>
  have hx:=hρ x (by simp[Op.operands]);simp only[fv]at e
  have hplain:some (ρ x,[])=some (v,W)->Gj C L h w ⟨dst,.assign x,type,pos,after,guard⟩ σ v W:=by
   intro e;simp only[IL,JR]at e;obtain⟨rfl,rfl⟩:=e;exact eI hm hx rfl
  split at e
  .rename_i d
   split at e
   .rename_i hc
    simp only[An]at hc;split at e
    .rename_i sz zr et esz eb ez hti
     split at e
     .rename_i hd
      injection e with e;injection e with e1 e2;subst e1;subst e2
      have hdn:h d=none:=by rw[<-(hfresh d rfl).1];simpa using hd.1
      have hnil:σ x=.slice none 0 0:=by
       have h2:=hc.2;generalize ρ x=y at h2 hx;unfold od at h2;split at h2
       .cases hx with
        |pv hr=>rw[aY hr,lQ h2]
       .cases h2
      have hrow:=lx (e:=et) (sz:=esz) (xs:=[]) (l:=⟨0,0,true⟩) hm (Ext.refl _ w) hdn (hfresh d rfl).2 (λh=>by cases h)
       ⟨hd.2,Ng _,by simp,λ_=>rfl,(λh=>by cases h)⟩
      exact⟨.value (.slice none 0 0),.slice none 0 0,w,_,by simp[execOp,hnil],.inl rfl,hrow.1,hrow.2⟩
     .cases e
    .cases e
   .exact hplain e
  .exact hplain e
 |pick c a b=>
  simp only[fv]at e;split at e
  .rename_i t ht
   injection e with e;injection e with e1 e2;subst e1;subst e2;have hc:=hρ c (by simp[Op.operands]);rw[ht]at hc
   have hcv:σ c=.bool t:=by cases hc with|pv hr=>exact aY hr
   refine eI hm (u:=if t then σ a else σ b) ?_ (by simp[execOp,hcv,asBool])
   cases t with
   |true=>exact hρ a (by simp[Op.operands])
   |false=>exact hρ b (by simp[Op.operands])
  .cases e
 |alloc elem=>
  simp only[fv]at e;split at e
  .rename_i sz z kd d hti
   split at e
   .rename_i hd
    injection e with e;injection e with e1 e2;subst e1;subst e2
    have hdn:h d=none:=by rw[<-(hfresh d rfl).1];simpa using hd
    obtain⟨i,dd,hi,_,_,hz,_⟩:=iD hti
    have hz0:aK w (af C L h) L h (z.cells.toList.map λv=>AV.pv (.val v)) z.cells.toList:=by
     refine⟨by simp,λq p u hp hu=>?_⟩;simp only[Is,Ii]at hp;obtain⟨y,hy,rfl⟩:=hp;rw[hy]at hu;injection hu with hu;subst hu;exact .pv (.val _)
    have hb:=A1 (us:=z.cells) hm hdn (hfresh d rfl).2 hz0 elem;refine⟨.value (.pointer (some ⟨w.heap.size,0,none⟩)),_,_,_,?_,.inl rfl,hb.1,hb.2⟩;simp only at hz;simp[execOp,Instr.alloc,zeroValue,nO hi,<-hz,Ag]
   .cases e
  .cases e
 |box elem x=>
  simp only[fv]at e;split at e
  .rename_i cs d hcs
   split at e
   .rename_i hd
    injection e with e;injection e with e1 e2;subst e1;subst e2
    have hdn:h d=none:=by rw[<-(hfresh d rfl).1];simpa using hd
    have hr:=qJ hs (hρ x (by simp[Op.operands])) hcs;have hb:=A1 (us:=(σ x).cells) hm hdn (hfresh d rfl).2 hr elem;refine⟨.value (.pointer (some ⟨w.heap.size,0,none⟩)),_,_,_,?_,.inl rfl,hb.1,hb.2⟩;simp[execOp,Instr.box,Ag]
   .cases e
  .cases e
 |build t ps=>
  simp only[fv]at e;split at e
  .rename_i ti qs hti hqs
   simp only[Ii,JR]at e;obtain⟨v',e1,rfl,rfl⟩:=e;have hp:=vV (σ:=σ) hs (λx hx=>hρ x (by simpa[Op.operands]using hx)) hqs;obtain⟨r,hr1,hr2⟩:=Cr hti hp e1;refine eI hm hr2 ?_
   have:(ps.map λ(i,x)=>(i,σ x))=(ps.toList.map λ(i,x)=>(i,σ x)).toArray:=by
    apply Array.ext';simp
   simp only[execOp,Sem.run_bind,this,hr1,Result.andThen_ok,Sem.run_pure]
  .cases e
 |buildSlice t len ps=>
  simp only[fv]at e;split at e
  .rename_i eff heff
   injection e with e;subst e;unfold y7 at heff;split at heff
   .rename_i d hps
    split at heff
    .split at heff
     .rename_i s0 z0 et esz eb z1 hti
      split at heff
      .rename_i hc
       injection heff with heff;injection heff with e1 e2;subst e1;subst e2;obtain⟨hund,jt,hj,hjs,_,hjz⟩:=ej hti rfl
       have hdn:h d=none:=by rw[<-(hfresh d rfl).1];simpa using hc.1
       have hrow:=lx (e:=et) (sz:=esz) (xs:=[]) (l:=⟨w.heap.size,0,false⟩) hm (Ext.alloc (λ_=>False) w (.cells #[] et)) hdn (hfresh d rfl).2 (λ_=>IX _)
        ⟨hc.2,Ng _,by simp,λ_=>rfl,λ_=>⟨IX _,Ng _,#[],kf w _,by simp,λi x j p hx=>by simp at hx⟩⟩
       have hps':ps=#[]:=by apply Array.ext';simpa using hps
       subst hps';refine⟨.value (.slice (some ⟨w.heap.size,0,none⟩) 0 0),_,w.alloc (.cells #[] et),_,?_,.inl rfl,hrow.1,hrow.2⟩
       have h0:¬0>2^24:=by omega
       simp only[execOp,Instr.buildSlice,Sem.run_bind,dR hund,Result.andThen_ok,gO hj,VQ,J4,pure_bind,h0,JE]
       have e1:Array.range 0=#[]:=by simp
       rw[e1];simp only[List.map_toArray,VS,Instr.fill];rfl
      .cases heff
     .cases heff
    .cases heff
   .cases heff
  split at e
  .rename_i s0 z0 et esz eb z1 hti
   split at e
   .rename_i xs W' hel
    split at e
    .rename_i hc
     obtain⟨c1,c2,c3⟩:=hc;obtain⟨hund,jt,hj,hjs,_,hjz⟩:=ej hti rfl;subst hjs;obtain⟨a1,a2,a3,a4,a5⟩:=vX (σ:=σ) hm (dr.of_sub hs) (λx hx=>hρ x (by simpa[Op.operands]using hx)) hel
     have hvs:(ps.map λ(i,x)=>(i,σ x)).toList=ps.toList.map λ(i,x)=>(i,σ x):=by simp
     have hpsl:ps.toList.length=len:=by omega
     have hsz2:∀(q:Nat) i v,(ps.toList.map λ(i,x)=>(i,σ x))[q]?=some (i,v)->i=0+q∧v.cells.size=jt.size:=by
      intro q i v hq;obtain⟨b1,p,b2,b3⟩:=a5 q i v hq;refine⟨b1,?_⟩;have:=b3.cells.1;rw[a4 p (HW b2)]at this;simpa using this.symm
     obtain⟨arr,f1,f2,f3,f4⟩:=wD (arr:=(Array.range (len*jt.size)).map ((if len*jt.size=0 then #[]else z1.cells:Array Value)[·% (if len*jt.size=0 then #[]else z1.cells:Array Value).size]!)) hsz2 (by simp[hpsl]);have hg:=a1.1.grow (Ext.alloc (λ_=>False) w (.cells arr et))
     have hrun:(execOp σ ⟨dst,.buildSlice t len ps,type,pos,after,guard⟩).run C.P w=.ok (.value (.slice (some ⟨w.heap.size,0,none⟩) len len)) (w.alloc (.cells arr et)):=by
      have hlim:¬len*jt.size>2^24:=by omega
      have hzv:(zeroValue et).run C.P w=.ok z1 w:=by simp[zeroValue,nO hj,hjz]
      by_cases hl:len*jt.size=0
      .simp only[hl,J4]at f1
       have h0:¬0>2^24:=by omega
       simp only[execOp,Instr.buildSlice,Sem.run_bind,dR hund,Result.andThen_ok,gO hj,hl,h0,JE,J4,pure_bind,hvs,f1];rfl
      .simp only[hl,JE]at f1
       simp only[execOp,Instr.buildSlice,Sem.run_bind,dR hund,Result.andThen_ok,gO hj,hlim,hl,JE,pure_bind,hzv,hvs,f1];rfl
     have hcellr:∀(i:Nat) x(j:Nat) p,xs[i]?=some x->x.cells[j]?=some p->∃u,arr[i*jt.size+j]?=some u∧Rep w (af C L (am h W')) p u:=by
      intro i x j p hx hj2
      have hil:i<(ps.toList.map λ(i,x)=>(i,σ x)).length:=by rw[Lf];have:=(th.1 hx).1;omega
      obtain⟨⟨i',vv⟩,hvv⟩:∃y,(ps.toList.map λ(i,x)=>(i,σ x))[i]?=some y:=⟨_,an hil⟩;obtain⟨b1,p',b2,b3⟩:=a5 i i' vv hvv;rw[hx]at b2;injection b2 with b2;subst b2
      have hjl:j<jt.size:=by rw[<-a4 x (HW hx)];exact(th.1 hj2).1
      have hget:=f4 i i' vv j hvv hjl;rw[NU]at hget
      have hvl:j<vv.cells.size:=by rw[(hsz2 i i' vv hvv).2];exact hjl
      rw[MA hvl]at hget;exact⟨_,hget,b3.cells.2 j p vv.cells[j] hj2 (by simp[hvl])⟩
     split at e
     .rename_i d hd
      unfold CU at hd;split at hd
      .rename_i d' _
       split at hd
       .rename_i hdc
        injection hd with hd;subst hd;injection e with e;injection e with e1 e2;subst e1;subst e2;simp only[An,VX]at hdc
        have hdn:h d'=none:=by rw[<-(hfresh d' rfl).1];exact hdc.2
        have hrow:=lx (e:=et) (sz:=jt.size) (xs:=xs) (l:=⟨w.heap.size,len,false⟩) hm (Ext.alloc (λ_=>False) w (.cells arr et)) hdn (hfresh d' rfl).2 (λ_=>IX _) (by
         refine⟨c2,Ng _,λx hx=>a4 x hx,(λh=>by cases h),λ_=>⟨by show xs.length<=len;omega,by simp only[maxLen];have:=Nat.le_mul_of_pos_right len c2;omega,arr,kf w _,?_,?_⟩⟩
         .rw[f2];simp
         .intro i x j p hx hj2
          obtain⟨u,hu,hr⟩:=hcellr i x j p hx hj2
          exact⟨u,hu,hr.mono (oZ (Ext.alloc (λ_=>False) w (.cells arr et)) (λ_=>IX _))⟩)
        rw[c1]at hrow;exact⟨_,_,_,_,hrun,.inl rfl,hrow.1,hrow.2⟩
       .cases hd
      .cases hd
     injection e with e;injection e with e1 e2;subst e1;subst e2;refine⟨.value (.slice (some ⟨w.heap.size,0,none⟩) len len),_,w.alloc (.cells arr et),L,hrun,.inl rfl,a1.trans ⟨hg.1,hg.2,KC.refl _ _⟩,.pv ?_⟩
     .rw[<-c1]
      refine .sl xs w.heap.size 0 xs.length jt.size (λi j=>(arr[i*jt.size+j]?).getD undef) (IX _) (λi x hx=>a4 x (HW hx)) ?_ ?_
      all_goals
       intro i x j p hx hj2
       have hil:i<(ps.toList.map λ(i,x)=>(i,σ x)).length:=by rw[Lf];have:=(th.1 hx).1;omega
       obtain⟨⟨i',vv⟩,hvv⟩:∃y,(ps.toList.map λ(i,x)=>(i,σ x))[i]?=some y:=⟨_,an hil⟩;obtain⟨b1,p',b2,b3⟩:=a5 i i' vv hvv;rw[hx]at b2;injection b2 with b2;subst b2
       have hjl:j<jt.size:=by rw[<-a4 x (HW hx)];exact(th.1 hj2).1
       have hget:=f4 i i' vv j hvv hjl;rw[NU]at hget
       have hvl:j<vv.cells.size:=by rw[(hsz2 i i' vv hvv).2];exact hjl
       rw[MA hvl]at hget
      .refine⟨by rw[fl (kf w _),NU,hget];rfl,λhM=>?_⟩
       have:=a1.1.mlt hM;omega
      .simp only[hget,JX]
       have:=b3.cells.2 j p vv.cells[j] hj2 (by simp[hvl]);exact this.mono hg.2
    .cases e
   .cases e
  .cases e
 |load t a=>
  simp only[fv]at e;split at e
  .rename_i ti hti
   simp only[Ii,JR]at e;obtain⟨v',e1,rfl,rfl⟩:=e;obtain⟨r,hr1,hr2⟩:=wC hm hs hti (hρ a (by simp[Op.operands])) e1;exact eI hm hr2 (by simp[execOp,hr1])
  .cases e
 |store t a x=>
  simp only[fv]at e;split at e
  .rename_i ti hti
   simp only[Ii,JR]at e;obtain⟨W',e1,rfl,rfl⟩:=e;obtain⟨w',hr1,hr2⟩:=Cp hm hs hti (hρ a (by simp[Op.operands])) (hρ x (by simp[Op.operands])) e1;exact⟨.skip,undef,w',L,by simp[execOp,hr1],.inr ⟨rfl,rfl⟩,hr2,.undef _⟩
  .cases e
 |nilCheck x=>
  have hx:=hρ x (by simp[Op.operands]);simp only[fv]at e;split at e
  .rename_i k off hk
   injection e with e;injection e with e1 e2;subst e1;subst e2;rw[hk]at hx;have hx':=hx;generalize hσ:σ x=u at hx hx'
   cases hx with
   |ptr hkk=>exact eI hm hx' (by simp[execOp,hσ])
  .rename_i y off hk
   injection e with e;injection e with e1 e2;subst e1;subst e2;rw[hk]at hx;have hx':=hx;generalize hσ:σ x=u at hx hx'
   cases hx with
   |pv hr=>cases hr with
    |rptr=>exact eI hm hx' (by simp[execOp,hσ])
  .cases e
 |fieldAddr s x f=>
  simp only[fv]at e;split at e
  .rename_i ti hti
   simp only[Ii,JR]at e;obtain⟨v',e1,rfl,rfl⟩:=e;obtain⟨r,hr1,hr2⟩:=ym hti hs (hρ x (by simp[Op.operands])) e1;exact eI hm hr2 (by simp[execOp,hr1])
  .cases e
 |indexAddr t x ix=>
  simp only[fv]at e;split at e
  .rename_i ti n hti hn
   simp only[Ii,JR]at e;obtain⟨v',e1,rfl,rfl⟩:=e;have hix:=hρ ix (by simp[Op.operands])
   have hint:∃kk,σ ix=.int kk n:=by
    generalize ρ ix=y at hn hix;unfold CS at hn;split at hn
    .rename_i kk m
     injection hn with hn;subst hn
     cases hix with
     |pv hr=>exact⟨kk,aY hr⟩
    .cases hn
   obtain⟨kk,hkk⟩:=hint;obtain⟨r,hr1,hr2⟩:=(C4 e1).elim (yn (kk:=kk) hs hti (hρ x (by simp[Op.operands])) (E7 hm)) (A4 (kk:=kk) hs hti (hρ x (by simp[Op.operands])));exact eI hm hr2 (by simp[execOp,hkk,hr1])
  .cases e
 |makeInterface t x=>
  simp only[fv]at e;split at e
  .rename_i hp
   split at e
   .rename_i p W' e1
    injection e with e;injection e with e1' e2';subst e1';subst e2';obtain⟨b1,b2,_⟩:=nN hm (dr.of_sub hs) (hρ x (by simp[Op.operands])) e1;refine⟨.value (.iface t (σ x)),_,w,L,?_,.inl rfl,b1,.pv (.ifc t p _ b2)⟩;obtain⟨d,hd,hd2⟩:=yw hp;simp only[execOp,Instr.makeInterface,Sem.run_bind,run_underlying hd,Result.andThen_ok]
    cases d<;>first|rfl|exact(hd2 _ rfl).elim
   .cases e
  .cases e
 |typeAssert x xt a' ok=>
  have hx:=hρ x (by simp[Op.operands]);simp only[fv]at e;split at e
  .rename_i t p hk
   split at e
   .rename_i hp
    simp only[Ii,JR]at e;obtain⟨v',e1,rfl,rfl⟩:=e;rw[hk]at hx;generalize hσ:σ x=u at hx
    cases hx with
    |pv hr=>cases hr with
     |ifc _ _ v hv=>
      obtain⟨d,hd,hd2⟩:=yw hp;unfold AZ at e1
      have hstep:(Instr.typeAssert (.iface t v) xt a' ok).run C.P w=(if t=a' then .ok (if ok then .tuple #[v,.bool true]else v) w else if ok then((zeroValue a').run C.P w).andThen λz w=>.ok (.tuple #[z,.bool false]) w else(runtimePanic (.typeAssertion (some xt) (some t) a' ""):Sem Value).run C.P w):=by
       unfold Instr.typeAssert;simp only[Sem.run_bind,dR hd,Result.andThen_ok]
       cases d with
       |interface m=>exact(hd2 m rfl).elim
       |_=>split<;>split<;>simp[Sem.run_bind]<;>rfl
      split at e1
      .rename_i ht
       injection e1 with e1;subst e1;refine eI hm (u:=if ok then .tuple #[v,.bool true]else v) ?_ (by simp only[execOp,hσ,Sem.run_bind,hstep,IR ht,Result.andThen_ok];rfl)
       cases ok with
       |false=>exact .pv hv
       |true=>exact .pv (.tup [p,.val (.bool true)] [v,.bool true] rfl (cO.cons hv (cO.cons (.val _) .nil)).2)
      .rename_i ht
       split at e1
       .rename_i hok
        split at e1
        .rename_i z hz
         injection e1 with e1;subst e1;obtain⟨ti,hti,hz'⟩:=Option.bind_eq_some_iff.1 hz;obtain⟨i,_,hi,_,_,hiz,_⟩:=iD hti;subst hok
         have hzv:(zeroValue a').run C.P w=.ok z w:=by
          have:i.zero=some z:=hiz▸hz';simp[zeroValue,nO hi,this]
         refine eI hm (u:=.tuple #[z,.bool false]) ?_ (by simp only[execOp,hσ,Sem.run_bind,hstep,Ik ht,J4,hzv,Result.andThen_ok];rfl);exact .pv (.tup [.val z,.val (.bool false)] [z,.bool false] rfl (cO.cons (.val _) (cO.cons (.val _) .nil)).2)
        .cases e1
       .cases e1
   .cases e
  .cases e
 |makeFunc f first caps=>
  obtain⟨first⟩:=first
  obtain⟨caps⟩:=caps;simp only[fv,IL,JR]at e;obtain⟨rfl,rfl⟩:=e
  have a1:=sO (σ:=σ) first (λx hx=>hρ x (by simp[Op.operands,hx]))
  have a2:=sO (σ:=σ) caps (λx hx=>hρ x (by simp[Op.operands,hx]));refine eI hm (u:=.func f (first.map σ).toArray (caps.map σ).toArray) ?_ (by simp[execOp,Instr.makeFunc]);exact Hy f a1 a2
 |makeSlice t l c=>
  simp only[fv]at e;split at e
  .rename_i ti hti
   obtain⟨r,w',L',hr1,hr2,hr3⟩:=(C5 e).elim (Cq hm hti hfresh (hρ l (by simp[Op.operands])) (hρ c (by simp[Op.operands]))) (CY hm hti hfresh (hρ l (by simp[Op.operands])) (hρ c (by simp[Op.operands])));exact⟨.value r,r,w',L',by simp[execOp,hr1],.inl rfl,hr2,hr3⟩
  .cases e
 |slice t x lo hi mx=>
  simp only[fv]at e;split at e
  .exact US hm (by intro _ _ h;cases h) hρ e
  .rename_i k n hk
   split at e
   .rename_i ti hti
    unfold K0 at e;split at e
    .rename_i p W1 e1
     split at e
     .rename_i v1 e2
      injection e with e;injection e with ea eb;subst ea;subst eb;have hx:=hρ x (by simp[Op.operands]);rw[hk]at hx;obtain⟨a1,a2,_⟩:=og hm (dr.of_sub hs) hx e1
      obtain⟨r,hr1,hr2⟩:=vW (ul:=lo.map σ) (uh:=hi.map σ) hti (.pv a2)
       (by intro a ha;cases lo with
         |none=>cases ha
         |some y=>simp at ha;subst ha;exact⟨_,rfl,(hρ y (by simp[Op.operands])).mono a1.2.1 a1.2.2⟩) (by intro ha;cases lo with
         |none=>rfl
         |some y=>cases ha)
       (by intro a ha;cases hi with
         |none=>cases ha
         |some y=>simp at ha;subst ha;exact⟨_,rfl,(hρ y (by simp[Op.operands])).mono a1.2.1 a1.2.2⟩) (by intro ha;cases hi with
         |none=>rfl
         |some y=>cases ha) e2
      exact⟨.value r,r,w,L,by simp[execOp,hr1],.inl rfl,a1,hr2⟩
     .cases e
    .cases e
   .cases e
  .split at e
   .rename_i ti hti
    simp only[Ii,JR]at e;obtain⟨v',e1,rfl,rfl⟩:=e
    obtain⟨r,hr1,hr2⟩:=vW (ul:=lo.map σ) (uh:=hi.map σ) hti (hρ x (by simp[Op.operands]))
     (by intro a ha;cases lo with
       |none=>cases ha
       |some y=>simp at ha;subst ha;exact⟨_,rfl,hρ y (by simp[Op.operands])⟩) (by intro ha;cases lo with
       |none=>rfl
       |some y=>cases ha)
     (by intro a ha;cases hi with
       |none=>cases ha
       |some y=>simp at ha;subst ha;exact⟨_,rfl,hρ y (by simp[Op.operands])⟩) (by intro ha;cases hi with
       |none=>rfl
       |some y=>cases ha) e1
    exact eI hm hr2 (by simp[execOp,hr1])
   .cases e
  .cases e
 |extract t i=>
  have ht:=hρ t (by simp[Op.operands]);simp only[fv]at e;split at e
  .rename_i vs hvs
   simp only[Ii,JR]at e;obtain⟨v',e1,rfl,rfl⟩:=e;rw[hvs]at ht;generalize hσ:σ t=u at ht
   cases ht with
   |tup _ us hl hh=>
    have hlt:i<us.length:=by rw[<-hl];exact(th.1 e1).1
    exact eI hm (hh i v' us[i] e1 (an hlt)) (by simp[execOp,hσ,Instr.extract,hlt])
  .rename_i vs hvs
   simp only[Ii,JR]at e;obtain⟨v',e1,rfl,rfl⟩:=e;rw[hvs]at ht;generalize hσ:σ t=u at ht
   cases ht with
   |pv hr=>cases hr with
    |tup _ us hl hh=>
     have hlt:i<us.length:=by rw[<-hl];exact(th.1 e1).1
     exact eI hm (.pv (hh i v' us[i] e1 (an hlt))) (by simp[execOp,hσ,Instr.extract,hlt])
  .exact US hm (by intro _ _ h;cases h) hρ e
  .cases e
 |call c=>
  simp only[fv]at e;split at e
  .rename_i b hb
   obtain⟨callee,args,argTypes⟩:=c;simp only at hb e;subst hb;obtain⟨args⟩:=args;obtain⟨argTypes⟩:=argTypes;simp only at e;have hex:(execOp σ ⟨dst,.call ⟨.builtin b,⟨args⟩,⟨argTypes⟩⟩,type,pos,after,guard⟩)=builtin b ⟨argTypes⟩ type ((⟨args⟩:Array Operand).map λ|.const _=>true|_=>false) ((⟨args⟩:Array Operand).map σ):=rfl;have hops:∀x∈args,RepA w (af C L h) L h (ρ x) (σ x):=λx hx=>hρ x (by simp[Op.operands,Call.operands,hx]);unfold wx at e;split at e
   .rename_i _ _ x t hargs
    .obtain⟨a,rfl,rfl⟩:=Qr hargs
     split at e
     .exact US hm (by intro _ _ h;cases h) hρ e
     .split at e
      .rename_i ti hti
       simp only[Ii,JR]at e;obtain⟨v',e1,rfl,rfl⟩:=e;obtain⟨r,hr1,hr2⟩:=EJ (ty:=type) hs hti (hops a (by simp)) (E7 hm) e1;exact eI hm hr2 (by rw[hex];simp[builtin,hr1])
      .cases e
   .rename_i _ _ s x t t' hargs
    .obtain⟨a,b,rfl,rfl,rfl⟩:=Gi hargs
     split at e
     .rename_i htt
      subst htt;split at e
      .rename_i ti hti
       obtain⟨r,w',L',hr1,hr2,hr3⟩:=A3 (ty:=type) hm hs hti hfresh (hops a (by simp)) (hops b (by simp)) e;exact⟨.value r,r,w',L',by rw[hex];simp[builtin,hr1],.inl rfl,hr2,hr3⟩
      .cases e
     .cases e
   .rename_i _ _ s x t t' hargs
    .obtain⟨a,b,rfl,rfl,rfl⟩:=Gi hargs
     split at e
     .rename_i ti hti
      obtain⟨r,w',hr1,hr2,hr3⟩:=CZ (t':=t') (ty:=type) hm hs hti (hops a (by simp)) (hops b (by simp)) e;exact⟨.value r,r,w',L,by rw[hex];simp[builtin,hr1],.inl rfl,hr2,hr3⟩
     .cases e
   .exact US hm (by intro _ _ h;cases h) hρ (lR (λv hv=>Jg rfl hv) e)
   .exact US hm (by intro _ _ h;cases h) hρ (lR (λv hv=>Jh rfl hv) e)
   .cases e
  .cases e
 |binOp op t x y t'=>
  simp only[fv]at e;split at e
  .rename_i b hb
   injection e with e;injection e with e1 e2;subst e1;subst e2;unfold CT at hb;split at hb
   .rename_i hcond
    simp only[An]at hcond;obtain⟨b',hk,hop⟩:=EL hb;have hy:=zb hcond.1 (hρ y (by simp[Op.operands]));obtain⟨a,n,c,hx,ha⟩:=A5 hm hs (hρ x (by simp[Op.operands])) hk;refine eI hm (.pv (.val (.bool b))) (mR (A6 (rY hcond.2) hx hy ?_) w);rcases hop with⟨rfl,rfl⟩|⟨rfl,rfl⟩
    .left;exact⟨rfl,by rw[ha]⟩
    .right;exact⟨rfl,by rw[ha]⟩
   .cases hb
  .exact US hm (by intro _ _ h;cases h) hρ (lR (λv hv=>Jf rfl hv) e)
 |unOp _ _ _=>simp only[fv]at e;exact US hm (by intro _ _ h;cases h) hρ (lR (λv hv=>LK rfl hv) e)
 |convert _ _ _=>simp only[fv]at e;exact US hm (by intro _ _ h;cases h) hρ (lR (λv hv=>Hx rfl hv) e)
 |field _ _ _=>simp only[fv]at e;exact US hm (by intro _ _ h;cases h) hρ (lR (λv hv=>Ji rfl hv) e)
 |index _ _ _=>simp only[fv]at e;exact US hm (by intro _ _ h;cases h) hρ (lR (λv hv=>(C7 hv).elim (LN rfl) (LO rfl)) e)
 |_=>simp[fv]at e
end
section
variable {C:Cx} {L:Nat->Loc} {h1 h:Hp} {w:World}
theorem lS:∀{W:List (Nat×Blk)}{h:Hp}{k:Nat},(∀kb∈W,kb.1≠k)->am h W k=h k
 |[],h,k,_=>rfl
 |(q,b)::W,h,k,hne=>by
  show am (ai h q (some b)) W k=h k;rw[lS (λkb hkb=>hne kb (by simp[hkb])),bU (λe=>hne (q,b) (by simp) e.symm)]
theorem MemL.callStep(hm:MemL C L h w){w':World}{h':Hp}(hx:Ext (·∈ks.map λk=>(L k).b) w w')(hlen:hout.length=ks.length)
 (ha:∀k,k∉ks->h' k=h k)
 (hb:∀(i:Nat) k ps,ks[i]?=some k->hout[i]?=some ps->∃cs own,h k=some (.box cs own false)∧h' k=some (.box (ps.map .pv) own false)∧ln w' (af C L h) (L k).b ps):aP C L h w L h' w':=by
 have hin:∀k,k∈ks->∃ps cs own,h k=some (.box cs own false)∧h' k=some (.box (ps.map .pv) own false)∧ln w' (af C L h) (L k).b ps:=by
  intro k hk;obtain⟨i,hi⟩:=Pl.1 hk
  have hlt:i<hout.length:=by rw[hlen];exact(th.1 hi).1
  obtain⟨cs,own,a,b,c⟩:=hb i k hout[i] hi (an hlt)
  grind
 have hMM:∀b o,af C L h' b o->af C L h b o:=by
  rintro b o (h0|⟨q,blk,hq,hl,hqb,hf⟩)
  .exact .inl h0
  .by_cases e:q∈ks
   .obtain⟨ps,cs,own,a,_,_⟩:=hin q e
    exact .inr ⟨q,_,a,trivial,hqb,by simp[Blk.frz]⟩
   .rw[ha q e]at hq;exact .inr ⟨q,blk,hq,hl,hqb,hf⟩
 have hMM':∀b o,af C L h b o->af C L h' b o:=by
  rintro b o (h0|⟨q,blk,hq,hl,hqb,hf⟩)
  .exact .inl h0
  .by_cases e:q∈ks
   .obtain⟨ps,cs,own,a,b',_⟩:=hin q e
    exact .inr ⟨q,_,b',trivial,hqb,by simp[Blk.frz]⟩
   .exact .inr ⟨q,blk,by rw[ha q e];exact hq,hl,hqb,hf⟩
 have hkc:KC L h L h':=by
  intro q blk hq;by_cases e:q∈ks
  .obtain⟨ps,cs,own,a,b',_⟩:=hin q e
   rw[a]at hq;injection hq with hq;subst hq;exact⟨_,b',rfl⟩
  .exact⟨blk,by rw[ha q e];exact hq,dq _ _⟩
 have hnotin:∀b o,¬af C L h b o->b∉ks.map λk=>(L k).b:=by
  intro b o hn hmem;obtain⟨q,hq,rfl⟩:=KB.1 hmem;obtain⟨ps,cs,own,a,_,_⟩:=hin q hq;exact hn (.inr ⟨q,_,a,trivial,rfl,by simp[Blk.frz]⟩)
 have hpres:Pres w (af C L h) w' (af C L h'):=by
  grind [Pres.ext]
 refine⟨⟨?_,hm.m0,?_,?_,?_⟩,hpres,hkc⟩
 .refine hm.ext.trans hx (λb hb0 hmem=>?_)
  obtain⟨q,hq,rfl⟩:=KB.1 hmem;obtain⟨ps,cs,own,a,_,_⟩:=hin q hq;have:=hm.own q _ a
  cases own with
  |false=>exact this.2.2.1
  |true=>rcases this with h9|h9
         .omega
         .exact h9.1
 .intro q blk hq
  by_cases e:q∈ks
  .obtain⟨ps,cs,own,a,b',arr,ty,e1,e2⟩:=hin q e
   rw[b']at hq;injection hq with hq;subst hq;exact⟨arr,ty,e1,(aK.map_pv (e2.mono (Pres.sub hMM)))⟩
  .rw[ha q e]at hq
   refine(hm.bl q blk hq).mono hpres hkc (λhl=>hx.block _ ((hm.bl q blk hq).lt hl) (λhmem=>?_));obtain⟨q',hq',he⟩:=KB.1 hmem;obtain⟨ps,cs,own,a,_,_⟩:=hin q' hq';exact hm.sep q q' _ _ (λe'=>e (e'▸hq')) hq a hl trivial he.symm
 .intro q q' b1 b2 hne hq hq' hl hl'
  have aux:∀q b,h' q=some b->b.live (L q)->∃b0,h q=some b0∧b0.live (L q):=by
   intro q b hq hl;by_cases e:q∈ks
   .obtain⟨ps,cs,own,a,_,_⟩:=hin q e;exact⟨_,a,trivial⟩
   grind
  obtain⟨c1,d1,f1⟩:=aux q b1 hq hl;obtain⟨c2,d2,f2⟩:=aux q' b2 hq' hl';exact hm.sep q q' c1 c2 hne d1 d2 f1 f2
 .intro q blk hq
  by_cases e:q∈ks
  .obtain⟨ps,cs,own,a,b',_⟩:=hin q e
   rw[b']at hq;injection hq with hq;subst hq;have:=hm.own q _ a;cases own<;>exact this
  .rw[ha q e]at hq;exact hm.own q blk hq
theorem BI(e:lN h1 x=some (p,W)):∀kb∈W,(h1 kb.1).isSome=true:=by
 unfold lN at e
 grind
theorem uR:∀{xs:List AV}{p:List PV}{W:List (Nat×Blk)},ni h1 xs=some (p,W)->∀kb∈W,(h1 kb.1).isSome=true
 |[],p,W,e=>by simp only[ni,IL,JR]at e;obtain⟨_,rfl⟩:=e;simp
 |x::r,p,W,e=>by
  simp only[ni]at e;split at e
  .rename_i e1 e2
   injection e with e;injection e with _ e;subst e;intro kb hkb;rcases JS.1 hkb with h'|h'
   .exact BI e1 kb h'
   .exact uR e2 kb h'
  .cases e
theorem wE(e:tG h1 x=some (p,W)):∀kb∈W,(h1 kb.1).isSome=true:=by
 unfold tG at e;split at e
 .split at e
  .rename_i hk
   split at e
   .split at e
    .rename_i e1
     split at e
     .injection e with e;injection e with _ e;subst e
      intro kb hkb
      grind [uR,List.mem_singleton]
     .cases e
    .cases e
   .split at e
    .split at e
     .rename_i e1
      split at e
      .injection e with e;injection e with _ e;subst e
       intro kb hkb
       grind [uR,List.mem_singleton]
      .cases e
     .cases e
    .cases e
  .cases e
 .exact BI e
theorem qd:∀{xs:List AV}{p:List PV}{W:List (Nat×Blk)},qG h1 xs=some (p,W)->∀kb∈W,(h1 kb.1).isSome=true
 |[],p,W,e=>by simp only[qG,IL,JR]at e;obtain⟨_,rfl⟩:=e;simp
 |x::r,p,W,e=>by
  simp only[qG]at e;split at e
  .rename_i e1 e2
   injection e with e;injection e with _ e;subst e;intro kb hkb;rcases JS.1 hkb with h'|h'
   .exact wE e1 kb h'
   .exact qd e2 kb h'
  .cases e
theorem yx(e:rU h1 x=some (p,W)):∀kb∈W,(h1 kb.1).isSome=true:=by
 unfold rU at e;split at e
 .grind
 .split at e
  .rename_i hk
   split at e
   .grind
   .split at e
    .rename_i e1
     split at e
     all_goals
      injection e with e;injection e with _ e;subst e;intro kb hkb;rcases JS.1 hkb with h'|h'
      .exact qd e1 kb h'
      .simp only[LZ]at h';subst h';simp[hk]
    .cases e
  .cases e
 .cases e
theorem uA:∀{xs:List AV}{p:List PV}{W:List (Nat×Blk)},lu h1 xs=some (p,W)->∀kb∈W,(h1 kb.1).isSome=true
 |[],p,W,e=>by simp only[lu,IL,JR]at e;obtain⟨_,rfl⟩:=e;simp
 |x::r,p,W,e=>by
  simp only[lu]at e;split at e
  .rename_i e1 e2
   injection e with e;injection e with _ e;subst e;intro kb hkb;rcases JS.1 hkb with h'|h'
   .exact yx e1 kb h'
   .exact uA e2 kb h'
  .cases e
theorem Hz(e:AT h1 x=some (p,W)):∀kb∈W,(h1 kb.1).isSome=true:=by
 unfold AT at e;split at e
 .split at e
  .rename_i e1;injection e with e;injection e with _ e;subst e;exact qd e1
  .cases e
 .split at e
  .rename_i e1 e2
   injection e with e;injection e with _ e;subst e;intro kb hkb
   grind [qd,uA]
  .cases e
 .exact wE e
theorem uS:∀{xs:List AV}{p:List PV}{W:List (Nat×Blk)},pO h1 xs=some (p,W)->∀kb∈W,(h1 kb.1).isSome=true
 |[],p,W,e=>by simp only[pO,IL,JR]at e;obtain⟨_,rfl⟩:=e;simp
 |x::r,p,W,e=>by
  simp only[pO]at e;split at e
  .rename_i e1 e2
   injection e with e;injection e with _ e;subst e;intro kb hkb;rcases JS.1 hkb with h'|h'
   .exact Hz e1 kb h'
   .exact uS e2 kb h'
  .cases e
theorem Jj(e:frz h1 x=some (p,W)):∀kb∈W,(h1 kb.1).isSome=true:=by
 unfold frz at e;split at e
 .split at e
  .rename_i e1;injection e with e;injection e with _ e;subst e;exact uS e1
  .cases e
 .split at e
  .rename_i e1 e2
   injection e with e;injection e with _ e;subst e;intro kb hkb
   grind [qd,uA]
  .cases e
 .split at e
  .rename_i e1;injection e with e;injection e with _ e;subst e;exact uS e1
  .cases e
 .exact wE e
theorem ol:∀{xs:List AV}{ks0:List Nat}{h:Hp}(_:MemL C L h w)(_:dr h1 h){us:List Value}(_:aK w (af C L h) L h xs us){as:List Arg}{ks:List Nat}{W:List (Nat×Blk)},
 jU h1 xs ks0=some (as,ks,W)->aP C L h w L (am h W) w∧dr h1 (am h W)∧(∃ks1,ks=ks0++ks1)∧(ks0.Nodup->ks.Nodup)∧as.length=us.length∧
  (∀kb∈W,(h1 kb.1).isSome=true)∧∀(i:Nat) a v,as[i]?=some a->us[i]?=some v->Ht w (af C L (am h W)) (ks.map λk=>(L k).b) a v
 |[],ks0,h,hm,hf,us,hr,as,ks,W,e=>by
  simp only[jU,IL,JR]at e;obtain⟨rfl,rfl,rfl⟩:=e;rw[hr.nil_inv];exact⟨aP.refl hm,hf,⟨[],by simp⟩,id,rfl,by simp,λi a v h=>by simp at h⟩
 |x::r,ks0,h,hm,hf,us,hr,as,ks,W,e=>by
  obtain⟨u,us',rfl,hu,hr'⟩:=hr.cons_inv;unfold jU at e;split at e
  .rename_i k off
   split at e
   .rename_i hc
    obtain⟨rfl,hck,_⟩:=hc;split at e
    .rename_i as' ks' W' e1
     injection e with e;injection e with ea eb;injection eb with eb ec;subst ea;subst eb;subst ec;obtain⟨a1,a2,⟨ks1,a3⟩,a4,a5,a6,a7⟩:=ol hm hf hr' e1;refine⟨a1,a2,⟨k::ks1,by rw[a3];simp⟩,λhnd=>a4 ?_,by simp[a5],a6,λi a v ha hv=>?_⟩
     .rw[Td]
      refine⟨hnd,by simp,?_⟩;intro q hq q' hq' heq;simp at hq';subst hq';subst heq;have hq2:ks0.contains q=true:=List.contains_iff_mem.2 hq;rw[hck]at hq2;cases hq2
     .cases i with
      |zero=>
       simp at ha hv;subst ha;subst hv;refine⟨(L k).b,by rw[a3];simp,?_⟩
       cases hu with
       |ptr _=>rfl
      |succ i=>exact a7 i a v (by simpa using ha) (by simpa using hv)
    .cases e
   .split at e
    .split at e
     .rename_i p W1 as' ks' W2 e1 e2
      injection e with e;injection e with ea eb;injection eb with eb ec;subst ea;subst eb;subst ec;obtain⟨b1,b2,b3⟩:=wA hm hf hu e1;obtain⟨a1,a2,a3,a4,a5,a6,a7⟩:=ol b1.1 b3 (hr'.mono b1.2.1 b1.2.2) e2;rw[dn];refine⟨b1.trans a1,a2,a3,a4,by simp[a5],?_,λi a v ha hv=>?_⟩
      .intro kb hkb
       rcases JS.1 hkb with h'|h'
       .exact yx e1 kb h'
       .exact a6 kb h'
      .cases i with
       |zero=>simp at ha hv;subst ha;subst hv;exact b2.mono a1.2.1
       |succ i=>exact a7 i a v (by simpa using ha) (by simpa using hv)
     .cases e
    .cases e
  .rename_i x' hnp
   split at e
   .rename_i p W1 as' ks' W2 e1 e2
    injection e with e;injection e with ea eb;injection eb with eb ec;subst ea;subst eb;subst ec;obtain⟨b1,b2,b3⟩:=nN hm hf hu e1;obtain⟨a1,a2,a3,a4,a5,a6,a7⟩:=ol b1.1 b3 (hr'.mono b1.2.1 b1.2.2) e2;rw[dn];refine⟨b1.trans a1,a2,a3,a4,by simp[a5],?_,λi a v ha hv=>?_⟩
    .intro kb hkb
     rcases JS.1 hkb with h'|h'
     .exact Jj e1 kb h'
     .exact a6 kb h'
    .cases i with
     |zero=>simp at ha hv;subst ha;subst hv;exact b2.mono a1.2.1
     |succ i=>exact a7 i a v (by simpa using ha) (by simpa using hv)
   .cases e
theorem BJ:∀{ks:List Nat}{hin:List (List PV)},mI h1 ks=some hin->hin.length=ks.length∧∀(i:Nat) k ps,ks[i]?=some k->hin[i]?=some ps->∃own,h1 k=some (.box (ps.map .pv) own false)
 |[],hin,e=>by simp only[mI,IL]at e;subst e;exact⟨rfl,λi k ps h=>by simp at h⟩
 |k::ks,hin,e=>by
  simp only[mI]at e;split at e
  .rename_i cs own hs hk e1
   split at e
   .rename_i ps hp
    injection e with e;subst e;obtain⟨a,b⟩:=BJ e1;refine⟨by simp[a],λi q qs hq hqs=>?_⟩
    cases i with
    |zero=>simp at hq hqs;subst hq;subst hqs;exact⟨own,by rw[<-qb hp];exact hk⟩
    |succ i=>exact b i q qs (by simpa using hq) (by simpa using hqs)
   .cases e
  .cases e
theorem Ah:∀{ks:List Nat}{hout:List (List PV)}{h:Hp},ks.Nodup->hout.length=ks.length->(∀k∈ks,∃cs own fz,h1 k=some (.box cs own fz))->
 (∀k,k∉ks->am h (kv h1 ks hout) k=h k)∧(∀kb∈kv h1 ks hout,kb.1∈ks)∧
 (∀(i:Nat) k ps,ks[i]?=some k->hout[i]?=some ps->∀cs own fz,h1 k=some (.box cs own fz)->am h (kv h1 ks hout) k=some (.box (ps.map .pv) own false))
 |[],hout,h,_,_,_=>by
  refine⟨λk _=>?_,?_,λi k ps h=>by simp at h⟩
  .cases hout<;>rfl
  .cases hout<;>simp[kv]
 |k::ks,hout,h,hnd,hl,hk=>by
  cases hout with
  |nil=>simp at hl
  |cons ps hs=>
   obtain⟨cs,own,fz,hkk⟩:=hk k (by simp);have hnk:k∉ks:=(VO.1 hnd).1;have ih:=λ(h:Hp)=>Ah (hout:=hs) (h:=h) (VO.1 hnd).2 (by simpa using hl) (λq hq=>hk q (by simp[hq]))
   have hun:kv h1 (k::ks) (ps::hs)=(k,.box (ps.map .pv) own false)::kv h1 ks hs:=by simp[kv,hkk]
   rw[hun];have hw:∀q,am h ((k,.box (ps.map .pv) own false)::kv h1 ks hs) q=am (ai h k (some (.box (ps.map .pv) own false))) (kv h1 ks hs) q:=λq=>rfl;refine⟨λq hq=>?_,?_,λi q qs hq hqs cs' own' fz' hq'=>?_⟩
   .simp at hq
    rw[hw,(ih _).1 q hq.2,bU hq.1]
   .intro kb hkb
    rcases KM.1 hkb with rfl|h'
    .simp
    .have:=(ih h).2.1 kb h';simp[this]
   .rw[hw]
    cases i with
    |zero=>
     simp at hq hqs;subst hq;subst hqs;rw[(ih _).1 k hnk,aN];rw[hkk]at hq';injection hq' with hq';injection hq' with _ h2 _;rw[h2]
    |succ i=>exact(ih _).2.2 i q qs (by simpa using hq) (by simpa using hqs) cs' own' fz' hq'
end
section
variable {C:Cx} {L:Nat->Loc} {h1 h:Hp} {w:World}
theorem jv{c:AV}(hc:RepA w M L h c u)(e:cZ c=some (g,first,caps)):
 ∃vs us:List Value,u=.func (.func g) vs.toArray us.toArray∧aK w M L h first vs∧aK w M L h caps us:=by
 unfold cZ at e;split at e
 .rename_i f fs cs
  simp only[IL,JR]at e;obtain⟨rfl,rfl,rfl⟩:=e
  cases hc with
  |pv hr=>
   rw[aY hr];refine⟨fs.toList,cs.toList,by simp,?_,?_⟩
   all_goals
    refine⟨by simp,λq p u hp hu=>?_⟩;simp only[Is,Ii]at hp;obtain⟨y,hy,rfl⟩:=hp;rw[hy]at hu;injection hu with hu;subst hu;exact .pv (.val _)
 .simp only[IL,JR]at e
  obtain⟨rfl,rfl,rfl⟩:=e
  cases hc with
  |pv hr=>cases hr with
   |fn _ _ _ vs us hl hk h1 h2=>exact⟨vs,us,rfl,aK.map_pv ⟨hl,h1⟩,aK.map_pv ⟨hk,h2⟩⟩
 .simp only[IL,JR]at e
  obtain⟨rfl,rfl,rfl⟩:=e
  cases hc with
  |fn _ _ _ vs us hl hk h1 h2=>exact⟨vs,us,rfl,⟨hl,h1⟩,⟨hk,h2⟩⟩
 .cases e
theorem C8{w:World}(hp:lO p=true)(h:Rep w M p v):Rep w M' p v:=by
 cases h with
 |val v=>exact .val v
 |agg cs vs hl hh=>
  refine .agg cs vs hl (λi q u hq hu=>?_);have:=Ij.1 hp q (HW hq);have hr:=hh i q u hq hu
  cases q with
  |val v'=>rw[aY hr];exact .val _
  |_=>cases this
 |_=>cases hp
theorem t8{w:World}{x:PV}(hp:lO x=true)(hj:x.cells[j]?=some p)(h:Rep w M p v):Rep w M' p v:=by
 cases x with
 |val u=>
  simp only[PV.cells,Is,Ii]at hj;obtain⟨y,_,rfl⟩:=hj;rw[aY h];exact .val _
 |agg cs=>
  have:=Ij.1 hp p (HW hj)
  cases p with
  |val v'=>rw[aY h];exact .val _
  |_=>cases this
 |_=>cases hp
theorem EO{w:World}{l:Loc}{e sz:Nat}{xs:List PV}(hx:xs.all lO=true)(h:dW w M (λ_=>default) (λ_=>none) l (.row e sz xs 0)):dW w M' (λ_=>default) (λ_=>none) l (.row e sz xs 0):=by
 obtain⟨c1,c2,c3,c4,c5⟩:=h;refine⟨c1,c2,c3,c4,λhn=>?_⟩;obtain⟨d1,d2,arr,d3,d4,d5⟩:=c5 hn;refine⟨d1,d2,arr,d3,d4,λi x j p hxi hj=>?_⟩;obtain⟨v,hv,hr⟩:=d5 i x j p hxi hj;exact⟨v,hv,t8 (Ij.1 hx x (HW hxi)) hj hr⟩
theorem pU{w:World}(hp:rF p=true)(h:Rep w M p v):Rep w M' p v:=by
 cases h with
 |val v=>exact .val v
 |hd n a c=>exact .hd n a c
 |tup cs vs hl hh=>
  refine .tup cs vs hl (λi q u hq hu=>?_);have:=Ij.1 hp q (HW hq);have hr:=hh i q u hq hu
  cases q with
  |val v'=>rw[aY hr];exact .val _
  |hd n=>cases hr with
   |hd _ a c=>exact .hd n a c
  |_=>cases this
 |agg cs vs hl hh=>
  refine .agg cs vs hl (λi q u hq hu=>?_);have:=Ij.1 hp q (HW hq);have hr:=hh i q u hq hu
  cases q with
  |val v'=>rw[aY hr];exact .val _
  |hd n=>cases hr with
   |hd _ a c=>exact .hd n a c
  |_=>cases this
 |_=>cases hp
theorem wF(hm:MemL C L h w)(hs:∀k b,h1 k=some b->h k=some b){d:Option Nat}(hfresh:∀q,d=some q->h1 q=h q∧q<2000000){c:AV}(hc:RepA w (af C L h) L h c u)(ha:aK w (af C L h) L h args us)
 {K:dl->Prop}(e:im C.P c args d h1 K):∃g vs cs,u=.func (.func g) vs cs∧dw C.P g=true∧∃eff:dl,K eff∧
  Calls C.P g (vs.toList++us++cs.toList).toArray w λe w'=>∃r L',e=.returned r∧aP C L h w L' (am h eff.2) w'∧RepA w' (af C L' (am h eff.2)) L' (am h eff.2) eff.1 r:=by
 unfold im at e;split at e
 .exact e.elim
 .rename_i g first caps hce
  obtain⟨vs,cs,rfl,hf,hcp⟩:=jv hc hce;split at e
  .exact e.elim
  .rename_i as ks W0 hta
   split at e
   .exact e.elim
   .rename_i hdis
    split at e
    .exact e.elim
    .rename_i hin hhi
     obtain⟨hout,res,hdet,he⟩:=e;have hall:aK w (af C L h) L h (first++args++caps) (vs++us++cs):=(hf.append ha).append hcp;obtain⟨a1,a2,⟨ks1,a3⟩,a4,a5,a6,a7⟩:=ol hm (dr.of_sub hs) hall hta;have hnd:ks.Nodup:=a4 (by simp);obtain⟨b1,b2⟩:=BJ hhi
     have hkbox:∀k∈ks,∃(ps:List PV)(own:Bool),h1 k=some (.box (ps.map .pv) own false)∧am h W0 k=some (.box (ps.map .pv) own false):=by
      intro k hk;obtain⟨i,hi⟩:=Pl.1 hk
      have hlt:i<hin.length:=by rw[b1];exact(th.1 hi).1
      obtain⟨own,hown⟩:=b2 i k hin[i] hi (an hlt);refine⟨_,own,hown,?_⟩;rw[lS,hs _ _ hown];intro kb hkb he;apply hdis;rw[T4];exact⟨kb,hkb,List.contains_iff_mem.2 (he▸hk)⟩
     obtain⟨hcall,hlen,hD⟩:=hdet
     have hnb:(ks.map λk=>(L k).b).Nodup:=by
      rw[List.nodup_iff_pairwise_ne]at hnd|-;rw[List.pairwise_map];refine List.Pairwise.imp_of_mem ?_ hnd;intro x y hx hy hxy;obtain⟨_,_,_,hx'⟩:=hkbox x hx;obtain⟨_,_,_,hy'⟩:=hkbox y hy;exact a1.1.sep x y _ _ hxy hx' hy' trivial trivial
     have hcalls:=hD w (af C L (am h W0)) (ks.map λk=>(L k).b) (vs++us++cs) (λb o hM=>a1.1.mlt hM) (by simp[b1]) hnb
      (λi b ps hb hps=>by
        simp only[Is,Ii]at hb;obtain⟨k,hk,rfl⟩:=hb;obtain⟨own,hown⟩:=b2 i k ps hk hps
        have hw:am h W0 k=some (.box (ps.map .pv) own false):=by
         obtain⟨ps',own',h9,h10⟩:=hkbox k (HW hk);rw[hown]at h9;injection h9 with h9;injection h9 with h11 h12;rw[h10,h11,h12]
        refine⟨λo=>.inr ⟨k,_,hw,trivial,rfl,by simp[Blk.frz]⟩,?_⟩;obtain⟨arr,ty,e1,e2⟩:=a1.1.bl k _ hw
        exact⟨arr,ty,e1,e2.map_pv_inv⟩) a5 a7
     refine⟨g,vs.toArray,cs.toArray,rfl,hcall,?_⟩;have hspec:=Ah (h1:=h1) (h:=am h W0) hnd (by rw[hlen,b1]) (λk hk=>by obtain⟨ps,own,h9,_⟩:=hkbox k hk;exact⟨_,own,false,h9⟩)
     have hafter:∀w',Ext (·∈ks.map λk=>(L k).b) w w'->(∀(i:Nat) b ps,(ks.map λk=>(L k).b)[i]?=some b->hout[i]?=some ps->ln w' (af C L (am h W0)) b ps)->
      aP C L h w L (am h (W0++kv h1 ks hout)) w':=by
      intro w' hx hbox;rw[dn];refine a1.trans (a1.1.callStep hx (by rw[hlen,b1]) hspec.1 (λi k ps hk hps=>?_));obtain⟨ps',own,h9,h10⟩:=hkbox k (HW hk);exact⟨_,own,h10,hspec.2.2 i k ps hk hps _ own false h9,hbox i _ ps (by simp[hk]) hps⟩
     unfold ju mg at he;split at he
     .rename_i e0 heq
      refine⟨e0,he,?_⟩
      have happ:(vs.toArray.toList++us++cs.toArray.toList).toArray=(vs++us++cs).toArray:=by simp
      rw[happ];refine hcalls.mono ?_;rintro e1 w' ⟨v,rfl,hx,hbox,hres⟩;have hA:=hafter w' hx hbox
      have hkeys:∀q,h q=none->am h W0 q=none:=by
       intro q hq;rw[lS,hq];intro kb hkb he;have:=a6 kb hkb;rw[he]at this;obtain⟨b,hb⟩:=Le.1 this;rw[hs _ _ hb]at hq;cases hq
      have hMsub:∀b o,af C L (am h (W0++kv h1 ks hout)) b o->af C L (am h W0) b o:=by
       rw[dn];rintro b o (h0|⟨q,blk,hq,hl,hqb,hf⟩)
       .exact .inl h0
       .by_cases hqk:q∈ks
        .obtain⟨ps,own,h9,h10⟩:=hkbox q hqk
         exact .inr ⟨q,_,h10,trivial,hqb,by simp[Blk.frz]⟩
        .rw[hspec.1 q hqk]at hq;exact .inr ⟨q,blk,hq,hl,hqb,hf⟩
      split at heq
      .rename_i p _
       injection heq with heq;subst heq;unfold Gb;split
       .rename_i hml
        simp only[An]at hml;have hk0:ks=[]:=List.isEmpty_iff.1 hml.1;subst hk0;have hxF:Ext (λ_=>False) w w':=⟨hx.os,hx.tape,hx.output,hx.size,λb' hb' _=>hx.block b' hb' (by simp)⟩;obtain⟨g1,g2⟩:=hm.grow hxF
        have e0:([]++kv h1 [] hout:List (Nat×Blk))=[]:=by cases hout<;>rfl
        show∃r L',_∧aP C L h w L' (am h ([]++kv h1 [] hout)) w'∧_;rw[e0];exact⟨v,L,rfl,⟨g1,g2,KC.refl _ _⟩,.pv (pU hml.2 hres)⟩
       .exact⟨v,L,rfl,hA,.pv (Rep.mono (Pres.sub hMsub) hres)⟩
      .rename_i p _
       split at heq
       .rename_i hk0
        injection heq with heq;subst heq;subst hk0;have hxF:Ext (λ_=>False) w w':=⟨hx.os,hx.tape,hx.output,hx.size,λb' hb' _=>hx.block b' hb' (by simp)⟩;obtain⟨g1,g2⟩:=hm.grow hxF;exact⟨v,L,rfl,⟨g1,g2,KC.refl _ _⟩,.pv (Rep.mono (Pres.sub (λb o h9=>hm.mlt h9)) hres)⟩
       .cases heq
      .rename_i ps q
       split at heq
       .rename_i hq
        obtain⟨hq,rfl⟩:=hq;injection heq with heq;subst heq;obtain⟨b,hb1,rfl,hb3⟩:=hres;have hqn':=hkeys q (by rw[<-(hfresh q rfl).1];simpa using hq);simp only;rw[dn,jc];obtain⟨arr,ty,e1,e2⟩:=hb3;have hxF:Ext (λ_=>False) w w':=⟨hx.os,hx.tape,hx.output,hx.size,λb' hb' _=>hx.block b' hb' (by simp)⟩
        have hnk:=a1.1.newKey hqn' (hfresh q rfl).2 (l:=⟨b,0,false⟩) (blk:=.box (ps.map .pv) true false) hxF (λ_=>hb1) (by intro cs' fz' e;injection e with _ e2;cases e2)
         ⟨arr,ty,e1,aK.map_pv (e2.mono (Pres.sub (λb' o' hh=>hh.elim .inl (λh9=>.inr h9.2))))⟩
        refine⟨_,ai L q ⟨b,0,false⟩,rfl,a1.trans hnk,?_⟩;have:=RepA.ptr (w:=w') (M:=af C (ai L q ⟨b,0,false⟩) (ai (am h W0) q (some (.box (ps.map .pv) true false)))) (L:=ai L q ⟨b,0,false⟩) (h:=ai (am h W0) q (some (.box (ps.map .pv) true false))) (k:=q) (off:=0) (aN _ _ _);rw[aN]at this;exact this
       .cases heq
      .rename_i e9 sz xs q
       split at heq
       .rename_i hq
        obtain⟨hq,rfl⟩:=hq;injection heq with heq;subst heq;obtain⟨l,rfl,hb1,hb3⟩:=hres;have hqn':=hkeys q (by rw[<-(hfresh q rfl).1];simpa using hq);simp only;rw[dn,jc];have hxF:Ext (λ_=>False) w w':=⟨hx.os,hx.tape,hx.output,hx.size,λb' hb' _=>hx.block b' hb' (by simp)⟩;have hnk:=lx (e:=e9) (sz:=sz) (xs:=xs) a1.1 hxF hqn' (hfresh q rfl).2 hb1 hb3;exact⟨_,_,rfl,a1.trans hnk.1,hnk.2⟩
       .cases heq
      .rename_i e9 sz xs q
       split at heq
       .rename_i hq
        obtain⟨hq,rfl⟩:=hq;injection heq with heq;subst heq;obtain⟨hml,l,rfl,hb1,hb3⟩:=hres
        have hqn0:h q=none:=by rw[<-(hfresh q rfl).1];simpa using hq
        have hxF:Ext (λ_=>False) w w':=⟨hx.os,hx.tape,hx.output,hx.size,λb' hb' _=>hx.block b' hb' (by simp)⟩;have hnk:=lx (e:=e9) (sz:=sz) (xs:=xs) hm hxF hqn0 (hfresh q rfl).2 hb1 (EO hml hb3);simp only;rw[jc];exact⟨_,_,rfl,hnk.1,hnk.2⟩
       .cases heq
      .rename_i pre e9 sz xs q
       split at heq
       .rename_i hq
        obtain⟨hq,rfl⟩:=hq;injection heq with heq;subst heq;obtain⟨l,us',rfl,hb1,hpre,hb3⟩:=hres;have hqn':=hkeys q (by rw[<-(hfresh q rfl).1];simpa using hq);simp only;rw[dn,jc];have hxF:Ext (λ_=>False) w w':=⟨hx.os,hx.tape,hx.output,hx.size,λb' hb' _=>hx.block b' hb' (by simp)⟩;have hnk:=lx (e:=e9) (sz:=sz) (xs:=xs) a1.1 hxF hqn' (hfresh q rfl).2 hb1 hb3;refine⟨_,_,rfl,a1.trans hnk.1,?_⟩
        have hsub:∀b o,af C (ai L q l) (ai (am h W0) q (some (.row e9 sz xs 0))) b o->af C L (am h W0) b o∨(l.isNil=false∧b=l.b):=by
         rintro b o (h0|⟨k,blk,hk,hlv,hkb,hfz⟩)
         .exact .inl (.inl h0)
         .by_cases hkq:k=q
          .subst hkq
           rw[aN]at hk hkb hlv;injection hk with hk;subst hk;exact .inr ⟨hlv,hkb.symm⟩
          .rw[bU hkq]at hk hkb hlv
           exact .inl (.inr ⟨k,blk,hk,hlv,hkb,hfz⟩)
        refine .agg _ _ (by simp[hpre.1]) ?_;intro i p u hp hu;by_cases hi:i<pre.length
        .rw[Iz (by simpa using hi),Is,an hi]at hp
         rw[Iz (by rw[<-hpre.1];exact hi)]at hu;simp only[MG,IL]at hp;subst hp;exact .pv ((hpre.2 i _ u (an hi) hu).mono (Pres.sub hsub))
        .rw[IN (by simpa using hi)]at hp
         rw[IN (by rw[<-hpre.1];omega)]at hu;simp only[Lf]at hp
         have hi0:i-pre.length=0:=by
          have:=(th.1 hp).1;simp at this;omega
         rw[<-hpre.1,hi0]at hu;rw[hi0]at hp;simp only[OO,IL]at hp hu;subst hp;subst hu;exact hnk.2
       .cases heq
      .cases heq
     .exact he.elim
end
theorem EP(e:z7 P t name=some f)(n:Nat):(method (n+1) t v name).run P w=.ok (f,v) w:=by
 unfold z7 at e;split at e
 .rename_i i hi
  split at e
  .rename_i m hmm
   split at e
   .rename_i hp
    have hp':m.path.toList=[]:=by
     grind
    rw[method];simp only[Sem.run_bind,nO hi,Result.andThen_ok,hmm,hp',follow]
    cases hmf:m.func with
    |none=>rw[hmf]at e;simp at e
    |some q=>
     obtain⟨f',b⟩:=q;rw[hmf]at e
     cases b with
     |true=>simp at e
     |false=>
      cases hd:P.underlying t with
      |none=>rw[hd]at e;simp at e
      |some d=>
       rw[hd]at e;simp only[Sem.run_pure,Result.andThen_ok,Sem.run_bind,receiverAt,dR hd]
       cases d<;>first|(simp at e;done)|(simp at e;subst e;rfl)
   .cases e
  .cases e
 .cases e
theorem Gl(e:z7 P t name=some f):(method (P.types.size+Made.depth) t v name).run P w=.ok (f,v) w:=
 EP e (P.types.size+99)
theorem HA{d:Option Nat}(e:im P (qH P name x) args d h K):∃t p f,x=.pv (.ifc t p)∧z7 P t name=some f∧qH P name x=.fn (.func f) [.pv p] []:=by
 unfold qH at e|-;split at e
 .rename_i t p
  split at e
  .grind
  .simp[im,cZ]at e
 .simp[im,cZ]at e
section
variable {C:Cx} {L:Nat->Loc} {h1 h:Hp} {w:World}
theorem C9(hm:MemL C L h w)(hs:∀k b,h1 k=some b->h k=some b)(hfresh:∀d,o.dst=some d->h1 d=h d∧d<2000000)
 (hρ:∀x∈o.op.operands,RepA w (af C L h) L h (ρ x) (a.eval x)){hn:List Nat}{K:dl->Prop}(e:t7 C.P hn o ρ h1 K){next:Act->World->Prop}{Q:Exit->Act->World->Prop}
 (hnext:∀eff u w' L',K eff->aP C L h w L' (am h eff.2) w'->RepA w' (af C L' (am h eff.2)) L' (am h eff.2) eff.1 u->next (a.put o.dst u) w'):o.wp C.P a w next Q:=by
 have hplain:ju (fv C.P hn o ρ h1) K->o.wp C.P a w next Q:=by
  intro e;unfold ju at e;split at e
  .rename_i eff heff
   obtain⟨v,W⟩:=eff;obtain⟨n,u,w',L',hr,hn',ha,hv⟩:=Gk hm hs hfresh hρ heff;unfold Oper.wp;rw[hr];rcases hn' with rfl|⟨rfl,rfl⟩
   .exact hnext (v,W) u w' L' e ha hv
   .exact hnext (v,W) undef w' L' e ha hv
  .exact e.elim
 unfold t7 at e;split at e
 .rename_i c hop
  split at e
  .rename_i f hcal
   obtain⟨callee,args,argTypes⟩:=c;simp only at hcal e;subst hcal;have hf:RepA w (af C L h) L h (ρ f) (a.eval f):=hρ f (by rw[hop];simp[Op.operands,Call.operands]);have hargs:aK w (af C L h) L h (args.toList.map ρ) (args.toList.map a.eval):=sO _ (λx hx=>hρ x (by rw[hop];simp at hx;simp[Op.operands,Call.operands,hx]));obtain⟨g,vs,cs,hu,hcall,eff,hK,hc⟩:=wF hm hs hfresh hf hargs e;unfold Oper.wp
   have hrun:(execOp a.eval o).run C.P w=.ok (.enter g (vs.toList++args.toList.map a.eval++cs.toList).toArray) w:=by
    unfold dw at hcall
    cases hfn:C.P.funcs[g]? with
    |none=>rw[hfn]at hcall;cases hcall
    |some fn=>
     rw[hfn]at hcall;simp only[An,Mp,Om,ne_eq]at hcall
     have hb:fn.body.isNone=false:=by cases hbb:fn.body<;>simp_all
     have harr:(vs++args.map a.eval)++cs=(vs.toList++args.toList.map a.eval++cs.toList).toArray:=by
      grind
     unfold execOp;rw[hop];simp only[resolve,hu,Deferred.ofValue,pure_bind,Sem.run_bind,Result.andThen_ok,invoke,callFunc,program,Sem.run,hfn];simp[hcall.2,hb,harr]
   rw[hrun];simp only[Oper.upon];refine hc.mono ?_
   grind
  .rename_i r name hcal
   obtain⟨callee,args,argTypes⟩:=c;simp only at hcal e;subst hcal;have hr:RepA w (af C L h) L h (ρ r) (a.eval r):=hρ r (by rw[hop];simp[Op.operands,Call.operands]);have hargs:aK w (af C L h) L h (args.toList.map ρ) (args.toList.map a.eval):=sO _ (λx hx=>hρ x (by rw[hop];simp at hx;simp[Op.operands,Call.operands,hx]));obtain⟨t,p,f,hx,hm',hi⟩:=HA e;rw[hx]at hr;generalize hu:a.eval r=u at hr
   cases hr with
   |pv hr=>cases hr with
    |ifc _ _ v hv=>
     have hf:RepA w (af C L h) L h (qH C.P name (ρ r)) (.func (.func f) #[v] #[]):=by
      rw[hi];exact .fn (.func f) [.pv p] [] [v] [] rfl rfl (aK.cons (.pv hv) .nil).2 aK.nil.2
     obtain⟨g,vs,cs,hu',hcall,eff,hK,hc⟩:=wF hm hs hfresh hf hargs e;injection hu' with e1 e2 e3;injection e1 with e1;subst e1;subst e2;subst e3;unfold Oper.wp
     have hrun:(execOp a.eval o).run C.P w=.ok (.enter f (#[v].toList++args.toList.map a.eval++#[].toList).toArray) w:=by
      unfold dw at hcall
      cases hfn:C.P.funcs[f]? with
      |none=>rw[hfn]at hcall;cases hcall
      |some fn=>
       rw[hfn]at hcall;simp only[An,Mp,Om,ne_eq]at hcall
       have hb:fn.body.isNone=false:=by cases hbb:fn.body<;>simp_all
       have harr:#[v]++args.map a.eval=(#[v].toList++args.toList.map a.eval++#[].toList).toArray:=by
        apply Array.ext';simp
       have hex:(#[Value.iface t v]++args.map a.eval).extract 1 (#[Value.iface t v]++args.map a.eval).size=args.map a.eval:=by
        apply Array.ext';simp;exact KL (by simp)
       have h0:(#[Value.iface t v]++args.map a.eval)[0]?=some (.iface t v):=by rw[Mj (by simp)];rfl
       unfold execOp;rw[hop];simp only[resolve,hu,pure_bind,Sem.run_bind,Result.andThen_ok,invoke,h0,callMethod,hex];rw[show Sem.run C.P program w=.ok C.P w from rfl,Result.andThen_ok,Gl hm',Result.andThen_ok];simp only[callFunc,program,Sem.run_bind,Sem.run,hfn,Result.andThen_ok];rw[harr];simp[hcall.2,hb]
     rw[hrun];simp only[Oper.upon];refine hc.mono ?_;rintro e1 w' ⟨r,L',rfl,hA,hr⟩;exact hnext eff r w' L' hK hA hr
  grind
 grind
end
def kz(P:Program)(ds:List Deferred):Prop:=∀d∈ds,∃g cap,d.target=.fn (.func g) cap∧fJ P g
theorem kz.nil(P:Program):kz P []:=λd h=>by simp at h
def gP(C:Cx)(st:St)(a:Act)(w:World):Prop:=
 ∃L,MemL C L st.h w∧a.tmps.size=C.N∧kz C.P a.defers∧∀n,RepA w (af C L st.h) L st.h (st.t n) (a.tmps.getD n undef)
theorem dx(ht:∀n,RepA w (af C L st.h) L st.h (st.t n) (a.tmps.getD n undef))(x:Operand):RepA w (af C L st.h) L st.h (st.ev x) (a.eval x):=by
 cases x with
 |tmp n=>exact ht n
 |const v=>exact .pv (.val v)
 |global g=>exact .undef _
 |func f=>exact .pv (.val _)
theorem UX(hd:d<a.tmps.size)(n:Nat):(a.put (some d) u).tmps.getD n undef=if n=d then u else a.tmps.getD n undef:=by
 simp only[Act.put,IV]
 grind
theorem gP.put(_:MemL C L st.h w)(hN:a.tmps.size=C.N)(hdf:kz C.P a.defers)(ht:∀n,RepA w (af C L st.h) L st.h (st.t n) (a.tmps.getD n undef))
 {d:Option Nat}(hd:dD C.N d=true){v:AV}{W:List (Nat×Blk)}{u:Value}{w':World}{L':Nat->Loc}(hA:aP C L st.h w L' (am st.h W) w')(hv:RepA w' (af C L' (am st.h W)) L' (am st.h W) v u):
 gP C (st.put d v W) (a.put d u) w':=by
 refine⟨L',hA.1,?_,?_,λn=>?_⟩
 .cases d<;>simp[Act.put,hN]
 .cases d<;>exact hdf
 .have hold:=(ht n).mono hA.2.1 hA.2.2
  cases d with
  |none=>exact hold
  |some d=>
   have hd':d<a.tmps.size:=by rw[hN];simp only[dD,An,HX]at hd;exact hd.1
   rw[UX hd'];simp only[St.put,ai]
   grind
theorem eX{t:Nat->AV}(ht:∀n,RepA w (af C L h) L h (t n) (a.tmps.getD n undef)){g:Bool}(e:gb ops t o.guard=some g):
 Region.wanted o (yielded ops a.tmps)=g:=by
 unfold gb at e;unfold Region.wanted;split at e
 .grind
 .rename_i j want hg
  rw[hg];simp only;split at e
  .rename_i d hd
   split at e
   .rename_i b hb
    injection e with e;subst e;have:=ht d;rw[hb]at this
    have hv:a.tmps.getD d undef=.bool b:=by cases this with|pv hr=>exact aY hr
    have hsome:a.tmps[d]?=some (.bool b):=by
     rw[IV]at hv
     cases hq:a.tmps[d]? with
     |none=>rw[hq]at hv;simp[undef]at hv
     |some q=>rw[hq]at hv;simp at hv;rw[hv]
    unfold yielded
    grind
   .rename_i q hb
    injection e with e;subst e;have:=ht d;rw[hb]at this
    have hv:a.tmps.getD d undef=.tuple q:=by cases this with|pv hr=>exact aY hr
    rw[IV]at hv;unfold yielded
    grind
   .cases e
  .cases e
theorem Oper.wp_defer{c:Call}(ho:o.op=.defer c){f:Operand}(hf:c.callee=.value f)(h0:c.args.size=0){vs:Array Value}(hv:a.eval f=.func (.func g) vs cs)
 {next:Act->World->Prop}{Q:Exit->Act->World->Prop}(h:next (({a with defers:={target:=.fn (.func g) cs,args:=vs}::a.defers}:Act).put o.dst undef) w):o.wp P a w next Q:=by
 unfold Oper.wp;have hargs:c.args=#[]:=Array.size_eq_zero_iff.1 h0
 have hrun:(execOp a.eval o).run P w=.ok (.defer {target:=.fn (.func g) cs,args:=vs}) w:=by
  unfold execOp;rw[ho];simp only[resolve,hf,hv,Deferred.ofValue,hargs,pure_bind,Sem.run_bind,Sem.run_pure,Result.andThen_ok];simp
 rw[hrun];exact h
theorem HB{f:Fn}(hr:RepA w M L h (.fn f first caps) u):∃vs cs,u=.func f vs cs:=by
 cases hr with
 |fn _ _ _ vs us hl hk h1 h2=>exact⟨_,_,rfl⟩
theorem vZ(_:MemL C L h w)(hx:RepA w (af C L h) L h x u)(e:rE h x=true):∃a n c,u=.slice a n c:=by
 unfold rE at e;split at e
 .cases hx with
  |pv hr=>
   cases hr with
   |sl0 a c=>exact⟨_,_,_,rfl⟩
   |sl xs b o c sz u hcap hs hc hr=>exact⟨_,_,_,rfl⟩
 .rename_i k n
  split at e
  .rename_i e0 sz xs fz hk
   simp only[An,HX]at e
   cases hx with
   |arr hk2 hn2 hu=>
    rw[hk]at hk2;injection hk2 with hk2;injection hk2 with a1 a2 a3 a4;subst a3;rw[hu e.1,Loc.slice];split<;>exact⟨_,_,_,rfl⟩
  .cases e
 .cases e
theorem xQ(hm:MemL C L st.h w)(hN:a.tmps.size=C.N)(hdf:kz C.P a.defers)(ht:∀n,RepA w (af C L st.h) L st.h (st.t n) (a.tmps.getD n undef))
 {o:Oper}(hd:dD C.N o.dst=true){hn:List Nat}{K:dl->Prop}(e:wy C.P hn o st.ev st.h K){next:Act->World->Prop}{Q:Exit->Act->World->Prop}
 (hnext:∀eff a' w',K eff->gP C (st.put o.dst eff.1 eff.2) a' w'->next a' w'):o.wp C.P a w next Q:=by
 have hplain:t7 C.P hn o st.ev st.h K->o.wp C.P a w next Q:=λe=>
  C9 hm (λ_ _ h=>h) (λd hdd=>⟨rfl,by rw[hdd]at hd;simp only[dD,An,HX]at hd;exact hd.2⟩) (λx _=>dx ht x) e (λeff u w' L' hk hA hv=>hnext eff _ _ hk (gP.put hm hN hdf ht hd hA hv))
 unfold wy at e;split at e
 .rename_i c hop
  split at e
  .rename_i f hcal
   split at e
   .rename_i h0
    unfold E5 at e;split at e
    .rename_i g first caps hfe
     obtain⟨vs,cs,hv⟩:=HB (by have:=dx ht f;rw[hfe]at this;exact this);refine Oper.wp_defer hop hcal h0 hv (hnext _ _ _ e.2 ?_)
     have hq:kz C.P ({target:=.fn (.func g) cs,args:=vs}::a.defers):=by
      intro d hd';rcases KM.1 hd' with rfl|hd'
      .grind
      .exact hdf d hd'
     exact gP.put (a:={a with defers:={target:=.fn (.func g) cs,args:=vs}::a.defers}) hm hN hq ht hd (W:=[]) (aP.refl hm) (.undef _)
    .exact e.elim
   .exact e.elim
  .exact e.elim
 .rename_i op t x y t' hop
  split at e
  .rename_i hc
   simp only[An,Nv,Nj]at hc;obtain⟨⟨⟨c1,c2⟩,c3⟩,c4⟩:=hc;have hy:=zb c1 (dx ht y);obtain⟨ad,n,c,hx⟩:=vZ hm (dx ht x) c3
   obtain⟨b,hb⟩:∃b:Bool,(op=.eql∧b=ad.isNone)∨(op=.neq∧b=!ad.isNone):=by
    grind
   have hrun:(execOp a.eval o).run C.P w=.ok (.value (.bool b)) w:=by
    obtain⟨dst,op',ty,pos,aft,g⟩:=o;simp only at hop;subst hop;exact mR (A6 (rY c2) hx hy hb) w
   have hK:K (.pv (.val (.bool b)),[]):=by cases b with
    |true=>exact e.1
    |false=>exact e.2
   unfold Oper.wp;rw[hrun];exact hnext _ _ _ hK (gP.put hm hN hdf ht hd (W:=[]) (aP.refl hm) (.pv (.val _)))
  grind
 grind
theorem jp{C:Cx}{hn:List Nat}{ops:Array Oper}{Q:St->Prop}{Q':Exit->Act->World->Prop}(hQ:∀st a w,gP C st a w->Q st->Q' .normal a w):
 ∀{l:List Oper}{st:St}{a:Act}{w:World},gP C st a w->dX C.P hn C.N ops Q l st->wpList C.P ops Q' l a w
 |[],st,a,w,hs,e=>hQ st a w hs e
 |o::l,st,a,w,hs,e=>by
  obtain⟨L,hm,hN,hdf,ht⟩:=hs;simp only[dX]at e;obtain⟨hd,e⟩:=e;refine wpList_step (λK hK=>?_);split at e
  .rename_i hg
   rw[eX ht (pR hg),IR rfl];exact xQ hm hN hdf ht hd e (λeff a' w' hk hsim=>hK _ _ (jp hQ hsim hk))
  .rename_i d b want hg
   rw[eX ht (mQ hg)];unfold yr at e;simp only at e;split at e
   .rename_i hgt
    subst hgt;rw[IR (by simp)];exact xQ hm hN hdf ht hd e (λeff a' w' hk hsim=>hK _ _ (jp hQ hsim hk))
   .rename_i hgt
    rw[Ik (by simpa using hgt)];exact hK _ _ (jp hQ (gP.put hm hN hdf ht hd (W:=[]) (aP.refl hm) (.pv (.val _))) e)
  .exact e.elim
def WP(C:Cx)(c:Code)(Q:Exit->St->Prop)(st:St):Prop:=∀a w,gP C st a w->c.wp C.P (λe a' w'=>∃st',gP C st' a' w'∧Q e st') a w
section
variable {C:Cx} {Q:Exit->St->Prop} {st:St}
theorem WP.region(h:dX C.P hn C.N ops (Q .normal) ops.toList st):WP C (.region id ops false) Q st:=
 λ_ _ hs=>wp_region_list (jp (λst' _ _ hs' hq=>⟨st',hs',hq⟩) hs h)
def Da(C:Cx)(y:Code)(Q:Exit->St->Prop):Exit->St->Prop
 |.normal,st=>WP C y Q st
 |e,st=>Q e st
theorem WP.seq{x:Code}(h:WP C x (Da C y Q) st):WP C (.seq x y) Q st:=by
 intro a w hs;refine wp_seq (wp_mono (h a w hs) ?_);rintro e a' w' ⟨st',hs',hq⟩
 cases e with
 |normal=>exact hq a' w' hs'
 |_=>exact⟨st',hs',hq⟩
theorem WP.mono{Q':Exit->St->Prop}(h:WP C c Q st)(hq:∀e st,Q e st->Q' e st):WP C c Q' st:=
 λa w hs=>wp_mono (h a w hs) (λe _ _ ⟨st',hs',hq'⟩=>⟨st',hs',hq e st' hq'⟩)
theorem WP.skip(h:Q .normal st):WP C .skip Q st:=λ_ _ hs=>wp_skip ⟨st,hs,h⟩
theorem WP.ret(h:Q .ret st):WP C .ret Q st:=λ_ _ hs=>wp_ret ⟨st,hs,h⟩
theorem WP.exit(h:Q (.exit id) st):WP C (.exit id) Q st:=λ_ _ hs=>wp_exit ⟨st,hs,h⟩
theorem WP.cond{c:Operand}{x:Code}(hc:st.ev c=.pv (.val (.bool b)))(ht:b=true->WP C x Q st)(hf:b=false->WP C y Q st):WP C (.cond c x y) Q st:=by
 intro a w hs
 have hc':a.eval c=.bool b:=by
  obtain⟨L,hm,hN,hdf,htm⟩:=hs;have:=dx htm c;rw[hc]at this
  cases this with
  |pv hr=>exact aY hr
 exact wp_cond_split hc' (λe=>ht e a w hs) (λe=>hf e a w hs)
def sP(id:Nat)(Q:Exit->St->Prop):Exit->St->Prop
 |.exit i,st=>if i=id then Q .normal st else Q (.exit i) st
 |e,st=>Q e st
theorem WP.block(h:WP C c (sP id Q) st):WP C (.block id c) Q st:=by
 intro a w hs;refine wp_block (wp_mono (h a w hs) ?_);rintro e a' w' ⟨st',hs',hq⟩
 cases e with
 |exit i=>
  simp only[sP,Exit.inBlock]at hq|-
  grind
 |_=>exact⟨st',hs',hq⟩
def aO(ks:List Nat):AV->Bool
 |.pv _=>false
 |.ptr k _|.arr k _|.eptr k _ _ _=>ks.contains k
 |.ext x=>ks.contains x.key
 |_=>true
def bL(ks:List Nat):AV->Bool
 |.agg cs=>cs.any (aO ks)
 |.fn _ first caps=>first.any (aO ks)||caps.any (aO ks)
 |.tup _=>true
 |x=>aO ks x
def aC(ks:List Nat)(x:AV):AV:=if bL ks x=true then .undef else x
def bQ(ks:List Nat):Blk->Blk
 |.box cs own fz=>.box (cs.map (aC ks)) own fz
 |b=>b
def St.kill(ks:List Nat)(st:St):St:=⟨λn=>aC ks (st.t n),λk=>if ks.contains k=true then none else(st.h k).map (bQ ks)⟩
def Ai(ks:List Nat)(h:Hp):Hp:=λk=>if ks.contains k=true then none else h k
theorem rG{blk:Blk}(hc:ks.contains k=false)(hk:h k=some blk):Ai ks h k=some blk:=by
 unfold Ai;rw[Ik (by rw[hc];decide),hk]
theorem kK(hd:aO ks x=false)(hx:RepA w M L h x u):RepA w M L (Ai ks h) x u:=by
 cases hx with
 |pv hr=>exact .pv hr
 |ptr hk=>exact .ptr (rG (by simpa only[aO]using hd) hk)
 |arr hk hn hu=>exact .arr (rG (by simpa only[aO]using hd) hk) hn hu
 |eptr hk hn hu=>exact .eptr (rG (by simpa only[aO]using hd) hk) hn hu
 |ext hx'=>
  cases hx' with
  |barr hc hk=>exact .ext (.barr hc (rG (by simpa only[aO,XV.key]using hd) hk))
  |mp hk=>exact .ext (.mp (rG (by simpa only[aO,XV.key]using hd) hk))
  |suf hs0 hk hn ht hu=>exact .ext (.suf hs0 (rG (by simpa only[aO,XV.key]using hd) hk) hn ht hu)
 |agg=>cases hd
 |fn=>cases hd
 |tup=>cases hd
 |undef=>cases hd
theorem BK(hx:RepA w M L h x u):RepA w M L (Ai ks h) (aC ks x) u:=by
 unfold aC;split
 .exact .undef _
 .rename_i hd
  have hd:bL ks x=false:=by simpa using hd
  have el:∀{cs:List AV}{i:Nat}{p:AV},cs.any (aO ks)=false->cs[i]?=some p->aO ks p=false:=by
   grind
  cases hx with
  |agg cs vs hl ha=>exact .agg cs vs hl (λi p u hp' hu=>kK (el hd hp') (ha i p u hp' hu))
  |fn f first caps vs us hl hk h1 h2=>
   have hd:(first.any (aO ks)||caps.any (aO ks))=false:=hd;rw[OR]at hd
   exact .fn f first caps vs us hl hk (λi p u hp' hu=>kK (el hd.1 hp') (h1 i p u hp' hu)) (λi p u hp' hu=>kK (el hd.2 hp') (h2 i p u hp' hu))
  |tup=>cases hd
  |undef=>exact .undef _
  |pv hr=>exact kK hd (.pv hr)
  |ptr hk=>exact kK hd (.ptr hk)
  |arr hk hn hu=>exact kK hd (.arr hk hn hu)
  |eptr hk hn hu=>exact kK hd (.eptr hk hn hu)
  |ext hx'=>exact kK hd (.ext hx')
theorem wG(ks:List Nat)(b:Blk)(l:Loc):eF b l (bQ ks b) l:=by cases b<;>simp[eF,bQ]
theorem E8:KC L (Ai ks h) L (λk=>if ks.contains k=true then none else(h k).map (bQ ks)):=by
 intro k blk hk;unfold Ai at hk;split at hk
 .cases hk
 .rename_i hc
  exact⟨bQ ks blk,by simp only[Ik hc,hk];rfl,wG ks blk _⟩
theorem wH(hp:Pres w M w M')(hx:RepA w M L h x u):
 RepA w M' L (λk=>if ks.contains k=true then none else(h k).map (bQ ks)) (aC ks x) u:=(BK hx).mono hp E8
theorem gP.kill(ks:List Nat)(hs:gP C st a w):gP C (st.kill ks) a w:=by
 obtain⟨L,hm,hN,hdf,ht⟩:=hs
 have hkey:∀k blk',(st.kill ks).h k=some blk'->∃blk,st.h k=some blk∧bQ ks blk=blk'∧blk'.live (L k)=blk.live (L k)∧∀o,blk'.frz o=blk.frz o:=by
  intro k blk' hk;simp only[St.kill]at hk;split at hk
  .cases hk
  .simp only[Ii]at hk
   obtain⟨blk,h1,rfl⟩:=hk;exact⟨blk,h1,rfl,by cases blk<;>rfl,λo=>by cases blk<;>rfl⟩
 have hM:∀b o,af C L (st.kill ks).h b o->af C L st.h b o:=by
  rintro b o (h0|⟨k,blk',hk,hl,hb,hf⟩)
  .exact .inl h0
  .obtain⟨blk,h1,_,h2,h3⟩:=hkey k blk' hk
   exact .inr ⟨k,blk,h1,h2▸hl,hb,h3 o▸hf⟩
 have hp:Pres w (af C L st.h) w (af C L (st.kill ks).h):=Pres.sub hM;refine⟨L,⟨hm.ext,hm.m0,?_,?_,?_⟩,hN,hdf,λn=>wH hp (ht n)⟩
 .intro k blk' hk
  obtain⟨blk,h1,rfl,_,_⟩:=hkey k blk' hk;have:=hm.bl k blk h1
  cases blk with
  |box cs own fz=>
   obtain⟨arr,ty,e1,e2⟩:=this;refine⟨arr,ty,e1,by simpa using e2.1,λi p u hp' hu=>?_⟩;simp only[Is,Ii]at hp';obtain⟨q,hq,rfl⟩:=hp';exact wH hp (e2.2 i q u hq hu)
  |row e sz xs fz=>
   obtain⟨a1,a2,a3,a4,a5⟩:=this;refine⟨a1,a2,a3,a4,λhn=>?_⟩;obtain⟨b1,b2,arr,b3,b4,b5⟩:=a5 hn;exact⟨b1,b2,arr,b3,b4,λi x j p hx hj=>by obtain⟨u,hu,hr⟩:=b5 i x j p hx hj;exact⟨u,hu,hr.mono hp⟩⟩
  |mp kd n es fz=>exact this
 .intro k k' b1 b2 hne hk hk' hl hl'
  obtain⟨c1,d1,_,e1,_⟩:=hkey k b1 hk;obtain⟨c2,d2,_,e2,_⟩:=hkey k' b2 hk';exact hm.sep k k' c1 c2 hne d1 d2 (e1▸hl) (e2▸hl')
 .intro k blk' hk
  obtain⟨blk,h1,rfl,_,_⟩:=hkey k blk' hk;have:=hm.own k blk h1
  cases blk with
  |box cs own fz=>cases own<;>exact this
  |row=>exact this
  |mp=>exact this
theorem WP.loop(ks:List Nat)(I:St->Prop)(μ:St->Nat)(h₀:I (st.kill ks))
 (round:∀st,I st->WP C c (λe st'=>match e with|.normal=>I (st'.kill ks)∧μ (st'.kill ks)<μ st|e=>Q e st') st):WP C (.loop c) Q st:=by
 intro a w hs
 have key:∀n st a w,μ st=n->I st->gP C st a w->∀b k cs,∃e a' w',(∃st',gP C st' a' w'∧Q e st')∧Arrives C.P (lone (b.at a (.code c::.inLoop c::k)) cs w) b k cs e a' w':=by
  intro n
  induction n using Nat.strongRecOn with
  |_ n ih=>
   intro st a w hn hI hs b k cs;obtain⟨e,a₁,w₁,⟨st',hs',hq⟩,harr⟩:=round st hI a w hs b (.inLoop c::k) cs
   cases e with
   |normal=>
    obtain⟨hI₁,hlt⟩:=hq;obtain⟨e₂,a₂,w₂,hq₂,harr₂⟩:=ih (μ (st'.kill ks)) (hn▸hlt) _ a₁ w₁ rfl hI₁ (hs'.kill ks) b k cs;exact⟨e₂,a₂,w₂,hq₂,.of_steps (Steps.trans harr (.one step_inLoop)) harr₂⟩
   |exit id=>exact⟨_,a₁,w₁,⟨st',hs',hq⟩,.pass (x:=.inLoop c) rfl (λ_ _=>.inl (by simp)) harr⟩
   |goto l=>exact⟨_,a₁,w₁,⟨st',hs',hq⟩,.pass (x:=.inLoop c) rfl (λ_ _=>.inl (by simp)) harr⟩
   |ret=>exact⟨_,a₁,w₁,⟨st',hs',hq⟩,.pass (x:=.inLoop c) rfl (λ_ _=>.inl (by simp)) harr⟩
   |panic ch=>exact⟨_,a₁,w₁,⟨st',hs',hq⟩,.pass (x:=.inLoop c) rfl (λ_ _=>.inl (by simp)) harr⟩
   |outgrown=>exact⟨_,a₁,w₁,⟨st',hs',hq⟩,.pass (x:=.inLoop c) rfl (λ_ _=>.inl (by simp)) harr⟩
 intro b k cs;obtain⟨e,a',w',hq,harr⟩:=key _ (st.kill ks) a w rfl h₀ (hs.kill ks) b k cs;exact⟨e,a',w',hq,.of_steps (.one step_loop) harr⟩
end
def pk(i:Nat):Nat:=1000000+i
def Db(args:List Arg):Nat->AV:=λn=>match args[n]? with
 |some (.pv p)=>.pv p
 |some (.bx i)=>.ptr (pk i) 0
 |none=>.undef
def uT(hin:List (List PV)):Hp:=λk=>if k<1000000 then none else match hin[k-1000000]? with
 |some ps=>some (.box (ps.map .pv) false false)
 |none=>none
def r6(args:List Arg)(hin:List (List PV)):St:=⟨Db args,uT hin⟩
def ly(P:Program)(st:St):List ResultVar->Option (List AV)
 |[]=>some []
 |.tmp t::r=>(ly P st r).map (st.t t::·)
 |.cell a ty::r=>match ao P ty with
  |some ti=>match wv ti (st.t a) st.h,ly P st r with
   |some v,some vs=>some (v::vs)
   |_,_=>none
  |none=>none
def mS(P:Program)(st:St)(rs:List ResultVar):Option AV:=match ly P st rs with
 |some [v]=>some v
 |some vs=>some (.tup vs)
 |none=>none
def jF(P:Program)(rs:List ResultVar)(hout:List (List PV))(res:RV)(st:St):Prop:=
 ∃r,mS P st rs=some r∧(∀(i:Nat) ps,hout[i]?=some ps->st.h (pk i)=some (.box (ps.map .pv) false false))∧
  (match res with
  |.pv p=>∃W,frz st.h r=some (p,W)
  |.new p=>KY st.h r=some p
  |.box ps=>∃k,r=.ptr k 0∧st.h k=some (.box (ps.map .pv) true false)
  |.row e sz xs=>∃k,r=.arr k xs.length∧st.h k=some (.row e sz xs 0)
  |.nrow e sz xs=>xs.all lO=true∧∃k,r=.arr k xs.length∧st.h k=some (.row e sz xs 0)
  |.srow pre e sz xs=>∃k,r=.agg (pre.map .pv++[.arr k xs.length])∧st.h k=some (.row e sz xs 0))
def HC(P:Program)(rs:List ResultVar)(hout:List (List PV))(res:RV):Exit->St->Prop
 |.normal,st=>jF P rs hout res st
 |.ret,st=>jF P rs hout res st
 |_,_=>False
theorem sQ(hc:dw P g=true)(cap dargs:Array Value)(w:World):(invoke (.fn (.func g) cap) dargs).run P w=.ok (.enter g (dargs++cap)) w:=by
 unfold dw at hc
 cases hfn:P.funcs[g]? with
 |none=>rw[hfn]at hc;cases hc
 |some fn=>
  rw[hfn]at hc;simp only[An,Mp,Om,ne_eq]at hc
  have hb:fn.body.isNone=false:=by cases hbb:fn.body<;>simp_all
  simp only[invoke,callFunc,program,Sem.run_bind,Sem.run,Result.andThen_ok,hfn];simp[hc.2,hb]
theorem jA{P:Program}{fn:Func}{tmps:Array Value}{R:Ending->World->Prop}{w:World}{v:Value}:∀{ds:List Deferred},kz P ds->(results fn tmps).run P w=.ok v w->R (.returned v) w->Leaves P fn tmps R ds .returning w
 |[],_,hr,hR=>⟨v,hr,hR⟩
 |d::ds,hq,hr,hR=>by
  obtain⟨g,cap,ht,hg⟩:=hq d (by simp);refine⟨by simp,.func g,cap,g,d.args++cap,ht,by rw[ht];exact sQ hg.1 _ _ _,(hg.2 _ w).mono ?_⟩;rintro e u' w' ⟨rfl,⟨v',rfl⟩,rfl⟩;exact jA (λd hd=>hq d (by simp[hd])) hr hR
def A7(tmps:Array Value):ResultVar->Sem Value
 |.tmp t=>pure (tmps.getD t undef)
 |.cell b t=>do loadVar t (<-asAddr (tmps.getD b undef))
section
variable {C:Cx} {L:Nat->Loc} {st:St} {a:Act} {w:World}
theorem pV(hm:MemL C L st.h w)(ht:∀n,RepA w (af C L st.h) L st.h (st.t n) (a.tmps.getD n undef)):∀{rs:List ResultVar}{vs:List AV},ly C.P st rs=some vs->
 ∃us:List Value,(rs.mapM (A7 a.tmps)).run C.P w=.ok us w∧aK w (af C L st.h) L st.h vs us
 |[],vs,e=>by
  simp only[ly,IL]at e;subst e;exact⟨[],by simp,aK.nil⟩
 |.tmp t::r,vs,e=>by
  simp only[ly,Ii]at e;obtain⟨vs',e1,rfl⟩:=e;obtain⟨us,h1,h2⟩:=pV hm ht e1;refine⟨a.tmps.getD t undef::us,?_,.cons (ht t) h2⟩;simp only[List.mapM_cons,A7,Sem.run_bind,Sem.run_pure,Result.andThen_ok,h1]
 |.cell b ty::r,vs,e=>by
  simp only[ly]at e;split at e
  .rename_i ti hti
   split at e
   .rename_i v vs' e0 e1
    injection e with e;subst e;obtain⟨us,h1,h2⟩:=pV hm ht e1;obtain⟨u,hr1,hr2⟩:=wC hm (λ_ _ h=>h) hti (ht b) e0;refine⟨u::us,?_,.cons hr2 h2⟩
    have haddr:∃ad,a.tmps.getD b undef=.pointer (some ad):=by
     unfold Instr.loadAt at hr1
     cases hv:a.tmps.getD b undef with
     |pointer p=>cases p with
      |none=>rw[hv]at hr1;simp[Instr.sureAddr,stuck]at hr1
      |some ad=>exact⟨ad,rfl⟩
     |_=>rw[hv]at hr1;simp[Instr.sureAddr,stuck]at hr1
    obtain⟨ad,had⟩:=haddr;rw[had]at hr1;have hr1':(loadVar ty ad).run C.P w=.ok u w:=hr1
    have hone:(A7 a.tmps (.cell b ty)).run C.P w=.ok u w:=by simp only[A7,had,asAddr,pure_bind,hr1']
    simp only[List.mapM_cons,Sem.run_bind,hone,Sem.run_pure,Result.andThen_ok,h1]
   .cases e
  .cases e
theorem om(hm:MemL C L st.h w)(ht:∀n,RepA w (af C L st.h) L st.h (st.t n) (a.tmps.getD n undef)){r:AV}(e:mS C.P st fn.results.toList=some r):
 ∃u,(results fn a.tmps).run C.P w=.ok u w∧RepA w (af C L st.h) L st.h r u:=by
 unfold mS at e
 have key:∀vs us,(fn.results.toList.mapM (A7 a.tmps)).run C.P w=.ok us w->aK w (af C L st.h) L st.h vs us->
  (results fn a.tmps).run C.P w=.ok (if h:us.toArray.size=1 then us.toArray[0]else .tuple us.toArray) w:=by
  intro vs us h1 _;have:results fn a.tmps=(do let vs <-fn.results.mapM (A7 a.tmps);pure (if h:vs.size=1 then vs[0]else .tuple vs)):=rfl;rw[this,Array.mapM_eq_mapM_toList];simp only[Sem.run_bind,Sem.run_map,h1,Result.andThen_ok];rfl
 split at e
 .rename_i v hv
  injection e with e;subst e;obtain⟨us,h1,h2⟩:=pV hm ht hv;obtain⟨u,us',rfl,hu,hn⟩:=h2.cons_inv;have:=hn.nil_inv;subst this
  grind
 .rename_i vs hne hv
  injection e with e;subst e;obtain⟨us,h1,h2⟩:=pV hm ht hv;refine⟨.tuple us.toArray,?_,.tup vs us h2.1 h2.2⟩;rw[key _ _ h1 h2]
  have:¬us.length=1:=by
   intro hl
   cases vs with
   |nil=>have:=h2.1;simp at this;rw[<-this]at hl;simp at hl
   |cons v r=>cases r with
    |nil=>exact hne v rfl
    |cons=>have:=h2.1;simp at this;omega
  simp[this]
 .cases e
end
section
variable {C:Cx} {L:Nat->Loc} {h:Hp} {w:World}
abbrev wI(C:Cx):Nat->Nat->Prop:=λb _=>b<C.w0.heap.size
theorem Aj(hm:MemL C L h w)(hfr:∀{b:Nat},(C.w0.heap.size<=b∨(C.S b∧∀o,¬C.M0 b o))->C.w0.heap.size<=b)(hx:RepA w (af C L h) L h x u)(e:y5 h x=some p):Rep w (wI C) p u:=by
 cases x with
 |pv q=>
  simp only[y5]at e;split at e
  .rename_i hq
   injection e with e;subst e
   cases hx with
   |pv hr=>exact C8 hq hr
  .cases e
 |arr k n=>
  simp only[y5]at e;split at e
  .rename_i ee sz xs fz hk
   split at e
   .rename_i hc
    injection e with e;subst e
    cases hx with
    |arr hk2 hn2 hu=>
     rw[hk]at hk2;injection hk2 with hk2;injection hk2 with a1 a2 a3 a4;subst a1;subst a2;subst a3;subst a4;rw[hu hc.1];obtain⟨_,_,g3,g4,g5⟩:=hm.bl k _ hk;unfold Loc.slice
     cases hn:(L k).isNil with
     |true=>rw[g4 hn];exact .sl0 none 0
     |false=>
      obtain⟨a1,a2,arr,a3,a4,a5⟩:=g5 hn;have hnew:=hfr ((hm.own k _ hk).row hn);simp only[IA,JE];rw[<-hc.1];refine .sl xs (L k).b 0 (L k).cap sz (λi j=>(arr[i*sz+j]?).getD undef) a1 (λi x hx=>g3 x (HW hx)) ?_ ?_
      all_goals grind [fl,t8,List.all_eq_true,List.mem_of_getElem?]
   .cases e
  .cases e
 |ext y=>
  cases y with
  |barr=>cases e
  |suf=>cases e
  |mp k=>
   simp only[y5]at e;split at e
   .rename_i kd n es fz hk
    injection e with e;subst e;obtain⟨arr,clock,e1,e2⟩:=hm.bl k _ hk
    cases hx with
    |ext hx'=>cases hx' with
     |mp _=>
      have h9:C.w0.heap.size<=(L k).b:=hm.own k _ hk;exact .mp kd n es _ arr clock e1 (λh10=>by have h10:(L k).b<C.w0.heap.size:=h10;omega) e2
   .cases e
 |_=>cases e
theorem yy(hm:MemL C L h w)(hfr:∀{b:Nat},(C.w0.heap.size<=b∨(C.S b∧∀o,¬C.M0 b o))->C.w0.heap.size<=b):∀{xs:List AV}{us:List Value}{ps:List PV},aK w (af C L h) L h xs us->xE h xs=some ps->cO w (wI C) ps us
 |[],us,ps,hx,e=>by
  simp only[xE,IL]at e;subst e;rw[hx.nil_inv];exact .nil
 |x::r,us,ps,hx,e=>by
  simp only[xE]at e;split at e
  .rename_i p ps' e1 e2
   injection e with e;subst e;obtain⟨u,us',rfl,hu,hr⟩:=hx.cons_inv;exact .cons (Aj hm hfr hu e1) (yy hm hfr hr e2)
  .cases e
theorem uU(hm:MemL C L h w)(hfr:∀{b:Nat},(C.w0.heap.size<=b∨(C.S b∧∀o,¬C.M0 b o))->C.w0.heap.size<=b)(hx:RepA w (af C L h) L h x u)(e:AU h x=some p):Rep w (wI C) p u:=by
 unfold AU at e;split at e
 .rename_i k n c0
  split at e
  .rename_i cs fz hk
   split at e
   .rename_i hn
    split at e
    .rename_i ps e1
     split at e
     .rename_i ho
      injection e with e;subst e;obtain⟨arr,ty,h1',h2'⟩:=hm.bl k _ hk;have hr:=yy hm hfr h2' e1;have hnew:C.w0.heap.size<=(L k).b:=hfr (hm.own k _ hk)
      have hlen:ps.length=n:=by rw[hr.1,<-h2'.1];exact hn
      have one:∀(i:Nat) x(j:Nat) p,ps[i]?=some x->x.cells[j]?=some p->j=0∧p=x:=by
       grind [jz,List.all_eq_true,List.mem_of_getElem?]
      have get:∀(i:Nat) p,ps[i]?=some p->∃v,arr[i]?=some v∧Rep w (wI C) p v:=by
       intro i p hp
       have hlt:i<arr.toList.length:=by rw[<-hr.1];exact(th.1 hp).1
       have hv:arr.toList[i]?=some (arr.toList[i]):=an hlt;exact⟨_,by rw[<-M7];exact hv,hr.2 i p _ hp hv⟩
      cases hx with
      |ext hx'=>cases hx' with
       |barr hc9 _=>
        have key:Rep w (wI C) (.sl ps) (.slice (some ⟨(L k).b,0,none⟩) ps.length c0):=by
         refine .sl ps (L k).b 0 c0 1 (λi _=>(arr[i]?).getD undef) (by omega) (λi x hx=>by rw[jz (Ij.1 ho x (HW hx))];rfl) ?_ ?_
         .intro i x j p hx hj
          obtain⟨rfl,rfl⟩:=one i x j p hx hj;obtain⟨v,hv,_⟩:=get i p hx;refine⟨by rw[fl h1'];simp[hv],λh9=>?_⟩;have h9:(L k).b<C.w0.heap.size:=h9;omega
         .intro i x j p hx hj
          obtain⟨rfl,rfl⟩:=one i x j p hx hj;obtain⟨v,hv,hr'⟩:=get i p hx;simp only[hv,JX];exact hr'
        rw[hlen]at key;exact key
     .cases e
    .cases e
   .cases e
  .cases e
 grind [Aj]
theorem rd(hm:MemL C L h w)(hfr:∀{b:Nat},(C.w0.heap.size<=b∨(C.S b∧∀o,¬C.M0 b o))->C.w0.heap.size<=b):∀{xs:List AV}{us:List Value}{ps:List PV},aK w (af C L h) L h xs us->ww h xs=some ps->cO w (wI C) ps us
 |[],us,ps,hx,e=>by
  simp only[ww,IL]at e;subst e;rw[hx.nil_inv];exact .nil
 |x::r,us,ps,hx,e=>by
  simp only[ww]at e;split at e
  .rename_i p ps' e1 e2
   injection e with e;subst e;obtain⟨u,us',rfl,hu,hr⟩:=hx.cons_inv;exact .cons (uU hm hfr hu e1) (rd hm hfr hr e2)
  .cases e
theorem Dc(hm:MemL C L h w)(hfr:∀{b:Nat},(C.w0.heap.size<=b∨(C.S b∧∀o,¬C.M0 b o))->C.w0.heap.size<=b)(hx:RepA w (af C L h) L h x u)(e:zT h x=some p):Rep w (wI C) p u:=by
 unfold zT at e;split at e
 .rename_i k
  split at e
  .rename_i cs fz hk
   split at e
   .rename_i ps e1
    obtain⟨arr,ty,h1',h2'⟩:=hm.bl k _ hk;have hr:=rd hm hfr h2' e1;have hnew:C.w0.heap.size<=(L k).b:=hfr (hm.own k _ hk)
    have key:∀y:PV,y.cells=ps->Rep w (wI C) (.rptr y 0) u:=by
     intro y hy
     have get:∀(i:Nat) p,y.cells[i]?=some p->∃v,arr[i]?=some v∧Rep w (wI C) p v:=by
      intro i p hp;rw[hy]at hp
      have hlt:i<arr.toList.length:=by rw[<-hr.1];exact(th.1 hp).1
      have hv:arr.toList[i]?=some (arr.toList[i]):=an hlt;exact⟨_,by rw[<-M7];exact hv,hr.2 i p _ hp hv⟩
     cases hx with
     |ptr _=>
      refine .rptr y (L k).b 0 0 (λj=>(arr[j]?).getD undef) (λj p hj=>?_) (λj p hj=>?_)
      all_goals grind [get,fl]
    split at e
    .rename_i hq
     injection e with e;subst e
     exact key _ (by cases ps with
      |nil=>simp[jT]at hq
      |cons q r=>cases r with
       |nil=>simp only[jT]at hq;exact jz hq
       |cons _ _=>simp[jT]at hq)
    grind [lw]
   .cases e
  .cases e
 grind [uU]
theorem v8(hm:MemL C L h w)(hfr:∀{b:Nat},(C.w0.heap.size<=b∨(C.S b∧∀o,¬C.M0 b o))->C.w0.heap.size<=b):∀{xs:List AV}{us:List Value}{ps:List PV},aK w (af C L h) L h xs us->rB h xs=some ps->cO w (wI C) ps us
 |[],us,ps,hx,e=>by
  simp only[rB,IL]at e;subst e;rw[hx.nil_inv];exact .nil
 |x::r,us,ps,hx,e=>by
  simp only[rB]at e;split at e
  .rename_i p ps' e1 e2
   injection e with e;subst e;obtain⟨u,us',rfl,hu,hr⟩:=hx.cons_inv;exact .cons (Dc hm hfr hu e1) (v8 hm hfr hr e2)
  .cases e
theorem HD(hm:MemL C L h w)(hfr:∀{b:Nat},(C.w0.heap.size<=b∨(C.S b∧∀o,¬C.M0 b o))->C.w0.heap.size<=b)(hx:RepA w (af C L h) L h x u)(e:KY h x=some p):Rep w (wI C) p u:=by
 unfold KY at e;split at e
 .rename_i f first caps
  split at e
  .rename_i ps qs e1 e2
   injection e with e;subst e
   cases hx with
   |fn _ _ _ vs us hl hk h1 h2=>
    have a:=rd hm hfr ⟨hl,h1⟩ e1;have b:=v8 hm hfr ⟨hk,h2⟩ e2;exact .fn f ps qs vs us a.1 b.1 a.2 b.2
  .cases e
 .rename_i vs
  split at e
  .rename_i ps e1
   injection e with e;subst e
   cases hx with
   |tup _ us hl h1=>
    have a:=rd hm hfr ⟨hl,h1⟩ e1;exact .tup ps us a.1 a.2
  .cases e
 grind [uU]
end
theorem o8(hf:P.funcs[f]?=some fn)(hb:fn.body=some c)(hcall:dw P f=true){args:List Arg}(hlen:args.length<=fn.ntmps)
 (hho:hout.length=hin.length)(hbx:∀(i j:Nat),args[i]?=some (.bx j)->j<hin.length)
 (h:∀C:Cx,C.P=P->C.N=fn.ntmps->WP C c (HC P fn.results.toList hout res) (r6 args hin)):ab P f args hin hout res:=by
 refine⟨hcall,hho,λw M bs vs hM hbl hnd hbox hal harg=>?_⟩
 let C:Cx:={P:=P,N:=fn.ntmps,M0:=M,S:=λb=>b∈bs,pb:=λk=>if k<1000000 then none else bs[k-1000000]?,w0:=w}
 let L:Nat->Loc:=λk=>⟨(bs[k-1000000]?).getD 0,0,false⟩
 have hkey:∀k blk,(r6 args hin).h k=some blk->∃i ps b,k=pk i∧hin[i]?=some ps∧bs[i]?=some b∧blk=.box (ps.map .pv) false false:=by
  intro k blk hk;simp only[r6,uT]at hk;split at hk
  .cases hk
  .rename_i hk0
   split at hk
   .rename_i ps hps
    injection hk with hk
    have hlt:k-1000000<bs.length:=by rw[hbl];exact(th.1 hps).1
    exact⟨k-1000000,ps,bs[k-1000000],by unfold pk;omega,hps,an hlt,hk.symm⟩
   .cases hk
 have hLb:∀i b,bs[i]?=some b->(L (pk i)).b=b:=by
  intro i b hb;show(bs[pk i-1000000]?).getD 0=b;rw[show pk i-1000000=i from by unfold pk;omega,hb];rfl
 have hMst:∀b o,af C L (r6 args hin).h b o↔M b o:=by
  intro b o;constructor
  .rintro(h0|⟨k,blk,hk,hl,hb,hf⟩)
   all_goals grind
  .exact .inl
 have hMeq:af C L (r6 args hin).h=M:=by funext b o;exact propext (hMst b o)
 have hsim:gP C (r6 args hin) {tmps:=vs.toArray++Array.replicate (fn.ntmps-vs.toArray.size) undef,defers:=[]} w:=by
  refine⟨L,⟨Ext.refl _ _,hM,?_,?_,?_⟩,by show(vs.toArray++Array.replicate (fn.ntmps-vs.toArray.size) undef).size=fn.ntmps;simp;omega,kz.nil _,λn=>?_⟩
  .intro k blk hk
   obtain⟨i,ps,b,rfl,hps,hb,rfl⟩:=hkey k blk hk;obtain⟨arr,ty,e1,e2⟩:=(hbox i b ps hb hps).2;refine⟨arr,ty,by rw[hLb i b hb];exact e1,?_⟩
   grind [aK.map_pv]
  .grind [List.getElem?_eq_some_iff,List.getElem_inj]
  .intro k blk hk
   obtain⟨i,ps,b,rfl,hps,hb,rfl⟩:=hkey k blk hk;refine⟨rfl,?_,?_,?_,?_⟩
   .rw[hLb i b hb]
    show(if pk i<1000000 then none else bs[pk i-1000000]?)=some b;rw[Ik (by unfold pk;omega),show pk i-1000000=i from by unfold pk;omega,hb]
   .grind
   .rw[hLb i b hb];exact hM b 0 ((hbox i b ps hb hps).1 0)
   grind
  .rw[hMeq]
   simp only[r6,Db];split
   .rename_i p hp
    have hlt:n<vs.length:=by rw[<-hal];exact(th.1 hp).1
    have:=harg n (.pv p) vs[n] hp (an hlt)
    have hget:(vs.toArray++Array.replicate (fn.ntmps-vs.toArray.size) undef).getD n undef=vs[n]:=by
     rw[IV,Mj (by simpa using hlt)];simp[hlt]
    simp only[hget];exact .pv this
   .rename_i j hp
    have hlt:n<vs.length:=by rw[<-hal];exact(th.1 hp).1
    obtain⟨b,hb,hv⟩:=harg n (.bx j) vs[n] hp (an hlt)
    have hget:(vs.toArray++Array.replicate (fn.ntmps-vs.toArray.size) undef).getD n undef=vs[n]:=by
     rw[IV,Mj (by simpa using hlt)];simp[hlt]
    simp only[hget];rw[hv,<-hLb j b hb];have hj:=hbx n j hp;refine .ptr (cs:=(hin[j]).map .pv) (own:=false) (fz:=false) ?_;simp only[uT,Ik (show¬pk j<1000000 by unfold pk;omega),show pk j-1000000=j from by unfold pk;omega]
    grind
   .exact .undef _
 refine calls_of_wp_defers hf hb (wp_mono (h C rfl rfl _ w hsim) ?_)
 have hfin:∀(a':Act) w' st',gP C st' a' w'->jF P fn.results.toList hout res st'->kz P a'.defers∧∃v,(results fn a'.tmps).run P w'=.ok v w'∧
  ∃v',Ending.returned v=.returned v'∧Ext (·∈bs) w w'∧(∀(i:Nat) b ps,bs[i]?=some b->hout[i]?=some ps->ln w' M b ps)∧z8 w w' M res v':=by
  rintro a' w' st' ⟨L',hm,hN,hdf,ht⟩ ⟨r,hr,hpb,hres⟩;obtain⟨u,hu1,hu2⟩:=om (C:=C) hm ht hr;have hsub:∀b o,M b o->af C L' st'.h b o:=λb o h=>.inl h
  have hfr:∀{b:Nat},(C.w0.heap.size<=b∨(C.S b∧∀o,¬C.M0 b o))->w.heap.size<=b:=by
   intro b h9;rcases h9 with h9|⟨h9,h10⟩
   .exact h9
   .obtain⟨i,hi⟩:=Pl.1 (show b∈bs from h9)
    have hlt:i<hin.length:=by rw[<-hbl];exact(th.1 hi).1
    exact absurd ((hbox i b hin[i] hi (an hlt)).1 0) (h10 0)
  refine⟨hdf,u,hu1,u,rfl,hm.ext,?_,?_⟩
  .intro i b ps hb hps
   have hk:=hpb i ps hps;obtain⟨arr,ty,e1,e2⟩:=hm.bl _ _ hk;have how:=hm.own _ _ hk
   have hpbk:C.pb (pk i)=some b:=by
    show(if pk i<1000000 then none else bs[pk i-1000000]?)=some b;rw[Ik (by unfold pk;omega),show pk i-1000000=i from by unfold pk;omega,hb]
   have hbb:(L' (pk i)).b=b:=by
    have:=how.2.1;rw[hpbk]at this;injection this with this;exact this.symm
   rw[hbb]at e1;exact⟨arr,ty,e1,e2.map_pv_inv.mono (Pres.sub hsub)⟩
  .cases res with
   |pv p=>
    obtain⟨W,hW⟩:=hres;obtain⟨b1,b2,_⟩:=nN hm (dr.refl _) hu2 hW;exact b2.mono (Pres.sub (λb o h=>.inl h))
   |new p=>exact HD hm hfr hu2 hres
   |box ps=>
    obtain⟨k,rfl,hk⟩:=hres;obtain⟨arr,ty,e1,e2⟩:=hm.bl _ _ hk;have how:=hfr (hm.own _ _ hk)
    cases hu2 with
    |ptr _=>
     refine⟨(L' k).b,how,rfl,arr,ty,e1,e2.map_pv_inv.mono (Pres.sub ?_)⟩;rintro b o (h|rfl)
     .exact .inl h
     .exact .inr ⟨k,_,hk,trivial,rfl,by simp[Blk.frz]⟩
   |row e sz xs=>
    obtain⟨k,rfl,hk⟩:=hres;have how:=hm.own _ _ hk;have hb:=hm.bl _ _ hk
    have hval:u=(L' k).slice xs.length:=by
     cases hu2 with
     |arr hk2 hn2 hu=>
      rw[hk]at hk2;injection hk2 with hk2;injection hk2 with a1 a2 a3 a4;subst a3;exact hu rfl
    refine⟨L' k,hval,λhn=>hfr (how.row hn),?_⟩;obtain⟨c1,c2,c3,c4,c5⟩:=hb;refine⟨c1,Ng _,c3,c4,λhn=>?_⟩;obtain⟨d1,d2,arr,d3,d4,d5⟩:=c5 hn;refine⟨d1,d2,arr,d3,d4,λi x j p hx hj=>?_⟩;obtain⟨v,hv,hr⟩:=d5 i x j p hx hj;refine⟨v,hv,hr.mono (Pres.sub ?_)⟩;rintro b o (h|⟨_,rfl⟩)
    .exact .inl h
    .exact .inr ⟨k,_,hk,hn,rfl,by simp[Blk.frz]⟩
   |nrow e sz xs=>
    obtain⟨hml,k,rfl,hk⟩:=hres;have how:=hm.own _ _ hk;have hb:=hm.bl _ _ hk
    have hval:u=(L' k).slice xs.length:=by
     cases hu2 with
     |arr hk2 hn2 hu=>
      rw[hk]at hk2;injection hk2 with hk2;injection hk2 with a1 a2 a3 a4;subst a3;exact hu rfl
    refine⟨hml,L' k,hval,λhn=>hfr (how.row hn),?_⟩;obtain⟨c1,c2,c3,c4,c5⟩:=hb;refine⟨c1,Ng _,c3,c4,λhn=>?_⟩;obtain⟨d1,d2,arr,d3,d4,d5⟩:=c5 hn;refine⟨d1,d2,arr,d3,d4,λi x j p hx hj=>?_⟩;obtain⟨v,hv,hr⟩:=d5 i x j p hx hj;refine⟨v,hv,hr.mono (Pres.sub ?_)⟩;rintro b o (h|⟨_,rfl⟩)
    .exact .inl h
    .exact .inr ⟨k,_,hk,hn,rfl,by simp[Blk.frz]⟩
   |srow pre e sz xs=>
    obtain⟨k,rfl,hk⟩:=hres;have how:=hm.own _ _ hk;have hb:=hm.bl _ _ hk
    cases hu2 with
    |agg _ us hl hh=>
     have hlen:us.length=pre.length+1:=by simpa using hl.symm
     have hlt:pre.length<us.length:=by omega
     have hlast:=hh pre.length (.arr k xs.length) us[pre.length] (by rw[IN (by simp)];simp) (an hlt)
     have hval:us[pre.length]=(L' k).slice xs.length:=by
      generalize us[pre.length]=u at hlast
      cases hlast with
      |arr hk2 hn2 hu=>
       rw[hk]at hk2;injection hk2 with hk2;injection hk2 with a1 a2 a3 a4;subst a3;exact hu rfl
     have hsub:∀b o,(M b o∨((L' k).isNil=false∧b=(L' k).b))->af C L' st'.h b o:=by
      rintro b o (h|⟨hn,rfl⟩)
      .exact .inl h
      .exact .inr ⟨k,_,hk,hn,rfl,by simp[Blk.frz]⟩
     refine⟨L' k,us.take pre.length,?_,λhn=>hfr (how.row hn),⟨by rw[MD];omega,λi p u hp hu=>?_⟩,?_⟩
     .congr 1
      rw[<-hval,<-MF hlt,KL (by omega)]
     .have hi:=(th.1 hp).1
      rw[KN,IR hi]at hu;have:=hh i (.pv p) u (by rw[Iz (by simpa using hi),Is,hp];rfl) hu
      cases this with
      |pv hr=>exact hr.mono (Pres.sub hsub)
     .obtain⟨c1,c2,c3,c4,c5⟩:=hb
      refine⟨c1,Ng _,c3,c4,λhn=>?_⟩;obtain⟨d1,d2,arr,d3,d4,d5⟩:=c5 hn;refine⟨d1,d2,arr,d3,d4,λi x j p hx hj=>?_⟩;obtain⟨v,hv,hr⟩:=d5 i x j p hx hj;exact⟨v,hv,hr.mono (Pres.sub hsub)⟩
 rintro e a' w' ⟨st',hs',hq⟩
 cases e with
 |normal=>obtain⟨h1,v,h2,h3⟩:=hfin a' w' st' hs' hq;exact jA h1 h2 h3
 |ret=>obtain⟨h1,v,h2,h3⟩:=hfin a' w' st' hs' hq;exact jA h1 h2 h3
 |exit=>exact hq.elim
 |goto=>exact hq.elim
 |panic=>exact hq.elim
 |outgrown=>exact hq.elim
section
variable {V:Type}
def jd(n:Nat)(wr:Nat->Option V)(x0:V)(ls:Nat->Bool):V:=(List.range n).foldl (λx i=>if ls i=true then(wr i).getD x else x) x0
theorem kL(n:Nat)(wr:Nat->Option V)(x0:V)(ls:Nat->Bool):jd (n+1) wr x0 ls=if ls n=true then(wr n).getD (jd n wr x0 ls)else jd n wr x0 ls:=by
 simp[jd,PK,VA]
theorem PF{wr:Nat->Option V}{x0:V}{ls':Nat->Bool}(h:∀j,j<n->(wr j).isSome=true->ls j=ls' j):jd n wr x0 ls=jd n wr x0 ls':=by
 induction n with
 |zero=>rfl
 |succ n ih=>
  rw[kL,kL,ih (λj hj=>h j (by omega))]
  cases hw:wr n with
  |none=>simp
  |some v=>rw[h n (by omega) (by simp[hw])]
theorem rf{wr:Nat->Option V}{x0:V}(hi:i<=n):jd n wr x0 (λj=>decide (j<i))=jd i wr x0 (λ_=>true):=by
 induction n with
 |zero=>have:i=0:=by omega
        subst this;rfl
 |succ n ih=>
  by_cases e:i=n+1
  .subst e
   refine(PF (λj hj _=>?_));simpa using hj
  .rw[kL,ih (by omega)]
   have:¬n<i:=by omega
   simp[this]
theorem pW{wr:Nat->Option V}{x0:V}(hi:i<n)(hlater:(wr i).isSome=true->∀j,i<j->j<n->(wr j).isSome=true->ls j=false):
 jd n wr x0 (λj=>ls j||j==i)=(wr i).getD (jd n wr x0 ls):=by
 cases hw:wr i with
 |none=>
  simp only[Option.getD_none];refine PF (λj _ hj=>?_)
  have:j≠i:=λe=>by rw[e,hw]at hj;cases hj
  simp[this]
 |some v=>
  simp only[JX];have hl:=hlater (by simp[hw]);clear hlater
  induction n with
  |zero=>omega
  |succ n ih=>
   rw[kL];by_cases e:n=i
   .subst e;simp[hw]
   .have ih':=ih (by omega) (λj h1 h2=>hl j h1 (by omega))
    rw[ih']
    have hne:(n==i)=false:=by simpa using e
    simp only[hne,Bool.or_false]
    cases hwn:wr n with
    |none=>simp
    |some u=>rw[hl n (by omega) (by omega) (by simp[hwn])];simp
end
def oo(ops:Array Oper)(i j:Nat):Prop:=∃o,ops[j]?=some o∧∃e∈o.after.toList,Region.binds .any e=true∧e.on=i
inductive Pre(ops:Array Oper):Nat->Nat->Prop
 |one {i j:Nat} (h:oo ops i j):Pre ops i j
 |step {i q j:Nat} (h:Pre ops i q) (h':oo ops q j):Pre ops i j
def Dd(acc:List Nat)(es:List Edge):Nat:=es.foldl (λs e=>if Region.binds .any e=true then s ||| 2^e.on ||| acc.getD e.on 0 else s) 0
def UT:List Oper->List Nat->List Nat
 |[],acc=>acc
 |o::r,acc=>UT r (acc++[Dd acc o.after.toList])
theorem Ak{acc:List Nat}{i:Nat}:∀(es:List Edge)(s:Nat),(es.foldl (λs e=>if Region.binds .any e=true then s ||| 2^e.on ||| acc.getD e.on 0 else s) s).testBit i=true->
 s.testBit i=true∨∃e∈es,Region.binds .any e=true∧(e.on=i∨(acc.getD e.on 0).testBit i=true)
 |[],s,h=>.inl h
 |e::es,s,h=>by
  simp only[P8]at h;rcases Ak es _ h with h'|⟨e',he',hb,hx⟩
  .split at h'
   .rename_i hb
    rw[Nat.testBit_or,Nat.testBit_or,Nv,Nv]at h';rcases h' with(h'|h')|h'
    .exact .inl h'
    .refine .inr ⟨e,by simp,hb,.inl ?_⟩
     rw[Nat.testBit_two_pow]at h';simpa using h'
    .exact .inr ⟨e,by simp,hb,.inr h'⟩
   .exact .inl h'
  .exact .inr ⟨e',by simp[he'],hb,hx⟩
theorem uV{ops:Array Oper}:∀{l:List Oper}{acc:List Nat},(∀j,l[j]?=ops[acc.length+j]?)->(∀i j,(acc.getD j 0).testBit i=true->Pre ops i j)->
 ∀i j,((UT l acc).getD j 0).testBit i=true->Pre ops i j
 |[],acc,_,h,i,j,hb=>h i j hb
 |o::l,acc,hl,h,i,j,hb=>by
  refine uV (l:=l) (acc:=acc++[Dd acc o.after.toList]) (λj=>?_) ?_ i j hb
  .have:=hl (j+1)
   simp only[UU]at this;rw[this];congr 1;simp;omega
  .intro i j hb
   by_cases hj:j<acc.length
   .refine h i j ?_
    rwa [TN,Iz hj,<-TN]at hb
   .by_cases hj2:j=acc.length
    .subst hj2
     rw[TN,IN (by omega)]at hb;simp only[T1,OO,JX,Dd]at hb
     have h0:ops[acc.length]?=some o:=by have:=hl 0;simpa using this.symm
     rcases Ak _ _ hb with h'|⟨e,he,hbn,hx⟩
     .simp at h'
     .rcases hx with rfl|hx
      .exact .one ⟨o,h0,e,he,hbn,rfl⟩
      .exact .step (h i e.on hx) ⟨o,h0,e,he,hbn,rfl⟩
    .rw[TN,Jr (by simp;omega)]at hb
     simp at hb
def De(xs:List Operand):List Nat:=xs.filterMap λ|.tmp t=>some t|_=>none
def qe(ops:Array Oper)(o:Oper):List Nat:=De o.op.operands.toList++(match o.guard with|some (j,_)=>((ops[j]?).bind (·.dst)).toList|none=>[])
def lT(ops:Array Oper)(x y:Oper):Bool:=
 (match x.dst with|some r=>(qe ops y).contains r||y.dst==some r|none=>false)||(match y.dst with|some r=>(qe ops x).contains r|none=>false)
def HE(ops:Array Oper):Bool:=(List.range ops.size).all λj=>match ops[j]? with
 |some o=>o.after.toList.all λe=>!Region.binds .any e||decide (e.on<j)
 |none=>true
def kB(ops:Array Oper):Bool:=
 let tab:=UT ops.toList []
 HE ops&&(List.range ops.size).all λj=>(List.range j).all λi=>match ops[i]?,ops[j]? with
  |some x,some y=>!lT ops x y||(tab.getD j 0).testBit i
  |_,_=>true
def E9:Op->Bool
 |.lookup ..|.mapUpdate ..|.load ..|.store ..|.alloc _|.box ..|.build ..|.buildSlice ..|.indexAddr ..|.fieldAddr ..|.makeSlice ..|.call _|.assign _|.makeInterface ..=>true
 |_=>false
def xR(h:Hp)(k:Nat):List Nat:=match h k with
 |some (.box cs _ _)=>cs.flatMap xA
 |_=>[]
def Fa(h:Hp):AV->List Nat
 |.ptr k _=>xR h k
 |_=>[]
def K3(h:Hp):AV->List Nat
 |.fn _ _ caps=>let b:=caps.flatMap (Fa h);b++b.flatMap (xR h)
 |.ext (.barr k _ _)=>xR h k
 |_=>[]
def HF:Op->Bool
 |.call _=>true
 |_=>false
def mJ(o:Oper)(ρ:Operand->AV)(h:Hp):List Nat:=(if E9 o.op then o.op.operands.toList.flatMap λx=>MQ (ρ x)else[])++((if HF o.op then o.op.operands.toList.flatMap λx=>K3 h (ρ x)else[])++o.dst.toList)
def cK(K:List Nat)(h:Hp):Hp:=λk=>if K.contains k=true then h k else none
abbrev oq:=List (List Nat×List Nat)
def Df(a b:List Nat):Bool:=a.all λx=>!b.contains x
def jV(tab:List Nat)(acc:oq):Bool:=
 (List.range acc.length).all λj=>(List.range j).all λi=>match acc[i]?,acc[j]? with
   |some (W,K),some (W',K')=>(Df W K'&&Df W' K)||(tab.getD j 0).testBit i
   |_,_=>true
def lD(P:Program)(hn:List Nat)(N:Nat)(ops:Array Oper)(Q:oq->St->Prop):List Oper->oq->St->Prop
 |[],acc,st=>Q acc st
 |o::rest,acc,st=>dD N o.dst=true∧(match lP ops st.t o.guard with
   |some none=>t7 P hn o st.ev (cK (mJ o st.ev st.h) st.h) (λe=>(e.2.all λkb=>(mJ o st.ev st.h).contains kb.1)=true∧lD P hn N ops Q rest (acc++[(e.2.map (·.1),mJ o st.ev st.h)]) (st.put o.dst e.1 e.2))
   |some (some (d,b,want))=>yr b d st (λb' st'=>if b'=want then t7 P hn o st'.ev (cK (mJ o st'.ev st'.h) st'.h) (λe=>(e.2.all λkb=>(mJ o st'.ev st'.h).contains kb.1)=true∧lD P hn N ops Q rest (acc++[(e.2.map (·.1),mJ o st'.ev st'.h)]) (st'.put o.dst e.1 e.2))
    else lD P hn N ops Q rest (acc++[([],[])]) (st'.put o.dst (.pv (.val (.tuple #[]))) []))
   |none=>False)
theorem BL{c:AV}{d:Option Nat}(e:im P c args d h K):∃eff,im P c args d h (λx=>x=eff)∧K eff:=by
 unfold im at e|-;split at e
 .exact e.elim
 .split at e
  .exact e.elim
  .split at e
   .exact e.elim
   .rename_i hd
    split at e
    .exact e.elim
    .obtain⟨hout,res,hdet,he⟩:=e
     unfold ju at he;split at he
     .rename_i e0 heq
      refine⟨e0,?_,he⟩;simp only[hd];exact⟨hout,res,hdet,by unfold ju;simp only[heq]⟩
     .exact he.elim
theorem HG(e:t7 P hn o ρ h K):∃eff,t7 P hn o ρ h (λx=>x=eff)∧K eff:=by
 have hp:ju (fv P hn o ρ h) K->∃eff,ju (fv P hn o ρ h) (λx=>x=eff)∧K eff:=by
  intro e;unfold ju at e|-;split at e
  .rename_i eff _;exact⟨eff,rfl,e⟩
  .exact e.elim
 unfold t7 at e|-;split at e
 .split at e
  .rename_i c hop f hcal
   exact BL e
  .exact BL e
  .exact hp e
 .exact hp e
theorem r7(hsel:∀cs b,o.op≠.select cs b)(h:∀x∈o.op.operands,ρ x=ρ' x):bR P o ρ=bR P o ρ':=by
 unfold bR
 have h1:(o.op.operands.toList.all λx=>(fD (ρ x)).isSome)=(o.op.operands.toList.all λx=>(fD (ρ' x)).isSome):=by
  rw[Bool.eq_iff_iff,Ij,Ij];constructor
  .intro hh x hx;rw[<-h x (by simpa using hx)];exact hh x hx
  .intro hh x hx;rw[h x (by simpa using hx)];exact hh x hx
 have h2:execOp (λx=>rc (ρ x)) o=execOp (λx=>rc (ρ' x)) o:=execOp_congr o hsel (λx hx=>by simp only[h x hx]);rw[h1,h2]
structure Ef where
 d:Option Nat
 v:AV
 W:List (Nat×Blk)
 K:List Nat
 deriving Inhabited
def run(fs:List Ef)(st:St):St:=fs.foldl (λs f=>s.put f.d f.v f.W) st
def mh(P:Program)(o:Oper)(ρ:Operand->AV)(hK:Hp)(v:AV)(W:List (Nat×Blk)):Prop:=
 ∀(C:Cx)(L:Nat->Loc)(h:Hp)(w:World)(a:Act),C.P=P->MemL C L h w->(∀k b,hK k=some b->h k=some b)->(∀d,o.dst=some d->hK d=h d∧d<2000000)->
  (∀x∈o.op.operands,RepA w (af C L h) L h (ρ x) (a.eval x))->∀(next:Act->World->Prop)(Q:Exit->Act->World->Prop),
  (∀u w' L',aP C L h w L' (am h W) w'->RepA w' (af C L' (am h W)) L' (am h W) v u->next (a.put o.dst u) w')->o.wp C.P a w next Q
theorem Fb{hK:Hp}{v:AV}(e:t7 P hn o ρ hK (λx=>x=(v,W))):mh P o ρ hK v W:=by
 intro C L h w a hP hm hs hf hρ next Q hnext
 subst hP;refine C9 hm hs hf hρ e (λeff u w' L' he hA hv=>?_);subst he;exact hnext u w' L' hA hv
theorem mh.congr{hK:Hp}{v:AV}(hx:∀x∈o.op.operands,ρ x=ρ' x)(h:mh P o ρ hK v W):mh P o ρ' hK v W:=by
 intro C L h' w a hP hm hs hf hρ next Q hnext
 exact h C L h' w a hP hm hs hf (λx hx'=>by rw[hx x hx'];exact hρ x hx') next Q hnext
def ot(P:Program)(hn:List Nat)(N:Nat)(ops:Array Oper)(o:Oper)(st:St)(f:Ef):Prop:=
 dD N o.dst=true∧f.d=o.dst∧
  ((gb ops st.t o.guard=some true∧(∀d,o.dst=some d->f.K.contains d=true)∧mh P o st.ev (cK f.K st.h) f.v f.W∧(f.W.all λkb=>f.K.contains kb.1)=true)∨
   (gb ops st.t o.guard=some false∧f.v=.pv (.val (.tuple #[]))∧f.W=[]∧f.K=[]))
theorem ua{P:Program}{hn:List Nat}{N:Nat}{ops:Array Oper}{Q:oq->St->Prop}:∀{l:List Oper}{acc:oq}{st:St},lD P hn N ops Q l acc st->
 ∃fs:List Ef,fs.length=l.length∧(∀(i:Nat) o f,l[i]?=some o->fs[i]?=some f->ot P hn N ops o (run (fs.take i) st) f)∧Q (acc++fs.map λf=>(f.W.map (·.1),f.K)) (run fs st)
 |[],acc,st,e=>⟨[],rfl,λi o f h=>by simp at h,by simpa[lD,run]using e⟩
 |o::l,acc,st,e=>by
  simp only[lD]at e;obtain⟨hd,e⟩:=e
  have fin:∀(f:Ef),ot P hn N ops o st f->lD P hn N ops Q l (acc++[(f.W.map (·.1),f.K)]) (st.put f.d f.v f.W)->
   ∃fs:List Ef,fs.length=(o::l).length∧(∀(i:Nat) o' f',(o::l)[i]?=some o'->fs[i]?=some f'->ot P hn N ops o' (run (fs.take i) st) f')∧Q (acc++fs.map λf=>(f.W.map (·.1),f.K)) (run fs st):=by
   intro f hf hrest;obtain⟨fs,h1,h2,h3⟩:=ua hrest;refine⟨f::fs,by simp[h1],λi o' f' ho hf'=>?_,?_⟩
   .cases i with
    |zero=>simp at ho hf';subst ho;subst hf';exact hf
    |succ i=>exact h2 i o' f' (by simpa using ho) (by simpa using hf')
   .simpa[run,Oo]using h3
  split at e
  .rename_i hg
   obtain⟨eff,he,hall,hrest⟩:=HG e;exact fin ⟨o.dst,eff.1,eff.2,mJ o st.ev st.h⟩ ⟨hd,rfl,.inl ⟨pR hg,λd hd9=>by simp[mJ,hd9],Fb he,hall⟩⟩ hrest
  .rename_i d b want hg
   unfold yr at e;simp only at e;split at e
   .rename_i hgt
    subst hgt;obtain⟨eff,he,hall,hrest⟩:=HG e;exact fin ⟨o.dst,eff.1,eff.2,mJ o st.ev st.h⟩ ⟨hd,rfl,.inl ⟨(mQ hg).trans (by simp),λd hd9=>by simp[mJ,hd9],Fb he,hall⟩⟩ hrest
   .rename_i hgf
    exact fin ⟨o.dst,.pv (.val (.tuple #[])),[],[]⟩ ⟨hd,rfl,.inr ⟨(mQ hg).trans (by simpa using hgf),rfl,rfl,rfl⟩⟩ e
  .exact e.elim
def jG(W:List (Nat×Blk))(k:Nat):Option (Option Blk):=W.foldl (λx kb=>if k=kb.1 then some (some kb.2)else x) none
theorem rh(k:Nat):∀(W:List (Nat×Blk))(x:Option (Option Blk)),W.foldl (λx kb=>if k=kb.1 then some (some kb.2)else x) x=(match jG W k with|some y=>some y|none=>x)
 |[],x=>by simp[jG]
 |kb::W,x=>by
  simp only[P8,jG];rw[rh k W (if k=kb.1 then some (some kb.2)else x),rh k W (if k=kb.1 then some (some kb.2)else none)]
  cases jG W k with
  |some y=>rfl
  |none=>simp only;split<;>rfl
theorem pX(k:Nat):∀(W:List (Nat×Blk))(h:Hp),am h W k=(jG W k).getD (h k)
 |[],h=>rfl
 |kb::W,h=>by
  show am (ai h kb.1 (some kb.2)) W k=_;rw[pX k W]
  have hc:jG (kb::W) k=(match jG W k with|some y=>some y|none=>if k=kb.1 then some (some kb.2)else none):=by
   conv=>lhs;unfold jG
   rw[P8,rh k W (if k=kb.1 then some (some kb.2)else none)]
  rw[hc]
  cases jG W k with
  |some y=>rfl
  |none=>simp only[Option.getD_none,ai];split<;>rfl
theorem wJ{k:Nat}:∀{W:List (Nat×Blk)},(jG W k).isSome=true->k∈W.map (·.1)
 |[],h=>by simp[jG]at h
 |kb::W,h=>by
  simp only[jG,P8]at h;rw[rh k W (if k=kb.1 then some (some kb.2)else none)]at h;by_cases e:k=kb.1
  .simp[e]
  .rw[Ik e]at h
   have:(jG W k).isSome=true:=by cases hh:jG W k<;>simp_all
   have:=wJ this;simp at this|-;exact .inr this
section
variable (fs:List Ef)
def sR(r i:Nat):Option AV:=match fs[i]? with
 |some f=>if f.d=some r then some f.v else none
 |none=>none
def sS(k i:Nat):Option (Option Blk):=match fs[i]? with
 |some f=>jG f.W k
 |none=>none
def fK(n:Nat)(st:St)(ls:Nat->Bool):St:=⟨λr=>jd n (sR fs r) (st.t r) ls,λk=>jd n (sS fs k) (st.h k) ls⟩
theorem ou(st:St):∀i,i<=fs.length->∀r,(run (fs.take i) st).t r=jd i (sR fs r) (st.t r) (λ_=>true)
 |0,_,r=>by simp[run,jd]
 |i+1,hi,r=>by
  have hlt:i<fs.length:=by omega
  rw[MF hlt,kL];simp only[run,VA,P8,List.foldl_nil,J4];have ih:=ou st i (by omega) r;rw[run]at ih
  have hw:sR fs r i=if fs[i].d=some r then some fs[i].v else none:=by simp[sR,an hlt]
  rw[hw,<-ih]
  cases hd:fs[i].d with
  |none=>simp[St.put]
  |some d=>
   simp only[St.put,ai,IL];by_cases e:d=r
   .subst e;simp
   .rw[Ik (λh=>e h.symm),Ik e];rfl
theorem ov(st:St):∀i,i<=fs.length->∀k,(run (fs.take i) st).h k=jd i (sS fs k) (st.h k) (λ_=>true)
 |0,_,r=>by simp[run,jd]
 |i+1,hi,r=>by
  have hlt:i<fs.length:=by omega
  rw[MF hlt,kL];simp only[run,VA,P8,List.foldl_nil,J4];have ih:=ov st i (by omega) r;rw[run]at ih
  have hw:sS fs r i=jG fs[i].W r:=by simp[sS,an hlt]
  rw[hw,<-ih];simp only[St.put];exact pX r _ _
end
section
variable {C:Cx} {hn:List Nat} {ops:Array Oper} {fs:List Ef} {st:St}
def aQ(listed:Array Bool):Nat->Bool:=λi=>listed.getD i true
theorem ri(hc:∀i j,oo ops i j->ls j=true->ls i=true)(h:Pre ops i j):ls j=true->ls i=true:=by
 induction h with
 |one h=>exact hc _ _ h
 |step _ h' ih=>exact λhj=>ih (hc _ _ h' hj)
theorem mi(hs:kB ops=true){x y:Oper}(hij:i<j)(hx:ops[i]?=some x)(hy:ops[j]?=some y)(hc:lT ops x y=true):Pre ops i j:=by
 simp only[kB,An]at hs;have hj:j<ops.size:=(LU.1 hy).1;have h1:=Ij.1 hs.2 j (Mx.2 hj);have h2:=Ij.1 h1 i (Mx.2 hij);rw[hx,hy]at h2;simp only[hc,QO,Bool.false_or]at h2;exact uV (l:=ops.toList) (acc:=[]) (λj=>by simp) (λi j h=>by simp at h) i j h2
theorem nQ{acc:oq}(hs:jV (UT ops.toList []) acc=true){W K W' K':List Nat}(hij:i<j)(hx:acc[i]?=some (W,K))(hy:acc[j]?=some (W',K'))(hc:∃k,(k∈W∧k∈K')∨(k∈W'∧k∈K)):Pre ops i j:=by
 have hj:j<acc.length:=(th.1 hy).1;have h1:=Ij.1 hs j (Mx.2 hj);have h2:=Ij.1 h1 i (Mx.2 hij);rw[hx,hy]at h2;simp only[Nv,An]at h2;rcases h2 with⟨d1,d2⟩|h2
 .obtain⟨k,⟨a,b⟩|⟨a,b⟩⟩:=hc
  .have:=Ij.1 d1 k a
   simp at this;exact absurd b this
  .have:=Ij.1 d2 k a
   simp at this;exact absurd b this
 .exact uV (l:=ops.toList) (acc:=[]) (λj=>by simp) (λi j h=>by simp at h) i j h2
theorem rj(hs:kB ops=true)(h:oo ops i j):i<j:=by
 simp only[kB,An]at hs;obtain⟨o,ho,e,he,hb,rfl⟩:=h;have h1:=Ij.1 hs.1 j (Mx.2 (LU.1 ho).1);rw[ho]at h1;have h2:=Ij.1 h1 e he;simpa[hb]using h2
theorem mj{listed:Array Bool}:i∈Region.ready .any ops listed↔i<ops.size∧aQ listed i=false∧∀q,oo ops q i->listed.getD q false=true:=by
 unfold Region.ready aQ;rw[Ol,Mx];constructor
 .rintro⟨h1,h2⟩
  simp only[An,Mp]at h2;refine⟨h1,h2.1,?_⟩;rintro q ⟨o,ho,e,he,hb,rfl⟩;have h3:=h2.2;rw[ho]at h3;simp only[MG,JX,Array.all_eq_true_iff_forall_mem]at h3;have:=h3 e (by simpa using he);simpa[hb]using this
 .rintro⟨h1,h2,h3⟩
  refine⟨h1,?_⟩;simp only[An,Mp];refine⟨h2,?_⟩;have ho:ops[i]?=some ops[i]:=MA h1;rw[ho];simp only[MG,JX,Array.all_eq_true_iff_forall_mem];intro e he
  cases hb:Region.binds .any e with
  |false=>simp
  |true=>simp[h3 e.on ⟨_,ho,e,by simpa using he,hb,rfl⟩]
theorem Jk(hslot:kB ops=true)(hlen:fs.length=ops.size)(hstep:∀(i:Nat) o f,ops[i]?=some o->fs[i]?=some f->ot C.P hn C.N ops o (run (fs.take i) st) f)
 (hkey:jV (UT ops.toList []) (fs.map λf=>(f.W.map (·.1),f.K))=true){Q':Exit->Act->World->Prop}(hQ:∀a w,gP C (run fs st) a w->Q' .normal a w):
 ∀(fuel:Nat)(listed:Array Bool)(a:Act)(w:World),listed.size=ops.size->((List.range ops.size).filter λj=>!aQ listed j).length<=fuel->(∀i j,oo ops i j->aQ listed j=true->aQ listed i=true)->
  gP C (fK fs ops.size st (aQ listed)) a w->wpAny C.P .any ops Q' fuel listed a w:=by
 have hall:∀listed:Array Bool,Region.ready .any ops listed=[]->listed.size=ops.size->∀j,j<ops.size->aQ listed j=true:=by
  intro listed hr hsz j
  induction j using Nat.strongRecOn with
  |_ j ih=>
   intro hj
   cases hl:aQ listed j with
   |true=>rfl
   |false=>
    have:j∈Region.ready .any ops listed:=mj.2 ⟨hj,hl,λq hq=>by
     have hqj:=rj hslot hq;have:=ih q hqj (by omega);unfold aQ at this;rw[IV]at this|-;rw[MA (by omega)]at this|-
     simpa using this⟩
    rw[hr]at this;cases this
 have hend:∀(listed:Array Bool) a w,Region.ready .any ops listed=[]->listed.size=ops.size->gP C (fK fs ops.size st (aQ listed)) a w->Q' .normal a w:=by
  intro listed a w hr hsz hsim;apply hQ;have hl:=hall listed hr hsz
  have:fK fs ops.size st (aQ listed)=run fs st:=by
   have ht:run fs st=run (fs.take ops.size) st:=by rw[KL (by omega)]
   rw[ht]
   have h1:(fK fs ops.size st (aQ listed)).t=(run (fs.take ops.size) st).t:=by
    funext r;rw[ou fs st _ (by omega)];exact PF (λj hj _=>hl j hj)
   have h2:(fK fs ops.size st (aQ listed)).h=(run (fs.take ops.size) st).h:=by
    funext r;rw[ov fs st _ (by omega)];exact PF (λj hj _=>hl j hj)
   cases hA:fK fs ops.size st (aQ listed);cases hB:run (fs.take ops.size) st;rw[hA,hB]at h1 h2;simp at h1 h2;rw[h1,h2]
  rw[<-this];exact hsim
 intro fuel
 induction fuel with
 |zero=>
  intro listed a w hsz hcnt hcl hsim
  have hemp:Region.ready .any ops listed=[]:=by
   cases hr:Region.ready .any ops listed with
   |nil=>rfl
   |cons i r=>
    have hi:i∈Region.ready .any ops listed:=by rw[hr];simp
    obtain⟨h1,h2,_⟩:=mj.1 hi;have:i∈(List.range ops.size).filter λj=>!aQ listed j:=Ol.2 ⟨Mx.2 h1,by simp[h2]⟩;have hnil:((List.range ops.size).filter λj=>!aQ listed j)=[]:=LC (by omega);rw[hnil]at this;cases this
  exact⟨hemp,hend listed a w hemp hsz hsim⟩
 |succ fuel ih=>
  intro listed a w hsz hcnt hcl hsim;refine⟨λhr=>hend listed a w hr hsz hsim,λi hi=>?_⟩;obtain⟨hin,hli,hdir⟩:=mj.1 hi;have ho:ops[i]?=some ops[i]:=MA hin;have hf:fs[i]?=some (fs[i]'(by omega)):=an _;generalize ops[i]=o at ho;generalize fs[i]'(by omega)=f at hf;obtain⟨hdst,hfd,hcase⟩:=hstep i o f ho hf
  have hbefore:∀q,Pre ops q i->aQ listed q=true:=by
   intro q hq
   have hd:∀q,oo ops q i->aQ listed q=true:=by
    intro q hq;have hqi:=rj hslot hq;have:=hdir q hq;unfold aQ;rw[IV]at this|-;rw[MA (by omega)]at this|-;simpa using this
   cases hq with
   |one h=>exact hd q h
   |step h h'=>exact ri hcl h (hd _ h')
  have hafter:∀q,Pre ops i q->aQ listed q=false:=by
   intro q hq
   cases hlq:aQ listed q with
   |false=>rfl
   |true=>rw[ri hcl hq hlq]at hli;cases hli
  have hdj:∀j r,(sR fs r j).isSome=true->∃oj fj,ops[j]?=some oj∧fs[j]?=some fj∧oj.dst=some r:=by
   intro j r hj;unfold sR at hj;split at hj
   .rename_i fj hfj
    split at hj
    .rename_i hd
     have hjn:j<ops.size:=by rw[<-hlen];exact(th.1 hfj).1
     have hoj:ops[j]?=some ops[j]:=MA hjn;obtain⟨_,h2,_⟩:=hstep j _ fj hoj hfj;exact⟨_,fj,hoj,hfj,by rw[<-h2];exact hd⟩
    .cases hj
   .cases hj
  have hkj:∀j k,(sS fs k j).isSome=true->∃fj,fs[j]?=some fj∧k∈fj.W.map (·.1):=by
   intro j k hj;unfold sS at hj;split at hj
   .rename_i fj hfj;exact⟨fj,hfj,wJ hj⟩
   .cases hj
  have haccat:∀(j:Nat)(fj:Ef),fs[j]?=some fj->(fs.map λf=>(f.W.map (·.1),f.K))[j]?=some (fj.W.map (·.1),fj.K):=λj fj h=>by simp[h]
  have hagT:∀r∈qe ops o,(fK fs ops.size st (aQ listed)).t r=(run (fs.take i) st).t r:=by
   intro r hr;rw[ou fs st i (by omega),<-rf (n:=ops.size) (by omega)];refine PF (λj hj hw=>?_);obtain⟨oj,fj,hoj,hfj,hd⟩:=hdj j r hw;rcases Tc j i with hlt|rfl|hgt
   .rw[hbefore j (mi hslot hlt hoj ho (by simp[lT,hd,hr]))];simp[hlt]
   .rw[hli];simp
   .rw[hafter j (mi hslot hgt ho hoj (by simp[lT,hd,hr]))]
    have:¬j<i:=by omega
    simp[this]
  have hagH:∀k∈f.K,(fK fs ops.size st (aQ listed)).h k=(run (fs.take i) st).h k:=by
   intro k hk;rw[ov fs st i (by omega),<-rf (n:=ops.size) (by omega)];refine PF (λj hj hw=>?_);obtain⟨fj,hfj,hd⟩:=hkj j k hw;rcases Tc j i with hlt|rfl|hgt
   .rw[hbefore j (nQ hkey hlt (haccat j fj hfj) (haccat i f hf) ⟨k,.inl ⟨hd,hk⟩⟩)];simp[hlt]
   .rw[hli];simp
   .rw[hafter j (nQ hkey hgt (haccat i f hf) (haccat j fj hfj) ⟨k,.inr ⟨hd,hk⟩⟩)]
    have:¬j<i:=by omega
    simp[this]
  have hWK:∀k,k∈f.W.map (·.1)->k∈f.K:=by
   intro k hk;obtain⟨kb,hkb,rfl⟩:=KB.1 hk;rcases hcase with⟨_,_,_,hall⟩|⟨_,_,hW,_⟩
   .have:=Ij.1 hall kb hkb;simpa using this
   .rw[hW]at hkb;cases hkb
  have mI:fK fs ops.size st (aQ (listed.setIfInBounds i true))=(fK fs ops.size st (aQ listed)).put f.d f.v f.W:=by
   have hls:∀j,j<ops.size->aQ (listed.setIfInBounds i true) j=(aQ listed j||j==i):=by
    intro j hj;unfold aQ;by_cases e:j=i
    .subst e;simp[IV,hsz,hj]
    .have h1:(j==i)=false:=by simpa using e
     rw[h1,Bool.or_false,IV,IV,NE (by omega)]
   have h1:(fK fs ops.size st (aQ (listed.setIfInBounds i true))).t=((fK fs ops.size st (aQ listed)).put f.d f.v f.W).t:=by
    funext r
    show jd ops.size (sR fs r) (st.t r) (aQ (listed.setIfInBounds i true))=_;rw[PF (λj hj _=>hls j hj),pW hin ?_]
    .have hw:sR fs r i=if f.d=some r then some f.v else none:=by simp[sR,hf]
     rw[hw]
     cases hd:f.d with
     |none=>simp[St.put,fK]
     |some d=>
      simp only[St.put,ai,IL];by_cases e:d=r
      .subst e;simp
      .rw[Ik e,Ik (λh=>e h.symm)];rfl
    .intro hwi j hij hj hwj
     obtain⟨oi,fi,hoi,hfi,hdi⟩:=hdj i r hwi;obtain⟨oj,fj,hoj,hfj,hd⟩:=hdj j r hwj;rw[ho]at hoi;injection hoi with hoi;subst hoi;exact hafter j (mi hslot hij ho hoj (by simp[lT,hdi,hd]))
   have h2:(fK fs ops.size st (aQ (listed.setIfInBounds i true))).h=((fK fs ops.size st (aQ listed)).put f.d f.v f.W).h:=by
    funext k
    show jd ops.size (sS fs k) (st.h k) (aQ (listed.setIfInBounds i true))=_;rw[PF (λj hj _=>hls j hj),pW hin ?_]
    .have hw:sS fs k i=jG f.W k:=by simp[sS,hf]
     rw[hw];simp only[St.put];exact(pX k f.W (fK fs ops.size st (aQ listed)).h).symm
    .intro hwi j hij hj hwj
     obtain⟨fi,hfi,hdi⟩:=hkj i k hwi;obtain⟨fj,hfj,hd⟩:=hkj j k hwj;rw[hf]at hfi;injection hfi with hfi;subst hfi;exact hafter j (nQ hkey hij (haccat i f hf) (haccat j fj hfj) ⟨k,.inr ⟨hd,hWK k hdi⟩⟩)
   cases hA:fK fs ops.size st (aQ (listed.setIfInBounds i true));cases hB:(fK fs ops.size st (aQ listed)).put f.d f.v f.W;rw[hA,hB]at h1 h2;simp at h1 h2;rw[h1,h2]
  have hnext:∀a' w',gP C ((fK fs ops.size st (aQ listed)).put f.d f.v f.W) a' w'->wpAny C.P .any ops Q' fuel (listed.setIfInBounds i true) a' w':=by
   intro a' w' hs';refine ih (listed.setIfInBounds i true) a' w' (by simp[hsz]) ?_ ?_ (by rw[mI];exact hs')
   .have hle:((List.range ops.size).filter λj=>!aQ (listed.setIfInBounds i true) j).length<((List.range ops.size).filter λj=>!aQ listed j).length:=by
     have heq:((List.range ops.size).filter λj=>!aQ (listed.setIfInBounds i true) j)=((List.range ops.size).filter λj=>!aQ listed j).filter λj=>!(j==i):=by
      rw[List.filter_filter];refine List.filter_congr (λj hj=>?_);have hj':=Mx.1 hj;unfold aQ;by_cases e:j=i
      .subst e;simp[IV,hsz,hj']
      .have h1:(j==i)=false:=by simpa using e
       rw[h1,IV,IV,NE (by omega)];simp
     rw[heq];refine List.length_filter_lt_length_iff_exists.2 ⟨i,Ol.2 ⟨Mx.2 hin,by simp[hli]⟩,by simp⟩
    omega
   .intro q j hd hj
    have hset:∀m,aQ (listed.setIfInBounds i true) m=true↔(aQ listed m=true∨m=i):=by
     intro m;unfold aQ;by_cases e:m=i
     .subst e;simp[IV,hsz,hin]
     .rw[IV,IV,NE (by omega)];simp[e]
    rw[hset]at hj|-;rcases hj with hj|rfl
    .exact .inl (hcl q j hd hj)
    .exact .inl (hbefore q (.one hd))
  obtain⟨L,hm,hN,hdf,ht⟩:=hsim
  have hgd:gb ops (fK fs ops.size st (aQ listed)).t o.guard=gb ops (run (fs.take i) st).t o.guard:=by
   unfold gb;split
   .rfl
   .rename_i j want hg
    split
    .rename_i d hd
     rw[hagT d (by simp[qe,hg,hd])]
    .rfl
  unfold wpOp;rw[ho];simp only;rcases hcase with⟨hg,hK,hev,hallk⟩|⟨hg,hv,hW,_⟩
  .rw[eX ht (hgd.trans hg)]
   rw[IR rfl];refine .inl ?_
   have hops:∀x∈o.op.operands,(run (fs.take i) st).ev x=(fK fs ops.size st (aQ listed)).ev x:=by
    intro x hx
    cases x with
    |tmp t=>
     refine(hagT t ?_).symm;simp only[qe,De,JS,List.mem_filterMap];exact .inl ⟨.tmp t,by simpa using hx,rfl⟩
    |_=>rfl
   have hres:cK f.K (run (fs.take i) st).h=cK f.K (fK fs ops.size st (aQ listed)).h:=by
    funext k
    unfold cK;split
    .rename_i hk;exact(hagH k (by simpa using hk)).symm
    .rfl
   rw[hres]at hev;refine mh.congr hops hev C L _ w a rfl hm ?_ ?_ (λx _=>dx ht x) _ _ (λu w' L' hA hv=>?_)
   .intro k b hk;unfold cK at hk;split at hk
    .exact hk
    .cases hk
   .intro d hd
    unfold cK;rw[IR (hK d hd)];refine⟨rfl,?_⟩;have hd9:=hdst;rw[hd]at hd9;simp only[dD,An,HX]at hd9;exact hd9.2
   .refine hnext _ _ ?_
    rw[hfd];exact gP.put hm hN hdf ht hdst hA hv
  .rw[eX ht (hgd.trans hg)]
   simp only[IA,JE];refine hnext _ _ ?_;rw[hfd,hv,hW];exact gP.put hm hN hdf ht hdst (W:=[]) (aP.refl hm) (.pv (.val _))
theorem WP.drawF(hmx:C.P.follows .mixedOrders=true)(hslot:kB ops=true){fs:List Ef}(h1:fs.length=ops.size)(h2:∀(i:Nat) o f,ops[i]?=some o->fs[i]?=some f->ot C.P hn C.N ops o (run (fs.take i) st) f)
 (h3:jV (UT ops.toList []) (fs.map λf=>(f.W.map (·.1),f.K))=true)(h4:Q .normal (run fs st)):WP C (.region id ops true) Q st:=by
 intro a w hs;refine wp_region_any hmx (Jk (fs:=fs) (st:=st) hslot h1 h2 h3 (λa w hs=>⟨_,hs,h4⟩) _ _ _ _ (by simp) ?_ ?_ ?_)
 .refine SN (VG _ _) (by simp)
 .intro i j hd hj
  have hjn:j<ops.size:=by obtain⟨o,ho,_⟩:=hd;exact(LU.1 ho).1
  unfold aQ at hj;rw[IV,Un,IR hjn]at hj;cases hj
 .have:fK fs ops.size st (aQ (Array.replicate ops.size false))=st:=by
   have hf:∀j,j<ops.size->aQ (Array.replicate ops.size false) j=false:=by
    intro j hj;unfold aQ;rw[IV,Un,IR hj];rfl
   have hz:∀{V:Type}(wr:Nat->Option V)(x0:V),jd ops.size wr x0 (aQ (Array.replicate ops.size false))=x0:=by
    intro V wr x0;rw[PF (ls':=λ_=>false) (λj hj _=>hf j hj)]
    have:∀n,jd n wr x0 (λ_=>false)=x0:=by
     intro n;induction n with
     |zero=>rfl
     |succ n ih=>rw[kL];simp[ih]
    exact this _
   cases st;unfold fK;simp[hz]
  rw[this];obtain⟨L,hm,hN,hdf,ht⟩:=hs;have hg:=hm.grow (Ext.drew (λ_=>False) w);exact⟨L,hg.1,hN,hdf,λn=>(ht n).mono hg.2 (KC.refl _ _)⟩
theorem WP.draw(hmx:C.P.follows .mixedOrders=true)(hslot:kB ops=true)
 (h:lD C.P hn C.N ops (λacc st=>jV (UT ops.toList []) acc=true∧Q .normal st) ops.toList [] st):WP C (.region id ops true) Q st:=by
 obtain⟨fs,h1,h2,h3,h4⟩:=ua h;exact WP.drawF (hn:=hn) hmx hslot (by rw[h1];simp) (λi o f ho hf=>h2 i o f (by simpa using ho) hf) (by simpa using h3) h4
theorem WP.drawX(n:Nat)(ho:ops.toList[n]?=some o)(hmx:C.P.follows .mixedOrders=true)(hslot:kB ops=true)
 (h:lD C.P hn C.N ops (λacc st1=>∃f,ot C.P hn C.N ops o st1 f∧lD C.P hn C.N ops (λacc st=>jV (UT ops.toList []) acc=true∧Q .normal st) (ops.toList.drop (n+1)) (acc++[(f.W.map (·.1),f.K)]) (st1.put f.d f.v f.W)) (ops.toList.take n) [] st):WP C (.region id ops true) Q st:=by
 obtain⟨fs1,a1,a2,f,hf,hrest⟩:=ua h;obtain⟨fs2,b1,b2,b3,b4⟩:=ua hrest;have hlt:=(th.1 ho).1
 have l1:fs1.length=n:=by rw[a1,MD];omega
 have l2:fs2.length=ops.size-(n+1):=by rw[b1,Q7,On]
 have hsz:ops.toList.length=ops.size:=On
 have hrun:∀i,n+1<=i->run ((fs1++f::fs2).take i) st=run (fs2.take (i-(n+1))) ((run fs1 st).put f.d f.v f.W):=by
  intro i hi;rw[List.take_append,KL (by omega),l1,show i-n=(i-(n+1))+1 by omega,List.take_succ_cons];simp[run]
 refine WP.drawF (hn:=hn) (fs:=fs1++f::fs2) hmx hslot (by simp;omega) (λi o' f' ho' hf'=>?_) ?_ ?_
 .by_cases h1:i<n
  .rw[Iz (by omega)]at hf'
   rw[SM (by omega)];exact a2 i o' f' (by rw[KN,IR h1];simpa using ho') hf'
  .by_cases h2:i=n
   .subst h2
    rw[IN (by omega),l1,T1]at hf';injection hf' with hf';subst hf';rw[<-M7,ho]at ho';injection ho' with ho';subst ho';rw[SM (by omega),KL (by omega)];exact hf
   .rw[IN (by omega),l1,show i-n=(i-(n+1))+1 by omega,UU]at hf'
    rw[hrun i (by omega)];refine b2 (i-(n+1)) o' f' ?_ hf';rw[NG,show n+1+(i-(n+1))=i by omega];simpa using ho'
 .simpa[Oo]using b3
 .have:=hrun (fs1++f::fs2).length (by simp;omega)
  rw[T3,KL (by simp;omega)]at this;rw[this];exact b4
end
@[simp] theorem HH{α:Type}(f:Nat->α)(k:Nat)(v:α)(n:Nat):ai f k v n=if n=k then v else f n:=rfl
@[simp] theorem Pa(args:List Arg)(n:Nat):Db args n=(match args[n]? with
 |some (.pv p)=>.pv p
 |some (.bx i)=>.ptr (pk i) 0
 |none=>.undef):=rfl
theorem Al(hin:List (List PV))(k:Nat):uT hin k=if k<1000000 then none else(match hin[k-1000000]? with
 |some ps=>some (.box (ps.map .pv) false false)
 |none=>none):=rfl
@[simp] theorem LP(K:List Nat)(h:Hp)(k:Nat):cK K h k=if K.contains k=true then h k else none:=rfl
@[simp] theorem OY:Da C y Q .normal st=WP C y Q st:=rfl
@[simp] theorem Qs:Da C y Q .ret st=Q .ret st:=rfl
@[simp] theorem PM:Da C y Q (.exit i) st=Q (.exit i) st:=rfl
@[simp] theorem MU:sP id Q .normal st=Q .normal st:=rfl
@[simp] theorem PN:sP id Q .ret st=Q .ret st:=rfl
@[simp] theorem Pb:sP id Q (.exit i) st=if i=id then Q .normal st else Q (.exit i) st:=rfl
@[simp] theorem Tu:HC P rs hout res .ret st=jF P rs hout res st:=rfl
@[simp] theorem Pc:HC P rs hout res .normal st=jF P rs hout res st:=rfl
@[simp] theorem TQ(ks:List Nat)(st:St)(n:Nat):(st.kill ks).t n=aC ks (st.t n):=rfl
@[simp] theorem TR(ks:List Nat)(st:St)(k:Nat):(st.kill ks).h k=if ks.contains k=true then none else(st.h k).map (bQ ks):=rfl
@[simp] theorem Qt:yr true d st F=F true st:=rfl
@[simp] theorem PO:yr false d st F=F false st:=rfl
def St.lit(st:St)(d:Nat)(b:Bool):St:=⟨ai st.t d (.pv (.val (.bool b))),st.h⟩
section
variable (P:Program) (hn:List Nat) (N:Nat) (ops:Array Oper) (Q:St->Prop) (o:Oper) (rest:List Oper) (st:St)
def xK(x:Option dl):Prop:=ju x (λe=>dX P hn N ops Q rest (st.put o.dst e.1 e.2))
def xC(g:FuncId)(as:List Arg)(ks:List Nat)(W0:List (Nat×Blk))(hin:List (List PV)):Prop:=y8 P g as hin λhout res=>xK P hn N ops Q o rest st (mg st.h o.dst ks W0 hout res)
def MV(g:FuncId)(as:List Arg)(ks:List Nat)(W0:List (Nat×Blk)):Bool->Option (List (List PV))->Prop
 |false,some hin=>xC P hn N ops Q o rest st g as ks W0 hin
 |_,_=>False
def K6(g:FuncId):Option (List Arg×List Nat×List (Nat×Blk))->Prop
 |some (as,ks,W0)=>MV P hn N ops Q o rest st g as ks W0 (W0.any λkb=>ks.contains kb.1) (mI st.h ks)
 |none=>False
def Dg(args:List AV):Option (FuncId×List AV×List AV)->Prop
 |some (g,first,caps)=>K6 P hn N ops Q o rest st g (jU st.h (first++args++caps) [])
 |none=>False
def PP:AV->Prop
 |.fn (.func g) _ _=>fJ P g∧dX P hn N ops Q rest (st.put o.dst .undef [])
 |_=>False
def xN:Bool->Prop
 |true=>Gc (dX P hn N ops Q rest (st.put o.dst (.pv (.val (.bool true))) [])) (dX P hn N ops Q rest (st.put o.dst (.pv (.val (.bool false))) []))
 |false=>xK P hn N ops Q o rest st (fv P hn o st.ev st.h)
def xO:Prop:=match o.op with
 |.call c=>match c.callee with
  |.value f=>Dg P hn N ops Q o rest st (c.args.toList.map st.ev) (cZ (st.ev f))
  |.invoke r name=>Dg P hn N ops Q o rest st (c.args.toList.map st.ev) (cZ (qH P name (st.ev r)))
  |_=>xK P hn N ops Q o rest st (fv P hn o st.ev st.h)
 |.defer c=>match c.callee with
  |.value f=>if c.args.size=0 then PP P hn N ops Q o rest st (st.ev f)else False
  |_=>False
 |.binOp op t x y _=>xN P hn N ops Q o rest st (od (st.ev y)&&nB P t&&rE st.h (st.ev x)&&(op==.eql||op==.neq))
 |_=>xK P hn N ops Q o rest st (fv P hn o st.ev st.h)
def xB(_:Nat)(want:Bool)(b:Bool):Prop:=if b=want then xO P hn N ops Q o rest st else dX P hn N ops Q rest (st.put o.dst (.pv (.val (.tuple #[]))) [])
def xG:Option (Option (Nat×Bool×Bool))->Prop
 |some none=>xO P hn N ops Q o rest st
 |some (some (d,b,want))=>xB P hn N ops Q o rest st d want b
 |none=>False
end
section
variable {P:Program} {hn:List Nat} {N:Nat} {ops:Array Oper} {Q:St->Prop} {o:Oper} {rest:List Oper} {st:St}
@[simp] theorem Qu:xN P hn N ops Q o rest st false=xK P hn N ops Q o rest st (fv P hn o st.ev st.h):=rfl
@[simp] theorem Tv:xN P hn N ops Q o rest st true=Gc (dX P hn N ops Q rest (st.put o.dst (.pv (.val (.bool true))) [])) (dX P hn N ops Q rest (st.put o.dst (.pv (.val (.bool false))) [])):=rfl
@[simp] theorem TS{f c:List AV}:PP P hn N ops Q o rest st (.fn (.func g) f c)=(fJ P g∧dX P hn N ops Q rest (st.put o.dst .undef [])):=rfl
theorem Dh{c:AV}:Dg P hn N ops Q o rest st args (cZ c)=im P c args o.dst st.h (λe=>dX P hn N ops Q rest (st.put o.dst e.1 e.2)):=by
 unfold im
 cases cZ c with
 |none=>rfl
 |some q=>
  obtain⟨g,first,caps⟩:=q;simp only[Dg]
  cases jU st.h (first++args++caps) []with
  |none=>rfl
  |some q=>
   obtain⟨as,ks,W0⟩:=q;simp only[K6]
   cases W0.any λkb=>ks.contains kb.1 with
   |true=>rfl
   |false=>
    cases mI st.h ks with
    |none=>rfl
    |some hin=>rfl
theorem K7:xO P hn N ops Q o rest st=wy P hn o st.ev st.h (λe=>dX P hn N ops Q rest (st.put o.dst e.1 e.2)):=by
 obtain⟨dst,op,ty,pos,aft,gd⟩:=o
 cases op<;>try rfl
 case binOp op t x y t'=>
  simp only[xO,wy];cases od (st.ev y)&&nB P t&&rE st.h (st.ev x)&&(op==.eql||op==.neq)<;>rfl
 rename_i c;obtain⟨callee,args,ts⟩:=c
 cases callee<;>try rfl
 all_goals first
  |(rename_i f name;show Dg P hn N ops Q _ rest st (args.toList.map st.ev) (cZ (qH P name (st.ev f)))=im P (qH P name (st.ev f)) (args.toList.map st.ev) dst st.h _;exact Dh)
  |(rename_i f;show Dg P hn N ops Q _ rest st (args.toList.map st.ev) (cZ (st.ev f))=im P (st.ev f) (args.toList.map st.ev) dst st.h _;exact Dh)
@[simp] theorem Tw:dX P hn N ops Q [] st=Q st:=rfl
@[simp] theorem Qv:dX P hn N ops Q (o::rest) st=(dD N o.dst=true∧xG P hn N ops Q o rest st (lP ops st.t o.guard)):=by
 simp only[dX]
 congr 1
 cases hg:lP ops st.t o.guard with
 |none=>rfl
 |some g=>cases g with
  |none=>simp only[xG];rw[K7]
  |some q=>obtain⟨d,b,want⟩:=q;simp only[xG,xB,yr];rw[K7]
@[simp] theorem Tx:xG P hn N ops Q o rest st (some none)=xO P hn N ops Q o rest st:=rfl
@[simp] theorem Ty:xG P hn N ops Q o rest st (some (some (d,b,want)))=xB P hn N ops Q o rest st d want b:=rfl
@[simp] theorem U9:xB P hn N ops Q o rest st d true true=xO P hn N ops Q o rest st:=rfl
@[simp] theorem Va:xB P hn N ops Q o rest st d false false=xO P hn N ops Q o rest st:=rfl
@[simp] theorem Vb:xB P hn N ops Q o rest st d true false=dX P hn N ops Q rest (st.put o.dst (.pv (.val (.tuple #[]))) []):=rfl
@[simp] theorem Ve:xB P hn N ops Q o rest st d false true=dX P hn N ops Q rest (st.put o.dst (.pv (.val (.tuple #[]))) []):=rfl
@[simp] theorem Tz{e:dl}:xK P hn N ops Q o rest st (some e)=dX P hn N ops Q rest (st.put o.dst e.1 e.2):=rfl
@[simp] theorem Qw:Dg P hn N ops Q o rest st args (some (g,first,caps))=K6 P hn N ops Q o rest st g (jU st.h (first++args++caps) []):=rfl
@[simp] theorem Qx:K6 P hn N ops Q o rest st g (some (as,ks,W0))=MV P hn N ops Q o rest st g as ks W0 (W0.any λkb=>ks.contains kb.1) (mI st.h ks):=rfl
@[simp] theorem Qy:MV P hn N ops Q o rest st g as ks W0 false (some hin)=xC P hn N ops Q o rest st g as ks W0 hin:=rfl
attribute [simp] xO
theorem bS(h:ab P g as hin hout res)(hx:xK P hn N ops Q o rest st (mg st.h o.dst ks W0 hout res)):
 xC P hn N ops Q o rest st g as ks W0 hin:=⟨hout,res,h,hx⟩
theorem Am(h:st.t d=.pv (.val (.bool b))):st.lit d b=st:=by
 unfold St.lit
 have:ai st.t d (.pv (.val (.bool b)))=st.t:=by
  grind [HH]
 rw[this]
theorem bB(h:st.t d=.pv (.val (.bool b)))(ht:b=true->xB P hn N ops Q o rest (st.lit d true) d want true)(hf:b=false->xB P hn N ops Q o rest (st.lit d false) d want false):
 xB P hn N ops Q o rest st d want b:=by
 cases b with
 |true=>have:=ht rfl;rw[Am h]at this;exact this
 |false=>have:=hf rfl;rw[Am h]at this;exact this
end
section
variable (P:Program) (hn:List Nat) (N:Nat) (ops:Array Oper) (Q:oq->St->Prop) (o:Oper) (rest:List Oper) (acc:oq) (st:St) (K:List Nat)
def yK(x:Option dl):Prop:=ju x (λe=>(e.2.all λkb=>K.contains kb.1)=true∧lD P hn N ops Q rest (acc++[(e.2.map (·.1),K)]) (st.put o.dst e.1 e.2))
def yC(g:FuncId)(as:List Arg)(ks:List Nat)(W0:List (Nat×Blk))(hin:List (List PV)):Prop:=y8 P g as hin λhout res=>yK P hn N ops Q o rest acc st K (mg (cK K st.h) o.dst ks W0 hout res)
def MW(g:FuncId)(as:List Arg)(ks:List Nat)(W0:List (Nat×Blk)):Bool->Option (List (List PV))->Prop
 |false,some hin=>yC P hn N ops Q o rest acc st K g as ks W0 hin
 |_,_=>False
def K8(g:FuncId):Option (List Arg×List Nat×List (Nat×Blk))->Prop
 |some (as,ks,W0)=>MW P hn N ops Q o rest acc st K g as ks W0 (W0.any λkb=>ks.contains kb.1) (mI (cK K st.h) ks)
 |none=>False
def Di(args:List AV):Option (FuncId×List AV×List AV)->Prop
 |some (g,first,caps)=>K8 P hn N ops Q o rest acc st K g (jU (cK K st.h) (first++args++caps) [])
 |none=>False
def yO:Prop:=match o.op with
 |.call c=>match c.callee with
  |.value f=>Di P hn N ops Q o rest acc st K (c.args.toList.map st.ev) (cZ (st.ev f))
  |.invoke r name=>Di P hn N ops Q o rest acc st K (c.args.toList.map st.ev) (cZ (qH P name (st.ev r)))
  |_=>yK P hn N ops Q o rest acc st K (fv P hn o st.ev (cK K st.h))
 |_=>yK P hn N ops Q o rest acc st K (fv P hn o st.ev (cK K st.h))
def yB(_:Nat)(want:Bool)(b:Bool):Prop:=if b=want then yO P hn N ops Q o rest acc st (mJ o st.ev st.h)else lD P hn N ops Q rest (acc++[([],[])]) (st.put o.dst (.pv (.val (.tuple #[]))) [])
def yG:Option (Option (Nat×Bool×Bool))->Prop
 |some none=>yO P hn N ops Q o rest acc st (mJ o st.ev st.h)
 |some (some (d,b,want))=>yB P hn N ops Q o rest acc st d want b
 |none=>False
end
section
variable {P:Program} {hn:List Nat} {N:Nat} {ops:Array Oper} {Q:oq->St->Prop} {o:Oper} {rest:List Oper} {acc:oq} {st:St} {K:List Nat}
theorem Dj{c:AV}:Di P hn N ops Q o rest acc st K args (cZ c)=im P c args o.dst (cK K st.h) (λe=>(e.2.all λkb=>K.contains kb.1)=true∧lD P hn N ops Q rest (acc++[(e.2.map (·.1),K)]) (st.put o.dst e.1 e.2)):=by
 unfold im
 cases cZ c with
 |none=>rfl
 |some q=>
  obtain⟨g,first,caps⟩:=q;simp only[Di]
  cases jU (cK K st.h) (first++args++caps) []with
  |none=>rfl
  |some q=>
   obtain⟨as,ks,W0⟩:=q;simp only[K8]
   cases W0.any λkb=>ks.contains kb.1 with
   |true=>rfl
   |false=>
    cases mI (cK K st.h) ks with
    |none=>rfl
    |some hin=>rfl
theorem K9:yO P hn N ops Q o rest acc st K=t7 P hn o st.ev (cK K st.h) (λe=>(e.2.all λkb=>K.contains kb.1)=true∧lD P hn N ops Q rest (acc++[(e.2.map (·.1),K)]) (st.put o.dst e.1 e.2)):=by
 obtain⟨dst,op,ty,pos,aft,gd⟩:=o
 cases op<;>try rfl
 rename_i c;obtain⟨callee,args,ts⟩:=c
 cases callee<;>try rfl
 all_goals first
  |(rename_i f name;show Di P hn N ops Q _ rest acc st K (args.toList.map st.ev) (cZ (qH P name (st.ev f)))=im P (qH P name (st.ev f)) (args.toList.map st.ev) dst (cK K st.h) _;exact Dj)
  |(rename_i f;show Di P hn N ops Q _ rest acc st K (args.toList.map st.ev) (cZ (st.ev f))=im P (st.ev f) (args.toList.map st.ev) dst (cK K st.h) _;exact Dj)
@[simp] theorem TA:lD P hn N ops Q [] acc st=Q acc st:=rfl
@[simp] theorem Qz:lD P hn N ops Q (o::rest) acc st=(dD N o.dst=true∧yG P hn N ops Q o rest acc st (lP ops st.t o.guard)):=by
 simp only[lD]
 congr 1
 cases hg:lP ops st.t o.guard with
 |none=>rfl
 |some g=>cases g with
  |none=>simp only[yG];rw[K9]
  |some q=>obtain⟨d,b,want⟩:=q;simp only[yG,yB,yr];rw[K9]
@[simp] theorem TB:yG P hn N ops Q o rest acc st (some none)=yO P hn N ops Q o rest acc st (mJ o st.ev st.h):=rfl
@[simp] theorem TC:yG P hn N ops Q o rest acc st (some (some (d,b,want)))=yB P hn N ops Q o rest acc st d want b:=rfl
@[simp] theorem Vf:yB P hn N ops Q o rest acc st d true true=yO P hn N ops Q o rest acc st (mJ o st.ev st.h):=rfl
@[simp] theorem Vg:yB P hn N ops Q o rest acc st d false false=yO P hn N ops Q o rest acc st (mJ o st.ev st.h):=rfl
@[simp] theorem Vh:yB P hn N ops Q o rest acc st d true false=lD P hn N ops Q rest (acc++[([],[])]) (st.put o.dst (.pv (.val (.tuple #[]))) []):=rfl
@[simp] theorem Vi:yB P hn N ops Q o rest acc st d false true=lD P hn N ops Q rest (acc++[([],[])]) (st.put o.dst (.pv (.val (.tuple #[]))) []):=rfl
@[simp] theorem TD{e:dl}:yK P hn N ops Q o rest acc st K (some e)=((e.2.all λkb=>K.contains kb.1)=true∧lD P hn N ops Q rest (acc++[(e.2.map (·.1),K)]) (st.put o.dst e.1 e.2)):=rfl
@[simp] theorem QA:Di P hn N ops Q o rest acc st K args (some (g,first,caps))=K8 P hn N ops Q o rest acc st K g (jU (cK K st.h) (first++args++caps) []):=rfl
@[simp] theorem QB:K8 P hn N ops Q o rest acc st K g (some (as,ks,W0))=MW P hn N ops Q o rest acc st K g as ks W0 (W0.any λkb=>ks.contains kb.1) (mI (cK K st.h) ks):=rfl
@[simp] theorem QC:MW P hn N ops Q o rest acc st K g as ks W0 false (some hin)=yC P hn N ops Q o rest acc st K g as ks W0 hin:=rfl
attribute [simp] yO
theorem uW(h:ab P g as hin hout res)(hx:yK P hn N ops Q o rest acc st K (mg (cK K st.h) o.dst ks W0 hout res)):
 yC P hn N ops Q o rest acc st K g as ks W0 hin:=⟨hout,res,h,hx⟩
theorem Jl(h:st.t d=.pv (.val (.bool b)))(ht:b=true->yB P hn N ops Q o rest acc (st.lit d true) d want true)(hf:b=false->yB P hn N ops Q o rest acc (st.lit d false) d want false):
 yB P hn N ops Q o rest acc st d want b:=by
 cases b with
 |true=>have:=ht rfl;rw[Am h]at this;exact this
 |false=>have:=hf rfl;rw[Am h]at this;exact this
end
attribute [simp] AZ qH
attribute [simp] lN ni y5 xE AU ww zT rB KY lO uJ AW AY xI Hs E4 KZ Jc Jd CQ CP Ga xR Fa K3 HF aO XV.key
attribute [simp] CV rF Gb
attribute [simp] Cw zY xM xP y6
attribute [simp] zX uO rE nB zZ CT y7 CU
attribute [simp] St.lit dD lP fv St.ev St.put am iQ AV.cells PV.cells Value.cells pP wv TK.isAgg gq zS tW iA fg lB
 tZ zW uM xJ xL oe cZ jU mI kv mg frz tG qG AT pO rU lu F8 xD CR mP od qc lC wu qR jT
 xF dC pQ tY uK rC xH rD F9 Hr gt uL zU Cv zV CS wx ly mS jF r6 aC bQ bL MQ xA mJ E9 Op.operands Call.operands
section
variable {C:Cx} {Q:Exit->St->Prop} {st:St} {x y:Code} {c:Operand}
def uX(C:Cx)(x y:Code)(Q:Exit->St->Prop)(st:St):AV->Prop
 |.pv (.val (.bool b))=>(b=true->WP C x Q st)∧(b=false->WP C y Q st)
 |_=>False
theorem EQ(ht:b=true->WP C x Q st)(hf:b=false->WP C y Q st):uX C x y Q st (.pv (.val (.bool b))):=⟨ht,hf⟩
@[simp] theorem Pd:uX C x y Q st (.pv (.val (.bool true)))=WP C x Q st:=by simp[uX]
@[simp] theorem OZ:uX C x y Q st (.pv (.val (.bool false)))=WP C y Q st:=by simp[uX]
theorem WP.cond'(h:uX C x y Q st (st.ev c)):WP C (.cond c x y) Q st:=by
 cases hv:st.ev c with
 |pv p=>cases p with
  |val v=>cases v with
   |bool b=>rw[hv]at h;exact WP.cond hv h.1 h.2
   |_=>rw[hv]at h;exact h.elim
  |_=>rw[hv]at h;exact h.elim
 |_=>rw[hv]at h;exact h.elim
end
section
variable {C:Cx} {Q:Exit->St->Prop} {st:St}
def Cy(ks:List Nat)(J:St->Prop)(Q:Exit->St->Prop):Exit->St->Prop
 |.normal,st=>J (st.kill ks)
 |e,st=>Q e st
@[simp] theorem MX{J:St->Prop}:Cy ks J Q .normal st=J (st.kill ks):=rfl
@[simp] theorem PQ{J:St->Prop}:Cy ks J Q .ret st=Q .ret st:=rfl
@[simp] theorem Pe{J:St->Prop}:Cy ks J Q (.exit i) st=Q (.exit i) st:=rfl
theorem WP.loopN(ks:List Nat)(N:Nat)(I:Nat->St->Prop)(h₀:I 0 (st.kill ks))
 (round:∀i st,i<=N->I i st->WP C c (Cy ks (λst'=>i<N∧I (i+1) st') Q) st):WP C (.loop c) Q st:=by
 classical
 refine WP.loop ks (λst=>∃i,i<=N∧I i st) (λst=>N-(if h:∃i,i<=N∧I i st∧∀j,j<=N->I j st->j<=i then h.choose else 0)) ⟨0,Ng _,h₀⟩ ?_;intro st ⟨i₀,hi₀,hI₀⟩
 have hmax:∃i,i<=N∧I i st∧∀j,j<=N->I j st->j<=i:=by
  have:∀d i,N-i<=d->i<=N->I i st->∃i,i<=N∧I i st∧∀j,j<=N->I j st->j<=i:=by
   intro d
   induction d with
   |zero=>intro i hd hi hI;exact⟨i,hi,hI,λj hj _=>by omega⟩
   |succ d ih=>
    intro i hd hi hI;by_cases h:∃j,j<=N∧I j st∧i<j
    .obtain⟨j,hj,hIj,hij⟩:=h;exact ih j (by omega) hj hIj
    .exact⟨i,hi,hI,λj hj hIj=>Nat.le_of_not_lt (λhlt=>h ⟨j,hj,hIj,hlt⟩)⟩
  exact this N i₀ (by omega) hi₀ hI₀
 have hm:=hmax.choose_spec;refine WP.mono (round _ st hm.1 hm.2.1) ?_;intro e st' hq
 cases e with
 |normal=>
  obtain⟨hlt,hI⟩:=hq;refine⟨⟨_,hlt,hI⟩,?_⟩
  have hex:∃i,i<=N∧I i (st'.kill ks)∧∀j,j<=N->I j (st'.kill ks)->j<=i:=by
   have:∀d i,N-i<=d->i<=N->I i (st'.kill ks)->∃i,i<=N∧I i (st'.kill ks)∧∀j,j<=N->I j (st'.kill ks)->j<=i:=by
    intro d
    induction d with
    |zero=>intro i hd hi hI;exact⟨i,hi,hI,λj hj _=>by omega⟩
    |succ d ih=>
     intro i hd hi hI;by_cases h:∃j,j<=N∧I j (st'.kill ks)∧i<j
     .obtain⟨j,hj,hIj,hij⟩:=h;exact ih j (by omega) hj hIj
     .exact⟨i,hi,hI,λj hj hIj=>Nat.le_of_not_lt (λhlt=>h ⟨j,hj,hIj,hlt⟩)⟩
   exact this N _ (by omega) hlt hI
  have h1:=hex.choose_spec.2.2 _ hlt hI;rw[dif_pos hex,dif_pos hmax];omega
 |_=>exact hq
end
attribute [simp] Value.oneCell'
def Arg.isPv:Arg->Bool
 |.pv _=>true
 |.bx _=>false
theorem LQ(hf:P.funcs[f]?=some fn)(hb:fn.body=some c)(hcall:dw P f=true){args:List Arg}(hlen:args.length<=fn.ntmps)(ha:args.all Arg.isPv=true)
 (h:∀C:Cx,C.P=P->C.N=fn.ntmps->WP C c (HC P fn.results.toList [] res) (r6 args [])):ab P f args [] [] res:=by
 refine o8 hf hb hcall hlen rfl (λi j hij=>?_) h;have:=Ij.1 ha _ (HW hij);simp[Arg.isPv]at this
@[simp] theorem TE(hin:List (List PV))(i:Nat):uT hin (pk i)=(hin[i]?).map (λps=>.box (ps.map .pv) false false):=by
 rw[Al,Ik (by unfold pk;omega),show pk i-1000000=i by unfold pk;omega];cases hin[i]?<;>rfl
@[simp] theorem PS(hin:List (List PV))(h:k<1000000):uT hin k=none:=by rw[Al,IR h]
@[simp] theorem TT(i j:Nat):(pk i=pk j)=(i=j):=by unfold pk;simp
@[simp] theorem Vj(h:n<1000000):(pk i=n)=False:=by unfold pk;simp;omega
@[simp] theorem Vk(h:n<1000000):(n=pk i)=False:=by unfold pk;simp;omega
@[simp] theorem PW{a:List PV}{F:Nat->List PV->Prop}:(∀(i:Nat)(ps:List PV),[a][i]?=some ps->F i ps)=F 0 a:=by
 refine propext ⟨λh=>h 0 a rfl,λh i ps hi=>?_⟩
 cases i with
 |zero=>simp at hi;subst hi;exact h
 |succ i=>simp at hi
theorem jW:aq P Go.program=some P:=rfl
theorem jX{d:TypeDesc}(h:P.underlying t=some d):aq P (underlying t)=some d:=by
 unfold underlying;rw[ak,jW,Js,h];rfl
theorem BM(d:Nat)(t:TypeId)(xs ys:Array Value)(ht:P.underlying t=some (.struct (P.fieldsOf t)))(hp:P.stoodInHeld t=false):
 aq P (Op.equalIn (d+1) t (.agg xs) (.agg ys))=aq P (Op.eqFields d xs ys (P.fieldsOf t).toList):=by
 simp only[Op.equalIn,ak,jX ht,Js,jW,hp,IA,JE];rw[<-Array.forIn_toList];generalize(P.fieldsOf t).toList=fs;clear ht
 induction fs with
 |nil=>simp[Op.eqFields];rfl
 |cons f fs ih=>
  simp only[List.forIn_cons,Op.eqFields,ak];by_cases hn:f.name≠ "_"
  .rw[IR hn,IR hn]
   simp only[ak]
   cases aq P (part f.type xs f.offset)with
   |none=>rfl
   |some a=>
    simp only[Js]
    cases aq P (part f.type ys f.offset)with
    |none=>rfl
    |some b=>
     simp only[Js]
     cases aq P (Op.equalIn d f.type a b)with
     |none=>rfl
     |some r=>
      cases r
      .simp only[Js,VW,J4,em]
      .simp only[Js,QO,IA,JE,em]
       exact ih
  .rw[Ik hn,Ik hn]
   simp only[em,Js];exact ih
theorem wK(d:Nat)(t:TypeId)(k k':IntKind)(a b:Int)(h:P.underlying t=some (.int k')):aq P (Op.equalIn (d+1) t (.int k a) (.int k b))=some (a==b):=by
 simp only[Op.equalIn,ak,jX h,Js];rw[IR trivial];rfl
theorem xS{f:Field}{fs:List Field}{a b:Value}{r r':Bool}(hn:f.name≠ "_")(ha:aq P (part f.type xs f.offset)=some a)(hb:aq P (part f.type ys f.offset)=some b)
 (he:aq P (Op.equalIn d f.type a b)=some r)(hr:aq P (Op.eqFields d xs ys fs)=some r'):aq P (Op.eqFields d xs ys (f::fs))=some (r&&r'):=by
 simp only[Op.eqFields];rw[IR hn];simp only[ak,ha,hb,he,Js];cases r
 .simp;rfl
 .simp[hr]
theorem HI:aq P (Op.eqFields d xs ys [])=some true:=rfl
theorem Ao{x y:Operand}(ho:o.op=.binOp .neq t x y t')(hx:ρ x=.pv (.val (.agg xs)))(hy:ρ y=.pv (.val (.agg ys)))
 (hg:P.eqGuardType P.depth t=false)(h:aq P (Op.equal t (.agg xs) (.agg ys))=some b):bR P o ρ=some (.pv (.val (.bool !b)),[]):=by
 refine eH (by rw[ho];simp[Op.operands,hx,hy,fD]) ?_;unfold execOp;rw[ho];simp only[(cy hx).2,(cy hy).2]
 have h1:aq P (eqGuard .neq t x y (.agg xs) (.agg ys))=some ():=by
  unfold eqGuard;simp only[QO,IA,JE,ak,jW,Js,hg,VW,J4];rfl
 have h2:aq P (binOp .neq t (.agg xs) (.agg ys))=some (.bool !b):=by
  simp only[binOp,ak,h,Js];rfl
 simp only[ak,h1,h2,Js];rfl
theorem Ap{x y:Operand}(ho:o.op=.binOp .eql t x y t')(hx:ρ x=.pv (.val (.agg xs)))(hy:ρ y=.pv (.val (.agg ys)))
 (hg:P.eqGuardType P.depth t=false)(h:aq P (Op.equal t (.agg xs) (.agg ys))=some b):bR P o ρ=some (.pv (.val (.bool b)),[]):=by
 refine eH (by rw[ho];simp[Op.operands,hx,hy,fD]) ?_;unfold execOp;rw[ho];simp only[(cy hx).2,(cy hy).2]
 have h1:aq P (eqGuard .eql t x y (.agg xs) (.agg ys))=some ():=by
  unfold eqGuard;simp only[QO,IA,JE,ak,jW,Js,hg,VW,J4];rfl
 have h2:aq P (binOp .eql t (.agg xs) (.agg ys))=some (.bool b):=by
  simp only[binOp,ak,h,Js];rfl
 simp only[ak,h1,h2,Js];rfl
class Sp(G:Prop)(H:outParam Prop):Prop where
 h:H->G
class Ss(G:Prop)(H:outParam Prop):Prop where
 h:H->G
class Sb(G:Prop)(A B D:outParam Prop):Prop where
 h:A->B->D->G
class Sc(G:Prop)(P:outParam Program)(g:outParam FuncId)(as:outParam (List Arg))(hin:outParam (List (List PV)))(F:outParam (List (List PV)->RV->Prop)):Prop where
 h:∀{hout res},ab P g as hin hout res->F hout res->G
section
variable {C:Cx} {Q:Exit->St->Prop} {st:St} {x y c:Code} {id:Nat} {ops:Array Oper}
instance:Sp (WP C (.seq x y) Q st) (WP C x (Da C y Q) st):=⟨WP.seq⟩
instance:Sp (WP C (.block id c) Q st) (WP C c (sP id Q) st):=⟨WP.block⟩
instance:Ss (WP C (.region id ops false) Q st) (dX C.P [] C.N ops (Q .normal) ops.toList st):=⟨WP.region⟩
instance{o:Operand}:Ss (WP C (.cond o x y) Q st) (uX C x y Q st (st.ev o)):=⟨WP.cond'⟩
instance:Ss (WP C .skip Q st) (Q .normal st):=⟨WP.skip⟩
instance:Ss (WP C .ret Q st) (Q .ret st):=⟨WP.ret⟩
instance:Ss (WP C (.exit id) Q st) (Q (.exit id) st):=⟨WP.exit⟩
theorem Wh(hn:List Nat)(h:dX C.P hn C.N ops (Q .normal) ops.toList st):WP C (.region id ops false) Q st:=WP.region h
theorem Wi(hn:List Nat)(h:lD C.P hn C.N ops (λacc st=>jV (UT ops.toList []) acc=true∧Q .normal st) ops.toList [] st)(hmx:C.P.follows .mixedOrders=true:=by rw[hP];kernel_rfl)(hslot:kB ops=true:=by kernel_rfl):WP C (.region id ops true) Q st:=WP.draw hmx hslot h
theorem Wd(h:lD C.P [] C.N ops (λacc st=>jV (UT ops.toList []) acc=true∧Q .normal st) ops.toList [] st)(hmx:C.P.follows .mixedOrders=true:=by rw[hP];kernel_rfl)(hslot:kB ops=true:=by kernel_rfl):WP C (.region id ops true) Q st:=WP.draw hmx hslot h
end
section
variable {P:Program} {hn:List Nat} {N:Nat} {ops:Array Oper} {o:Oper} {rest:List Oper} {st:St} {d:Nat} {want b:Bool} {g:FuncId} {as:List Arg} {ks:List Nat} {W0:List (Nat×Blk)} {hin:List (List PV)}
instance{Q:St->Prop}:Sb (xB P hn N ops Q o rest st d want b) (st.t d=.pv (.val (.bool b))) (b=true->xB P hn N ops Q o rest (st.lit d true) d want true) (b=false->xB P hn N ops Q o rest (st.lit d false) d want false):=⟨bB⟩
instance{Q:oq->St->Prop}{acc:oq}:Sb (yB P hn N ops Q o rest acc st d want b) (st.t d=.pv (.val (.bool b))) (b=true->yB P hn N ops Q o rest acc (st.lit d true) d want true) (b=false->yB P hn N ops Q o rest acc (st.lit d false) d want false):=⟨Jl⟩
instance{Q:St->Prop}:Sc (xC P hn N ops Q o rest st g as ks W0 hin) P g as hin (λhout res=>xK P hn N ops Q o rest st (mg st.h o.dst ks W0 hout res)):=⟨bS⟩
instance{Q:oq->St->Prop}{acc:oq}{K:List Nat}:Sc (yC P hn N ops Q o rest acc st K g as ks W0 hin) P g as hin (λhout res=>yK P hn N ops Q o rest acc st K (mg (cK K st.h) o.dst ks W0 hout res)):=⟨uW⟩
end
theorem Xx{p:Prop}(h:False:=by first|(clear hP hN;simp_all;done)|(simp at *;omega)):p:=h.elim
theorem Xy{p:Prop}(h:False:=by simp at hgd;first|done|omega):p:=h.elim
theorem Ya{ts:List Nat}{acc:oq}{b:Prop}(h:b)(k:jV ts acc=true:=by kernel_rfl):jV ts acc=true∧b:=⟨k,h⟩
theorem Dp(hf:P.funcs[f]?=some fn){args:List Arg}(h:∀C:Cx,C.P=P->C.N=fn.ntmps->WP C c (HC P fn.results.toList [] res) (r6 args []))
 (hb:fn.body=some c:=by rfl)(hcall:dw P f=true:=by kernel_rfl)(hlen:args.length<=fn.ntmps:=by exact of_decide_eq_true (by kernel_rfl))(ha:args.all Arg.isPv=true:=by rfl):ab P f args [] [] res:=LQ hf hb hcall hlen ha h
abbrev X2:=@aV
abbrev Xd:=@EQ
end Go.Ab
