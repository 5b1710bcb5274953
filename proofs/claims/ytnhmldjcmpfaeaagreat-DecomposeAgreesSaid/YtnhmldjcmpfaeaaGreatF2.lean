/- The contracts and facts that the laws of this seat need, in one text (AbB). -/
import Derived.Test.YtnhmldjcmpfaeaaGreatF1
import Derived.MapKept
import Derived.Laws.StructEq
set_option linter.all false
set_option maxHeartbeats 16000000
namespace Go.Ab
variable {C:Cx}{F:Bool->St->Prop}{K:dm->Prop}{L:Nat->Loc}{M M':Nat->Nat->Prop}{P:Program}{Q:Exit->St->Prop}{W W0:List (Nat×Blk)}{a:Act}{args caps first:List AV}{as:List Arg}{b want:Bool}{c y:Code}{cs xs ys:Array Value}{d i id j k n:Nat}{f g:FuncId}{fn:Func}{h:Hp}{hin hout:List (List PV)}{hn ks:List Nat}{ls:Nat->Bool}{name:String}{o:Oper}{op:BinOp}{ops:Array Oper}{p:PV}{res:RV}{rs:List ResultVar}{st:St}{t t':TypeId}{ti:TI}{ts:List TypeId}{u v:Value}{us:List Value}{w:World}{x:AV}{ρ ρ':Operand->AV}{σ:Operand->Value}
theorem fg{α:Type}{P:Program}:∀{s:Sem α}{a:α},al P s=some a->∀w,s.run P w=.ok a w
 |.pure a,b,e,w=>by simp only[al,Option.some.injEq]at e;subst e;rfl
 |.program k,b,e,w=>by simp only[al]at e;exact fg (s:=k P) e w
 |.load _ _ _,_,e,_=>by simp[al]at e
 |.store _ _ _ _,_,e,_=>by simp[al]at e
 |.new _ _,_,e,_=>by simp[al]at e
 |.shape _ _,_,e,_=>by simp[al]at e
 |.freeze _ _ _,_,e,_=>by simp[al]at e
 |.frozen _ _,_,e,_=>by simp[al]at e
 |.getObj _ _,_,e,_=>by simp[al]at e
 |.setObj _ _ _,_,e,_=>by simp[al]at e
 |.choose _ _,_,e,_=>by simp[al]at e
 |.sys _ _,_,e,_=>by simp[al]at e
 |.mark _ _,_,e,_=>by simp[al]at e
 |.halt _,_,e,_=>by simp[al]at e
theorem oR(off:Nat):∀(l:List Value)(s:Nat)(arr:Array Value),off+s+l.length<=arr.size->
 ((l.zipIdx s).foldl (λcs(p:Value×Nat)=>cs.setIfInBounds (off+p.2) p.1) arr).toList=cE arr.toList (off+s) l
 |[],s,arr,_=>by simp[cE]
 |v::r,s,arr,h=>by
  simp only[List.zipIdx_cons,List.foldl_cons];rw[oR off r (s+1) _ (by simp at h|-;omega)];simp only[Array.toList_setIfInBounds,cE,List.length_cons];have:=list_seg_step arr.toList (off+s) v r (by simp at h|-;omega);rw[<-Nat.add_assoc off s 1];rw[show off+s+(r.length+1)=off+s+(r.length+1) from rfl];exact this
section
variable {C:Cx} {L:Nat->Loc} {h1 h:Hp} {w:World} {M:Nat->Nat->Prop}
theorem rQ(place:Nat->Option (Nat×Nat)):∀{ps:List (Nat×List AV)}{vs:List (Nat×Value)}{cells cells':List AV}{arr:Array Value},aB w M L h cells arr.toList->
 (ps.length=vs.length∧∀(q:Nat)(i:Nat) cs(i':Nat)(v:Value),ps[q]?=some (i,cs)->vs[q]?=some (i',v)->i'=i∧aB w M L h cs v.cells.toList)->rH place cells ps=some cells'->
 ∃arr',Instr.fill place arr vs=some arr'∧aB w M L h cells' arr'.toList
 |[],vs,cells,cells',arr,hr,hp,e=>by
  simp only[rH,Option.some.injEq]at e;subst e;have:vs=[]:=List.eq_nil_of_length_eq_zero (by have:=hp.1;simpa using this.symm);subst this;exact⟨arr,rfl,hr⟩
 |(i,cs)::ps,vs,cells,cells',arr,hr,hp,e=>by
  cases vs with
  |nil=>exact absurd hp.1 (by simp)
  |cons iv vs=>
   obtain⟨i',v⟩:=iv;obtain⟨rfl,hc⟩:=hp.2 0 i cs i' v rfl rfl;simp only[rH]at e;simp only[Instr.fill]
   cases hpl:place i' with
   |none=>rw[hpl]at e;cases e
   |some os=>
    obtain⟨off,size⟩:=os;rw[hpl]at e;simp only at e|-;split at e
    .cases e
    .rename_i hcond
     have hcl:cs.length=v.cells.size:=by have:=hc.1;simpa using this
     have hal:cells.length=arr.size:=by have:=hr.1;simpa using this
     have hcond1:cs.length=size:=Classical.not_not.1 (λh=>hcond (.inl h));have hcond2:¬off+cs.length>cells.length:=λh=>hcond (.inr h)
     have hif:¬((v.cells.size≠size||off+v.cells.size>arr.size)=true):=by simp;omega
     simp only[if_neg hif]
     have hsp:(v.cells.zipIdx.foldl (λcs(p:Value×Nat)=>cs.setIfInBounds (off+p.2) p.1) arr).toList=cE arr.toList off v.cells.toList:=by
      have:=oR off v.cells.toList 0 arr (by simp;omega);rw[<-Array.foldl_toList,Array.toList_zipIdx];simpa using this
     refine rQ place (cells:=cE cells off cs) ?_ ⟨by have:=hp.1;simpa using this,λq a b c d h1 h2=>hp.2 (q+1) a b c d (by simpa using h1) (by simpa using h2)⟩ e;have h9:=hr.splice_ hc off;rw[<-hsp]at h9;exact h9
theorem sE(hs:∀k b,h1 k=some b->h k=some b){ρ:Operand->AV}{σ:Operand->Value}:∀{ps:List (Nat×Operand)}{qs:List (Nat×List AV)},(∀x∈ps.map (·.2),RepA w M L h (ρ x) (σ x))->oA h1 ρ ps=some qs->
 qs.length=(ps.map λ(i,x)=>(i,σ x)).length∧∀(q:Nat)(i:Nat) cs(i':Nat)(v:Value),qs[q]?=some (i,cs)->(ps.map λ(i,x)=>(i,σ x))[q]?=some (i',v)->i'=i∧aB w M L h cs v.cells.toList
 |[],qs,_,e=>by simp only[oA,Option.some.injEq]at e;subst e;exact⟨rfl,λq i cs i' v h=>by simp at h⟩
 |(i,x)::ps,qs,hr,e=>by
  simp only[oA]at e;split at e
  .rename_i cs qs' e1 e2
   injection e with e;subst e;obtain⟨h2,h3⟩:=sE hs (λy hy=>hr y (by simp at hy|-;exact .inr hy)) e2;refine⟨by simpa using h2,λq a cs' a' v hq hv=>?_⟩
   cases q with
   |zero=>
    simp at hq hv;obtain⟨rfl,rfl⟩:=hq;obtain⟨rfl,rfl⟩:=hv;exact⟨rfl,nK hs (hr x (by simp)) e1⟩
   |succ q=>exact h3 q a cs' a' v (by simpa using hq) (by simpa using hv)
  .cases e
theorem wL{P:Program}(w:World):∀(fs:List Field),(∀f∈fs,∃i,P.info? f.type=some i)->
 (fs.mapM (m:=Sem) λf=>do pure (f.offset,<-sizeOf f.type)).run P w=.ok (fs.map λf=>(f.offset,mD P f.type)) w
 |[],_=>by simp
 |f::fs,hf=>by
  obtain⟨i,hi⟩:=hf f (by simp);simp only[List.mapM_cons,Sem.run_bind,fm hi,Result.andThen_ok,Sem.run_pure,wL w fs (λg hg=>hf g (by simp[hg]))];simp[mD,hi]
theorem zF(ht:ak C.P t=some ti){qs:List (Nat×List AV)}{vs:List (Nat×Value)}(hp:qs.length=vs.length∧∀(q:Nat)(i:Nat) cs(i':Nat)(v:Value),qs[q]?=some (i,cs)->vs[q]?=some (i',v)->i'=i∧aB w M L h cs v.cells.toList)
 {v:AV}(e:ub ti qs=some v):∃r,(Instr.build t vs.toArray).run C.P w=.ok r w∧RepA w M L h v r:=by
 obtain⟨i,d,hi,hd,hsz,hz,hkind⟩:=fU ht;have hk:=wK ht;unfold ub at e;split at e
 .cases e
 .rename_i z hzz
  have hiz:i.zero=some z:=by rw[<-hz];exact hzz
  have hz0:aB w M L h (z.cells.toList.map λv=>AV.pv (.val v)) z.cells.toList:=by
   refine⟨by simp,λq p u hp hu=>?_⟩;simp only[List.getElem?_map,Option.map_eq_some_iff]at hp;obtain⟨y,hy,rfl⟩:=hp;rw[hy]at hu;injection hu with hu;subst hu;exact .pv (.val _)
  have hzero:(zeroValue t).run C.P w=.ok z w:=by simp[zeroValue,jR hi,hiz]
  split at e
  .rename_i fs hfs
   rw[hkind]at hfs;split at hfs
   .rename_i fs'
    injection hfs with hfs;simp only[Option.map_eq_some_iff]at e;obtain⟨cells,e1,rfl⟩:=e;obtain⟨arr,h2,h3⟩:=rQ (arr:=z.cells) _ hz0 hp e1;refine⟨.agg arr,?_,?_⟩
    .have hkn:∀f∈fs'.toList,∃i,C.P.info? f.type=some i:=by
      unfold kH at hk;rw[hd]at hk;intro f hf;exact Option.isSome_iff_exists.1 (List.all_eq_true.1 hk f hf)
     have hpl:=wL (P:=C.P) w fs'.toList hkn;simp only[Instr.build,Sem.run_bind,hzero,Result.andThen_ok,cy hd,Array.mapM_eq_mapM_toList,Sem.run_map,hpl]
     have hfun:(λ(x:Nat)=>(List.map (λf=>(f.offset,mD C.P f.type)) fs'.toList).toArray[x]?)=λ(i:Nat)=>fs[i]?:=by funext x;rw[<-hfs];simp
     simp only[hfun,h2];rfl
    .have:=qw h3
     simpa using this
   .cases hfs
   .split at hfs<;>cases hfs
   .cases hfs
  .rename_i n esz hfs
   rw[hkind]at hfs;split at hfs
   .cases hfs
   .rename_i n' e'
    injection hfs with _ hfs;simp only[Option.map_eq_some_iff]at e;obtain⟨cells,e1,rfl⟩:=e;obtain⟨arr,h2,h3⟩:=rQ (arr:=z.cells) _ hz0 hp e1;refine⟨.agg arr,?_,?_⟩
    .have hkn:∃j,C.P.info? e'=some j:=by
      unfold kH at hk;rw[hd]at hk;exact Option.isSome_iff_exists.1 hk
     obtain⟨j,hj⟩:=hkn
     have hjs:j.size=esz:=by rw[<-hfs];simp[mD,hj]
     simp only[Instr.build,Sem.run_bind,hzero,Result.andThen_ok,cy hd,fm hj,hjs,h2];rfl
    .have:=qw h3
     simpa using this
   .split at hfs<;>cases hfs
   .cases hfs
  .cases e
theorem uM(hs:∀k b,h1 k=some b->h k=some b){e sz fz:Nat}{xs:List PV}(hk:h k=some (.row e sz xs fz))(hc:qN h1 k n=true):xs.length=n:=by
 unfold qN at hc;split at hc
 .rename_i e' sz' xs' fz' hk'
  have:=hs _ _ hk';rw[hk]at this;injection this with this;injection this with _ _ a3 _;subst a3;simpa using hc
 .cases hc
theorem uF(ht:ak C.P t=some ti){v:AV}{f:Nat}(hs:∀k b,h1 k=some b->h k=some b)(hx:RepA w M L h x u)(e:mS ti x f h1=some v):
 ∃r,(Instr.fieldAt t u f).run C.P w=.ok r w∧RepA w M L h v r:=by
 obtain⟨i,d,hi,hd,hsz,hz,hkind⟩:=fU ht;unfold mS at e;split at e
 .rename_i fs hfs
  rw[hkind]at hfs;split at hfs
  .rename_i fs'
   injection hfs with hfs;split at e
   .rename_i o s hf
    split at e
    .cases e
    .rename_i hs0
     rw[<-hfs]at hf;simp only[List.getElem?_map,Option.map_eq_some_iff,Prod.mk.injEq]at hf;obtain⟨fd,hfd,rfl,hss⟩:=hf
     have hinfo:∃j,C.P.info? fd.type=some j∧j.size≠0:=by
      unfold mD at hss
      cases hj:C.P.info? fd.type with
      |none=>rw[hj]at hss;simp at hss;omega
      |some j=>rw[hj]at hss;simp at hss;exact⟨j,rfl,by omega⟩
     obtain⟨j,hj,hj0⟩:=hinfo
     have hfd':fs'[f]?=some fd:=by rw[<-Array.getElem?_toList];exact hfd
     have hrun:∀b q,(Instr.fieldAt t (.pointer (some ⟨b,q,none⟩)) f).run C.P w=.ok (.pointer (some ⟨b,q+fd.offset,none⟩)) w:=by
      intro b q;simp only[Instr.fieldAt,Sem.run_bind,cy hd,Result.andThen_ok,hfd',Instr.sureAddr,Sem.run_pure,fieldPlace,fm hj,hj0,if_false,dR]
     split at e
     .injection e with e;subst e
      cases hx with
      |ptr hk=>exact⟨_,hrun _ _,.ptr hk⟩
     .rename_i y off
      injection e with e;subst e
      cases hx with
      |pv hr=>cases hr with
       |rptr _ b o' _ uu hc hr=>exact⟨_,hrun _ _,.pv (by rw[Nat.add_assoc];exact .rptr y b o' (off+fd.offset) uu hc hr)⟩
     .rename_i k n i' off
      split at e
      .rename_i hcur
       injection e with e;subst e
       cases hx with
       |eptr hk hn hu=>
        obtain⟨hnil,rfl⟩:=hu (uM hs hk hcur);exact⟨_,hrun _ _,.eptr hk hn (λ_=>⟨hnil,by rw[Nat.add_assoc]⟩)⟩
      .cases e
     .cases e
   .cases e
  .cases hfs
  .split at hfs<;>cases hfs
  .cases hfs
 .cases e
end
section
variable {C:Cx} {L:Nat->Loc} {h1 h:Hp} {w:World}
theorem uG(hs:∀k b,h1 k=some b->h k=some b)(ht:ak C.P t=some ti){v:AV}{n:Int}{kk:IntKind}(hx:RepA w M L h x u)
 (hrow:∀k e sz xs fz,h k=some (.row e sz xs fz)->(L k).isNil=true->xs=[])(e:mT ti x n h1=some v):
 ∃r,(Instr.indexAt t u (.int kk n)).run C.P w=.ok r w∧RepA w M L h v r:=by
 obtain⟨i,d,hi,hd,hsz,hz,hkind⟩:=fU ht;unfold mT at e;split at e
 .rename_i et esz eb ez hk
  obtain⟨hund,jt,hj,rfl,rfl,_⟩:=di ht hk
  have hrun:∀b o len cap,0<=n->n.toNat<len->(Instr.indexAt t (.slice (some ⟨b,o,none⟩) len cap) (.int kk n)).run C.P w=.ok (.pointer (some ⟨b,o+n.toNat*jt.size,none⟩)) w:=by
   intro b o len cap h0 hlt;have hc:0<=n∧n<(len:Int):=⟨h0,by omega⟩;simp only[Instr.indexAt,asIntOf,Sem.run_bind,Sem.run_pure,Result.andThen_ok,cy hund,hc,and_self,if_true,fm hj,dR]
  split at e
  .rename_i xs
   split at e
   .rename_i h0
    split at e
    .rename_i y hy
     split at e
     .rename_i hyl
      injection e with e;subst e;have hlt:n.toNat<xs.length:=(List.getElem?_eq_some_iff.1 hy).1
      cases hx with
      |pv hr=>cases hr with
       |sl0=>simp at hy
       |sl _ b o c sz uu hcap hsz hc hr=>
        refine⟨_,hrun b o _ c h0 hlt,.pv ?_⟩
        have hszz:sz=jt.size:=by rw[<-hsz _ y hy];exact hyl
        subst hszz;have:=Rep.rptr (w:=w) (M:=M) y b (o+n.toNat*jt.size) 0 (λj=>uu n.toNat j) (λj p hj=>by have:=hc _ y j p hy hj;rwa [<-Nat.add_assoc]at this) (λj p hj=>hr _ y j p hy hj);exact this
     .cases e
    .cases e
   .cases e
  .rename_i k m
   split at e
   .rename_i e0 sz xs fz hk
    split at e
    .rename_i hc
     obtain⟨hl,hss,h0,hlt⟩:=hc;injection e with e;subst e;have hk':=hs _ _ hk
     cases hx with
     |arr hk2 hn2 hu=>
      rw[hk']at hk2;injection hk2 with hk2;injection hk2 with a1 a2 a3 a4;subst a1;subst a2;subst a3;subst a4;rw[hu hl]
      cases hnil:(L k).isNil with
      |true=>rw[hrow k _ _ _ _ hk' hnil]at hl;simp at hl;omega
      |false=>
       simp only[Loc.slice,hnil,Bool.false_eq_true,if_false];refine⟨_,hrun _ _ _ _ h0 hlt,.eptr hk' (by omega) (λ_=>⟨hnil,?_⟩)⟩;rw[hss];simp
    .cases e
   .cases e
  .cases e
 .rename_i len esz hk
  split at e
  .rename_i hc
   obtain⟨h0,hlt⟩:=hc
   have harr:∃e',d=.array len e'∧mD C.P e'=esz:=by
    rw[hkind]at hk;split at hk
    .cases hk
    .rename_i n' e';injection hk with a b;subst a;exact⟨e',rfl,b⟩
    .split at hk<;>cases hk
    .cases hk
   obtain⟨e',rfl,hss⟩:=harr
   have hkn:∃j,C.P.info? e'=some j:=by
    have:=wK ht;unfold kH at this;rw[hd]at this;exact Option.isSome_iff_exists.1 this
   obtain⟨j,hj⟩:=hkn
   have hjs:j.size=esz:=by rw[<-hss];simp[mD,hj]
   have hrun:∀b o,(Instr.indexAt t (.pointer (some ⟨b,o,none⟩)) (.int kk n)).run C.P w=.ok (.pointer (some ⟨b,o+n.toNat*esz,none⟩)) w:=by
    intro b o;have hc:0<=n∧n<(len:Int):=⟨h0,by omega⟩;simp only[Instr.indexAt,asIntOf,Sem.run_bind,Sem.run_pure,Result.andThen_ok,cy hd,Instr.sureAddr,hc,and_self,if_true,fm hj,dR,hjs]
   split at e
   .injection e with e;subst e
    cases hx with
    |ptr hk=>exact⟨_,hrun _ _,.ptr hk⟩
   .rename_i y off
    injection e with e;subst e
    cases hx with
    |pv hr=>cases hr with
     |rptr _ b o' _ uu hc hr=>exact⟨_,hrun _ _,.pv (by rw[Nat.add_assoc];exact .rptr y b o' _ uu hc hr)⟩
   .rename_i k m j' off
    split at e
    .rename_i hcur
     injection e with e;subst e
     cases hx with
     |eptr hk hn hu=>
      obtain⟨hnil,rfl⟩:=hu (uM hs hk hcur);exact⟨_,hrun _ _,.eptr hk hn (λ_=>⟨hnil,by rw[Nat.add_assoc]⟩)⟩
    .cases e
   .cases e
  .cases e
 .cases e
theorem yh(hs:∀k b,h1 k=some b->h k=some b)(ht:ak C.P t=some ti){v:AV}{n:Int}{kk:IntKind}(hx:RepA w M L h x u)(e:rG ti x n h1=some v):
 ∃r,(Instr.indexAt t u (.int kk n)).run C.P w=.ok r w∧RepA w M L h v r:=by
 unfold rG at e;split at e
 .rename_i et eb ez k m c0 hk
  obtain⟨hund,jt,hj,hj1,_,_⟩:=di ht hk;split at e
  .rename_i hc0
   injection e with e;subst e
   cases hx with
   |ext hx'=>cases hx' with
    |barr hc9 hk'=>
     have hc:0<=n∧n<(m:Int):=⟨hc0.1,by omega⟩;refine⟨.pointer (some ⟨(L k).b,n.toNat,none⟩),?_,.ptr hk'⟩;simp only[Instr.indexAt,asIntOf,Sem.run_bind,Sem.run_pure,Result.andThen_ok,cy hund,hc,and_self,if_true,fm hj,dR,hj1,Nat.mul_one,Nat.zero_add]
  .cases e
 .rename_i et esz eb ez k o m t9 hk
  obtain⟨hund,jt,hj,hj1,_,_⟩:=di ht hk;split at e
  .rename_i e0 sz xs fz hk0
   split at e
   .rename_i hc0
    obtain⟨c1,c2,c3,c4⟩:=hc0;injection e with e;subst e;have hk':=hs _ _ hk0
    cases hx with
    |ext hx'=>cases hx' with
     |suf _ hk2 hn2 ht2 hu=>
      rw[hk']at hk2;injection hk2 with hk2;injection hk2 with _ a2 a3 _;subst a2;subst a3;obtain⟨A,c,rfl,h9⟩:=hu c1;rcases h9 with⟨g1,rfl,g3⟩|⟨g1,_,_⟩
      .have hc:0<=n∧n<(m:Int):=⟨c3,(Int.toNat_lt c3).1 c4⟩
       refine⟨.pointer (some ⟨(L k).b,o*sz+n.toNat*jt.size,none⟩),?_,.eptr hk' ht2 (λ_=>⟨g1,?_⟩)⟩
       .simp only[Instr.indexAt,asIntOf,Sem.run_bind,Sem.run_pure,Result.andThen_ok,cy hund,hc,and_self,if_true,fm hj,dR]
       .rw[hj1,<-c2,Nat.add_mul,Nat.add_zero]
      .rw[g1]at c4;exact absurd c4 (Nat.not_lt_zero _)
   .cases e
  .cases e
 .cases e
theorem Aq{x y:Option AV}{v:AV}(e:ya x y=some v):x=some v∨y=some v:=by
 cases x with
 |some a=>exact .inl e
 |none=>exact .inr e
theorem Ar{x y:Option dm}{v:dm}(e:yb x y=some v):x=some v∨y=some v:=by
 cases x with
 |some a=>exact .inl e
 |none=>exact .inr e
theorem BP(hs:∀k b,h1 k=some b->h k=some b){ty:TypeId}(ht:ak C.P t=some ti){v:AV}(hx:RepA w M L h x u)
 (hrow:∀k e sz xs fz,h k=some (.row e sz xs fz)->(L k).isNil=true->xs=[])(e:zM ti x h1=some v):
 ∃r,(Builtin.len_ #[t] ty #[u]).run C.P w=.ok r w∧RepA w M L h v r:=by
 unfold zM at e;split at e
 .rename_i et esz eb ez xs hk
  obtain⟨hund,_⟩:=di ht hk;injection e with e;subst e
  have:∃A c,u=.slice A xs.length c:=by
   cases hx with
   |pv hr=>cases hr with
    |sl0 a c=>exact⟨a,c,rfl⟩
    |sl _ b o c=>exact⟨_,c,rfl⟩
  obtain⟨A,c,rfl⟩:=this;exact⟨_,by simp[Builtin.len_,cy hund,goInt],.pv (.val _)⟩
 .rename_i et esz eb ez n hk
  obtain⟨hund,_⟩:=di ht hk;injection e with e;subst e
  cases hx with
  |pv hr=>cases hr with
   |hd _ A c=>exact⟨_,by simp[Builtin.len_,cy hund,goInt],.pv (.val _)⟩
 .rename_i et esz eb ez k n hk
  obtain⟨hund,_⟩:=di ht hk;split at e
  .rename_i e0 sz xs fz hk
   split at e
   .rename_i hl
    injection e with e;subst e;have hk':=hs _ _ hk
    have:∃A c,u=.slice A n c:=by
     cases hx with
     |arr hk2 hn2 hu=>
      rw[hk']at hk2;injection hk2 with hk2;injection hk2 with a1 a2 a3 a4;subst a3;rw[hu hl];unfold Loc.slice
      cases hnil:(L k).isNil with
      |true=>rw[hrow k _ _ _ _ hk' hnil]at hl;simp at hl;exact⟨none,0,by simp[<-hl]⟩
      |false=>exact⟨_,_,rfl⟩
    obtain⟨A,c,rfl⟩:=this;exact⟨_,by simp[Builtin.len_,cy hund,goInt],.pv (.val _)⟩
   .cases e
  .cases e
 .rename_i et esz eb ez k n c0 hk
  obtain⟨hund,_⟩:=di ht hk;injection e with e;subst e
  cases hx with
  |ext hx'=>cases hx' with
   |barr _ _=>exact⟨_,by simp[Builtin.len_,cy hund,goInt],.pv (.val _)⟩
 .rename_i et esz eb ez k o n t9 hk
  obtain⟨hund,_⟩:=di ht hk;split at e
  .rename_i e0 sz xs fz hk0
   split at e
   .rename_i hl
    injection e with e;subst e;have hk':=hs _ _ hk0
    cases hx with
    |ext hx'=>cases hx' with
     |suf _ hk2 hn2 ht2 hu=>
      rw[hk']at hk2;injection hk2 with hk2;injection hk2 with _ a2 a3 _;subst a2;subst a3;obtain⟨A,c,rfl,_⟩:=hu hl;exact⟨_,by simp[Builtin.len_,cy hund,goInt],.pv (.val _)⟩
   .cases e
  .cases e
 .cases e
def H9(ul:Option Value)(y:Nat):Sem Nat:=match ul with|some v=>Instr.sliceBound v y .sliceB|none=>pure 0
def Ia(uh:Option Value)(n c:Nat):Sem Nat:=match uh with|some v=>Instr.sliceBound v c .sliceAcap|none=>pure n
theorem sF(ht:ak C.P t=some ti){v:AV}(hx:RepA w M L h x u){lo hi:Option AV}{ul uh:Option Value}
 (hlo:∀a,lo=some a->∃b,ul=some b∧RepA w M L h a b)(hlo0:lo=none->ul=none)(hhi:∀a,hi=some a->∃b,uh=some b∧RepA w M L h a b)(hhi0:hi=none->uh=none)
 (e:lj ti x lo hi=some v):
 ∃r,(Instr.sliceAt t u ul uh none).run C.P w=.ok r w∧RepA w M L h v r:=by
 unfold lj at e;split at e
 .rename_i et esz eb ez xs hk
  obtain⟨hund,jt,hj,rfl,rfl,_⟩:=di ht hk;simp only at e;split at e
  .rename_i l r hl hr
   split at e
   .rename_i hc
    obtain⟨c1,c2,c3,c4⟩:=hc;injection e with e;subst e
    have hA:∃A c,u=.slice A xs.length c∧xs.length<=c:=by
     cases hx with
     |pv hr=>cases hr with
      |sl0 a c=>exact⟨a,c,rfl,Nat.zero_le _⟩
      |sl _ b o c _ _ hcap=>exact⟨_,c,rfl,hcap⟩
    obtain⟨A,c,rfl,hcc⟩:=hA
    have hbl:∀y,l<=y->(H9 ul y).run C.P w=.ok l w:=by
     intro y hy
     cases lo with
     |none=>rw[hlo0 rfl];simp at hl;subst hl;rfl
     |some a=>
      obtain⟨b,rfl,hb⟩:=hlo a rfl
      cases a with
      |pv p=>cases p with
       |val vv=>cases vv with
        |int kk n=>
         cases hb with
         |pv hb=>
          rw[aJ hb];simp only at hl;split at hl
          .rename_i h0
           injection hl with hl;have:0<=n∧n<=(y:Int):=⟨h0,by omega⟩;simp[H9,Instr.sliceBound,asIntOf,this,hl]
          .cases hl
        |_=>simp at hl
       |_=>simp at hl
      |_=>simp at hl
    have hbh:(Ia uh xs.length c).run C.P w=.ok r w:=by
     cases hi with
     |none=>rw[hhi0 rfl];simp at hr;subst hr;rfl
     |some a=>
      obtain⟨b,rfl,hb⟩:=hhi a rfl
      cases a with
      |pv p=>cases p with
       |val vv=>cases vv with
        |int kk n=>
         cases hb with
         |pv hb=>
          rw[aJ hb];simp only at hr;split at hr
          .rename_i h0
           injection hr with hr;have:0<=n∧n<=(c:Int):=⟨h0,by omega⟩;simp[Ia,Instr.sliceBound,asIntOf,this,hr]
          .cases hr
        |_=>simp at hr
       |_=>simp at hr
      |_=>simp at hr
    refine⟨.slice (if c=l then A else A.map (·.add (l*jt.size))) (r-l) (c-l),?_,?_⟩
    .have hb1:=hbl r c1
     have key:(Instr.sliceBounds true xs.length c ul uh none).run C.P w=.ok (l,r,c) w:=by
      unfold Instr.sliceBounds;cases uh<;>cases ul<;>simp_all[H9,Ia]
     simp only[Instr.sliceAt,Sem.run_bind,cy hund,Result.andThen_ok,Instr.slice,key,fm hj,Sem.run_pure]
    .have hlen:((xs.take r).drop l).length=r-l:=by simp;omega
     refine .pv ?_;by_cases hz:r-l=0
     .have:(xs.take r).drop l=[]:=List.eq_nil_of_length_eq_zero (by omega)
      rw[this,hz];exact .sl0 _ _
     .cases hx with
      |pv hrr=>cases hrr with
       |sl0=>simp at c2;omega
       |sl _ b o _ sz uu hcp hsz hcc' hrr=>
        have hcl:¬c=l:=by omega
        rw[if_neg hcl]
        have hszz:sz=jt.size:=by
         have hx0:0<xs.length:=by omega
         rw[<-hsz 0 xs[0] (List.getElem?_eq_getElem hx0)];have:=List.all_eq_true.1 c4 xs[0] (List.getElem_mem hx0);simp[lI]at this;exact this.1
        subst hszz;simp only[Option.map_some,dR];rw[<-hlen]
        have hget:∀(i:Nat) y,((xs.take r).drop l)[i]?=some y->xs[l+i]?=some y:=by
         intro i y hy;rw[List.getElem?_drop,List.getElem?_take]at hy;split at hy
         .exact hy
         .cases hy
        refine .sl _ b (o+l*jt.size) _ jt.size (λi j=>uu (l+i) j) (by omega) (λi y hy=>hsz _ y (hget i y hy)) (λi y j p hy hj=>?_) (λi y j p hy hj=>hrr _ y j p (hget i y hy) hj);have:=hcc' _ y j p (hget i y hy) hj;rw[Nat.add_mul]at this;rw[show o+l*jt.size+(i*jt.size+j)=o+(l*jt.size+i*jt.size+j) from by omega];exact this
   .cases e
  .cases e
 .cases e
theorem Da{raw:Bool}(hm:MemL C L h w)(hf:bY h1 h)(hx:RepA w (ag C L h) L h x u)(e:CY raw h1 x=some (p,W)):
 aG C L h w L (ai h W) w∧Rep w (ag C L (ai h W)) p u∧bY h1 (ai h W):=by
 unfold CY at e;split at e
 .injection e with e;injection e with e1 e2;subst e1;subst e2
  cases hx with
  |pv hr=>exact⟨aG.refl hm,hr,hf⟩
 .exact ll hm hf hx e
theorem sG{ρ:Operand->AV}{σ:Operand->Value}{esz:Nat}{raw:Bool}:∀{ps:List (Nat×Operand)}{k:Nat}{h:Hp}(_:MemL C L h w)(_:bY h1 h)(_:∀x∈ps.map (·.2),RepA w (ag C L h) L h (ρ x) (σ x)){xs:List PV}{W:List (Nat×Blk)},
 oB h1 ρ esz raw k ps=some (xs,W)->aG C L h w L (ai h W) w∧bY h1 (ai h W)∧xs.length=ps.length∧(∀x∈xs,x.cells.length=esz)∧
  (∀(q:Nat)(i:Nat)(v:Value),(ps.map λ(i,x)=>(i,σ x))[q]?=some (i,v)->i=k+q∧∃p,xs[q]?=some p∧Rep w (ag C L (ai h W)) p v)
 |[],k,h,hm,hf,hr,xs,W,e=>by
  simp only[oB,Option.some.injEq,Prod.mk.injEq]at e;obtain⟨rfl,rfl⟩:=e;exact⟨aG.refl hm,hf,rfl,by simp,λq i v h=>by simp at h⟩
 |(i,x)::ps,k,h,hm,hf,hr,xs,W,e=>by
  simp only[oB]at e;split at e
  .rename_i hik
   subst hik;split at e
   .rename_i p W1 ps' W2 e1 e2
    split at e
    .rename_i hpl
     injection e with e;injection e with ea eb;subst ea;subst eb;obtain⟨a1,a2,a3⟩:=Da hm hf (hr x (by simp)) e1;obtain⟨b1,b2,b3,b4,b5⟩:=sG a1.1 a3 (λy hy=>(hr y (by simp at hy|-;exact .inr hy)).mono a1.2.1 a1.2.2) e2;rw[bV];refine⟨a1.trans b1,b2,by simp[b3],?_,?_⟩
     .intro y hy
      rcases List.mem_cons.1 hy with rfl|hy
      .exact hpl
      .exact b4 y hy
     .intro q i' v hv
      cases q with
      |zero=>simp at hv;obtain⟨rfl,rfl⟩:=hv;exact⟨by omega,p,rfl,a2.mono b1.2.1⟩
      |succ q=>
       obtain⟨c1,p',c2,c3⟩:=b5 q i' v (by simpa using hv);exact⟨by omega,p',by simpa using c2,c3⟩
    .cases e
   .cases e
  .cases e
theorem lF{esz:Nat}:∀{vs:List (Nat×Value)}{k:Nat}{arr:Array Value},(∀(q:Nat) i v,vs[q]?=some (i,v)->i=k+q∧v.cells.size=esz)->arr.size=(k+vs.length)*esz->
 ∃arr',Instr.fill (λi=>some (i*esz,esz)) arr vs=some arr'∧arr'.size=arr.size∧(∀q,q<k*esz->arr'[q]?=arr[q]?)∧
  ∀(q:Nat) i v(j:Nat),vs[q]?=some (i,v)->j<esz->arr'[(k+q)*esz+j]?=v.cells[j]?
 |[],k,arr,_,hs=>⟨arr,rfl,rfl,λ_ _=>rfl,λq i v j h=>by simp at h⟩
 |(i,v)::vs,k,arr,hv,hs=>by
  obtain⟨hik,hvs⟩:=hv 0 i v rfl
  obtain rfl:k=i:=by omega
  have hle:k*esz+esz<=arr.size:=by rw[hs];simp only[List.length_cons];rw[Nat.add_mul,Nat.add_mul];omega
  have hif:¬((v.cells.size≠esz||k*esz+v.cells.size>arr.size)=true):=by simp;omega
  simp only[Instr.fill,if_neg hif]
  have hsp:(v.cells.zipIdx.foldl (λcs(p:Value×Nat)=>cs.setIfInBounds (k*esz+p.2) p.1) arr).toList=cE arr.toList (k*esz) v.cells.toList:=by
   have:=oR (k*esz) v.cells.toList 0 arr (by simp;omega);rw[<-Array.foldl_toList,Array.toList_zipIdx];simpa using this
  generalize hA:v.cells.zipIdx.foldl (λcs(p:Value×Nat)=>cs.setIfInBounds (k*esz+p.2) p.1) arr=A at hsp
  have hAs:A.size=arr.size:=by
   have:A.toList.length=arr.size:=by rw[hsp];simp[cE];omega
   simpa using this
  obtain⟨arr',g1,g2,g3,g4⟩:=lF (vs:=vs) (k:=k+1) (arr:=A) (λq i v' hq=>by
   obtain⟨a,b⟩:=hv (q+1) i v' (by simpa using hq);exact⟨by omega,b⟩) (by rw[hAs,hs];simp only[List.length_cons];congr 1;omega)
  have hAq:∀q,q<k*esz->A[q]?=arr[q]?:=by
   intro q hq;rw[<-Array.getElem?_toList,hsp];unfold cE;rw[List.append_assoc,List.getElem?_append_left (by simp;omega),List.getElem?_take,if_pos hq];simp
  have hAv:∀j,j<esz->A[k*esz+j]?=v.cells[j]?:=by
   intro j hj;rw[<-Array.getElem?_toList,hsp];unfold cE;rw[List.append_assoc,List.getElem?_append_right (by simp;omega),List.getElem?_append_left (by simp;omega)];simp only[List.length_take,Array.length_toList];rw[show k*esz+j-min (k*esz) arr.size=j from by omega];simp
  refine⟨arr',g1,by omega,λq hq=>?_,λq i' v' j hq hj=>?_⟩
  .rw[g3 q (by rw[Nat.add_mul];omega),hAq q hq]
  .cases q with
   |zero=>
    simp at hq;obtain⟨rfl,rfl⟩:=hq;rw[Nat.add_zero,g3 _ (by rw[Nat.add_mul];omega),hAv j hj]
   |succ q=>
    have:=g4 q i' v' j (by simpa using hq) hj;rw[show k+(q+1)=k+1+q from by omega];exact this
end
section
variable {C:Cx} {L:Nat->Loc} {h1 h:Hp} {w:World}
theorem As(hsel:∀cs b,o.op≠.select cs b)(hρ:∀x∈o.op.operands,RepA w M L h (ρ x) (σ x)){v:AV}
 (e:bz C.P o ρ=some (v,W)):∃u,(execOp σ o).run C.P w=.ok (.value u) w∧W=[]∧v=.pv (.val u):=by
 unfold bz at e;split at e
 .rename_i hall
  split at e
  .rename_i u hrun
   injection e with e;injection e with e1 e2;subst e1;subst e2
   have hcongr:execOp σ o=execOp (λx=>rL (ρ x)) o:=by
    refine execOp_congr o hsel (λx hx=>?_);have h1:=List.all_eq_true.1 hall x (by simpa using hx);have h2:=hρ x hx;generalize ρ x=y at h1 h2|-
    cases y with
    |pv p=>cases p with
     |val vv=>cases h2 with
      |pv hr=>rw[aJ hr];rfl
     |_=>simp[fl]at h1
    |_=>simp[fl]at h1
   exact⟨u,by rw[hcongr];exact fg hrun w,rfl,rfl⟩
  .cases e
 .cases e
theorem KK{args:List Operand}(e:args.map ρ=[x]):∃a,args=[a]∧ρ a=x:=by
 cases args with
 |nil=>simp at e
 |cons a r=>cases r with
  |nil=>simp at e;exact⟨a,rfl,e⟩
  |cons=>simp at e
theorem Db{args:List Operand}{y:AV}(e:args.map ρ=[x,y]):∃a b,args=[a,b]∧ρ a=x∧ρ b=y:=by
 cases args with
 |nil=>simp at e
 |cons a r=>cases r with
  |nil=>simp at e
  |cons b r=>cases r with
   |nil=>simp at e;exact⟨a,b,rfl,e.1,e.2⟩
   |cons=>simp at e
theorem aj{α β:Type}{P:Program}:∀(s:Sem α)(f:α->Sem β),al P (s >>= f)=(al P s).bind λa=>al P (f a)
 |.pure a,f=>rfl
 |.program k,f=>by
  show al P ((k P) >>= f)=_;rw[aj (k P) f];rfl
 |.load _ _ _,_=>rfl
 |.store _ _ _ _,_=>rfl
 |.new _ _,_=>rfl
 |.shape _ _,_=>rfl
 |.freeze _ _ _,_=>rfl
 |.frozen _ _,_=>rfl
 |.getObj _ _,_=>rfl
 |.setObj _ _ _,_=>rfl
 |.choose _ _,_=>rfl
 |.sys _ _,_=>rfl
 |.mark _ _,_=>rfl
 |.halt _,_=>rfl
theorem dA{α:Type}(a:α):al P (pure a)=some a:=rfl
theorem eC(h1:(o.op.operands.toList.all λx=>(fl (ρ x)).isSome)=true)(h2:al P (execOp (λx=>rL (ρ x)) o)=some (.value v)):bz P o ρ=some (.pv (.val v),[]):=by
 unfold bz;rw[if_pos h1,h2]
theorem bO(h:x=.pv (.val v)):fl x=some v∧rL x=v:=by subst h;exact⟨rfl,rfl⟩
theorem BQ{y:AV}(e:qO op x y=some v)(P:Program)(t:TypeId)(xo yo:Operand):
 ∃a b,x=.pv (.val a)∧y=.pv (.val b)∧al P (do eqGuard op t xo yo a b;binOp op t a b)=some v:=by
 unfold qO at e;split at e
 .rename_i k a k' b
  refine⟨.int k a,.int k' b,rfl,rfl,?_⟩
  have hg:al P (eqGuard op t xo yo (.int k a) (.int k' b))=some ():=by unfold eqGuard;cases op<;>rfl
  rw[aj,hg];simp only[Option.bind_some];cases op<;>simp only at e
  case shl=>
   split at e
   .rename_i h;injection e with e;subst e
    have:¬b<0:=by omega
    simp only[binOp,Op.shift,this,if_false];rfl
   .cases e
  case shr=>
   split at e
   .rename_i h;injection e with e;subst e
    have:¬b<0:=by omega
    simp only[binOp,Op.shift,this,if_false];rfl
   .cases e
  case quo=>
   split at e
   .rename_i h;injection e with e;subst e
    obtain⟨rfl,hb⟩:=h;simp only[binOp,ne_eq,not_true_eq_false,if_false,Op.intDiv,hb];rfl
   .cases e
  case rem=>
   split at e
   .rename_i h;injection e with e;subst e
    obtain⟨rfl,hb⟩:=h;simp only[binOp,ne_eq,not_true_eq_false,if_false,Op.intDiv,hb];rfl
   .cases e
  all_goals first
   |(split at e
     .rename_i h;injection e with e;subst e;subst h
      simp only[binOp,ne_eq,not_true_eq_false,if_false];rfl
     .cases e)
   |cases e
 .rename_i a b
  refine⟨.string a,.string b,rfl,rfl,?_⟩
  have hg:al P (eqGuard op t xo yo (.string a) (.string b))=some ():=by unfold eqGuard;cases op<;>rfl
  rw[aj,hg];simp only[Option.bind_some]
  cases op<;>simp only at e<;>first|(injection e with e;subst e;rfl)|cases e
 .cases e
theorem Fg{x y:Operand}(ho:o.op=.binOp op t x y t')(e:qO op (ρ x) (ρ y)=some v):bz P o ρ=some (.pv (.val v),[]):=by
 obtain⟨a,b,hx,hy,hr⟩:=BQ e P t x y;refine eC (by rw[ho];simp[Op.operands,hx,hy,fl]) ?_;unfold execOp;rw[ho];simp only[(bO hx).2,(bO hy).2];rw[aj,hr];rfl
theorem Ha{op:UnOp}{x:Operand}(ho:o.op=.unOp op t x)(e:wA op (ρ x)=some v):bz P o ρ=some (.pv (.val v),[]):=by
 unfold wA at e;split at e
 .rename_i b hx
  injection e with e;subst e;refine eC (by rw[ho];simp[Op.operands,hx,fl]) ?_;unfold execOp;rw[ho];simp only[(bO hx).2];rfl
 .rename_i k n hx
  injection e with e;subst e;refine eC (by rw[ho];simp[Op.operands,hx,fl]) ?_;unfold execOp;rw[ho];simp only[(bO hx).2];rfl
 .cases e
theorem sH{k:IntKind}(e:dh P t=some k):P.underlying t=some (.int k):=by
 unfold dh at e;split at e
 .rename_i k' h;injection e with e;subst e;exact h
 .cases e
theorem df{d:TypeDesc}(e:P.underlying t=some d):al P (underlying t)=some d:=by
 unfold underlying;rw[aj];show al P (match P.underlying t with|some d=>pure d|none=>stuck "no such type")=some d;rw[e];rfl
theorem Eb{s d:TypeId}{x:Operand}(ho:o.op=.convert s d x)(e:oN P s d (ρ x)=some v):bz P o ρ=some (.pv (.val v),[]):=by
 unfold oN at e;split at e
 .rename_i k0 k k1 n h1 h2 hx
  injection e with e;subst e;refine eC (by rw[ho];simp[Op.operands,hx,fl]) ?_;unfold execOp;rw[ho];simp only[(bO hx).2];rw[aj]
  have:al P (convert s d (.int k1 n))=some (.int k (k.wrap n)):=by
   unfold convert;rw[aj,df (sH h1)];simp only[Option.bind_some];rw[aj,df (sH h2)];rfl
  rw[this];rfl
 .cases e
theorem Fh{as:List Operand}(ho:o.op=.call ⟨.builtin .min,⟨as⟩,⟨ts⟩⟩)(e:uf (as.map ρ)=some v):bz P o ρ=some (.pv (.val v),[]):=by
 unfold uf at e;split at e
 .rename_i k a k' b hargs
  injection e with e;subst e;obtain⟨x,y,rfl,hx,hy⟩:=Db hargs;refine eC (by rw[ho];simp[Op.operands,Call.operands,hx,hy,fl]) ?_;unfold execOp;rw[ho];simp[resolve,invoke,builtin,Builtin.min_,(bO hx).2,(bO hy).2,Builtin.min2,aj,dA]
 .cases e
theorem Fi{as:List Operand}(ho:o.op=.call ⟨.builtin .max,⟨as⟩,⟨ts⟩⟩)(e:ug (as.map ρ)=some v):bz P o ρ=some (.pv (.val v),[]):=by
 unfold ug at e;split at e
 .rename_i k a k' b hargs
  injection e with e;subst e;obtain⟨x,y,rfl,hx,hy⟩:=Db hargs;refine eC (by rw[ho];simp[Op.operands,Call.operands,hx,hy,fl]) ?_;unfold execOp;rw[ho];simp[resolve,invoke,builtin,Builtin.max_,(bO hx).2,(bO hy).2,Builtin.max2,aj,dA]
 .cases e
theorem jS{q:Option Value}{e:dm}(h:∀v,q=some v->bz P o ρ=some (.pv (.val v),[]))(he:lJ P o ρ q=some e):bz P o ρ=some e:=by
 cases q with
 |none=>exact he
 |some v=>rw[h v rfl];exact he
theorem kW{i:TypeInfo}(h:P.info? t=some i):al P (typeInfo t)=some i:=by
 unfold typeInfo;rw[aj];show(some P).bind _=_;rw[Option.bind_some,h];rfl
theorem Hb{x i:Operand}(ho:o.op=.index t x i)(e:wC (fT P t) (ρ x) (ρ i)=some v):bz P o ρ=some (.pv (.val v),[]):=by
 unfold wC at e;split at e
 .rename_i s k n hk hx hi
  have hu:P.underlying t=some .string:=by
   unfold fT at hk;split at hk
   .assumption
   .split at hk
    .cases hk
    .cases hk
    .split at hk<;>simp at hk
    .cases hk
   .cases hk
  split at e
  .rename_i h0
   simp only[Option.map_eq_some_iff]at e;obtain⟨b,hb,rfl⟩:=e;refine eC (by rw[ho];simp[Op.operands,hx,hi,fl]) ?_;unfold execOp;rw[ho];simp only[(bO hx).2,(bO hi).2]
   have h1:al P (Instr.index t (.string s) (.int k n))=some (.int .u8 b.toNat):=by
    unfold Instr.index;simp only[asIntOf,pure_bind];rw[aj,df hu,Option.bind_some];simp only[h0,if_true,hb];rfl
   rw[aj,h1];rfl
  .cases e
 .rename_i m cs k n hk hx hi
  split at e
  .rename_i h0
   have hu:∃el d,P.underlying t=some (.array m el)∧P.underlying el=some d∧(∀fs,d≠.struct fs)∧(∀a b,d≠.array a b)∧∃j,P.info? el=some j∧j.size=1:=by
    unfold fT at hk;split at hk
    .cases hk
    .rename_i m' el hu
     split at hk
     .cases hk
     .cases hk
     .rename_i d hs ha hd
      split at hk
      .rename_i hc
       injection hk with hk;injection hk with hk;subst hk;obtain⟨c1,c2⟩:=hc;obtain⟨j,hj⟩:=Option.isSome_iff_exists.1 c2;refine⟨el,d,hu,hd,λfs he=>?_,λa b he=>?_,j,hj,?_⟩
       .exact hs fs he
       .exact ha a b he
       .simpa[mD,hj]using c1
      .cases hk
     .cases hk
    .cases hk
   obtain⟨el,d,hu,hd,hs,ha,j,hj,hj1⟩:=hu;refine eC (by rw[ho];simp[Op.operands,hx,hi,fl]) ?_;unfold execOp;rw[ho];simp only[(bO hx).2,(bO hi).2]
   have hsz:al P (sizeOf el)=some 1:=by
    unfold sizeOf;rw[aj,kW hj,Option.bind_some,<-hj1];rfl
   have hag:al P (isAgg el)=some false:=by
    unfold isAgg;rw[aj,df hd,Option.bind_some]
    cases d<;>first|rfl|exact absurd rfl (hs _)|exact absurd rfl (ha _ _)
   have h1:al P (Instr.index t (.agg cs) (.int k n))=some v:=by
    unfold Instr.index;simp only[asIntOf,pure_bind];rw[aj,df hu,Option.bind_some];simp only[h0,and_self,if_true];rw[aj,hsz,Option.bind_some,Nat.mul_one];unfold part;rw[aj,hag,Option.bind_some];simp only[Bool.false_eq_true,if_false,e];rfl
   rw[aj,h1];rfl
  .cases e
 .cases e
def Dc(C:Cx)(L:Nat->Loc)(h:Hp)(w:World)(o:Oper)(σ:Operand->Value)(v:AV)(W:List (Nat×Blk)):Prop:=
 ∃n u w' L',(execOp σ o).run C.P w=.ok n w'∧(n=.value u∨(n=.skip∧u=undef))∧aG C L h w L' (ai h W) w'∧RepA w' (ag C L' (ai h W)) L' (ai h W) v u
theorem dj(hm:MemL C L h w){v:AV}(hr:RepA w (ag C L h) L h v u)(e:(execOp σ o).run C.P w=.ok (.value u) w):Dc C L h w o σ v []:=
 ⟨_,u,w,L,e,.inl rfl,aG.refl hm,hr⟩
theorem gE(hm:MemL C L h w)(hsel:∀cs b,o.op≠.select cs b)(hρ:∀x∈o.op.operands,RepA w (ag C L h) L h (ρ x) (σ x)){v:AV}
 (e:bz C.P o ρ=some (v,W)):Dc C L h w o σ v W:=by
 obtain⟨u,h1,rfl,rfl⟩:=As hsel hρ e;exact dj hm (.pv (.val u)) h1
theorem wM(P:Program)(t:TypeId)(v:Value):(newVar t v).run P w=.ok ⟨w.heap.size,0,none⟩ (w.alloc (.cells v.cells t)):=rfl
theorem Cd(hm:MemL C L h w):∀k e sz xs fz,h k=some (.row e sz xs fz)->(L k).isNil=true->xs=[]:=λk _ _ _ _ hk hn=>(hm.bl k _ hk).2.2.2.1 hn
theorem pQ(hm:List Operand)(hρ:∀x∈hm,RepA w M L h (ρ x) (σ x)):aB w M L h (hm.map ρ) (hm.map σ):=by
 refine⟨by simp,λi p u hp hu=>?_⟩;simp only[List.getElem?_map,Option.map_eq_some_iff]at hp hu;obtain⟨x,hx,rfl⟩:=hp;obtain⟨y,hy,rfl⟩:=hu;rw[hx]at hy;injection hy with hy;subst hy;exact hρ x (List.mem_of_getElem? hx)
theorem BR{q:Option Bool}(h:wE op q=some b):∃b',q=some b'∧((op=.eql∧b=b')∨(op=.neq∧b=!b')):=by
 unfold wE at h;split at h
 .cases h
 .rename_i b'
  split at h
  .injection h with h;exact⟨b',rfl,.inl ⟨rfl,h.symm⟩⟩
  .injection h with h;exact⟨b',rfl,.inr ⟨rfl,h.symm⟩⟩
  .cases h
theorem vr(h0:lH x=true)(hx:RepA w M L h x u):u=.slice none 0 0:=by
 unfold lH at h0;split at h0
 .cases hx with
  |pv hr=>rw[aJ hr,jQ h0]
 .cases h0
theorem oS(h:lc P t=true):∃e,P.underlying t=some (.slice e):=by
 unfold lc at h;split at h
 .rename_i s z e esz eb ez hti
  exact⟨e,(di hti rfl).1⟩
 .cases h
theorem yi(hm:MemL C L h w)(hs:∀k b,h1 k=some b->h k=some b)(hx:RepA w (ag C L h) L h x u)(e:rO h1 x=some b):∃a n c,u=.slice a n c∧a.isNone=b:=by
 unfold rO at e;split at e
 .rename_i v
  split at e
  .rename_i hn
   injection e with e;subst e
   cases hx with
   |pv hr=>exact⟨none,0,0,by rw[aJ hr,jQ hn],rfl⟩
  .cases e
 .rename_i xs
  split at e
  .cases e
  .rename_i hne
   injection e with e;subst e
   cases hx with
   |pv hr=>
    cases hr with
    |sl0 a c=>simp at hne
    |sl xs b o c sz u hcap hs hc hr=>exact⟨_,_,_,rfl,rfl⟩
 .rename_i k n
  split at e
  .rename_i e0 sz xs fz hk
   split at e
   .rename_i hc
    injection e with e;subst e
    cases hx with
    |arr hk2 hn2 hu=>
     rw[hs _ _ hk]at hk2;injection hk2 with hk2;injection hk2 with a1 a2 a3 a4;subst a3
     have hnil:(L k).isNil=false:=by
      cases hq:(L k).isNil with
      |false=>rfl
      |true=>exact absurd (by rw[(hm.bl k _ (hs _ _ hk)).2.2.2.1 hq]at hc;exact hc.1.symm) hc.2
     rw[hu hc.1,Loc.slice,hnil];exact⟨_,_,_,rfl,rfl⟩
   .cases e
  .cases e
 .cases e
theorem BT(d:Nat){e:TypeId}(a:Option Addr)(n c:Nat)(h:P.underlying t=some (.slice e)):al P (Op.equalIn (d+1) t (.slice a n c) (.slice none 0 0))=some a.isNone:=by
 unfold Op.equalIn;rw[aj]
 have:al P (underlying t)=some (.slice e):=by unfold underlying;rw[aj];show(some P).bind _=_;rw[Option.bind_some,h];rfl
 rw[this,Option.bind_some];cases a<;>rfl
theorem yj{dst:Option Nat}{x y:Operand}{ty:TypeId}{pos:String}{aft:Array Edge}{g:Option (Nat×Bool)}(hu:∃e,P.underlying t=some (.slice e))
 {a:Option Addr}{n c:Nat}(hx:σ x=.slice a n c)(hy:σ y=.slice none 0 0){b:Bool}(hop:(op=.eql∧b=a.isNone)∨(op=.neq∧b=!a.isNone)):
 al P (execOp σ ⟨dst,.binOp op t x y t',ty,pos,aft,g⟩)=some (.value (.bool b)):=by
 obtain⟨e,he⟩:=hu;unfold execOp;simp only[hx,hy];have hq:al P (Op.equal t (.slice a n c) (.slice none 0 0))=some a.isNone:=BT _ a n c he;rcases hop with⟨rfl,rfl⟩|⟨rfl,rfl⟩
 .have h1:al P (eqGuard .eql t x y (.slice a n c) (.slice none 0 0))=some ():=rfl
  have h2:al P (binOp .eql t (.slice a n c) (.slice none 0 0))=some (.bool a.isNone):=by simp only[binOp,aj,hq,Option.bind_some];rfl
  simp only[aj,h1,h2,Option.bind_some];rfl
 .have h1:al P (eqGuard .neq t x y (.slice a n c) (.slice none 0 0))=some ():=rfl
  have h2:al P (binOp .neq t (.slice a n c) (.slice none 0 0))=some (.bool !a.isNone):=by simp only[binOp,aj,hq,Option.bind_some];rfl
  simp only[aj,h1,h2,Option.bind_some];rfl
theorem BU(cs:Array Value)(off sz:Nat):Value.agg (cs.extract off (off+sz))=vm cs off sz:=by
 unfold vm
 congr 1
 apply Array.ext';simp[List.extract_eq_drop_take]
theorem oT{j:TypeInfo}(ha:lK P t=some true)(hj:P.info? t=some j)(cs:Array Value)(off:Nat):al P (part t cs off)=some (vm cs off j.size):=by
 have hag:al P (isAgg t)=some true:=by
  unfold lK at ha;unfold isAgg;rw[aj];split at ha
  .rename_i h;rw[df h];rfl
  .rename_i h;rw[df h];rfl
  .cases ha
  .cases ha
 have hsz:al P (sizeOf t)=some j.size:=by
  unfold sizeOf;rw[aj,kW hj,Option.bind_some];rfl
 unfold part;rw[aj,hag,Option.bind_some];show al P (do pure (Value.agg (cs.extract off (off+(<-sizeOf t)))))=_;rw[aj,hsz,Option.bind_some,<-BU];rfl
theorem oU(ha:lK P t=some false){off:Nat}(hv:cs[off]?=some v):al P (part t cs off)=some v:=by
 have hag:al P (isAgg t)=some false:=by
  unfold lK at ha;unfold isAgg;rw[aj];split at ha
  .cases ha
  .cases ha
  .rename_i d hs hn h
   rw[df h,Option.bind_some]
   cases d<;>first|rfl|exact(hs _ rfl).elim|exact(hn _ _ rfl).elim
  .cases ha
 unfold part;rw[aj,hag,Option.bind_some];simp only[Bool.false_eq_true,if_false,hv];rfl
theorem Hc{x i:Operand}(ho:o.op=.index t x i)(e:wD (o7 P t) (ρ x) (ρ i)=some v):bz P o ρ=some (.pv (.val v),[]):=by
 unfold wD at e;split at e
 .rename_i n sz cs k ix hk hx hi
  split at e
  .rename_i h0
   injection e with e;subst e;unfold o7 at hk;split at hk
   .rename_i m el hu
    split at hk
    .rename_i j ha hj
     injection hk with hk;injection hk with hk1 hk2;subst hk1;subst hk2;refine eC (by rw[ho];simp[Op.operands,hx,hi,fl]) ?_;unfold execOp;rw[ho];simp only[(bO hx).2,(bO hi).2]
     have hsz:al P (sizeOf el)=some j.size:=by
      unfold sizeOf;rw[aj,kW hj,Option.bind_some];rfl
     have h1:al P (Instr.index t (.agg cs) (.int k ix))=some (vm cs (ix.toNat*j.size) j.size):=by
      unfold Instr.index;simp only[asIntOf,pure_bind];rw[aj,df hu,Option.bind_some];simp only[h0,and_self,if_true];rw[aj,hsz,Option.bind_some];exact oT ha hj _ _
     rw[aj,h1];rfl
    .cases hk
   .cases hk
  .cases e
 .cases e
theorem Fj{x:Operand}{f:Nat}(ho:o.op=.field t x f)(e:uj (qP P t f) (ρ x)=some v):bz P o ρ=some (.pv (.val v),[]):=by
 have key:∀{b off sz cs},qP P t f=some (b,off,sz)->ρ x=.pv (.val (.agg cs))->∀v,(∀t',lK P t'=some b->(∃j,P.info? t'=some j∧j.size=sz)->al P (part t' cs off)=some v)->bz P o ρ=some (.pv (.val v),[]):=by
  intro b off sz cs hk hx v hp;unfold qP at hk;split at hk
  .rename_i fs hu
   split at hk
   .rename_i fd hfd
    split at hk
    .rename_i b' j ha hj
     injection hk with hk;injection hk with hk1 hk;injection hk with hk2 hk3;subst hk1;subst hk2;subst hk3;refine eC (by rw[ho];simp[Op.operands,hx,fl]) ?_;unfold execOp;rw[ho];simp only[(bO hx).2]
     have h1:al P (Instr.field t (.agg cs) f)=some v:=by
      unfold Instr.field;rw[aj,df hu,Option.bind_some];simp only[hfd,asAgg,pure_bind];exact hp _ ha ⟨j,hj,rfl⟩
     rw[aj,h1];rfl
    .cases hk
   .cases hk
  .cases hk
 unfold uj at e;split at e
 .rename_i off sz cs hk hx
  injection e with e;subst e;exact key hk hx _ (λt' ha ⟨j,hj,hs⟩=>by rw[<-hs];exact oT ha hj _ _)
 .rename_i off sz cs hk hx
  exact key hk hx _ (λt' ha _=>oU ha e)
 .cases e
theorem At{x y:Option Value}(e:uk x y=some v):x=some v∨y=some v:=by
 unfold uk at e;split at e
 .exact .inl e
 .exact .inr e
theorem Ec{w:World}{L:Nat->Loc}{h:Hp}(f:Fn){vs:List Value}(h1:aB w M L h first us)(h2:aB w M L h caps vs):RepA w M L h (zQ f first caps) (.func f us.toArray vs.toArray):=by
 unfold zQ;split
 .rename_i x r
  have hv:=h2.nil_inv;subst hv;split
  .rename_i ps hps
   have e:=ng hps;rw[e]at h1;have h3:=h1.map_pv_inv;split
   .rename_i ws hws
    rw[rE hws h3];exact .pv (.val _)
   .exact .pv (.fn f ps [] us [] h3.1 rfl h3.2 bw.nil.2)
  .exact .fn f _ _ us [] h1.1 rfl h1.2 aB.nil.2
 .exact .fn f first caps us vs h1.1 h2.1 h1.2 h2.2
theorem uN(h:qQ P t=true):∃d,P.underlying t=some d∧∀m,d≠.interface m:=by
 unfold qQ at h;split at h
 .cases h
 .rename_i d hd hn;exact⟨d,hn,λm e=>hd m e⟩
 .cases h
end
section
variable {P:Program} {kt e0:TypeId} {kd:IntKind} {n:Nat} {j:TypeInfo}
end
section
variable {P:Program} {kt e0:TypeId} {kd:IntKind} {n:Nat} {j:TypeInfo} {w:World}
end
section
variable {C:Cx} {L:Nat->Loc} {h1 h:Hp} {w:World}
theorem De(hm:MemL C L h w)(hs:∀k b,h1 k=some b->h k=some b)(hfresh:∀d,o.dst=some d->h1 d=h d∧d<2000000)
 (hρ:∀x∈o.op.operands,RepA w (ag C L h) L h (ρ x) (σ x)){hn:List Nat}{v:AV}{W:List (Nat×Blk)}(e:du C.P hn o ρ h1=some (v,W)):Dc C L h w o σ v W:=by
 obtain⟨dst,op,type,pos,after,guard⟩:=o;simp only at hfresh
 cases op with
 |move x=>
  simp only[du,Option.some.injEq,Prod.mk.injEq]at e;obtain⟨rfl,rfl⟩:=e;exact dj hm (hρ x (by simp[Op.operands])) rfl
 |assign x=>
  have hx:=hρ x (by simp[Op.operands]);simp only[du]at e
  have hplain:some (ρ x,[])=some (v,W)->Dc C L h w ⟨dst,.assign x,type,pos,after,guard⟩ σ v W:=by
   intro e;simp only[Option.some.injEq,Prod.mk.injEq]at e;obtain⟨rfl,rfl⟩:=e;exact dj hm hx rfl
  split at e
  .rename_i d
   split at e
   .rename_i hc
    simp only[Bool.and_eq_true]at hc;split at e
    .rename_i sz zr et esz eb ez hti
     split at e
     .rename_i hd
      injection e with e;injection e with e1 e2;subst e1;subst e2
      have hdn:h d=none:=by rw[<-(hfresh d rfl).1];simpa using hd.1
      have hnil:σ x=.slice none 0 0:=by
       have h2:=hc.2;generalize ρ x=y at h2 hx;unfold lH at h2;split at h2
       .cases hx with
        |pv hr=>rw[aJ hr,jQ h2]
       .cases h2
      have hrow:=jq (e:=et) (sz:=esz) (xs:=[]) (l:=⟨0,0,true⟩) hm (Ext.refl _ w) hdn (hfresh d rfl).2 (λh=>by cases h)
       ⟨hd.2,Nat.zero_le _,by simp,λ_=>rfl,(λh=>by cases h)⟩
      exact⟨.value (.slice none 0 0),.slice none 0 0,w,_,by simp[execOp,hnil],.inl rfl,hrow.1,hrow.2⟩
     .cases e
    .cases e
   .exact hplain e
  .exact hplain e
 |pick c a b=>
  simp only[du]at e;split at e
  .rename_i t ht
   injection e with e;injection e with e1 e2;subst e1;subst e2;have hc:=hρ c (by simp[Op.operands]);rw[ht]at hc
   have hcv:σ c=.bool t:=by cases hc with|pv hr=>exact aJ hr
   refine dj hm (u:=if t then σ a else σ b) ?_ (by simp[execOp,hcv,asBool])
   cases t with
   |true=>exact hρ a (by simp[Op.operands])
   |false=>exact hρ b (by simp[Op.operands])
  .cases e
 |alloc elem=>
  simp only[du]at e;split at e
  .rename_i sz z kd d hti
   split at e
   .rename_i hd
    injection e with e;injection e with e1 e2;subst e1;subst e2
    have hdn:h d=none:=by rw[<-(hfresh d rfl).1];simpa using hd
    obtain⟨i,dd,hi,_,_,hz,_⟩:=fU hti
    have hz0:aB w (ag C L h) L h (z.cells.toList.map λv=>AV.pv (.val v)) z.cells.toList:=by
     refine⟨by simp,λq p u hp hu=>?_⟩;simp only[List.getElem?_map,Option.map_eq_some_iff]at hp;obtain⟨y,hy,rfl⟩:=hp;rw[hy]at hu;injection hu with hu;subst hu;exact .pv (.val _)
    have hb:=yf (us:=z.cells) hm hdn (hfresh d rfl).2 hz0 elem;refine⟨.value (.pointer (some ⟨w.heap.size,0,none⟩)),_,_,_,?_,.inl rfl,hb.1,hb.2⟩;simp only at hz;simp[execOp,Instr.alloc,zeroValue,jR hi,<-hz,wM]
   .cases e
  .cases e
 |box elem x=>
  simp only[du]at e;split at e
  .rename_i cs d hcs
   split at e
   .rename_i hd
    injection e with e;injection e with e1 e2;subst e1;subst e2
    have hdn:h d=none:=by rw[<-(hfresh d rfl).1];simpa using hd
    have hr:=nK hs (hρ x (by simp[Op.operands])) hcs;have hb:=yf (us:=(σ x).cells) hm hdn (hfresh d rfl).2 hr elem;refine⟨.value (.pointer (some ⟨w.heap.size,0,none⟩)),_,_,_,?_,.inl rfl,hb.1,hb.2⟩;simp[execOp,Instr.box,wM]
   .cases e
  .cases e
 |build t ps=>
  simp only[du]at e;split at e
  .rename_i ti qs hti hqs
   simp only[Option.map_eq_some_iff,Prod.mk.injEq]at e;obtain⟨v',e1,rfl,rfl⟩:=e;have hp:=sE (σ:=σ) hs (λx hx=>hρ x (by simpa[Op.operands]using hx)) hqs;obtain⟨r,hr1,hr2⟩:=zF hti hp e1;refine dj hm hr2 ?_
   have:(ps.map λ(i,x)=>(i,σ x))=(ps.toList.map λ(i,x)=>(i,σ x)).toArray:=by
    apply Array.ext';simp
   simp only[execOp,Sem.run_bind,this,hr1,Result.andThen_ok,Sem.run_pure]
  .cases e
 |buildSlice t len ps=>
  simp only[du]at e;split at e
  .rename_i eff heff
   injection e with e;subst e;unfold vn at heff;split at heff
   .rename_i d hps
    split at heff
    .split at heff
     .rename_i s0 z0 et esz eb z1 hti
      split at heff
      .rename_i hc
       injection heff with heff;injection heff with e1 e2;subst e1;subst e2;obtain⟨hund,jt,hj,hjs,_,hjz⟩:=di hti rfl
       have hdn:h d=none:=by rw[<-(hfresh d rfl).1];simpa using hc.1
       have hrow:=jq (e:=et) (sz:=esz) (xs:=[]) (l:=⟨w.heap.size,0,false⟩) hm (Ext.alloc (λ_=>False) w (.cells #[] et)) hdn (hfresh d rfl).2 (λ_=>Nat.le_refl _)
        ⟨hc.2,Nat.zero_le _,by simp,λ_=>rfl,λ_=>⟨Nat.le_refl _,Nat.zero_le _,#[],gU w _,by simp,λi x j p hx=>by simp at hx⟩⟩
       have hps':ps=#[]:=by apply Array.ext';simpa using hps
       subst hps';refine⟨.value (.slice (some ⟨w.heap.size,0,none⟩) 0 0),_,w.alloc (.cells #[] et),_,?_,.inl rfl,hrow.1,hrow.2⟩
       have h0:¬0>2^24:=by omega
       simp only[execOp,Instr.buildSlice,Sem.run_bind,cy hund,Result.andThen_ok,fm hj,Nat.zero_mul,if_true,pure_bind,h0,if_false]
       have e1:Array.range 0=#[]:=by simp
       rw[e1];simp only[List.map_toArray,List.map_nil,Instr.fill];rfl
      .cases heff
     .cases heff
    .cases heff
   .cases heff
  split at e
  .rename_i s0 z0 et esz eb z1 hti
   split at e
   .rename_i xs W' hel
    split at e
    .rename_i hc
     obtain⟨c1,c2,c3⟩:=hc;obtain⟨hund,jt,hj,hjs,_,hjz⟩:=di hti rfl;subst hjs;obtain⟨a1,a2,a3,a4,a5⟩:=sG (σ:=σ) hm (bY.of_sub hs) (λx hx=>hρ x (by simpa[Op.operands]using hx)) hel
     have hvs:(ps.map λ(i,x)=>(i,σ x)).toList=ps.toList.map λ(i,x)=>(i,σ x):=by simp
     have hpsl:ps.toList.length=len:=by omega
     have hsz2:∀(q:Nat) i v,(ps.toList.map λ(i,x)=>(i,σ x))[q]?=some (i,v)->i=0+q∧v.cells.size=jt.size:=by
      intro q i v hq;obtain⟨b1,p,b2,b3⟩:=a5 q i v hq;refine⟨b1,?_⟩;have:=b3.cells.1;rw[a4 p (List.mem_of_getElem? b2)]at this;simpa using this.symm
     obtain⟨arr,f1,f2,f3,f4⟩:=lF (arr:=(Array.range (len*jt.size)).map ((if len*jt.size=0 then #[]else z1.cells:Array Value)[·% (if len*jt.size=0 then #[]else z1.cells:Array Value).size]!)) hsz2 (by simp[hpsl]);have hg:=a1.1.grow (Ext.alloc (λ_=>False) w (.cells arr et))
     have hrun:(execOp σ ⟨dst,.buildSlice t len ps,type,pos,after,guard⟩).run C.P w=.ok (.value (.slice (some ⟨w.heap.size,0,none⟩) len len)) (w.alloc (.cells arr et)):=by
      have hlim:¬len*jt.size>2^24:=by omega
      have hzv:(zeroValue et).run C.P w=.ok z1 w:=by simp[zeroValue,jR hj,hjz]
      by_cases hl:len*jt.size=0
      .simp only[hl,if_true]at f1
       have h0:¬0>2^24:=by omega
       simp only[execOp,Instr.buildSlice,Sem.run_bind,cy hund,Result.andThen_ok,fm hj,hl,h0,if_false,if_true,pure_bind,hvs,f1];rfl
      .simp only[hl,if_false]at f1
       simp only[execOp,Instr.buildSlice,Sem.run_bind,cy hund,Result.andThen_ok,fm hj,hlim,hl,if_false,pure_bind,hzv,hvs,f1];rfl
     have hcellr:∀(i:Nat) x(j:Nat) p,xs[i]?=some x->x.cells[j]?=some p->∃u,arr[i*jt.size+j]?=some u∧Rep w (ag C L (ai h W')) p u:=by
      intro i x j p hx hj2
      have hil:i<(ps.toList.map λ(i,x)=>(i,σ x)).length:=by rw[List.length_map];have:=(List.getElem?_eq_some_iff.1 hx).1;omega
      obtain⟨⟨i',vv⟩,hvv⟩:∃y,(ps.toList.map λ(i,x)=>(i,σ x))[i]?=some y:=⟨_,List.getElem?_eq_getElem hil⟩;obtain⟨b1,p',b2,b3⟩:=a5 i i' vv hvv;rw[hx]at b2;injection b2 with b2;subst b2
      have hjl:j<jt.size:=by rw[<-a4 x (List.mem_of_getElem? hx)];exact(List.getElem?_eq_some_iff.1 hj2).1
      have hget:=f4 i i' vv j hvv hjl;rw[Nat.zero_add]at hget
      have hvl:j<vv.cells.size:=by rw[(hsz2 i i' vv hvv).2];exact hjl
      rw[Array.getElem?_eq_getElem hvl]at hget;exact⟨_,hget,b3.cells.2 j p vv.cells[j] hj2 (by simp[hvl])⟩
     split at e
     .rename_i d hd
      unfold Aj at hd;split at hd
      .rename_i d' _
       split at hd
       .rename_i hdc
        injection hd with hd;subst hd;injection e with e;injection e with e1 e2;subst e1;subst e2;simp only[Bool.and_eq_true,Option.isNone_iff_eq_none]at hdc
        have hdn:h d'=none:=by rw[<-(hfresh d' rfl).1];exact hdc.2
        have hrow:=jq (e:=et) (sz:=jt.size) (xs:=xs) (l:=⟨w.heap.size,len,false⟩) hm (Ext.alloc (λ_=>False) w (.cells arr et)) hdn (hfresh d' rfl).2 (λ_=>Nat.le_refl _) (by
         refine⟨c2,Nat.zero_le _,λx hx=>a4 x hx,(λh=>by cases h),λ_=>⟨by show xs.length<=len;omega,by simp only[maxLen];have:=Nat.le_mul_of_pos_right len c2;omega,arr,gU w _,?_,?_⟩⟩
         .rw[f2];simp
         .intro i x j p hx hj2
          obtain⟨u,hu,hr⟩:=hcellr i x j p hx hj2
          exact⟨u,hu,hr.mono (mE (Ext.alloc (λ_=>False) w (.cells arr et)) (λ_=>Nat.le_refl _))⟩)
        rw[c1]at hrow;exact⟨_,_,_,_,hrun,.inl rfl,hrow.1,hrow.2⟩
       .cases hd
      .cases hd
     injection e with e;injection e with e1 e2;subst e1;subst e2;refine⟨.value (.slice (some ⟨w.heap.size,0,none⟩) len len),_,w.alloc (.cells arr et),L,hrun,.inl rfl,a1.trans ⟨hg.1,hg.2,KC.refl _ _⟩,.pv ?_⟩
     .rw[<-c1]
      refine .sl xs w.heap.size 0 xs.length jt.size (λi j=>(arr[i*jt.size+j]?).getD undef) (Nat.le_refl _) (λi x hx=>a4 x (List.mem_of_getElem? hx)) ?_ ?_
      all_goals
       intro i x j p hx hj2
       have hil:i<(ps.toList.map λ(i,x)=>(i,σ x)).length:=by rw[List.length_map];have:=(List.getElem?_eq_some_iff.1 hx).1;omega
       obtain⟨⟨i',vv⟩,hvv⟩:∃y,(ps.toList.map λ(i,x)=>(i,σ x))[i]?=some y:=⟨_,List.getElem?_eq_getElem hil⟩;obtain⟨b1,p',b2,b3⟩:=a5 i i' vv hvv;rw[hx]at b2;injection b2 with b2;subst b2
       have hjl:j<jt.size:=by rw[<-a4 x (List.mem_of_getElem? hx)];exact(List.getElem?_eq_some_iff.1 hj2).1
       have hget:=f4 i i' vv j hvv hjl;rw[Nat.zero_add]at hget
       have hvl:j<vv.cells.size:=by rw[(hsz2 i i' vv hvv).2];exact hjl
       rw[Array.getElem?_eq_getElem hvl]at hget
      .refine⟨by rw[dI (gU w _),Nat.zero_add,hget];rfl,λhM=>?_⟩
       have:=a1.1.mlt hM;omega
      .simp only[hget,Option.getD_some]
       have:=b3.cells.2 j p vv.cells[j] hj2 (by simp[hvl]);exact this.mono hg.2
    .cases e
   .cases e
  .cases e
 |load t a=>
  simp only[du]at e;split at e
  .rename_i ti hti
   simp only[Option.map_eq_some_iff,Prod.mk.injEq]at e;obtain⟨v',e1,rfl,rfl⟩:=e;obtain⟨r,hr1,hr2⟩:=sZ hm hs hti (hρ a (by simp[Op.operands])) e1;exact dj hm hr2 (by simp[execOp,hr1])
  .cases e
 |store t a x=>
  simp only[du]at e;split at e
  .rename_i ti hti
   simp only[Option.map_eq_some_iff,Prod.mk.injEq]at e;obtain⟨W',e1,rfl,rfl⟩:=e;obtain⟨w',hr1,hr2⟩:=zD hm hs hti (hρ a (by simp[Op.operands])) (hρ x (by simp[Op.operands])) e1;exact⟨.skip,undef,w',L,by simp[execOp,hr1],.inr ⟨rfl,rfl⟩,hr2,.undef _⟩
  .cases e
 |nilCheck x=>
  have hx:=hρ x (by simp[Op.operands]);simp only[du]at e;split at e
  .rename_i k off hk
   injection e with e;injection e with e1 e2;subst e1;subst e2;rw[hk]at hx;have hx':=hx;generalize hσ:σ x=u at hx hx'
   cases hx with
   |ptr hkk=>exact dj hm hx' (by simp[execOp,hσ])
  .rename_i y off hk
   injection e with e;injection e with e1 e2;subst e1;subst e2;rw[hk]at hx;have hx':=hx;generalize hσ:σ x=u at hx hx'
   cases hx with
   |pv hr=>cases hr with
    |rptr=>exact dj hm hx' (by simp[execOp,hσ])
  .cases e
 |fieldAddr s x f=>
  simp only[du]at e;split at e
  .rename_i ti hti
   simp only[Option.map_eq_some_iff,Prod.mk.injEq]at e;obtain⟨v',e1,rfl,rfl⟩:=e;obtain⟨r,hr1,hr2⟩:=uF hti hs (hρ x (by simp[Op.operands])) e1;exact dj hm hr2 (by simp[execOp,hr1])
  .cases e
 |indexAddr t x ix=>
  simp only[du]at e;split at e
  .rename_i ti n hti hn
   simp only[Option.map_eq_some_iff,Prod.mk.injEq]at e;obtain⟨v',e1,rfl,rfl⟩:=e;have hix:=hρ ix (by simp[Op.operands])
   have hint:∃kk,σ ix=.int kk n:=by
    generalize ρ ix=y at hn hix;unfold Ah at hn;split at hn
    .rename_i kk m
     injection hn with hn;subst hn
     cases hix with
     |pv hr=>exact⟨kk,aJ hr⟩
    .cases hn
   obtain⟨kk,hkk⟩:=hint;obtain⟨r,hr1,hr2⟩:=(Aq e1).elim (uG (kk:=kk) hs hti (hρ x (by simp[Op.operands])) (Cd hm)) (yh (kk:=kk) hs hti (hρ x (by simp[Op.operands])));exact dj hm hr2 (by simp[execOp,hkk,hr1])
  .cases e
 |makeInterface t x=>
  simp only[du]at e;split at e
  .rename_i hp
   split at e
   .rename_i p W' e1
    injection e with e;injection e with e1' e2';subst e1';subst e2';obtain⟨b1,b2,_⟩:=ll hm (bY.of_sub hs) (hρ x (by simp[Op.operands])) e1;refine⟨.value (.iface t (σ x)),_,w,L,?_,.inl rfl,b1,.pv (.ifc t p _ b2)⟩;obtain⟨d,hd,hd2⟩:=uN hp;simp only[execOp,Instr.makeInterface,Sem.run_bind,run_underlying hd,Result.andThen_ok]
    cases d<;>first|rfl|exact(hd2 _ rfl).elim
   .cases e
  .cases e
 |typeAssert x xt a' ok=>
  have hx:=hρ x (by simp[Op.operands]);simp only[du]at e;split at e
  .rename_i t p hk
   split at e
   .rename_i hp
    simp only[Option.map_eq_some_iff,Prod.mk.injEq]at e;obtain⟨v',e1,rfl,rfl⟩:=e;rw[hk]at hx;generalize hσ:σ x=u at hx
    cases hx with
    |pv hr=>cases hr with
     |ifc _ _ v hv=>
      obtain⟨d,hd,hd2⟩:=uN hp;unfold yd at e1
      have hstep:(Instr.typeAssert (.iface t v) xt a' ok).run C.P w=(if t=a' then .ok (if ok then .tuple #[v,.bool true]else v) w else if ok then((zeroValue a').run C.P w).andThen λz w=>.ok (.tuple #[z,.bool false]) w else(runtimePanic (.typeAssertion (some xt) (some t) a' ""):Sem Value).run C.P w):=by
       unfold Instr.typeAssert;simp only[Sem.run_bind,cy hd,Result.andThen_ok]
       cases d with
       |interface m=>exact(hd2 m rfl).elim
       |_=>split<;>split<;>simp[Sem.run_bind]<;>rfl
      split at e1
      .rename_i ht
       injection e1 with e1;subst e1;refine dj hm (u:=if ok then .tuple #[v,.bool true]else v) ?_ (by simp only[execOp,hσ,Sem.run_bind,hstep,if_pos ht,Result.andThen_ok];rfl)
       cases ok with
       |false=>exact .pv hv
       |true=>exact .pv (.tup [p,.val (.bool true)] [v,.bool true] rfl (bw.cons hv (bw.cons (.val _) .nil)).2)
      .rename_i ht
       split at e1
       .rename_i hok
        split at e1
        .rename_i z hz
         injection e1 with e1;subst e1;obtain⟨ti,hti,hz'⟩:=Option.bind_eq_some_iff.1 hz;obtain⟨i,_,hi,_,_,hiz,_⟩:=fU hti;subst hok
         have hzv:(zeroValue a').run C.P w=.ok z w:=by
          have:i.zero=some z:=hiz▸hz';simp[zeroValue,jR hi,this]
         refine dj hm (u:=.tuple #[z,.bool false]) ?_ (by simp only[execOp,hσ,Sem.run_bind,hstep,if_neg ht,if_true,hzv,Result.andThen_ok];rfl);exact .pv (.tup [.val z,.val (.bool false)] [z,.bool false] rfl (bw.cons (.val _) (bw.cons (.val _) .nil)).2)
        .cases e1
       .cases e1
   .cases e
  .cases e
 |makeFunc f first caps=>
  obtain⟨first⟩:=first
  obtain⟨caps⟩:=caps;simp only[du,Option.some.injEq,Prod.mk.injEq]at e;obtain⟨rfl,rfl⟩:=e
  have a1:=pQ (σ:=σ) first (λx hx=>hρ x (by simp[Op.operands,hx]))
  have a2:=pQ (σ:=σ) caps (λx hx=>hρ x (by simp[Op.operands,hx]));refine dj hm (u:=.func f (first.map σ).toArray (caps.map σ).toArray) ?_ (by simp[execOp,Instr.makeFunc]);exact Ec f a1 a2
 |makeSlice t l c=>
  simp only[du]at e;split at e
  .rename_i ti hti
   obtain⟨r,w',L',hr1,hr2,hr3⟩:=(Ar e).elim (zE hm hti hfresh (hρ l (by simp[Op.operands])) (hρ c (by simp[Op.operands]))) (Ao hm hti hfresh (hρ l (by simp[Op.operands])) (hρ c (by simp[Op.operands])));exact⟨.value r,r,w',L',by simp[execOp,hr1],.inl rfl,hr2,hr3⟩
  .cases e
 |slice t x lo hi mx=>
  simp only[du]at e;split at e
  .exact gE hm (by intro _ _ h;cases h) hρ e
  .rename_i k n hk
   split at e
   .rename_i ti hti
    unfold GE at e;split at e
    .rename_i p W1 e1
     split at e
     .rename_i v1 e2
      injection e with e;injection e with ea eb;subst ea;subst eb;have hx:=hρ x (by simp[Op.operands]);rw[hk]at hx;obtain⟨a1,a2,_⟩:=lL hm (bY.of_sub hs) hx e1
      obtain⟨r,hr1,hr2⟩:=sF (ul:=lo.map σ) (uh:=hi.map σ) hti (.pv a2)
       (by intro a ha;cases lo with
         |none=>cases ha
         |some y=>simp at ha;subst ha;exact⟨_,rfl,(hρ y (by simp[Op.operands])).mono a1.2.1 a1.2.2⟩) (by intro ha;cases lo with
         |none=>rfl
         |some y=>cases ha)
       (by intro a ha;cases hi with
         |none=>cases ha
         |some y=>simp at ha;subst ha;exact⟨_,rfl,(hρ y (by simp[Op.operands])).mono a1.2.1 a1.2.2⟩) (by intro ha;cases hi with
         |none=>rfl
         |some y=>cases ha) e2
      exact⟨.value r,r,w,L,by simp[execOp,hr1],.inl rfl,a1,hr2⟩
     .cases e
    .cases e
   .cases e
  .split at e
   .rename_i ti hti
    simp only[Option.map_eq_some_iff,Prod.mk.injEq]at e;obtain⟨v',e1,rfl,rfl⟩:=e
    obtain⟨r,hr1,hr2⟩:=sF (ul:=lo.map σ) (uh:=hi.map σ) hti (hρ x (by simp[Op.operands]))
     (by intro a ha;cases lo with
       |none=>cases ha
       |some y=>simp at ha;subst ha;exact⟨_,rfl,hρ y (by simp[Op.operands])⟩) (by intro ha;cases lo with
       |none=>rfl
       |some y=>cases ha)
     (by intro a ha;cases hi with
       |none=>cases ha
       |some y=>simp at ha;subst ha;exact⟨_,rfl,hρ y (by simp[Op.operands])⟩) (by intro ha;cases hi with
       |none=>rfl
       |some y=>cases ha) e1
    exact dj hm hr2 (by simp[execOp,hr1])
   .cases e
  .cases e
 |extract t i=>
  have ht:=hρ t (by simp[Op.operands]);simp only[du]at e;split at e
  .rename_i vs hvs
   simp only[Option.map_eq_some_iff,Prod.mk.injEq]at e;obtain⟨v',e1,rfl,rfl⟩:=e;rw[hvs]at ht;generalize hσ:σ t=u at ht
   cases ht with
   |tup _ us hl hh=>
    have hlt:i<us.length:=by rw[<-hl];exact(List.getElem?_eq_some_iff.1 e1).1
    exact dj hm (hh i v' us[i] e1 (List.getElem?_eq_getElem hlt)) (by simp[execOp,hσ,Instr.extract,hlt])
  .rename_i vs hvs
   simp only[Option.map_eq_some_iff,Prod.mk.injEq]at e;obtain⟨v',e1,rfl,rfl⟩:=e;rw[hvs]at ht;generalize hσ:σ t=u at ht
   cases ht with
   |pv hr=>cases hr with
    |tup _ us hl hh=>
     have hlt:i<us.length:=by rw[<-hl];exact(List.getElem?_eq_some_iff.1 e1).1
     exact dj hm (.pv (hh i v' us[i] e1 (List.getElem?_eq_getElem hlt))) (by simp[execOp,hσ,Instr.extract,hlt])
  .exact gE hm (by intro _ _ h;cases h) hρ e
  .cases e
 |call c=>
  simp only[du]at e;split at e
  .rename_i b hb
   obtain⟨callee,args,argTypes⟩:=c;simp only at hb e;subst hb;obtain⟨args⟩:=args;obtain⟨argTypes⟩:=argTypes;simp only at e;have hex:(execOp σ ⟨dst,.call ⟨.builtin b,⟨args⟩,⟨argTypes⟩⟩,type,pos,after,guard⟩)=builtin b ⟨argTypes⟩ type ((⟨args⟩:Array Operand).map λ|.const _=>true|_=>false) ((⟨args⟩:Array Operand).map σ):=rfl;have hops:∀x∈args,RepA w (ag C L h) L h (ρ x) (σ x):=λx hx=>hρ x (by simp[Op.operands,Call.operands,hx]);unfold sW at e;split at e
   .rename_i _ _ x t hargs
    .obtain⟨a,rfl,rfl⟩:=KK hargs
     split at e
     .exact gE hm (by intro _ _ h;cases h) hρ e
     .split at e
      .rename_i ti hti
       simp only[Option.map_eq_some_iff,Prod.mk.injEq]at e;obtain⟨v',e1,rfl,rfl⟩:=e;obtain⟨r,hr1,hr2⟩:=BP (ty:=type) hs hti (hops a (by simp)) (Cd hm) e1;exact dj hm hr2 (by rw[hex];simp[builtin,hr1])
      .cases e
   .rename_i _ _ s x t t' hargs
    .obtain⟨a,b,rfl,rfl,rfl⟩:=Db hargs
     split at e
     .rename_i htt
      subst htt;split at e
      .rename_i ti hti
       obtain⟨r,w',L',hr1,hr2,hr3⟩:=yg (ty:=type) hm hs hti hfresh (hops a (by simp)) (hops b (by simp)) e;exact⟨.value r,r,w',L',by rw[hex];simp[builtin,hr1],.inl rfl,hr2,hr3⟩
      .cases e
     .cases e
   .rename_i _ _ s x t t' hargs
    .obtain⟨a,b,rfl,rfl,rfl⟩:=Db hargs
     split at e
     .rename_i ti hti
      obtain⟨r,w',hr1,hr2,hr3⟩:=Ap (t':=t') (ty:=type) hm hs hti (hops a (by simp)) (hops b (by simp)) e;exact⟨.value r,r,w',L,by rw[hex];simp[builtin,hr1],.inl rfl,hr2,hr3⟩
     .cases e
   .exact gE hm (by intro _ _ h;cases h) hρ (jS (λv hv=>Fh rfl hv) e)
   .exact gE hm (by intro _ _ h;cases h) hρ (jS (λv hv=>Fi rfl hv) e)
   .cases e
  .cases e
 |binOp op t x y t'=>
  simp only[du]at e;split at e
  .rename_i b hb
   injection e with e;injection e with e1 e2;subst e1;subst e2;unfold Ai at hb;split at hb
   .rename_i hcond
    simp only[Bool.and_eq_true]at hcond;obtain⟨b',hk,hop⟩:=BR hb;have hy:=vr hcond.1 (hρ y (by simp[Op.operands]));obtain⟨a,n,c,hx,ha⟩:=yi hm hs (hρ x (by simp[Op.operands])) hk;refine dj hm (.pv (.val (.bool b))) (fg (yj (oS hcond.2) hx hy ?_) w);rcases hop with⟨rfl,rfl⟩|⟨rfl,rfl⟩
    .left;exact⟨rfl,by rw[ha]⟩
    .right;exact⟨rfl,by rw[ha]⟩
   .cases hb
  .exact gE hm (by intro _ _ h;cases h) hρ (jS (λv hv=>Fg rfl hv) e)
 |unOp _ _ _=>simp only[du]at e;exact gE hm (by intro _ _ h;cases h) hρ (jS (λv hv=>Ha rfl hv) e)
 |convert _ _ _=>simp only[du]at e;exact gE hm (by intro _ _ h;cases h) hρ (jS (λv hv=>Eb rfl hv) e)
 |field _ _ _=>simp only[du]at e;exact gE hm (by intro _ _ h;cases h) hρ (jS (λv hv=>Fj rfl hv) e)
 |index _ _ _=>simp only[du]at e;exact gE hm (by intro _ _ h;cases h) hρ (jS (λv hv=>(At hv).elim (Hb rfl) (Hc rfl)) e)
 |_=>simp[du]at e
end
section
variable {C:Cx} {L:Nat->Loc} {h1 h:Hp} {w:World}
theorem jT:∀{W:List (Nat×Blk)}{h:Hp}{k:Nat},(∀kb∈W,kb.1≠k)->ai h W k=h k
 |[],h,k,_=>rfl
 |(q,b)::W,h,k,hne=>by
  show ai (ah h q (some b)) W k=h k;rw[jT (λkb hkb=>hne kb (by simp[hkb])),bj (λe=>hne (q,b) (by simp) e.symm)]
theorem MemL.callStep(hm:MemL C L h w){w':World}{h':Hp}(hx:Ext (·∈ks.map λk=>(L k).b) w w')(hlen:hout.length=ks.length)
 (ha:∀k,k∉ks->h' k=h k)
 (hb:∀(i:Nat) k ps,ks[i]?=some k->hout[i]?=some ps->∃cs own,h k=some (.box cs own false)∧h' k=some (.box (ps.map .pv) own false)∧jf w' (ag C L h) (L k).b ps):aG C L h w L h' w':=by
 have hin:∀k,k∈ks->∃ps cs own,h k=some (.box cs own false)∧h' k=some (.box (ps.map .pv) own false)∧jf w' (ag C L h) (L k).b ps:=by
  intro k hk;obtain⟨i,hi⟩:=List.mem_iff_getElem?.1 hk
  have hlt:i<hout.length:=by rw[hlen];exact(List.getElem?_eq_some_iff.1 hi).1
  obtain⟨cs,own,a,b,c⟩:=hb i k hout[i] hi (List.getElem?_eq_getElem hlt);exact⟨_,cs,own,a,b,c⟩
 have hMM:∀b o,ag C L h' b o->ag C L h b o:=by
  rintro b o (h0|⟨q,blk,hq,hl,hqb,hf⟩)
  .exact .inl h0
  .by_cases e:q∈ks
   .obtain⟨ps,cs,own,a,_,_⟩:=hin q e
    exact .inr ⟨q,_,a,trivial,hqb,by simp[Blk.frz]⟩
   .rw[ha q e]at hq;exact .inr ⟨q,blk,hq,hl,hqb,hf⟩
 have hMM':∀b o,ag C L h b o->ag C L h' b o:=by
  rintro b o (h0|⟨q,blk,hq,hl,hqb,hf⟩)
  .exact .inl h0
  .by_cases e:q∈ks
   .obtain⟨ps,cs,own,a,b',_⟩:=hin q e
    exact .inr ⟨q,_,b',trivial,hqb,by simp[Blk.frz]⟩
   .exact .inr ⟨q,blk,by rw[ha q e];exact hq,hl,hqb,hf⟩
 have hkc:KC L h L h':=by
  intro q blk hq;by_cases e:q∈ks
  .obtain⟨ps,cs,own,a,b',_⟩:=hin q e
   rw[a]at hq;injection hq with hq;subst hq;exact⟨_,b',rfl⟩
  .exact⟨blk,by rw[ha q e];exact hq,bW _ _⟩
 have hnotin:∀b o,¬ag C L h b o->b∉ks.map λk=>(L k).b:=by
  intro b o hn hmem;obtain⟨q,hq,rfl⟩:=List.mem_map.1 hmem;obtain⟨ps,cs,own,a,_,_⟩:=hin q hq;exact hn (.inr ⟨q,_,a,trivial,rfl,by simp[Blk.frz]⟩)
 have hpres:Pres w (ag C L h) w' (ag C L h'):=by
  refine Pres.ext hx (λb _ hmem o=>?_) (λb o _ h=>hMM b o h);exact Classical.byContradiction λhn=>hnotin b o hn hmem
 refine⟨⟨?_,hm.m0,?_,?_,?_⟩,hpres,hkc⟩
 .refine hm.ext.trans hx (λb hb0 hmem=>?_)
  obtain⟨q,hq,rfl⟩:=List.mem_map.1 hmem;obtain⟨ps,cs,own,a,_,_⟩:=hin q hq;have:=hm.own q _ a
  cases own with
  |false=>exact this.2.2.1
  |true=>rcases this with h9|h9
         .omega
         .exact h9.1
 .intro q blk hq
  by_cases e:q∈ks
  .obtain⟨ps,cs,own,a,b',arr,ty,e1,e2⟩:=hin q e
   rw[b']at hq;injection hq with hq;subst hq;exact⟨arr,ty,e1,(aB.map_pv (e2.mono (Pres.sub hMM)))⟩
  .rw[ha q e]at hq
   refine(hm.bl q blk hq).mono hpres hkc (λhl=>hx.block _ ((hm.bl q blk hq).lt hl) (λhmem=>?_));obtain⟨q',hq',he⟩:=List.mem_map.1 hmem;obtain⟨ps,cs,own,a,_,_⟩:=hin q' hq';exact hm.sep q q' _ _ (λe'=>e (e'▸hq')) hq a hl trivial he.symm
 .intro q q' b1 b2 hne hq hq' hl hl'
  have aux:∀q b,h' q=some b->b.live (L q)->∃b0,h q=some b0∧b0.live (L q):=by
   intro q b hq hl;by_cases e:q∈ks
   .obtain⟨ps,cs,own,a,_,_⟩:=hin q e;exact⟨_,a,trivial⟩
   .rw[ha q e]at hq;exact⟨b,hq,hl⟩
  obtain⟨c1,d1,f1⟩:=aux q b1 hq hl;obtain⟨c2,d2,f2⟩:=aux q' b2 hq' hl';exact hm.sep q q' c1 c2 hne d1 d2 f1 f2
 .intro q blk hq
  by_cases e:q∈ks
  .obtain⟨ps,cs,own,a,b',_⟩:=hin q e
   rw[b']at hq;injection hq with hq;subst hq;have:=hm.own q _ a;cases own<;>exact this
  .rw[ha q e]at hq;exact hm.own q blk hq
theorem yZ(e:jN h1 x=some (p,W)):∀kb∈W,(h1 kb.1).isSome=true:=by
 unfold jN at e;split at e
 .injection e with e;injection e with _ e;subst e;simp
 .split at e
  .rename_i hk
   split at e
   .injection e with e;injection e with _ e;subst e;simp[hk]
   .cases e
  .cases e
 .split at e
  .rename_i hk
   injection e with e;injection e with _ e;subst e;simp[hk]
  .cases e
 .cases e
theorem rR:∀{xs:List AV}{p:List PV}{W:List (Nat×Blk)},kV h1 xs=some (p,W)->∀kb∈W,(h1 kb.1).isSome=true
 |[],p,W,e=>by simp only[kV,Option.some.injEq,Prod.mk.injEq]at e;obtain⟨_,rfl⟩:=e;simp
 |x::r,p,W,e=>by
  simp only[kV]at e;split at e
  .rename_i e1 e2
   injection e with e;injection e with _ e;subst e;intro kb hkb;rcases List.mem_append.1 hkb with h'|h'
   .exact yZ e1 kb h'
   .exact rR e2 kb h'
  .cases e
theorem tc(e:qx h1 x=some (p,W)):∀kb∈W,(h1 kb.1).isSome=true:=by
 unfold qx at e;split at e
 .split at e
  .rename_i hk
   split at e
   .split at e
    .rename_i e1
     split at e
     .injection e with e;injection e with _ e;subst e
      intro kb hkb;rcases List.mem_append.1 hkb with h'|h'
      .exact rR e1 kb h'
      .simp only[List.mem_singleton]at h';subst h';simp[hk]
     .cases e
    .cases e
   .split at e
    .split at e
     .rename_i e1
      split at e
      .injection e with e;injection e with _ e;subst e
       intro kb hkb;rcases List.mem_append.1 hkb with h'|h'
       .exact rR e1 kb h'
       .simp only[List.mem_singleton]at h';subst h';simp[hk]
      .cases e
     .cases e
    .cases e
  .cases e
 .exact yZ e
theorem ni:∀{xs:List AV}{p:List PV}{W:List (Nat×Blk)},nH h1 xs=some (p,W)->∀kb∈W,(h1 kb.1).isSome=true
 |[],p,W,e=>by simp only[nH,Option.some.injEq,Prod.mk.injEq]at e;obtain⟨_,rfl⟩:=e;simp
 |x::r,p,W,e=>by
  simp only[nH]at e;split at e
  .rename_i e1 e2
   injection e with e;injection e with _ e;subst e;intro kb hkb;rcases List.mem_append.1 hkb with h'|h'
   .exact tc e1 kb h'
   .exact ni e2 kb h'
  .cases e
theorem uP(e:oP h1 x=some (p,W)):∀kb∈W,(h1 kb.1).isSome=true:=by
 unfold oP at e;split at e
 .injection e with e;injection e with _ e;subst e;simp
 .split at e
  .rename_i hk
   split at e
   .split at e
    all_goals injection e with e;injection e with _ e;subst e;simp[hk]
   .split at e
    .rename_i e1
     split at e
     all_goals
      injection e with e;injection e with _ e;subst e;intro kb hkb;rcases List.mem_append.1 hkb with h'|h'
      .exact ni e1 kb h'
      .simp only[List.mem_singleton]at h';subst h';simp[hk]
    .cases e
  .cases e
 .cases e
theorem oV:∀{xs:List AV}{p:List PV}{W:List (Nat×Blk)},jo h1 xs=some (p,W)->∀kb∈W,(h1 kb.1).isSome=true
 |[],p,W,e=>by simp only[jo,Option.some.injEq,Prod.mk.injEq]at e;obtain⟨_,rfl⟩:=e;simp
 |x::r,p,W,e=>by
  simp only[jo]at e;split at e
  .rename_i e1 e2
   injection e with e;injection e with _ e;subst e;intro kb hkb;rcases List.mem_append.1 hkb with h'|h'
   .exact uP e1 kb h'
   .exact oV e2 kb h'
  .cases e
theorem Ee(e:xY h1 x=some (p,W)):∀kb∈W,(h1 kb.1).isSome=true:=by
 unfold xY at e;split at e
 .split at e
  .rename_i e1;injection e with e;injection e with _ e;subst e;exact ni e1
  .cases e
 .split at e
  .rename_i e1 e2
   injection e with e;injection e with _ e;subst e;intro kb hkb;rcases List.mem_append.1 hkb with h'|h'
   .exact ni e1 kb h'
   .exact oV e2 kb h'
  .cases e
 .exact tc e
theorem rS:∀{xs:List AV}{p:List PV}{W:List (Nat×Blk)},mR h1 xs=some (p,W)->∀kb∈W,(h1 kb.1).isSome=true
 |[],p,W,e=>by simp only[mR,Option.some.injEq,Prod.mk.injEq]at e;obtain⟨_,rfl⟩:=e;simp
 |x::r,p,W,e=>by
  simp only[mR]at e;split at e
  .rename_i e1 e2
   injection e with e;injection e with _ e;subst e;intro kb hkb;rcases List.mem_append.1 hkb with h'|h'
   .exact Ee e1 kb h'
   .exact rS e2 kb h'
  .cases e
theorem Fk(e:frz h1 x=some (p,W)):∀kb∈W,(h1 kb.1).isSome=true:=by
 unfold frz at e;split at e
 .split at e
  .rename_i e1;injection e with e;injection e with _ e;subst e;exact rS e1
  .cases e
 .split at e
  .rename_i e1 e2
   injection e with e;injection e with _ e;subst e;intro kb hkb;rcases List.mem_append.1 hkb with h'|h'
   .exact ni e1 kb h'
   .exact oV e2 kb h'
  .cases e
 .split at e
  .rename_i e1;injection e with e;injection e with _ e;subst e;exact rS e1
  .cases e
 .exact tc e
theorem lN:∀{xs:List AV}{ks0:List Nat}{h:Hp}(_:MemL C L h w)(_:bY h1 h){us:List Value}(_:aB w (ag C L h) L h xs us){as:List Arg}{ks:List Nat}{W:List (Nat×Blk)},
 iu h1 xs ks0=some (as,ks,W)->aG C L h w L (ai h W) w∧bY h1 (ai h W)∧(∃ks1,ks=ks0++ks1)∧(ks0.Nodup->ks.Nodup)∧as.length=us.length∧
  (∀kb∈W,(h1 kb.1).isSome=true)∧∀(i:Nat) a v,as[i]?=some a->us[i]?=some v->D8 w (ag C L (ai h W)) (ks.map λk=>(L k).b) a v
 |[],ks0,h,hm,hf,us,hr,as,ks,W,e=>by
  simp only[iu,Option.some.injEq,Prod.mk.injEq]at e;obtain⟨rfl,rfl,rfl⟩:=e;rw[hr.nil_inv];exact⟨aG.refl hm,hf,⟨[],by simp⟩,id,rfl,by simp,λi a v h=>by simp at h⟩
 |x::r,ks0,h,hm,hf,us,hr,as,ks,W,e=>by
  obtain⟨u,us',rfl,hu,hr'⟩:=hr.cons_inv;unfold iu at e;split at e
  .rename_i k off
   split at e
   .rename_i hc
    obtain⟨rfl,hck,_⟩:=hc;split at e
    .rename_i as' ks' W' e1
     injection e with e;injection e with ea eb;injection eb with eb ec;subst ea;subst eb;subst ec;obtain⟨a1,a2,⟨ks1,a3⟩,a4,a5,a6,a7⟩:=lN hm hf hr' e1;refine⟨a1,a2,⟨k::ks1,by rw[a3];simp⟩,λhnd=>a4 ?_,by simp[a5],a6,λi a v ha hv=>?_⟩
     .rw[List.nodup_append]
      refine⟨hnd,by simp,?_⟩;intro q hq q' hq' heq;simp at hq';subst hq';subst heq;have hq2:ks0.contains q=true:=List.contains_iff_mem.2 hq;rw[hck]at hq2;cases hq2
     .cases i with
      |zero=>
       simp at ha hv;subst ha;subst hv;refine⟨(L k).b,by rw[a3];simp,?_⟩
       cases hu with
       |ptr _=>rfl
      |succ i=>exact a7 i a v (by simpa using ha) (by simpa using hv)
    .cases e
   .split at e
    .split at e
     .rename_i p W1 as' ks' W2 e1 e2
      injection e with e;injection e with ea eb;injection eb with eb ec;subst ea;subst eb;subst ec;obtain⟨b1,b2,b3⟩:=sY hm hf hu e1;obtain⟨a1,a2,a3,a4,a5,a6,a7⟩:=lN b1.1 b3 (hr'.mono b1.2.1 b1.2.2) e2;rw[bV];refine⟨b1.trans a1,a2,a3,a4,by simp[a5],?_,λi a v ha hv=>?_⟩
      .intro kb hkb
       rcases List.mem_append.1 hkb with h'|h'
       .exact uP e1 kb h'
       .exact a6 kb h'
      .cases i with
       |zero=>simp at ha hv;subst ha;subst hv;exact b2.mono a1.2.1
       |succ i=>exact a7 i a v (by simpa using ha) (by simpa using hv)
     .cases e
    .cases e
  .rename_i x' hnp
   split at e
   .rename_i p W1 as' ks' W2 e1 e2
    injection e with e;injection e with ea eb;injection eb with eb ec;subst ea;subst eb;subst ec;obtain⟨b1,b2,b3⟩:=ll hm hf hu e1;obtain⟨a1,a2,a3,a4,a5,a6,a7⟩:=lN b1.1 b3 (hr'.mono b1.2.1 b1.2.2) e2;rw[bV];refine⟨b1.trans a1,a2,a3,a4,by simp[a5],?_,λi a v ha hv=>?_⟩
    .intro kb hkb
     rcases List.mem_append.1 hkb with h'|h'
     .exact Fk e1 kb h'
     .exact a6 kb h'
    .cases i with
     |zero=>simp at ha hv;subst ha;subst hv;exact b2.mono a1.2.1
     |succ i=>exact a7 i a v (by simpa using ha) (by simpa using hv)
   .cases e
theorem y5:∀{ks:List Nat}{hin:List (List PV)},kD h1 ks=some hin->hin.length=ks.length∧∀(i:Nat) k ps,ks[i]?=some k->hin[i]?=some ps->∃own,h1 k=some (.box (ps.map .pv) own false)
 |[],hin,e=>by simp only[kD,Option.some.injEq]at e;subst e;exact⟨rfl,λi k ps h=>by simp at h⟩
 |k::ks,hin,e=>by
  simp only[kD]at e;split at e
  .rename_i cs own hs hk e1
   split at e
   .rename_i ps hp
    injection e with e;subst e;obtain⟨a,b⟩:=y5 e1;refine⟨by simp[a],λi q qs hq hqs=>?_⟩
    cases i with
    |zero=>simp at hq hqs;subst hq;subst hqs;exact⟨own,by rw[<-ng hp];exact hk⟩
    |succ i=>exact b i q qs (by simpa using hq) (by simpa using hqs)
   .cases e
  .cases e
theorem wP:∀{ks:List Nat}{hout:List (List PV)}{h:Hp},ks.Nodup->hout.length=ks.length->(∀k∈ks,∃cs own fz,h1 k=some (.box cs own fz))->
 (∀k,k∉ks->ai h (iG h1 ks hout) k=h k)∧(∀kb∈iG h1 ks hout,kb.1∈ks)∧
 (∀(i:Nat) k ps,ks[i]?=some k->hout[i]?=some ps->∀cs own fz,h1 k=some (.box cs own fz)->ai h (iG h1 ks hout) k=some (.box (ps.map .pv) own false))
 |[],hout,h,_,_,_=>by
  refine⟨λk _=>?_,?_,λi k ps h=>by simp at h⟩
  .cases hout<;>rfl
  .cases hout<;>simp[iG]
 |k::ks,hout,h,hnd,hl,hk=>by
  cases hout with
  |nil=>simp at hl
  |cons ps hs=>
   obtain⟨cs,own,fz,hkk⟩:=hk k (by simp);have hnk:k∉ks:=(List.nodup_cons.1 hnd).1;have ih:=λ(h:Hp)=>wP (hout:=hs) (h:=h) (List.nodup_cons.1 hnd).2 (by simpa using hl) (λq hq=>hk q (by simp[hq]))
   have hun:iG h1 (k::ks) (ps::hs)=(k,.box (ps.map .pv) own false)::iG h1 ks hs:=by simp[iG,hkk]
   rw[hun];have hw:∀q,ai h ((k,.box (ps.map .pv) own false)::iG h1 ks hs) q=ai (ah h k (some (.box (ps.map .pv) own false))) (iG h1 ks hs) q:=λq=>rfl;refine⟨λq hq=>?_,?_,λi q qs hq hqs cs' own' fz' hq'=>?_⟩
   .simp at hq
    rw[hw,(ih _).1 q hq.2,bj hq.1]
   .intro kb hkb
    rcases List.mem_cons.1 hkb with rfl|h'
    .simp
    .have:=(ih h).2.1 kb h';simp[this]
   .rw[hw]
    cases i with
    |zero=>
     simp at hq hqs;subst hq;subst hqs;rw[(ih _).1 k hnk,aF];rw[hkk]at hq';injection hq' with hq';injection hq' with _ h2 _;rw[h2]
    |succ i=>exact(ih _).2.2 i q qs (by simpa using hq) (by simpa using hqs) cs' own' fz' hq'
end
section
variable {C:Cx} {L:Nat->Loc} {h1 h:Hp} {w:World}
theorem gO{c:AV}(hc:RepA w M L h c u)(e:bC c=some (g,first,caps)):
 ∃vs us:List Value,u=.func (.func g) vs.toArray us.toArray∧aB w M L h first vs∧aB w M L h caps us:=by
 unfold bC at e;split at e
 .rename_i f fs cs
  simp only[Option.some.injEq,Prod.mk.injEq]at e;obtain⟨rfl,rfl,rfl⟩:=e
  cases hc with
  |pv hr=>
   rw[aJ hr];refine⟨fs.toList,cs.toList,by simp,?_,?_⟩
   all_goals
    refine⟨by simp,λq p u hp hu=>?_⟩;simp only[List.getElem?_map,Option.map_eq_some_iff]at hp;obtain⟨y,hy,rfl⟩:=hp;rw[hy]at hu;injection hu with hu;subst hu;exact .pv (.val _)
 .simp only[Option.some.injEq,Prod.mk.injEq]at e
  obtain⟨rfl,rfl,rfl⟩:=e
  cases hc with
  |pv hr=>cases hr with
   |fn _ _ _ vs us hl hk h1 h2=>exact⟨vs,us,rfl,aB.map_pv ⟨hl,h1⟩,aB.map_pv ⟨hk,h2⟩⟩
 .simp only[Option.some.injEq,Prod.mk.injEq]at e
  obtain⟨rfl,rfl,rfl⟩:=e
  cases hc with
  |fn _ _ _ vs us hl hk h1 h2=>exact⟨vs,us,rfl,⟨hl,h1⟩,⟨hk,h2⟩⟩
 .cases e
theorem Aw{w:World}(hp:jO p=true)(h:Rep w M p v):Rep w M' p v:=by
 cases h with
 |val v=>exact .val v
 |agg cs vs hl hh=>
  refine .agg cs vs hl (λi q u hq hu=>?_);have:=List.all_eq_true.1 hp q (List.mem_of_getElem? hq);have hr:=hh i q u hq hu
  cases q with
  |val v'=>rw[aJ hr];exact .val _
  |_=>cases this
 |_=>cases hp
theorem qT{w:World}{x:PV}(hp:jO x=true)(hj:x.cells[j]?=some p)(h:Rep w M p v):Rep w M' p v:=by
 cases x with
 |val u=>
  simp only[PV.cells,List.getElem?_map,Option.map_eq_some_iff]at hj;obtain⟨y,_,rfl⟩:=hj;rw[aJ h];exact .val _
 |agg cs=>
  have:=List.all_eq_true.1 hp p (List.mem_of_getElem? hj)
  cases p with
  |val v'=>rw[aJ h];exact .val _
  |_=>cases this
 |_=>cases hp
theorem BW{w:World}{l:Loc}{e sz:Nat}{xs:List PV}(hx:xs.all jO=true)(h:db w M (λ_=>default) (λ_=>none) l (.row e sz xs 0)):db w M' (λ_=>default) (λ_=>none) l (.row e sz xs 0):=by
 obtain⟨c1,c2,c3,c4,c5⟩:=h;refine⟨c1,c2,c3,c4,λhn=>?_⟩;obtain⟨d1,d2,arr,d3,d4,d5⟩:=c5 hn;refine⟨d1,d2,arr,d3,d4,λi x j p hxi hj=>?_⟩;obtain⟨v,hv,hr⟩:=d5 i x j p hxi hj;exact⟨v,hv,qT (List.all_eq_true.1 hx x (List.mem_of_getElem? hxi)) hj hr⟩
theorem mW{w:World}(hp:oD p=true)(h:Rep w M p v):Rep w M' p v:=by
 cases h with
 |val v=>exact .val v
 |hd n a c=>exact .hd n a c
 |tup cs vs hl hh=>
  refine .tup cs vs hl (λi q u hq hu=>?_);have:=List.all_eq_true.1 hp q (List.mem_of_getElem? hq);have hr:=hh i q u hq hu
  cases q with
  |val v'=>rw[aJ hr];exact .val _
  |hd n=>cases hr with
   |hd _ a c=>exact .hd n a c
  |_=>cases this
 |agg cs vs hl hh=>
  refine .agg cs vs hl (λi q u hq hu=>?_);have:=List.all_eq_true.1 hp q (List.mem_of_getElem? hq);have hr:=hh i q u hq hu
  cases q with
  |val v'=>rw[aJ hr];exact .val _
  |hd n=>cases hr with
   |hd _ a c=>exact .hd n a c
  |_=>cases this
 |_=>cases hp
theorem td(hm:MemL C L h w)(hs:∀k b,h1 k=some b->h k=some b){d:Option Nat}(hfresh:∀q,d=some q->h1 q=h q∧q<2000000){c:AV}(hc:RepA w (ag C L h) L h c u)(ha:aB w (ag C L h) L h args us)
 {K:dm->Prop}(e:fD C.P c args d h1 K):∃g vs cs,u=.func (.func g) vs cs∧bZ C.P g=true∧∃eff:dm,K eff∧
  Calls C.P g (vs.toList++us++cs.toList).toArray w λe w'=>∃r L',e=.returned r∧aG C L h w L' (ai h eff.2) w'∧RepA w' (ag C L' (ai h eff.2)) L' (ai h eff.2) eff.1 r:=by
 unfold fD at e;split at e
 .exact e.elim
 .rename_i g first caps hce
  obtain⟨vs,cs,rfl,hf,hcp⟩:=gO hc hce;split at e
  .exact e.elim
  .rename_i as ks W0 hta
   split at e
   .exact e.elim
   .rename_i hdis
    split at e
    .exact e.elim
    .rename_i hin hhi
     obtain⟨hout,res,hdet,he⟩:=e;have hall:aB w (ag C L h) L h (first++args++caps) (vs++us++cs):=(hf.append ha).append hcp;obtain⟨a1,a2,⟨ks1,a3⟩,a4,a5,a6,a7⟩:=lN hm (bY.of_sub hs) hall hta;have hnd:ks.Nodup:=a4 (by simp);obtain⟨b1,b2⟩:=y5 hhi
     have hkbox:∀k∈ks,∃(ps:List PV)(own:Bool),h1 k=some (.box (ps.map .pv) own false)∧ai h W0 k=some (.box (ps.map .pv) own false):=by
      intro k hk;obtain⟨i,hi⟩:=List.mem_iff_getElem?.1 hk
      have hlt:i<hin.length:=by rw[b1];exact(List.getElem?_eq_some_iff.1 hi).1
      obtain⟨own,hown⟩:=b2 i k hin[i] hi (List.getElem?_eq_getElem hlt);refine⟨_,own,hown,?_⟩;rw[jT,hs _ _ hown];intro kb hkb he;apply hdis;rw[List.any_eq_true];exact⟨kb,hkb,List.contains_iff_mem.2 (he▸hk)⟩
     obtain⟨hcall,hlen,hD⟩:=hdet
     have hnb:(ks.map λk=>(L k).b).Nodup:=by
      rw[List.nodup_iff_pairwise_ne]at hnd|-;rw[List.pairwise_map];refine List.Pairwise.imp_of_mem ?_ hnd;intro x y hx hy hxy;obtain⟨_,_,_,hx'⟩:=hkbox x hx;obtain⟨_,_,_,hy'⟩:=hkbox y hy;exact a1.1.sep x y _ _ hxy hx' hy' trivial trivial
     have hcalls:=hD w (ag C L (ai h W0)) (ks.map λk=>(L k).b) (vs++us++cs) (λb o hM=>a1.1.mlt hM) (by simp[b1]) hnb
      (λi b ps hb hps=>by
        simp only[List.getElem?_map,Option.map_eq_some_iff]at hb;obtain⟨k,hk,rfl⟩:=hb;obtain⟨own,hown⟩:=b2 i k ps hk hps
        have hw:ai h W0 k=some (.box (ps.map .pv) own false):=by
         obtain⟨ps',own',h9,h10⟩:=hkbox k (List.mem_of_getElem? hk);rw[hown]at h9;injection h9 with h9;injection h9 with h11 h12;rw[h10,h11,h12]
        refine⟨λo=>.inr ⟨k,_,hw,trivial,rfl,by simp[Blk.frz]⟩,?_⟩;obtain⟨arr,ty,e1,e2⟩:=a1.1.bl k _ hw
        exact⟨arr,ty,e1,e2.map_pv_inv⟩) a5 a7
     refine⟨g,vs.toArray,cs.toArray,rfl,hcall,?_⟩;have hspec:=wP (h1:=h1) (h:=ai h W0) hnd (by rw[hlen,b1]) (λk hk=>by obtain⟨ps,own,h9,_⟩:=hkbox k hk;exact⟨_,own,false,h9⟩)
     have hafter:∀w',Ext (·∈ks.map λk=>(L k).b) w w'->(∀(i:Nat) b ps,(ks.map λk=>(L k).b)[i]?=some b->hout[i]?=some ps->jf w' (ag C L (ai h W0)) b ps)->
      aG C L h w L (ai h (W0++iG h1 ks hout)) w':=by
      intro w' hx hbox;rw[bV];refine a1.trans (a1.1.callStep hx (by rw[hlen,b1]) hspec.1 (λi k ps hk hps=>?_));obtain⟨ps',own,h9,h10⟩:=hkbox k (List.mem_of_getElem? hk);exact⟨_,own,h10,hspec.2.2 i k ps hk hps _ own false h9,hbox i _ ps (by simp[hk]) hps⟩
     unfold gM kf at he;split at he
     .rename_i e0 heq
      refine⟨e0,he,?_⟩
      have happ:(vs.toArray.toList++us++cs.toArray.toList).toArray=(vs++us++cs).toArray:=by simp
      rw[happ];refine hcalls.mono ?_;rintro e1 w' ⟨v,rfl,hx,hbox,hres⟩;have hA:=hafter w' hx hbox
      have hkeys:∀q,h q=none->ai h W0 q=none:=by
       intro q hq;rw[jT,hq];intro kb hkb he;have:=a6 kb hkb;rw[he]at this;obtain⟨b,hb⟩:=Option.isSome_iff_exists.1 this;rw[hs _ _ hb]at hq;cases hq
      have hMsub:∀b o,ag C L (ai h (W0++iG h1 ks hout)) b o->ag C L (ai h W0) b o:=by
       rw[bV];rintro b o (h0|⟨q,blk,hq,hl,hqb,hf⟩)
       .exact .inl h0
       .by_cases hqk:q∈ks
        .obtain⟨ps,own,h9,h10⟩:=hkbox q hqk
         exact .inr ⟨q,_,h10,trivial,hqb,by simp[Blk.frz]⟩
        .rw[hspec.1 q hqk]at hq;exact .inr ⟨q,blk,hq,hl,hqb,hf⟩
      split at heq
      .rename_i p _
       injection heq with heq;subst heq;unfold C4;split
       .rename_i hml
        simp only[Bool.and_eq_true]at hml;have hk0:ks=[]:=List.isEmpty_iff.1 hml.1;subst hk0;have hxF:Ext (λ_=>False) w w':=⟨hx.os,hx.tape,hx.output,hx.size,λb' hb' _=>hx.block b' hb' (by simp)⟩;obtain⟨g1,g2⟩:=hm.grow hxF
        have e0:([]++iG h1 [] hout:List (Nat×Blk))=[]:=by cases hout<;>rfl
        show∃r L',_∧aG C L h w L' (ai h ([]++iG h1 [] hout)) w'∧_;rw[e0];exact⟨v,L,rfl,⟨g1,g2,KC.refl _ _⟩,.pv (mW hml.2 hres)⟩
       .exact⟨v,L,rfl,hA,.pv (Rep.mono (Pres.sub hMsub) hres)⟩
      .rename_i p _
       split at heq
       .rename_i hk0
        injection heq with heq;subst heq;subst hk0;have hxF:Ext (λ_=>False) w w':=⟨hx.os,hx.tape,hx.output,hx.size,λb' hb' _=>hx.block b' hb' (by simp)⟩;obtain⟨g1,g2⟩:=hm.grow hxF;exact⟨v,L,rfl,⟨g1,g2,KC.refl _ _⟩,.pv (Rep.mono (Pres.sub (λb o h9=>hm.mlt h9)) hres)⟩
       .cases heq
      .rename_i ps q
       split at heq
       .rename_i hq
        obtain⟨hq,rfl⟩:=hq;injection heq with heq;subst heq;obtain⟨b,hb1,rfl,hb3⟩:=hres;have hqn':=hkeys q (by rw[<-(hfresh q rfl).1];simpa using hq);simp only;rw[bV,gu];obtain⟨arr,ty,e1,e2⟩:=hb3;have hxF:Ext (λ_=>False) w w':=⟨hx.os,hx.tape,hx.output,hx.size,λb' hb' _=>hx.block b' hb' (by simp)⟩
        have hnk:=a1.1.newKey hqn' (hfresh q rfl).2 (l:=⟨b,0,false⟩) (blk:=.box (ps.map .pv) true false) hxF (λ_=>hb1) (by intro cs' fz' e;injection e with _ e2;cases e2)
         ⟨arr,ty,e1,aB.map_pv (e2.mono (Pres.sub (λb' o' hh=>hh.elim .inl (λh9=>.inr h9.2))))⟩
        refine⟨_,ah L q ⟨b,0,false⟩,rfl,a1.trans hnk,?_⟩;have:=RepA.ptr (w:=w') (M:=ag C (ah L q ⟨b,0,false⟩) (ah (ai h W0) q (some (.box (ps.map .pv) true false)))) (L:=ah L q ⟨b,0,false⟩) (h:=ah (ai h W0) q (some (.box (ps.map .pv) true false))) (k:=q) (off:=0) (aF _ _ _);rw[aF]at this;exact this
       .cases heq
      .rename_i e9 sz xs q
       split at heq
       .rename_i hq
        obtain⟨hq,rfl⟩:=hq;injection heq with heq;subst heq;obtain⟨l,rfl,hb1,hb3⟩:=hres;have hqn':=hkeys q (by rw[<-(hfresh q rfl).1];simpa using hq);simp only;rw[bV,gu];have hxF:Ext (λ_=>False) w w':=⟨hx.os,hx.tape,hx.output,hx.size,λb' hb' _=>hx.block b' hb' (by simp)⟩;have hnk:=jq (e:=e9) (sz:=sz) (xs:=xs) a1.1 hxF hqn' (hfresh q rfl).2 hb1 hb3;exact⟨_,_,rfl,a1.trans hnk.1,hnk.2⟩
       .cases heq
      .rename_i e9 sz xs q
       split at heq
       .rename_i hq
        obtain⟨hq,rfl⟩:=hq;injection heq with heq;subst heq;obtain⟨hml,l,rfl,hb1,hb3⟩:=hres
        have hqn0:h q=none:=by rw[<-(hfresh q rfl).1];simpa using hq
        have hxF:Ext (λ_=>False) w w':=⟨hx.os,hx.tape,hx.output,hx.size,λb' hb' _=>hx.block b' hb' (by simp)⟩;have hnk:=jq (e:=e9) (sz:=sz) (xs:=xs) hm hxF hqn0 (hfresh q rfl).2 hb1 (BW hml hb3);simp only;rw[gu];exact⟨_,_,rfl,hnk.1,hnk.2⟩
       .cases heq
      .rename_i pre e9 sz xs q
       split at heq
       .rename_i hq
        obtain⟨hq,rfl⟩:=hq;injection heq with heq;subst heq;obtain⟨l,us',rfl,hb1,hpre,hb3⟩:=hres;have hqn':=hkeys q (by rw[<-(hfresh q rfl).1];simpa using hq);simp only;rw[bV,gu];have hxF:Ext (λ_=>False) w w':=⟨hx.os,hx.tape,hx.output,hx.size,λb' hb' _=>hx.block b' hb' (by simp)⟩;have hnk:=jq (e:=e9) (sz:=sz) (xs:=xs) a1.1 hxF hqn' (hfresh q rfl).2 hb1 hb3;refine⟨_,_,rfl,a1.trans hnk.1,?_⟩
        have hsub:∀b o,ag C (ah L q l) (ah (ai h W0) q (some (.row e9 sz xs 0))) b o->ag C L (ai h W0) b o∨(l.isNil=false∧b=l.b):=by
         rintro b o (h0|⟨k,blk,hk,hlv,hkb,hfz⟩)
         .exact .inl (.inl h0)
         .by_cases hkq:k=q
          .subst hkq
           rw[aF]at hk hkb hlv;injection hk with hk;subst hk;exact .inr ⟨hlv,hkb.symm⟩
          .rw[bj hkq]at hk hkb hlv
           exact .inl (.inr ⟨k,blk,hk,hlv,hkb,hfz⟩)
        refine .agg _ _ (by simp[hpre.1]) ?_;intro i p u hp hu;by_cases hi:i<pre.length
        .rw[List.getElem?_append_left (by simpa using hi),List.getElem?_map,List.getElem?_eq_getElem hi]at hp
         rw[List.getElem?_append_left (by rw[<-hpre.1];exact hi)]at hu;simp only[Option.map_some,Option.some.injEq]at hp;subst hp;exact .pv ((hpre.2 i _ u (List.getElem?_eq_getElem hi) hu).mono (Pres.sub hsub))
        .rw[List.getElem?_append_right (by simpa using hi)]at hp
         rw[List.getElem?_append_right (by rw[<-hpre.1];omega)]at hu;simp only[List.length_map]at hp
         have hi0:i-pre.length=0:=by
          have:=(List.getElem?_eq_some_iff.1 hp).1;simp at this;omega
         rw[<-hpre.1,hi0]at hu;rw[hi0]at hp;simp only[List.getElem?_cons_zero,Option.some.injEq]at hp hu;subst hp;subst hu;exact hnk.2
       .cases heq
      .cases heq
     .exact he.elim
end
theorem BX(e:wF P t name=some f)(n:Nat):(method (n+1) t v name).run P w=.ok (f,v) w:=by
 unfold wF at e;split at e
 .rename_i i hi
  split at e
  .rename_i m hmm
   split at e
   .rename_i hp
    have hp':m.path.toList=[]:=by
     have:=Array.isEmpty_iff.1 hp;rw[this]
    rw[method];simp only[Sem.run_bind,jR hi,Result.andThen_ok,hmm,hp',follow]
    cases hmf:m.func with
    |none=>rw[hmf]at e;simp at e
    |some q=>
     obtain⟨f',b⟩:=q;rw[hmf]at e
     cases b with
     |true=>simp at e
     |false=>
      cases hd:P.underlying t with
      |none=>rw[hd]at e;simp at e
      |some d=>
       rw[hd]at e;simp only[Sem.run_pure,Result.andThen_ok,Sem.run_bind,receiverAt,cy hd]
       cases d<;>first|(simp at e;done)|(simp at e;subst e;rfl)
   .cases e
  .cases e
 .cases e
theorem Df(e:wF P t name=some f):(method (P.types.size+Made.depth) t v name).run P w=.ok (f,v) w:=
 BX e (P.types.size+99)
theorem Eg{d:Option Nat}(e:fD P (nI P name x) args d h K):∃t p f,x=.pv (.ifc t p)∧wF P t name=some f∧nI P name x=.fn (.func f) [.pv p] []:=by
 unfold nI at e|-;split at e
 .rename_i t p
  split at e
  .rename_i f hf;exact⟨t,p,f,rfl,hf,by simp[hf]⟩
  .simp[fD,bC]at e
 .simp[fD,bC]at e
section
variable {C:Cx} {L:Nat->Loc} {h1 h:Hp} {w:World}
theorem Ax(hm:MemL C L h w)(hs:∀k b,h1 k=some b->h k=some b)(hfresh:∀d,o.dst=some d->h1 d=h d∧d<2000000)
 (hρ:∀x∈o.op.operands,RepA w (ag C L h) L h (ρ x) (a.eval x)){hn:List Nat}{K:dm->Prop}(e:qR C.P hn o ρ h1 K){next:Act->World->Prop}{Q:Exit->Act->World->Prop}
 (hnext:∀eff u w' L',K eff->aG C L h w L' (ai h eff.2) w'->RepA w' (ag C L' (ai h eff.2)) L' (ai h eff.2) eff.1 u->next (a.put o.dst u) w'):o.wp C.P a w next Q:=by
 have hplain:gM (du C.P hn o ρ h1) K->o.wp C.P a w next Q:=by
  intro e;unfold gM at e;split at e
  .rename_i eff heff
   obtain⟨v,W⟩:=eff;obtain⟨n,u,w',L',hr,hn',ha,hv⟩:=De hm hs hfresh hρ heff;unfold Oper.wp;rw[hr];rcases hn' with rfl|⟨rfl,rfl⟩
   .exact hnext (v,W) u w' L' e ha hv
   .exact hnext (v,W) undef w' L' e ha hv
  .exact e.elim
 unfold qR at e;split at e
 .rename_i c hop
  split at e
  .rename_i f hcal
   obtain⟨callee,args,argTypes⟩:=c;simp only at hcal e;subst hcal;have hf:RepA w (ag C L h) L h (ρ f) (a.eval f):=hρ f (by rw[hop];simp[Op.operands,Call.operands]);have hargs:aB w (ag C L h) L h (args.toList.map ρ) (args.toList.map a.eval):=pQ _ (λx hx=>hρ x (by rw[hop];simp at hx;simp[Op.operands,Call.operands,hx]));obtain⟨g,vs,cs,hu,hcall,eff,hK,hc⟩:=td hm hs hfresh hf hargs e;unfold Oper.wp
   have hrun:(execOp a.eval o).run C.P w=.ok (.enter g (vs.toList++args.toList.map a.eval++cs.toList).toArray) w:=by
    unfold bZ at hcall
    cases hfn:C.P.funcs[g]? with
    |none=>rw[hfn]at hcall;cases hcall
    |some fn=>
     rw[hfn]at hcall;simp only[Bool.and_eq_true,Bool.not_eq_true',beq_eq_false_iff_ne,ne_eq]at hcall
     have hb:fn.body.isNone=false:=by cases hbb:fn.body<;>simp_all
     have harr:(vs++args.map a.eval)++cs=(vs.toList++args.toList.map a.eval++cs.toList).toArray:=by
      apply Array.ext';simp
     unfold execOp;rw[hop];simp only[resolve,hu,Deferred.ofValue,pure_bind,Sem.run_bind,Result.andThen_ok,invoke,callFunc,program,Sem.run,hfn];simp[hcall.2,hb,harr]
   rw[hrun];simp only[Oper.upon];refine hc.mono ?_;rintro e1 w' ⟨r,L',rfl,hA,hr⟩;exact hnext eff r w' L' hK hA hr
  .rename_i r name hcal
   obtain⟨callee,args,argTypes⟩:=c;simp only at hcal e;subst hcal;have hr:RepA w (ag C L h) L h (ρ r) (a.eval r):=hρ r (by rw[hop];simp[Op.operands,Call.operands]);have hargs:aB w (ag C L h) L h (args.toList.map ρ) (args.toList.map a.eval):=pQ _ (λx hx=>hρ x (by rw[hop];simp at hx;simp[Op.operands,Call.operands,hx]));obtain⟨t,p,f,hx,hm',hi⟩:=Eg e;rw[hx]at hr;generalize hu:a.eval r=u at hr
   cases hr with
   |pv hr=>cases hr with
    |ifc _ _ v hv=>
     have hf:RepA w (ag C L h) L h (nI C.P name (ρ r)) (.func (.func f) #[v] #[]):=by
      rw[hi];exact .fn (.func f) [.pv p] [] [v] [] rfl rfl (aB.cons (.pv hv) .nil).2 aB.nil.2
     obtain⟨g,vs,cs,hu',hcall,eff,hK,hc⟩:=td hm hs hfresh hf hargs e;injection hu' with e1 e2 e3;injection e1 with e1;subst e1;subst e2;subst e3;unfold Oper.wp
     have hrun:(execOp a.eval o).run C.P w=.ok (.enter f (#[v].toList++args.toList.map a.eval++#[].toList).toArray) w:=by
      unfold bZ at hcall
      cases hfn:C.P.funcs[f]? with
      |none=>rw[hfn]at hcall;cases hcall
      |some fn=>
       rw[hfn]at hcall;simp only[Bool.and_eq_true,Bool.not_eq_true',beq_eq_false_iff_ne,ne_eq]at hcall
       have hb:fn.body.isNone=false:=by cases hbb:fn.body<;>simp_all
       have harr:#[v]++args.map a.eval=(#[v].toList++args.toList.map a.eval++#[].toList).toArray:=by
        apply Array.ext';simp
       have hex:(#[Value.iface t v]++args.map a.eval).extract 1 (#[Value.iface t v]++args.map a.eval).size=args.map a.eval:=by
        apply Array.ext';simp;exact List.take_of_length_le (by simp)
       have h0:(#[Value.iface t v]++args.map a.eval)[0]?=some (.iface t v):=by rw[Array.getElem?_append_left (by simp)];rfl
       unfold execOp;rw[hop];simp only[resolve,hu,pure_bind,Sem.run_bind,Result.andThen_ok,invoke,h0,callMethod,hex];rw[show Sem.run C.P program w=.ok C.P w from rfl,Result.andThen_ok,Df hm',Result.andThen_ok];simp only[callFunc,program,Sem.run_bind,Sem.run,hfn,Result.andThen_ok];rw[harr];simp[hcall.2,hb]
     rw[hrun];simp only[Oper.upon];refine hc.mono ?_;rintro e1 w' ⟨r,L',rfl,hA,hr⟩;exact hnext eff r w' L' hK hA hr
  .exact hplain e
 .exact hplain e
end
def iO(P:Program)(ds:List Deferred):Prop:=∀d∈ds,∃g cap,d.target=.fn (.func g) cap∧dp P g
theorem iO.nil(P:Program):iO P []:=λd h=>by simp at h
def eO(C:Cx)(st:St)(a:Act)(w:World):Prop:=
 ∃L,MemL C L st.h w∧a.tmps.size=C.N∧iO C.P a.defers∧∀n,RepA w (ag C L st.h) L st.h (st.t n) (a.tmps.getD n undef)
theorem cD(ht:∀n,RepA w (ag C L st.h) L st.h (st.t n) (a.tmps.getD n undef))(x:Operand):RepA w (ag C L st.h) L st.h (st.ev x) (a.eval x):=by
 cases x with
 |tmp n=>exact ht n
 |const v=>exact .pv (.val v)
 |global g=>exact .undef _
 |func f=>exact .pv (.val _)
theorem oW(hd:d<a.tmps.size)(n:Nat):(a.put (some d) u).tmps.getD n undef=if n=d then u else a.tmps.getD n undef:=by
 simp only[Act.put,Array.getD_eq_getD_getElem?];by_cases e:n=d
 .subst e;simp[hd]
 .rw[if_neg e]
  rw[Array.getElem?_setIfInBounds_ne (by omega)]
theorem eO.put(_:MemL C L st.h w)(hN:a.tmps.size=C.N)(hdf:iO C.P a.defers)(ht:∀n,RepA w (ag C L st.h) L st.h (st.t n) (a.tmps.getD n undef))
 {d:Option Nat}(hd:bX C.N d=true){v:AV}{W:List (Nat×Blk)}{u:Value}{w':World}{L':Nat->Loc}(hA:aG C L st.h w L' (ai st.h W) w')(hv:RepA w' (ag C L' (ai st.h W)) L' (ai st.h W) v u):
 eO C (st.put d v W) (a.put d u) w':=by
 refine⟨L',hA.1,?_,?_,λn=>?_⟩
 .cases d<;>simp[Act.put,hN]
 .cases d<;>exact hdf
 .have hold:=(ht n).mono hA.2.1 hA.2.2
  cases d with
  |none=>exact hold
  |some d=>
   have hd':d<a.tmps.size:=by rw[hN];simp only[bX,Bool.and_eq_true,decide_eq_true_eq]at hd;exact hd.1
   rw[oW hd'];simp only[St.put,ah];split
   .exact hv
   .exact hold
theorem dB{t:Nat->AV}(ht:∀n,RepA w (ag C L h) L h (t n) (a.tmps.getD n undef)){g:Bool}(e:de ops t o.guard=some g):
 Region.wanted o (yielded ops a.tmps)=g:=by
 unfold de at e;unfold Region.wanted;split at e
 .rename_i hg;injection e with e;subst e;rw[hg]
 .rename_i j want hg
  rw[hg];simp only;split at e
  .rename_i d hd
   split at e
   .rename_i b hb
    injection e with e;subst e;have:=ht d;rw[hb]at this
    have hv:a.tmps.getD d undef=.bool b:=by cases this with|pv hr=>exact aJ hr
    have hsome:a.tmps[d]?=some (.bool b):=by
     rw[Array.getD_eq_getD_getElem?]at hv
     cases hq:a.tmps[d]? with
     |none=>rw[hq]at hv;simp[undef]at hv
     |some q=>rw[hq]at hv;simp at hv;rw[hv]
    unfold yielded;rw[hd];simp[hsome]
   .rename_i q hb
    injection e with e;subst e;have:=ht d;rw[hb]at this
    have hv:a.tmps.getD d undef=.tuple q:=by cases this with|pv hr=>exact aJ hr
    rw[Array.getD_eq_getD_getElem?]at hv;unfold yielded;rw[hd]
    cases hq:a.tmps[d]? with
    |none=>simp[hq]
    |some v=>rw[hq]at hv;simp at hv;subst hv;simp[hq]
   .cases e
  .cases e
theorem Oper.wp_defer{c:Call}(ho:o.op=.defer c){f:Operand}(hf:c.callee=.value f)(h0:c.args.size=0){vs:Array Value}(hv:a.eval f=.func (.func g) vs cs)
 {next:Act->World->Prop}{Q:Exit->Act->World->Prop}(h:next (({a with defers:={target:=.fn (.func g) cs,args:=vs}::a.defers}:Act).put o.dst undef) w):o.wp P a w next Q:=by
 unfold Oper.wp;have hargs:c.args=#[]:=Array.size_eq_zero_iff.1 h0
 have hrun:(execOp a.eval o).run P w=.ok (.defer {target:=.fn (.func g) cs,args:=vs}) w:=by
  unfold execOp;rw[ho];simp only[resolve,hf,hv,Deferred.ofValue,hargs,pure_bind,Sem.run_bind,Sem.run_pure,Result.andThen_ok];simp
 rw[hrun];exact h
theorem Eh{f:Fn}(hr:RepA w M L h (.fn f first caps) u):∃vs cs,u=.func f vs cs:=by
 cases hr with
 |fn _ _ _ vs us hl hk h1 h2=>exact⟨_,_,rfl⟩
theorem sI(_:MemL C L h w)(hx:RepA w (ag C L h) L h x u)(e:oC h x=true):∃a n c,u=.slice a n c:=by
 unfold oC at e;split at e
 .cases hx with
  |pv hr=>
   cases hr with
   |sl0 a c=>exact⟨_,_,_,rfl⟩
   |sl xs b o c sz u hcap hs hc hr=>exact⟨_,_,_,rfl⟩
 .rename_i k n
  split at e
  .rename_i e0 sz xs fz hk
   simp only[Bool.and_eq_true,decide_eq_true_eq]at e
   cases hx with
   |arr hk2 hn2 hu=>
    rw[hk]at hk2;injection hk2 with hk2;injection hk2 with a1 a2 a3 a4;subst a3;rw[hu e.1,Loc.slice];split<;>exact⟨_,_,_,rfl⟩
  .cases e
 .cases e
theorem um(hm:MemL C L st.h w)(hN:a.tmps.size=C.N)(hdf:iO C.P a.defers)(ht:∀n,RepA w (ag C L st.h) L st.h (st.t n) (a.tmps.getD n undef))
 {o:Oper}(hd:bX C.N o.dst=true){hn:List Nat}{K:dm->Prop}(e:sX C.P hn o st.ev st.h K){next:Act->World->Prop}{Q:Exit->Act->World->Prop}
 (hnext:∀eff a' w',K eff->eO C (st.put o.dst eff.1 eff.2) a' w'->next a' w'):o.wp C.P a w next Q:=by
 have hplain:qR C.P hn o st.ev st.h K->o.wp C.P a w next Q:=λe=>
  Ax hm (λ_ _ h=>h) (λd hdd=>⟨rfl,by rw[hdd]at hd;simp only[bX,Bool.and_eq_true,decide_eq_true_eq]at hd;exact hd.2⟩) (λx _=>cD ht x) e (λeff u w' L' hk hA hv=>hnext eff _ _ hk (eO.put hm hN hdf ht hd hA hv))
 unfold sX at e;split at e
 .rename_i c hop
  split at e
  .rename_i f hcal
   split at e
   .rename_i h0
    unfold Cb at e;split at e
    .rename_i g first caps hfe
     obtain⟨vs,cs,hv⟩:=Eh (by have:=cD ht f;rw[hfe]at this;exact this);refine Oper.wp_defer hop hcal h0 hv (hnext _ _ _ e.2 ?_)
     have hq:iO C.P ({target:=.fn (.func g) cs,args:=vs}::a.defers):=by
      intro d hd';rcases List.mem_cons.1 hd' with rfl|hd'
      .exact⟨g,cs,rfl,e.1⟩
      .exact hdf d hd'
     exact eO.put (a:={a with defers:={target:=.fn (.func g) cs,args:=vs}::a.defers}) hm hN hq ht hd (W:=[]) (aG.refl hm) (.undef _)
    .exact e.elim
   .exact e.elim
  .exact e.elim
 .rename_i op t x y t' hop
  split at e
  .rename_i hc
   simp only[Bool.and_eq_true,Bool.or_eq_true,beq_iff_eq]at hc;obtain⟨⟨⟨c1,c2⟩,c3⟩,c4⟩:=hc;have hy:=vr c1 (cD ht y);obtain⟨ad,n,c,hx⟩:=sI hm (cD ht x) c3
   obtain⟨b,hb⟩:∃b:Bool,(op=.eql∧b=ad.isNone)∨(op=.neq∧b=!ad.isNone):=by
    rcases c4 with c4|c4
    .exact⟨_,.inl ⟨c4,rfl⟩⟩
    .exact⟨_,.inr ⟨c4,rfl⟩⟩
   have hrun:(execOp a.eval o).run C.P w=.ok (.value (.bool b)) w:=by
    obtain⟨dst,op',ty,pos,aft,g⟩:=o;simp only at hop;subst hop;exact fg (yj (oS c2) hx hy hb) w
   have hK:K (.pv (.val (.bool b)),[]):=by cases b with
    |true=>exact e.1
    |false=>exact e.2
   unfold Oper.wp;rw[hrun];exact hnext _ _ _ hK (eO.put hm hN hdf ht hd (W:=[]) (aG.refl hm) (.pv (.val _)))
  .exact hplain e
 .exact hplain e
theorem gF{C:Cx}{hn:List Nat}{ops:Array Oper}{Q:St->Prop}{Q':Exit->Act->World->Prop}(hQ:∀st a w,eO C st a w->Q st->Q' .normal a w):
 ∀{l:List Oper}{st:St}{a:Act}{w:World},eO C st a w->cU C.P hn C.N ops Q l st->wpList C.P ops Q' l a w
 |[],st,a,w,hs,e=>hQ st a w hs e
 |o::l,st,a,w,hs,e=>by
  obtain⟨L,hm,hN,hdf,ht⟩:=hs;simp only[cU]at e;obtain⟨hd,e⟩:=e;refine wpList_step (λK hK=>?_);split at e
  .rename_i hg
   rw[dB ht (mU hg),if_pos rfl];exact um hm hN hdf ht hd e (λeff a' w' hk hsim=>hK _ _ (gF hQ hsim hk))
  .rename_i d b want hg
   rw[dB ht (kJ hg)];unfold uJ at e;simp only at e;split at e
   .rename_i hgt
    subst hgt;rw[if_pos (by simp)];exact um hm hN hdf ht hd e (λeff a' w' hk hsim=>hK _ _ (gF hQ hsim hk))
   .rename_i hgt
    rw[if_neg (by simpa using hgt)];exact hK _ _ (gF hQ (eO.put hm hN hdf ht hd (W:=[]) (aG.refl hm) (.pv (.val _))) e)
  .exact e.elim
def WP(C:Cx)(c:Code)(Q:Exit->St->Prop)(st:St):Prop:=∀a w,eO C st a w->c.wp C.P (λe a' w'=>∃st',eO C st' a' w'∧Q e st') a w
section
variable {C:Cx} {Q:Exit->St->Prop} {st:St}
theorem WP.region(h:cU C.P hn C.N ops (Q .normal) ops.toList st):WP C (.region id ops false) Q st:=
 λ_ _ hs=>wp_region_list (gF (λst' _ _ hs' hq=>⟨st',hs',hq⟩) hs h)
def Ay(C:Cx)(y:Code)(Q:Exit->St->Prop):Exit->St->Prop
 |.normal,st=>WP C y Q st
 |e,st=>Q e st
theorem WP.seq{x:Code}(h:WP C x (Ay C y Q) st):WP C (.seq x y) Q st:=by
 intro a w hs;refine wp_seq (wp_mono (h a w hs) ?_);rintro e a' w' ⟨st',hs',hq⟩
 cases e with
 |normal=>exact hq a' w' hs'
 |_=>exact⟨st',hs',hq⟩
theorem WP.mono{Q':Exit->St->Prop}(h:WP C c Q st)(hq:∀e st,Q e st->Q' e st):WP C c Q' st:=
 λa w hs=>wp_mono (h a w hs) (λe _ _ ⟨st',hs',hq'⟩=>⟨st',hs',hq e st' hq'⟩)
theorem WP.skip(h:Q .normal st):WP C .skip Q st:=λ_ _ hs=>wp_skip ⟨st,hs,h⟩
theorem WP.ret(h:Q .ret st):WP C .ret Q st:=λ_ _ hs=>wp_ret ⟨st,hs,h⟩
theorem WP.exit(h:Q (.exit id) st):WP C (.exit id) Q st:=λ_ _ hs=>wp_exit ⟨st,hs,h⟩
theorem WP.cond{c:Operand}{x:Code}(hc:st.ev c=.pv (.val (.bool b)))(ht:b=true->WP C x Q st)(hf:b=false->WP C y Q st):WP C (.cond c x y) Q st:=by
 intro a w hs
 have hc':a.eval c=.bool b:=by
  obtain⟨L,hm,hN,hdf,htm⟩:=hs;have:=cD htm c;rw[hc]at this
  cases this with
  |pv hr=>exact aJ hr
 exact wp_cond_split hc' (λe=>ht e a w hs) (λe=>hf e a w hs)
def pR(id:Nat)(Q:Exit->St->Prop):Exit->St->Prop
 |.exit i,st=>if i=id then Q .normal st else Q (.exit i) st
 |e,st=>Q e st
theorem WP.block(h:WP C c (pR id Q) st):WP C (.block id c) Q st:=by
 intro a w hs;refine wp_block (wp_mono (h a w hs) ?_);rintro e a' w' ⟨st',hs',hq⟩
 cases e with
 |exit i=>
  simp only[pR,Exit.inBlock]at hq|-;split
  .rename_i e;rw[if_pos e]at hq;exact⟨st',hs',hq⟩
  .rename_i e;rw[if_neg e]at hq;exact⟨st',hs',hq⟩
 |_=>exact⟨st',hs',hq⟩
def ax(ks:List Nat):AV->Bool
 |.pv _=>false
 |.ptr k _|.arr k _|.eptr k _ _ _=>ks.contains k
 |.ext x=>ks.contains x.key
 |_=>true
def aQ(ks:List Nat):AV->Bool
 |.agg cs=>cs.any (ax ks)
 |.fn _ first caps=>first.any (ax ks)||caps.any (ax ks)
 |.tup _=>true
 |x=>ax ks x
def aq(ks:List Nat)(x:AV):AV:=if aQ ks x=true then .undef else x
def bm(ks:List Nat):Blk->Blk
 |.box cs own fz=>.box (cs.map (aq ks)) own fz
 |b=>b
def St.kill(ks:List Nat)(st:St):St:=⟨λn=>aq ks (st.t n),λk=>if ks.contains k=true then none else(st.h k).map (bm ks)⟩
def wQ(ks:List Nat)(h:Hp):Hp:=λk=>if ks.contains k=true then none else h k
theorem oE{blk:Blk}(hc:ks.contains k=false)(hk:h k=some blk):wQ ks h k=some blk:=by
 unfold wQ;rw[if_neg (by rw[hc];decide),hk]
theorem iY(hd:ax ks x=false)(hx:RepA w M L h x u):RepA w M L (wQ ks h) x u:=by
 cases hx with
 |pv hr=>exact .pv hr
 |ptr hk=>exact .ptr (oE (by simpa only[ax]using hd) hk)
 |arr hk hn hu=>exact .arr (oE (by simpa only[ax]using hd) hk) hn hu
 |eptr hk hn hu=>exact .eptr (oE (by simpa only[ax]using hd) hk) hn hu
 |ext hx'=>
  cases hx' with
  |barr hc hk=>exact .ext (.barr hc (oE (by simpa only[ax,XV.key]using hd) hk))
  |mp hk=>exact .ext (.mp (oE (by simpa only[ax,XV.key]using hd) hk))
  |suf hs0 hk hn ht hu=>exact .ext (.suf hs0 (oE (by simpa only[ax,XV.key]using hd) hk) hn ht hu)
 |agg=>cases hd
 |fn=>cases hd
 |tup=>cases hd
 |undef=>cases hd
theorem y6(hx:RepA w M L h x u):RepA w M L (wQ ks h) (aq ks x) u:=by
 unfold aq;split
 .exact .undef _
 .rename_i hd
  have hd:aQ ks x=false:=by simpa using hd
  have el:∀{cs:List AV}{i:Nat}{p:AV},cs.any (ax ks)=false->cs[i]?=some p->ax ks p=false:=by
   intro cs i p ha hi;have:=(List.any_eq_false.1 ha) p (List.mem_of_getElem? hi);simpa using this
  cases hx with
  |agg cs vs hl ha=>exact .agg cs vs hl (λi p u hp' hu=>iY (el hd hp') (ha i p u hp' hu))
  |fn f first caps vs us hl hk h1 h2=>
   have hd:(first.any (ax ks)||caps.any (ax ks))=false:=hd;rw[Bool.or_eq_false_iff]at hd
   exact .fn f first caps vs us hl hk (λi p u hp' hu=>iY (el hd.1 hp') (h1 i p u hp' hu)) (λi p u hp' hu=>iY (el hd.2 hp') (h2 i p u hp' hu))
  |tup=>cases hd
  |undef=>exact .undef _
  |pv hr=>exact iY hd (.pv hr)
  |ptr hk=>exact iY hd (.ptr hk)
  |arr hk hn hu=>exact iY hd (.arr hk hn hu)
  |eptr hk hn hu=>exact iY hd (.eptr hk hn hu)
  |ext hx'=>exact iY hd (.ext hx')
theorem tf(ks:List Nat)(b:Blk)(l:Loc):dg b l (bm ks b) l:=by cases b<;>simp[dg,bm]
theorem Ce:KC L (wQ ks h) L (λk=>if ks.contains k=true then none else(h k).map (bm ks)):=by
 intro k blk hk;unfold wQ at hk;split at hk
 .cases hk
 .rename_i hc
  exact⟨bm ks blk,by simp only[if_neg hc,hk];rfl,tf ks blk _⟩
theorem tg(hp:Pres w M w M')(hx:RepA w M L h x u):
 RepA w M' L (λk=>if ks.contains k=true then none else(h k).map (bm ks)) (aq ks x) u:=(y6 hx).mono hp Ce
theorem eO.kill(ks:List Nat)(hs:eO C st a w):eO C (st.kill ks) a w:=by
 obtain⟨L,hm,hN,hdf,ht⟩:=hs
 have hkey:∀k blk',(st.kill ks).h k=some blk'->∃blk,st.h k=some blk∧bm ks blk=blk'∧blk'.live (L k)=blk.live (L k)∧∀o,blk'.frz o=blk.frz o:=by
  intro k blk' hk;simp only[St.kill]at hk;split at hk
  .cases hk
  .simp only[Option.map_eq_some_iff]at hk
   obtain⟨blk,h1,rfl⟩:=hk;exact⟨blk,h1,rfl,by cases blk<;>rfl,λo=>by cases blk<;>rfl⟩
 have hM:∀b o,ag C L (st.kill ks).h b o->ag C L st.h b o:=by
  rintro b o (h0|⟨k,blk',hk,hl,hb,hf⟩)
  .exact .inl h0
  .obtain⟨blk,h1,_,h2,h3⟩:=hkey k blk' hk
   exact .inr ⟨k,blk,h1,h2▸hl,hb,h3 o▸hf⟩
 have hp:Pres w (ag C L st.h) w (ag C L (st.kill ks).h):=Pres.sub hM;refine⟨L,⟨hm.ext,hm.m0,?_,?_,?_⟩,hN,hdf,λn=>tg hp (ht n)⟩
 .intro k blk' hk
  obtain⟨blk,h1,rfl,_,_⟩:=hkey k blk' hk;have:=hm.bl k blk h1
  cases blk with
  |box cs own fz=>
   obtain⟨arr,ty,e1,e2⟩:=this;refine⟨arr,ty,e1,by simpa using e2.1,λi p u hp' hu=>?_⟩;simp only[List.getElem?_map,Option.map_eq_some_iff]at hp';obtain⟨q,hq,rfl⟩:=hp';exact tg hp (e2.2 i q u hq hu)
  |row e sz xs fz=>
   obtain⟨a1,a2,a3,a4,a5⟩:=this;refine⟨a1,a2,a3,a4,λhn=>?_⟩;obtain⟨b1,b2,arr,b3,b4,b5⟩:=a5 hn;exact⟨b1,b2,arr,b3,b4,λi x j p hx hj=>by obtain⟨u,hu,hr⟩:=b5 i x j p hx hj;exact⟨u,hu,hr.mono hp⟩⟩
  |mp kd n es fz=>exact this
 .intro k k' b1 b2 hne hk hk' hl hl'
  obtain⟨c1,d1,_,e1,_⟩:=hkey k b1 hk;obtain⟨c2,d2,_,e2,_⟩:=hkey k' b2 hk';exact hm.sep k k' c1 c2 hne d1 d2 (e1▸hl) (e2▸hl')
 .intro k blk' hk
  obtain⟨blk,h1,rfl,_,_⟩:=hkey k blk' hk;have:=hm.own k blk h1
  cases blk with
  |box cs own fz=>cases own<;>exact this
  |row=>exact this
  |mp=>exact this
theorem WP.loop(ks:List Nat)(I:St->Prop)(μ:St->Nat)(h₀:I (st.kill ks))
 (round:∀st,I st->WP C c (λe st'=>match e with|.normal=>I (st'.kill ks)∧μ (st'.kill ks)<μ st|e=>Q e st') st):WP C (.loop c) Q st:=by
 intro a w hs
 have key:∀n st a w,μ st=n->I st->eO C st a w->∀b k cs,∃e a' w',(∃st',eO C st' a' w'∧Q e st')∧Arrives C.P (lone (b.at a (.code c::.inLoop c::k)) cs w) b k cs e a' w':=by
  intro n
  induction n using Nat.strongRecOn with
  |_ n ih=>
   intro st a w hn hI hs b k cs;obtain⟨e,a₁,w₁,⟨st',hs',hq⟩,harr⟩:=round st hI a w hs b (.inLoop c::k) cs
   cases e with
   |normal=>
    obtain⟨hI₁,hlt⟩:=hq;obtain⟨e₂,a₂,w₂,hq₂,harr₂⟩:=ih (μ (st'.kill ks)) (hn▸hlt) _ a₁ w₁ rfl hI₁ (hs'.kill ks) b k cs;exact⟨e₂,a₂,w₂,hq₂,.of_steps (Steps.trans harr (.one step_inLoop)) harr₂⟩
   |exit id=>exact⟨_,a₁,w₁,⟨st',hs',hq⟩,.pass (x:=.inLoop c) rfl (λ_ _=>.inl (by simp)) harr⟩
   |goto l=>exact⟨_,a₁,w₁,⟨st',hs',hq⟩,.pass (x:=.inLoop c) rfl (λ_ _=>.inl (by simp)) harr⟩
   |ret=>exact⟨_,a₁,w₁,⟨st',hs',hq⟩,.pass (x:=.inLoop c) rfl (λ_ _=>.inl (by simp)) harr⟩
   |panic ch=>exact⟨_,a₁,w₁,⟨st',hs',hq⟩,.pass (x:=.inLoop c) rfl (λ_ _=>.inl (by simp)) harr⟩
   |outgrown=>exact⟨_,a₁,w₁,⟨st',hs',hq⟩,.pass (x:=.inLoop c) rfl (λ_ _=>.inl (by simp)) harr⟩
 intro b k cs;obtain⟨e,a',w',hq,harr⟩:=key _ (st.kill ks) a w rfl h₀ (hs.kill ks) b k cs;exact⟨e,a',w',hq,.of_steps (.one step_loop) harr⟩
end
def pk(i:Nat):Nat:=1000000+i
def Az(args:List Arg):Nat->AV:=λn=>match args[n]? with
 |some (.pv p)=>.pv p
 |some (.bx i)=>.ptr (pk i) 0
 |none=>.undef
def oX(hin:List (List PV)):Hp:=λk=>if k<1000000 then none else match hin[k-1000000]? with
 |some ps=>some (.box (ps.map .pv) false false)
 |none=>none
def oY(args:List Arg)(hin:List (List PV)):St:=⟨Az args,oX hin⟩
def jr(P:Program)(st:St):List ResultVar->Option (List AV)
 |[]=>some []
 |.tmp t::r=>(jr P st r).map (st.t t::·)
 |.cell a ty::r=>match ak P ty with
  |some ti=>match sU ti (st.t a) st.h,jr P st r with
   |some v,some vs=>some (v::vs)
   |_,_=>none
  |none=>none
def kK(P:Program)(st:St)(rs:List ResultVar):Option AV:=match jr P st rs with
 |some [v]=>some v
 |some vs=>some (.tup vs)
 |none=>none
def gZ(P:Program)(rs:List ResultVar)(hout:List (List PV))(res:RV)(st:St):Prop:=
 ∃r,kK P st rs=some r∧(∀(i:Nat) ps,hout[i]?=some ps->st.h (pk i)=some (.box (ps.map .pv) false false))∧
  (match res with
  |.pv p=>∃W,frz st.h r=some (p,W)
  |.new p=>GC st.h r=some p
  |.box ps=>∃k,r=.ptr k 0∧st.h k=some (.box (ps.map .pv) true false)
  |.row e sz xs=>∃k,r=.arr k xs.length∧st.h k=some (.row e sz xs 0)
  |.nrow e sz xs=>xs.all jO=true∧∃k,r=.arr k xs.length∧st.h k=some (.row e sz xs 0)
  |.srow pre e sz xs=>∃k,r=.agg (pre.map .pv++[.arr k xs.length])∧st.h k=some (.row e sz xs 0))
def Ei(P:Program)(rs:List ResultVar)(hout:List (List PV))(res:RV):Exit->St->Prop
 |.normal,st=>gZ P rs hout res st
 |.ret,st=>gZ P rs hout res st
 |_,_=>False
theorem pT(hc:bZ P g=true)(cap dargs:Array Value)(w:World):(invoke (.fn (.func g) cap) dargs).run P w=.ok (.enter g (dargs++cap)) w:=by
 unfold bZ at hc
 cases hfn:P.funcs[g]? with
 |none=>rw[hfn]at hc;cases hc
 |some fn=>
  rw[hfn]at hc;simp only[Bool.and_eq_true,Bool.not_eq_true',beq_eq_false_iff_ne,ne_eq]at hc
  have hb:fn.body.isNone=false:=by cases hbb:fn.body<;>simp_all
  simp only[invoke,callFunc,program,Sem.run_bind,Sem.run,Result.andThen_ok,hfn];simp[hc.2,hb]
theorem gV{P:Program}{fn:Func}{tmps:Array Value}{R:Ending->World->Prop}{w:World}{v:Value}:∀{ds:List Deferred},iO P ds->(results fn tmps).run P w=.ok v w->R (.returned v) w->Leaves P fn tmps R ds .returning w
 |[],_,hr,hR=>⟨v,hr,hR⟩
 |d::ds,hq,hr,hR=>by
  obtain⟨g,cap,ht,hg⟩:=hq d (by simp);refine⟨by simp,.func g,cap,g,d.args++cap,ht,by rw[ht];exact pT hg.1 _ _ _,(hg.2 _ w).mono ?_⟩;rintro e u' w' ⟨rfl,⟨v',rfl⟩,rfl⟩;exact gV (λd hd=>hq d (by simp[hd])) hr hR
def yp(tmps:Array Value):ResultVar->Sem Value
 |.tmp t=>pure (tmps.getD t undef)
 |.cell b t=>do loadVar t (<-asAddr (tmps.getD b undef))
section
variable {C:Cx} {L:Nat->Loc} {st:St} {a:Act} {w:World}
theorem mX(hm:MemL C L st.h w)(ht:∀n,RepA w (ag C L st.h) L st.h (st.t n) (a.tmps.getD n undef)):∀{rs:List ResultVar}{vs:List AV},jr C.P st rs=some vs->
 ∃us:List Value,(rs.mapM (yp a.tmps)).run C.P w=.ok us w∧aB w (ag C L st.h) L st.h vs us
 |[],vs,e=>by
  simp only[jr,Option.some.injEq]at e;subst e;exact⟨[],by simp,aB.nil⟩
 |.tmp t::r,vs,e=>by
  simp only[jr,Option.map_eq_some_iff]at e;obtain⟨vs',e1,rfl⟩:=e;obtain⟨us,h1,h2⟩:=mX hm ht e1;refine⟨a.tmps.getD t undef::us,?_,.cons (ht t) h2⟩;simp only[List.mapM_cons,yp,Sem.run_bind,Sem.run_pure,Result.andThen_ok,h1]
 |.cell b ty::r,vs,e=>by
  simp only[jr]at e;split at e
  .rename_i ti hti
   split at e
   .rename_i v vs' e0 e1
    injection e with e;subst e;obtain⟨us,h1,h2⟩:=mX hm ht e1;obtain⟨u,hr1,hr2⟩:=sZ hm (λ_ _ h=>h) hti (ht b) e0;refine⟨u::us,?_,.cons hr2 h2⟩
    have haddr:∃ad,a.tmps.getD b undef=.pointer (some ad):=by
     unfold Instr.loadAt at hr1
     cases hv:a.tmps.getD b undef with
     |pointer p=>cases p with
      |none=>rw[hv]at hr1;simp[Instr.sureAddr,stuck]at hr1
      |some ad=>exact⟨ad,rfl⟩
     |_=>rw[hv]at hr1;simp[Instr.sureAddr,stuck]at hr1
    obtain⟨ad,had⟩:=haddr;rw[had]at hr1;have hr1':(loadVar ty ad).run C.P w=.ok u w:=hr1
    have hone:(yp a.tmps (.cell b ty)).run C.P w=.ok u w:=by simp only[yp,had,asAddr,pure_bind,hr1']
    simp only[List.mapM_cons,Sem.run_bind,hone,Sem.run_pure,Result.andThen_ok,h1]
   .cases e
  .cases e
theorem lO(hm:MemL C L st.h w)(ht:∀n,RepA w (ag C L st.h) L st.h (st.t n) (a.tmps.getD n undef)){r:AV}(e:kK C.P st fn.results.toList=some r):
 ∃u,(results fn a.tmps).run C.P w=.ok u w∧RepA w (ag C L st.h) L st.h r u:=by
 unfold kK at e
 have key:∀vs us,(fn.results.toList.mapM (yp a.tmps)).run C.P w=.ok us w->aB w (ag C L st.h) L st.h vs us->
  (results fn a.tmps).run C.P w=.ok (if h:us.toArray.size=1 then us.toArray[0]else .tuple us.toArray) w:=by
  intro vs us h1 _;have:results fn a.tmps=(do let vs <-fn.results.mapM (yp a.tmps);pure (if h:vs.size=1 then vs[0]else .tuple vs)):=rfl;rw[this,Array.mapM_eq_mapM_toList];simp only[Sem.run_bind,Sem.run_map,h1,Result.andThen_ok];rfl
 split at e
 .rename_i v hv
  injection e with e;subst e;obtain⟨us,h1,h2⟩:=mX hm ht hv;obtain⟨u,us',rfl,hu,hn⟩:=h2.cons_inv;have:=hn.nil_inv;subst this;exact⟨u,by rw[key _ _ h1 h2];simp,hu⟩
 .rename_i vs hne hv
  injection e with e;subst e;obtain⟨us,h1,h2⟩:=mX hm ht hv;refine⟨.tuple us.toArray,?_,.tup vs us h2.1 h2.2⟩;rw[key _ _ h1 h2]
  have:¬us.length=1:=by
   intro hl
   cases vs with
   |nil=>have:=h2.1;simp at this;rw[<-this]at hl;simp at hl
   |cons v r=>cases r with
    |nil=>exact hne v rfl
    |cons=>have:=h2.1;simp at this;omega
  simp[this]
 .cases e
end
section
variable {C:Cx} {L:Nat->Loc} {h:Hp} {w:World}
abbrev tj(C:Cx):Nat->Nat->Prop:=λb _=>b<C.w0.heap.size
theorem wR(hm:MemL C L h w)(hfr:∀{b:Nat},(C.w0.heap.size<=b∨(C.S b∧∀o,¬C.M0 b o))->C.w0.heap.size<=b)(hx:RepA w (ag C L h) L h x u)(e:vk h x=some p):Rep w (tj C) p u:=by
 cases x with
 |pv q=>
  simp only[vk]at e;split at e
  .rename_i hq
   injection e with e;subst e
   cases hx with
   |pv hr=>exact Aw hq hr
  .cases e
 |arr k n=>
  simp only[vk]at e;split at e
  .rename_i ee sz xs fz hk
   split at e
   .rename_i hc
    injection e with e;subst e
    cases hx with
    |arr hk2 hn2 hu=>
     rw[hk]at hk2;injection hk2 with hk2;injection hk2 with a1 a2 a3 a4;subst a1;subst a2;subst a3;subst a4;rw[hu hc.1];obtain⟨_,_,g3,g4,g5⟩:=hm.bl k _ hk;unfold Loc.slice
     cases hn:(L k).isNil with
     |true=>rw[g4 hn];exact .sl0 none 0
     |false=>
      obtain⟨a1,a2,arr,a3,a4,a5⟩:=g5 hn;have hnew:=hfr ((hm.own k _ hk).row hn);simp only[Bool.false_eq_true,if_false];rw[<-hc.1];refine .sl xs (L k).b 0 (L k).cap sz (λi j=>(arr[i*sz+j]?).getD undef) a1 (λi x hx=>g3 x (List.mem_of_getElem? hx)) ?_ ?_
      .intro i x j p hx hj
       obtain⟨u,hu,hr⟩:=a5 i x j p hx hj;exact⟨by rw[dI a3];simp[hu],λh9=>by have h9:(L k).b<C.w0.heap.size:=h9;omega⟩
      .intro i x j p hx hj
       obtain⟨u,hu,hr⟩:=a5 i x j p hx hj;simp only[hu,Option.getD_some];exact qT (List.all_eq_true.1 hc.2.2 x (List.mem_of_getElem? hx)) hj hr
   .cases e
  .cases e
 |ext y=>
  cases y with
  |barr=>cases e
  |suf=>cases e
  |mp k=>
   simp only[vk]at e;split at e
   .rename_i kd n es fz hk
    injection e with e;subst e;obtain⟨arr,clock,e1,e2⟩:=hm.bl k _ hk
    cases hx with
    |ext hx'=>cases hx' with
     |mp _=>
      have h9:C.w0.heap.size<=(L k).b:=hm.own k _ hk;exact .mp kd n es _ arr clock e1 (λh10=>by have h10:(L k).b<C.w0.heap.size:=h10;omega) e2
   .cases e
 |_=>cases e
theorem uQ(hm:MemL C L h w)(hfr:∀{b:Nat},(C.w0.heap.size<=b∨(C.S b∧∀o,¬C.M0 b o))->C.w0.heap.size<=b):∀{xs:List AV}{us:List Value}{ps:List PV},aB w (ag C L h) L h xs us->t8 h xs=some ps->bw w (tj C) ps us
 |[],us,ps,hx,e=>by
  simp only[t8,Option.some.injEq]at e;subst e;rw[hx.nil_inv];exact .nil
 |x::r,us,ps,hx,e=>by
  simp only[t8]at e;split at e
  .rename_i p ps' e1 e2
   injection e with e;subst e;obtain⟨u,us',rfl,hu,hr⟩:=hx.cons_inv;exact .cons (wR hm hfr hu e1) (uQ hm hfr hr e2)
  .cases e
theorem rT(hm:MemL C L h w)(hfr:∀{b:Nat},(C.w0.heap.size<=b∨(C.S b∧∀o,¬C.M0 b o))->C.w0.heap.size<=b)(hx:RepA w (ag C L h) L h x u)(e:xZ h x=some p):Rep w (tj C) p u:=by
 unfold xZ at e;split at e
 .rename_i k n c0
  split at e
  .rename_i cs fz hk
   split at e
   .rename_i hn
    split at e
    .rename_i ps e1
     split at e
     .rename_i ho
      injection e with e;subst e;obtain⟨arr,ty,h1',h2'⟩:=hm.bl k _ hk;have hr:=uQ hm hfr h2' e1;have hnew:C.w0.heap.size<=(L k).b:=hfr (hm.own k _ hk)
      have hlen:ps.length=n:=by rw[hr.1,<-h2'.1];exact hn
      have one:∀(i:Nat) x(j:Nat) p,ps[i]?=some x->x.cells[j]?=some p->j=0∧p=x:=by
       intro i x j p hx hj;rw[gS (List.all_eq_true.1 ho x (List.mem_of_getElem? hx))]at hj
       cases j with
       |zero=>simp at hj;exact⟨rfl,hj.symm⟩
       |succ j=>simp at hj
      have get:∀(i:Nat) p,ps[i]?=some p->∃v,arr[i]?=some v∧Rep w (tj C) p v:=by
       intro i p hp
       have hlt:i<arr.toList.length:=by rw[<-hr.1];exact(List.getElem?_eq_some_iff.1 hp).1
       have hv:arr.toList[i]?=some (arr.toList[i]):=List.getElem?_eq_getElem hlt;exact⟨_,by rw[<-Array.getElem?_toList];exact hv,hr.2 i p _ hp hv⟩
      cases hx with
      |ext hx'=>cases hx' with
       |barr hc9 _=>
        have key:Rep w (tj C) (.sl ps) (.slice (some ⟨(L k).b,0,none⟩) ps.length c0):=by
         refine .sl ps (L k).b 0 c0 1 (λi _=>(arr[i]?).getD undef) (by omega) (λi x hx=>by rw[gS (List.all_eq_true.1 ho x (List.mem_of_getElem? hx))];rfl) ?_ ?_
         .intro i x j p hx hj
          obtain⟨rfl,rfl⟩:=one i x j p hx hj;obtain⟨v,hv,_⟩:=get i p hx;refine⟨by rw[dI h1'];simp[hv],λh9=>?_⟩;have h9:(L k).b<C.w0.heap.size:=h9;omega
         .intro i x j p hx hj
          obtain⟨rfl,rfl⟩:=one i x j p hx hj;obtain⟨v,hv,hr'⟩:=get i p hx;simp only[hv,Option.getD_some];exact hr'
        rw[hlen]at key;exact key
     .cases e
    .cases e
   .cases e
  .cases e
 .exact wR hm hfr hx e
theorem nZ(hm:MemL C L h w)(hfr:∀{b:Nat},(C.w0.heap.size<=b∨(C.S b∧∀o,¬C.M0 b o))->C.w0.heap.size<=b):∀{xs:List AV}{us:List Value}{ps:List PV},aB w (ag C L h) L h xs us->sV h xs=some ps->bw w (tj C) ps us
 |[],us,ps,hx,e=>by
  simp only[sV,Option.some.injEq]at e;subst e;rw[hx.nil_inv];exact .nil
 |x::r,us,ps,hx,e=>by
  simp only[sV]at e;split at e
  .rename_i p ps' e1 e2
   injection e with e;subst e;obtain⟨u,us',rfl,hu,hr⟩:=hx.cons_inv;exact .cons (rT hm hfr hu e1) (nZ hm hfr hr e2)
  .cases e
theorem AA(hm:MemL C L h w)(hfr:∀{b:Nat},(C.w0.heap.size<=b∨(C.S b∧∀o,¬C.M0 b o))->C.w0.heap.size<=b)(hx:RepA w (ag C L h) L h x u)(e:ww h x=some p):Rep w (tj C) p u:=by
 unfold ww at e;split at e
 .rename_i k
  split at e
  .rename_i cs fz hk
   split at e
   .rename_i ps e1
    obtain⟨arr,ty,h1',h2'⟩:=hm.bl k _ hk;have hr:=nZ hm hfr h2' e1;have hnew:C.w0.heap.size<=(L k).b:=hfr (hm.own k _ hk)
    have key:∀y:PV,y.cells=ps->Rep w (tj C) (.rptr y 0) u:=by
     intro y hy
     have get:∀(i:Nat) p,y.cells[i]?=some p->∃v,arr[i]?=some v∧Rep w (tj C) p v:=by
      intro i p hp;rw[hy]at hp
      have hlt:i<arr.toList.length:=by rw[<-hr.1];exact(List.getElem?_eq_some_iff.1 hp).1
      have hv:arr.toList[i]?=some (arr.toList[i]):=List.getElem?_eq_getElem hlt;exact⟨_,by rw[<-Array.getElem?_toList];exact hv,hr.2 i p _ hp hv⟩
     cases hx with
     |ptr _=>
      refine .rptr y (L k).b 0 0 (λj=>(arr[j]?).getD undef) (λj p hj=>?_) (λj p hj=>?_)
      .obtain⟨v,hv,_⟩:=get j p hj
       refine⟨by rw[dI h1'];simp[hv],λh9=>?_⟩;have h9:(L k).b<C.w0.heap.size:=h9;omega
      .obtain⟨v,hv,hr'⟩:=get j p hj
       simp only[hv,Option.getD_some];exact hr'
    split at e
    .rename_i hq
     injection e with e;subst e
     exact key _ (by cases ps with
      |nil=>simp[ir]at hq
      |cons q r=>cases r with
       |nil=>simp only[ir]at hq;exact gS hq
       |cons _ _=>simp[ir]at hq)
    .injection e with e;subst e
     exact key _ (jp ps)
   .cases e
  .cases e
 .exact rT hm hfr hx e
theorem sJ(hm:MemL C L h w)(hfr:∀{b:Nat},(C.w0.heap.size<=b∨(C.S b∧∀o,¬C.M0 b o))->C.w0.heap.size<=b):∀{xs:List AV}{us:List Value}{ps:List PV},aB w (ag C L h) L h xs us->ow h xs=some ps->bw w (tj C) ps us
 |[],us,ps,hx,e=>by
  simp only[ow,Option.some.injEq]at e;subst e;rw[hx.nil_inv];exact .nil
 |x::r,us,ps,hx,e=>by
  simp only[ow]at e;split at e
  .rename_i p ps' e1 e2
   injection e with e;subst e;obtain⟨u,us',rfl,hu,hr⟩:=hx.cons_inv;exact .cons (AA hm hfr hu e1) (sJ hm hfr hr e2)
  .cases e
theorem Ej(hm:MemL C L h w)(hfr:∀{b:Nat},(C.w0.heap.size<=b∨(C.S b∧∀o,¬C.M0 b o))->C.w0.heap.size<=b)(hx:RepA w (ag C L h) L h x u)(e:GC h x=some p):Rep w (tj C) p u:=by
 unfold GC at e;split at e
 .rename_i f first caps
  split at e
  .rename_i ps qs e1 e2
   injection e with e;subst e
   cases hx with
   |fn _ _ _ vs us hl hk h1 h2=>
    have a:=nZ hm hfr ⟨hl,h1⟩ e1;have b:=sJ hm hfr ⟨hk,h2⟩ e2;exact .fn f ps qs vs us a.1 b.1 a.2 b.2
  .cases e
 .rename_i vs
  split at e
  .rename_i ps e1
   injection e with e;subst e
   cases hx with
   |tup _ us hl h1=>
    have a:=nZ hm hfr ⟨hl,h1⟩ e1;exact .tup ps us a.1 a.2
  .cases e
 .exact rT hm hfr hx e
end
theorem qU(hf:P.funcs[f]?=some fn)(hb:fn.body=some c)(hcall:bZ P f=true){args:List Arg}(hlen:args.length<=fn.ntmps)
 (hho:hout.length=hin.length)(hbx:∀(i j:Nat),args[i]?=some (.bx j)->j<hin.length)
 (h:∀C:Cx,C.P=P->C.N=fn.ntmps->WP C c (Ei P fn.results.toList hout res) (oY args hin)):aa P f args hin hout res:=by
 refine⟨hcall,hho,λw M bs vs hM hbl hnd hbox hal harg=>?_⟩
 let C:Cx:={P:=P,N:=fn.ntmps,M0:=M,S:=λb=>b∈bs,pb:=λk=>if k<1000000 then none else bs[k-1000000]?,w0:=w}
 let L:Nat->Loc:=λk=>⟨(bs[k-1000000]?).getD 0,0,false⟩
 have hkey:∀k blk,(oY args hin).h k=some blk->∃i ps b,k=pk i∧hin[i]?=some ps∧bs[i]?=some b∧blk=.box (ps.map .pv) false false:=by
  intro k blk hk;simp only[oY,oX]at hk;split at hk
  .cases hk
  .rename_i hk0
   split at hk
   .rename_i ps hps
    injection hk with hk
    have hlt:k-1000000<bs.length:=by rw[hbl];exact(List.getElem?_eq_some_iff.1 hps).1
    exact⟨k-1000000,ps,bs[k-1000000],by unfold pk;omega,hps,List.getElem?_eq_getElem hlt,hk.symm⟩
   .cases hk
 have hLb:∀i b,bs[i]?=some b->(L (pk i)).b=b:=by
  intro i b hb;show(bs[pk i-1000000]?).getD 0=b;rw[show pk i-1000000=i from by unfold pk;omega,hb];rfl
 have hMst:∀b o,ag C L (oY args hin).h b o↔M b o:=by
  intro b o;constructor
  .rintro(h0|⟨k,blk,hk,hl,hb,hf⟩)
   .exact h0
   .obtain⟨i,ps,b',rfl,hps,hb',rfl⟩:=hkey k blk hk
    rw[hLb i b' hb']at hb;subst hb;exact(hbox i _ ps hb' hps).1 o
  .exact .inl
 have hMeq:ag C L (oY args hin).h=M:=by funext b o;exact propext (hMst b o)
 have hsim:eO C (oY args hin) {tmps:=vs.toArray++Array.replicate (fn.ntmps-vs.toArray.size) undef,defers:=[]} w:=by
  refine⟨L,⟨Ext.refl _ _,hM,?_,?_,?_⟩,by show(vs.toArray++Array.replicate (fn.ntmps-vs.toArray.size) undef).size=fn.ntmps;simp;omega,iO.nil _,λn=>?_⟩
  .intro k blk hk
   obtain⟨i,ps,b,rfl,hps,hb,rfl⟩:=hkey k blk hk;obtain⟨arr,ty,e1,e2⟩:=(hbox i b ps hb hps).2;refine⟨arr,ty,by rw[hLb i b hb];exact e1,?_⟩;rw[hMeq];exact aB.map_pv e2
  .intro k k' b1 b2 hne hk hk' _ _ he
   obtain⟨i,ps,b,rfl,hps,hb,rfl⟩:=hkey k b1 hk;obtain⟨i',ps',b',rfl,hps',hb',rfl⟩:=hkey k' b2 hk';rw[hLb i b hb,hLb i' b' hb']at he;subst he;have h1:=(List.getElem?_eq_some_iff.1 hb);have h2:=(List.getElem?_eq_some_iff.1 hb');have:i=i':=(List.getElem_inj hnd).1 (h1.2.trans h2.2.symm);exact hne (by rw[this])
  .intro k blk hk
   obtain⟨i,ps,b,rfl,hps,hb,rfl⟩:=hkey k blk hk;refine⟨rfl,?_,?_,?_,?_⟩
   .rw[hLb i b hb]
    show(if pk i<1000000 then none else bs[pk i-1000000]?)=some b;rw[if_neg (by unfold pk;omega),show pk i-1000000=i from by unfold pk;omega,hb]
   .rw[hLb i b hb];exact List.mem_of_getElem? hb
   .rw[hLb i b hb];exact hM b 0 ((hbox i b ps hb hps).1 0)
   .intro o;rw[hLb i b hb];exact(hbox i b ps hb hps).1 o
  .rw[hMeq]
   simp only[oY,Az];split
   .rename_i p hp
    have hlt:n<vs.length:=by rw[<-hal];exact(List.getElem?_eq_some_iff.1 hp).1
    have:=harg n (.pv p) vs[n] hp (List.getElem?_eq_getElem hlt)
    have hget:(vs.toArray++Array.replicate (fn.ntmps-vs.toArray.size) undef).getD n undef=vs[n]:=by
     rw[Array.getD_eq_getD_getElem?,Array.getElem?_append_left (by simpa using hlt)];simp[hlt]
    simp only[hget];exact .pv this
   .rename_i j hp
    have hlt:n<vs.length:=by rw[<-hal];exact(List.getElem?_eq_some_iff.1 hp).1
    obtain⟨b,hb,hv⟩:=harg n (.bx j) vs[n] hp (List.getElem?_eq_getElem hlt)
    have hget:(vs.toArray++Array.replicate (fn.ntmps-vs.toArray.size) undef).getD n undef=vs[n]:=by
     rw[Array.getD_eq_getD_getElem?,Array.getElem?_append_left (by simpa using hlt)];simp[hlt]
    simp only[hget];rw[hv,<-hLb j b hb];have hj:=hbx n j hp;refine .ptr (cs:=(hin[j]).map .pv) (own:=false) (fz:=false) ?_;simp only[oX,if_neg (show¬pk j<1000000 by unfold pk;omega),show pk j-1000000=j from by unfold pk;omega];rw[List.getElem?_eq_getElem hj]
   .exact .undef _
 refine calls_of_wp_defers hf hb (wp_mono (h C rfl rfl _ w hsim) ?_)
 have hfin:∀(a':Act) w' st',eO C st' a' w'->gZ P fn.results.toList hout res st'->iO P a'.defers∧∃v,(results fn a'.tmps).run P w'=.ok v w'∧
  ∃v',Ending.returned v=.returned v'∧Ext (·∈bs) w w'∧(∀(i:Nat) b ps,bs[i]?=some b->hout[i]?=some ps->jf w' M b ps)∧wG w w' M res v':=by
  rintro a' w' st' ⟨L',hm,hN,hdf,ht⟩ ⟨r,hr,hpb,hres⟩;obtain⟨u,hu1,hu2⟩:=lO (C:=C) hm ht hr;have hsub:∀b o,M b o->ag C L' st'.h b o:=λb o h=>.inl h
  have hfr:∀{b:Nat},(C.w0.heap.size<=b∨(C.S b∧∀o,¬C.M0 b o))->w.heap.size<=b:=by
   intro b h9;rcases h9 with h9|⟨h9,h10⟩
   .exact h9
   .obtain⟨i,hi⟩:=List.mem_iff_getElem?.1 (show b∈bs from h9)
    have hlt:i<hin.length:=by rw[<-hbl];exact(List.getElem?_eq_some_iff.1 hi).1
    exact absurd ((hbox i b hin[i] hi (List.getElem?_eq_getElem hlt)).1 0) (h10 0)
  refine⟨hdf,u,hu1,u,rfl,hm.ext,?_,?_⟩
  .intro i b ps hb hps
   have hk:=hpb i ps hps;obtain⟨arr,ty,e1,e2⟩:=hm.bl _ _ hk;have how:=hm.own _ _ hk
   have hpbk:C.pb (pk i)=some b:=by
    show(if pk i<1000000 then none else bs[pk i-1000000]?)=some b;rw[if_neg (by unfold pk;omega),show pk i-1000000=i from by unfold pk;omega,hb]
   have hbb:(L' (pk i)).b=b:=by
    have:=how.2.1;rw[hpbk]at this;injection this with this;exact this.symm
   rw[hbb]at e1;exact⟨arr,ty,e1,e2.map_pv_inv.mono (Pres.sub hsub)⟩
  .cases res with
   |pv p=>
    obtain⟨W,hW⟩:=hres;obtain⟨b1,b2,_⟩:=ll hm (bY.refl _) hu2 hW;exact b2.mono (Pres.sub (λb o h=>.inl h))
   |new p=>exact Ej hm hfr hu2 hres
   |box ps=>
    obtain⟨k,rfl,hk⟩:=hres;obtain⟨arr,ty,e1,e2⟩:=hm.bl _ _ hk;have how:=hfr (hm.own _ _ hk)
    cases hu2 with
    |ptr _=>
     refine⟨(L' k).b,how,rfl,arr,ty,e1,e2.map_pv_inv.mono (Pres.sub ?_)⟩;rintro b o (h|rfl)
     .exact .inl h
     .exact .inr ⟨k,_,hk,trivial,rfl,by simp[Blk.frz]⟩
   |row e sz xs=>
    obtain⟨k,rfl,hk⟩:=hres;have how:=hm.own _ _ hk;have hb:=hm.bl _ _ hk
    have hval:u=(L' k).slice xs.length:=by
     cases hu2 with
     |arr hk2 hn2 hu=>
      rw[hk]at hk2;injection hk2 with hk2;injection hk2 with a1 a2 a3 a4;subst a3;exact hu rfl
    refine⟨L' k,hval,λhn=>hfr (how.row hn),?_⟩;obtain⟨c1,c2,c3,c4,c5⟩:=hb;refine⟨c1,Nat.zero_le _,c3,c4,λhn=>?_⟩;obtain⟨d1,d2,arr,d3,d4,d5⟩:=c5 hn;refine⟨d1,d2,arr,d3,d4,λi x j p hx hj=>?_⟩;obtain⟨v,hv,hr⟩:=d5 i x j p hx hj;refine⟨v,hv,hr.mono (Pres.sub ?_)⟩;rintro b o (h|⟨_,rfl⟩)
    .exact .inl h
    .exact .inr ⟨k,_,hk,hn,rfl,by simp[Blk.frz]⟩
   |nrow e sz xs=>
    obtain⟨hml,k,rfl,hk⟩:=hres;have how:=hm.own _ _ hk;have hb:=hm.bl _ _ hk
    have hval:u=(L' k).slice xs.length:=by
     cases hu2 with
     |arr hk2 hn2 hu=>
      rw[hk]at hk2;injection hk2 with hk2;injection hk2 with a1 a2 a3 a4;subst a3;exact hu rfl
    refine⟨hml,L' k,hval,λhn=>hfr (how.row hn),?_⟩;obtain⟨c1,c2,c3,c4,c5⟩:=hb;refine⟨c1,Nat.zero_le _,c3,c4,λhn=>?_⟩;obtain⟨d1,d2,arr,d3,d4,d5⟩:=c5 hn;refine⟨d1,d2,arr,d3,d4,λi x j p hx hj=>?_⟩;obtain⟨v,hv,hr⟩:=d5 i x j p hx hj;refine⟨v,hv,hr.mono (Pres.sub ?_)⟩;rintro b o (h|⟨_,rfl⟩)
    .exact .inl h
    .exact .inr ⟨k,_,hk,hn,rfl,by simp[Blk.frz]⟩
   |srow pre e sz xs=>
    obtain⟨k,rfl,hk⟩:=hres;have how:=hm.own _ _ hk;have hb:=hm.bl _ _ hk
    cases hu2 with
    |agg _ us hl hh=>
     have hlen:us.length=pre.length+1:=by simpa using hl.symm
     have hlt:pre.length<us.length:=by omega
     have hlast:=hh pre.length (.arr k xs.length) us[pre.length] (by rw[List.getElem?_append_right (by simp)];simp) (List.getElem?_eq_getElem hlt)
     have hval:us[pre.length]=(L' k).slice xs.length:=by
      generalize us[pre.length]=u at hlast
      cases hlast with
      |arr hk2 hn2 hu=>
       rw[hk]at hk2;injection hk2 with hk2;injection hk2 with a1 a2 a3 a4;subst a3;exact hu rfl
     have hsub:∀b o,(M b o∨((L' k).isNil=false∧b=(L' k).b))->ag C L' st'.h b o:=by
      rintro b o (h|⟨hn,rfl⟩)
      .exact .inl h
      .exact .inr ⟨k,_,hk,hn,rfl,by simp[Blk.frz]⟩
     refine⟨L' k,us.take pre.length,?_,λhn=>hfr (how.row hn),⟨by rw[List.length_take];omega,λi p u hp hu=>?_⟩,?_⟩
     .congr 1
      rw[<-hval,<-List.take_succ_eq_append_getElem hlt,List.take_of_length_le (by omega)]
     .have hi:=(List.getElem?_eq_some_iff.1 hp).1
      rw[List.getElem?_take,if_pos hi]at hu;have:=hh i (.pv p) u (by rw[List.getElem?_append_left (by simpa using hi),List.getElem?_map,hp];rfl) hu
      cases this with
      |pv hr=>exact hr.mono (Pres.sub hsub)
     .obtain⟨c1,c2,c3,c4,c5⟩:=hb
      refine⟨c1,Nat.zero_le _,c3,c4,λhn=>?_⟩;obtain⟨d1,d2,arr,d3,d4,d5⟩:=c5 hn;refine⟨d1,d2,arr,d3,d4,λi x j p hx hj=>?_⟩;obtain⟨v,hv,hr⟩:=d5 i x j p hx hj;exact⟨v,hv,hr.mono (Pres.sub hsub)⟩
 rintro e a' w' ⟨st',hs',hq⟩
 cases e with
 |normal=>obtain⟨h1,v,h2,h3⟩:=hfin a' w' st' hs' hq;exact gV h1 h2 h3
 |ret=>obtain⟨h1,v,h2,h3⟩:=hfin a' w' st' hs' hq;exact gV h1 h2 h3
 |exit=>exact hq.elim
 |goto=>exact hq.elim
 |panic=>exact hq.elim
 |outgrown=>exact hq.elim
section
variable {V:Type}
def gv(n:Nat)(wr:Nat->Option V)(x0:V)(ls:Nat->Bool):V:=(List.range n).foldl (λx i=>if ls i=true then(wr i).getD x else x) x0
theorem iZ(n:Nat)(wr:Nat->Option V)(x0:V)(ls:Nat->Bool):gv (n+1) wr x0 ls=if ls n=true then(wr n).getD (gv n wr x0 ls)else gv n wr x0 ls:=by
 simp[gv,List.range_succ,List.foldl_append]
theorem dx{wr:Nat->Option V}{x0:V}{ls':Nat->Bool}(h:∀j,j<n->(wr j).isSome=true->ls j=ls' j):gv n wr x0 ls=gv n wr x0 ls':=by
 induction n with
 |zero=>rfl
 |succ n ih=>
  rw[iZ,iZ,ih (λj hj=>h j (by omega))]
  cases hw:wr n with
  |none=>simp
  |some v=>rw[h n (by omega) (by simp[hw])]
theorem n5{wr:Nat->Option V}{x0:V}(hi:i<=n):gv n wr x0 (λj=>decide (j<i))=gv i wr x0 (λ_=>true):=by
 induction n with
 |zero=>have:i=0:=by omega
        subst this;rfl
 |succ n ih=>
  by_cases e:i=n+1
  .subst e
   refine(dx (λj hj _=>?_));simpa using hj
  .rw[iZ,ih (by omega)]
   have:¬n<i:=by omega
   simp[this]
theorem mY{wr:Nat->Option V}{x0:V}(hi:i<n)(hlater:(wr i).isSome=true->∀j,i<j->j<n->(wr j).isSome=true->ls j=false):
 gv n wr x0 (λj=>ls j||j==i)=(wr i).getD (gv n wr x0 ls):=by
 cases hw:wr i with
 |none=>
  simp only[Option.getD_none];refine dx (λj _ hj=>?_)
  have:j≠i:=λe=>by rw[e,hw]at hj;cases hj
  simp[this]
 |some v=>
  simp only[Option.getD_some];have hl:=hlater (by simp[hw]);clear hlater
  induction n with
  |zero=>omega
  |succ n ih=>
   rw[iZ];by_cases e:n=i
   .subst e;simp[hw]
   .have ih':=ih (by omega) (λj h1 h2=>hl j h1 (by omega))
    rw[ih']
    have hne:(n==i)=false:=by simpa using e
    simp only[hne,Bool.or_false]
    cases hwn:wr n with
    |none=>simp
    |some u=>rw[hl n (by omega) (by omega) (by simp[hwn])];simp
end
def lP(ops:Array Oper)(i j:Nat):Prop:=∃o,ops[j]?=some o∧∃e∈o.after.toList,Region.binds .any e=true∧e.on=i
inductive Pre(ops:Array Oper):Nat->Nat->Prop
 |one {i j:Nat} (h:lP ops i j):Pre ops i j
 |step {i q j:Nat} (h:Pre ops i q) (h':lP ops q j):Pre ops i j
def AB(acc:List Nat)(es:List Edge):Nat:=es.foldl (λs e=>if Region.binds .any e=true then s ||| 2^e.on ||| acc.getD e.on 0 else s) 0
def iP:List Oper->List Nat->List Nat
 |[],acc=>acc
 |o::r,acc=>iP r (acc++[AB acc o.after.toList])
theorem wS{acc:List Nat}{i:Nat}:∀(es:List Edge)(s:Nat),(es.foldl (λs e=>if Region.binds .any e=true then s ||| 2^e.on ||| acc.getD e.on 0 else s) s).testBit i=true->
 s.testBit i=true∨∃e∈es,Region.binds .any e=true∧(e.on=i∨(acc.getD e.on 0).testBit i=true)
 |[],s,h=>.inl h
 |e::es,s,h=>by
  simp only[List.foldl_cons]at h;rcases wS es _ h with h'|⟨e',he',hb,hx⟩
  .split at h'
   .rename_i hb
    rw[Nat.testBit_or,Nat.testBit_or,Bool.or_eq_true,Bool.or_eq_true]at h';rcases h' with(h'|h')|h'
    .exact .inl h'
    .refine .inr ⟨e,by simp,hb,.inl ?_⟩
     rw[Nat.testBit_two_pow]at h';simpa using h'
    .exact .inr ⟨e,by simp,hb,.inr h'⟩
   .exact .inl h'
  .exact .inr ⟨e',by simp[he'],hb,hx⟩
theorem rU{ops:Array Oper}:∀{l:List Oper}{acc:List Nat},(∀j,l[j]?=ops[acc.length+j]?)->(∀i j,(acc.getD j 0).testBit i=true->Pre ops i j)->
 ∀i j,((iP l acc).getD j 0).testBit i=true->Pre ops i j
 |[],acc,_,h,i,j,hb=>h i j hb
 |o::l,acc,hl,h,i,j,hb=>by
  refine rU (l:=l) (acc:=acc++[AB acc o.after.toList]) (λj=>?_) ?_ i j hb
  .have:=hl (j+1)
   simp only[List.getElem?_cons_succ]at this;rw[this];congr 1;simp;omega
  .intro i j hb
   by_cases hj:j<acc.length
   .refine h i j ?_
    rwa [List.getD_eq_getElem?_getD,List.getElem?_append_left hj,<-List.getD_eq_getElem?_getD]at hb
   .by_cases hj2:j=acc.length
    .subst hj2
     rw[List.getD_eq_getElem?_getD,List.getElem?_append_right (by omega)]at hb;simp only[Nat.sub_self,List.getElem?_cons_zero,Option.getD_some,AB]at hb
     have h0:ops[acc.length]?=some o:=by have:=hl 0;simpa using this.symm
     rcases wS _ _ hb with h'|⟨e,he,hbn,hx⟩
     .simp at h'
     .rcases hx with rfl|hx
      .exact .one ⟨o,h0,e,he,hbn,rfl⟩
      .exact .step (h i e.on hx) ⟨o,h0,e,he,hbn,rfl⟩
    .rw[List.getD_eq_getElem?_getD,List.getElem?_eq_none (by simp;omega)]at hb
     simp at hb
def AC(xs:List Operand):List Nat:=xs.filterMap λ|.tmp t=>some t|_=>none
def lC(ops:Array Oper)(o:Oper):List Nat:=AC o.op.operands.toList++(match o.guard with|some (j,_)=>((ops[j]?).bind (·.dst)).toList|none=>[])
def jU(ops:Array Oper)(x y:Oper):Bool:=
 (match x.dst with|some r=>(lC ops y).contains r||y.dst==some r|none=>false)||(match y.dst with|some r=>(lC ops x).contains r|none=>false)
def Ek(ops:Array Oper):Bool:=(List.range ops.size).all λj=>match ops[j]? with
 |some o=>o.after.toList.all λe=>!Region.binds .any e||decide (e.on<j)
 |none=>true
def iQ(ops:Array Oper):Bool:=
 let tab:=iP ops.toList []
 Ek ops&&(List.range ops.size).all λj=>(List.range j).all λi=>match ops[i]?,ops[j]? with
  |some x,some y=>!jU ops x y||(tab.getD j 0).testBit i
  |_,_=>true
def Cf:Op->Bool
 |.lookup ..|.mapUpdate ..|.load ..|.store ..|.alloc _|.box ..|.build ..|.buildSlice ..|.indexAddr ..|.fieldAddr ..|.makeSlice ..|.call _|.assign _|.makeInterface ..=>true
 |_=>false
def un(h:Hp)(k:Nat):List Nat:=match h k with
 |some (.box cs _ _)=>cs.flatMap t6
 |_=>[]
def Cg(h:Hp):AV->List Nat
 |.ptr k _=>un h k
 |_=>[]
def GF(h:Hp):AV->List Nat
 |.fn _ _ caps=>let b:=caps.flatMap (Cg h);b++b.flatMap (un h)
 |.ext (.barr k _ _)=>un h k
 |_=>[]
def El:Op->Bool
 |.call _=>true
 |_=>false
def kE(o:Oper)(ρ:Operand->AV)(h:Hp):List Nat:=(if Cf o.op then o.op.operands.toList.flatMap λx=>H7 (ρ x)else[])++((if El o.op then o.op.operands.toList.flatMap λx=>GF h (ρ x)else[])++o.dst.toList)
def bu(K:List Nat)(h:Hp):Hp:=λk=>if K.contains k=true then h k else none
abbrev lQ:=List (List Nat×List Nat)
def AD(a b:List Nat):Bool:=a.all λx=>!b.contains x
def iw(tab:List Nat)(acc:lQ):Bool:=
 (List.range acc.length).all λj=>(List.range j).all λi=>match acc[i]?,acc[j]? with
   |some (W,K),some (W',K')=>(AD W K'&&AD W' K)||(tab.getD j 0).testBit i
   |_,_=>true
def jB(P:Program)(hn:List Nat)(N:Nat)(ops:Array Oper)(Q:lQ->St->Prop):List Oper->lQ->St->Prop
 |[],acc,st=>Q acc st
 |o::rest,acc,st=>bX N o.dst=true∧(match jP ops st.t o.guard with
   |some none=>qR P hn o st.ev (bu (kE o st.ev st.h) st.h) (λe=>(e.2.all λkb=>(kE o st.ev st.h).contains kb.1)=true∧jB P hn N ops Q rest (acc++[(e.2.map (·.1),kE o st.ev st.h)]) (st.put o.dst e.1 e.2))
   |some (some (d,b,want))=>uJ b d st (λb' st'=>if b'=want then qR P hn o st'.ev (bu (kE o st'.ev st'.h) st'.h) (λe=>(e.2.all λkb=>(kE o st'.ev st'.h).contains kb.1)=true∧jB P hn N ops Q rest (acc++[(e.2.map (·.1),kE o st'.ev st'.h)]) (st'.put o.dst e.1 e.2))
    else jB P hn N ops Q rest (acc++[([],[])]) (st'.put o.dst (.pv (.val (.tuple #[]))) []))
   |none=>False)
theorem y7{c:AV}{d:Option Nat}(e:fD P c args d h K):∃eff,fD P c args d h (λx=>x=eff)∧K eff:=by
 unfold fD at e|-;split at e
 .exact e.elim
 .split at e
  .exact e.elim
  .split at e
   .exact e.elim
   .rename_i hd
    split at e
    .exact e.elim
    .obtain⟨hout,res,hdet,he⟩:=e
     unfold gM at he;split at he
     .rename_i e0 heq
      refine⟨e0,?_,he⟩;simp only[hd];exact⟨hout,res,hdet,by unfold gM;simp only[heq]⟩
     .exact he.elim
theorem Em(e:qR P hn o ρ h K):∃eff,qR P hn o ρ h (λx=>x=eff)∧K eff:=by
 have hp:gM (du P hn o ρ h) K->∃eff,gM (du P hn o ρ h) (λx=>x=eff)∧K eff:=by
  intro e;unfold gM at e|-;split at e
  .rename_i eff _;exact⟨eff,rfl,e⟩
  .exact e.elim
 unfold qR at e|-;split at e
 .split at e
  .rename_i c hop f hcal
   exact y7 e
  .exact y7 e
  .exact hp e
 .exact hp e
theorem oZ(hsel:∀cs b,o.op≠.select cs b)(h:∀x∈o.op.operands,ρ x=ρ' x):bz P o ρ=bz P o ρ':=by
 unfold bz
 have h1:(o.op.operands.toList.all λx=>(fl (ρ x)).isSome)=(o.op.operands.toList.all λx=>(fl (ρ' x)).isSome):=by
  rw[Bool.eq_iff_iff,List.all_eq_true,List.all_eq_true];constructor
  .intro hh x hx;rw[<-h x (by simpa using hx)];exact hh x hx
  .intro hh x hx;rw[h x (by simpa using hx)];exact hh x hx
 have h2:execOp (λx=>rL (ρ x)) o=execOp (λx=>rL (ρ' x)) o:=execOp_congr o hsel (λx hx=>by simp only[h x hx]);rw[h1,h2]
structure Ef where
 d:Option Nat
 v:AV
 W:List (Nat×Blk)
 K:List Nat
 deriving Inhabited
def run(fs:List Ef)(st:St):St:=fs.foldl (λs f=>s.put f.d f.v f.W) st
def kg(P:Program)(o:Oper)(ρ:Operand->AV)(hK:Hp)(v:AV)(W:List (Nat×Blk)):Prop:=
 ∀(C:Cx)(L:Nat->Loc)(h:Hp)(w:World)(a:Act),C.P=P->MemL C L h w->(∀k b,hK k=some b->h k=some b)->(∀d,o.dst=some d->hK d=h d∧d<2000000)->
  (∀x∈o.op.operands,RepA w (ag C L h) L h (ρ x) (a.eval x))->∀(next:Act->World->Prop)(Q:Exit->Act->World->Prop),
  (∀u w' L',aG C L h w L' (ai h W) w'->RepA w' (ag C L' (ai h W)) L' (ai h W) v u->next (a.put o.dst u) w')->o.wp C.P a w next Q
theorem Ch{hK:Hp}{v:AV}(e:qR P hn o ρ hK (λx=>x=(v,W))):kg P o ρ hK v W:=by
 intro C L h w a hP hm hs hf hρ next Q hnext
 subst hP;refine Ax hm hs hf hρ e (λeff u w' L' he hA hv=>?_);subst he;exact hnext u w' L' hA hv
theorem kg.congr{hK:Hp}{v:AV}(hx:∀x∈o.op.operands,ρ x=ρ' x)(h:kg P o ρ hK v W):kg P o ρ' hK v W:=by
 intro C L h' w a hP hm hs hf hρ next Q hnext
 exact h C L h' w a hP hm hs hf (λx hx'=>by rw[hx x hx'];exact hρ x hx') next Q hnext
def lR(P:Program)(hn:List Nat)(N:Nat)(ops:Array Oper)(o:Oper)(st:St)(f:Ef):Prop:=
 bX N o.dst=true∧f.d=o.dst∧
  ((de ops st.t o.guard=some true∧(∀d,o.dst=some d->f.K.contains d=true)∧kg P o st.ev (bu f.K st.h) f.v f.W∧(f.W.all λkb=>f.K.contains kb.1)=true)∨
   (de ops st.t o.guard=some false∧f.v=.pv (.val (.tuple #[]))∧f.W=[]∧f.K=[]))
theorem qV{P:Program}{hn:List Nat}{N:Nat}{ops:Array Oper}{Q:lQ->St->Prop}:∀{l:List Oper}{acc:lQ}{st:St},jB P hn N ops Q l acc st->
 ∃fs:List Ef,fs.length=l.length∧(∀(i:Nat) o f,l[i]?=some o->fs[i]?=some f->lR P hn N ops o (run (fs.take i) st) f)∧Q (acc++fs.map λf=>(f.W.map (·.1),f.K)) (run fs st)
 |[],acc,st,e=>⟨[],rfl,λi o f h=>by simp at h,by simpa[jB,run]using e⟩
 |o::l,acc,st,e=>by
  simp only[jB]at e;obtain⟨hd,e⟩:=e
  have fin:∀(f:Ef),lR P hn N ops o st f->jB P hn N ops Q l (acc++[(f.W.map (·.1),f.K)]) (st.put f.d f.v f.W)->
   ∃fs:List Ef,fs.length=(o::l).length∧(∀(i:Nat) o' f',(o::l)[i]?=some o'->fs[i]?=some f'->lR P hn N ops o' (run (fs.take i) st) f')∧Q (acc++fs.map λf=>(f.W.map (·.1),f.K)) (run fs st):=by
   intro f hf hrest;obtain⟨fs,h1,h2,h3⟩:=qV hrest;refine⟨f::fs,by simp[h1],λi o' f' ho hf'=>?_,?_⟩
   .cases i with
    |zero=>simp at ho hf';subst ho;subst hf';exact hf
    |succ i=>exact h2 i o' f' (by simpa using ho) (by simpa using hf')
   .simpa[run,List.append_assoc]using h3
  split at e
  .rename_i hg
   obtain⟨eff,he,hall,hrest⟩:=Em e;exact fin ⟨o.dst,eff.1,eff.2,kE o st.ev st.h⟩ ⟨hd,rfl,.inl ⟨mU hg,λd hd9=>by simp[kE,hd9],Ch he,hall⟩⟩ hrest
  .rename_i d b want hg
   unfold uJ at e;simp only at e;split at e
   .rename_i hgt
    subst hgt;obtain⟨eff,he,hall,hrest⟩:=Em e;exact fin ⟨o.dst,eff.1,eff.2,kE o st.ev st.h⟩ ⟨hd,rfl,.inl ⟨(kJ hg).trans (by simp),λd hd9=>by simp[kE,hd9],Ch he,hall⟩⟩ hrest
   .rename_i hgf
    exact fin ⟨o.dst,.pv (.val (.tuple #[])),[],[]⟩ ⟨hd,rfl,.inr ⟨(kJ hg).trans (by simpa using hgf),rfl,rfl,rfl⟩⟩ e
  .exact e.elim
def dJ(W:List (Nat×Blk))(k:Nat):Option (Option Blk):=W.foldl (λx kb=>if k=kb.1 then some (some kb.2)else x) none
theorem n6(k:Nat):∀(W:List (Nat×Blk))(x:Option (Option Blk)),W.foldl (λx kb=>if k=kb.1 then some (some kb.2)else x) x=(match dJ W k with|some y=>some y|none=>x)
 |[],x=>by simp[dJ]
 |kb::W,x=>by
  simp only[List.foldl_cons,dJ];rw[n6 k W (if k=kb.1 then some (some kb.2)else x),n6 k W (if k=kb.1 then some (some kb.2)else none)]
  cases dJ W k with
  |some y=>rfl
  |none=>simp only;split<;>rfl
theorem mZ(k:Nat):∀(W:List (Nat×Blk))(h:Hp),ai h W k=(dJ W k).getD (h k)
 |[],h=>rfl
 |kb::W,h=>by
  show ai (ah h kb.1 (some kb.2)) W k=_;rw[mZ k W]
  have hc:dJ (kb::W) k=(match dJ W k with|some y=>some y|none=>if k=kb.1 then some (some kb.2)else none):=by
   conv=>lhs;unfold dJ
   rw[List.foldl_cons,n6 k W (if k=kb.1 then some (some kb.2)else none)]
  rw[hc]
  cases dJ W k with
  |some y=>rfl
  |none=>simp only[Option.getD_none,ah];split<;>rfl
theorem tl{k:Nat}:∀{W:List (Nat×Blk)},(dJ W k).isSome=true->k∈W.map (·.1)
 |[],h=>by simp[dJ]at h
 |kb::W,h=>by
  simp only[dJ,List.foldl_cons]at h;rw[n6 k W (if k=kb.1 then some (some kb.2)else none)]at h;by_cases e:k=kb.1
  .simp[e]
  .rw[if_neg e]at h
   have:(dJ W k).isSome=true:=by cases hh:dJ W k<;>simp_all
   have:=tl this;simp at this|-;exact .inr this
section
variable (fs:List Ef)
def pU(r i:Nat):Option AV:=match fs[i]? with
 |some f=>if f.d=some r then some f.v else none
 |none=>none
def pV(k i:Nat):Option (Option Blk):=match fs[i]? with
 |some f=>dJ f.W k
 |none=>none
def dV(n:Nat)(st:St)(ls:Nat->Bool):St:=⟨λr=>gv n (pU fs r) (st.t r) ls,λk=>gv n (pV fs k) (st.h k) ls⟩
theorem lS(st:St):∀i,i<=fs.length->∀r,(run (fs.take i) st).t r=gv i (pU fs r) (st.t r) (λ_=>true)
 |0,_,r=>by simp[run,gv]
 |i+1,hi,r=>by
  have hlt:i<fs.length:=by omega
  rw[List.take_succ_eq_append_getElem hlt,iZ];simp only[run,List.foldl_append,List.foldl_cons,List.foldl_nil,if_true];have ih:=lS st i (by omega) r;rw[run]at ih
  have hw:pU fs r i=if fs[i].d=some r then some fs[i].v else none:=by simp[pU,List.getElem?_eq_getElem hlt]
  rw[hw,<-ih]
  cases hd:fs[i].d with
  |none=>simp[St.put]
  |some d=>
   simp only[St.put,ah,Option.some.injEq];by_cases e:d=r
   .subst e;simp
   .rw[if_neg (λh=>e h.symm),if_neg e];rfl
theorem lT(st:St):∀i,i<=fs.length->∀k,(run (fs.take i) st).h k=gv i (pV fs k) (st.h k) (λ_=>true)
 |0,_,r=>by simp[run,gv]
 |i+1,hi,r=>by
  have hlt:i<fs.length:=by omega
  rw[List.take_succ_eq_append_getElem hlt,iZ];simp only[run,List.foldl_append,List.foldl_cons,List.foldl_nil,if_true];have ih:=lT st i (by omega) r;rw[run]at ih
  have hw:pV fs r i=dJ fs[i].W r:=by simp[pV,List.getElem?_eq_getElem hlt]
  rw[hw,<-ih];simp only[St.put];exact mZ r _ _
end
section
variable {C:Cx} {hn:List Nat} {ops:Array Oper} {fs:List Ef} {st:St}
def aK(listed:Array Bool):Nat->Bool:=λi=>listed.getD i true
theorem n7(hc:∀i j,lP ops i j->ls j=true->ls i=true)(h:Pre ops i j):ls j=true->ls i=true:=by
 induction h with
 |one h=>exact hc _ _ h
 |step _ h' ih=>exact λhj=>ih (hc _ _ h' hj)
theorem kh(hs:iQ ops=true){x y:Oper}(hij:i<j)(hx:ops[i]?=some x)(hy:ops[j]?=some y)(hc:jU ops x y=true):Pre ops i j:=by
 simp only[iQ,Bool.and_eq_true]at hs;have hj:j<ops.size:=(Array.getElem?_eq_some_iff.1 hy).1;have h1:=List.all_eq_true.1 hs.2 j (List.mem_range.2 hj);have h2:=List.all_eq_true.1 h1 i (List.mem_range.2 hij);rw[hx,hy]at h2;simp only[hc,Bool.not_true,Bool.false_or]at h2;exact rU (l:=ops.toList) (acc:=[]) (λj=>by simp) (λi j h=>by simp at h) i j h2
theorem ln{acc:lQ}(hs:iw (iP ops.toList []) acc=true){W K W' K':List Nat}(hij:i<j)(hx:acc[i]?=some (W,K))(hy:acc[j]?=some (W',K'))(hc:∃k,(k∈W∧k∈K')∨(k∈W'∧k∈K)):Pre ops i j:=by
 have hj:j<acc.length:=(List.getElem?_eq_some_iff.1 hy).1;have h1:=List.all_eq_true.1 hs j (List.mem_range.2 hj);have h2:=List.all_eq_true.1 h1 i (List.mem_range.2 hij);rw[hx,hy]at h2;simp only[Bool.or_eq_true,Bool.and_eq_true]at h2;rcases h2 with⟨d1,d2⟩|h2
 .obtain⟨k,⟨a,b⟩|⟨a,b⟩⟩:=hc
  .have:=List.all_eq_true.1 d1 k a
   simp at this;exact absurd b this
  .have:=List.all_eq_true.1 d2 k a
   simp at this;exact absurd b this
 .exact rU (l:=ops.toList) (acc:=[]) (λj=>by simp) (λi j h=>by simp at h) i j h2
theorem n9(hs:iQ ops=true)(h:lP ops i j):i<j:=by
 simp only[iQ,Bool.and_eq_true]at hs;obtain⟨o,ho,e,he,hb,rfl⟩:=h;have h1:=List.all_eq_true.1 hs.1 j (List.mem_range.2 (Array.getElem?_eq_some_iff.1 ho).1);rw[ho]at h1;have h2:=List.all_eq_true.1 h1 e he;simpa[hb]using h2
theorem ki{listed:Array Bool}:i∈Region.ready .any ops listed↔i<ops.size∧aK listed i=false∧∀q,lP ops q i->listed.getD q false=true:=by
 unfold Region.ready aK;rw[List.mem_filter,List.mem_range];constructor
 .rintro⟨h1,h2⟩
  simp only[Bool.and_eq_true,Bool.not_eq_true']at h2;refine⟨h1,h2.1,?_⟩;rintro q ⟨o,ho,e,he,hb,rfl⟩;have h3:=h2.2;rw[ho]at h3;simp only[Option.map_some,Option.getD_some,Array.all_eq_true_iff_forall_mem]at h3;have:=h3 e (by simpa using he);simpa[hb]using this
 .rintro⟨h1,h2,h3⟩
  refine⟨h1,?_⟩;simp only[Bool.and_eq_true,Bool.not_eq_true'];refine⟨h2,?_⟩;have ho:ops[i]?=some ops[i]:=Array.getElem?_eq_getElem h1;rw[ho];simp only[Option.map_some,Option.getD_some,Array.all_eq_true_iff_forall_mem];intro e he
  cases hb:Region.binds .any e with
  |false=>simp
  |true=>simp[h3 e.on ⟨_,ho,e,by simpa using he,hb,rfl⟩]
theorem Fl(hslot:iQ ops=true)(hlen:fs.length=ops.size)(hstep:∀(i:Nat) o f,ops[i]?=some o->fs[i]?=some f->lR C.P hn C.N ops o (run (fs.take i) st) f)
 (hkey:iw (iP ops.toList []) (fs.map λf=>(f.W.map (·.1),f.K))=true){Q':Exit->Act->World->Prop}(hQ:∀a w,eO C (run fs st) a w->Q' .normal a w):
 ∀(fuel:Nat)(listed:Array Bool)(a:Act)(w:World),listed.size=ops.size->((List.range ops.size).filter λj=>!aK listed j).length<=fuel->(∀i j,lP ops i j->aK listed j=true->aK listed i=true)->
  eO C (dV fs ops.size st (aK listed)) a w->wpAny C.P .any ops Q' fuel listed a w:=by
 have hall:∀listed:Array Bool,Region.ready .any ops listed=[]->listed.size=ops.size->∀j,j<ops.size->aK listed j=true:=by
  intro listed hr hsz j
  induction j using Nat.strongRecOn with
  |_ j ih=>
   intro hj
   cases hl:aK listed j with
   |true=>rfl
   |false=>
    have:j∈Region.ready .any ops listed:=ki.2 ⟨hj,hl,λq hq=>by
     have hqj:=n9 hslot hq;have:=ih q hqj (by omega);unfold aK at this;rw[Array.getD_eq_getD_getElem?]at this|-;rw[Array.getElem?_eq_getElem (by omega)]at this|-
     simpa using this⟩
    rw[hr]at this;cases this
 have hend:∀(listed:Array Bool) a w,Region.ready .any ops listed=[]->listed.size=ops.size->eO C (dV fs ops.size st (aK listed)) a w->Q' .normal a w:=by
  intro listed a w hr hsz hsim;apply hQ;have hl:=hall listed hr hsz
  have:dV fs ops.size st (aK listed)=run fs st:=by
   have ht:run fs st=run (fs.take ops.size) st:=by rw[List.take_of_length_le (by omega)]
   rw[ht]
   have h1:(dV fs ops.size st (aK listed)).t=(run (fs.take ops.size) st).t:=by
    funext r;rw[lS fs st _ (by omega)];exact dx (λj hj _=>hl j hj)
   have h2:(dV fs ops.size st (aK listed)).h=(run (fs.take ops.size) st).h:=by
    funext r;rw[lT fs st _ (by omega)];exact dx (λj hj _=>hl j hj)
   cases hA:dV fs ops.size st (aK listed);cases hB:run (fs.take ops.size) st;rw[hA,hB]at h1 h2;simp at h1 h2;rw[h1,h2]
  rw[<-this];exact hsim
 intro fuel
 induction fuel with
 |zero=>
  intro listed a w hsz hcnt hcl hsim
  have hemp:Region.ready .any ops listed=[]:=by
   cases hr:Region.ready .any ops listed with
   |nil=>rfl
   |cons i r=>
    have hi:i∈Region.ready .any ops listed:=by rw[hr];simp
    obtain⟨h1,h2,_⟩:=ki.1 hi;have:i∈(List.range ops.size).filter λj=>!aK listed j:=List.mem_filter.2 ⟨List.mem_range.2 h1,by simp[h2]⟩;have hnil:((List.range ops.size).filter λj=>!aK listed j)=[]:=List.eq_nil_of_length_eq_zero (by omega);rw[hnil]at this;cases this
  exact⟨hemp,hend listed a w hemp hsz hsim⟩
 |succ fuel ih=>
  intro listed a w hsz hcnt hcl hsim;refine⟨λhr=>hend listed a w hr hsz hsim,λi hi=>?_⟩;obtain⟨hin,hli,hdir⟩:=ki.1 hi;have ho:ops[i]?=some ops[i]:=Array.getElem?_eq_getElem hin;have hf:fs[i]?=some (fs[i]'(by omega)):=List.getElem?_eq_getElem _;generalize ops[i]=o at ho;generalize fs[i]'(by omega)=f at hf;obtain⟨hdst,hfd,hcase⟩:=hstep i o f ho hf
  have hbefore:∀q,Pre ops q i->aK listed q=true:=by
   intro q hq
   have hd:∀q,lP ops q i->aK listed q=true:=by
    intro q hq;have hqi:=n9 hslot hq;have:=hdir q hq;unfold aK;rw[Array.getD_eq_getD_getElem?]at this|-;rw[Array.getElem?_eq_getElem (by omega)]at this|-;simpa using this
   cases hq with
   |one h=>exact hd q h
   |step h h'=>exact n7 hcl h (hd _ h')
  have hafter:∀q,Pre ops i q->aK listed q=false:=by
   intro q hq
   cases hlq:aK listed q with
   |false=>rfl
   |true=>rw[n7 hcl hq hlq]at hli;cases hli
  have hdj:∀j r,(pU fs r j).isSome=true->∃oj fj,ops[j]?=some oj∧fs[j]?=some fj∧oj.dst=some r:=by
   intro j r hj;unfold pU at hj;split at hj
   .rename_i fj hfj
    split at hj
    .rename_i hd
     have hjn:j<ops.size:=by rw[<-hlen];exact(List.getElem?_eq_some_iff.1 hfj).1
     have hoj:ops[j]?=some ops[j]:=Array.getElem?_eq_getElem hjn;obtain⟨_,h2,_⟩:=hstep j _ fj hoj hfj;exact⟨_,fj,hoj,hfj,by rw[<-h2];exact hd⟩
    .cases hj
   .cases hj
  have hkj:∀j k,(pV fs k j).isSome=true->∃fj,fs[j]?=some fj∧k∈fj.W.map (·.1):=by
   intro j k hj;unfold pV at hj;split at hj
   .rename_i fj hfj;exact⟨fj,hfj,tl hj⟩
   .cases hj
  have haccat:∀(j:Nat)(fj:Ef),fs[j]?=some fj->(fs.map λf=>(f.W.map (·.1),f.K))[j]?=some (fj.W.map (·.1),fj.K):=λj fj h=>by simp[h]
  have hagT:∀r∈lC ops o,(dV fs ops.size st (aK listed)).t r=(run (fs.take i) st).t r:=by
   intro r hr;rw[lS fs st i (by omega),<-n5 (n:=ops.size) (by omega)];refine dx (λj hj hw=>?_);obtain⟨oj,fj,hoj,hfj,hd⟩:=hdj j r hw;rcases Nat.lt_trichotomy j i with hlt|rfl|hgt
   .rw[hbefore j (kh hslot hlt hoj ho (by simp[jU,hd,hr]))];simp[hlt]
   .rw[hli];simp
   .rw[hafter j (kh hslot hgt ho hoj (by simp[jU,hd,hr]))]
    have:¬j<i:=by omega
    simp[this]
  have hagH:∀k∈f.K,(dV fs ops.size st (aK listed)).h k=(run (fs.take i) st).h k:=by
   intro k hk;rw[lT fs st i (by omega),<-n5 (n:=ops.size) (by omega)];refine dx (λj hj hw=>?_);obtain⟨fj,hfj,hd⟩:=hkj j k hw;rcases Nat.lt_trichotomy j i with hlt|rfl|hgt
   .rw[hbefore j (ln hkey hlt (haccat j fj hfj) (haccat i f hf) ⟨k,.inl ⟨hd,hk⟩⟩)];simp[hlt]
   .rw[hli];simp
   .rw[hafter j (ln hkey hgt (haccat i f hf) (haccat j fj hfj) ⟨k,.inr ⟨hd,hk⟩⟩)]
    have:¬j<i:=by omega
    simp[this]
  have hWK:∀k,k∈f.W.map (·.1)->k∈f.K:=by
   intro k hk;obtain⟨kb,hkb,rfl⟩:=List.mem_map.1 hk;rcases hcase with⟨_,_,_,hall⟩|⟨_,_,hW,_⟩
   .have:=List.all_eq_true.1 hall kb hkb;simpa using this
   .rw[hW]at hkb;cases hkb
  have kD:dV fs ops.size st (aK (listed.setIfInBounds i true))=(dV fs ops.size st (aK listed)).put f.d f.v f.W:=by
   have hls:∀j,j<ops.size->aK (listed.setIfInBounds i true) j=(aK listed j||j==i):=by
    intro j hj;unfold aK;by_cases e:j=i
    .subst e;simp[Array.getD_eq_getD_getElem?,hsz,hj]
    .have h1:(j==i)=false:=by simpa using e
     rw[h1,Bool.or_false,Array.getD_eq_getD_getElem?,Array.getD_eq_getD_getElem?,Array.getElem?_setIfInBounds_ne (by omega)]
   have h1:(dV fs ops.size st (aK (listed.setIfInBounds i true))).t=((dV fs ops.size st (aK listed)).put f.d f.v f.W).t:=by
    funext r
    show gv ops.size (pU fs r) (st.t r) (aK (listed.setIfInBounds i true))=_;rw[dx (λj hj _=>hls j hj),mY hin ?_]
    .have hw:pU fs r i=if f.d=some r then some f.v else none:=by simp[pU,hf]
     rw[hw]
     cases hd:f.d with
     |none=>simp[St.put,dV]
     |some d=>
      simp only[St.put,ah,Option.some.injEq];by_cases e:d=r
      .subst e;simp
      .rw[if_neg e,if_neg (λh=>e h.symm)];rfl
    .intro hwi j hij hj hwj
     obtain⟨oi,fi,hoi,hfi,hdi⟩:=hdj i r hwi;obtain⟨oj,fj,hoj,hfj,hd⟩:=hdj j r hwj;rw[ho]at hoi;injection hoi with hoi;subst hoi;exact hafter j (kh hslot hij ho hoj (by simp[jU,hdi,hd]))
   have h2:(dV fs ops.size st (aK (listed.setIfInBounds i true))).h=((dV fs ops.size st (aK listed)).put f.d f.v f.W).h:=by
    funext k
    show gv ops.size (pV fs k) (st.h k) (aK (listed.setIfInBounds i true))=_;rw[dx (λj hj _=>hls j hj),mY hin ?_]
    .have hw:pV fs k i=dJ f.W k:=by simp[pV,hf]
     rw[hw];simp only[St.put];exact(mZ k f.W (dV fs ops.size st (aK listed)).h).symm
    .intro hwi j hij hj hwj
     obtain⟨fi,hfi,hdi⟩:=hkj i k hwi;obtain⟨fj,hfj,hd⟩:=hkj j k hwj;rw[hf]at hfi;injection hfi with hfi;subst hfi;exact hafter j (ln hkey hij (haccat i f hf) (haccat j fj hfj) ⟨k,.inr ⟨hd,hWK k hdi⟩⟩)
   cases hA:dV fs ops.size st (aK (listed.setIfInBounds i true));cases hB:(dV fs ops.size st (aK listed)).put f.d f.v f.W;rw[hA,hB]at h1 h2;simp at h1 h2;rw[h1,h2]
  have hnext:∀a' w',eO C ((dV fs ops.size st (aK listed)).put f.d f.v f.W) a' w'->wpAny C.P .any ops Q' fuel (listed.setIfInBounds i true) a' w':=by
   intro a' w' hs';refine ih (listed.setIfInBounds i true) a' w' (by simp[hsz]) ?_ ?_ (by rw[kD];exact hs')
   .have hle:((List.range ops.size).filter λj=>!aK (listed.setIfInBounds i true) j).length<((List.range ops.size).filter λj=>!aK listed j).length:=by
     have heq:((List.range ops.size).filter λj=>!aK (listed.setIfInBounds i true) j)=((List.range ops.size).filter λj=>!aK listed j).filter λj=>!(j==i):=by
      rw[List.filter_filter];refine List.filter_congr (λj hj=>?_);have hj':=List.mem_range.1 hj;unfold aK;by_cases e:j=i
      .subst e;simp[Array.getD_eq_getD_getElem?,hsz,hj']
      .have h1:(j==i)=false:=by simpa using e
       rw[h1,Array.getD_eq_getD_getElem?,Array.getD_eq_getD_getElem?,Array.getElem?_setIfInBounds_ne (by omega)];simp
     rw[heq];refine List.length_filter_lt_length_iff_exists.2 ⟨i,List.mem_filter.2 ⟨List.mem_range.2 hin,by simp[hli]⟩,by simp⟩
    omega
   .intro q j hd hj
    have hset:∀m,aK (listed.setIfInBounds i true) m=true↔(aK listed m=true∨m=i):=by
     intro m;unfold aK;by_cases e:m=i
     .subst e;simp[Array.getD_eq_getD_getElem?,hsz,hin]
     .rw[Array.getD_eq_getD_getElem?,Array.getD_eq_getD_getElem?,Array.getElem?_setIfInBounds_ne (by omega)];simp[e]
    rw[hset]at hj|-;rcases hj with hj|rfl
    .exact .inl (hcl q j hd hj)
    .exact .inl (hbefore q (.one hd))
  obtain⟨L,hm,hN,hdf,ht⟩:=hsim
  have hgd:de ops (dV fs ops.size st (aK listed)).t o.guard=de ops (run (fs.take i) st).t o.guard:=by
   unfold de;split
   .rfl
   .rename_i j want hg
    split
    .rename_i d hd
     rw[hagT d (by simp[lC,hg,hd])]
    .rfl
  unfold wpOp;rw[ho];simp only;rcases hcase with⟨hg,hK,hev,hallk⟩|⟨hg,hv,hW,_⟩
  .rw[dB ht (hgd.trans hg)]
   rw[if_pos rfl];refine .inl ?_
   have hops:∀x∈o.op.operands,(run (fs.take i) st).ev x=(dV fs ops.size st (aK listed)).ev x:=by
    intro x hx
    cases x with
    |tmp t=>
     refine(hagT t ?_).symm;simp only[lC,AC,List.mem_append,List.mem_filterMap];exact .inl ⟨.tmp t,by simpa using hx,rfl⟩
    |_=>rfl
   have hres:bu f.K (run (fs.take i) st).h=bu f.K (dV fs ops.size st (aK listed)).h:=by
    funext k
    unfold bu;split
    .rename_i hk;exact(hagH k (by simpa using hk)).symm
    .rfl
   rw[hres]at hev;refine kg.congr hops hev C L _ w a rfl hm ?_ ?_ (λx _=>cD ht x) _ _ (λu w' L' hA hv=>?_)
   .intro k b hk;unfold bu at hk;split at hk
    .exact hk
    .cases hk
   .intro d hd
    unfold bu;rw[if_pos (hK d hd)];refine⟨rfl,?_⟩;have hd9:=hdst;rw[hd]at hd9;simp only[bX,Bool.and_eq_true,decide_eq_true_eq]at hd9;exact hd9.2
   .refine hnext _ _ ?_
    rw[hfd];exact eO.put hm hN hdf ht hdst hA hv
  .rw[dB ht (hgd.trans hg)]
   simp only[Bool.false_eq_true,if_false];refine hnext _ _ ?_;rw[hfd,hv,hW];exact eO.put hm hN hdf ht hdst (W:=[]) (aG.refl hm) (.pv (.val _))
theorem WP.drawF(hmx:C.P.follows .mixedOrders=true)(hslot:iQ ops=true){fs:List Ef}(h1:fs.length=ops.size)(h2:∀(i:Nat) o f,ops[i]?=some o->fs[i]?=some f->lR C.P hn C.N ops o (run (fs.take i) st) f)
 (h3:iw (iP ops.toList []) (fs.map λf=>(f.W.map (·.1),f.K))=true)(h4:Q .normal (run fs st)):WP C (.region id ops true) Q st:=by
 intro a w hs;refine wp_region_any hmx (Fl (fs:=fs) (st:=st) hslot h1 h2 h3 (λa w hs=>⟨_,hs,h4⟩) _ _ _ _ (by simp) ?_ ?_ ?_)
 .refine Nat.le_trans (List.length_filter_le _ _) (by simp)
 .intro i j hd hj
  have hjn:j<ops.size:=by obtain⟨o,ho,_⟩:=hd;exact(Array.getElem?_eq_some_iff.1 ho).1
  unfold aK at hj;rw[Array.getD_eq_getD_getElem?,Array.getElem?_replicate,if_pos hjn]at hj;cases hj
 .have:dV fs ops.size st (aK (Array.replicate ops.size false))=st:=by
   have hf:∀j,j<ops.size->aK (Array.replicate ops.size false) j=false:=by
    intro j hj;unfold aK;rw[Array.getD_eq_getD_getElem?,Array.getElem?_replicate,if_pos hj];rfl
   have hz:∀{V:Type}(wr:Nat->Option V)(x0:V),gv ops.size wr x0 (aK (Array.replicate ops.size false))=x0:=by
    intro V wr x0;rw[dx (ls':=λ_=>false) (λj hj _=>hf j hj)]
    have:∀n,gv n wr x0 (λ_=>false)=x0:=by
     intro n;induction n with
     |zero=>rfl
     |succ n ih=>rw[iZ];simp[ih]
    exact this _
   cases st;unfold dV;simp[hz]
  rw[this];obtain⟨L,hm,hN,hdf,ht⟩:=hs;have hg:=hm.grow (Ext.drew (λ_=>False) w);exact⟨L,hg.1,hN,hdf,λn=>(ht n).mono hg.2 (KC.refl _ _)⟩
theorem WP.draw(hmx:C.P.follows .mixedOrders=true)(hslot:iQ ops=true)
 (h:jB C.P hn C.N ops (λacc st=>iw (iP ops.toList []) acc=true∧Q .normal st) ops.toList [] st):WP C (.region id ops true) Q st:=by
 obtain⟨fs,h1,h2,h3,h4⟩:=qV h;exact WP.drawF (hn:=hn) hmx hslot (by rw[h1];simp) (λi o f ho hf=>h2 i o f (by simpa using ho) hf) (by simpa using h3) h4
theorem WP.drawX(n:Nat)(ho:ops.toList[n]?=some o)(hmx:C.P.follows .mixedOrders=true)(hslot:iQ ops=true)
 (h:jB C.P hn C.N ops (λacc st1=>∃f,lR C.P hn C.N ops o st1 f∧jB C.P hn C.N ops (λacc st=>iw (iP ops.toList []) acc=true∧Q .normal st) (ops.toList.drop (n+1)) (acc++[(f.W.map (·.1),f.K)]) (st1.put f.d f.v f.W)) (ops.toList.take n) [] st):WP C (.region id ops true) Q st:=by
 obtain⟨fs1,a1,a2,f,hf,hrest⟩:=qV h;obtain⟨fs2,b1,b2,b3,b4⟩:=qV hrest;have hlt:=(List.getElem?_eq_some_iff.1 ho).1
 have l1:fs1.length=n:=by rw[a1,List.length_take];omega
 have l2:fs2.length=ops.size-(n+1):=by rw[b1,List.length_drop,Array.length_toList]
 have hsz:ops.toList.length=ops.size:=Array.length_toList
 have hrun:∀i,n+1<=i->run ((fs1++f::fs2).take i) st=run (fs2.take (i-(n+1))) ((run fs1 st).put f.d f.v f.W):=by
  intro i hi;rw[List.take_append,List.take_of_length_le (by omega),l1,show i-n=(i-(n+1))+1 by omega,List.take_succ_cons];simp[run]
 refine WP.drawF (hn:=hn) (fs:=fs1++f::fs2) hmx hslot (by simp;omega) (λi o' f' ho' hf'=>?_) ?_ ?_
 .by_cases h1:i<n
  .rw[List.getElem?_append_left (by omega)]at hf'
   rw[List.take_append_of_le_length (by omega)];exact a2 i o' f' (by rw[List.getElem?_take,if_pos h1];simpa using ho') hf'
  .by_cases h2:i=n
   .subst h2
    rw[List.getElem?_append_right (by omega),l1,Nat.sub_self]at hf';injection hf' with hf';subst hf';rw[<-Array.getElem?_toList,ho]at ho';injection ho' with ho';subst ho';rw[List.take_append_of_le_length (by omega),List.take_of_length_le (by omega)];exact hf
   .rw[List.getElem?_append_right (by omega),l1,show i-n=(i-(n+1))+1 by omega,List.getElem?_cons_succ]at hf'
    rw[hrun i (by omega)];refine b2 (i-(n+1)) o' f' ?_ hf';rw[List.getElem?_drop,show n+1+(i-(n+1))=i by omega];simpa using ho'
 .simpa[List.append_assoc]using b3
 .have:=hrun (fs1++f::fs2).length (by simp;omega)
  rw[List.take_length,List.take_of_length_le (by simp;omega)]at this;rw[this];exact b4
end
@[simp] theorem En{α:Type}(f:Nat->α)(k:Nat)(v:α)(n:Nat):ah f k v n=if n=k then v else f n:=rfl
@[simp] theorem JL(args:List Arg)(n:Nat):Az args n=(match args[n]? with
 |some (.pv p)=>.pv p
 |some (.bx i)=>.ptr (pk i) 0
 |none=>.undef):=rfl
theorem wU(hin:List (List PV))(k:Nat):oX hin k=if k<1000000 then none else(match hin[k-1000000]? with
 |some ps=>some (.box (ps.map .pv) false false)
 |none=>none):=rfl
@[simp] theorem Hf(K:List Nat)(h:Hp)(k:Nat):bu K h k=if K.contains k=true then h k else none:=rfl
@[simp] theorem JG:Ay C y Q .normal st=WP C y Q st:=rfl
@[simp] theorem KL:Ay C y Q .ret st=Q .ret st:=rfl
@[simp] theorem Kf:Ay C y Q (.exit i) st=Q (.exit i) st:=rfl
@[simp] theorem Ib:pR id Q .normal st=Q .normal st:=rfl
@[simp] theorem Kg:pR id Q .ret st=Q .ret st:=rfl
@[simp] theorem JM:pR id Q (.exit i) st=if i=id then Q .normal st else Q (.exit i) st:=rfl
@[simp] theorem Na:Ei P rs hout res .ret st=gZ P rs hout res st:=rfl
@[simp] theorem JN:Ei P rs hout res .normal st=gZ P rs hout res st:=rfl
@[simp] theorem Nx(ks:List Nat)(st:St)(n:Nat):(st.kill ks).t n=aq ks (st.t n):=rfl
@[simp] theorem Ny(ks:List Nat)(st:St)(k:Nat):(st.kill ks).h k=if ks.contains k=true then none else(st.h k).map (bm ks):=rfl
@[simp] theorem KM:uJ true d st F=F true st:=rfl
@[simp] theorem Kh:uJ false d st F=F false st:=rfl
def St.lit(st:St)(d:Nat)(b:Bool):St:=⟨ah st.t d (.pv (.val (.bool b))),st.h⟩
section
variable (P:Program) (hn:List Nat) (N:Nat) (ops:Array Oper) (Q:St->Prop) (o:Oper) (rest:List Oper) (st:St)
def xK(x:Option dm):Prop:=gM x (λe=>cU P hn N ops Q rest (st.put o.dst e.1 e.2))
def xC(g:FuncId)(as:List Arg)(ks:List Nat)(W0:List (Nat×Blk))(hin:List (List PV)):Prop:=vo P g as hin λhout res=>xK P hn N ops Q o rest st (kf st.h o.dst ks W0 hout res)
def Ic(g:FuncId)(as:List Arg)(ks:List Nat)(W0:List (Nat×Blk)):Bool->Option (List (List PV))->Prop
 |false,some hin=>xC P hn N ops Q o rest st g as ks W0 hin
 |_,_=>False
def GG(g:FuncId):Option (List Arg×List Nat×List (Nat×Blk))->Prop
 |some (as,ks,W0)=>Ic P hn N ops Q o rest st g as ks W0 (W0.any λkb=>ks.contains kb.1) (kD st.h ks)
 |none=>False
def AE(args:List AV):Option (FuncId×List AV×List AV)->Prop
 |some (g,first,caps)=>GG P hn N ops Q o rest st g (iu st.h (first++args++caps) [])
 |none=>False
def Ki:AV->Prop
 |.fn (.func g) _ _=>dp P g∧cU P hn N ops Q rest (st.put o.dst .undef [])
 |_=>False
def xN:Bool->Prop
 |true=>C5 (cU P hn N ops Q rest (st.put o.dst (.pv (.val (.bool true))) [])) (cU P hn N ops Q rest (st.put o.dst (.pv (.val (.bool false))) []))
 |false=>xK P hn N ops Q o rest st (du P hn o st.ev st.h)
def xO:Prop:=match o.op with
 |.call c=>match c.callee with
  |.value f=>AE P hn N ops Q o rest st (c.args.toList.map st.ev) (bC (st.ev f))
  |.invoke r name=>AE P hn N ops Q o rest st (c.args.toList.map st.ev) (bC (nI P name (st.ev r)))
  |_=>xK P hn N ops Q o rest st (du P hn o st.ev st.h)
 |.defer c=>match c.callee with
  |.value f=>if c.args.size=0 then Ki P hn N ops Q o rest st (st.ev f)else False
  |_=>False
 |.binOp op t x y _=>xN P hn N ops Q o rest st (lH (st.ev y)&&lc P t&&oC st.h (st.ev x)&&(op==.eql||op==.neq))
 |_=>xK P hn N ops Q o rest st (du P hn o st.ev st.h)
def xB(_:Nat)(want:Bool)(b:Bool):Prop:=if b=want then xO P hn N ops Q o rest st else cU P hn N ops Q rest (st.put o.dst (.pv (.val (.tuple #[]))) [])
def xG:Option (Option (Nat×Bool×Bool))->Prop
 |some none=>xO P hn N ops Q o rest st
 |some (some (d,b,want))=>xB P hn N ops Q o rest st d want b
 |none=>False
end
section
variable {P:Program} {hn:List Nat} {N:Nat} {ops:Array Oper} {Q:St->Prop} {o:Oper} {rest:List Oper} {st:St}
@[simp] theorem KN:xN P hn N ops Q o rest st false=xK P hn N ops Q o rest st (du P hn o st.ev st.h):=rfl
@[simp] theorem Nb:xN P hn N ops Q o rest st true=C5 (cU P hn N ops Q rest (st.put o.dst (.pv (.val (.bool true))) [])) (cU P hn N ops Q rest (st.put o.dst (.pv (.val (.bool false))) [])):=rfl
@[simp] theorem Nz{f c:List AV}:Ki P hn N ops Q o rest st (.fn (.func g) f c)=(dp P g∧cU P hn N ops Q rest (st.put o.dst .undef [])):=rfl
theorem AF{c:AV}:AE P hn N ops Q o rest st args (bC c)=fD P c args o.dst st.h (λe=>cU P hn N ops Q rest (st.put o.dst e.1 e.2)):=by
 unfold fD
 cases bC c with
 |none=>rfl
 |some q=>
  obtain⟨g,first,caps⟩:=q;simp only[AE]
  cases iu st.h (first++args++caps) []with
  |none=>rfl
  |some q=>
   obtain⟨as,ks,W0⟩:=q;simp only[GG]
   cases W0.any λkb=>ks.contains kb.1 with
   |true=>rfl
   |false=>
    cases kD st.h ks with
    |none=>rfl
    |some hin=>rfl
theorem GH:xO P hn N ops Q o rest st=sX P hn o st.ev st.h (λe=>cU P hn N ops Q rest (st.put o.dst e.1 e.2)):=by
 obtain⟨dst,op,ty,pos,aft,gd⟩:=o
 cases op<;>try rfl
 case binOp op t x y t'=>
  simp only[xO,sX];cases lH (st.ev y)&&lc P t&&oC st.h (st.ev x)&&(op==.eql||op==.neq)<;>rfl
 rename_i c;obtain⟨callee,args,ts⟩:=c
 cases callee<;>try rfl
 all_goals first
  |(rename_i f name;show AE P hn N ops Q _ rest st (args.toList.map st.ev) (bC (nI P name (st.ev f)))=fD P (nI P name (st.ev f)) (args.toList.map st.ev) dst st.h _;exact AF)
  |(rename_i f;show AE P hn N ops Q _ rest st (args.toList.map st.ev) (bC (st.ev f))=fD P (st.ev f) (args.toList.map st.ev) dst st.h _;exact AF)
@[simp] theorem Nc:cU P hn N ops Q [] st=Q st:=rfl
@[simp] theorem KO:cU P hn N ops Q (o::rest) st=(bX N o.dst=true∧xG P hn N ops Q o rest st (jP ops st.t o.guard)):=by
 simp only[cU]
 congr 1
 cases hg:jP ops st.t o.guard with
 |none=>rfl
 |some g=>cases g with
  |none=>simp only[xG];rw[GH]
  |some q=>obtain⟨d,b,want⟩:=q;simp only[xG,xB,uJ];rw[GH]
@[simp] theorem Nd:xG P hn N ops Q o rest st (some none)=xO P hn N ops Q o rest st:=rfl
@[simp] theorem Nf:xG P hn N ops Q o rest st (some (some (d,b,want)))=xB P hn N ops Q o rest st d want b:=rfl
@[simp] theorem O4:xB P hn N ops Q o rest st d true true=xO P hn N ops Q o rest st:=rfl
@[simp] theorem O5:xB P hn N ops Q o rest st d false false=xO P hn N ops Q o rest st:=rfl
@[simp] theorem O6:xB P hn N ops Q o rest st d true false=cU P hn N ops Q rest (st.put o.dst (.pv (.val (.tuple #[]))) []):=rfl
@[simp] theorem O7:xB P hn N ops Q o rest st d false true=cU P hn N ops Q rest (st.put o.dst (.pv (.val (.tuple #[]))) []):=rfl
@[simp] theorem Ng{e:dm}:xK P hn N ops Q o rest st (some e)=cU P hn N ops Q rest (st.put o.dst e.1 e.2):=rfl
@[simp] theorem KP:AE P hn N ops Q o rest st args (some (g,first,caps))=GG P hn N ops Q o rest st g (iu st.h (first++args++caps) []):=rfl
@[simp] theorem KQ:GG P hn N ops Q o rest st g (some (as,ks,W0))=Ic P hn N ops Q o rest st g as ks W0 (W0.any λkb=>ks.contains kb.1) (kD st.h ks):=rfl
@[simp] theorem KR:Ic P hn N ops Q o rest st g as ks W0 false (some hin)=xC P hn N ops Q o rest st g as ks W0 hin:=rfl
attribute [simp] xO
theorem bh(h:aa P g as hin hout res)(hx:xK P hn N ops Q o rest st (kf st.h o.dst ks W0 hout res)):
 xC P hn N ops Q o rest st g as ks W0 hin:=⟨hout,res,h,hx⟩
theorem wV(h:st.t d=.pv (.val (.bool b))):st.lit d b=st:=by
 unfold St.lit
 have:ah st.t d (.pv (.val (.bool b)))=st.t:=by
  funext n;simp only[En];split
  .rename_i e;rw[e,h]
  .rfl
 rw[this]
theorem aO(h:st.t d=.pv (.val (.bool b)))(ht:b=true->xB P hn N ops Q o rest (st.lit d true) d want true)(hf:b=false->xB P hn N ops Q o rest (st.lit d false) d want false):
 xB P hn N ops Q o rest st d want b:=by
 cases b with
 |true=>have:=ht rfl;rw[wV h]at this;exact this
 |false=>have:=hf rfl;rw[wV h]at this;exact this
end
section
variable (P:Program) (hn:List Nat) (N:Nat) (ops:Array Oper) (Q:lQ->St->Prop) (o:Oper) (rest:List Oper) (acc:lQ) (st:St) (K:List Nat)
def yK(x:Option dm):Prop:=gM x (λe=>(e.2.all λkb=>K.contains kb.1)=true∧jB P hn N ops Q rest (acc++[(e.2.map (·.1),K)]) (st.put o.dst e.1 e.2))
def yC(g:FuncId)(as:List Arg)(ks:List Nat)(W0:List (Nat×Blk))(hin:List (List PV)):Prop:=vo P g as hin λhout res=>yK P hn N ops Q o rest acc st K (kf (bu K st.h) o.dst ks W0 hout res)
def Id(g:FuncId)(as:List Arg)(ks:List Nat)(W0:List (Nat×Blk)):Bool->Option (List (List PV))->Prop
 |false,some hin=>yC P hn N ops Q o rest acc st K g as ks W0 hin
 |_,_=>False
def GI(g:FuncId):Option (List Arg×List Nat×List (Nat×Blk))->Prop
 |some (as,ks,W0)=>Id P hn N ops Q o rest acc st K g as ks W0 (W0.any λkb=>ks.contains kb.1) (kD (bu K st.h) ks)
 |none=>False
def AG(args:List AV):Option (FuncId×List AV×List AV)->Prop
 |some (g,first,caps)=>GI P hn N ops Q o rest acc st K g (iu (bu K st.h) (first++args++caps) [])
 |none=>False
def yO:Prop:=match o.op with
 |.call c=>match c.callee with
  |.value f=>AG P hn N ops Q o rest acc st K (c.args.toList.map st.ev) (bC (st.ev f))
  |.invoke r name=>AG P hn N ops Q o rest acc st K (c.args.toList.map st.ev) (bC (nI P name (st.ev r)))
  |_=>yK P hn N ops Q o rest acc st K (du P hn o st.ev (bu K st.h))
 |_=>yK P hn N ops Q o rest acc st K (du P hn o st.ev (bu K st.h))
def yB(_:Nat)(want:Bool)(b:Bool):Prop:=if b=want then yO P hn N ops Q o rest acc st (kE o st.ev st.h)else jB P hn N ops Q rest (acc++[([],[])]) (st.put o.dst (.pv (.val (.tuple #[]))) [])
def yG:Option (Option (Nat×Bool×Bool))->Prop
 |some none=>yO P hn N ops Q o rest acc st (kE o st.ev st.h)
 |some (some (d,b,want))=>yB P hn N ops Q o rest acc st d want b
 |none=>False
end
section
variable {P:Program} {hn:List Nat} {N:Nat} {ops:Array Oper} {Q:lQ->St->Prop} {o:Oper} {rest:List Oper} {acc:lQ} {st:St} {K:List Nat}
theorem AH{c:AV}:AG P hn N ops Q o rest acc st K args (bC c)=fD P c args o.dst (bu K st.h) (λe=>(e.2.all λkb=>K.contains kb.1)=true∧jB P hn N ops Q rest (acc++[(e.2.map (·.1),K)]) (st.put o.dst e.1 e.2)):=by
 unfold fD
 cases bC c with
 |none=>rfl
 |some q=>
  obtain⟨g,first,caps⟩:=q;simp only[AG]
  cases iu (bu K st.h) (first++args++caps) []with
  |none=>rfl
  |some q=>
   obtain⟨as,ks,W0⟩:=q;simp only[GI]
   cases W0.any λkb=>ks.contains kb.1 with
   |true=>rfl
   |false=>
    cases kD (bu K st.h) ks with
    |none=>rfl
    |some hin=>rfl
theorem GJ:yO P hn N ops Q o rest acc st K=qR P hn o st.ev (bu K st.h) (λe=>(e.2.all λkb=>K.contains kb.1)=true∧jB P hn N ops Q rest (acc++[(e.2.map (·.1),K)]) (st.put o.dst e.1 e.2)):=by
 obtain⟨dst,op,ty,pos,aft,gd⟩:=o
 cases op<;>try rfl
 rename_i c;obtain⟨callee,args,ts⟩:=c
 cases callee<;>try rfl
 all_goals first
  |(rename_i f name;show AG P hn N ops Q _ rest acc st K (args.toList.map st.ev) (bC (nI P name (st.ev f)))=fD P (nI P name (st.ev f)) (args.toList.map st.ev) dst (bu K st.h) _;exact AH)
  |(rename_i f;show AG P hn N ops Q _ rest acc st K (args.toList.map st.ev) (bC (st.ev f))=fD P (st.ev f) (args.toList.map st.ev) dst (bu K st.h) _;exact AH)
@[simp] theorem Nh:jB P hn N ops Q [] acc st=Q acc st:=rfl
@[simp] theorem KS:jB P hn N ops Q (o::rest) acc st=(bX N o.dst=true∧yG P hn N ops Q o rest acc st (jP ops st.t o.guard)):=by
 simp only[jB]
 congr 1
 cases hg:jP ops st.t o.guard with
 |none=>rfl
 |some g=>cases g with
  |none=>simp only[yG];rw[GJ]
  |some q=>obtain⟨d,b,want⟩:=q;simp only[yG,yB,uJ];rw[GJ]
@[simp] theorem Ni:yG P hn N ops Q o rest acc st (some none)=yO P hn N ops Q o rest acc st (kE o st.ev st.h):=rfl
@[simp] theorem Nj:yG P hn N ops Q o rest acc st (some (some (d,b,want)))=yB P hn N ops Q o rest acc st d want b:=rfl
@[simp] theorem O8:yB P hn N ops Q o rest acc st d true true=yO P hn N ops Q o rest acc st (kE o st.ev st.h):=rfl
@[simp] theorem O9:yB P hn N ops Q o rest acc st d false false=yO P hn N ops Q o rest acc st (kE o st.ev st.h):=rfl
@[simp] theorem Pa:yB P hn N ops Q o rest acc st d true false=jB P hn N ops Q rest (acc++[([],[])]) (st.put o.dst (.pv (.val (.tuple #[]))) []):=rfl
@[simp] theorem Pb:yB P hn N ops Q o rest acc st d false true=jB P hn N ops Q rest (acc++[([],[])]) (st.put o.dst (.pv (.val (.tuple #[]))) []):=rfl
@[simp] theorem Nk{e:dm}:yK P hn N ops Q o rest acc st K (some e)=((e.2.all λkb=>K.contains kb.1)=true∧jB P hn N ops Q rest (acc++[(e.2.map (·.1),K)]) (st.put o.dst e.1 e.2)):=rfl
@[simp] theorem KT:AG P hn N ops Q o rest acc st K args (some (g,first,caps))=GI P hn N ops Q o rest acc st K g (iu (bu K st.h) (first++args++caps) []):=rfl
@[simp] theorem KU:GI P hn N ops Q o rest acc st K g (some (as,ks,W0))=Id P hn N ops Q o rest acc st K g as ks W0 (W0.any λkb=>ks.contains kb.1) (kD (bu K st.h) ks):=rfl
@[simp] theorem KV:Id P hn N ops Q o rest acc st K g as ks W0 false (some hin)=yC P hn N ops Q o rest acc st K g as ks W0 hin:=rfl
attribute [simp] yO
theorem rV(h:aa P g as hin hout res)(hx:yK P hn N ops Q o rest acc st K (kf (bu K st.h) o.dst ks W0 hout res)):
 yC P hn N ops Q o rest acc st K g as ks W0 hin:=⟨hout,res,h,hx⟩
theorem Fm(h:st.t d=.pv (.val (.bool b)))(ht:b=true->yB P hn N ops Q o rest acc (st.lit d true) d want true)(hf:b=false->yB P hn N ops Q o rest acc (st.lit d false) d want false):
 yB P hn N ops Q o rest acc st d want b:=by
 cases b with
 |true=>have:=ht rfl;rw[wV h]at this;exact this
 |false=>have:=hf rfl;rw[wV h]at this;exact this
end
attribute [simp] yd nI
attribute [simp] jN kV vk t8 xZ sV ww ow GC jO rG ya yb ud pP ue zO rJ EI sS oO CZ un Cg GF El ax XV.key
attribute [simp] Ak oD C4
attribute [simp] zQ wD uj uk vm
attribute [simp] wC rO oC lc wE Ai vn Aj
attribute [simp] St.lit bX jP du St.ev St.put ai ge AV.cells PV.cells Value.cells mS sU TK.isAgg eT wv qM fL dF jy
 qO wA oN uf ug lJ bC iu kD iG kf frz qx nH xY mR oP jo CX t7 Ag kI lH nh i8 sT lI ir
 ua cE mT qN rH oA ub oB CY D7 eU rI wx zM wy Ah sW jr kK gZ oY aq bm aQ H7 t6 kE Cf Op.operands Call.operands
section
variable {C:Cx} {Q:Exit->St->Prop} {st:St} {x y:Code} {c:Operand}
def rW(C:Cx)(x y:Code)(Q:Exit->St->Prop)(st:St):AV->Prop
 |.pv (.val (.bool b))=>(b=true->WP C x Q st)∧(b=false->WP C y Q st)
 |_=>False
theorem BY(ht:b=true->WP C x Q st)(hf:b=false->WP C y Q st):rW C x y Q st (.pv (.val (.bool b))):=⟨ht,hf⟩
@[simp] theorem JO:rW C x y Q st (.pv (.val (.bool true)))=WP C x Q st:=by simp[rW]
@[simp] theorem JH:rW C x y Q st (.pv (.val (.bool false)))=WP C y Q st:=by simp[rW]
theorem WP.cond'(h:rW C x y Q st (st.ev c)):WP C (.cond c x y) Q st:=by
 cases hv:st.ev c with
 |pv p=>cases p with
  |val v=>cases v with
   |bool b=>rw[hv]at h;exact WP.cond hv h.1 h.2
   |_=>rw[hv]at h;exact h.elim
  |_=>rw[hv]at h;exact h.elim
 |_=>rw[hv]at h;exact h.elim
end
section
variable {C:Cx} {Q:Exit->St->Prop} {st:St}
def zR(ks:List Nat)(J:St->Prop)(Q:Exit->St->Prop):Exit->St->Prop
 |.normal,st=>J (st.kill ks)
 |e,st=>Q e st
@[simp] theorem Ie{J:St->Prop}:zR ks J Q .normal st=J (st.kill ks):=rfl
@[simp] theorem Kj{J:St->Prop}:zR ks J Q .ret st=Q .ret st:=rfl
@[simp] theorem JP{J:St->Prop}:zR ks J Q (.exit i) st=Q (.exit i) st:=rfl
theorem WP.loopN(ks:List Nat)(N:Nat)(I:Nat->St->Prop)(h₀:I 0 (st.kill ks))
 (round:∀i st,i<=N->I i st->WP C c (zR ks (λst'=>i<N∧I (i+1) st') Q) st):WP C (.loop c) Q st:=by
 classical
 refine WP.loop ks (λst=>∃i,i<=N∧I i st) (λst=>N-(if h:∃i,i<=N∧I i st∧∀j,j<=N->I j st->j<=i then h.choose else 0)) ⟨0,Nat.zero_le _,h₀⟩ ?_;intro st ⟨i₀,hi₀,hI₀⟩
 have hmax:∃i,i<=N∧I i st∧∀j,j<=N->I j st->j<=i:=by
  have:∀d i,N-i<=d->i<=N->I i st->∃i,i<=N∧I i st∧∀j,j<=N->I j st->j<=i:=by
   intro d
   induction d with
   |zero=>intro i hd hi hI;exact⟨i,hi,hI,λj hj _=>by omega⟩
   |succ d ih=>
    intro i hd hi hI;by_cases h:∃j,j<=N∧I j st∧i<j
    .obtain⟨j,hj,hIj,hij⟩:=h;exact ih j (by omega) hj hIj
    .exact⟨i,hi,hI,λj hj hIj=>Nat.le_of_not_lt (λhlt=>h ⟨j,hj,hIj,hlt⟩)⟩
  exact this N i₀ (by omega) hi₀ hI₀
 have hm:=hmax.choose_spec;refine WP.mono (round _ st hm.1 hm.2.1) ?_;intro e st' hq
 cases e with
 |normal=>
  obtain⟨hlt,hI⟩:=hq;refine⟨⟨_,hlt,hI⟩,?_⟩
  have hex:∃i,i<=N∧I i (st'.kill ks)∧∀j,j<=N->I j (st'.kill ks)->j<=i:=by
   have:∀d i,N-i<=d->i<=N->I i (st'.kill ks)->∃i,i<=N∧I i (st'.kill ks)∧∀j,j<=N->I j (st'.kill ks)->j<=i:=by
    intro d
    induction d with
    |zero=>intro i hd hi hI;exact⟨i,hi,hI,λj hj _=>by omega⟩
    |succ d ih=>
     intro i hd hi hI;by_cases h:∃j,j<=N∧I j (st'.kill ks)∧i<j
     .obtain⟨j,hj,hIj,hij⟩:=h;exact ih j (by omega) hj hIj
     .exact⟨i,hi,hI,λj hj hIj=>Nat.le_of_not_lt (λhlt=>h ⟨j,hj,hIj,hlt⟩)⟩
   exact this N _ (by omega) hlt hI
  have h1:=hex.choose_spec.2.2 _ hlt hI;rw[dif_pos hex,dif_pos hmax];omega
 |_=>exact hq
end
attribute [simp] Value.oneCell'
def Arg.isPv:Arg->Bool
 |.pv _=>true
 |.bx _=>false
theorem Hg(hf:P.funcs[f]?=some fn)(hb:fn.body=some c)(hcall:bZ P f=true){args:List Arg}(hlen:args.length<=fn.ntmps)(ha:args.all Arg.isPv=true)
 (h:∀C:Cx,C.P=P->C.N=fn.ntmps->WP C c (Ei P fn.results.toList [] res) (oY args [])):aa P f args [] [] res:=by
 refine qU hf hb hcall hlen rfl (λi j hij=>?_) h;have:=List.all_eq_true.1 ha _ (List.mem_of_getElem? hij);simp[Arg.isPv]at this
@[simp] theorem Nl(hin:List (List PV))(i:Nat):oX hin (pk i)=(hin[i]?).map (λps=>.box (ps.map .pv) false false):=by
 rw[wU,if_neg (by unfold pk;omega),show pk i-1000000=i by unfold pk;omega];cases hin[i]?<;>rfl
@[simp] theorem Kk(hin:List (List PV))(h:k<1000000):oX hin k=none:=by rw[wU,if_pos h]
@[simp] theorem NA(i j:Nat):(pk i=pk j)=(i=j):=by unfold pk;simp
@[simp] theorem Pc(h:n<1000000):(pk i=n)=False:=by unfold pk;simp;omega
@[simp] theorem Pd(h:n<1000000):(n=pk i)=False:=by unfold pk;simp;omega
@[simp] theorem Kl{F:Nat->List PV->Prop}:(∀(i:Nat)(ps:List PV),([]:List (List PV))[i]?=some ps->F i ps)=True:=by simp
@[simp] theorem Km{a:List PV}{F:Nat->List PV->Prop}:(∀(i:Nat)(ps:List PV),[a][i]?=some ps->F i ps)=F 0 a:=by
 refine propext ⟨λh=>h 0 a rfl,λh i ps hi=>?_⟩
 cases i with
 |zero=>simp at hi;subst hi;exact h
 |succ i=>simp at hi
theorem jC:al P Go.program=some P:=rfl
theorem iy{d:TypeDesc}(h:P.underlying t=some d):al P (underlying t)=some d:=by
 unfold underlying;rw[aj,jC,Option.bind_some,h];rfl
theorem y8(d:Nat)(t:TypeId)(xs ys:Array Value)(ht:P.underlying t=some (.struct (P.fieldsOf t)))(hp:P.stoodInHeld t=false):
 al P (Op.equalIn (d+1) t (.agg xs) (.agg ys))=al P (Op.eqFields d xs ys (P.fieldsOf t).toList):=by
 simp only[Op.equalIn,aj,iy ht,Option.bind_some,jC,hp,Bool.false_eq_true,if_false];rw[<-Array.forIn_toList];generalize(P.fieldsOf t).toList=fs;clear ht
 induction fs with
 |nil=>simp[Op.eqFields];rfl
 |cons f fs ih=>
  simp only[List.forIn_cons,Op.eqFields,aj];by_cases hn:f.name≠ "_"
  .rw[if_pos hn,if_pos hn]
   simp only[aj]
   cases al P (part f.type xs f.offset)with
   |none=>rfl
   |some a=>
    simp only[Option.bind_some]
    cases al P (part f.type ys f.offset)with
    |none=>rfl
    |some b=>
     simp only[Option.bind_some]
     cases al P (Op.equalIn d f.type a b)with
     |none=>rfl
     |some r=>
      cases r
      .simp only[Option.bind_some,Bool.not_false,if_true,dA]
      .simp only[Option.bind_some,Bool.not_true,Bool.false_eq_true,if_false,dA]
       exact ih
  .rw[if_neg hn,if_neg hn]
   simp only[dA,Option.bind_some];exact ih
theorem tn(d:Nat)(t:TypeId)(k k':IntKind)(a b:Int)(h:P.underlying t=some (.int k')):al P (Op.equalIn (d+1) t (.int k a) (.int k b))=some (a==b):=by
 simp only[Op.equalIn,aj,iy h,Option.bind_some];rw[if_pos trivial];rfl
theorem uo{f:Field}{fs:List Field}{a b:Value}{r r':Bool}(hn:f.name≠ "_")(ha:al P (part f.type xs f.offset)=some a)(hb:al P (part f.type ys f.offset)=some b)
 (he:al P (Op.equalIn d f.type a b)=some r)(hr:al P (Op.eqFields d xs ys fs)=some r'):al P (Op.eqFields d xs ys (f::fs))=some (r&&r'):=by
 simp only[Op.eqFields];rw[if_pos hn];simp only[aj,ha,hb,he,Option.bind_some];cases r
 .simp;rfl
 .simp[hr]
theorem Eo:al P (Op.eqFields d xs ys [])=some true:=rfl
theorem wW{x y:Operand}(ho:o.op=.binOp .neq t x y t')(hx:ρ x=.pv (.val (.agg xs)))(hy:ρ y=.pv (.val (.agg ys)))
 (hg:P.eqGuardType P.depth t=false)(h:al P (Op.equal t (.agg xs) (.agg ys))=some b):bz P o ρ=some (.pv (.val (.bool !b)),[]):=by
 refine eC (by rw[ho];simp[Op.operands,hx,hy,fl]) ?_;unfold execOp;rw[ho];simp only[(bO hx).2,(bO hy).2]
 have h1:al P (eqGuard .neq t x y (.agg xs) (.agg ys))=some ():=by
  unfold eqGuard;simp only[Bool.not_true,Bool.false_eq_true,if_false,aj,jC,Option.bind_some,hg,Bool.not_false,if_true];rfl
 have h2:al P (binOp .neq t (.agg xs) (.agg ys))=some (.bool !b):=by
  simp only[binOp,aj,h,Option.bind_some];rfl
 simp only[aj,h1,h2,Option.bind_some];rfl
theorem Dg{x y:Operand}(ho:o.op=.binOp .eql t x y t')(hx:ρ x=.pv (.val (.agg xs)))(hy:ρ y=.pv (.val (.agg ys)))
 (hg:P.eqGuardType P.depth t=false)(h:al P (Op.equal t (.agg xs) (.agg ys))=some b):bz P o ρ=some (.pv (.val (.bool b)),[]):=by
 refine eC (by rw[ho];simp[Op.operands,hx,hy,fl]) ?_;unfold execOp;rw[ho];simp only[(bO hx).2,(bO hy).2]
 have h1:al P (eqGuard .eql t x y (.agg xs) (.agg ys))=some ():=by
  unfold eqGuard;simp only[Bool.not_true,Bool.false_eq_true,if_false,aj,jC,Option.bind_some,hg,Bool.not_false,if_true];rfl
 have h2:al P (binOp .eql t (.agg xs) (.agg ys))=some (.bool b):=by
  simp only[binOp,aj,h,Option.bind_some];rfl
 simp only[aj,h1,h2,Option.bind_some];rfl
class Sp(G:Prop)(H:outParam Prop):Prop where
 h:H->G
class Ss(G:Prop)(H:outParam Prop):Prop where
 h:H->G
class Sb(G:Prop)(A B D:outParam Prop):Prop where
 h:A->B->D->G
class Sc(G:Prop)(P:outParam Program)(g:outParam FuncId)(as:outParam (List Arg))(hin:outParam (List (List PV)))(F:outParam (List (List PV)->RV->Prop)):Prop where
 h:∀{hout res},aa P g as hin hout res->F hout res->G
section
variable {C:Cx} {Q:Exit->St->Prop} {st:St} {x y c:Code} {id:Nat} {ops:Array Oper}
instance:Sp (WP C (.seq x y) Q st) (WP C x (Ay C y Q) st):=⟨WP.seq⟩
instance:Sp (WP C (.block id c) Q st) (WP C c (pR id Q) st):=⟨WP.block⟩
instance:Ss (WP C (.region id ops false) Q st) (cU C.P [] C.N ops (Q .normal) ops.toList st):=⟨WP.region⟩
instance{o:Operand}:Ss (WP C (.cond o x y) Q st) (rW C x y Q st (st.ev o)):=⟨WP.cond'⟩
instance:Ss (WP C .skip Q st) (Q .normal st):=⟨WP.skip⟩
instance:Ss (WP C .ret Q st) (Q .ret st):=⟨WP.ret⟩
instance:Ss (WP C (.exit id) Q st) (Q (.exit id) st):=⟨WP.exit⟩
theorem Wh(hn:List Nat)(h:cU C.P hn C.N ops (Q .normal) ops.toList st):WP C (.region id ops false) Q st:=WP.region h
theorem Wi(hn:List Nat)(h:jB C.P hn C.N ops (λacc st=>iw (iP ops.toList []) acc=true∧Q .normal st) ops.toList [] st)(hmx:C.P.follows .mixedOrders=true:=by rw[hP];kernel_rfl)(hslot:iQ ops=true:=by kernel_rfl):WP C (.region id ops true) Q st:=WP.draw hmx hslot h
theorem Wd(h:jB C.P [] C.N ops (λacc st=>iw (iP ops.toList []) acc=true∧Q .normal st) ops.toList [] st)(hmx:C.P.follows .mixedOrders=true:=by rw[hP];kernel_rfl)(hslot:iQ ops=true:=by kernel_rfl):WP C (.region id ops true) Q st:=WP.draw hmx hslot h
end
section
variable {P:Program} {hn:List Nat} {N:Nat} {ops:Array Oper} {o:Oper} {rest:List Oper} {st:St} {d:Nat} {want b:Bool} {g:FuncId} {as:List Arg} {ks:List Nat} {W0:List (Nat×Blk)} {hin:List (List PV)}
instance{Q:St->Prop}:Sb (xB P hn N ops Q o rest st d want b) (st.t d=.pv (.val (.bool b))) (b=true->xB P hn N ops Q o rest (st.lit d true) d want true) (b=false->xB P hn N ops Q o rest (st.lit d false) d want false):=⟨aO⟩
instance{Q:lQ->St->Prop}{acc:lQ}:Sb (yB P hn N ops Q o rest acc st d want b) (st.t d=.pv (.val (.bool b))) (b=true->yB P hn N ops Q o rest acc (st.lit d true) d want true) (b=false->yB P hn N ops Q o rest acc (st.lit d false) d want false):=⟨Fm⟩
instance{Q:St->Prop}:Sc (xC P hn N ops Q o rest st g as ks W0 hin) P g as hin (λhout res=>xK P hn N ops Q o rest st (kf st.h o.dst ks W0 hout res)):=⟨bh⟩
instance{Q:lQ->St->Prop}{acc:lQ}{K:List Nat}:Sc (yC P hn N ops Q o rest acc st K g as ks W0 hin) P g as hin (λhout res=>yK P hn N ops Q o rest acc st K (kf (bu K st.h) o.dst ks W0 hout res)):=⟨rV⟩
end
theorem Xx{p:Prop}(h:False:=by first|(clear hP hN;simp_all;done)|(simp at *;omega)):p:=h.elim
theorem Xy{p:Prop}(h:False:=by simp at hgd;first|done|omega):p:=h.elim
theorem Ya{ts:List Nat}{acc:lQ}{b:Prop}(h:b)(k:iw ts acc=true:=by kernel_rfl):iw ts acc=true∧b:=⟨k,h⟩
theorem Dp(hf:P.funcs[f]?=some fn){args:List Arg}(h:∀C:Cx,C.P=P->C.N=fn.ntmps->WP C c (Ei P fn.results.toList [] res) (oY args []))
 (hb:fn.body=some c:=by rfl)(hcall:bZ P f=true:=by kernel_rfl)(hlen:args.length<=fn.ntmps:=by exact of_decide_eq_true (by kernel_rfl))(ha:args.all Arg.isPv=true:=by rfl):aa P f args [] [] res:=Hg hf hb hcall hlen ha h
abbrev X2:=@aE
abbrev Xd:=@BY
end Go.Ab
