/- The contracts and facts that the laws of this seat need, in one text (AbI, AbD). -/
import Derived.Test.YtidomjacfogjlaaGreatU9
import Derived.Sort.OwnSortedInts
set_option linter.all false
set_option maxRecDepth 10000
namespace Go.Ab
open IntKind (i64)
open Go.Sort
variable {ats:Array TypeId}{e k:Nat}
abbrev oU(zs:List Int):List PV:=zs.map λz=>.val (.int .i64 z)
section
variable {C:Cx} {L:Nat->Loc} {h:Hp} {w:World}
theorem Es(n:MemL C L h w){zs:List Int}(m:h k=some (.row e 1 (oU zs) 0))(p:zs≠[]):(L k).isNil=false/\∃arr,w.heap[(L k).b]?=some (.cells arr e (0,0))/\arr.size=(L k).cap/\zs.length<=(L k).cap/\(L k).cap<=maxLen/\arr.toList.take zs.length=zs.map (Value.int .i64):=by
 rcases mS n m with⟨_,l⟩|⟨g,c,a,arr,j,d,h5⟩
 .exact absurd (List.map_eq_nil_iff.1 l) p
 .rw[Ux]at c
  rw[VF]at d;refine⟨g,arr,j,d,c,a,?_⟩;apply UI;intro i;by_cases hi:i<zs.length
  .rw[List.getElem?_take_of_lt hi,UQ]
   obtain⟨u,f,o⟩:=h5 i (.val (.int .i64 zs[i])) 0 (.val (.int .i64 zs[i])) (by simp[hi]) (by simp[PV.cells,Value.cells]);rw[VF,Wg]at f;rw[f,aM o];simp[hi]
  .rw[Uc (by rw[UL];omega),Uc (by simp;omega)]
theorem MemL.sorted(s:MemL C L h w){n:Nat}{os:Array Obj}{zs zs':List Int}(q:h k=some (.row e 1 (oU zs) 0))(G:zs≠[])(E:zs'.length=zs.length):
 aI C L h w L (ae h k (some (.row e 1 (oU zs') 0))) (Sort.grow (putRow (Value.int .i64) (Sort.ahead w n) (L k).b 0 zs'.toArray) os):=by
 obtain⟨hn,arr,A,B,h5,f,h6⟩:=Es s q G;obtain⟨g1,g2,g3,g4,g5⟩:=grownBy_sortedI (w:=w) (g:=(L k).b) (n:=n) (os:=os) zs'.toArray;have D:=heap_sortedI (n:=n) (os:=os) zs'.toArray A
 refine s.touch q (λb r u=>g5 b r (λe=>u hn (UM e))) g4 g1 g2 g3 (λo v _ hf _=>by simp[Blk.frz]at hf) (λo hf=>by simp[Blk.frz]at hf)
  ⟨rfl,rfl,by simp[E],λ_=>rfl⟩ Vk (by have c:=s.own k _ q;exact c) ⟨Nat.one_pos,UR _,?_,?_,λ_=>⟨by simp only[Ux];omega,f,_,D,?_,?_⟩⟩
 .intro x d;obtain⟨z,_,rfl⟩:=Ur.1 d;rfl
 .intro c;rw[hn]at c;cases c
 .simp[putCells,B]
 .intro i x j p d l
  simp only[oU,TR,No]at d;obtain⟨z,a,rfl⟩:=d;have hi:=(th.1 a).1
  have m:j=0/\p=.val (.int .i64 z):=by
   cases j with
   |zero=>simp[PV.cells,Value.cells]at l;exact⟨rfl,l.symm⟩
   |succ j=>simp[PV.cells,Value.cells]at l
  obtain⟨rfl,rfl⟩:=m;refine⟨.int .i64 z,?_,.val _⟩
  have F:i<arr.size:=by omega
  have y:zs'[i]=z:=(th.1 a).2;simp[putCells,F,hi,y]
end
def Fu(P:Program)(g:FuncId):Prop:=da P g=true/\∀(a cap i j:Nat)(zs:List Int)(w:World),Holds (Value.int .i64) w a 0 zs.toArray->zs.length<=cap->cap<=9223372036854775807->i<=j->j<=zs.length->
 Calls P g #[.slice (some ⟨a,0,none⟩) zs.length cap,.int .i64 (i:Nat),.int .i64 (j:Nat)] w λe b=>e=.returned (.slice (some ⟨a,0,none⟩) (zs.length-(j-i)) cap)/\∃n,b=putRow (Value.int .i64) (Sort.ahead w n) a 0 (zs.take i++zs.drop j++List.replicate (j-i) 0).toArray
theorem Kz{P:Program}{o:Oper}{f x y z:Operand}{ρ:Operand->AV}{X:Hp}{g:FuncId}{i j:Nat}{zs:List Int}(E:o.op=.call {callee:=.value f,args:=#[x,y,z],argTypes:=ats})(I:bX (ρ f)=some (g,[],[]))(hd:Fu P g)
 (hx:ρ x=.arr k zs.length)(hy:ρ y=.pv (.val (.int .i64 (i:Nat))))(hz:ρ z=.pv (.val (.int .i64 (j:Nat))))(M:X k=some (.row e 1 (oU zs) 0))(ar:i<j)(B:j<=zs.length):
 lG P o ρ X (.ext (.suf k 0 (zs.length-(j-i)) zs.length)) [(k,.row e 1 (oU (zs.take i++zs.drop j++List.replicate (j-i) 0)) 0)]:=by
 intro C L h G p hP Y hs hf hρ next Q A
 subst hP;obtain⟨a,hD⟩:=hd;have K:=hs _ _ M
 have s:zs≠[]:=by rintro rfl;simp at B;omega
 have m:∀q,q=f\/q=x\/q=y\/q=z->RepA G (ab C L h) L h (ρ q) (p.eval q):=λq hq=>hρ q (by rw[E];rcases hq with rfl|rfl|rfl|rfl<;>simp[Op.operands,Call.operands]);obtain⟨vs,us,J,O,R⟩:=iX (m f (.inl rfl)) I;have S:=O.nil_inv;have N:=R.nil_inv;subst S;subst N;obtain⟨r,arr,Z,h4,h5,H,h6⟩:=Es Y K s
 have T:p.eval x=.slice (some ⟨(L k).b,0,none⟩) zs.length (L k).cap:=by
  have c:=m x (.inr (.inl rfl));rw[hx]at c
  cases c with
  |arr l a2 hu=>
   rw[K]at l;injection l with l;injection l with _ _ a3 _;subst a3;rw[hu (by simp)];unfold Loc.slice;rw[TQ (by rw[r];decide)]
 have U:p.eval y=.int .i64 (i:Nat):=by
  have c:=m y (.inr (.inr (.inl rfl)));rw[hy]at c
  cases c with
  |pv c=>exact aM c
 have V:p.eval z=.int .i64 (j:Nat):=by
  have c:=m z (.inr (.inr (.inr rfl)));rw[hz]at c
  cases c with
  |pv c=>exact aM c
 have d:=hD (L k).b (L k).cap i j zs G (holds_of_blockI Z h6) h5 (by simp only[maxLen]at H;omega) (by omega) B
 have F:(execOp p.eval o).run C.P G=.ok (.enter g #[p.eval x,p.eval y,p.eval z]) G:=by
  unfold da at a
  cases u:C.P.funcs[g]? with
  |none=>rw[u]at a;cases a
  |some fn=>
   rw[u]at a;simp only[An,UG,U4,ne_eq]at a
   have hb:fn.body.isNone=false:=by cases ad:fn.body<;>simp_all
   unfold execOp;rw[E];simp only[resolve,J,Deferred.ofValue,pure_bind,Sem.run_bind,Result.andThen_ok,invoke,callFunc,program,Sem.run,u];simp[a.2,hb]
 unfold Oper.wp;rw[F,T,U,V];simp only[Oper.upon];refine d.mono ?_;rintro ee w' ⟨rfl,n,rfl⟩
 have D:(zs.take i++zs.drop j++List.replicate (j-i) 0).length=zs.length:=by simp;omega
 have W:=Y.sorted (n:=n) (os:=#[]) (zs':=zs.take i++zs.drop j++List.replicate (j-i) 0) K s D
 have v:∀w:World,Sort.grow w #[]=w:=λw=>by simp[Sort.grow]
 rw[v]at W;refine A _ _ L W ?_;exact .ext (.suf (e:=e) (sz:=1) (fz:=0) (xs:=oU (zs.take i++zs.drop j++List.replicate (j-i) 0)) ⟨_,_,_,rfl⟩ (by simp[ai,ae]) (by omega) (by simp only[Ux];omega) (λ_=>⟨_,_,rfl,.inl ⟨r,by simp,by simp⟩⟩))
theorem KA{P:Program}{hn:List Nat}{N:Nat}{ops:Array Oper}{o:Oper}{st:St}{f x y z:Operand}{g:FuncId}{i j:Nat}{zs:List Int}(p:o.op=.call {callee:=.value f,args:=#[x,y,z],argTypes:=ats})(q:o.guard=none)(c:dm N o.dst=true)(a:bX (st.ev f)=some (g,[],[]))(hd:Fu P g)
 (r:st.ev x=.arr k zs.length)(s:st.ev y=.pv (.val (.int .i64 (i:Nat))))(u:st.ev z=.pv (.val (.int .i64 (j:Nat))))(n:st.h k=some (.row e 1 (oU zs) 0))(l:i<j)(m:j<=zs.length):
 nE P hn N ops o st ⟨o.dst,.ext (.suf k 0 (zs.length-(j-i)) zs.length),[(k,.row e 1 (oU (zs.take i++zs.drop j++List.replicate (j-i) 0)) 0)],k::o.dst.toList⟩:=by
 refine⟨c,rfl,.inl ⟨by simp[fA,q],λd b=>by simp[b],?_,by simp⟩⟩;exact Kz p a hd r s u (by simp[bQ,n]) l m
theorem WP.cutRow{C:Cx}{c:Code}{Q:Exit->St->Prop}{st:St}(l j k:Nat){m t sz:Nat}{xs:List PV}{cs:List AV}{own fb:Bool}(K:st.h l=some (.box cs own fb))(hj:cs[j]?=some (.ext (.suf k 0 m t)))(N:∀(i:Nat) x,cs[i]?=some x->i≠j->bn [k] x=false)
 (R:st.h k=some (.row e sz xs 0))(W:xs.length=t)(ad:m<=t)
 (h:WP C c Q ⟨λn=>au [k] (st.t n),λq=>if q=k then some (.row e sz (xs.take m) 0)else if q=l then some (.box (cs.set j (.arr k m)) own fb)else(st.h q).map (bw [k])⟩):WP C c Q st:=by
 intro a w hs;obtain⟨L,hm,hN,P,V⟩:=hs
 have J:l≠k:=by intro d;rw[d,R]at K;cases K
 obtain⟨s,D⟩:=hm.retake (m:=m) R
 let y:Hp:=rekey st.h [k] k (.row e sz (xs.take m) 0)
 let v:Hp:=λq=>if q=k then some (.row e sz (xs.take m) 0)else if q=l then some (.box (cs.set j (.arr k m)) own fb)else(st.h q).map (bw [k])
 have z:y l=some (.box (cs.map (au [k])) own fb):=by simp[y,rekey,J,K]
 have g:∀q,q≠l->v q=y q:=by
  intro q hq;by_cases d:q=k
  .simp[y,v,rekey,d]
  .simp[y,v,rekey,d,hq]
 have r:v l=some (.box (cs.set j (.arr k m)) own fb):=by simp[v,J]
 have hM:∀b o,ab C L v b o->ab C L y b o:=by
  rintro b o (h0|⟨q,Y,hq,I,E,hf⟩)
  .exact .inl h0
  .by_cases d:q=l
   .rw[d,r]at hq;injection hq with hq;subst hq
    rw[d]at E;exact .inr ⟨l,_,z,trivial,E,hf⟩
   .rw[g q d]at hq
    exact .inr ⟨q,Y,hq,I,E,hf⟩
 have hp:Pres w (ab C L y) w (ab C L v):=Pres.sub hM
 have F:KC L y L v:=by
  intro q b hq;by_cases d:q=l
  .rw[d,z]at hq;injection hq with hq;subst hq
   rw[d];exact⟨_,r,rfl⟩
  .exact⟨b,by rw[g q d];exact hq,cX _ _⟩
 refine h a w ⟨L,⟨s.ext,s.m0,?_,?_,?_⟩,hN,P,λn=>(D _ _ (V n)).mono hp F⟩
 .intro q b hq
  have hq:v q=some b:=hq;by_cases d:q=l
  .rw[d]at hq
   rw[r]at hq;injection hq with hq;subst hq;rw[d];obtain⟨arr,ty,e1,e2,Z⟩:=hm.bl l _ K;refine⟨arr,ty,e1,by simpa using e2,λi p u f G=>?_⟩;rw[Ub]at f;by_cases M:j=i
   .subst M
    rw[T8 rfl]at f;split at f
    .injection f with f;subst f
     have hv:=Z j _ u hj G
     have key:∀u,RepA w (ab C L st.h) L st.h (.ext (.suf k 0 m t)) u->u=(L k).slice m:=by
      intro u G
      cases G with
      |ext hx=>cases hx with
       |suf _ B ar a1 G=>
        rw[R]at B;injection B with B;injection B with _ _ a3 _;subst a3;obtain⟨A,c9,rfl,h9⟩:=G W;rcases h9 with⟨g1,rfl,g3⟩|⟨rfl,rfl,g3⟩
        .simp only[Loc.slice,g1,T5,Uf,WB]
         rw[show c9=(L k).cap by omega]
        .obtain⟨g4,rfl⟩:=g3 rfl
         simp[Loc.slice,g4]
     rw[key u hv];exact .arr (xs:=xs.take m) (e:=e) (sz:=sz) (fz:=0) (by simp[v]) (by rw[UL];omega) (λ_=>rfl)
    .cases f
   .rw[TQ M]at f
    have O:=N i p f (λe=>M e.symm);have:=(D _ _ (Z i p u f G)).mono hp F;unfold au at this;rw[TQ (by rw[O];decide)]at this;exact this
  .rw[g q d]at hq
   exact(s.bl q b hq).mono hp F (λ_=>rfl)
 .intro q q' Y b2 U hq T I S
  have H:∀{q b},v q=some b->b.live (L q)->∃X,y q=some X/\X.live (L q):=by
   intro q b hq I;by_cases d:q=l
   .rw[d];exact⟨_,z,trivial⟩
   .rw[g q d]at hq;exact⟨b,hq,I⟩
  obtain⟨c1,d1,f1⟩:=H hq I;obtain⟨c2,d2,f2⟩:=H T S;exact s.sep q q' c1 c2 U d1 d2 f1 f2
 .intro q b hq
  have hq:v q=some b:=hq;by_cases d:q=l
  .rw[d]at hq
   rw[r]at hq;injection hq with hq;subst hq;rw[d];have:=s.own l _ z;cases own<;>exact this
  .rw[g q d]at hq
   exact s.own q b hq
end Go.Ab
