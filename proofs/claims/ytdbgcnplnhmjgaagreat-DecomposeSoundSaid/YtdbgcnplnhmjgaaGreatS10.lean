/- The contracts and facts that the laws of this seat need, in one text (AbI, AbD). -/
import Derived.Test.YtdbgcnplnhmjgaaGreatS9
import Derived.Sort.OwnSortedInts
set_option linter.all false
set_option maxRecDepth 10000
namespace Go.Ab
open Go.Sort
variable {ats:Array TypeId}{e k:Nat}
abbrev pY(zs:List Int):List PV:=zs.map λz=>.val (.int .i64 z)
section
variable {C:Cx} {L:Nat->Loc} {h:Hp} {w:World}
theorem Ff(hm:MemL C L h w){zs:List Int}(hk:h k=some (.row e 1 (pY zs) 0))(hz:zs≠[]):(L k).isNil=false∧∃arr,w.heap[(L k).b]?=some (.cells arr e (0,0))∧arr.size=(L k).cap∧zs.length<=(L k).cap∧(L k).cap<=maxLen∧arr.toList.take zs.length=zs.map (Value.int .i64):=by
 rcases nM hm hk with⟨_,h9⟩|⟨h1,h2,h2',arr,h3,h4,h5⟩
 .exact absurd (List.map_eq_nil_iff.1 h9) hz
 .rw[Lf]at h2
  rw[SJ]at h4;refine⟨h1,arr,h3,h4,h2,h2',?_⟩;apply My;intro i;by_cases hi:i<zs.length
  .rw[List.getElem?_take_of_lt hi,M7]
   obtain⟨u,hu,hr⟩:=h5 i (.val (.int .i64 zs[i])) 0 (.val (.int .i64 zs[i])) (by simp[hi]) (by simp[PV.cells,Value.cells]);rw[SJ,U2]at hu;rw[hu,aY hr];simp[hi]
  .rw[Jr (by rw[MD];omega),Jr (by simp;omega)]
theorem MemL.sorted(hm:MemL C L h w){n:Nat}{os:Array Obj}{zs zs':List Int}(hk:h k=some (.row e 1 (pY zs) 0))(hz:zs≠[])(hl:zs'.length=zs.length):
 aP C L h w L (ai h k (some (.row e 1 (pY zs') 0))) (Sort.grow (putRow (Value.int .i64) (Sort.ahead w n) (L k).b 0 zs'.toArray) os):=by
 obtain⟨hn,arr,h3,h4,h5,h5',h6⟩:=Ff hm hk hz;obtain⟨g1,g2,g3,g4,g5⟩:=grownBy_sortedI (w:=w) (g:=(L k).b) (n:=n) (os:=os) zs'.toArray;have hb:=heap_sortedI (n:=n) (os:=os) zs'.toArray h3
 refine hm.touch hk (λb hlt hne=>g5 b hlt (λe=>hne hn (ME e))) g4 g1 g2 g3 (λo v _ hf _=>by simp[Blk.frz]at hf) (λo hf=>by simp[Blk.frz]at hf)
  ⟨rfl,rfl,by simp[hl],λ_=>rfl⟩ Pp (by have h9:=hm.own k _ hk;exact h9) ⟨Nat.one_pos,Ng _,?_,?_,λ_=>⟨by simp only[Lf];omega,h5',_,hb,?_,?_⟩⟩
 .intro x hx;obtain⟨z,_,rfl⟩:=KB.1 hx;rfl
 .intro h9;rw[hn]at h9;cases h9
 .simp[putCells,h4]
 .intro i x j p hx hj
  simp only[pY,Is,Ii]at hx;obtain⟨z,hz',rfl⟩:=hx;have hi:=(th.1 hz').1
  have hj0:j=0∧p=.val (.int .i64 z):=by
   cases j with
   |zero=>simp[PV.cells,Value.cells]at hj;exact⟨rfl,hj.symm⟩
   |succ j=>simp[PV.cells,Value.cells]at hj
  obtain⟨rfl,rfl⟩:=hj0;refine⟨.int .i64 z,?_,.val _⟩
  have hs:i<arr.size:=by omega
  have hzi:zs'[i]=z:=(th.1 hz').2;simp[putCells,hs,hi,hzi]
end
def Gq(P:Program)(g:FuncId):Prop:=dw P g=true∧∀(blk cap i j:Nat)(zs:List Int)(w:World),Holds (Value.int .i64) w blk 0 zs.toArray->zs.length<=cap->cap<=9223372036854775807->i<=j->j<=zs.length->
 Calls P g #[.slice (some ⟨blk,0,none⟩) zs.length cap,.int .i64 (i:Nat),.int .i64 (j:Nat)] w λe w'=>e=.returned (.slice (some ⟨blk,0,none⟩) (zs.length-(j-i)) cap)∧∃n,w'=putRow (Value.int .i64) (Sort.ahead w n) blk 0 (zs.take i++zs.drop j++List.replicate (j-i) 0).toArray
theorem LS{P:Program}{o:Oper}{f x y z:Operand}{ρ:Operand->AV}{hK:Hp}{g:FuncId}{i j:Nat}{zs:List Int}(hop:o.op=.call {callee:=.value f,args:=#[x,y,z],argTypes:=ats})(hce:cZ (ρ f)=some (g,[],[]))(hd:Gq P g)
 (hx:ρ x=.arr k zs.length)(hy:ρ y=.pv (.val (.int .i64 (i:Nat))))(hz:ρ z=.pv (.val (.int .i64 (j:Nat))))(hk0:hK k=some (.row e 1 (pY zs) 0))(hij:i<j)(hjl:j<=zs.length):
 mh P o ρ hK (.ext (.suf k 0 (zs.length-(j-i)) zs.length)) [(k,.row e 1 (pY (zs.take i++zs.drop j++List.replicate (j-i) 0)) 0)]:=by
 intro C L h w1 a1 hP hm hs hf hρ next Q hnext
 subst hP;obtain⟨hcall,hD⟩:=hd;have hk:=hs _ _ hk0
 have hzne:zs≠[]:=by rintro rfl;simp at hjl;omega
 have rep:∀q,q=f∨q=x∨q=y∨q=z->RepA w1 (af C L h) L h (ρ q) (a1.eval q):=λq hq=>hρ q (by rw[hop];rcases hq with rfl|rfl|rfl|rfl<;>simp[Op.operands,Call.operands]);obtain⟨vs,us,hfv,hv1,hv2⟩:=jv (rep f (.inl rfl)) hce;have hvs:=hv1.nil_inv;have hus:=hv2.nil_inv;subst hvs;subst hus;obtain⟨hnil,arr,h3,h4,h5,h5',h6⟩:=Ff hm hk hzne
 have hxv:a1.eval x=.slice (some ⟨(L k).b,0,none⟩) zs.length (L k).cap:=by
  have hr:=rep x (.inr (.inl rfl));rw[hx]at hr
  cases hr with
  |arr hk2 hn2 hu=>
   rw[hk]at hk2;injection hk2 with hk2;injection hk2 with _ _ a3 _;subst a3;rw[hu (by simp)];unfold Loc.slice;rw[Ik (by rw[hnil];decide)]
 have hyv:a1.eval y=.int .i64 (i:Nat):=by
  have hr:=rep y (.inr (.inr (.inl rfl)));rw[hy]at hr
  cases hr with
  |pv hr=>exact aY hr
 have hzv:a1.eval z=.int .i64 (j:Nat):=by
  have hr:=rep z (.inr (.inr (.inr rfl)));rw[hz]at hr
  cases hr with
  |pv hr=>exact aY hr
 have hcalls:=hD (L k).b (L k).cap i j zs w1 (holds_of_blockI h3 h6) h5 (by simp only[maxLen]at h5';omega) (by omega) hjl
 have hrun:(execOp a1.eval o).run C.P w1=.ok (.enter g #[a1.eval x,a1.eval y,a1.eval z]) w1:=by
  unfold dw at hcall
  cases hfn:C.P.funcs[g]? with
  |none=>rw[hfn]at hcall;cases hcall
  |some fn=>
   rw[hfn]at hcall;simp only[An,Mp,Om,ne_eq]at hcall
   have hb:fn.body.isNone=false:=by cases hbb:fn.body<;>simp_all
   unfold execOp;rw[hop];simp only[resolve,hfv,Deferred.ofValue,pure_bind,Sem.run_bind,Result.andThen_ok,invoke,callFunc,program,Sem.run,hfn];simp[hcall.2,hb]
 unfold Oper.wp;rw[hrun,hxv,hyv,hzv];simp only[Oper.upon];refine hcalls.mono ?_;rintro ee w' ⟨rfl,n,rfl⟩
 have hlen:(zs.take i++zs.drop j++List.replicate (j-i) 0).length=zs.length:=by simp;omega
 have hA:=hm.sorted (n:=n) (os:=#[]) (zs':=zs.take i++zs.drop j++List.replicate (j-i) 0) hk hzne hlen
 have hgrow:∀w:World,Sort.grow w #[]=w:=λw=>by simp[Sort.grow]
 rw[hgrow]at hA;refine hnext _ _ L hA ?_;exact .ext (.suf (e:=e) (sz:=1) (fz:=0) (xs:=pY (zs.take i++zs.drop j++List.replicate (j-i) 0)) ⟨_,_,_,rfl⟩ (by simp[am,ai]) (by omega) (by simp only[Lf];omega) (λ_=>⟨_,_,rfl,.inl ⟨hnil,by simp,by simp⟩⟩))
theorem LT{P:Program}{hn:List Nat}{N:Nat}{ops:Array Oper}{o:Oper}{st:St}{f x y z:Operand}{g:FuncId}{i j:Nat}{zs:List Int}(hop:o.op=.call {callee:=.value f,args:=#[x,y,z],argTypes:=ats})(hg:o.guard=none)(hdd:dD N o.dst=true)(hce:cZ (st.ev f)=some (g,[],[]))(hd:Gq P g)
 (hx:st.ev x=.arr k zs.length)(hy:st.ev y=.pv (.val (.int .i64 (i:Nat))))(hz:st.ev z=.pv (.val (.int .i64 (j:Nat))))(hk0:st.h k=some (.row e 1 (pY zs) 0))(hij:i<j)(hjl:j<=zs.length):
 ot P hn N ops o st ⟨o.dst,.ext (.suf k 0 (zs.length-(j-i)) zs.length),[(k,.row e 1 (pY (zs.take i++zs.drop j++List.replicate (j-i) 0)) 0)],k::o.dst.toList⟩:=by
 refine⟨hdd,rfl,.inl ⟨by simp[gb,hg],λd hd9=>by simp[hd9],?_,by simp⟩⟩;exact LS hop hce hd hx hy hz (by simp[cK,hk0]) hij hjl
theorem WP.cutRow{C:Cx}{c:Code}{Q:Exit->St->Prop}{st:St}(kb j k:Nat){m t sz:Nat}{xs:List PV}{cs:List AV}{own fb:Bool}(hb:st.h kb=some (.box cs own fb))(hj:cs[j]?=some (.ext (.suf k 0 m t)))(hcs:∀(i:Nat) x,cs[i]?=some x->i≠j->bL [k] x=false)
 (hk:st.h k=some (.row e sz xs 0))(hxl:xs.length=t)(hmt:m<=t)
 (h:WP C c Q ⟨λn=>aC [k] (st.t n),λq=>if q=k then some (.row e sz (xs.take m) 0)else if q=kb then some (.box (cs.set j (.arr k m)) own fb)else(st.h q).map (bQ [k])⟩):WP C c Q st:=by
 intro a w hs;obtain⟨L,hm,hN,hdf,htm⟩:=hs
 have hne:kb≠k:=by intro e9;rw[e9,hk]at hb;cases hb
 obtain⟨hm1,hrep⟩:=hm.retake (m:=m) hk
 let h1:Hp:=rekey st.h [k] k (.row e sz (xs.take m) 0)
 let h2:Hp:=λq=>if q=k then some (.row e sz (xs.take m) 0)else if q=kb then some (.box (cs.set j (.arr k m)) own fb)else(st.h q).map (bQ [k])
 have hb1:h1 kb=some (.box (cs.map (aC [k])) own fb):=by simp[h1,rekey,hne,hb]
 have hoth:∀q,q≠kb->h2 q=h1 q:=by
  intro q hq;by_cases e9:q=k
  .simp[h1,h2,rekey,e9]
  .simp[h1,h2,rekey,e9,hq]
 have hkb2:h2 kb=some (.box (cs.set j (.arr k m)) own fb):=by simp[h2,hne]
 have hM:∀b o,af C L h2 b o->af C L h1 b o:=by
  rintro b o (h0|⟨q,b1,hq,hl,hbb,hf⟩)
  .exact .inl h0
  .by_cases e9:q=kb
   .rw[e9,hkb2]at hq;injection hq with hq;subst hq
    rw[e9]at hbb;exact .inr ⟨kb,_,hb1,trivial,hbb,hf⟩
   .rw[hoth q e9]at hq
    exact .inr ⟨q,b1,hq,hl,hbb,hf⟩
 have hp:Pres w (af C L h1) w (af C L h2):=Pres.sub hM
 have hkc:KC L h1 L h2:=by
  intro q b hq;by_cases e9:q=kb
  .rw[e9,hb1]at hq;injection hq with hq;subst hq
   rw[e9];exact⟨_,hkb2,rfl⟩
  .exact⟨b,by rw[hoth q e9];exact hq,dq _ _⟩
 refine h a w ⟨L,⟨hm1.ext,hm1.m0,?_,?_,?_⟩,hN,hdf,λn=>(hrep _ _ (htm n)).mono hp hkc⟩
 .intro q b hq
  have hq:h2 q=some b:=hq;by_cases e9:q=kb
  .rw[e9]at hq
   rw[hkb2]at hq;injection hq with hq;subst hq;rw[e9];obtain⟨arr,ty,e1,e2,e3⟩:=hm.bl kb _ hb;refine⟨arr,ty,e1,by simpa using e2,λi p u hp' hu=>?_⟩;rw[I0]at hp';by_cases ei:j=i
   .subst ei
    rw[IR rfl]at hp';split at hp'
    .injection hp' with hp';subst hp'
     have hv:=e3 j _ u hj hu
     have key:∀u,RepA w (af C L st.h) L st.h (.ext (.suf k 0 m t)) u->u=(L k).slice m:=by
      intro u hu
      cases hu with
      |ext hx=>cases hx with
       |suf _ hk2 hn2 ht2 hu=>
        rw[hk]at hk2;injection hk2 with hk2;injection hk2 with _ _ a3 _;subst a3;obtain⟨A,c9,rfl,h9⟩:=hu hxl;rcases h9 with⟨g1,rfl,g3⟩|⟨rfl,rfl,g3⟩
        .simp only[Loc.slice,g1,IA,JE,VQ]
         rw[show c9=(L k).cap by omega]
        .obtain⟨g4,rfl⟩:=g3 rfl
         simp[Loc.slice,g4]
     rw[key u hv];exact .arr (xs:=xs.take m) (e:=e) (sz:=sz) (fz:=0) (by simp[h2]) (by rw[MD];omega) (λ_=>rfl)
    .cases hp'
   .rw[Ik ei]at hp'
    have hdd:=hcs i p hp' (λe=>ei e.symm);have:=(hrep _ _ (e3 i p u hp' hu)).mono hp hkc;unfold aC at this;rw[Ik (by rw[hdd];decide)]at this;exact this
  .rw[hoth q e9]at hq
   exact(hm1.bl q b hq).mono hp hkc (λ_=>rfl)
 .intro q q' b1 b2 hqq hq hq' hl hl'
  have aux:∀{q b},h2 q=some b->b.live (L q)->∃b0,h1 q=some b0∧b0.live (L q):=by
   intro q b hq hl;by_cases e9:q=kb
   .rw[e9];exact⟨_,hb1,trivial⟩
   .rw[hoth q e9]at hq;exact⟨b,hq,hl⟩
  obtain⟨c1,d1,f1⟩:=aux hq hl;obtain⟨c2,d2,f2⟩:=aux hq' hl';exact hm1.sep q q' c1 c2 hqq d1 d2 f1 f2
 .intro q b hq
  have hq:h2 q=some b:=hq;by_cases e9:q=kb
  .rw[e9]at hq
   rw[hkb2]at hq;injection hq with hq;subst hq;rw[e9];have:=hm1.own kb _ hb1;cases own<;>exact this
  .rw[hoth q e9]at hq
   exact hm1.own q b hq
end Go.Ab
