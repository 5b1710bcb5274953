/- The contracts and facts that the laws of this seat need, in one text (K12b, K12c, K13, K13b, K13c, Tv, K13d, DeP, DcM, Dc8, K13e, K14, K14b, Dc10, Dc11, AbX). -/
import Derived.Test.YtidomjacfogjlaaGreatU8
set_option linter.all false
set_option maxRecDepth 10000
set_option maxHeartbeats 16000000
namespace Go.Ab
open IntKind (i64)
open Go.Proofs.Tryz
open Go.Proofs
variable {s:Sce}
abbrev rf(a:List aq)(d:Int)(b:List aq)(e:Int)(c:List Vc):List PV:=[.rptr (aB a) 0,.rptr (aB b) 0,.rptr (Z d) 0,.rptr (Z e) 0,.rptr (aG c) 0]
theorem Qg(a:List aq)(d:Int)(b:List aq)(e:Int)(c:List Vc):xF 220 (aB a) (Z d) (aB b) (Z e) (aG c) (.fn (.func 276) [] (rf a d b e c)):=by
 refine Dp func220 λC hP hN=>?_;exact Gy
def ub(a:List aq)(c:Int)(b:List aq)(d:Int):Bool:=ao a&&ao b&&bf c 0 1048576&&bf d 0 1048576
def mG(a:List aq)(c:Int)(b:List aq)(d:Int):Vc:=(ji (aw a) (aw b) (c+d) 64).2.n
def mH(a:List aq)(d:Int)(b:List aq)(e:Int)(c:List Vc):List Vc:=
 if ub a d b e then c.filter aL++((if lN a b then[kv a b]else[])++(ku++(if aL (mG a d b e)then[mG a d b e]else[])))else[]
theorem D3{α:Type}{p:α->Bool}{l:List α}{k:Nat}{v:α}(a:l[k]?=some v):(l.filter p)=(l.take k).filter p++(if p v then[v]else[])++(l.drop (k+1)).filter p:=by
 obtain⟨h,a⟩:=th.1 a
 have e:l=l.take k++v::l.drop (k+1):=by rw[<-a,Vs];exact(UY k l).symm
 conv=>lhs;rw[e]
 rw[VJ,List.filter_cons];split<;>simp
structure CandT(l:Nat)(a:List aq)(ra:Int)(b:List aq)(rb:Int)(hints:List Vc)(t:Nat->AV):Prop where
 g0:t 0=.pv (.val (.func (.yield l) #[] #[]))
 g1:t 1=.pv (.rptr (aB a) 0)
 g2:t 2=.pv (.rptr (aB b) 0)
 g3:t 3=.pv (.rptr (Z ra) 0)
 g4:t 4=.pv (.rptr (Z rb) 0)
 g5:t 5=.pv (.rptr (aG hints) 0)
def zy{P:Program}(E:YEnv P)(a:List aq)(d:Int)(b:List aq)(f:Int)(c:List Vc)(n:Nat):QY:=λe t i s=>match e with
 |.normal=>s=false/\i=n/\CandT E.l a d b f c t
 |.ret=>s=true/\i<E.xs.length
 |_=>False
theorem Qh(a:List aq)(A:Int)(b:List aq)(B:Int)(g:List Vc)(ha:a.length<=9223372036854775807)(hb:b.length<=9223372036854775807)(hl:g.length<=9223372036854775807):BG prog 276 (rf a A b B g) ((mH a A b B g).map am):=by
 refine HO (c:=(f276.body).getD .skip) func276 rfl (by kernel_rfl) rfl (by simp[f276]) ?_;intro E j G;simp only[f276,Uj]at j|-;rw[<-G];have U:CandT E.l a A b B g (tI E.l (rf a A b B g)):=⟨rfl,rfl,rfl,rfl,rfl,rfl⟩;generalize tI E.l (rf a A b B g)=t at *;obtain⟨g0,g1,g2,g3,g4,g5⟩:=U;have hF:=gC;have ca:=uj a ha;have cb:=uj b hb;have Y:=MJ A;have a2:=MJ B
 have K:mH a A b B g=if ub a A b B then g.filter aL++((if lN a b then[kv a b]else[])++(ku++(if aL (mG a A b B)then[mG a A b B]else[])))else[]:=rfl
 have J:ub a A b B=(ao a&&ao b&&bf A 0 1048576&&bf B 0 1048576):=rfl
 cases a1:ub a A b B with
 |false=>
  rw[a1]at K J;simp only[T5,Uf]at K
  have X:E.xs.length=0:=by rw[G,K];rfl
  refine bM.seq ?_;refine bM.walk λC hP hN=>?_;rw[j]at hN;cases M:ao a
  .rw[M]at ca
   refine GV (it g0 g1 g2 g3 g4 g5) ?_
   all_goals exact⟨.inr rfl,by simp[X]⟩
  rw[M]at ca J;cases N:ao b
  .rw[N]at cb
   refine GV (it g0 g1 g2 g3 g4 g5) ?_
   all_goals exact⟨.inr rfl,by simp[X]⟩
  rw[N]at cb J;cases T:bf A 0 1048576
  .rw[T]at Y
   refine GV (it g0 g1 g2 g3 g4 g5) ?_
   all_goals exact⟨.inr rfl,by simp[X]⟩
  rw[T]at Y J
  have V:bf B 0 1048576=false:=by simpa using J.symm
  rw[V]at a2;refine GV (it g0 g1 g2 g3 g4 g5) ?_
  all_goals exact⟨.inr rfl,by simp[X]⟩
 |true=>
 have hk:=a1;rw[J]at hk;simp only[An]at hk;obtain⟨⟨⟨M,N⟩,T⟩,V⟩:=hk;rw[M]at ca;rw[N]at cb;rw[T]at Y;rw[V]at a2;rw[a1]at K;simp only[Ul]at K;rw[K]at G;clear K J;refine bM.seq (bM.mono (Q:=zy E a A b B g 0) ?_ ?_)
 .refine bM.walk λC hP hN=>?_
  rw[j]at hN;refine GV (it g0 g1 g2 g3 g4 g5) ?_
  all_goals exact⟨rfl,rfl,by constructor<;>simp[bC,ae,g0,g1,g2,g3,g4,g5]⟩
 clear g0 g1 g2 g3 g4 g5;rintro e t i s h
 cases e with
 |ret=>exact⟨.inr rfl,by obtain⟨rfl,h⟩:=h;exact h⟩
 |normal=>
  obtain⟨rfl,rfl,U⟩:=h;show bM E _ _ _ _ _;refine bM.seq (bM.mono (Q:=zy E a A b B g (g.filter aL).length) ?_ ?_)
  .obtain⟨g0,g1,g2,g3,g4,g5⟩:=U
   refine bM.seq ?_;refine bM.walk λC hP hN=>?_;rw[j]at hN;refine GV (it g0 g1 g2 g3 g4 g5) ?_;show bM E _ _ _ _ _;refine bM.block ?_;refine bM.loopN g.length (λk t i s=>s=false/\i=((g.take k).filter aL).length/\CandT E.l a A b B g t/\t 32=.pv (aG g)/\t 33=.pv (Z g.length)/\t 34=.pv (Z k)) ?_ ?_
   .refine⟨rfl,rfl,?_,?_⟩
    .constructor<;>simp[bC,ae,g0,g1,g2,g3,g4,g5]
    .simp[bC,ae]
   clear g0 g1 g2 g3 g4 g5;rintro k t i s hk ⟨rfl,rfl,⟨g0,g1,g2,g3,g4,g5⟩,q,r,z⟩;refine bM.blocks λC hP hN=>?_;rw[j]at hN;by_cases o:k<g.length
   .have y:=aj o hl
    generalize u:g[k]=v at *
    have I:g[k]?=some v:=by rw[an o,u]
    have cu:=De v;have a6:=D3 (p:=aL) I
    have W:g.take (k+1)=g.take k++[v]:=by rw[Wj,I];rfl
    refine bW.seq ?_;refine GV (s6 g0 g1 g2 g3 g4 g5 q r z o) ?_;show bW E C _ _ _ _ _;refine bW.seq ?_;refine GV (s6 g0 g1 g2 g3 g4 g5 q r z o) ?_;refine aE.skip ?_;show bW E C _ _ _ _ _;refine bW.seqY (bW.block ?_);refine bW.seq ?_;refine GV (s7 g0 g1 g2 g3 g4 g5 q r z o I u) ?_;show bW E C _ _ _ _ _
    cases O:aL v with
    |true=>
     rw[O]at cu
     have hi:E.xs[((g.take k).filter aL).length]?=some (am v):=by
      rw[G,a6,O];simp
     refine bW.seqY (bW.yield (hn:=[]) (d:=43) (f:=41) (x:=42) (pre:=[_,_,_,_,_]) (post:=[_,_]) rfl (by kernel_rfl) rfl rfl rfl rfl (by rw[j];decide) ?_);rw[j];simp -implicitDefEqProofs (maxSteps:=2000000) [g0,g1,g2,g3,g4,g5,q,r,z,o,I,u];refine ll cu ?_;simp -implicitDefEqProofs (maxSteps:=2000000) [g0,g1,g2,g3,g4,g5,q,r,z,o,I,u,bC];refine⟨by simp[fA,bC,ae],hi,?_,?_⟩
     .show bM E _ _ _ _ _
      refine bM.cond (b:=true) (by simp[bC,ae]) (λ_=>bM.ret ?_) (λh=>by cases h);exact⟨rfl,(th.1 hi).1⟩
     .show bM E _ _ _ _ _
      refine bM.cond (b:=false) (by simp[bC,ae]) (λh=>by cases h) (λ_=>bM.skip ?_);show bM E _ _ _ _ _;clear hP hN;refine bM.walk λC hP hN=>?_;rw[j]at hN
      repeat' (first
       |with_reducible refine aE.seq ?_
       |(with_reducible ((first|refine aE.region hF (hn:=[]) (by kernel_rfl) ?_|refine aE.cond' ?_);simp -implicitDefEqProofs (maxSteps:=2000000) [hP,hN,g0,g1,g2,g3,g4,g5,q,r,z,o,I,u,y,bC]))
       |(with_reducible refine fV (by simp[g0,g1,g2,g3,g4,g5,q,r,z,o,I,u,y,bC]) (λhgd=>?_) (λhgd=>?_)<;>first|(exfalso;simp at hgd;done)|(exfalso;simp at hgd;omega)|simp -implicitDefEqProofs (maxSteps:=2000000) [hP,hN,g0,g1,g2,g3,g4,g5,q,r,z,o,I,u,y,bC])
       |with_reducible refine eK ?_ ?_
       |(with_reducible refine dR (λhcd=>?_) (λhcd=>?_)<;>(try (exfalso;clear hP hN;simp_all;done))<;>(try (exfalso;simp at *;omega)))
       |with_reducible refine aE.block ?_
       |(with_reducible ((first|refine aE.skip ?_|refine aE.exit ?_|refine aE.ret ?_);simp[g0,g1,g2,g3,g4,g5,q,r,z,o,I,u,y,bC])))
      repeat' (refine And.intro ?_ ?_)
      all_goals first|rfl|(rw[W,VJ];simp[O];done)|(simp[O,W,bC,ae,q,r,y];done)|(constructor<;>simp[bC,ae,g0,g1,g2,g3,g4,g5])
    |false=>
     rw[O]at cu;refine bW.walk ?_;refine GV (s7 g0 g1 g2 g3 g4 g5 q r z o I u) ?_;show bM E _ _ _ _ _;clear hP hN;refine bM.walk λC hP hN=>?_;rw[j]at hN
     repeat' (first
      |with_reducible refine aE.seq ?_
      |(with_reducible ((first|refine aE.region hF (hn:=[]) (by kernel_rfl) ?_|refine aE.cond' ?_);simp -implicitDefEqProofs (maxSteps:=2000000) [hP,hN,g0,g1,g2,g3,g4,g5,q,r,z,o,I,u,y,bC]))
      |(with_reducible refine fV (by simp[g0,g1,g2,g3,g4,g5,q,r,z,o,I,u,y,bC]) (λhgd=>?_) (λhgd=>?_)<;>first|(exfalso;simp at hgd;done)|(exfalso;simp at hgd;omega)|simp -implicitDefEqProofs (maxSteps:=2000000) [hP,hN,g0,g1,g2,g3,g4,g5,q,r,z,o,I,u,y,bC])
      |with_reducible refine eK ?_ ?_
      |(with_reducible refine dR (λhcd=>?_) (λhcd=>?_)<;>(try (exfalso;clear hP hN;simp_all;done))<;>(try (exfalso;simp at *;omega)))
      |with_reducible refine aE.block ?_
      |(with_reducible ((first|refine aE.skip ?_|refine aE.exit ?_|refine aE.ret ?_);simp[g0,g1,g2,g3,g4,g5,q,r,z,o,I,u,y,bC])))
     repeat' (refine And.intro ?_ ?_)
     all_goals first|rfl|(rw[W,VJ];simp[O];done)|(simp[O,W,bC,ae,q,r,y];done)|(constructor<;>simp[bC,ae,g0,g1,g2,g3,g4,g5])
   .have ad:k=g.length:=by omega
    subst ad;refine bW.walk ?_;refine GV (s5 g0 g1 g2 g3 g4 g5 q (gA r z)) ?_;exact⟨rfl,rfl,by constructor<;>simp[bC,ae,g0,g1,g2,g3,g4,g5]⟩
  clear U;rintro e t i s h
  cases e with
  |ret=>exact⟨.inr rfl,by obtain⟨rfl,h⟩:=h;exact h⟩
  |normal=>
   obtain⟨rfl,rfl,U⟩:=h;show bM E _ _ _ _ _;generalize S:(g.filter aL).length=n1 at *;refine bM.seq (bM.mono (Q:=zy E a A b B g (n1+(if lN a b then[kv a b]else[]).length)) ?_ ?_)
   .obtain⟨g0,g1,g2,g3,g4,g5⟩:=U
    refine bM.blocks λC hP hN=>?_;rw[j]at hN;have cm:=Qf a b ha hb;refine bW.seq ?_
    cases ar:lN a b with
    |false=>
     rw[ar]at cm;refine GV (it g0 g1 g2 g3 g4 g5) ?_;show bW E C _ _ _ _ _;refine bW.walk ?_;refine GV (it g0 g1 g2 g3 g4 g5) ?_;exact⟨rfl,by simp,by constructor<;>simp[bC,ae,g0,g1,g2,g3,g4,g5]⟩
    |true=>
     rw[ar]at cm
     have hi:E.xs[n1]?=some (am (kv a b)):=by rw[G,ar,<-S];simp
     generalize kv a b=v at *;refine GV (it g0 g1 g2 g3 g4 g5) ?_;show bW E C _ _ _ _ _;refine bW.seqY (bW.yield (hn:=[]) (d:=57) (f:=55) (x:=56) (pre:=[_,_,_,_]) (post:=[_,_]) rfl (by kernel_rfl) rfl rfl rfl rfl (by rw[j];decide) ?_);rw[j];simp -implicitDefEqProofs (maxSteps:=2000000) [g0,g1,g2,g3,g4,g5,bC];refine⟨by simp[fA,bC,ae],hi,?_,?_⟩
     .show bM E _ _ _ _ _
      refine bM.cond (b:=true) (by simp[bC,ae]) (λ_=>bM.ret ?_) (λh=>by cases h);exact⟨rfl,(th.1 hi).1⟩
     .show bM E _ _ _ _ _
      refine bM.cond (b:=false) (by simp[bC,ae]) (λh=>by cases h) (λ_=>bM.skip ?_);exact⟨rfl,rfl,by constructor<;>simp[bC,ae,g0,g1,g2,g3,g4,g5]⟩
   clear U;rintro e t i s h
   cases e with
   |ret=>exact⟨.inr rfl,by obtain⟨rfl,h⟩:=h;exact h⟩
   |normal=>
    obtain⟨rfl,rfl,U⟩:=h;show bM E _ _ _ _ _;generalize bc:(if lN a b then[kv a b]else[])=ml at *;generalize a5:n1+ml.length=n2 at *;refine bM.seq (bM.mono (Q:=zy E a A b B g (n2+6)) ?_ ?_)
    .obtain⟨g0,g1,g2,g3,g4,g5⟩:=U
     have a8:=Qe;refine bM.seq ?_;refine bM.walk λC hP hN=>?_;rw[j]at hN;refine GV (it g0 g1 g2 g3 g4 g5) ?_;show bM E _ _ _ _ _;refine bM.block ?_;refine bM.loopN 6 (λk t i s=>s=false/\i=n2+k/\CandT E.l a A b B g t/\t 60=.pv (aG ku)/\t 61=.pv (Z 6)/\t 62=.pv (Z k)) ?_ ?_
     .refine⟨rfl,rfl,?_,?_⟩
      .constructor<;>simp[bC,ae,g0,g1,g2,g3,g4,g5]
      .simp[bC,ae]
     clear g0 g1 g2 g3 g4 g5;rintro k t i s hk ⟨rfl,rfl,⟨g0,g1,g2,g3,g4,g5⟩,D,F,H⟩;refine bM.blocks λC hP hN=>?_;rw[j]at hN;by_cases o:k<6
     .have y:i64.wrap ((k:Int)+1)=(k:Int)+1:=aa
      have P:(k:Int)<6:=by omega
      have L:k<ku.length:=o;generalize u:ku[k]=v at *
      have I:ku[k]?=some v:=by rw[an L,u]
      have hi:E.xs[n2+k]?=some (am v):=by
       rw[G,<-a5,<-S,TR,T7 (by omega),T7 (by omega),show(g.filter aL).length+ml.length+k-(g.filter aL).length-ml.length=k by omega,T4 L,I];rfl
      generalize ku=AX at *;refine bW.seq ?_;refine GV (s6 g0 g1 g2 g3 g4 g5 D F H (gA o P)) ?_;show bW E C _ _ _ _ _;refine bW.seq ?_;refine GV (s6 g0 g1 g2 g3 g4 g5 D F H (gA o P)) ?_;refine aE.skip ?_;show bW E C _ _ _ _ _;refine bW.seqY (bW.block ?_);refine bW.seq ?_;refine GV (s7 g0 g1 g2 g3 g4 g5 D F H o P (be L I u)) ?_;show bW E C _ _ _ _ _;refine bW.seqY (bW.yield (hn:=[]) (d:=68) (f:=66) (x:=67) (pre:=[_,_]) (post:=[_]) rfl (by kernel_rfl) rfl rfl rfl rfl (by rw[j];decide) ?_);rw[j];simp -implicitDefEqProofs (maxSteps:=2000000) [g0,g1,g2,g3,g4,g5,D,F,H,L,I,u,bC];refine⟨by simp[fA,bC,ae],hi,?_,?_⟩
      .show bM E _ _ _ _ _
       refine bM.cond (b:=true) (by simp[bC,ae]) (λ_=>bM.ret ?_) (λh=>by cases h);exact⟨rfl,(th.1 hi).1⟩
      .show bM E _ _ _ _ _
       refine bM.cond (b:=false) (by simp[bC,ae]) (λh=>by cases h) (λ_=>bM.skip ?_);show bM E _ _ _ _ _;clear hP hN;refine bM.walk λC hP hN=>?_;rw[j]at hN
       repeat' (first
        |with_reducible refine aE.seq ?_
        |(with_reducible ((first|refine aE.region hF (hn:=[]) (by kernel_rfl) ?_|refine aE.cond' ?_);simp -implicitDefEqProofs (maxSteps:=2000000) [hP,hN,g0,g1,g2,g3,g4,g5,D,F,H,y,bC]))
        |(with_reducible refine fV (by simp[g0,g1,g2,g3,g4,g5,D,F,H,y,bC]) (λhgd=>?_) (λhgd=>?_)<;>first|(exfalso;simp at hgd;done)|(exfalso;simp at hgd;omega)|simp -implicitDefEqProofs (maxSteps:=2000000) [hP,hN,g0,g1,g2,g3,g4,g5,D,F,H,y,bC])
        |with_reducible refine eK ?_ ?_
        |(with_reducible refine dR (λhcd=>?_) (λhcd=>?_)<;>(try (exfalso;clear hP hN;simp_all;done))<;>(try (exfalso;simp at *;omega)))
        |with_reducible refine aE.block ?_
        |(with_reducible ((first|refine aE.skip ?_|refine aE.exit ?_|refine aE.ret ?_);simp[g0,g1,g2,g3,g4,g5,D,F,H,y,bC])))
       repeat' (refine And.intro ?_ ?_)
       all_goals first|rfl|(simp[bC,ae,D,F,y];done)|(constructor<;>simp[bC,ae,g0,g1,g2,g3,g4,g5])
     .have ad:k=6:=by omega
      subst ad;refine bW.walk ?_;refine GV (s5 g0 g1 g2 g3 g4 g5 D (gA F H)) ?_;exact⟨rfl,rfl,by constructor<;>simp[bC,ae,g0,g1,g2,g3,g4,g5]⟩
    clear U;rintro e t i s h
    cases e with
    |ret=>exact⟨.inr rfl,by obtain⟨rfl,h⟩:=h;exact h⟩
    |normal=>
     obtain⟨rfl,rfl,⟨g0,g1,g2,g3,g4,g5⟩⟩:=h;show bM E _ _ _ _ _;refine bM.blocks λC hP hN=>?_;rw[j]at hN;have c1:=Ax a ha;have c2:=Ax b hb;have ba:=(bR M).2.1;have bb:=(bR N).2.1;have a9:=gg M;have J:=gg N;simp only[bf,An,L4]at T V;have hw:i64.wrap (A+B)=A+B:=aa;have c3:=Mt (aw a) (aw b) (A+B) 64 (by omega) (by omega);have a7:(ji (aw a) (aw b) (A+B) 64).2.n=mG a A b B:=rfl;generalize ji (aw a) (aw b) (A+B) 64=R at *;rw[<-a7]at G;refine bW.draw (hn:=[]) (by kernel_rfl) (by kernel_rfl) ?_;rw[j];simp -implicitDefEqProofs (maxSteps:=2000000) [g0,g1,g2,g3,g4,g5];refine tK c1 ?_;simp -implicitDefEqProofs (maxSteps:=2000000) [g0,g1,g2,g3,g4,g5];refine tK c2 ?_;simp -implicitDefEqProofs (maxSteps:=2000000) [g0,g1,g2,g3,g4,g5,hw];refine tK c3 ?_;simp -implicitDefEqProofs (maxSteps:=2000000) [g0,g1,g2,g3,g4,g5,hw];refine⟨by kernel_rfl,?_⟩;have cu:=De R.2.n;refine bW.seq ?_
     cases O:aL R.2.n with
     |false=>
      rw[O]at cu
      have hL:n2+6=E.xs.length:=by
       rw[G,O,Ux,Um,Um,Um,S];simp only[T5,Uf,VE,V8];omega
      refine GV (it g0 g1 g2 g3 g4 g5) ?_;show bW E C _ _ _ _ _;refine bW.walk ?_;refine GV (it g0 g1 g2 g3 g4 g5) ?_
      all_goals exact hL
     |true=>
      rw[O]at cu
      have hL:n2+6+1=E.xs.length:=by
       rw[G,O,Ux,Um,Um,Um,S];simp only[Ul,VE,V8];omega
      have hi:E.xs[n2+6]?=some (am R.2.n):=by
       rw[G,O,<-a5,<-S,TR,T7 (by omega),T7 (by omega),show(g.filter aL).length+ml.length+6-(g.filter aL).length-ml.length=6 by omega,T7 (by decide)];rfl
      refine GV (it g0 g1 g2 g3 g4 g5) ?_;show bW E C _ _ _ _ _;refine bW.cond (m:=81) (b:=true) (by simp) (λ_=>?_) (λh=>by cases h);refine bW.yield (hn:=[]) (d:=85) (f:=82) (x:=84) (pre:=[_,_,_]) (post:=[]) rfl (by kernel_rfl) rfl rfl rfl rfl (by rw[j];decide) ?_;rw[j];simp -implicitDefEqProofs (maxSteps:=2000000) [g0,g1,g2,g3,g4,g5,bC];exact⟨rfl,hi,by omega,hL⟩
    |_=>exact h.elim
   |_=>exact h.elim
  |_=>exact h.elim
 |_=>exact h.elim
set_option maxRecDepth 100000 in
theorem FR:wu prog 219:=by
 refine⟨by kernel_rfl,λn args w=>?_⟩;refine callsDIn_of_wpSIn func219 rfl trivial λf i g=>?_;apply wpSIn_seq;apply wpSIn_region
 have a:∀k,k<f219.ntmps->k<args.size+(f219.ntmps-args.size):=by intro k h;omega
 rw[ntmps219]at a;have b:=a 0 (by decide);have c:=a 1 (by decide);have d:=a 2 (by decide);have e:=a 3 (by decide);simp[wpOpsSIn,go_sem,recoverD,g,ntmps219,Exit.thenS,b,c,d,e];refine wpSIn_cond (t:=false) (by simp[Act.eval,b,c,d,e]) ?_;simp only[T5,Uf];refine wpSIn_of_wpIn rfl (wpIn_skip ?_);cases f
 simp_all[bodyPostS,results,results219]
def mI(a:List aq)(d:Int)(b:List aq)(e:Int)(c:List Vc):Vc×Bool:=match(mH a d b e c).find? (λn=>kc n a d b e)with
 |some n=>(n,true)
 |none=>((0,0,0),false)
theorem Hk{α:Type}{p:α->Bool}{l:List α}(h:∀j x,j<l.length->l[j]?=some x->p x=false):l.find? p=none:=by
 rw[Vb];intro x b;obtain⟨j,a,rfl⟩:=Vn.1 b;rw[h j _ a (an a)];simp
theorem vw{α:Type}{p:α->Bool}:∀{l:List α}{i:Nat}{v:α},l[i]?=some v->p v=true->(∀j x,j<i->l[j]?=some x->p x=false)->l.find? p=some v
 |[],i,v,h,_,_=>by simp at h
 |y::l,0,v,h,hp,_=>by simp at h;subst h;simp[hp]
 |y::l,i+1,v,h,hp,hq=>by
  have a:=hq 0 y (by omega) rfl;rw[List.find?_cons,a];exact vw (by simpa using h) hp λj x c b=>hq (j+1) x (by omega) (by simpa using b)
abbrev FS:List Nat:=[5,6,7,8,10,11]
abbrev N7(a:List aq)(c:Int)(b:List aq)(d:Int):Nat->List PV:=λk=>if k=5 then[aB a]else if k=6 then[Z c]else if k=7 then[aB b]else if k=8 then[Z d]else if k=10 then[Z 0,Z 0,Z 0]else[B false]
structure FindI(a:List aq)(ra:Int)(b:List aq)(rb:Int)(n:Vc)(k:Bool)(h:Hp):Prop where
 h5:h 5=some (.box [.pv (aB a)] false false)
 h6:h 6=some (.box [.pv (Z ra)] false false)
 h7:h 7=some (.box [.pv (aB b)] false false)
 h8:h 8=some (.box [.pv (Z rb)] false false)
 h10:h 10=some (.box [.pv (Z n.1),.pv (Z n.2.1),.pv (Z n.2.2)] false false)
 h11:h 11=some (.box [.pv (B k)] false false)
theorem FindI.all{a:List aq}{e:Int}{b:List aq}{f:Int}{n:Vc}{k:Bool}{h:Hp}(H:FindI a e b f n k h){j:Nat}(c:j∈FS):∃d,h j=some (.box d false false):=by
 simp only[Ut,Uz,UX]at c;rcases c with rfl|rfl|rfl|rfl|rfl|rfl
 .exact⟨_,H.h5⟩
 .exact⟨_,H.h6⟩
 .exact⟨_,H.h7⟩
 .exact⟨_,H.h8⟩
 .exact⟨_,H.h10⟩
 .exact⟨_,H.h11⟩
def Kb(a:List aq)(d:Int)(b:List aq)(e:Int)(c:List Vc)(i:Nat):Prop:=∀j x,j<i->c[j]?=some x->kc x a d b e=false
def N8(a:List aq)(c:Int)(b:List aq)(d:Int)(e:List Vc)(i:Nat)(h:Hp):Prop:=∃n,e[i]?=some n/\kc n a c b d=true/\FindI a c b d n true h/\Kb a c b d e i
set_option maxRecDepth 100000 in
theorem Qi(a:List aq)(q:Int)(b:List aq)(r:Int)(c:List Vc)(V:a.length<=9223372036854775807)(W:b.length<=9223372036854775807)(hl:c.length<=9223372036854775807):aP prog 156 [.pv (aB a),.pv (Z q),.pv (aB b),.pv (Z r),.pv (aG c)] [] [] (.pv (.tup [am (mI a q b r c).1,B (mI a q b r c).2])):=by
 have F:mI a q b r c=match(mH a q b r c).find? (λn=>kc n a q b r)with
  |some n=>(n,true)
  |none=>((0,0,0),false):=rfl
 have hit:=Qh a q b r c V W hl;generalize mH a q b r c=L at *;refine Er (args:=[aB a,Z q,aB b,Z r,aG c]) func156 rfl (by kernel_rfl) (by simp[f156]) ?_;intro C hP hN H;simp only[f156]at hN|-;have hF:=gC;refine n7.seq H ?_;refine GV trivial ?_;refine n7.defer (pre:=[_]) (hn:=[]) (g:=219) rfl (λo Y c' R=>by simp at Y;subst Y;cases R) rfl rfl rfl rfl rfl (by rw[hP];exact FR) ?_;simp -implicitDefEqProofs [hP,hN];refine n7.rangeS (kd:=[12]) H (gf:=276) (caps:=rf a q b r c) (xs:=L.map am) (by rw[hP];exact hit) (by rw[hN];decide) (ks:=FS) (hin:=N7 a q b r) (t:=λm=>if m∈FS then .ptr m 0 else .undef) ?_ (λi h=>FindI a q b r (0,0,0) false h/\h 12=none/\Kb a q b r L i) (λi h=>N8 a q b r L i h) ?_ ?_ ?_ ?_ (by kernel_rfl) (hn:=[]) ?_ ?_
 .skip
  have q1:=Qg a q b r c;refine GV trivial ?_;refine⟨⟨rfl,rfl,rfl,rfl,rfl,rfl⟩,λm=>?_⟩;by_cases X:m=5\/m=6\/m=7\/m=8\/m=10\/m=11
  .rcases X with rfl|rfl|rfl|rfl|rfl|rfl<;>simp
  .simp only[TQ X];simp
   omega
 .refine⟨by constructor<;>rfl,rfl,λj x hj=>by omega⟩
 .rintro i h k S ⟨hi,_⟩
  exact hi.all S
 .rintro i h k S ⟨n,_,_,hi,_⟩
  exact hi.all S
 .intro C1 C2 l i x h P N Q O K ⟨hI,p,hq⟩
  rw[TR,No]at K;obtain⟨v,K,rfl⟩:=K;have hF:=ze l;have J:=hP;have I:=hN;clear hP hN;have hP:=P.trans J;have hN:=N.trans I;have u:=Q.trans J;have s:=O.trans I;obtain⟨y,z,A,D,d,f⟩:=hI;have M:=Rm v a q b r V W
  cases G:kc v a q b r with
  |true=>
   rw[G]at M
   repeat' (first
    |with_reducible refine aE.seq ?_
    |(with_reducible ((first|refine aE.region hF (hn:=[]) (by kernel_rfl) ?_|refine ll (M) ?_|refine aE.cond' ?_);simp -implicitDefEqProofs (maxSteps:=2000000) [hP,hN,u,s,mz,y,z,A,D,d,f,p]))
    |(with_reducible refine fV (by simp[u,s,mz,y,z,A,D,d,f,p]) (λhgd=>?_) (λhgd=>?_)<;>first|(exfalso;simp at hgd;done)|(exfalso;simp at hgd;omega)|simp -implicitDefEqProofs (maxSteps:=2000000) [hP,hN,u,s,mz,y,z,A,D,d,f,p])
    |with_reducible refine eK ?_ ?_
    |(with_reducible refine dR (λhcd=>?_) (λhcd=>?_)<;>(try (exfalso;clear hP hN;simp_all;done))<;>(try (exfalso;simp at *;omega)))
    |with_reducible refine aE.block ?_
    |(with_reducible ((first|refine aE.skip ?_|refine aE.exit ?_|refine aE.ret ?_);simp[u,s,mz,y,z,A,D,d,f,p])))
   exact⟨v,K,G,by constructor<;>simp[y,z,A,D,d,f],hq⟩
  |false=>
   rw[G]at M
   repeat' (first
    |with_reducible refine aE.seq ?_
    |(with_reducible ((first|refine aE.region hF (hn:=[]) (by kernel_rfl) ?_|refine ll (M) ?_|refine aE.cond' ?_);simp -implicitDefEqProofs (maxSteps:=2000000) [hP,hN,u,s,mz,y,z,A,D,d,f,p]))
    |(with_reducible refine fV (by simp[u,s,mz,y,z,A,D,d,f,p]) (λhgd=>?_) (λhgd=>?_)<;>first|(exfalso;simp at hgd;done)|(exfalso;simp at hgd;omega)|simp -implicitDefEqProofs (maxSteps:=2000000) [hP,hN,u,s,mz,y,z,A,D,d,f,p])
    |with_reducible refine eK ?_ ?_
    |(with_reducible refine dR (λhcd=>?_) (λhcd=>?_)<;>(try (exfalso;clear hP hN;simp_all;done))<;>(try (exfalso;simp at *;omega)))
    |with_reducible refine aE.block ?_
    |(with_reducible ((first|refine aE.skip ?_|refine aE.exit ?_|refine aE.ret ?_);simp[u,s,mz,y,z,A,D,d,f,p])))
   refine⟨by constructor<;>simp[St.kill,bw,au,y,z,A,D,d,f],by simp[St.kill],λj x hj E=>?_⟩;by_cases e:j=i
   .subst e;rw[K]at E;injection E with E;subst E;exact G
   .exact hq j x (by omega) E
 .rintro h ⟨⟨y,z,A,D,d,f⟩,p,hq⟩
  rw[Ux]at hq;have hn:L.find? (λn=>kc n a q b r)=none:=Hk hq;rw[hn]at F;rw[F];simp -implicitDefEqProofs [hP,hN,y,z,A,D,d,f]
 .rintro i h hi ⟨n,T,U,⟨y,z,A,D,d,f⟩,hq⟩
  rw[vw T U hq]at F;rw[F];simp -implicitDefEqProofs [hP,hN,y,z,A,D,d,f]
abbrev FT(SH:List Sh)(a:List (Nat×Nat))(PT:List (List aq)):PV:=.agg [.sl (SH.map cE),.sl (a.map qh),.sl (PT.map aB)]
abbrev N9(a b:List aq)(c d:Int):PV:=.agg [aB a,aB b,Z c,Z d]
def dM(PT:List (List aq))(i:Nat):List aq:=(PT[i]?).getD []
def dw(SH:List Sh)(i:Nat):Int:=((SH[i]?).map Sh.rad).getD 0
structure BdOk(SH:List Sh)(PR:List (Nat×Nat))(PT:List (List aq)):Prop where
 len:PT.length=SH.length
 prs:∀p∈PR,p.1<SH.length/\p.2<SH.length
 zl:SH.length<=24
 few:PR.length<=576
 pts:∀l∈PT,l.length<=8
theorem Qj(SH:List Sh)(d:List (Nat×Nat))(PT:List (List aq))(m:BdOk SH d PT)(k:Nat)(p:Nat×Nat)(hp:d[k]?=some p):aK 155 (FT SH d PT) (Z k) (N9 (dM PT p.1) (dM PT p.2) (dw SH p.1) (dw SH p.2)):=by
 obtain⟨s,f⟩:=th.1 hp;obtain⟨i,j⟩:=p;have hpr:=m.prs _ (Is hp);simp only at hpr;have I:=m.len;have A:∀h,d[k]'h=(i,j):=λ_=>f
 have E:i<PT.length:=by omega
 have F:j<PT.length:=by omega
 obtain⟨a,e⟩:∃x,PT[i]?=some x:=⟨_,an E⟩;obtain⟨b,c⟩:∃x,PT[j]?=some x:=⟨_,an F⟩;obtain⟨u,g⟩:∃x,SH[i]?=some x:=⟨_,an hpr.1⟩;obtain⟨v,l⟩:∃x,SH[j]?=some x:=⟨_,an hpr.2⟩
 have y:∀h,PT[i]'h=a:=λh=>by rw[an h]at e;exact UM e
 have z:∀h,PT[j]'h=b:=λh=>by rw[an h]at c;exact UM c
 have B:∀h,SH[i]'h=u:=λh=>by rw[an h]at g;exact UM g
 have D:∀h,SH[j]'h=v:=λh=>by rw[an h]at l;exact UM l
 have n:dM PT i=a:=by simp[dM,e]
 have o:dM PT j=b:=by simp[dM,c]
 have q:dw SH i=u.rad:=by simp[dw,g]
 have r:dw SH j=v.rad:=by simp[dw,l]
 rw[n,o,q,r];obtain⟨G,H⟩:=hpr;refine Dp func155 λC hP hN=>?_;exact Gy
def iY(s:Sce)(bx:List Iv):Bool:=decide (bi s=0)&&j8 s.js bx
theorem FU{p:Nat×Nat}(h:p∈eE s):p.1<p.2/\p.2<s.shs.length/\gq s p.1 p.2=true:=by
 have b:∀i k,k<=s.shs.length->p∈kW s i k->p.1<p.2/\p.2<s.shs.length/\gq s p.1 p.2=true:=by
  intro i k
  induction k with
  |zero=>intro _ h;cases h
  |succ k ih=>
   intro c h;rw[kW,Ui]at h;rcases h with h|h
   .exact ih (by omega) h
   .split at h
    .rename_i a
     rw[UC]at h;subst h;exact⟨a.1,by omega,a.2⟩
    .cases h
 have hN:∀i,p∈jH s i->p.1<p.2/\p.2<s.shs.length/\gq s p.1 p.2=true:=by
  intro i
  induction i with
  |zero=>intro h;cases h
  |succ i ih=>
   intro h;rw[jH,Ui]at h;rcases h with h|h
   .exact ih h
   .exact b i _ (Ua _) h
 unfold eE at h;split at h
 .exact hN _ h
 .cases h
theorem FV{bx:List Iv}(h:iY s bx=true):BdOk s.shs (eE s) (gB s bx):=by
 simp only[iY,An,L4]at h;obtain⟨e,f,v3,v4,g,c,i⟩:=nc h.1;have a:=wK s s.shs.length;have d:s.shs.length*s.shs.length<=24*24:=Vm v4 v4;refine⟨by simp[gB],λp hp=>?_,v4,?_,λl a=>?_⟩
 .have:=FU hp;omega
 .unfold eE;rw[T8 h.1];omega
 .obtain⟨x,b,rfl⟩:=Ur.1 a
  have:=(c x b).2;simp only[gp,An,L4]at this;simp only[eF,Ux];omega
def Kc(bx:List Iv)(i:Nat):Prop:=∀k x,k<i->bx[k]?=some x->vI x=true
theorem Qk(s:Sce)(bx:List Iv)(l:ScL s)(D:bx.length<=9223372036854775807):aK 154 (eM s) (iv bx) (.tup (if iY s bx then[FT s.shs (eE s) (gB s bx),B true]else[FT [] [] [],B false])):=by
 have hd:iY s bx=(decide (bi s=0)&&(decide (bx.length=s.js.length)&&bx.all vI)):=rfl;have cc:=ET s l;have K:=l.js;by_cases e:bi s=0
 case neg=>
  have r:(bi s !=0)=true:=by simp[e]
  rw[U2 e,UE]at hd;rw[hd];refine Dp func154 λC hP hN=>?_;exact Gy
 have r:(bi s !=0)=false:=by simp[e]
 by_cases f:bx.length=s.js.length
 case neg=>
  have u:((bx.length:Int)!=(s.js.length:Int))=true:=by simp;omega
  have I:¬(bx.length:Int)=(s.js.length:Int):=by omega
  rw[U2 f,UE,Vo]at hd;rw[hd];refine Dp func154 λC hP hN=>?_;exact Gy
 have u:((bx.length:Int)!=(s.js.length:Int))=false:=by simp[f]
 have J:j8 s.js bx=bx.all vI:=by
  show(decide (bx.length=s.js.length)&&bx.all vI)=_;rw[UD f,Uq]
 rw[UD e,UD f,Uq,Uq]at hd;rw[hd];have m:=Q5 s bx l e;rw[J]at m;have cR:=Q0 s l;generalize gB s bx=M at *;generalize eE s=L at *;refine Dp func154 λC hP hN=>?_;refine Gz ?_;refine WP.loopN [7] bx.length (λi b=>b.t 1=.pv (iv bx)/\b.t 2=.ptr 2 0/\b.h 2=some (.box [.pv (.sl (s.js.map bu)),.pv (.sl (s.ms.map cG)),.pv (.sl (s.shs.map cE)),.pv (.sl (s.sks.map aC))] true false)/\b.t 4=.ptr 4 0/\b.h 4=some (.box [.pv (.val (.slice none 0 0)),.pv (.val (.slice none 0 0)),.pv (.val (.slice none 0 0))] true false)/\b.t 21=.pv (iv bx)/\b.t 22=.pv (Z bx.length)/\b.t 23=.pv (Z i)/\b.h 7=none/\Kc bx i) ?_ ?_
 .simp[f]
  exact λk x N=>by omega
 rintro i b hi ⟨g1,g2,y,g4,z,n,o,q,A,hq⟩;by_cases c:i<bx.length
 .have G:=aj c D
  generalize j:bx[i]=v at *
  have H:bx[i]?=some v:=by rw[an c,j]
  have cv:=jM v.1 v.2;have jI:vI v=az v.1 v.2:=rfl;have F:=mO (p:=vI) H hq
  cases d:az v.1 v.2 with
  |true=>
   rw[d]at cv;have g:Kc bx (i+1):=F d;refine GT (s7 g1 g2 y g4 z n o q A c H (gA j G)) ?_
   all_goals exact g
  |false=>
   rw[d]at cv
   have a:bx.all vI=false:=by
    cases h:bx.all vI with
    |false=>rfl
    |true=>rw[TP]at h;have:=h v (Is H);rw[jI,d]at this;cases this
   rw[a];exact Gy
 .have E:i=bx.length:=by omega
  subst E;have a:bx.all vI=true:=oI hq c;have m:=m a;rw[a];exact Gy
def vA(SH:List Sh)(PT:List (List aq))(x y:List Int)(p:Nat×Nat):Bool:=nN x y (dM PT p.1) (dw SH p.1) (dM PT p.2) (dw SH p.2)&&decide (0<=lq x y (dM PT p.1) (dw SH p.1) (dM PT p.2) (dw SH p.2))
structure Wit where
 pair:Int
 a:List Int
 b:List Int
abbrev Oa(w:Wit):PV:=.agg [Z w.pair,zs w.a,zs w.b]
set_option maxRecDepth 100000 in
@[simp] theorem Ql:ew prog 153:=by
 have hf:=func153;have nt:=ntmps153;have rs:=results153;exact GQ
set_option maxRecDepth 100000 in
@[simp] theorem Qm:ew prog 119:=by
 have hf:=func119;have nt:=ntmps119;have rs:=results119;exact GQ
@[simp] theorem TO:sK prog 240=true/\sK prog 188=true/\tB prog 240 "armplan/classify.holds" =some 418/\tB prog 188 "armplan/classify.holds" =some 417:=by repeat' (first|kernel_rfl|refine ⟨by kernel_rfl,?_⟩)
structure Vd where
 kind:Int
 ns:List Vc
 w:Wit
abbrev zz(v:Vd):PV:=.agg [Z v.kind,aG v.ns,Z v.w.pair,zs v.w.a,zs v.w.b]
abbrev Ob(ns:List Vc):PV:=.ifc 240 (.agg [aG ns])
abbrev Oc(w:Wit):PV:=.ifc 188 (Oa w)
theorem vS(ns:List Vc):aR 160 (Ob ns) (zz ⟨1,ns,⟨0,[],[]⟩⟩):=by
 refine Dp func160 λC hP hN=>?_;exact Gy
theorem vC(w:Wit):aR 160 (Oc w) (zz ⟨2,[],w⟩):=by
 refine Dp func160 λC hP hN=>?_;exact Gy
def cy(v:Vd):Verd:=⟨v.kind,v.ns,v.w.pair,v.w.a,v.w.b⟩
def j6(a:List Vc)(k:Nat):List Vc:=(a.drop k).take 1
def vB(SH:List Sh)(PT:List (List aq))(a:List Vc)(k:Nat)(p:Nat×Nat):Vc×Bool:=mI (dM PT p.1) (dw SH p.1) (dM PT p.2) (dw SH p.2) (j6 a k)
def vD(SH:List Sh)(PT:List (List aq))(p:Nat×Nat):Int×NSt:=ji (aw (dM PT p.1)) (aw (dM PT p.2)) (dw SH p.1+dw SH p.2) 64
def fL(SH:List Sh)(b:List (Nat×Nat))(PT:List (List aq))(a:List Vc):List Vc:=b.mapIdx λk p=>(vB SH PT a k p).1
def kw(SH:List Sh)(b:List (Nat×Nat))(PT:List (List aq))(a:List Vc):Nat->Nat->Bool->Vd
 |0,_,c=>if c then⟨1,fL SH b PT a,⟨0,[],[]⟩⟩else⟨0,fL SH b PT a,⟨0,[],[]⟩⟩
 |f+1,k,c=>match b[k]? with
  |some p=>if(vB SH PT a k p).2=true then kw SH b PT a f (k+1) c
   else if vA SH PT (vD SH PT p).2.w (vD SH PT p).2.v p=true then⟨2,[],⟨k,(vD SH PT p).2.w,(vD SH PT p).2.v⟩⟩
   else kw SH b PT a f (k+1) false
  |none=>if c then⟨1,fL SH b PT a,⟨0,[],[]⟩⟩else⟨0,fL SH b PT a,⟨0,[],[]⟩⟩
def dI(s:Sce)(bx:List Iv)(a:List Vc):Vd:=if iY s bx then kw s.shs (eE s) (gB s bx) a (eE s).length 0 true else⟨0,[],⟨0,[],[]⟩⟩
theorem EN{bx:List Iv}(h:iY s bx=true)(i:Nat):0<=dw s.shs i/\dw s.shs i<=1048576:=by
 simp only[iY,An,L4]at h;obtain⟨_,_,_,_,_,b,_⟩:=nc h.1;unfold dw
 cases a:s.shs[i]? with
 |none=>simp
 |some u=>
  have:=(b u (Is a)).2;simp only[gp,An,L4]at this;simp only[UO,Uj];omega
theorem nQ{l:List aq}(h:l.length<=8):(aw l).length<=8:=by unfold aw;split<;>simp<;>omega
theorem ud{SH:List Sh}{a:List (Nat×Nat)}{PT:List (List aq)}(b:BdOk SH a PT)(i:Nat):(dM PT i).length<=8:=by
 unfold dM
 cases h:PT[i]? with
 |none=>simp
 |some l=>exact b.pts l (Is h)
theorem KX{a:List aq}{c:Int}{b:List aq}{d:Int}{h:List Vc}(hf:(mI a c b d h).2=false):(mI a c b d h).1=(0,0,0):=by
 unfold mI at hf|-;split
 .rename_i n e;rw[e]at hf;cases hf
 .rfl
theorem vE(a b:List Vc)(rho st:Int):(ji a b rho st).2.w.length<=8/\(ji a b rho st).2.v.length<=8:=by
 unfold ji;split
 .rename_i h
  simp only[qg,An]at h;have c:=jP.1 h.1.1.1;have d:=jP.1 h.1.1.2;have:=t8 (rho:=rho) (steps:=st.toNat) h.1.1.1 h.1.1.2 (st.toNat+1) (rV a b) (CT c.1 d.1);rw[this.wl,this.vl];exact⟨c.2.1,d.2.1⟩
 .simp
theorem Aq(l:List Vc):(l.map am).all (pN 3)=true:=by
 rw[TP];intro x a;obtain⟨v,_,rfl⟩:=Ur.1 a;rfl
theorem CU(a:List Vc)(i:Nat)(z:Option Value)(e n:Nat)(y:Option Value):lE {size:=n,zero:=z,kind:=TK.slice e 3 24 y} (.pv (aG a)) (some (.pv (.val (.int .i64 (if a.length<i then(a.length:Int)else(i:Int)))))) (some (.pv (.val (.int .i64 (min ((i:Int)+1) (a.length:Int))))))=some (.pv (aG (j6 a i))):=by
 have b:0<=(if a.length<i then(a.length:Int)else(i:Int)):=by split<;>omega
 have c:0<=min ((i:Int)+1) (a.length:Int):=by omega
 have d:(if a.length<i then(a.length:Int)else(i:Int)).toNat=min i a.length:=by split<;>omega
 have f:(min ((i:Int)+1) (a.length:Int)).toNat=min (i+1) a.length:=by omega
 simp only[lE,T8 b,T8 c,d,f,Ux];rw[T8 ⟨by omega,by omega,by decide,Aq a⟩]
 congr 3
 rw[<-List.map_take,<-WL]
 congr 1
 unfold j6;by_cases h:i<a.length
 .rw[show min i a.length=i by omega,show min (i+1) a.length=i+1 by omega,List.drop_take,show i+1-i=1 by omega]
 .rw[show min i a.length=a.length by omega,show min (i+1) a.length=a.length by omega,VW,List.drop_length,Wn (by omega)];rfl
theorem Mv(s:Sce)(bx:List Iv)(a:List Vc)(hs:ScL s)(a5:bx.length<=9223372036854775807)(hh:a.length<=9223372036854775807):kY 84 (eM s) (iv bx) (aG a) (zz (dI s bx a)):=by
 have cp:=Qk s bx hs a5
 have hd:dI s bx a=if iY s bx then kw s.shs (eE s) (gB s bx) a (eE s).length 0 true else⟨0,[],⟨0,[],[]⟩⟩:=rfl
 cases hp:iY s bx with
 |false=>
  rw[hp]at cp hd;simp only[T5,Uf]at hd;rw[hd];refine Dp func84 λC hP hN=>?_;exact Gy
 |true=>
 rw[hp]at cp hd;simp only[Ul]at hd;have hb:=FV hp;have V:=EN hp;rw[hd];generalize eE s=f at *;generalize gB s bx=d at *;generalize s.shs=c at *;have bc:=hb.few;generalize b:kw c f d a f.length 0 true=ad at *;generalize u:(fL c f d a).map am=N
 have Q:N.length=f.length:=by rw[<-u];simp[fL]
 have T:∀k p,f[k]?=some p->N[k]?=some (am (vB c d a k p).1):=λk q O=>by rw[<-u,fL,TR,List.getElem?_mapIdx,O];rfl
 refine Dp func84 λC hP hN=>?_;refine GT (gA (show(24:Int)*(f.length:Int)<=281474976710656 by omega) (show(f.length:Int)<=9223372036854775807 by omega)) ?_;refine WP.loopN [12,14,16] f.length (λi n=>∃R:List PV,∃P:Bool,kw c f d a (f.length-i) i P=ad/\n.t 2=.pv (aG a)/\n.t 6=.ptr 6 0/\n.h 6=some (.box [.pv (Z 0),.pv (.val (.slice none 0 0)),.pv (Z 0),.pv (.val (.slice none 0 0)),.pv (.val (.slice none 0 0))] true false)/\n.t 7=.ptr 7 0/\n.h 7=some (.box [.pv (.sl (c.map cE)),.pv (.sl (f.map qh)),.pv (.sl (d.map aB))] true false)/\n.t 9=.arr 30 f.length/\n.t 10=.pv (B P)/\n.t 33=.pv (Z f.length)/\n.t 34=.pv (Z i)/\n.h 12=none/\n.h 14=none/\n.h 16=none/\n.h 30=some (.row 84 3 R 0)/\R.length=f.length/\(∀k,i<=k->k<f.length->R[k]?=some (nK 0 0 0))/\∀k,k<i->R[k]?=N[k]?) ?_ ?_
 .refine⟨List.replicate f.length (nK 0 0 0),true,b,?_⟩
  simp
  try (intro k O;first|exact O|simp[Uv,O])
 rintro i n hi ⟨R,P,b,g2,W,G,X,H,Y,A,D,E,j,l,m,g,z,J,hR⟩;by_cases o:i<f.length
 .have L:=aj o (by omega)
  obtain⟨p,hp⟩:∃p,f[i]?=some p:=⟨_,an o⟩;have x:=J i (Ua _) o;have K:=pt x
  have a7:i<R.length:=by omega
  have cc:=Qj c f d hb i p hp;have r1:=V p.1;have r2:=V p.2;have l1:=ud hb p.1;have l2:=ud hb p.2;have cf:=Qi (dM d p.1) (dw c p.1) (dM d p.2) (dw c p.2) (j6 a i) (by omega) (by omega) (by simp[j6];omega);have a6:vB c d a i p=mI (dM d p.1) (dw c p.1) (dM d p.2) (dw c p.2) (j6 a i):=rfl;rw[<-a6]at cf;rw[show f.length-i=(f.length-i-1)+1 by omega]at b;simp only[kw,hp]at b;have S:=T i p hp
  have k2:∀k,k<i+1->(R.set i (am (vB c d a i p).1))[k]?=N[k]?:=λk h1=>by
   rw[Ub];by_cases e:i=k
   .subst e;rw[T8 rfl,T8 a7,S]
   .rw[TQ e];exact hR k (by omega)
  have k1:∀y k,i+1<=k->k<f.length->(R.set i y)[k]?=some (nK 0 0 0):=λy k h1 h2=>by
   rw[Ub,TQ (by omega)];exact J k (by omega) h2
  have M:(vB c d a i p).2=false->∀k,k<i+1->R[k]?=N[k]?:=λhf k h1=>by
   by_cases e:k=i
   .subst e;rw[x,S]
    have:(vB c d a k p).1=(0,0,0):=KX hf;rw[this]
   .exact hR k (by omega)
  have bb:∀k,i+1<=k->k<f.length->R[k]?=some (nK 0 0 0):=λk h1 h2=>J k (by omega) h2;generalize vB c d a i p=F at *;clear T u Q
  cases I:F.2 with
  |true=>
   rw[I]at cf b;simp only[Ul]at b;refine GT (zAa g2 W G X H Y A D E j l m g z (go o L x K @CU)) ?_;rw[show f.length-i-1=f.length-(i+1) by omega]at b;refine⟨R.set i (am F.1),?_⟩;cases P
   .exact .inl ⟨b,rfl,rfl,by simp[z],k1 _,k2⟩
   .exact .inr ⟨b,rfl,rfl,by simp[z],k1 _,k2⟩
  |false=>
   rw[I]at cf b;simp only[T5,Uf]at b;have M:=M I;have c1:=Ax (dM d p.1) (by omega);have c2:=Ax (dM d p.2) (by omega);have z1:=nQ l1;have z2:=nQ l2;have c3:=Mt (aw (dM d p.1)) (aw (dM d p.2)) (dw c p.1+dw c p.2) 64 (by omega) (by omega);have a1:vD c d p=ji (aw (dM d p.1)) (aw (dM d p.2)) (dw c p.1+dw c p.2) 64:=rfl;have a9:=vE (aw (dM d p.1)) (aw (dM d p.2)) (dw c p.1+dw c p.2) 64;rw[<-a1]at c3 a9;have hw:i64.wrap (dw c p.1+dw c p.2)=dw c p.1+dw c p.2:=aa;generalize vD c d p=r at *;have co:=P6 r.2.w r.2.v (dM d p.1) (dw c p.1) (dM d p.2) (dw c p.2) (by omega) (by omega) (by omega) (by omega);have ba:vA c d r.2.w r.2.v p=(nN r.2.w r.2.v (dM d p.1) (dw c p.1) (dM d p.2) (dw c p.2)&&decide (0<=lq r.2.w r.2.v (dM d p.1) (dw c p.1) (dM d p.2) (dw c p.2))):=rfl;rw[<-ba]at co
   cases U:vA c d r.2.w r.2.v p with
   |true=>
    rw[U]at co b;simp only[Ul]at b;subst b;have cv:=vC ⟨i,r.2.w,r.2.v⟩;exact GS (zAa g2 W G X H Y A D E j l m g z (it o L x K @CU hw))
   |false=>
    rw[U]at co b;simp only[T5,Uf]at b;rw[show f.length-i-1=f.length-(i+1) by omega]at b;refine GT (zAa g2 W G X H Y A D E j l m g z (it o L x K @CU hw)) ?_;exact⟨b,bb,M⟩
 .have a8:i=f.length:=by omega
  subst a8
  have a2:R=N:=by
   apply UI;intro k;by_cases O:k<f.length
   .exact hR k O
   .rw[Uc (by omega),Uc (by omega)]
  subst a2;rw[VV]at b;simp only[kw]at b;have cv:=vS (fL c f d a)
  have ar:(fL c f d a).length=f.length:=by simp[fL]
  cases P with
  |true=>
   simp only[Ul]at b;subst b;rw[<-u]at g;exact GS (zAa g2 W G X H Y A D E j l m g Q ar)
  |false=>
   simp only[T5,Uf]at b;subst b;rw[<-u]at g;exact Gy
theorem CM(js:List J)(b:Bx):∀i,(jN js b i).1=-1\/∃j:Nat,(jN js b i).1=(j:Int)/\j<i/\∃x,b[j]?=some x/\2<=eR x
 |0=>.inl rfl
 |i+1=>by
  have ih:=CM js b i;have up:(∃j:Nat,(jN js b i).1=(j:Int)/\j<i/\∃x,b[j]?=some x/\2<=eR x)->∃j:Nat,(jN js b i).1=(j:Int)/\j<i+1/\∃x,b[j]?=some x/\2<=eR x:=λ⟨j,a,c,d⟩=>⟨j,a,by omega,d⟩;simp only[jN];split
  .rename_i e x a c
   split
   .rename_i h;exact .inr ⟨i,rfl,by omega,x,c,h.1⟩
   .exact ih.imp id up
  .exact ih.imp id up
theorem He{x:Int×Int}(h:az x.1 x.2=true):eR x=x.2-x.1:=by
 have:=gW.1 h;rw[eR,h];simp only[Ul];exact aa (by omega) (by omega)
theorem IJ(js:List J)(ms:List Ms)(b:Bx):og js ms b=-1\/∃j:Nat,og js ms b=(j:Int)/\j<b.length/\b.length=js.length/\bT vI b=true/\∃x,b[j]?=some x/\2<=x.2-x.1:=by
 unfold og;split
 .rename_i h
  simp only[zg,An,L4]at h;rcases CM js b js.length with e|⟨j,d,g,x,a,c⟩
  .exact .inl e
  .have f:az x.1 x.2=true:=gR.1 h.1.2 _ (Is a)
   rw[He f]at c;exact .inr ⟨j,d,by omega,h.1.1,h.1.2,x,a,c⟩
 .exact .inl rfl
def zv(js:List J)(ms:List Ms)(w:Int)(b:Bx):Bool:=decide (0<=og js ms b)&&match b[(og js ms b).toNat]? with
 |some x=>decide (w<x.2-x.1)
 |none=>false
def pm(s:Sce)(t:Tr)(i:Int):Bool:=decide (bi s=0)&&dn t i&&io s.js s.ms (bO t i)
def su(s:Sce)(t:Tr)(i:Int):Verd:=cy (dI s (bO t i) (lV t i.toNat).nor)
def gU(s:Sce)(t:Tr)(i:Int):Bool:=pm s t i&&aV t i (su s t i)
def gE(s:Sce)(t:Tr)(i:Int):Tr:=if pm s t i then bP t i (su s t i)else t
def oa(s:Sce)(t:Tr)(i j:Int):Tr:=gE s (cL t i j) t.cells.length
def vq(s:Sce)(t:Tr)(i j:Int):Bool:=bU t i j&&gU s (cL t i j) t.cells.length&&gU s (oa s t i j) (t.cells.length+1)
def vr(s:Sce)(t:Tr)(i j:Int):Tr:=if vq s t i j then gE s (oa s t i j) (t.cells.length+1)else t
section
variable {n:Nat} {may may' has:Nat->Bool} {tch:Nat->Nat->Bool} (h:∀i,i<n->may i=may' i)
include h
end
def ss(js:List J)(ms:List Ms)(w:Int)(b:Bx):Int:=if zv js ms w b then og js ms b else -1
theorem Mf{js:List J}{ms:List Ms}{w:Int}{b:Bx}(h:og js ms b=-1):zv js ms w b=false:=by simp[zv,h]
theorem KT{js:List J}{ms:List Ms}{w:Int}{b:Bx}{j:Nat}{x:Int×Int}(h:og js ms b=(j:Int))(c:b[j]?=some x):zv js ms w b=decide (w<x.2-x.1):=by
 have a:(0:Int)<=(j:Int):=by omega
 unfold zv;rw[h,Uk,c,UD a,Uq]
theorem OI(js:List J)(ms:List Ms)(b:Bx)(w:Int)(d:js.length<=9223372036854775807)(f:ms.length<=9223372036854775807)(c:b.length<=9223372036854775807):kY 81 (iN js ms) (iv b) (Z w) (Z (ss js ms w b)):=by
 have i:=Pn js ms b d f c;rcases IJ js ms b with a|⟨j,a,k,_,n,x,g,p⟩
 .have e:ss js ms w b=-1:=by unfold ss;rw[Mf a];rfl
  rw[e];rw[a]at i;refine Dp func81 λC hP hN=>?_;exact Gy
 .have e:ss js ms w b=if w<x.2-x.1 then(j:Int)else -1:=by
   unfold ss;rw[KT a g,a];by_cases h:w<x.2-x.1<;>simp[h]
  rw[e];rw[a]at i;have r:∀h,b[j]'h=x:=λh=>ip g h;have o:=gW.1 (gR.1 n _ (Is g));have q:i64.wrap (x.2-x.1)=x.2-x.1:=aa
  have m:¬(j:Int)=-1:=by omega
  by_cases h:w<x.2-x.1
  .have l:¬x.2-x.1<=w:=by omega
   rw[T8 h];refine Dp func81 λC hP hN=>?_;exact Gy
  .have l:x.2-x.1<=w:=by omega
   rw[TQ h];refine Dp func81 λC hP hN=>?_;exact Gy
theorem FW(x:Int):0<=x*x:=by
 rcases Wo 0 x with h|h
 .exact U1 h h
 .have:=U1 (show 0<=-x by omega) (show 0<=-x by omega)
  rw[Int.neg_mul_neg]at this;exact this
def Kd(l:List Int)(m:Nat)(c:Vc):Vc:=(wr (c.1+wr (wr (nx l m 7-3)*32768)),wr (c.2.1+wr (wr (nx l (nn l m) 5-2)*32768)),wr (c.2.2+wr (wr (nx l (nn l (nn l m)) 5-2)*32768)))
def pQ(l:List Int)(m:Nat):Nat->Nat
 |0=>m
 |i+1=>nn l (nn l (nn l (pQ l m i)))
theorem CV(l:List Int)(m:Nat):∀i,pQ l m i<=m+3*i
 |0=>Ua _
 |i+1=>by
  have h:=CV l m i;have a:=bt l (pQ l m i);have b:=bt l (nn l (pQ l m i));have c:=bt l (nn l (nn l (pQ l m i)));simp only[pQ];omega
def zC(l:List Int)(m:Nat)(c:Vc)(k:Nat):List Vc:=c::(List.range k).map λi=>Kd l (pQ l m i) c
theorem IR(l:List Int)(m:Nat)(c:Vc)(k:Nat):(zC l m c (k+1)).map am=(zC l m c k).map am++[am (Kd l (pQ l m k) c)]:=by simp[zC,Vq]
theorem EO(l:List Int)(m:Nat)(c:Vc)(k:Nat):(zC l m c k).length=k+1:=by simp[zC]
def oc(l:List Int)(n:Nat):Nat:=(nx l n 4).toNat
def vF(l:List Int)(n:Nat)(c:Vc):List Vc:=zC l (nn l n) c (oc l n)
def Bd(l:List Int)(n:Nat):Nat:=pQ l (nn l n) (oc l n)
theorem OK(l:List Int)(n:Nat)(c:Vc)(hn:n<100000):aP prog 36 [.bx 0,.pv (am c)] [gD l n] [gD l (Bd l n)] (.pv (aG (vF l n c))):=by
 have y:=aQ l n (k:=4) (by decide) (by decide)
 have q:nx l n 4=((oc l n:Nat):Int):=by unfold oc;omega
 have r:oc l n<4:=by unfold oc;omega
 have s:=bt l n;refine mV func36 rfl (by kernel_rfl) (by simp[f36]) rfl (by intro i j h;rcases i with _|_|_|i<;>simp_all) ?_;intro C hP hN;simp only[f36]at hN|-
 with_reducible repeat' (first|refine Sp.h ?_|((first|refine Wh [8] ?_|refine Wi [8] ?_|refine Ss.h ?_|refine Sc.h (iE l n 4 (by decide) (by omega)) ?_|(refine Sb.h ?_ ?_ ?_<;>(try intro hgd)<;>try exact Xy))<;>simp -implicitDefEqProofs (maxSteps:=2000000) [hP,hN,gD,q]<;>try refine Ya ?_)|refine X2 ?_ ?_|(refine Xd ?_ ?_<;>intro hcd<;>try exact Xx))
 refine WP.loopN [] (oc l n) (λi a=>a.t 0=.ptr (pk 0) 0/\a.t 3=.ptr 3 0/\a.h 3=some (.box [.pv (Z c.1),.pv (Z c.2.1),.pv (Z c.2.2)] true false)/\a.t 6=.pv (Z ((oc l n:Int)-i))/\
  a.h (pk 0)=some (.box [.pv (zs l),.pv (Z (pQ l (nn l n) i))] false false)/\a.t 5=.arr 8 (i+1)/\a.h 8=some (.row 84 3 ((zC l (nn l n) c i).map am) 0)) (by simp[pQ,zC]) ?_
 rintro i a hi ⟨m,o,b,h6,hp,h5,d⟩;have x:=EO l (nn l n) c i;by_cases g:i<oc l n
 .have v:i64.wrap ((oc l n:Int)-i-1)=(oc l n:Int)-((i:Int)+1):=by rw[IntKind.wrap_i64];omega
  have e:(0:Int)<(oc l n:Int)-i:=by omega
  have u:=CV l (nn l n) i;have z:=bt l (pQ l (nn l n) i);have A:=bt l (nn l (pQ l (nn l n) i));have p:=IR l (nn l n) c i;have hS:pQ l (nn l n) (i+1)=nn l (nn l (nn l (pQ l (nn l n) i))):=rfl
  with_reducible repeat' (first|refine Sp.h ?_|((first|refine Wd ?_|refine Ss.h ?_|refine Sc.h (vk l _ _ (by decide) (by decide) (by omega)) ?_|(refine Sb.h ?_ ?_ ?_<;>(try intro hgd)<;>try exact Xy))<;>simp -implicitDefEqProofs (maxSteps:=2000000) [hP,hN,m,o,b,h5,h6,hp,d,g,v,e,hS,x,show(i+1+1)*24<=140737488355328 by omega,show i<=9223372036854775805 by omega]<;>try refine Ya ?_)|refine X2 ?_ ?_|(refine Xd ?_ ?_<;>intro hcd<;>try exact Xx))
  all_goals simp[p,Kd]
 .have f:i=oc l n:=by omega
  subst f;refine Gz ?_
  all_goals simp[Bd,vF]
theorem Hl(l:List Int)(n:Nat):Bd l n<=n+10:=by
 have b:=bt l n;have d:=aQ l n (k:=4) (by decide) (by decide)
 have a:oc l n<4:=by unfold oc;omega
 have c:=CV l (nn l n) (oc l n);unfold Bd;omega
theorem KY(l:List Int):tS l 0<=60:=by
 have d:=bt l 0;have i:=aQ l 0 (k:=3) (by decide) (by decide)
 have b:rN l 0<=3:=by unfold rN;omega
 have e:=Cw l (nn l 0) (rN l 0);have f:=bt l (rM l 0);have c:=aQ l (rM l 0) (k:=3) (by decide) (by decide)
 have a:rK l 0<3:=by unfold rK;omega
 have g:=GU l (nn l (rM l 0)) (rK l 0);have h5:rM l 0=qV l (nn l 0) (rN l 0):=rfl;unfold tS;omega
def OM(l:List Int)(m:Nat)(i:Nat):Sh:=⟨i,wr ((wr (wr (1+nx l m 3)*65536)).tdiv 8),vF l (nn l (nn l m)) (wr (nx l (nn l m) 4*32768),0,0)⟩
def gS(l:List Int)(n:Nat):Nat->List Sh×Nat
 |0=>([],n)
 |i+1=>if nx l (gS l n i).2 5<4 then((gS l n i).1++[OM l (nn l (gS l n i).2) i],Bd l (nn l (nn l (nn l (gS l n i).2))))else((gS l n i).1,nn l (gS l n i).2)
theorem zD(l:List Int)(n:Nat):∀i,(gS l n i).2<=n+13*i/\(gS l n i).1.length<=i
 |0=>by simp[gS]
 |i+1=>by
  have ih:=zD l n i;have a:=bt l (gS l n i).2;have b:=bt l (nn l (gS l n i).2);have a3:=bt l (nn l (nn l (gS l n i).2));have a4:=Hl l (nn l (nn l (nn l (gS l n i).2)));simp only[gS];split
  .simp only[Um,VE,V8];omega
  .simp only;omega
def Hm(l:List Int)(m:Nat):Sh:=⟨-1,wr ((wr (wr (1+nx l (nn l (nn l (nn l m))) 4)*65536)).tdiv 8),vF l (nn l (nn l (nn l (nn l m)))) (wr (wr (nx l m 19-9)*32768),wr (wr (nx l (nn l m) 19-9)*32768),wr (wr (nx l (nn l (nn l m)) 5-2)*32768))⟩
def jG(l:List Int)(xs:List Sh)(n:Nat):Nat->List Sh×Nat
 |0=>(xs,n)
 |i+1=>((jG l xs n i).1++[Hm l (jG l xs n i).2],Bd l (nn l (nn l (nn l (nn l (jG l xs n i).2)))))
theorem zE(l:List Int)(xs:List Sh)(n:Nat):∀i,(jG l xs n i).2<=n+14*i/\(jG l xs n i).1.length=xs.length+i
 |0=>by simp[jG]
 |i+1=>by
  have ih:=zE l xs n i;have a:=bt l (jG l xs n i).2;have b:=bt l (nn l (jG l xs n i).2);have a3:=bt l (nn l (nn l (jG l xs n i).2));have a4:=bt l (nn l (nn l (nn l (jG l xs n i).2)));have c:=Hl l (nn l (nn l (nn l (nn l (jG l xs n i).2))));simp only[jG,Um,VE,V8];omega
def rW(l:List Int)(n:Nat):Nat:=(1+nx l n 3).toNat
def mA(l:List Int):List Sh×Nat:=gS l (tS l 0) (rN l 0)
def mB(l:List Int):List Sh×Nat:=jG l (mA l).1 (nn l (mA l).2) (rW l (mA l).2)
def nR(l:List Int):Sce:=⟨jR l 0,pO l 0,(mB l).1,if nx l (mB l).2 5=1 then[(-1,nx l (nn l (mB l).2) (rN l 0))]else[]⟩
def S8(l:List Int)(xs:List Sh)(h:Hp):Prop:=∃W:AV,h 4=some (.box [.pv (.sl ((jR l 0).map bu)),.pv (.sl ((pO l 0).map cG)),W,gl] true false)/\((xs=[]/\W=gl/\h 71=none)\/(xs≠[]/\W=.arr 40 xs.length/\h 40=some (.row 86 3 (xs.map cE) 0))\/(xs≠[]/\W=.arr 71 xs.length/\h 71=some (.row 86 3 (xs.map cE) 0)))
theorem ON(l:List Int):aR 10 (zs l) (eM (nR l)):=by
 have O:=aQ l 0 (k:=3) (by decide) (by decide)
 have Y:rN l 0<=3/\0<rN l 0:=by unfold rN;omega
 have u:(jR l 0).length=rN l 0:=ol l (nn l 0) (rN l 0);have ad:=KY l;have cr:=SF l 0 (by decide);generalize Q:tS l 0=v at *;refine Dp func10 λC hP hN=>?_;have q1:=@LT;refine GT @gD.eq_1 ?_
 refine WP.loopN [] (rN l 0) (λi p=>p.t 3=.ptr 9 0/\p.h 9=some (.box [.pv (zs l),.pv (Z (gS l v i).2)] true false)/\p.t 2=.ptr 2 0/\p.h 2=some (.box [gl,gl,gl,gl] true false)/\p.t 4=.ptr 4 0/\p.t 5=.pv (Z i)/\p.h 71=none/\p.h 86=none/\p.h 7=none/\
  (((gS l v i).1=[]/\p.h 4=some (.box [.pv (.sl ((jR l 0).map bu)),.pv (.sl ((pO l 0).map cG)),gl,gl] true false)/\p.h 40=none)\/((gS l v i).1≠[]/\p.h 4=some (.box [.pv (.sl ((jR l 0).map bu)),.pv (.sl ((pO l 0).map cG)),.arr 40 (gS l v i).1.length,gl] true false)/\p.h 40=some (.row 86 3 ((gS l v i).1.map cE) 0)))) (by simp[gS]) ?_
 rintro i p hi ⟨g3,j,g2,n,g4,g5,d,e,o,y⟩;have H:=zD l v i;by_cases s:i<rN l 0
 .have x:=aj s (by omega)
  have hS:gS l v (i+1)=if nx l (gS l v i).2 5<4 then((gS l v i).1++[OM l (nn l (gS l v i).2) i],Bd l (nn l (nn l (nn l (gS l v i).2))))else((gS l v i).1,nn l (gS l v i).2):=rfl
  generalize gS l v (i+1)=T at *;generalize gS l v i=S at *;obtain⟨xs,m⟩:=S;simp only at H hS j y;have R:=bt l m;have U:=bt l (nn l m);have a3:=bt l (nn l (nn l m));have G:=OK l (nn l (nn l (nn l m))) (wr (nx l (nn l (nn l m)) 4*32768),0,0) (by omega);by_cases h5:nx l m 5<4
  .rw[T8 h5]at hS
   subst hS;rcases y with⟨q,f,g⟩|⟨q,f,g⟩
   .subst q
    with_reducible repeat' (first|refine Sp.h ?_|((first|refine Wd ?_|refine Ss.h ?_|refine Sc.h (iE l _ 5 (by decide) (by omega)) ?_|refine Sc.h (iE l _ 3 (by decide) (by omega)) ?_|refine Sc.h (iE l _ 4 (by decide) (by omega)) ?_|refine Sc.h (G) ?_|(refine Sb.h ?_ ?_ ?_<;>(try intro hgd)<;>try exact Xy))<;>simp -implicitDefEqProofs [hP,hN,g3,j,g2,n,g4,g5,d,e,o,f,g,s,x,u,h5]<;>try refine Ya ?_)|refine X2 ?_ ?_|(refine Xd ?_ ?_<;>intro hcd<;>try exact Xx))
    all_goals exact⟨rfl,rfl,rfl⟩
   .skip
    with_reducible repeat' (first|refine Sp.h ?_|((first|refine Wd ?_|refine Ss.h ?_|refine Sc.h (iE l _ 5 (by decide) (by omega)) ?_|refine Sc.h (iE l _ 3 (by decide) (by omega)) ?_|refine Sc.h (iE l _ 4 (by decide) (by omega)) ?_|refine Sc.h (G) ?_|(refine Sb.h ?_ ?_ ?_<;>(try intro hgd)<;>try exact Xy))<;>simp -implicitDefEqProofs [hP,hN,g3,j,g2,n,g4,g5,d,e,o,f,g,s,x,u,h5,show(xs.length+1)*40<=140737488355328 by omega,show xs.length<=9223372036854775806 by omega]<;>try refine Ya ?_)|refine X2 ?_ ?_|(refine Xd ?_ ?_<;>intro hcd<;>try exact Xx))
    all_goals exact⟨rfl,rfl,rfl⟩
  .rw[TQ h5]at hS
   subst hS;rcases y with⟨q,f,g⟩|⟨q,f,g⟩
   all_goals
    with_reducible repeat' (first|refine Sp.h ?_|((first|refine Wd ?_|refine Ss.h ?_|refine Sc.h (iE l _ 5 (by decide) (by omega)) ?_|(refine Sb.h ?_ ?_ ?_<;>(try intro hgd)<;>try exact Xy))<;>simp -implicitDefEqProofs [hP,hN,g3,j,g2,n,g4,g5,d,e,o,f,g,s,x,u,h5]<;>try refine Ya ?_)|refine X2 ?_ ?_|(refine Xd ?_ ?_<;>intro hcd<;>try exact Xx))
    all_goals exact q
 .have F:i=rN l 0:=by omega
  subst F
  have I:gS l v (rN l 0)=mA l:=by unfold mA;rw[Q]
  rw[I]at H j y;have hK:nx l (mA l).2 3<3/\0<=nx l (mA l).2 3:=⟨(aQ l _ (by decide) (by decide)).2,(aQ l _ (by decide) (by decide)).1⟩
  have P:i64.wrap (1+nx l (mA l).2 3)=((rW l (mA l).2:Nat):Int):=by rw[IntKind.wrap_i64];unfold rW;omega
  have V:rW l (mA l).2<=3/\1<=rW l (mA l).2:=by unfold rW;omega
  have M:nR l=⟨jR l 0,pO l 0,(mB l).1,if nx l (mB l).2 5=1 then[(-1,nx l (nn l (mB l).2) (rN l 0))]else[]⟩:=rfl;rw[M];have J:mB l=jG l (mA l).1 (nn l (mA l).2) (rW l (mA l).2):=rfl;have X:=bt l (mA l).2;rw[J];generalize mA l=A at *;clear I M J;generalize rW l A.2=K at *
  obtain⟨W,f,r⟩:∃W:AV,p.h 4=some (.box [.pv (.sl ((jR l 0).map bu)),.pv (.sl ((pO l 0).map cG)),W,gl] true false)/\((A.1=[]/\W=gl/\p.h 71=none)\/(A.1≠[]/\W=.arr 40 A.1.length/\p.h 40=some (.row 86 3 (A.1.map cE) 0))\/(A.1≠[]/\W=.arr 71 A.1.length/\p.h 71=some (.row 86 3 (A.1.map cE) 0))):=by
   rcases y with⟨a,b,c⟩|⟨a,b,c⟩
   .exact⟨_,b,.inl ⟨a,rfl,d⟩⟩
   .exact⟨_,b,.inr (.inl ⟨a,rfl,c⟩)⟩
  clear y
  with_reducible repeat' (first|refine Sp.h ?_|((first|refine Wd ?_|refine Ss.h ?_|refine Sc.h (iE l _ 3 (by decide) (by omega)) ?_|(refine Sb.h ?_ ?_ ?_<;>(try intro hgd)<;>try exact Xy))<;>simp -implicitDefEqProofs [hP,hN,g3,j,g2,n,g4,g5,f,e,o,u,P]<;>try refine Ya ?_)|refine X2 ?_ ?_|(refine Xd ?_ ?_<;>intro hcd<;>try exact Xx))
  have N:jG l A.1 (nn l A.2) 0=(A.1,nn l A.2):=rfl;refine WP.loopN [7] K (λi p=>p.t 3=.ptr 9 0/\p.h 9=some (.box [.pv (zs l),.pv (Z (jG l A.1 (nn l A.2) i).2)] true false)/\p.t 2=.ptr 2 0/\p.h 2=some (.box [gl,gl,gl,gl] true false)/\p.t 4=.ptr 4 0/\p.t 6=.pv (Z ((K:Int)-i))/\p.h 86=none/\p.h 7=none/\S8 l (jG l A.1 (nn l A.2) i).1 p.h) ?_ ?_
  .refine⟨by simp[g3],by simp[N],by simp[g2],by simp[n],by simp[g4],by simp,by simp[e],by simp[o],?_⟩
   rw[N];rcases r with⟨a,rfl,b⟩|⟨a,rfl,b⟩|⟨a,rfl,b⟩
   .exact⟨gl,by simp[f],.inl ⟨a,rfl,by simp[b]⟩⟩
   .exact⟨.arr 40 A.1.length,by simp[f],.inr (.inl ⟨a,rfl,by simp[b]⟩)⟩
   .exact⟨.arr 71 A.1.length,by simp[f],.inr (.inr ⟨a,rfl,by simp[b]⟩)⟩
  clear g3 j g2 n g4 g5 e o f d r;rintro i p hi ⟨g3,j,g2,n,g4,D,e,o,W,f,r⟩;have B:=zE l A.1 (nn l A.2) i;by_cases s:i<K
  .have x:i64.wrap ((K:Int)-i-1)=(K:Int)-((i:Int)+1):=by rw[IntKind.wrap_i64];omega
   have E:(0:Int)<(K:Int)-i:=by omega
   have hS:jG l A.1 (nn l A.2) (i+1)=((jG l A.1 (nn l A.2) i).1++[Hm l (jG l A.1 (nn l A.2) i).2],Bd l (nn l (nn l (nn l (nn l (jG l A.1 (nn l A.2) i).2))))):=rfl;generalize jG l A.1 (nn l A.2) (i+1)=T at *;generalize jG l A.1 (nn l A.2) i=S at *;subst hS;obtain⟨xs,m⟩:=S;simp only at B j r|-;have R:=bt l m;have U:=bt l (nn l m);have a3:=bt l (nn l (nn l m));have a4:=bt l (nn l (nn l (nn l m)));have G:=OK l (nn l (nn l (nn l (nn l m)))) (wr (wr (nx l m 19-9)*32768),wr (wr (nx l (nn l m) 19-9)*32768),wr (wr (nx l (nn l (nn l m)) 5-2)*32768)) (by omega);rcases r with⟨q,r,d⟩|⟨q,r,g⟩|⟨q,r,d⟩
   .subst r;subst q
    with_reducible repeat' (first|refine Sp.h ?_|((first|refine Wd ?_|refine Ss.h ?_|refine Sc.h (vk l _ 9 (by decide) (by decide) (by omega)) ?_|refine Sc.h (vk l _ 2 (by decide) (by decide) (by omega)) ?_|refine Sc.h (iE l _ 4 (by decide) (by omega)) ?_|refine Sc.h (G) ?_|(refine Sb.h ?_ ?_ ?_<;>(try intro hgd)<;>try exact Xy))<;>simp -implicitDefEqProofs [hP,hN,g3,j,g2,n,g4,D,e,o,f,d,x,E]<;>try refine Ya ?_)|refine X2 ?_ ?_|(refine Xd ?_ ?_<;>intro hcd<;>try exact Xx))
    refine⟨s,.arr 71 [Hm l m].length,by simp[St.kill,bw,au],.inr (.inr ⟨by simp,rfl,?_⟩)⟩;simp[St.kill,bw,au]
    all_goals exact⟨rfl,rfl,rfl⟩
   .subst r
    with_reducible repeat' (first|refine Sp.h ?_|((first|refine Wd ?_|refine Ss.h ?_|refine Sc.h (vk l _ 9 (by decide) (by decide) (by omega)) ?_|refine Sc.h (vk l _ 2 (by decide) (by decide) (by omega)) ?_|refine Sc.h (iE l _ 4 (by decide) (by omega)) ?_|refine Sc.h (G) ?_|(refine Sb.h ?_ ?_ ?_<;>(try intro hgd)<;>try exact Xy))<;>simp -implicitDefEqProofs [hP,hN,g3,j,g2,n,g4,D,e,o,f,g,x,E,show(xs.length+1)*40<=140737488355328 by omega,show xs.length<=9223372036854775806 by omega]<;>try refine Ya ?_)|refine X2 ?_ ?_|(refine Xd ?_ ?_<;>intro hcd<;>try exact Xx))
    refine⟨s,.arr 40 (xs++[Hm l m]).length,by simp[St.kill,bw,au],.inr (.inl ⟨by simp,rfl,?_⟩)⟩;simp[St.kill,bw,au]
    all_goals exact⟨rfl,rfl,rfl⟩
   .subst r
    with_reducible repeat' (first|refine Sp.h ?_|((first|refine Wd ?_|refine Ss.h ?_|refine Sc.h (vk l _ 9 (by decide) (by decide) (by omega)) ?_|refine Sc.h (vk l _ 2 (by decide) (by decide) (by omega)) ?_|refine Sc.h (iE l _ 4 (by decide) (by omega)) ?_|refine Sc.h (G) ?_|(refine Sb.h ?_ ?_ ?_<;>(try intro hgd)<;>try exact Xy))<;>simp -implicitDefEqProofs [hP,hN,g3,j,g2,n,g4,D,e,o,f,d,x,E,show(xs.length+1)*40<=140737488355328 by omega,show xs.length<=9223372036854775806 by omega]<;>try refine Ya ?_)|refine X2 ?_ ?_|(refine Xd ?_ ?_<;>intro hcd<;>try exact Xx))
    refine⟨s,.arr 71 (xs++[Hm l m]).length,by simp[St.kill,bw,au],.inr (.inr ⟨by simp,rfl,?_⟩)⟩;simp[St.kill,bw,au]
    all_goals exact⟨rfl,rfl,rfl⟩
  .have F:i=K:=by omega
   subst F;generalize jG l A.1 (nn l A.2) i=S at *;obtain⟨xs,m⟩:=S;simp only at B j r|-;have R:=bt l m
   have L:((rN l 0:Nat):Int)≠0:=by omega
   have q:xs≠[]:=by
    rintro rfl;have:=B.2;simp at this;omega
   by_cases h5:nx l m 5=1
   .have z:(nx l m 5==1)=true:=by simp[h5]
    rw[T8 h5];rcases r with⟨O,r,d⟩|⟨_,r,g⟩|⟨_,r,d⟩
    .exact absurd O q
    .subst r
     with_reducible repeat' (first|refine Sp.h ?_|((first|refine Wd ?_|refine Ss.h ?_|refine Sc.h (iE l _ 5 (by decide) (by omega)) ?_|refine Sc.h (iE l _ _ L (by omega)) ?_)<;>simp -implicitDefEqProofs [hP,hN,g3,j,g2,n,g4,D,e,o,f,g,h5,z,u]<;>try refine Ya ?_))
    .subst r
     with_reducible repeat' (first|refine Sp.h ?_|((first|refine Wd ?_|refine Ss.h ?_|refine Sc.h (iE l _ 5 (by decide) (by omega)) ?_|refine Sc.h (iE l _ _ L (by omega)) ?_)<;>simp -implicitDefEqProofs [hP,hN,g3,j,g2,n,g4,D,e,o,f,d,h5,z,u]<;>try refine Ya ?_))
   .have z:(nx l m 5==1)=false:=by simp[h5]
    rw[TQ h5];rcases r with⟨O,r,d⟩|⟨_,r,g⟩|⟨_,r,d⟩
    .exact absurd O q
    .subst r
     with_reducible repeat' (first|refine Sp.h ?_|((first|refine Ss.h ?_|refine Sc.h (iE l _ 5 (by decide) (by omega)) ?_)<;>simp -implicitDefEqProofs [hP,hN,g3,j,g2,n,g4,D,e,o,f,g,h5,z,u]))
    .subst r
     with_reducible repeat' (first|refine Sp.h ?_|((first|refine Ss.h ?_|refine Sc.h (iE l _ 5 (by decide) (by omega)) ?_)<;>simp -implicitDefEqProofs [hP,hN,g3,j,g2,n,g4,D,e,o,f,d,h5,z,u]))
theorem SQ(t:Tr)(v:Verd)(G:TSm t)(A:rD 16777216 v)(i:aV t 0 v=true):nh prog 96 ([bZ t,Z 0,jT v].map .pv) lU (λr R=>r=.tup [.agg ([iv t.root].map .pv++[.arr 291 ((bP t 0 v).cells.map br).length]),.pv (B true)]/\R=fu 80 8 ((bP t 0 v).cells.map br)):=by
 have U:bP t 0 v=eG t 0 v:=by unfold bP;rw[T8 i];rfl
 have a:=i;simp only[aV,An,L4]at a;obtain⟨⟨⟨⟨⟨W,_⟩,h0⟩,m⟩,E⟩,hf⟩:=a
 have g:0<t.cells.length:=by omega
 have V:=G.cells;have I:=Ny t (by omega);rw[W]at I
 have y:t.cells≠[]:=by intro e;rw[e]at g;simp at g
 have cc:=yE t G y;generalize F:t.cells[0]=c at *
 have j:t.cells[0]?=some c:=by rw[an g,F]
 have m:dY c=true:=by simpa[fT,j]using m
 have E:c.v.kind=0:=by simpa[lV,j]using E
 have cl:=Dx c;have J:=Ju v;have cv:=Gl v A;rw[m]at cl;rw[hf]at J
 have q:(c.v.kind !=0)=false:=by simp[E]
 have l:=uv m
 have X:c.joint=-1:=by rw[l];rfl
 have Y:c.low=-1:=by rw[l];rfl
 have q3:c.high=-1:=by rw[l];rfl
 clear l
 have u:((eG t 0 v).cells.map br).length=t.cells.length:=by simp[eG]
 rw[U,u]
 have z:(t.cells.map br).set 0 (br (aD v))=(eG t 0 v).cells.map br:=by simp[eG,Vy]
 clear i G A V
 have x:¬(t.cells.length:Int)<=0:=by omega
 refine Gr func96 BX ?_;intro C hP hN;simp only[f96]at hN|-
 with_reducible iterate 7 any_goals (first|refine Sp.h ?_|((first|refine Wd ?_|refine Ss.h ?_|refine Sc.h (cc) ?_|(refine Sb.h ?_ ?_ ?_<;>(try intro hgd)<;>try exact Xy))<;>simp -implicitDefEqProofs (maxSteps:=2000000) [hP,hN,sF,lU,g,j,F,q]<;>try refine Yc ?_)|refine X2 ?_ ?_|(refine Xd ?_ ?_<;>intro hcd<;>try exact Xx))
 refine Gu 10 291 (e:=80) (sz:=8) (fz:=0) (xs:=t.cells.map br) (by simp[ae,lU]) (by simp[ae,lU]) (by omega) (by omega) ?_
 refine WP.of_st (P:=λd=>d.t 1=.pv (Z 0)/\d.t 3=.ptr 3 0/\d.t 5=.ptr 5 0/\d.t 6=.ptr 6 0/\d.t 7=.ptr 7 0/\d.h 3=some (.box [.pv (iv t.root),.pv (.sl (t.cells.map br))] true false)/\d.h 5=some (.box [.pv (Z v.kind),.pv (aG v.nor),.pv (Z v.pair),.pv (zs v.left),.pv (zs v.right)] true false)/\d.h 6=some (.box [.pv (iv t.root),.arr 291 t.cells.length] true false)/\d.h 7=some (.box [.pv (B false)] true false)/\d.h 291=some (.row 80 8 (t.cells.map br) 0)/\∀k,290<=k->k≠291->d.h k=none)
  ⟨⟨by simp[bD,aZ,ae],by simp[bD,aZ,rk,ae],by simp[bD,aZ,rk,ae],by simp[bD,aZ,rk,ae],by simp[bD,aZ,rk,ae],by simp[bo,cW,bD,aZ,rk,ae],by simp[bo,cW,bD,aZ,rk,ae],by simp[bo,cW,bD,aZ,rk,ae],by simp[bo,cW,bD,aZ,rk,ae],by simp[bo,cW,ae],λk h1 S=>?_⟩,?_⟩
 .simp[bo,ae,lU,S,show¬k=3 by omega,show¬k=5 by omega,show¬k=6 by omega,show¬k=7 by omega,show¬k=10 by omega]
 rintro d ⟨g1,g3,g5,K,L,M,N,b6,O,p,D⟩
 with_reducible repeat' (first|refine Sp.h ?_|((first|refine Wd ?_|refine Ss.h ?_|refine Sc.h (I) ?_|refine Sc.h (cl) ?_|refine Sc.h (J) ?_|refine Sc.h (cv) ?_|(refine Sb.h ?_ ?_ ?_<;>(try intro hgd)<;>try exact Xy))<;>simp -implicitDefEqProofs (maxSteps:=2000000) [hP,hN,g1,g3,g5,K,L,M,N,b6,O,p,g,x,y,j,F,q]<;>try refine Yc ?_)|refine X2 ?_ ?_|(refine Xd ?_ ?_<;>intro hcd<;>try exact Xx))
 have s:291≠6:=by omega
 refine vY (H:=fu 80 8 ((eG t 0 v).cells.map br)) (r:=.tup [.agg [.pv (iv t.root),.arr 291 t.cells.length],.pv (B true)]) (by simp[mh,kL,K,L]) rfl (λk s=>?_) ⟨λk b n=>?_,λk b o n=>?_,λk b n=>?_,λk Q o f n=>?_⟩ ⟨rfl,rfl⟩ (λk Q f s=>by cases s)
 .simp only[inK,An,L4]at s
  by_cases e:k=291
  .subst e
   simp only[fu,Ul,<-z];simp[ae,X,Y,q3,aD]
  .simp[fu,ae,e,show¬k=6 by omega,show¬k=7 by omega]
   exact D k s.1 e
 .obtain⟨rfl,_⟩:=fE n;rfl
 .obtain⟨_,rfl⟩:=fE n;simp[Blk.frz]
 .obtain⟨_,rfl⟩:=fE n;rfl
 .obtain⟨_,T⟩:=fE n;cases T
set_option maxRecDepth 100000 in
@[simp] theorem Sr:ew prog 92:=by
 have hf:=func92;have nt:=ntmps92;have rs:=results92;exact xg
theorem SR(a:Sce)(t:Tr)(c:Cel)(G:ScL a)(J:TSm t)(T:bi a=0)(l:dn t 0=true)(hi:io a.js a.ms (bO t 0)=true)(y:t.cells[0]?=some c)(x:(bO t 0).length<=9223372036854775807)(A:c.v.nor.length<=9223372036854775807)
 (D:rD 16777216 (cy (dI a (bO t 0) c.v.nor)))(j:aV t 0 (cy (dI a (bO t 0) c.v.nor))=true):
 nh prog 44 ([eM a,bZ t,Z 0].map .pv) lU (λr S=>r=.tup [.agg ([iv t.root].map .pv++[.arr 291 ((bP t 0 (cy (dI a (bO t 0) c.v.nor))).cells.map br).length]),.pv (B true)]/\S=fu 80 8 ((bP t 0 (cy (dI a (bO t 0) c.v.nor))).cells.map br)):=by
 have L:=SQ t _ J D j;have E:=ET a G;have M:=Oz a.js a.ms (bO t 0) G.js G.ms;have N:=NE t 0 (by have:=J.cells;omega);have R:=Mv a (bO t 0) c.v.nor G x A;rw[T]at E;rw[hi]at M;rw[l]at N;have i:0<t.cells.length:=(th.1 y).1;have q:∀h,t.cells[0]'h=c:=λh=>ip y h
 have u:((bP t 0 (cy (dI a (bO t 0) c.v.nor))).cells.map br).length=t.cells.length:=by
  unfold bP;rw[T8 j];simp[eG]
 have p:¬(t.cells.length:Int)<=0:=by omega
 have z:t.cells≠[]:=by intro e;rw[e]at i;simp at i
 have n:jT (cy (dI a (bO t 0) c.v.nor))=zz (dI a (bO t 0) c.v.nor):=rfl;rw[n]at L;clear n j D hi x A J;generalize(bP t 0 (cy (dI a (bO t 0) c.v.nor))).cells.map br=Y at *;generalize dI a (bO t 0) c.v.nor=V at *;generalize bO t 0=bx at *;refine Gr func44 BX ?_;intro C hP hN;simp only[f44]at hN|-
 with_reducible repeat' (first|refine Sp.h ?_|((with_unfolding_all refine WP.drawX (hn:=[]) 12 rfl (by rw[hP];kernel_rfl) (by kernel_rfl) ?_);simp -implicitDefEqProofs (maxSteps:=2000000) [hP,hN,sF,lU,i,p,z,y,q])|((first|refine Wd ?_|refine Ss.h ?_|refine Sc.h (E) ?_|refine Sc.h (M) ?_|refine Sc.h (N) ?_|refine Sc.h (R) ?_|(refine Sb.h ?_ ?_ ?_<;>(try intro hgd)<;>try exact Xy))<;>simp -implicitDefEqProofs (maxSteps:=2000000) [hP,hN,sF,lU,i,p,z,y,q]<;>try refine Yc ?_)|refine X2 ?_ ?_|(refine Xd ?_ ?_<;>intro hcd<;>try exact Xx))
 refine⟨_,Gt (f:=.func 96) (xs:=[.tmp 33,.tmp 34,.tmp 44]) (g:=96) (d:=45) rfl rfl rfl (by simp[dm]) (by simp[ae,lU]) rfl (by simp[St.ev]) L,?_⟩;simp -implicitDefEqProofs (maxSteps:=2000000) [hP,hN,i,y,q,lU];refine Ya ?_;refine Gu 45 291 (e:=80) (sz:=8) (fz:=0) (xs:=Y) (by simp[ae,lU]) (by simp[ae,lU]) (by omega) (by omega) ?_
 refine WP.of_st (P:=λs=>s.t 6=.ptr 6 0/\s.t 7=.ptr 7 0/\s.h 6=some (.box [.pv (iv t.root),.arr 291 Y.length] true false)/\s.h 7=some (.box [.pv (B true)] true false)/\s.h 291=some (.row 80 8 Y 0)/\∀k,290<=k->k≠291->s.h k=none)
  ⟨⟨by simp[bD,aZ,rk,ae],by simp[bD,aZ,rk,ae],by simp[bo,cW,bD,aZ,rk,ae],by simp[bo,cW,bD,aZ,rk,ae],by simp[bo,cW,ae],λk X U=>?_⟩,?_⟩
 .simp[bo,ae,lU,U,show¬k=3 by omega,show¬k=4 by omega,show¬k=6 by omega,show¬k=7 by omega,show¬k=45 by omega]
 rintro s ⟨O,Q,b6,K,m,I⟩
 with_reducible repeat' (first|refine Sp.h ?_|((first|refine Wd ?_|refine Ss.h ?_|(refine Sb.h ?_ ?_ ?_<;>(try intro hgd)<;>try exact Xy))<;>simp -implicitDefEqProofs (maxSteps:=2000000) [hP,hN,O,Q,b6,K,m]<;>try refine Yc ?_)|refine X2 ?_ ?_|(refine Xd ?_ ?_<;>intro hcd<;>try exact Xx))
 rw[u];refine vY (H:=fu 80 8 Y) (r:=.tup [.agg [.pv (iv t.root),.arr 291 t.cells.length],.pv (B true)]) (by simp[mh,kL,O,Q,b6,K,u]) rfl (λk F=>?_) ⟨λk b l=>?_,λk b o l=>?_,λk b l=>?_,λk E o f l=>?_⟩ ⟨rfl,rfl⟩ (λk E f F=>by cases F)
 .simp only[inK,An,L4]at F
  by_cases e:k=291
  .subst e;simp[fu,m]
  .simp[fu,e]
   exact I k F.1 e
 .obtain⟨rfl,_⟩:=fE l;rfl
 .obtain⟨_,rfl⟩:=fE l;simp[Blk.frz]
 .obtain⟨_,rfl⟩:=fE l;rfl
 .obtain⟨_,W⟩:=fE l;cases W
end Go.Ab
