/- The contracts and facts that the laws of this seat need, in one text (K12b, K12c, K13, K13b, K13c, Tv, K13d, DeP, DcM, Dc8, K13e, K14, K14b, Dc10, Dc11, AbX). -/
import Derived.Test.YtdbgcnplnhmjgaaGreatW8
set_option linter.all false
set_option maxRecDepth 10000
set_option maxHeartbeats 16000000
namespace Go.Ab
open IntKind (i64)
open Go.Proofs.Tryz
open Go.Proofs
variable {PR:List (Nat×Nat)}{PT:List (List av)}{js:List J}{ms:List Ms}{s:Sce}{w:Int}
abbrev rG(a:List av)(d:Int)(b:List av)(e:Int)(c:List Vc):List PV:=[.rptr (aH a) 0,.rptr (aH b) 0,.rptr (Z d) 0,.rptr (Z e) 0,.rptr (aV c) 0]
theorem PY(a:List av)(d:Int)(b:List av)(e:Int)(c:List Vc):xL 147 (aH a) (Z d) (aH b) (Z e) (aV c) (.fn (.func 196) [] (rG a d b e c)):=by
 refine Dp func147 λC hP hN=>?_;exact Gy
def uq(a:List av)(c:Int)(b:List av)(d:Int):Bool:=az a&&az b&&bu c 0 1048576&&bu d 0 1048576
def mS(a:List av)(c:Int)(b:List av)(d:Int):Vc:=(jm (aE a) (aE b) (c+d) 64).2.n
def mT(a:List av)(d:Int)(b:List av)(e:Int)(c:List Vc):List Vc:=
 if uq a d b e then c.filter aQ++((if mc a b then[kJ a b]else[])++(kI++(if aQ (mS a d b e)then[mS a d b e]else[])))else[]
theorem DW{α:Type}{p:α->Bool}{l:List α}{k:Nat}{v:α}(a:l[k]?=some v):(l.filter p)=(l.take k).filter p++(if p v then[v]else[])++(l.drop (k+1)).filter p:=by
 obtain⟨h,a⟩:=th.1 a
 have e:l=l.take k++v::l.drop (k+1):=by rw[<-a,Vp];exact(UW k l).symm
 conv=>lhs;rw[e]
 rw[VK,List.filter_cons];split<;>simp
structure CandT(l:Nat)(a:List av)(ra:Int)(b:List av)(rb:Int)(hints:List Vc)(t:Nat->AV):Prop where
 g0:t 0=.pv (.val (.func (.yield l) #[] #[]))
 g1:t 1=.pv (.rptr (aH a) 0)
 g2:t 2=.pv (.rptr (aH b) 0)
 g3:t 3=.pv (.rptr (Z ra) 0)
 g4:t 4=.pv (.rptr (Z rb) 0)
 g5:t 5=.pv (.rptr (aV hints) 0)
def zH{P:Program}(E:YEnv P)(a:List av)(d:Int)(b:List av)(f:Int)(c:List Vc)(n:Nat):QY:=λe t i s=>match e with
 |.normal=>s=false/\i=n/\CandT E.l a d b f c t
 |.ret=>s=true/\i<E.xs.length
 |_=>False
theorem PZ(a:List av)(A:Int)(b:List av)(B:Int)(g:List Vc)(ha:a.length<=9223372036854775807)(hb:b.length<=9223372036854775807)(hl:g.length<=9223372036854775807):By prog 196 (rG a A b B g) ((mT a A b B g).map ax):=by
 refine HO (c:=(f196.body).getD .skip) func196 rfl (by kernel_rfl) rfl (by simp[f196]) ?_;intro E j G;simp only[f196,Ug]at j|-;rw[<-G];have U:CandT E.l a A b B g (tI E.l (rG a A b B g)):=⟨rfl,rfl,rfl,rfl,rfl,rfl⟩;generalize tI E.l (rG a A b B g)=t at *;obtain⟨g0,g1,g2,g3,g4,g5⟩:=U;have hF:=gJ;have ca:=uA a ha;have cb:=uA b hb;have Y:=Mu A;have a2:=Mu B
 have K:mT a A b B g=if uq a A b B then g.filter aQ++((if mc a b then[kJ a b]else[])++(kI++(if aQ (mS a A b B)then[mS a A b B]else[])))else[]:=rfl
 have J:uq a A b B=(az a&&az b&&bu A 0 1048576&&bu B 0 1048576):=rfl
 cases a1:uq a A b B with
 |false=>
  rw[a1]at K J;simp only[T3,Ud]at K
  have X:E.xs.length=0:=by rw[G,K];rfl
  refine bU.seq ?_;refine bU.walk λC hP hN=>?_;rw[j]at hN;cases M:az a
  .rw[M]at ca
   refine GV (s4 g0 g1 g2 g3 g4 g5) ?_
   all_goals exact⟨.inr rfl,by simp[X]⟩
  rw[M]at ca J;cases N:az b
  .rw[N]at cb
   refine GV (s4 g0 g1 g2 g3 g4 g5) ?_
   all_goals exact⟨.inr rfl,by simp[X]⟩
  rw[N]at cb J;cases T:bu A 0 1048576
  .rw[T]at Y
   refine GV (s4 g0 g1 g2 g3 g4 g5) ?_
   all_goals exact⟨.inr rfl,by simp[X]⟩
  rw[T]at Y J
  have V:bu B 0 1048576=false:=by simpa using J.symm
  rw[V]at a2;refine GV (s4 g0 g1 g2 g3 g4 g5) ?_
  all_goals exact⟨.inr rfl,by simp[X]⟩
 |true=>
 have hk:=a1;rw[J]at hk;simp only[An]at hk;obtain⟨⟨⟨M,N⟩,T⟩,V⟩:=hk;rw[M]at ca;rw[N]at cb;rw[T]at Y;rw[V]at a2;rw[a1]at K;simp only[Ui]at K;rw[K]at G;clear K J;refine bU.seq (bU.mono (Q:=zH E a A b B g 0) ?_ ?_)
 .refine bU.walk λC hP hN=>?_
  rw[j]at hN;refine GV (s4 g0 g1 g2 g3 g4 g5) ?_
  all_goals exact⟨rfl,rfl,by constructor<;>simp[bM,ag,g0,g1,g2,g3,g4,g5]⟩
 clear g0 g1 g2 g3 g4 g5;rintro e t i s h
 cases e with
 |ret=>exact⟨.inr rfl,by obtain⟨rfl,h⟩:=h;exact h⟩
 |normal=>
  obtain⟨rfl,rfl,U⟩:=h;show bU E _ _ _ _ _;refine bU.seq (bU.mono (Q:=zH E a A b B g (g.filter aQ).length) ?_ ?_)
  .obtain⟨g0,g1,g2,g3,g4,g5⟩:=U
   refine bU.seq ?_;refine bU.walk λC hP hN=>?_;rw[j]at hN;refine GV (s4 g0 g1 g2 g3 g4 g5) ?_;show bU E _ _ _ _ _;refine bU.block ?_;refine bU.loopN g.length (λk t i s=>s=false/\i=((g.take k).filter aQ).length/\CandT E.l a A b B g t/\t 32=.pv (aV g)/\t 33=.pv (Z g.length)/\t 34=.pv (Z k)) ?_ ?_
   .refine⟨rfl,rfl,?_,?_⟩
    .constructor<;>simp[bM,ag,g0,g1,g2,g3,g4,g5]
    .simp[bM,ag]
   clear g0 g1 g2 g3 g4 g5;rintro k t i s hk ⟨rfl,rfl,⟨g0,g1,g2,g3,g4,g5⟩,q,r,z⟩;refine bU.blocks λC hP hN=>?_;rw[j]at hN;by_cases o:k<g.length
   .have y:=am o hl
    generalize u:g[k]=v at *
    have I:g[k]?=some v:=by rw[an o,u]
    have cu:=Di v;have a6:=DW (p:=aQ) I
    have W:g.take (k+1)=g.take k++[v]:=by rw[Wf,I];rfl
    refine cE.seq ?_;refine GV (zAc g0 g1 g2 g3 g4 g5 q r z o) ?_;show cE E C _ _ _ _ _;refine cE.seq ?_;refine GV (zAc g0 g1 g2 g3 g4 g5 q r z o) ?_;refine aI.skip ?_;show cE E C _ _ _ _ _;refine cE.seqY (cE.block ?_);refine cE.seq ?_;refine GV (zAd g0 g1 g2 g3 g4 g5 q r z o I u) ?_;show cE E C _ _ _ _ _
    cases O:aQ v with
    |true=>
     rw[O]at cu
     have hi:E.xs[((g.take k).filter aQ).length]?=some (ax v):=by
      rw[G,a6,O];simp
     refine cE.seqY (cE.yield (hn:=[]) (d:=43) (f:=41) (x:=42) (pre:=[_,_,_,_,_]) (post:=[_,_]) rfl (by kernel_rfl) rfl rfl rfl rfl (by rw[j];decide) ?_);rw[j];simp -implicitDefEqProofs (maxSteps:=2000000) [g0,g1,g2,g3,g4,g5,q,r,z,o,I,u];refine lF cu ?_;simp -implicitDefEqProofs (maxSteps:=2000000) [g0,g1,g2,g3,g4,g5,q,r,z,o,I,u,bM];refine⟨by simp[fP,bM,ag],hi,?_,?_⟩
     .show bU E _ _ _ _ _
      refine bU.cond (b:=true) (by simp[bM,ag]) (λ_=>bU.ret ?_) (λh=>by cases h);exact⟨rfl,(th.1 hi).1⟩
     .show bU E _ _ _ _ _
      refine bU.cond (b:=false) (by simp[bM,ag]) (λh=>by cases h) (λ_=>bU.skip ?_);show bU E _ _ _ _ _;clear hP hN;refine bU.walk λC hP hN=>?_;rw[j]at hN
      repeat' (first
       |with_reducible refine aI.seq ?_
       |(with_reducible ((first|refine aI.region hF (hn:=[]) (by kernel_rfl) ?_|refine aI.cond' ?_);simp -implicitDefEqProofs (maxSteps:=2000000) [hP,hN,g0,g1,g2,g3,g4,g5,q,r,z,o,I,u,y,bM]))
       |(with_reducible refine gc (by simp[g0,g1,g2,g3,g4,g5,q,r,z,o,I,u,y,bM]) (λhgd=>?_) (λhgd=>?_)<;>first|(exfalso;simp at hgd;done)|(exfalso;simp at hgd;omega)|simp -implicitDefEqProofs (maxSteps:=2000000) [hP,hN,g0,g1,g2,g3,g4,g5,q,r,z,o,I,u,y,bM])
       |with_reducible refine eV ?_ ?_
       |(with_reducible refine dY (λhcd=>?_) (λhcd=>?_)<;>(try (exfalso;clear hP hN;simp_all;done))<;>(try (exfalso;simp at *;omega)))
       |with_reducible refine aI.block ?_
       |(with_reducible ((first|refine aI.skip ?_|refine aI.exit ?_|refine aI.ret ?_);simp[g0,g1,g2,g3,g4,g5,q,r,z,o,I,u,y,bM])))
      repeat' (refine And.intro ?_ ?_)
      all_goals first|rfl|(rw[W,VK];simp[O];done)|(simp[O,W,bM,ag,q,r,y];done)|(constructor<;>simp[bM,ag,g0,g1,g2,g3,g4,g5])
    |false=>
     rw[O]at cu;refine cE.walk ?_;refine GV (zAd g0 g1 g2 g3 g4 g5 q r z o I u) ?_;show bU E _ _ _ _ _;clear hP hN;refine bU.walk λC hP hN=>?_;rw[j]at hN
     repeat' (first
      |with_reducible refine aI.seq ?_
      |(with_reducible ((first|refine aI.region hF (hn:=[]) (by kernel_rfl) ?_|refine aI.cond' ?_);simp -implicitDefEqProofs (maxSteps:=2000000) [hP,hN,g0,g1,g2,g3,g4,g5,q,r,z,o,I,u,y,bM]))
      |(with_reducible refine gc (by simp[g0,g1,g2,g3,g4,g5,q,r,z,o,I,u,y,bM]) (λhgd=>?_) (λhgd=>?_)<;>first|(exfalso;simp at hgd;done)|(exfalso;simp at hgd;omega)|simp -implicitDefEqProofs (maxSteps:=2000000) [hP,hN,g0,g1,g2,g3,g4,g5,q,r,z,o,I,u,y,bM])
      |with_reducible refine eV ?_ ?_
      |(with_reducible refine dY (λhcd=>?_) (λhcd=>?_)<;>(try (exfalso;clear hP hN;simp_all;done))<;>(try (exfalso;simp at *;omega)))
      |with_reducible refine aI.block ?_
      |(with_reducible ((first|refine aI.skip ?_|refine aI.exit ?_|refine aI.ret ?_);simp[g0,g1,g2,g3,g4,g5,q,r,z,o,I,u,y,bM])))
     repeat' (refine And.intro ?_ ?_)
     all_goals first|rfl|(rw[W,VK];simp[O];done)|(simp[O,W,bM,ag,q,r,y];done)|(constructor<;>simp[bM,ag,g0,g1,g2,g3,g4,g5])
   .have ad:k=g.length:=by omega
    subst ad;refine cE.walk ?_;refine GV (zAb g0 g1 g2 g3 g4 g5 q (gA r z)) ?_;exact⟨rfl,rfl,by constructor<;>simp[bM,ag,g0,g1,g2,g3,g4,g5]⟩
  clear U;rintro e t i s h
  cases e with
  |ret=>exact⟨.inr rfl,by obtain⟨rfl,h⟩:=h;exact h⟩
  |normal=>
   obtain⟨rfl,rfl,U⟩:=h;show bU E _ _ _ _ _;generalize S:(g.filter aQ).length=n1 at *;refine bU.seq (bU.mono (Q:=zH E a A b B g (n1+(if mc a b then[kJ a b]else[]).length)) ?_ ?_)
   .obtain⟨g0,g1,g2,g3,g4,g5⟩:=U
    refine bU.blocks λC hP hN=>?_;rw[j]at hN;have cm:=PX a b ha hb;refine cE.seq ?_
    cases ar:mc a b with
    |false=>
     rw[ar]at cm;refine GV (s4 g0 g1 g2 g3 g4 g5) ?_;show cE E C _ _ _ _ _;refine cE.walk ?_;refine GV (s4 g0 g1 g2 g3 g4 g5) ?_;exact⟨rfl,by simp,by constructor<;>simp[bM,ag,g0,g1,g2,g3,g4,g5]⟩
    |true=>
     rw[ar]at cm
     have hi:E.xs[n1]?=some (ax (kJ a b)):=by rw[G,ar,<-S];simp
     generalize kJ a b=v at *;refine GV (s4 g0 g1 g2 g3 g4 g5) ?_;show cE E C _ _ _ _ _;refine cE.seqY (cE.yield (hn:=[]) (d:=57) (f:=55) (x:=56) (pre:=[_,_,_,_]) (post:=[_,_]) rfl (by kernel_rfl) rfl rfl rfl rfl (by rw[j];decide) ?_);rw[j];simp -implicitDefEqProofs (maxSteps:=2000000) [g0,g1,g2,g3,g4,g5,bM];refine⟨by simp[fP,bM,ag],hi,?_,?_⟩
     .show bU E _ _ _ _ _
      refine bU.cond (b:=true) (by simp[bM,ag]) (λ_=>bU.ret ?_) (λh=>by cases h);exact⟨rfl,(th.1 hi).1⟩
     .show bU E _ _ _ _ _
      refine bU.cond (b:=false) (by simp[bM,ag]) (λh=>by cases h) (λ_=>bU.skip ?_);exact⟨rfl,rfl,by constructor<;>simp[bM,ag,g0,g1,g2,g3,g4,g5]⟩
   clear U;rintro e t i s h
   cases e with
   |ret=>exact⟨.inr rfl,by obtain⟨rfl,h⟩:=h;exact h⟩
   |normal=>
    obtain⟨rfl,rfl,U⟩:=h;show bU E _ _ _ _ _;generalize bq:(if mc a b then[kJ a b]else[])=ml at *;generalize a5:n1+ml.length=n2 at *;refine bU.seq (bU.mono (Q:=zH E a A b B g (n2+6)) ?_ ?_)
    .obtain⟨g0,g1,g2,g3,g4,g5⟩:=U
     have a8:=PW;refine bU.seq ?_;refine bU.walk λC hP hN=>?_;rw[j]at hN;refine GV (s4 g0 g1 g2 g3 g4 g5) ?_;show bU E _ _ _ _ _;refine bU.block ?_;refine bU.loopN 6 (λk t i s=>s=false/\i=n2+k/\CandT E.l a A b B g t/\t 60=.pv (aV kI)/\t 61=.pv (Z 6)/\t 62=.pv (Z k)) ?_ ?_
     .refine⟨rfl,rfl,?_,?_⟩
      .constructor<;>simp[bM,ag,g0,g1,g2,g3,g4,g5]
      .simp[bM,ag]
     clear g0 g1 g2 g3 g4 g5;rintro k t i s hk ⟨rfl,rfl,⟨g0,g1,g2,g3,g4,g5⟩,D,F,H⟩;refine bU.blocks λC hP hN=>?_;rw[j]at hN;by_cases o:k<6
     .have y:i64.wrap ((k:Int)+1)=(k:Int)+1:=aa
      have P:(k:Int)<6:=by omega
      have L:k<kI.length:=o;generalize u:kI[k]=v at *
      have I:kI[k]?=some v:=by rw[an L,u]
      have hi:E.xs[n2+k]?=some (ax v):=by
       rw[G,<-a5,<-S,T0,T5 (by omega),T5 (by omega),show(g.filter aQ).length+ml.length+k-(g.filter aQ).length-ml.length=k by omega,T1 L,I];rfl
      generalize kI=AX at *;refine cE.seq ?_;refine GV (zAc g0 g1 g2 g3 g4 g5 D F H (gA o P)) ?_;show cE E C _ _ _ _ _;refine cE.seq ?_;refine GV (zAc g0 g1 g2 g3 g4 g5 D F H (gA o P)) ?_;refine aI.skip ?_;show cE E C _ _ _ _ _;refine cE.seqY (cE.block ?_);refine cE.seq ?_;refine GV (zAd g0 g1 g2 g3 g4 g5 D F H o P (be L I u)) ?_;show cE E C _ _ _ _ _;refine cE.seqY (cE.yield (hn:=[]) (d:=68) (f:=66) (x:=67) (pre:=[_,_]) (post:=[_]) rfl (by kernel_rfl) rfl rfl rfl rfl (by rw[j];decide) ?_);rw[j];simp -implicitDefEqProofs (maxSteps:=2000000) [g0,g1,g2,g3,g4,g5,D,F,H,L,I,u,bM];refine⟨by simp[fP,bM,ag],hi,?_,?_⟩
      .show bU E _ _ _ _ _
       refine bU.cond (b:=true) (by simp[bM,ag]) (λ_=>bU.ret ?_) (λh=>by cases h);exact⟨rfl,(th.1 hi).1⟩
      .show bU E _ _ _ _ _
       refine bU.cond (b:=false) (by simp[bM,ag]) (λh=>by cases h) (λ_=>bU.skip ?_);show bU E _ _ _ _ _;clear hP hN;refine bU.walk λC hP hN=>?_;rw[j]at hN
       repeat' (first
        |with_reducible refine aI.seq ?_
        |(with_reducible ((first|refine aI.region hF (hn:=[]) (by kernel_rfl) ?_|refine aI.cond' ?_);simp -implicitDefEqProofs (maxSteps:=2000000) [hP,hN,g0,g1,g2,g3,g4,g5,D,F,H,y,bM]))
        |(with_reducible refine gc (by simp[g0,g1,g2,g3,g4,g5,D,F,H,y,bM]) (λhgd=>?_) (λhgd=>?_)<;>first|(exfalso;simp at hgd;done)|(exfalso;simp at hgd;omega)|simp -implicitDefEqProofs (maxSteps:=2000000) [hP,hN,g0,g1,g2,g3,g4,g5,D,F,H,y,bM])
        |with_reducible refine eV ?_ ?_
        |(with_reducible refine dY (λhcd=>?_) (λhcd=>?_)<;>(try (exfalso;clear hP hN;simp_all;done))<;>(try (exfalso;simp at *;omega)))
        |with_reducible refine aI.block ?_
        |(with_reducible ((first|refine aI.skip ?_|refine aI.exit ?_|refine aI.ret ?_);simp[g0,g1,g2,g3,g4,g5,D,F,H,y,bM])))
       repeat' (refine And.intro ?_ ?_)
       all_goals first|rfl|(simp[bM,ag,D,F,y];done)|(constructor<;>simp[bM,ag,g0,g1,g2,g3,g4,g5])
     .have ad:k=6:=by omega
      subst ad;refine cE.walk ?_;refine GV (zAb g0 g1 g2 g3 g4 g5 D (gA F H)) ?_;exact⟨rfl,rfl,by constructor<;>simp[bM,ag,g0,g1,g2,g3,g4,g5]⟩
    clear U;rintro e t i s h
    cases e with
    |ret=>exact⟨.inr rfl,by obtain⟨rfl,h⟩:=h;exact h⟩
    |normal=>
     obtain⟨rfl,rfl,⟨g0,g1,g2,g3,g4,g5⟩⟩:=h;show bU E _ _ _ _ _;refine bU.blocks λC hP hN=>?_;rw[j]at hN;have c1:=EP a ha;have c2:=EP b hb;have bb:=(bX M).2.1;have bc:=(bX N).2.1;have ba:=gu M;have J:=gu N;simp only[bu,An,L4]at T V;have hw:i64.wrap (A+B)=A+B:=aa;have c3:=OA (aE a) (aE b) (A+B) 64 (by omega) (by omega);have a7:(jm (aE a) (aE b) (A+B) 64).2.n=mS a A b B:=rfl;generalize jm (aE a) (aE b) (A+B) 64=R at *;rw[<-a7]at G;refine cE.draw (hn:=[]) (by kernel_rfl) (by kernel_rfl) ?_;rw[j];simp -implicitDefEqProofs (maxSteps:=2000000) [g0,g1,g2,g3,g4,g5];refine tW c1 ?_;simp -implicitDefEqProofs (maxSteps:=2000000) [g0,g1,g2,g3,g4,g5];refine tW c2 ?_;simp -implicitDefEqProofs (maxSteps:=2000000) [g0,g1,g2,g3,g4,g5,hw];refine tW c3 ?_;simp -implicitDefEqProofs (maxSteps:=2000000) [g0,g1,g2,g3,g4,g5,hw];refine⟨by kernel_rfl,?_⟩;have cu:=Di R.2.n;refine cE.seq ?_
     cases O:aQ R.2.n with
     |false=>
      rw[O]at cu
      have hL:n2+6=E.xs.length:=by
       rw[G,O,Uu,Uj,Uj,Uj,S];simp only[T3,Ud,VF,V4];omega
      refine GV (s4 g0 g1 g2 g3 g4 g5) ?_;show cE E C _ _ _ _ _;refine cE.walk ?_;refine GV (s4 g0 g1 g2 g3 g4 g5) ?_
      all_goals exact hL
     |true=>
      rw[O]at cu
      have hL:n2+6+1=E.xs.length:=by
       rw[G,O,Uu,Uj,Uj,Uj,S];simp only[Ui,VF,V4];omega
      have hi:E.xs[n2+6]?=some (ax R.2.n):=by
       rw[G,O,<-a5,<-S,T0,T5 (by omega),T5 (by omega),show(g.filter aQ).length+ml.length+6-(g.filter aQ).length-ml.length=6 by omega,T5 (by decide)];rfl
      refine GV (s4 g0 g1 g2 g3 g4 g5) ?_;show cE E C _ _ _ _ _;refine cE.cond (m:=81) (b:=true) (by simp) (λ_=>?_) (λh=>by cases h);refine cE.yield (hn:=[]) (d:=85) (f:=82) (x:=84) (pre:=[_,_,_]) (post:=[]) rfl (by kernel_rfl) rfl rfl rfl rfl (by rw[j];decide) ?_;rw[j];simp -implicitDefEqProofs (maxSteps:=2000000) [g0,g1,g2,g3,g4,g5,bM];exact⟨rfl,hi,by omega,hL⟩
    |_=>exact h.elim
   |_=>exact h.elim
  |_=>exact h.elim
 |_=>exact h.elim
set_option maxRecDepth 100000 in
theorem FI:wE prog 146:=by
 refine⟨by kernel_rfl,λn args w=>?_⟩;refine callsDIn_of_wpSIn func146 rfl trivial λf i g=>?_;apply wpSIn_seq;apply wpSIn_region
 have a:∀k,k<f146.ntmps->k<args.size+(f146.ntmps-args.size):=by intro k h;omega
 rw[ntmps146]at a;have b:=a 0 (by decide);have c:=a 1 (by decide);have d:=a 2 (by decide);have e:=a 3 (by decide);simp[wpOpsSIn,go_sem,recoverD,g,ntmps146,Exit.thenS,b,c,d,e];refine wpSIn_cond (t:=false) (by simp[Act.eval,b,c,d,e]) ?_;simp only[T3,Ud];refine wpSIn_of_wpIn rfl (wpIn_skip ?_);cases f
 simp_all[bodyPostS,results,results146]
def kK(a:List av)(d:Int)(b:List av)(e:Int)(c:List Vc):Vc×Bool:=match(mT a d b e c).find? (λn=>ju n a d b e)with
 |some n=>(n,true)
 |none=>((0,0,0),false)
theorem Hj{α:Type}{p:α->Bool}{l:List α}(h:∀j x,j<l.length->l[j]?=some x->p x=false):l.find? p=none:=by
 rw[U9];intro x b;obtain⟨j,a,rfl⟩:=Vk.1 b;rw[h j _ a (an a)];simp
theorem vN{α:Type}{p:α->Bool}:∀{l:List α}{i:Nat}{v:α},l[i]?=some v->p v=true->(∀j x,j<i->l[j]?=some x->p x=false)->l.find? p=some v
 |[],i,v,h,_,_=>by simp at h
 |y::l,0,v,h,hp,_=>by simp at h;subst h;simp[hp]
 |y::l,i+1,v,h,hp,hq=>by
  have a:=hq 0 y (by omega) rfl;rw[List.find?_cons,a];exact vN (by simpa using h) hp λj x c b=>hq (j+1) x (by omega) (by simpa using b)
abbrev FK:List Nat:=[5,6,7,8,10,11]
abbrev NL(a:List av)(c:Int)(b:List av)(d:Int):Nat->List PV:=λk=>if k=5 then[aH a]else if k=6 then[Z c]else if k=7 then[aH b]else if k=8 then[Z d]else if k=10 then[Z 0,Z 0,Z 0]else[B false]
structure FindI(a:List av)(ra:Int)(b:List av)(rb:Int)(n:Vc)(k:Bool)(h:Hp):Prop where
 h5:h 5=some (.box [.pv (aH a)] false false)
 h6:h 6=some (.box [.pv (Z ra)] false false)
 h7:h 7=some (.box [.pv (aH b)] false false)
 h8:h 8=some (.box [.pv (Z rb)] false false)
 h10:h 10=some (.box [.pv (Z n.1),.pv (Z n.2.1),.pv (Z n.2.2)] false false)
 h11:h 11=some (.box [.pv (B k)] false false)
theorem FindI.all{a:List av}{e:Int}{b:List av}{f:Int}{n:Vc}{k:Bool}{h:Hp}(H:FindI a e b f n k h){j:Nat}(c:j∈FK):∃d,h j=some (.box d false false):=by
 simp only[Uq,Uw,UV]at c;rcases c with rfl|rfl|rfl|rfl|rfl|rfl
 .exact⟨_,H.h5⟩
 .exact⟨_,H.h6⟩
 .exact⟨_,H.h7⟩
 .exact⟨_,H.h8⟩
 .exact⟨_,H.h10⟩
 .exact⟨_,H.h11⟩
def J5(a:List av)(d:Int)(b:List av)(e:Int)(c:List Vc)(i:Nat):Prop:=∀j x,j<i->c[j]?=some x->ju x a d b e=false
def NM(a:List av)(c:Int)(b:List av)(d:Int)(e:List Vc)(i:Nat)(h:Hp):Prop:=∃n,e[i]?=some n/\ju n a c b d=true/\FindI a c b d n true h/\J5 a c b d e i
set_option maxRecDepth 100000 in
theorem SS(a:List av)(q:Int)(b:List av)(r:Int)(c:List Vc)(V:a.length<=9223372036854775807)(W:b.length<=9223372036854775807)(hl:c.length<=9223372036854775807):bf prog 95 [.pv (aH a),.pv (Z q),.pv (aH b),.pv (Z r),.pv (aV c)] [] [] (.pv (.tup [ax (kK a q b r c).1,B (kK a q b r c).2])):=by
 have F:kK a q b r c=match(mT a q b r c).find? (λn=>ju n a q b r)with
  |some n=>(n,true)
  |none=>((0,0,0),false):=rfl
 have hit:=PZ a q b r c V W hl;generalize mT a q b r c=L at *;refine Eh (args:=[aH a,Z q,aH b,Z r,aV c]) func95 rfl (by kernel_rfl) (by simp[f95]) ?_;intro C hP hN H;simp only[f95]at hN|-;have hF:=gJ;refine ow.seq H ?_;refine GV trivial ?_;refine ow.defer (pre:=[_]) (hn:=[]) (g:=146) rfl (λo Y c' R=>by simp at Y;subst Y;cases R) rfl rfl rfl rfl rfl (by rw[hP];exact FI) ?_;simp -implicitDefEqProofs [hP,hN];refine ow.rangeS (kd:=[12]) H (gf:=196) (caps:=rG a q b r c) (xs:=L.map ax) (by rw[hP];exact hit) (by rw[hN];decide) (ks:=FK) (hin:=NL a q b r) (t:=λm=>if m∈FK then .ptr m 0 else .undef) ?_ (λi h=>FindI a q b r (0,0,0) false h/\h 12=none/\J5 a q b r L i) (λi h=>NM a q b r L i h) ?_ ?_ ?_ ?_ (by kernel_rfl) (hn:=[]) ?_ ?_
 .skip
  have q1:=PY a q b r c;refine GV trivial ?_;refine⟨⟨rfl,rfl,rfl,rfl,rfl,rfl⟩,λm=>?_⟩;by_cases X:m=5\/m=6\/m=7\/m=8\/m=10\/m=11
  .rcases X with rfl|rfl|rfl|rfl|rfl|rfl<;>simp
  .simp only[TZ X];simp
   omega
 .refine⟨by constructor<;>rfl,rfl,λj x hj=>by omega⟩
 .rintro i h k S ⟨hi,_⟩
  exact hi.all S
 .rintro i h k S ⟨n,_,_,hi,_⟩
  exact hi.all S
 .intro C1 C2 l i x h P N Q O K ⟨hI,p,hq⟩
  rw[T0,TX]at K;obtain⟨v,K,rfl⟩:=K;have hF:=zk l;have J:=hP;have I:=hN;clear hP hN;have hP:=P.trans J;have hN:=N.trans I;have u:=Q.trans J;have s:=O.trans I;obtain⟨y,z,A,D,d,f⟩:=hI;have M:=QX v a q b r V W
  cases G:ju v a q b r with
  |true=>
   rw[G]at M
   repeat' (first
    |with_reducible refine aI.seq ?_
    |(with_reducible ((first|refine aI.region hF (hn:=[]) (by kernel_rfl) ?_|refine lF (M) ?_|refine aI.cond' ?_);simp -implicitDefEqProofs (maxSteps:=2000000) [hP,hN,u,s,mN,y,z,A,D,d,f,p]))
    |(with_reducible refine gc (by simp[u,s,mN,y,z,A,D,d,f,p]) (λhgd=>?_) (λhgd=>?_)<;>first|(exfalso;simp at hgd;done)|(exfalso;simp at hgd;omega)|simp -implicitDefEqProofs (maxSteps:=2000000) [hP,hN,u,s,mN,y,z,A,D,d,f,p])
    |with_reducible refine eV ?_ ?_
    |(with_reducible refine dY (λhcd=>?_) (λhcd=>?_)<;>(try (exfalso;clear hP hN;simp_all;done))<;>(try (exfalso;simp at *;omega)))
    |with_reducible refine aI.block ?_
    |(with_reducible ((first|refine aI.skip ?_|refine aI.exit ?_|refine aI.ret ?_);simp[u,s,mN,y,z,A,D,d,f,p])))
   exact⟨v,K,G,by constructor<;>simp[y,z,A,D,d,f],hq⟩
  |false=>
   rw[G]at M
   repeat' (first
    |with_reducible refine aI.seq ?_
    |(with_reducible ((first|refine aI.region hF (hn:=[]) (by kernel_rfl) ?_|refine lF (M) ?_|refine aI.cond' ?_);simp -implicitDefEqProofs (maxSteps:=2000000) [hP,hN,u,s,mN,y,z,A,D,d,f,p]))
    |(with_reducible refine gc (by simp[u,s,mN,y,z,A,D,d,f,p]) (λhgd=>?_) (λhgd=>?_)<;>first|(exfalso;simp at hgd;done)|(exfalso;simp at hgd;omega)|simp -implicitDefEqProofs (maxSteps:=2000000) [hP,hN,u,s,mN,y,z,A,D,d,f,p])
    |with_reducible refine eV ?_ ?_
    |(with_reducible refine dY (λhcd=>?_) (λhcd=>?_)<;>(try (exfalso;clear hP hN;simp_all;done))<;>(try (exfalso;simp at *;omega)))
    |with_reducible refine aI.block ?_
    |(with_reducible ((first|refine aI.skip ?_|refine aI.exit ?_|refine aI.ret ?_);simp[u,s,mN,y,z,A,D,d,f,p])))
   refine⟨by constructor<;>simp[St.kill,bT,aB,y,z,A,D,d,f],by simp[St.kill],λj x hj E=>?_⟩;by_cases e:j=i
   .subst e;rw[K]at E;injection E with E;subst E;exact G
   .exact hq j x (by omega) E
 .rintro h ⟨⟨y,z,A,D,d,f⟩,p,hq⟩
  rw[Uu]at hq;have hn:L.find? (λn=>ju n a q b r)=none:=Hj hq;rw[hn]at F;rw[F];simp -implicitDefEqProofs [hP,hN,y,z,A,D,d,f]
 .rintro i h hi ⟨n,T,U,⟨y,z,A,D,d,f⟩,hq⟩
  rw[vN T U hq]at F;rw[F];simp -implicitDefEqProofs [hP,hN,y,z,A,D,d,f]
abbrev FL(SH:List Sh)(PR:List (Nat×Nat))(PT:List (List av)):PV:=.agg [.sl (SH.map dc),.sl (PR.map qM),.sl (PT.map aH)]
abbrev NO(a b:List av)(c d:Int):PV:=.agg [aH a,aH b,Z c,Z d]
def dN(PT:List (List av))(i:Nat):List av:=(PT[i]?).getD []
def du(SH:List Sh)(i:Nat):Int:=((SH[i]?).map Sh.rad).getD 0
structure BdOk(SH:List Sh)(PR:List (Nat×Nat))(PT:List (List av)):Prop where
 len:PT.length=SH.length
 prs:∀p∈PR,p.1<SH.length/\p.2<SH.length
 BG:SH.length<=24
 few:PR.length<=576
 pts:∀l∈PT,l.length<=8
theorem ST(SH:List Sh)(PR:List (Nat×Nat))(PT:List (List av))(l:BdOk SH PR PT)(k:Nat)(p:Nat×Nat)(hp:PR[k]?=some p):aO 94 (FL SH PR PT) (Z k) (NO (dN PT p.1) (dN PT p.2) (du SH p.1) (du SH p.2)):=by
 obtain⟨r,e⟩:=th.1 hp;obtain⟨i,j⟩:=p;have hpr:=l.prs _ (Is hp);simp only at hpr;have H:=l.len;have z:∀h,PR[k]'h=(i,j):=λ_=>e
 have D:i<PT.length:=by omega
 have E:j<PT.length:=by omega
 obtain⟨a,d⟩:∃x,PT[i]?=some x:=⟨_,an D⟩;obtain⟨b,c⟩:∃x,PT[j]?=some x:=⟨_,an E⟩;obtain⟨u,f⟩:∃x,SH[i]?=some x:=⟨_,an hpr.1⟩;obtain⟨v,g⟩:∃x,SH[j]?=some x:=⟨_,an hpr.2⟩
 have s:∀h,PT[i]'h=a:=λh=>by rw[an h]at d;exact UJ d
 have y:∀h,PT[j]'h=b:=λh=>by rw[an h]at c;exact UJ c
 have A:∀h,SH[i]'h=u:=λh=>by rw[an h]at f;exact UJ f
 have B:∀h,SH[j]'h=v:=λh=>by rw[an h]at g;exact UJ g
 have m:dN PT i=a:=by simp[dN,d]
 have n:dN PT j=b:=by simp[dN,c]
 have o:du SH i=u.rad:=by simp[du,f]
 have q:du SH j=v.rad:=by simp[du,g]
 rw[m,n,o,q];obtain⟨F,G⟩:=hpr;refine Dp func94 λC hP hN=>?_;exact Gy
def gk(s:Sce)(bx:List Iv):Bool:=decide (aZ s=0)&&kj s.js bx
theorem FM{p:Nat×Nat}(h:p∈dB s):p.1<p.2/\p.2<s.shs.length/\gC s p.1 p.2=true:=by
 have b:∀i k,k<=s.shs.length->p∈lp s i k->p.1<p.2/\p.2<s.shs.length/\gC s p.1 p.2=true:=by
  intro i k
  induction k with
  |zero=>intro _ h;cases h
  |succ k ih=>
   intro c h;rw[lp,Uf]at h;rcases h with h|h
   .exact ih (by omega) h
   .split at h
    .rename_i a
     rw[Uz]at h;subst h;exact⟨a.1,by omega,a.2⟩
    .cases h
 have hN:∀i,p∈jM s i->p.1<p.2/\p.2<s.shs.length/\gC s p.1 p.2=true:=by
  intro i
  induction i with
  |zero=>intro h;cases h
  |succ i ih=>
   intro h;rw[jM,Uf]at h;rcases h with h|h
   .exact ih h
   .exact b i _ (T8 _) h
 unfold dB at h;split at h
 .exact hN _ h
 .cases h
theorem FO{bx:List Iv}(h:gk s bx=true):BdOk s.shs (dB s) (fK s bx):=by
 simp only[gk,An,L4]at h;obtain⟨e,f,v3,v4,g,c,i⟩:=nD h.1;have a:=wQ s s.shs.length;have d:s.shs.length*s.shs.length<=24*24:=Vj v4 v4;refine⟨by simp[fK],λp hp=>?_,v4,?_,λl a=>?_⟩
 .have:=FM hp;omega
 .unfold dB;rw[T6 h.1];omega
 .obtain⟨x,b,rfl⟩:=Uo.1 a
  have:=(c x b).2;simp only[gB,An,L4]at this;simp only[eO,Uu];omega
def J6(bx:List Iv)(i:Nat):Prop:=∀k x,k<i->bx[k]?=some x->vI x=true
theorem SU(s:Sce)(bx:List Iv)(hs:ScL s)(z:bx.length<=9223372036854775807):aO 93 (gb s) (iv bx) (.tup (if gk s bx then[FL s.shs (dB s) (fK s bx),B true]else[FL [] [] [],B false])):=by
 have hd:gk s bx=(decide (aZ s=0)&&(decide (bx.length=s.js.length)&&bx.all vI)):=rfl;have cc:=Hq s hs;have I:=hs.js;by_cases d:aZ s=0
 case neg=>
  have o:(aZ s !=0)=true:=by simp[d]
  rw[U0 d,UB]at hd;rw[hd];refine Dp func93 λC hP hN=>?_;exact Gy
 have o:(aZ s !=0)=false:=by simp[d]
 by_cases e:bx.length=s.js.length
 case neg=>
  have q:((bx.length:Int)!=(s.js.length:Int))=true:=by simp;omega
  have G:¬(bx.length:Int)=(s.js.length:Int):=by omega
  rw[U0 e,UB,Vl]at hd;rw[hd];refine Dp func93 λC hP hN=>?_;exact Gy
 have q:((bx.length:Int)!=(s.js.length:Int))=false:=by simp[e]
 have H:kj s.js bx=bx.all vI:=by
  show(decide (bx.length=s.js.length)&&bx.all vI)=_;rw[UA e,Un]
 rw[UA d,UA e,Un,Un]at hd;rw[hd];have j:=QG s bx hs d;rw[H]at j;have cR:=QB s hs;generalize fK s bx=PT at *;generalize dB s=PR at *;refine Dp func93 λC hP hN=>?_;refine Gz ?_;refine WP.loopN [7] bx.length (λi st=>st.t 1=.pv (iv bx)/\st.t 2=.ptr 2 0/\st.h 2=some (.box [.pv (.sl (s.js.map bR)),.pv (.sl (s.ms.map dC)),.pv (.sl (s.shs.map dc)),.pv (.sl (s.sks.map aP))] true false)/\st.t 4=.ptr 4 0/\st.h 4=some (.box [.pv (.val (.slice none 0 0)),.pv (.val (.slice none 0 0)),.pv (.val (.slice none 0 0))] true false)/\st.t 21=.pv (iv bx)/\st.t 22=.pv (Z bx.length)/\st.t 23=.pv (Z i)/\st.h 7=none/\J6 bx i) ?_ ?_
 .simp[e]
  exact λk x J=>by omega
 rintro i st hi ⟨g1,g2,r,g4,u,l,m,n,y,hq⟩;by_cases b:i<bx.length
 .have E:=am b z
  generalize g:bx[i]=v at *
  have F:bx[i]?=some v:=by rw[an b,g]
  have cv:=jT v.1 v.2;have jN:vI v=aw v.1 v.2:=rfl;have D:=m9 (p:=vI) F hq
  cases c:aw v.1 v.2 with
  |true=>
   rw[c]at cv;have f:J6 bx (i+1):=D c;refine GT (zAd g1 g2 r g4 u l m n y b F (gA g E)) ?_
   all_goals exact f
  |false=>
   rw[c]at cv
   have a:bx.all vI=false:=by
    cases h:bx.all vI with
    |false=>rfl
    |true=>rw[TY]at h;have:=h v (Is F);rw[jN,c]at this;cases this
   rw[a];exact Gy
 .have A:i=bx.length:=by omega
  subst A;have a:bx.all vI=true:=oX hq b;have j:=j a;rw[a];exact Gy
def IM(SH:List Sh)(PT:List (List av))(n:Vc)(p:Nat×Nat):Bool:=ju n (dN PT p.1) (du SH p.1) (dN PT p.2) (du SH p.2)
def NP(SH:List Sh)(PR:List (Nat×Nat))(PT:List (List av))(ns:List Vc)(i:Nat):Prop:=∀k n p,k<i->ns[k]?=some n->PR[k]?=some p->IM SH PT n p=true
def wM(SH:List Sh)(PR:List (Nat×Nat))(PT:List (List av))(ns:List Vc):Bool:=decide (ns.length=PR.length)&&(ns.zip PR).all λx=>IM SH PT x.1 x.2
theorem Hk{SH:List Sh}{ns:List Vc}(b:ns.length=PR.length)(h:NP SH PR PT ns ns.length):wM SH PR PT ns=true:=by
 simp only[wM,An,L4,TY];refine⟨b,λx c=>?_⟩;obtain⟨k,a,rfl⟩:=Vk.1 c;rw[List.length_zip]at a;rw[List.getElem_zip];exact h k _ _ (by omega) (an (by omega)) (an (by omega))
def rH(SH:List Sh)(PT:List (List av))(x y:List Int)(p:Nat×Nat):Bool:=oa x y (dN PT p.1) (du SH p.1) (dN PT p.2) (du SH p.2)&&decide (0<=lM x y (dN PT p.1) (du SH p.1) (dN PT p.2) (du SH p.2))
structure Wit where
 pair:Int
 a:List Int
 b:List Int
abbrev NQ(w:Wit):PV:=.agg [Z w.pair,zs w.a,zs w.b]
def IN(SH:List Sh)(PR:List (Nat×Nat))(PT:List (List av))(w:Wit):Bool:=decide (0<=w.pair)&&match PR[w.pair.toNat]? with
 |some p=>rH SH PT w.a w.b p
 |none=>false
set_option maxRecDepth 100000 in
@[simp] theorem R0:fx prog 92:=by
 have hf:=func92;have nt:=ntmps92;have rs:=results92;exact JT
@[simp] theorem TM:s6 prog 168=true:=by kernel_rfl
@[simp] theorem TN:s6 prog 166=true:=by kernel_rfl
structure Vd where
 kind:Int
 ns:List Vc
 w:Wit
abbrev zI(v:Vd):PV:=.agg [Z v.kind,aV v.ns,Z v.w.pair,zs v.w.a,zs v.w.b]
abbrev NR(ns:List Vc):PV:=.ifc 168 (.agg [aV ns])
abbrev NS(w:Wit):PV:=.ifc 166 (NQ w)
theorem vS(ns:List Vc):bk 99 (NR ns) (zI ⟨1,ns,⟨0,[],[]⟩⟩):=by
 refine Dp func99 λC hP hN=>?_;exact Gy
theorem vC(w:Wit):bk 99 (NS w) (zI ⟨2,[],w⟩):=by
 refine Dp func99 λC hP hN=>?_;exact Gy
def CY(s:Sce)(bx:List Iv)(ns:List Vc):Bool:=gk s bx&&wM s.shs (dB s) (fK s bx) ns
def CZ(s:Sce)(bx:List Iv)(w:Wit):Bool:=gk s bx&&IN s.shs (dB s) (fK s bx) w
def aY(v:Vd):Verd:=⟨v.kind,v.ns,v.w.pair,v.w.a,v.w.b⟩
def kh(a:List Vc)(k:Nat):List Vc:=(a.drop k).take 1
def qo(SH:List Sh)(PT:List (List av))(a:List Vc)(k:Nat)(p:Nat×Nat):Vc×Bool:=kK (dN PT p.1) (du SH p.1) (dN PT p.2) (du SH p.2) (kh a k)
def qd(SH:List Sh)(PT:List (List av))(p:Nat×Nat):Int×NSt:=jm (aE (dN PT p.1)) (aE (dN PT p.2)) (du SH p.1+du SH p.2) 64
def dT(SH:List Sh)(PR:List (Nat×Nat))(PT:List (List av))(a:List Vc):List Vc:=PR.mapIdx λk p=>(qo SH PT a k p).1
def jh(SH:List Sh)(PR:List (Nat×Nat))(PT:List (List av))(a:List Vc):Nat->Nat->Bool->Vd
 |0,_,b=>if b then⟨1,dT SH PR PT a,⟨0,[],[]⟩⟩else⟨0,dT SH PR PT a,⟨0,[],[]⟩⟩
 |f+1,k,b=>match PR[k]? with
  |some p=>if(qo SH PT a k p).2=true then jh SH PR PT a f (k+1) b
   else if rH SH PT (qd SH PT p).2.w (qd SH PT p).2.v p=true then⟨2,[],⟨k,(qd SH PT p).2.w,(qd SH PT p).2.v⟩⟩
   else jh SH PR PT a f (k+1) false
  |none=>if b then⟨1,dT SH PR PT a,⟨0,[],[]⟩⟩else⟨0,dT SH PR PT a,⟨0,[],[]⟩⟩
def bw(s:Sce)(bx:List Iv)(a:List Vc):Vd:=if gk s bx then jh s.shs (dB s) (fK s bx) a (dB s).length 0 true else⟨0,[],⟨0,[],[]⟩⟩
theorem EK{bx:List Iv}(h:gk s bx=true)(i:Nat):0<=du s.shs i/\du s.shs i<=1048576:=by
 simp only[gk,An,L4]at h;obtain⟨_,_,_,_,_,b,_⟩:=nD h.1;unfold du
 cases a:s.shs[i]? with
 |none=>simp
 |some u=>
  have:=(b u (Is a)).2;simp only[gB,An,L4]at this;simp only[UL,Ug];omega
theorem od{l:List av}(h:l.length<=8):(aE l).length<=8:=by unfold aE;split<;>simp<;>omega
theorem ut{SH:List Sh}(a:BdOk SH PR PT)(i:Nat):(dN PT i).length<=8:=by
 unfold dN
 cases h:PT[i]? with
 |none=>simp
 |some l=>exact a.pts l (Is h)
theorem KT{a:List av}{c:Int}{b:List av}{d:Int}{h:List Vc}(hf:(kK a c b d h).2=false):(kK a c b d h).1=(0,0,0):=by
 unfold kK at hf|-;split
 .rename_i n e;rw[e]at hf;cases hf
 .rfl
theorem vO(a b:List Vc)(rho st:Int):(jm a b rho st).2.w.length<=8/\(jm a b rho st).2.v.length<=8:=by
 unfold jm;split
 .rename_i h
  simp only[qL,An]at h;have c:=jY.1 h.1.1.1;have d:=jY.1 h.1.1.2;have:=un (rho:=rho) (steps:=st.toNat) h.1.1.1 h.1.1.2 (st.toNat+1) (sx a b) (CX c.1 d.1);rw[this.wl,this.vl];exact⟨c.2.1,d.2.1⟩
 .simp
theorem Ar(l:List Vc):(l.map ax).all (qg 3)=true:=by
 rw[TY];intro x a;obtain⟨v,_,rfl⟩:=Uo.1 a;rfl
theorem C4(a:List Vc)(i:Nat)(z:Option Value)(e n:Nat)(y:Option Value):lU {size:=n,zero:=z,kind:=TK.slice e 3 24 y} (.pv (aV a)) (some (.pv (.val (.int .i64 (if a.length<i then(a.length:Int)else(i:Int)))))) (some (.pv (.val (.int .i64 (min ((i:Int)+1) (a.length:Int))))))=some (.pv (aV (kh a i))):=by
 have b:0<=(if a.length<i then(a.length:Int)else(i:Int)):=by split<;>omega
 have c:0<=min ((i:Int)+1) (a.length:Int):=by omega
 have d:(if a.length<i then(a.length:Int)else(i:Int)).toNat=min i a.length:=by split<;>omega
 have f:(min ((i:Int)+1) (a.length:Int)).toNat=min (i+1) a.length:=by omega
 simp only[lU,T6 b,T6 c,d,f,Uu];rw[T6 ⟨by omega,by omega,by decide,Ar a⟩]
 congr 3
 rw[<-List.map_take,<-WL]
 congr 1
 unfold kh;by_cases h:i<a.length
 .rw[show min i a.length=i by omega,show min (i+1) a.length=i+1 by omega,List.drop_take,show i+1-i=1 by omega]
 .rw[show min i a.length=a.length by omega,show min (i+1) a.length=a.length by omega,VX,List.drop_length,Wj (by omega)];rfl
theorem OB(s:Sce)(bx:List Iv)(a:List Vc)(hs:ScL s)(a2:bx.length<=9223372036854775807)(hh:a.length<=9223372036854775807):mm 38 (gb s) (iv bx) (aV a) (zI (bw s bx a)):=by
 have cp:=SU s bx hs a2
 have hd:bw s bx a=if gk s bx then jh s.shs (dB s) (fK s bx) a (dB s).length 0 true else⟨0,[],⟨0,[],[]⟩⟩:=rfl
 cases hp:gk s bx with
 |false=>
  rw[hp]at cp hd;simp only[T3,Ud]at hd;rw[hd];refine Dp func38 λC hP hN=>?_;exact Gy
 |true=>
 rw[hp]at cp hd;simp only[Ui]at hd;have W:=FO hp;have S:=EK hp;rw[hd];generalize dB s=PR at *;generalize fK s bx=PT at *;generalize s.shs=c at *;have bc:=W.few;generalize b:jh c PR PT a PR.length 0 true=X at *;generalize n:(dT c PR PT a).map ax=K
 have N:K.length=PR.length:=by rw[<-n];simp[dT]
 have P:∀k p,PR[k]?=some p->K[k]?=some (ax (qo c PT a k p).1):=λk q L=>by rw[<-n,dT,T0,List.getElem?_mapIdx,L];rfl
 refine Dp func38 λC hP hN=>?_;refine GT (gA (show(24:Int)*(PR.length:Int)<=281474976710656 by omega) (show(PR.length:Int)<=9223372036854775807 by omega)) ?_;refine WP.loopN [12,14,16] PR.length (λi st=>∃R:List PV,∃M:Bool,jh c PR PT a (PR.length-i) i M=X/\st.t 2=.pv (aV a)/\st.t 6=.ptr 6 0/\st.h 6=some (.box [.pv (Z 0),.pv (.val (.slice none 0 0)),.pv (Z 0),.pv (.val (.slice none 0 0)),.pv (.val (.slice none 0 0))] true false)/\st.t 7=.ptr 7 0/\st.h 7=some (.box [.pv (.sl (c.map dc)),.pv (.sl (PR.map qM)),.pv (.sl (PT.map aH))] true false)/\st.t 9=.arr 30 PR.length/\st.t 10=.pv (B M)/\st.t 33=.pv (Z PR.length)/\st.t 34=.pv (Z i)/\st.h 12=none/\st.h 14=none/\st.h 16=none/\st.h 30=some (.row 68 3 R 0)/\R.length=PR.length/\(∀k,i<=k->k<PR.length->R[k]?=some (n5 0 0 0))/\∀k,k<i->R[k]?=K[k]?) ?_ ?_
 .refine⟨List.replicate PR.length (n5 0 0 0),true,b,?_⟩
  simp
  try (intro k L;first|exact L|simp[Us,L])
 rintro i st hi ⟨R,M,b,g2,T,A,U,D,V,u,x,z,f,g,j,d,r,G,hR⟩;by_cases l:i<PR.length
 .have I:=am l (by omega)
  obtain⟨p,hp⟩:∃p,PR[i]?=some p:=⟨_,an l⟩;have o:=G i (T8 _) l;have H:=pM o
  have a6:i<R.length:=by omega
  have cc:=ST c PR PT W i p hp;have r1:=S p.1;have r2:=S p.2;have l1:=ut W p.1;have l2:=ut W p.2;have Y:=SS (dN PT p.1) (du c p.1) (dN PT p.2) (du c p.2) (kh a i) (by omega) (by omega) (by simp[kh];omega);have a5:qo c PT a i p=kK (dN PT p.1) (du c p.1) (dN PT p.2) (du c p.2) (kh a i):=rfl;rw[<-a5]at Y;rw[show PR.length-i=(PR.length-i-1)+1 by omega]at b;simp only[jh,hp]at b;have O:=P i p hp
  have k2:∀k,k<i+1->(R.set i (ax (qo c PT a i p).1))[k]?=K[k]?:=λk h1=>by
   rw[T9];by_cases e:i=k
   .subst e;rw[T6 rfl,T6 a6,O]
   .rw[TZ e];exact hR k (by omega)
  have k1:∀y k,i+1<=k->k<PR.length->(R.set i y)[k]?=some (n5 0 0 0):=λy k h1 h2=>by
   rw[T9,TZ (by omega)];exact G k (by omega) h2
  have J:(qo c PT a i p).2=false->∀k,k<i+1->R[k]?=K[k]?:=λhf k h1=>by
   by_cases e:k=i
   .subst e;rw[o,O]
    have:(qo c PT a k p).1=(0,0,0):=KT hf;rw[this]
   .exact hR k (by omega)
  have bb:∀k,i+1<=k->k<PR.length->R[k]?=some (n5 0 0 0):=λk h1 h2=>G k (by omega) h2;generalize qo c PT a i p=F at *;clear P n N
  cases E:F.2 with
  |true=>
   rw[E]at Y b;simp only[Ui]at b;refine GT (zAe g2 T A U D V u x z f g j d r (so l I o H @C4)) ?_;rw[show PR.length-i-1=PR.length-(i+1) by omega]at b;refine⟨R.set i (ax F.1),?_⟩;cases M
   .exact .inl ⟨b,rfl,rfl,by simp[r],k1 _,k2⟩
   .exact .inr ⟨b,rfl,rfl,by simp[r],k1 _,k2⟩
  |false=>
   rw[E]at Y b;simp only[T3,Ud]at b;have J:=J E;have c1:=EP (dN PT p.1) (by omega);have c2:=EP (dN PT p.2) (by omega);have z1:=od l1;have z2:=od l2;have c3:=OA (aE (dN PT p.1)) (aE (dN PT p.2)) (du c p.1+du c p.2) 64 (by omega) (by omega);have ar:qd c PT p=jm (aE (dN PT p.1)) (aE (dN PT p.2)) (du c p.1+du c p.2) 64:=rfl;have a8:=vO (aE (dN PT p.1)) (aE (dN PT p.2)) (du c p.1+du c p.2) 64;rw[<-ar]at c3 a8;have hw:i64.wrap (du c p.1+du c p.2)=du c p.1+du c p.2:=aa;generalize qd c PT p=m at *;have co:=SR m.2.w m.2.v (dN PT p.1) (du c p.1) (dN PT p.2) (du c p.2) (by omega) (by omega) (by omega) (by omega);have ba:rH c PT m.2.w m.2.v p=(oa m.2.w m.2.v (dN PT p.1) (du c p.1) (dN PT p.2) (du c p.2)&&decide (0<=lM m.2.w m.2.v (dN PT p.1) (du c p.1) (dN PT p.2) (du c p.2))):=rfl;rw[<-ba]at co
   cases Q:rH c PT m.2.w m.2.v p with
   |true=>
    rw[Q]at co b;simp only[Ui]at b;subst b;have cv:=vC ⟨i,m.2.w,m.2.v⟩;exact GS (zAe g2 T A U D V u x z f g j d r (s4 l I o H @C4 hw))
   |false=>
    rw[Q]at co b;simp only[T3,Ud]at b;rw[show PR.length-i-1=PR.length-(i+1) by omega]at b;refine GT (zAe g2 T A U D V u x z f g j d r (s4 l I o H @C4 hw)) ?_;exact⟨b,bb,J⟩
 .have a7:i=PR.length:=by omega
  subst a7
  have a1:R=K:=by
   apply UF;intro k;by_cases L:k<PR.length
   .exact hR k L
   .rw[Ua (by omega),Ua (by omega)]
  subst a1;rw[VW]at b;simp only[jh]at b;have cv:=vS (dT c PR PT a)
  have ad:(dT c PR PT a).length=PR.length:=by simp[dT]
  cases M with
  |true=>
   simp only[Ui]at b;subst b;rw[<-n]at d;exact GS (zAe g2 T A U D V u x z f g j d N ad)
  |false=>
   simp only[T3,Ud]at b;subst b;rw[<-n]at d;exact Gy
theorem CN(js:List J)(b:Bx):∀i,(ip js b i).1=-1\/∃j:Nat,(ip js b i).1=(j:Int)/\j<i/\∃x,b[j]?=some x/\2<=dH x
 |0=>.inl rfl
 |i+1=>by
  have ih:=CN js b i;have d:(∃j:Nat,(ip js b i).1=(j:Int)/\j<i/\∃x,b[j]?=some x/\2<=dH x)->∃j:Nat,(ip js b i).1=(j:Int)/\j<i+1/\∃x,b[j]?=some x/\2<=dH x:=λ⟨j,a,c,e⟩=>⟨j,a,by omega,e⟩;simp only[ip];split
  .rename_i f x a c
   split
   .rename_i h;exact .inr ⟨i,rfl,by omega,x,c,h.1⟩
   .exact ih.imp id d
  .exact ih.imp id d
theorem Ha{x:Int×Int}(h:aw x.1 x.2=true):dH x=x.2-x.1:=by
 have:=eH.1 h;rw[dH,h];simp only[Ui];exact aa (by omega) (by omega)
theorem ua(js:List J)(ms:List Ms)(b:Bx):dP js ms b=-1\/∃j:Nat,dP js ms b=(j:Int)/\j<b.length/\b.length=js.length/\bi vI b=true/\∃x,b[j]?=some x/\2<=x.2-x.1:=by
 unfold dP;split
 .rename_i h
  simp only[si,An,L4]at h;rcases CN js b js.length with e|⟨j,d,g,x,a,c⟩
  .exact .inl e
  .have f:aw x.1 x.2=true:=eZ.1 h.1.2 _ (Is a)
   rw[Ha f]at c;exact .inr ⟨j,d,by omega,h.1.1,h.1.2,x,a,c⟩
 .exact .inl rfl
def fH(js:List J)(ms:List Ms)(w:Int)(b:Bx):Bool:=decide (0<=dP js ms b)&&match b[(dP js ms b).toNat]? with
 |some x=>decide (w<x.2-x.1)
 |none=>false
def ic(js:List J)(ms:List Ms)(w:Int)(t:Tr):List Bool:=(al t).map (fH js ms w)
def ma(t:Tr)(op:List Bool)(p q:List Int)(sort:Int):Bool:=aX t.cells.length (sU t.cells op sort) (aq (al t) q) (aq (al t) p) (de (al t))
def CO(t:Tr)(op:List Bool)(p q:List Int)(sort:Int):List Nat:=eI t.cells.length (sU t.cells op sort) (aq (al t) q) (aq (al t) p) (de (al t))
def zC(t:Tr)(p q:List Int):Bool:=aK t&&jU t.root p&&jU t.root q
def FC(t:Tr)(p q:List Int)(sort:Int):Bool:=zC t p q&&ma t (ic [] [] 1 t) p q sort
def JX(t:Tr)(p q:List Int)(sort:Int):List Nat:=if zC t p q then CO t (ic [] [] 1 t) p q sort else[]
abbrev ub(free:Bool):Int:=if free then 0 else 3
def rD(s:Sce)(t:Tr)(i:Int):Bool:=decide (aZ s=0)&&eR t i&&gH s.js s.ms (dq t i)
def lh(s:Sce)(t:Tr)(i:Int):Verd:=aY (bw s (dq t i) (eU t i.toNat).nor)
def j6(s:Sce)(t:Tr)(i:Int):Bool:=rD s t i&&cJ t i (lh s t i)
def iI(s:Sce)(t:Tr)(i:Int):Tr:=if rD s t i then cy t i (lh s t i)else t
def n7(s:Sce)(t:Tr)(i j:Int):Tr:=iI s (dp t i j) t.cells.length
def ud(s:Sce)(t:Tr)(i j:Int):Bool:=dx t i j&&j6 s (dp t i j) t.cells.length&&j6 s (n7 s t i j) (t.cells.length+1)
def mj(s:Sce)(t:Tr)(i j:Int):Tr:=if ud s t i j then iI s (n7 s t i j) (t.cells.length+1)else t
def oB(s:Sce):Tr:=iI s (j0 (af s.js s.ms)) 0
section
variable {n:Nat} {may may' has:Nat->Bool} {tch:Nat->Nat->Bool} (h:∀i,i<n->may i=may' i)
include h
theorem G2:∀i,i<=n->bI n may has i=bI n may' has i
 |0,_=>rfl
 |i+1,hi=>by simp only[bI];rw[G2 i (by omega),h i (by omega)]
theorem G3(s:BS)(k:Nat):∀i,i<=n->bJ may tch s k i=bJ may' tch s k i
 |0,_=>rfl
 |i+1,hi=>by
  simp only[bJ]
  have e:xI may tch (bJ may' tch s k i) k i=xI may' tch (bJ may' tch s k i) k i:=by unfold xI;rw[h i (by omega)]
  rw[G3 s k i (by omega),e]
theorem CE:∀k,bK n may has tch k=bK n may' has tch k
 |0=>by simp only[bK];exact G2 h n (T8 _)
 |k+1=>by simp only[bK];rw[CE k,G3 h _ _ n (T8 _)]
theorem CF{hasF:Nat->Bool}:aX n may has hasF tch=aX n may' has hasF tch/\eI n may has hasF tch=eI n may' has hasF tch:=by
 have a:lr n may has hasF tch=lr n may' has hasF tch:=by unfold lr;rw[CE h]
 have b:aX n may has hasF tch=aX n may' has hasF tch:=by unfold aX;rw[a]
 refine⟨b,?_⟩;unfold eI;rw[a,b,CE h]
end
def je(js:List J)(ms:List Ms)(w:Int)(b:Bx):Int:=if fH js ms w b then dP js ms b else -1
theorem CG{b:Bx}:(je js ms w b != -1)=fH js ms w b:=by
 unfold je
 cases h:fH js ms w b with
 |false=>simp
 |true=>
  have:0<=dP js ms b:=by
   unfold fH at h;simp only[An,L4]at h;exact h.1
  simp;omega
theorem LW{b:Bx}(h:dP js ms b=-1):fH js ms w b=false:=by simp[fH,h]
theorem KK{b:Bx}{j:Nat}{x:Int×Int}(h:dP js ms b=(j:Int))(c:b[j]?=some x):fH js ms w b=decide (w<x.2-x.1):=by
 have a:(0:Int)<=(j:Int):=by omega
 unfold fH;rw[h,Uh,c,UA a,Un]
theorem Ox(js:List J)(ms:List Ms)(b:Bx)(w:Int)(d:js.length<=9223372036854775807)(f:ms.length<=9223372036854775807)(c:b.length<=9223372036854775807):mm 35 (gP js ms) (iv b) (Z w) (Z (je js ms w b)):=by
 have i:=Si js ms b d f c;rcases ua js ms b with a|⟨j,a,k,_,n,x,g,p⟩
 .have e:je js ms w b=-1:=by unfold je;rw[LW a];rfl
  rw[e];rw[a]at i;refine Dp func35 λC hP hN=>?_;exact Gy
 .have e:je js ms w b=if w<x.2-x.1 then(j:Int)else -1:=by
   unfold je;rw[KK a g,a];by_cases h:w<x.2-x.1<;>simp[h]
  rw[e];rw[a]at i;have r:∀h,b[j]'h=x:=λh=>iD g h;have o:=eH.1 (eZ.1 n _ (Is g));have q:i64.wrap (x.2-x.1)=x.2-x.1:=aa
  have m:¬(j:Int)=-1:=by omega
  by_cases h:w<x.2-x.1
  .have l:¬x.2-x.1<=w:=by omega
   rw[T6 h];refine Dp func35 λC hP hN=>?_;exact Gy
  .have l:x.2-x.1<=w:=by omega
   rw[TZ h];refine Dp func35 λC hP hN=>?_;exact Gy
theorem FP(x:Int):0<=x*x:=by
 rcases Wk 0 x with h|h
 .exact UZ h h
 .have:=UZ (show 0<=-x by omega) (show 0<=-x by omega)
  rw[Int.neg_mul_neg]at this;exact this
theorem Sw(t:Tr)(v:Verd)(F:TSm t)(z:DF 16777216 v)(g:cJ t 0 v=true):nH prog 77 ([fg t,Z 0,pA v].map .pv) mi (λr Q=>r=.tup [.agg ([iv t.root].map .pv++[.arr 291 ((cy t 0 v).cells.map bz).length]),.pv (B true)]/\Q=fF 58 8 ((cy t 0 v).cells.map bz)):=by
 have T:cy t 0 v=dg t 0 v:=by unfold cy;rw[T6 g];rfl
 have a:=g;simp only[cJ,An,L4]at a;obtain⟨⟨⟨⟨⟨V,_⟩,h0⟩,l⟩,D⟩,hf⟩:=a
 have d:0<t.cells.length:=by omega
 have U:=F.cells;have G:=OI t (by omega);rw[V]at G
 have x:t.cells≠[]:=by intro e;rw[e]at d;simp at d
 have cc:=JB t F x;generalize E:t.cells[0]=c at *
 have i:t.cells[0]?=some c:=by rw[an d,E]
 have l:dA c=true:=by simpa[eQ,i]using l
 have D:c.v.kind=0:=by simpa[eU,i]using D
 have cl:=Jv c;have I:=Nf v;have cv:=Nj v z;rw[l]at cl;rw[hf]at I
 have p:(c.v.kind !=0)=false:=by simp[D]
 have j:=yE l
 have W:c.joint=-1:=by rw[j];rfl
 have X:c.low=-1:=by rw[j];rfl
 have Y:c.high=-1:=by rw[j];rfl
 clear j
 have s:((dg t 0 v).cells.map bz).length=t.cells.length:=by simp[dg]
 rw[T,s]
 have y:(t.cells.map bz).set 0 (bz (aD v))=(dg t 0 v).cells.map bz:=by simp[dg,Vv]
 clear g F z U
 have u:¬(t.cells.length:Int)<=0:=by omega
 refine Gi func77 BQ ?_;intro C hP hN;simp only[f77]at hN|-
 with_reducible iterate 7 any_goals (first|refine Sp.h ?_|((first|refine Wd ?_|refine Ss.h ?_|refine Sc.h (cc) ?_|(refine Sb.h ?_ ?_ ?_<;>(try intro hgd)<;>try exact Xy))<;>simp -implicitDefEqProofs (maxSteps:=2000000) [hP,hN,sW,mi,d,i,E,p]<;>try refine Yc ?_)|refine X2 ?_ ?_|(refine Xd ?_ ?_<;>intro hcd<;>try exact Xx))
 refine Gl 10 291 (e:=58) (sz:=8) (fz:=0) (xs:=t.cells.map bz) (by simp[ag,mi]) (by simp[ag,mi]) (by omega) (by omega) ?_
 refine WP.of_st (P:=λst=>st.t 1=.pv (Z 0)/\st.t 3=.ptr 3 0/\st.t 5=.ptr 5 0/\st.t 6=.ptr 6 0/\st.t 7=.ptr 7 0/\st.h 3=some (.box [.pv (iv t.root),.pv (.sl (t.cells.map bz))] true false)/\st.h 5=some (.box [.pv (Z v.kind),.pv (aV v.nor),.pv (Z v.pair),.pv (zs v.left),.pv (zs v.right)] true false)/\st.h 6=some (.box [.pv (iv t.root),.arr 291 t.cells.length] true false)/\st.h 7=some (.box [.pv (B false)] true false)/\st.h 291=some (.row 58 8 (t.cells.map bz) 0)/\∀k,290<=k->k≠291->st.h k=none)
  ⟨⟨by simp[bO,bp,ag],by simp[bO,bp,rk,ag],by simp[bO,bp,rk,ag],by simp[bO,bp,rk,ag],by simp[bO,bp,rk,ag],by simp[bC,cZ,bO,bp,rk,ag],by simp[bC,cZ,bO,bp,rk,ag],by simp[bC,cZ,bO,bp,rk,ag],by simp[bC,cZ,bO,bp,rk,ag],by simp[bC,cZ,ag],λk h1 R=>?_⟩,?_⟩
 .simp[bC,ag,mi,R,show¬k=3 by omega,show¬k=5 by omega,show¬k=6 by omega,show¬k=7 by omega,show¬k=10 by omega]
 rintro st ⟨g1,g3,g5,J,K,L,M,b6,N,n,A⟩
 with_reducible repeat' (first|refine Sp.h ?_|((first|refine Wd ?_|refine Ss.h ?_|refine Sc.h (G) ?_|refine Sc.h (cl) ?_|refine Sc.h (I) ?_|refine Sc.h (cv) ?_|(refine Sb.h ?_ ?_ ?_<;>(try intro hgd)<;>try exact Xy))<;>simp -implicitDefEqProofs (maxSteps:=2000000) [hP,hN,g1,g3,g5,J,K,L,M,b6,N,n,d,u,x,i,E,p]<;>try refine Yc ?_)|refine X2 ?_ ?_|(refine Xd ?_ ?_<;>intro hcd<;>try exact Xx))
 have q:291≠6:=by omega
 refine wi (H:=fF 58 8 ((dg t 0 v).cells.map bz)) (r:=.tup [.agg [.pv (iv t.root),.arr 291 t.cells.length],.pv (B true)]) (by simp[mD,k8,J,K]) rfl (λk q=>?_) ⟨λk b m=>?_,λk b o m=>?_,λk b m=>?_,λk O o f m=>?_⟩ ⟨rfl,rfl⟩ (λk O f q=>by cases q)
 .simp only[inK,An,L4]at q
  by_cases e:k=291
  .subst e
   simp only[fF,Ui,<-y];simp[ag,W,X,Y,aD]
  .simp[fF,ag,e,show¬k=6 by omega,show¬k=7 by omega]
   exact A k q.1 e
 .obtain⟨rfl,_⟩:=fV m;rfl
 .obtain⟨_,rfl⟩:=fV m;simp[Blk.frz]
 .obtain⟨_,rfl⟩:=fV m;rfl
 .obtain⟨_,S⟩:=fV m;cases S
set_option maxRecDepth 100000 in
@[simp] theorem RY:fx prog 73:=by
 have hf:=func73;have nt:=ntmps73;have rs:=results73;exact AW
theorem Sx(sc:Sce)(t:Tr)(c:Cel)(hs:ScL sc)(F:TSm t)(Q:aZ sc=0)(j:eR t 0=true)(hi:gH sc.js sc.ms (dq t 0)=true)(u:t.cells[0]?=some c)(s:(dq t 0).length<=9223372036854775807)(y:c.v.nor.length<=9223372036854775807)
 (z:DF 16777216 (aY (bw sc (dq t 0) c.v.nor)))(i:cJ t 0 (aY (bw sc (dq t 0) c.v.nor))=true):
 nH prog 33 ([gb sc,fg t,Z 0].map .pv) mi (λr O=>r=.tup [.agg ([iv t.root].map .pv++[.arr 291 ((cy t 0 (aY (bw sc (dq t 0) c.v.nor))).cells.map bz).length]),.pv (B true)]/\O=fF 58 8 ((cy t 0 (aY (bw sc (dq t 0) c.v.nor))).cells.map bz)):=by
 have I:=Sw t _ F z i;have A:=Hq sc hs;have J:=Sg sc.js sc.ms (dq t 0) hs.js hs.ms;have K:=Ts t 0 (by have:=F.cells;omega);have N:=OB sc (dq t 0) c.v.nor hs s y;rw[Q]at A;rw[hi]at J;rw[j]at K;have a:0<t.cells.length:=(th.1 u).1;have p:∀h,t.cells[0]'h=c:=λh=>iD u h
 have q:((cy t 0 (aY (bw sc (dq t 0) c.v.nor))).cells.map bz).length=t.cells.length:=by
  unfold cy;rw[T6 i];simp[dg]
 have n:¬(t.cells.length:Int)<=0:=by omega
 have x:t.cells≠[]:=by intro e;rw[e]at a;simp at a
 have m:pA (aY (bw sc (dq t 0) c.v.nor))=zI (bw sc (dq t 0) c.v.nor):=rfl;rw[m]at I;clear m i z hi s y F;generalize(cy t 0 (aY (bw sc (dq t 0) c.v.nor))).cells.map bz=Y at *;generalize bw sc (dq t 0) c.v.nor=V at *;generalize dq t 0=bx at *;refine Gi func33 BQ ?_;intro C hP hN;simp only[f33]at hN|-
 with_reducible repeat' (first|refine Sp.h ?_|((with_unfolding_all refine WP.drawX (hn:=[]) 12 rfl (by rw[hP];kernel_rfl) (by kernel_rfl) ?_);simp -implicitDefEqProofs (maxSteps:=2000000) [hP,hN,sW,mi,a,n,x,u,p])|((first|refine Wd ?_|refine Ss.h ?_|refine Sc.h (A) ?_|refine Sc.h (J) ?_|refine Sc.h (K) ?_|refine Sc.h (N) ?_|(refine Sb.h ?_ ?_ ?_<;>(try intro hgd)<;>try exact Xy))<;>simp -implicitDefEqProofs (maxSteps:=2000000) [hP,hN,sW,mi,a,n,x,u,p]<;>try refine Yc ?_)|refine X2 ?_ ?_|(refine Xd ?_ ?_<;>intro hcd<;>try exact Xx))
 refine⟨_,Gk (f:=.func 77) (xs:=[.tmp 33,.tmp 34,.tmp 44]) (g:=77) (d:=45) rfl rfl rfl (by simp[dr]) (by simp[ag,mi]) rfl (by simp[St.ev]) I,?_⟩;simp -implicitDefEqProofs (maxSteps:=2000000) [hP,hN,a,u,p,mi];refine Ya ?_;refine Gl 45 291 (e:=58) (sz:=8) (fz:=0) (xs:=Y) (by simp[ag,mi]) (by simp[ag,mi]) (by omega) (by omega) ?_
 refine WP.of_st (P:=λst=>st.t 6=.ptr 6 0/\st.t 7=.ptr 7 0/\st.h 6=some (.box [.pv (iv t.root),.arr 291 Y.length] true false)/\st.h 7=some (.box [.pv (B true)] true false)/\st.h 291=some (.row 58 8 Y 0)/\∀k,290<=k->k≠291->st.h k=none)
  ⟨⟨by simp[bO,bp,rk,ag],by simp[bO,bp,rk,ag],by simp[bC,cZ,bO,bp,rk,ag],by simp[bC,cZ,bO,bp,rk,ag],by simp[bC,cZ,ag],λk T R=>?_⟩,?_⟩
 .simp[bC,ag,mi,R,show¬k=3 by omega,show¬k=4 by omega,show¬k=6 by omega,show¬k=7 by omega,show¬k=45 by omega]
 rintro st ⟨L,M,b6,G,l,E⟩
 with_reducible repeat' (first|refine Sp.h ?_|((first|refine Wd ?_|refine Ss.h ?_|(refine Sb.h ?_ ?_ ?_<;>(try intro hgd)<;>try exact Xy))<;>simp -implicitDefEqProofs (maxSteps:=2000000) [hP,hN,L,M,b6,G,l]<;>try refine Yc ?_)|refine X2 ?_ ?_|(refine Xd ?_ ?_<;>intro hcd<;>try exact Xx))
 rw[q];refine wi (H:=fF 58 8 Y) (r:=.tup [.agg [.pv (iv t.root),.arr 291 t.cells.length],.pv (B true)]) (by simp[mD,k8,L,M,b6,G,q]) rfl (λk D=>?_) ⟨λk b j=>?_,λk b o j=>?_,λk b j=>?_,λk A o f j=>?_⟩ ⟨rfl,rfl⟩ (λk A f D=>by cases D)
 .simp only[inK,An,L4]at D
  by_cases e:k=291
  .subst e;simp[fF,l]
  .simp[fF,e]
   exact E k D.1 e
 .obtain⟨rfl,_⟩:=fV j;rfl
 .obtain⟨_,rfl⟩:=fV j;simp[Blk.frz]
 .obtain⟨_,rfl⟩:=fV j;rfl
 .obtain⟨_,S⟩:=fV j;cases S
end Go.Ab
