/- The contracts and facts that the laws of this seat need, in one text (K12b, K12c, K13, K13b, K13c, Tv, K13d, DeP, DcM, Dc8, K13e, K14, K14b, Dc10, Dc11, AbX). -/
import Derived.Test.YtdbgcnplnhmjgaaGreatV8
set_option linter.all false
set_option maxRecDepth 10000
set_option maxHeartbeats 16000000
namespace Go.Ab
open IntKind (i64)
open Go.Proofs.Tryz
open Go.Proofs
variable {PR:List (Nat×Nat)}{PT:List (List aq)}{js:List J}{ms:List Ms}{s:Sce}{w:Int}
abbrev se(a:List aq)(d:Int)(b:List aq)(e:Int)(c:List Vc):List PV:=[.rptr (aF a) 0,.rptr (aF b) 0,.rptr (Z d) 0,.rptr (Z e) 0,.rptr (aP c) 0]
theorem RE(a:List aq)(d:Int)(b:List aq)(e:Int)(c:List Vc):uw 147 (aF a) (Z d) (aF b) (Z e) (aP c) (.fn (.func 196) [] (se a d b e c)):=by
 refine Dp func147 λC hP hN=>?_;exact Gy
def vq(a:List aq)(c:Int)(b:List aq)(d:Int):Bool:=ay a&&ay b&&bt c 0 1048576&&bt d 0 1048576
def m9(a:List aq)(c:Int)(b:List aq)(d:Int):Vc:=(jD (aA a) (aA b) (c+d) 64).2.n
def nc(a:List aq)(d:Int)(b:List aq)(e:Int)(c:List Vc):List Vc:=
 if vq a d b e then c.filter aR++((if mj a b then[kV a b]else[])++(kU++(if aR (m9 a d b e)then[m9 a d b e]else[])))else[]
theorem EV{α:Type}{p:α->Bool}{l:List α}{k:Nat}{v:α}(a:l[k]?=some v):(l.filter p)=(l.take k).filter p++(if p v then[v]else[])++(l.drop (k+1)).filter p:=by
 obtain⟨h,a⟩:=th.1 a
 have e:l=l.take k++v::l.drop (k+1):=by rw[<-a,Xm];exact(WS k l).symm
 conv=>lhs;rw[e]
 rw[XI,List.filter_cons];split<;>simp
structure CandT(l:Nat)(a:List aq)(ra:Int)(b:List aq)(rb:Int)(hints:List Vc)(t:Nat->AV):Prop where
 g0:t 0=.pv (.val (.func (.yield l) #[] #[]))
 g1:t 1=.pv (.rptr (aF a) 0)
 g2:t 2=.pv (.rptr (aF b) 0)
 g3:t 3=.pv (.rptr (Z ra) 0)
 g4:t 4=.pv (.rptr (Z rb) 0)
 g5:t 5=.pv (.rptr (aP hints) 0)
def AG{P:Program}(E:YEnv P)(a:List aq)(d:Int)(b:List aq)(f:Int)(c:List Vc)(n:Nat):QY:=λe t i s=>match e with
 |.normal=>s=false/\i=n/\CandT E.l a d b f c t
 |.ret=>s=true/\i<E.xs.length
 |_=>False
theorem RF(a:List aq)(A:Int)(b:List aq)(B:Int)(g:List Vc)(ha:a.length<=9223372036854775807)(hb:b.length<=9223372036854775807)(hl:g.length<=9223372036854775807):Cs prog 196 (se a A b B g) ((nc a A b B g).map ao):=by
 refine Jb (c:=(f196.body).getD .skip) func196 rfl (by kernel_rfl) rfl (by simp[f196]) ?_;intro E j G;simp only[f196,V5]at j|-;rw[<-G];have U:CandT E.l a A b B g (tI E.l (se a A b B g)):=⟨rfl,rfl,rfl,rfl,rfl,rfl⟩;generalize tI E.l (se a A b B g)=t at *;obtain⟨g0,g1,g2,g3,g4,g5⟩:=U;have hF:=gV;have ca:=vD a ha;have cb:=vD b hb;have Y:=Oh A;have a2:=Oh B
 have K:nc a A b B g=if vq a A b B then g.filter aR++((if mj a b then[kV a b]else[])++(kU++(if aR (m9 a A b B)then[m9 a A b B]else[])))else[]:=rfl
 have J:vq a A b B=(ay a&&ay b&&bt A 0 1048576&&bt B 0 1048576):=rfl
 cases a1:vq a A b B with
 |false=>
  rw[a1]at K J;simp only[VP,VZ]at K
  have X:E.xs.length=0:=by rw[G,K];rfl
  refine bU.seq ?_;refine bU.walk λC hP hN=>?_;rw[j]at hN;cases M:ay a
  .rw[M]at ca
   refine GV (go g0 g1 g2 g3 g4 g5) ?_
   all_goals exact⟨.inr rfl,by simp[X]⟩
  rw[M]at ca J;cases N:ay b
  .rw[N]at cb
   refine GV (go g0 g1 g2 g3 g4 g5) ?_
   all_goals exact⟨.inr rfl,by simp[X]⟩
  rw[N]at cb J;cases T:bt A 0 1048576
  .rw[T]at Y
   refine GV (go g0 g1 g2 g3 g4 g5) ?_
   all_goals exact⟨.inr rfl,by simp[X]⟩
  rw[T]at Y J
  have V:bt B 0 1048576=false:=by simpa using J.symm
  rw[V]at a2;refine GV (go g0 g1 g2 g3 g4 g5) ?_
  all_goals exact⟨.inr rfl,by simp[X]⟩
 |true=>
 have hk:=a1;rw[J]at hk;simp only[An]at hk;obtain⟨⟨⟨M,N⟩,T⟩,V⟩:=hk;rw[M]at ca;rw[N]at cb;rw[T]at Y;rw[V]at a2;rw[a1]at K;simp only[V8]at K;rw[K]at G;clear K J;refine bU.seq (bU.mono (Q:=AG E a A b B g 0) ?_ ?_)
 .refine bU.walk λC hP hN=>?_
  rw[j]at hN;refine GV (go g0 g1 g2 g3 g4 g5) ?_
  all_goals exact⟨rfl,rfl,by constructor<;>simp[bO,ag,g0,g1,g2,g3,g4,g5]⟩
 clear g0 g1 g2 g3 g4 g5;rintro e t i s h
 cases e with
 |ret=>exact⟨.inr rfl,by obtain⟨rfl,h⟩:=h;exact h⟩
 |normal=>
  obtain⟨rfl,rfl,U⟩:=h;show bU E _ _ _ _ _;refine bU.seq (bU.mono (Q:=AG E a A b B g (g.filter aR).length) ?_ ?_)
  .obtain⟨g0,g1,g2,g3,g4,g5⟩:=U
   refine bU.seq ?_;refine bU.walk λC hP hN=>?_;rw[j]at hN;refine GV (go g0 g1 g2 g3 g4 g5) ?_;show bU E _ _ _ _ _;refine bU.block ?_;refine bU.loopN g.length (λk t i s=>s=false/\i=((g.take k).filter aR).length/\CandT E.l a A b B g t/\t 32=.pv (aP g)/\t 33=.pv (Z g.length)/\t 34=.pv (Z k)) ?_ ?_
   .refine⟨rfl,rfl,?_,?_⟩
    .constructor<;>simp[bO,ag,g0,g1,g2,g3,g4,g5]
    .simp[bO,ag]
   clear g0 g1 g2 g3 g4 g5;rintro k t i s hk ⟨rfl,rfl,⟨g0,g1,g2,g3,g4,g5⟩,q,r,z⟩;refine bU.blocks λC hP hN=>?_;rw[j]at hN;by_cases o:k<g.length
   .have y:=aj o hl
    generalize u:g[k]=v at *
    have I:g[k]?=some v:=by rw[an o,u]
    have cu:=Ej v;have a6:=EV (p:=aR) I
    have W:g.take (k+1)=g.take k++[v]:=by rw[Yb,I];rfl
    refine cG.seq ?_;refine GV (s5 g0 g1 g2 g3 g4 g5 q r z o) ?_;show cG E C _ _ _ _ _;refine cG.seq ?_;refine GV (s5 g0 g1 g2 g3 g4 g5 q r z o) ?_;refine aI.skip ?_;show cG E C _ _ _ _ _;refine cG.seqY (cG.block ?_);refine cG.seq ?_;refine GV (s6 g0 g1 g2 g3 g4 g5 q r z o I u) ?_;show cG E C _ _ _ _ _
    cases O:aR v with
    |true=>
     rw[O]at cu
     have hi:E.xs[((g.take k).filter aR).length]?=some (ao v):=by
      rw[G,a6,O];simp
     refine cG.seqY (cG.yield (hn:=[]) (d:=43) (f:=41) (x:=42) (pre:=[_,_,_,_,_]) (post:=[_,_]) rfl (by kernel_rfl) rfl rfl rfl rfl (by rw[j];decide) ?_);rw[j];simp -implicitDefEqProofs (maxSteps:=2000000) [g0,g1,g2,g3,g4,g5,q,r,z,o,I,u];refine lN cu ?_;simp -implicitDefEqProofs (maxSteps:=2000000) [g0,g1,g2,g3,g4,g5,q,r,z,o,I,u,bO];refine⟨by simp[fU,bO,ag],hi,?_,?_⟩
     .show bU E _ _ _ _ _
      refine bU.cond (b:=true) (by simp[bO,ag]) (λ_=>bU.ret ?_) (λh=>by cases h);exact⟨rfl,(th.1 hi).1⟩
     .show bU E _ _ _ _ _
      refine bU.cond (b:=false) (by simp[bO,ag]) (λh=>by cases h) (λ_=>bU.skip ?_);show bU E _ _ _ _ _;clear hP hN;refine bU.walk λC hP hN=>?_;rw[j]at hN
      repeat' (first
       |with_reducible refine aI.seq ?_
       |(with_reducible ((first|refine aI.region hF (hn:=[]) (by kernel_rfl) ?_|refine aI.cond' ?_);simp -implicitDefEqProofs (maxSteps:=2000000) [hP,hN,g0,g1,g2,g3,g4,g5,q,r,z,o,I,u,y,bO]))
       |(with_reducible refine gi (by simp[g0,g1,g2,g3,g4,g5,q,r,z,o,I,u,y,bO]) (λhgd=>?_) (λhgd=>?_)<;>first|(exfalso;simp at hgd;done)|(exfalso;simp at hgd;omega)|simp -implicitDefEqProofs (maxSteps:=2000000) [hP,hN,g0,g1,g2,g3,g4,g5,q,r,z,o,I,u,y,bO])
       |with_reducible refine eZ ?_ ?_
       |(with_reducible refine dY (λhcd=>?_) (λhcd=>?_)<;>(try (exfalso;clear hP hN;simp_all;done))<;>(try (exfalso;simp at *;omega)))
       |with_reducible refine aI.block ?_
       |(with_reducible ((first|refine aI.skip ?_|refine aI.exit ?_|refine aI.ret ?_);simp[g0,g1,g2,g3,g4,g5,q,r,z,o,I,u,y,bO])))
      repeat' (refine And.intro ?_ ?_)
      all_goals first|rfl|(rw[W,XI];simp[O];done)|(simp[O,W,bO,ag,q,r,y];done)|(constructor<;>simp[bO,ag,g0,g1,g2,g3,g4,g5])
    |false=>
     rw[O]at cu;refine cG.walk ?_;refine GV (s6 g0 g1 g2 g3 g4 g5 q r z o I u) ?_;show bU E _ _ _ _ _;clear hP hN;refine bU.walk λC hP hN=>?_;rw[j]at hN
     repeat' (first
      |with_reducible refine aI.seq ?_
      |(with_reducible ((first|refine aI.region hF (hn:=[]) (by kernel_rfl) ?_|refine aI.cond' ?_);simp -implicitDefEqProofs (maxSteps:=2000000) [hP,hN,g0,g1,g2,g3,g4,g5,q,r,z,o,I,u,y,bO]))
      |(with_reducible refine gi (by simp[g0,g1,g2,g3,g4,g5,q,r,z,o,I,u,y,bO]) (λhgd=>?_) (λhgd=>?_)<;>first|(exfalso;simp at hgd;done)|(exfalso;simp at hgd;omega)|simp -implicitDefEqProofs (maxSteps:=2000000) [hP,hN,g0,g1,g2,g3,g4,g5,q,r,z,o,I,u,y,bO])
      |with_reducible refine eZ ?_ ?_
      |(with_reducible refine dY (λhcd=>?_) (λhcd=>?_)<;>(try (exfalso;clear hP hN;simp_all;done))<;>(try (exfalso;simp at *;omega)))
      |with_reducible refine aI.block ?_
      |(with_reducible ((first|refine aI.skip ?_|refine aI.exit ?_|refine aI.ret ?_);simp[g0,g1,g2,g3,g4,g5,q,r,z,o,I,u,y,bO])))
     repeat' (refine And.intro ?_ ?_)
     all_goals first|rfl|(rw[W,XI];simp[O];done)|(simp[O,W,bO,ag,q,r,y];done)|(constructor<;>simp[bO,ag,g0,g1,g2,g3,g4,g5])
   .have ad:k=g.length:=by omega
    subst ad;refine cG.walk ?_;refine GV (so g0 g1 g2 g3 g4 g5 q (gA r z)) ?_;exact⟨rfl,rfl,by constructor<;>simp[bO,ag,g0,g1,g2,g3,g4,g5]⟩
  clear U;rintro e t i s h
  cases e with
  |ret=>exact⟨.inr rfl,by obtain⟨rfl,h⟩:=h;exact h⟩
  |normal=>
   obtain⟨rfl,rfl,U⟩:=h;show bU E _ _ _ _ _;generalize S:(g.filter aR).length=n1 at *;refine bU.seq (bU.mono (Q:=AG E a A b B g (n1+(if mj a b then[kV a b]else[]).length)) ?_ ?_)
   .obtain⟨g0,g1,g2,g3,g4,g5⟩:=U
    refine bU.blocks λC hP hN=>?_;rw[j]at hN;have cm:=RD a b ha hb;refine cG.seq ?_
    cases ar:mj a b with
    |false=>
     rw[ar]at cm;refine GV (go g0 g1 g2 g3 g4 g5) ?_;show cG E C _ _ _ _ _;refine cG.walk ?_;refine GV (go g0 g1 g2 g3 g4 g5) ?_;exact⟨rfl,by simp,by constructor<;>simp[bO,ag,g0,g1,g2,g3,g4,g5]⟩
    |true=>
     rw[ar]at cm
     have hi:E.xs[n1]?=some (ao (kV a b)):=by rw[G,ar,<-S];simp
     generalize kV a b=v at *;refine GV (go g0 g1 g2 g3 g4 g5) ?_;show cG E C _ _ _ _ _;refine cG.seqY (cG.yield (hn:=[]) (d:=57) (f:=55) (x:=56) (pre:=[_,_,_,_]) (post:=[_,_]) rfl (by kernel_rfl) rfl rfl rfl rfl (by rw[j];decide) ?_);rw[j];simp -implicitDefEqProofs (maxSteps:=2000000) [g0,g1,g2,g3,g4,g5,bO];refine⟨by simp[fU,bO,ag],hi,?_,?_⟩
     .show bU E _ _ _ _ _
      refine bU.cond (b:=true) (by simp[bO,ag]) (λ_=>bU.ret ?_) (λh=>by cases h);exact⟨rfl,(th.1 hi).1⟩
     .show bU E _ _ _ _ _
      refine bU.cond (b:=false) (by simp[bO,ag]) (λh=>by cases h) (λ_=>bU.skip ?_);exact⟨rfl,rfl,by constructor<;>simp[bO,ag,g0,g1,g2,g3,g4,g5]⟩
   clear U;rintro e t i s h
   cases e with
   |ret=>exact⟨.inr rfl,by obtain⟨rfl,h⟩:=h;exact h⟩
   |normal=>
    obtain⟨rfl,rfl,U⟩:=h;show bU E _ _ _ _ _;generalize bq:(if mj a b then[kV a b]else[])=ml at *;generalize a5:n1+ml.length=n2 at *;refine bU.seq (bU.mono (Q:=AG E a A b B g (n2+6)) ?_ ?_)
    .obtain⟨g0,g1,g2,g3,g4,g5⟩:=U
     have a8:=RC;refine bU.seq ?_;refine bU.walk λC hP hN=>?_;rw[j]at hN;refine GV (go g0 g1 g2 g3 g4 g5) ?_;show bU E _ _ _ _ _;refine bU.block ?_;refine bU.loopN 6 (λk t i s=>s=false/\i=n2+k/\CandT E.l a A b B g t/\t 60=.pv (aP kU)/\t 61=.pv (Z 6)/\t 62=.pv (Z k)) ?_ ?_
     .refine⟨rfl,rfl,?_,?_⟩
      .constructor<;>simp[bO,ag,g0,g1,g2,g3,g4,g5]
      .simp[bO,ag]
     clear g0 g1 g2 g3 g4 g5;rintro k t i s hk ⟨rfl,rfl,⟨g0,g1,g2,g3,g4,g5⟩,D,F,H⟩;refine bU.blocks λC hP hN=>?_;rw[j]at hN;by_cases o:k<6
     .have y:i64.wrap ((k:Int)+1)=(k:Int)+1:=aa
      have P:(k:Int)<6:=by omega
      have L:k<kU.length:=o;generalize u:kU[k]=v at *
      have I:kU[k]?=some v:=by rw[an L,u]
      have hi:E.xs[n2+k]?=some (ao v):=by
       rw[G,<-a5,<-S,VN,VR (by omega),VR (by omega),show(g.filter aR).length+ml.length+k-(g.filter aR).length-ml.length=k by omega,VO L,I];rfl
      generalize kU=AX at *;refine cG.seq ?_;refine GV (s5 g0 g1 g2 g3 g4 g5 D F H (gA o P)) ?_;show cG E C _ _ _ _ _;refine cG.seq ?_;refine GV (s5 g0 g1 g2 g3 g4 g5 D F H (gA o P)) ?_;refine aI.skip ?_;show cG E C _ _ _ _ _;refine cG.seqY (cG.block ?_);refine cG.seq ?_;refine GV (s6 g0 g1 g2 g3 g4 g5 D F H o P (be L I u)) ?_;show cG E C _ _ _ _ _;refine cG.seqY (cG.yield (hn:=[]) (d:=68) (f:=66) (x:=67) (pre:=[_,_]) (post:=[_]) rfl (by kernel_rfl) rfl rfl rfl rfl (by rw[j];decide) ?_);rw[j];simp -implicitDefEqProofs (maxSteps:=2000000) [g0,g1,g2,g3,g4,g5,D,F,H,L,I,u,bO];refine⟨by simp[fU,bO,ag],hi,?_,?_⟩
      .show bU E _ _ _ _ _
       refine bU.cond (b:=true) (by simp[bO,ag]) (λ_=>bU.ret ?_) (λh=>by cases h);exact⟨rfl,(th.1 hi).1⟩
      .show bU E _ _ _ _ _
       refine bU.cond (b:=false) (by simp[bO,ag]) (λh=>by cases h) (λ_=>bU.skip ?_);show bU E _ _ _ _ _;clear hP hN;refine bU.walk λC hP hN=>?_;rw[j]at hN
       repeat' (first
        |with_reducible refine aI.seq ?_
        |(with_reducible ((first|refine aI.region hF (hn:=[]) (by kernel_rfl) ?_|refine aI.cond' ?_);simp -implicitDefEqProofs (maxSteps:=2000000) [hP,hN,g0,g1,g2,g3,g4,g5,D,F,H,y,bO]))
        |(with_reducible refine gi (by simp[g0,g1,g2,g3,g4,g5,D,F,H,y,bO]) (λhgd=>?_) (λhgd=>?_)<;>first|(exfalso;simp at hgd;done)|(exfalso;simp at hgd;omega)|simp -implicitDefEqProofs (maxSteps:=2000000) [hP,hN,g0,g1,g2,g3,g4,g5,D,F,H,y,bO])
        |with_reducible refine eZ ?_ ?_
        |(with_reducible refine dY (λhcd=>?_) (λhcd=>?_)<;>(try (exfalso;clear hP hN;simp_all;done))<;>(try (exfalso;simp at *;omega)))
        |with_reducible refine aI.block ?_
        |(with_reducible ((first|refine aI.skip ?_|refine aI.exit ?_|refine aI.ret ?_);simp[g0,g1,g2,g3,g4,g5,D,F,H,y,bO])))
       repeat' (refine And.intro ?_ ?_)
       all_goals first|rfl|(simp[bO,ag,D,F,y];done)|(constructor<;>simp[bO,ag,g0,g1,g2,g3,g4,g5])
     .have ad:k=6:=by omega
      subst ad;refine cG.walk ?_;refine GV (so g0 g1 g2 g3 g4 g5 D (gA F H)) ?_;exact⟨rfl,rfl,by constructor<;>simp[bO,ag,g0,g1,g2,g3,g4,g5]⟩
    clear U;rintro e t i s h
    cases e with
    |ret=>exact⟨.inr rfl,by obtain⟨rfl,h⟩:=h;exact h⟩
    |normal=>
     obtain⟨rfl,rfl,⟨g0,g1,g2,g3,g4,g5⟩⟩:=h;show bU E _ _ _ _ _;refine bU.blocks λC hP hN=>?_;rw[j]at hN;have c1:=FT a ha;have c2:=FT b hb;have bb:=(bZ M).2.1;have bc:=(bZ N).2.1;have ba:=gD M;have J:=gD N;simp only[bt,An,L4]at T V;have hw:i64.wrap (A+B)=A+B:=aa;have c3:=Qk (aA a) (aA b) (A+B) 64 (by omega) (by omega);have a7:(jD (aA a) (aA b) (A+B) 64).2.n=m9 a A b B:=rfl;generalize jD (aA a) (aA b) (A+B) 64=R at *;rw[<-a7]at G;refine cG.draw (hn:=[]) (by kernel_rfl) (by kernel_rfl) ?_;rw[j];simp -implicitDefEqProofs (maxSteps:=2000000) [g0,g1,g2,g3,g4,g5];refine uS c1 ?_;simp -implicitDefEqProofs (maxSteps:=2000000) [g0,g1,g2,g3,g4,g5];refine uS c2 ?_;simp -implicitDefEqProofs (maxSteps:=2000000) [g0,g1,g2,g3,g4,g5,hw];refine uS c3 ?_;simp -implicitDefEqProofs (maxSteps:=2000000) [g0,g1,g2,g3,g4,g5,hw];refine⟨by kernel_rfl,?_⟩;have cu:=Ej R.2.n;refine cG.seq ?_
     cases O:aR R.2.n with
     |false=>
      rw[O]at cu
      have hL:n2+6=E.xs.length:=by
       rw[G,O,Wp,V9,V9,V9,S];simp only[VP,VZ,XE,X0];omega
      refine GV (go g0 g1 g2 g3 g4 g5) ?_;show cG E C _ _ _ _ _;refine cG.walk ?_;refine GV (go g0 g1 g2 g3 g4 g5) ?_
      all_goals exact hL
     |true=>
      rw[O]at cu
      have hL:n2+6+1=E.xs.length:=by
       rw[G,O,Wp,V9,V9,V9,S];simp only[V8,XE,X0];omega
      have hi:E.xs[n2+6]?=some (ao R.2.n):=by
       rw[G,O,<-a5,<-S,VN,VR (by omega),VR (by omega),show(g.filter aR).length+ml.length+6-(g.filter aR).length-ml.length=6 by omega,VR (by decide)];rfl
      refine GV (go g0 g1 g2 g3 g4 g5) ?_;show cG E C _ _ _ _ _;refine cG.cond (m:=81) (b:=true) (by simp) (λ_=>?_) (λh=>by cases h);refine cG.yield (hn:=[]) (d:=85) (f:=82) (x:=84) (pre:=[_,_,_]) (post:=[]) rfl (by kernel_rfl) rfl rfl rfl rfl (by rw[j];decide) ?_;rw[j];simp -implicitDefEqProofs (maxSteps:=2000000) [g0,g1,g2,g3,g4,g5,bO];exact⟨rfl,hi,by omega,hL⟩
    |_=>exact h.elim
   |_=>exact h.elim
  |_=>exact h.elim
 |_=>exact h.elim
set_option maxRecDepth 100000 in
theorem GP:xP prog 146:=by
 refine⟨by kernel_rfl,λn args w=>?_⟩;refine callsDIn_of_wpSIn func146 rfl trivial λf i g=>?_;apply wpSIn_seq;apply wpSIn_region
 have a:∀k,k<f146.ntmps->k<args.size+(f146.ntmps-args.size):=by intro k h;omega
 rw[ntmps146]at a;have b:=a 0 (by decide);have c:=a 1 (by decide);have d:=a 2 (by decide);have e:=a 3 (by decide);simp[wpOpsSIn,go_sem,recoverD,g,ntmps146,Exit.thenS,b,c,d,e];refine wpSIn_cond (t:=false) (by simp[Act.eval,b,c,d,e]) ?_;simp only[VP,VZ];refine wpSIn_of_wpIn rfl (wpIn_skip ?_);cases f
 simp_all[bodyPostS,results,results146]
def kW(a:List aq)(d:Int)(b:List aq)(e:Int)(c:List Vc):Vc×Bool:=match(nc a d b e c).find? (λn=>jH n a d b e)with
 |some n=>(n,true)
 |none=>((0,0,0),false)
theorem B4{α:Type}{p:α->Bool}{l:List α}(h:∀j x,j<l.length->l[j]?=some x->p x=false):l.find? p=none:=by
 rw[W7];intro x b;obtain⟨j,a,rfl⟩:=Xh.1 b;rw[h j _ a (an a)];simp
theorem tf{α:Type}{p:α->Bool}:∀{l:List α}{i:Nat}{v:α},l[i]?=some v->p v=true->(∀j x,j<i->l[j]?=some x->p x=false)->l.find? p=some v
 |[],i,v,h,_,_=>by simp at h
 |y::l,0,v,h,hp,_=>by simp at h;subst h;simp[hp]
 |y::l,i+1,v,h,hp,hq=>by
  have a:=hq 0 y (by omega) rfl;rw[List.find?_cons,a];exact tf (by simpa using h) hp λj x c b=>hq (j+1) x (by omega) (by simpa using b)
abbrev GQ:List Nat:=[5,6,7,8,10,11]
abbrev PA(a:List aq)(c:Int)(b:List aq)(d:Int):Nat->List PV:=λk=>if k=5 then[aF a]else if k=6 then[Z c]else if k=7 then[aF b]else if k=8 then[Z d]else if k=10 then[Z 0,Z 0,Z 0]else[B false]
structure FindI(a:List aq)(ra:Int)(b:List aq)(rb:Int)(n:Vc)(k:Bool)(h:Hp):Prop where
 h5:h 5=some (.box [.pv (aF a)] false false)
 h6:h 6=some (.box [.pv (Z ra)] false false)
 h7:h 7=some (.box [.pv (aF b)] false false)
 h8:h 8=some (.box [.pv (Z rb)] false false)
 h10:h 10=some (.box [.pv (Z n.1),.pv (Z n.2.1),.pv (Z n.2.2)] false false)
 h11:h 11=some (.box [.pv (B k)] false false)
theorem FindI.all{a:List aq}{e:Int}{b:List aq}{f:Int}{n:Vc}{k:Bool}{h:Hp}(H:FindI a e b f n k h){j:Nat}(c:j∈GQ):∃d,h j=some (.box d false false):=by
 simp only[Wj,Wr,WR]at c;rcases c with rfl|rfl|rfl|rfl|rfl|rfl
 .exact⟨_,H.h5⟩
 .exact⟨_,H.h6⟩
 .exact⟨_,H.h7⟩
 .exact⟨_,H.h8⟩
 .exact⟨_,H.h10⟩
 .exact⟨_,H.h11⟩
def Lu(a:List aq)(d:Int)(b:List aq)(e:Int)(c:List Vc)(i:Nat):Prop:=∀j x,j<i->c[j]?=some x->jH x a d b e=false
def PB(a:List aq)(c:Int)(b:List aq)(d:Int)(e:List Vc)(i:Nat)(h:Hp):Prop:=∃n,e[i]?=some n/\jH n a c b d=true/\FindI a c b d n true h/\Lu a c b d e i
set_option maxRecDepth 100000 in
theorem UH(a:List aq)(q:Int)(b:List aq)(r:Int)(c:List Vc)(V:a.length<=9223372036854775807)(W:b.length<=9223372036854775807)(hl:c.length<=9223372036854775807):aQ prog 95 [.pv (aF a),.pv (Z q),.pv (aF b),.pv (Z r),.pv (aP c)] [] [] (.pv (.tup [ao (kW a q b r c).1,B (kW a q b r c).2])):=by
 have F:kW a q b r c=match(nc a q b r c).find? (λn=>jH n a q b r)with
  |some n=>(n,true)
  |none=>((0,0,0),false):=rfl
 have hit:=RF a q b r c V W hl;generalize nc a q b r c=L at *;refine Ff (args:=[aF a,Z q,aF b,Z r,aP c]) func95 rfl (by kernel_rfl) (by simp[f95]) ?_;intro C hP hN H;simp only[f95]at hN|-;have hF:=gV;refine oQ.seq H ?_;refine GV trivial ?_;refine oQ.defer (pre:=[_]) (hn:=[]) (g:=146) rfl (λo Y c' R=>by simp at Y;subst Y;cases R) rfl rfl rfl rfl rfl (by rw[hP];exact GP) ?_;simp -implicitDefEqProofs [hP,hN];refine oQ.rangeS (kd:=[12]) H (gf:=196) (caps:=se a q b r c) (xs:=L.map ao) (by rw[hP];exact hit) (by rw[hN];decide) (ks:=GQ) (hin:=PA a q b r) (t:=λm=>if m∈GQ then .ptr m 0 else .undef) ?_ (λi h=>FindI a q b r (0,0,0) false h/\h 12=none/\Lu a q b r L i) (λi h=>PB a q b r L i h) ?_ ?_ ?_ ?_ (by kernel_rfl) (hn:=[]) ?_ ?_
 .skip
  have q1:=RE a q b r c;refine GV trivial ?_;refine⟨⟨rfl,rfl,rfl,rfl,rfl,rfl⟩,λm=>?_⟩;by_cases X:m=5\/m=6\/m=7\/m=8\/m=10\/m=11
  .rcases X with rfl|rfl|rfl|rfl|rfl|rfl<;>simp
  .simp only[VM X];simp
   omega
 .refine⟨by constructor<;>rfl,rfl,λj x hj=>by omega⟩
 .rintro i h k S ⟨hi,_⟩
  exact hi.all S
 .rintro i h k S ⟨n,_,_,hi,_⟩
  exact hi.all S
 .intro C1 C2 l i x h P N Q O K ⟨hI,p,hq⟩
  rw[VN,VK]at K;obtain⟨v,K,rfl⟩:=K;have hF:=Am l;have J:=hP;have I:=hN;clear hP hN;have hP:=P.trans J;have hN:=N.trans I;have u:=Q.trans J;have s:=O.trans I;obtain⟨y,z,A,D,d,f⟩:=hI;have M:=SP v a q b r V W
  cases G:jH v a q b r with
  |true=>
   rw[G]at M
   repeat' (first
    |with_reducible refine aI.seq ?_
    |(with_reducible ((first|refine aI.region hF (hn:=[]) (by kernel_rfl) ?_|refine lN (M) ?_|refine aI.cond' ?_);simp -implicitDefEqProofs (maxSteps:=2000000) [hP,hN,u,s,mX,y,z,A,D,d,f,p]))
    |(with_reducible refine gi (by simp[u,s,mX,y,z,A,D,d,f,p]) (λhgd=>?_) (λhgd=>?_)<;>first|(exfalso;simp at hgd;done)|(exfalso;simp at hgd;omega)|simp -implicitDefEqProofs (maxSteps:=2000000) [hP,hN,u,s,mX,y,z,A,D,d,f,p])
    |with_reducible refine eZ ?_ ?_
    |(with_reducible refine dY (λhcd=>?_) (λhcd=>?_)<;>(try (exfalso;clear hP hN;simp_all;done))<;>(try (exfalso;simp at *;omega)))
    |with_reducible refine aI.block ?_
    |(with_reducible ((first|refine aI.skip ?_|refine aI.exit ?_|refine aI.ret ?_);simp[u,s,mX,y,z,A,D,d,f,p])))
   exact⟨v,K,G,by constructor<;>simp[y,z,A,D,d,f],hq⟩
  |false=>
   rw[G]at M
   repeat' (first
    |with_reducible refine aI.seq ?_
    |(with_reducible ((first|refine aI.region hF (hn:=[]) (by kernel_rfl) ?_|refine lN (M) ?_|refine aI.cond' ?_);simp -implicitDefEqProofs (maxSteps:=2000000) [hP,hN,u,s,mX,y,z,A,D,d,f,p]))
    |(with_reducible refine gi (by simp[u,s,mX,y,z,A,D,d,f,p]) (λhgd=>?_) (λhgd=>?_)<;>first|(exfalso;simp at hgd;done)|(exfalso;simp at hgd;omega)|simp -implicitDefEqProofs (maxSteps:=2000000) [hP,hN,u,s,mX,y,z,A,D,d,f,p])
    |with_reducible refine eZ ?_ ?_
    |(with_reducible refine dY (λhcd=>?_) (λhcd=>?_)<;>(try (exfalso;clear hP hN;simp_all;done))<;>(try (exfalso;simp at *;omega)))
    |with_reducible refine aI.block ?_
    |(with_reducible ((first|refine aI.skip ?_|refine aI.exit ?_|refine aI.ret ?_);simp[u,s,mX,y,z,A,D,d,f,p])))
   refine⟨by constructor<;>simp[St.kill,bG,az,y,z,A,D,d,f],by simp[St.kill],λj x hj E=>?_⟩;by_cases e:j=i
   .subst e;rw[K]at E;injection E with E;subst E;exact G
   .exact hq j x (by omega) E
 .rintro h ⟨⟨y,z,A,D,d,f⟩,p,hq⟩
  rw[Wp]at hq;have hn:L.find? (λn=>jH n a q b r)=none:=B4 hq;rw[hn]at F;rw[F];simp -implicitDefEqProofs [hP,hN,y,z,A,D,d,f]
 .rintro i h hi ⟨n,T,U,⟨y,z,A,D,d,f⟩,hq⟩
  rw[tf T U hq]at F;rw[F];simp -implicitDefEqProofs [hP,hN,y,z,A,D,d,f]
abbrev GR(SH:List Sh)(PR:List (Nat×Nat))(PT:List (List aq)):PV:=.agg [.sl (SH.map cD),.sl (PR.map ri),.sl (PT.map aF)]
abbrev PC(a b:List aq)(c d:Int):PV:=.agg [aF a,aF b,Z c,Z d]
def dL(PT:List (List aq))(i:Nat):List aq:=(PT[i]?).getD []
def dx(SH:List Sh)(i:Nat):Int:=((SH[i]?).map Sh.rad).getD 0
structure BdOk(SH:List Sh)(PR:List (Nat×Nat))(PT:List (List aq)):Prop where
 len:PT.length=SH.length
 prs:∀p∈PR,p.1<SH.length/\p.2<SH.length
 Au:SH.length<=24
 few:PR.length<=576
 pts:∀l∈PT,l.length<=8
theorem UI(SH:List Sh)(PR:List (Nat×Nat))(PT:List (List aq))(l:BdOk SH PR PT)(k:Nat)(p:Nat×Nat)(hp:PR[k]?=some p):aH 94 (GR SH PR PT) (Z k) (PC (dL PT p.1) (dL PT p.2) (dx SH p.1) (dx SH p.2)):=by
 obtain⟨r,e⟩:=th.1 hp;obtain⟨i,j⟩:=p;have hpr:=l.prs _ (Is hp);simp only at hpr;have H:=l.len;have z:∀h,PR[k]'h=(i,j):=λ_=>e
 have D:i<PT.length:=by omega
 have E:j<PT.length:=by omega
 obtain⟨a,d⟩:∃x,PT[i]?=some x:=⟨_,an D⟩;obtain⟨b,c⟩:∃x,PT[j]?=some x:=⟨_,an E⟩;obtain⟨u,f⟩:∃x,SH[i]?=some x:=⟨_,an hpr.1⟩;obtain⟨v,g⟩:∃x,SH[j]?=some x:=⟨_,an hpr.2⟩
 have s:∀h,PT[i]'h=a:=λh=>by rw[an h]at d;exact WE d
 have y:∀h,PT[j]'h=b:=λh=>by rw[an h]at c;exact WE c
 have A:∀h,SH[i]'h=u:=λh=>by rw[an h]at f;exact WE f
 have B:∀h,SH[j]'h=v:=λh=>by rw[an h]at g;exact WE g
 have m:dL PT i=a:=by simp[dL,d]
 have n:dL PT j=b:=by simp[dL,c]
 have o:dx SH i=u.rad:=by simp[dx,f]
 have q:dx SH j=v.rad:=by simp[dx,g]
 rw[m,n,o,q];obtain⟨F,G⟩:=hpr;refine Dp func94 λC hP hN=>?_;exact Gy
def gt(s:Sce)(bx:List Iv):Bool:=decide (aY s=0)&&kA s.js bx
theorem GU{p:Nat×Nat}(h:p∈dD s):p.1<p.2/\p.2<s.shs.length/\gO s p.1 p.2=true:=by
 have b:∀i k,k<=s.shs.length->p∈lB s i k->p.1<p.2/\p.2<s.shs.length/\gO s p.1 p.2=true:=by
  intro i k
  induction k with
  |zero=>intro _ h;cases h
  |succ k ih=>
   intro c h;rw[lB,V4]at h;rcases h with h|h
   .exact ih (by omega) h
   .split at h
    .rename_i a
     rw[Wu]at h;subst h;exact⟨a.1,by omega,a.2⟩
    .cases h
 have hN:∀i,p∈jY s i->p.1<p.2/\p.2<s.shs.length/\gO s p.1 p.2=true:=by
  intro i
  induction i with
  |zero=>intro h;cases h
  |succ i ih=>
   intro h;rw[jY,V4]at h;rcases h with h|h
   .exact ih h
   .exact b i _ (VU _) h
 unfold dD at h;split at h
 .exact hN _ h
 .cases h
theorem GX{bx:List Iv}(h:gt s bx=true):BdOk s.shs (dD s) (fO s bx):=by
 simp only[gt,An,L4]at h;obtain⟨e,f,v3,v4,g,c,i⟩:=nU h.1;have a:=yd s s.shs.length;have d:s.shs.length*s.shs.length<=24*24:=Xg v4 v4;refine⟨by simp[fO],λp hp=>?_,v4,?_,λl a=>?_⟩
 .have:=GU hp;omega
 .unfold dD;rw[VS h.1];omega
 .obtain⟨x,b,rfl⟩:=Wf.1 a
  have:=(c x b).2;simp only[gM,An,L4]at this;simp only[eR,Wp];omega
def Lv(bx:List Iv)(i:Nat):Prop:=∀k x,k<i->bx[k]?=some x->vI x=true
theorem UJ(s:Sce)(bx:List Iv)(hs:ScL s)(z:bx.length<=9223372036854775807):aH 93 (eK s) (iv bx) (.tup (if gt s bx then[GR s.shs (dD s) (fO s bx),B true]else[GR [] [] [],B false])):=by
 have hd:gt s bx=(decide (aY s=0)&&(decide (bx.length=s.js.length)&&bx.all vI)):=rfl;have cc:=Eg s hs;have I:=hs.js;by_cases d:aY s=0
 case neg=>
  have o:(aY s !=0)=true:=by simp[d]
  rw[WW d,Ww]at hd;rw[hd];refine Dp func93 λC hP hN=>?_;exact Gy
 have o:(aY s !=0)=false:=by simp[d]
 by_cases e:bx.length=s.js.length
 case neg=>
  have q:((bx.length:Int)!=(s.js.length:Int))=true:=by simp;omega
  have G:¬(bx.length:Int)=(s.js.length:Int):=by omega
  rw[WW e,Ww,Xi]at hd;rw[hd];refine Dp func93 λC hP hN=>?_;exact Gy
 have q:((bx.length:Int)!=(s.js.length:Int))=false:=by simp[e]
 have H:kA s.js bx=bx.all vI:=by
  show(decide (bx.length=s.js.length)&&bx.all vI)=_;rw[Wv e,We]
 rw[Wv d,Wv e,We,We]at hd;rw[hd];have j:=Sw s bx hs d;rw[H]at j;have cR:=So s hs;generalize fO s bx=PT at *;generalize dD s=PR at *;refine Dp func93 λC hP hN=>?_;refine Gz ?_;refine WP.loopN [7] bx.length (λi st=>st.t 1=.pv (iv bx)/\st.t 2=.ptr 2 0/\st.h 2=some (.box [.pv (.sl (s.js.map bu)),.pv (.sl (s.ms.map cE)),.pv (.sl (s.shs.map cD)),.pv (.sl (s.sks.map aN))] true false)/\st.t 4=.ptr 4 0/\st.h 4=some (.box [.pv (.val (.slice none 0 0)),.pv (.val (.slice none 0 0)),.pv (.val (.slice none 0 0))] true false)/\st.t 21=.pv (iv bx)/\st.t 22=.pv (Z bx.length)/\st.t 23=.pv (Z i)/\st.h 7=none/\Lv bx i) ?_ ?_
 .simp[e]
  exact λk x J=>by omega
 rintro i st hi ⟨g1,g2,r,g4,u,l,m,n,y,hq⟩;by_cases b:i<bx.length
 .have E:=aj b z
  generalize g:bx[i]=v at *
  have F:bx[i]?=some v:=by rw[an b,g]
  have cv:=j7 v.1 v.2;have jZ:vI v=aw v.1 v.2:=rfl;have D:=nE (p:=vI) F hq
  cases c:aw v.1 v.2 with
  |true=>
   rw[c]at cv;have f:Lv bx (i+1):=D c;refine GT (s6 g1 g2 r g4 u l m n y b F (gA g E)) ?_
   all_goals exact f
  |false=>
   rw[c]at cv
   have a:bx.all vI=false:=by
    cases h:bx.all vI with
    |false=>rfl
    |true=>rw[VL]at h;have:=h v (Is F);rw[jZ,c]at this;cases this
   rw[a];exact Gy
 .have A:i=bx.length:=by omega
  subst A;have a:bx.all vI=true:=pD hq b;have j:=j a;rw[a];exact Gy
def J7(SH:List Sh)(PT:List (List aq))(n:Vc)(p:Nat×Nat):Bool:=jH n (dL PT p.1) (dx SH p.1) (dL PT p.2) (dx SH p.2)
def PD(SH:List Sh)(PR:List (Nat×Nat))(PT:List (List aq))(ns:List Vc)(i:Nat):Prop:=∀k n p,k<i->ns[k]?=some n->PR[k]?=some p->J7 SH PT n p=true
def xZ(SH:List Sh)(PR:List (Nat×Nat))(PT:List (List aq))(ns:List Vc):Bool:=decide (ns.length=PR.length)&&(ns.zip PR).all λx=>J7 SH PT x.1 x.2
theorem ID{SH:List Sh}{ns:List Vc}(b:ns.length=PR.length)(h:PD SH PR PT ns ns.length):xZ SH PR PT ns=true:=by
 simp only[xZ,An,L4,VL];refine⟨b,λx c=>?_⟩;obtain⟨k,a,rfl⟩:=Xh.1 c;rw[List.length_zip]at a;rw[List.getElem_zip];exact h k _ _ (by omega) (an (by omega)) (an (by omega))
def sf(SH:List Sh)(PT:List (List aq))(x y:List Int)(p:Nat×Nat):Bool:=oC x y (dL PT p.1) (dx SH p.1) (dL PT p.2) (dx SH p.2)&&decide (0<=lR x y (dL PT p.1) (dx SH p.1) (dL PT p.2) (dx SH p.2))
structure Wit where
 pair:Int
 a:List Int
 b:List Int
abbrev PE(w:Wit):PV:=.agg [Z w.pair,zs w.a,zs w.b]
def J8(SH:List Sh)(PR:List (Nat×Nat))(PT:List (List aq))(w:Wit):Bool:=decide (0<=w.pair)&&match PR[w.pair.toNat]? with
 |some p=>sf SH PT w.a w.b p
 |none=>false
set_option maxRecDepth 100000 in
@[simp] theorem TV:fC prog 92:=by
 have hf:=func92;have nt:=ntmps92;have rs:=results92;exact Lg
@[simp] theorem Vy:tV prog 168=true:=by kernel_rfl
@[simp] theorem Vz:tV prog 166=true:=by kernel_rfl
structure Vd where
 kind:Int
 ns:List Vc
 w:Wit
abbrev AH(v:Vd):PV:=.agg [Z v.kind,aP v.ns,Z v.w.pair,zs v.w.a,zs v.w.b]
abbrev PF(ns:List Vc):PV:=.ifc 168 (.agg [aP ns])
abbrev PG(w:Wit):PV:=.ifc 166 (PE w)
theorem vS(ns:List Vc):bh 99 (PF ns) (AH ⟨1,ns,⟨0,[],[]⟩⟩):=by
 refine Dp func99 λC hP hN=>?_;exact Gy
theorem vC(w:Wit):bh 99 (PG w) (AH ⟨2,[],w⟩):=by
 refine Dp func99 λC hP hN=>?_;exact Gy
def DY(s:Sce)(bx:List Iv)(ns:List Vc):Bool:=gt s bx&&xZ s.shs (dD s) (fO s bx) ns
def DZ(s:Sce)(bx:List Iv)(w:Wit):Bool:=gt s bx&&J8 s.shs (dD s) (fO s bx) w
def aV(v:Vd):Verd:=⟨v.kind,v.ns,v.w.pair,v.w.a,v.w.b⟩
def ky(a:List Vc)(k:Nat):List Vc:=(a.drop k).take 1
def qM(SH:List Sh)(PT:List (List aq))(a:List Vc)(k:Nat)(p:Nat×Nat):Vc×Bool:=kW (dL PT p.1) (dx SH p.1) (dL PT p.2) (dx SH p.2) (ky a k)
def qF(SH:List Sh)(PT:List (List aq))(p:Nat×Nat):Int×NSt:=jD (aA (dL PT p.1)) (aA (dL PT p.2)) (dx SH p.1+dx SH p.2) 64
def dT(SH:List Sh)(PR:List (Nat×Nat))(PT:List (List aq))(a:List Vc):List Vc:=PR.mapIdx λk p=>(qM SH PT a k p).1
def jz(SH:List Sh)(PR:List (Nat×Nat))(PT:List (List aq))(a:List Vc):Nat->Nat->Bool->Vd
 |0,_,b=>if b then⟨1,dT SH PR PT a,⟨0,[],[]⟩⟩else⟨0,dT SH PR PT a,⟨0,[],[]⟩⟩
 |f+1,k,b=>match PR[k]? with
  |some p=>if(qM SH PT a k p).2=true then jz SH PR PT a f (k+1) b
   else if sf SH PT (qF SH PT p).2.w (qF SH PT p).2.v p=true then⟨2,[],⟨k,(qF SH PT p).2.w,(qF SH PT p).2.v⟩⟩
   else jz SH PR PT a f (k+1) false
  |none=>if b then⟨1,dT SH PR PT a,⟨0,[],[]⟩⟩else⟨0,dT SH PR PT a,⟨0,[],[]⟩⟩
def bD(s:Sce)(bx:List Iv)(a:List Vc):Vd:=if gt s bx then jz s.shs (dD s) (fO s bx) a (dD s).length 0 true else⟨0,[],⟨0,[],[]⟩⟩
theorem FI{bx:List Iv}(h:gt s bx=true)(i:Nat):0<=dx s.shs i/\dx s.shs i<=1048576:=by
 simp only[gt,An,L4]at h;obtain⟨_,_,_,_,_,b,_⟩:=nU h.1;unfold dx
 cases a:s.shs[i]? with
 |none=>simp
 |some u=>
  have:=(b u (Is a)).2;simp only[gM,An,L4]at this;simp only[WG,V5];omega
theorem oE{l:List aq}(h:l.length<=8):(aA l).length<=8:=by unfold aA;split<;>simp<;>omega
theorem vr{SH:List Sh}(a:BdOk SH PR PT)(i:Nat):(dL PT i).length<=8:=by
 unfold dL
 cases h:PT[i]? with
 |none=>simp
 |some l=>exact a.pts l (Is h)
theorem Mv{a:List aq}{c:Int}{b:List aq}{d:Int}{h:List Vc}(hf:(kW a c b d h).2=false):(kW a c b d h).1=(0,0,0):=by
 unfold kW at hf|-;split
 .rename_i n e;rw[e]at hf;cases hf
 .rfl
theorem wV(a b:List Vc)(rho st:Int):(jD a b rho st).2.w.length<=8/\(jD a b rho st).2.v.length<=8:=by
 unfold jD;split
 .rename_i h
  simp only[rh,An]at h;have c:=ki.1 h.1.1.1;have d:=ki.1 h.1.1.2;have:=vo (rho:=rho) (steps:=st.toNat) h.1.1.1 h.1.1.2 (st.toNat+1) (td a b) (DX c.1 d.1);rw[this.wl,this.vl];exact⟨c.2.1,d.2.1⟩
 .simp
theorem Bi(l:List Vc):(l.map ao).all (qJ 3)=true:=by
 rw[VL];intro x a;obtain⟨v,_,rfl⟩:=Wf.1 a;rfl
theorem D0(a:List Vc)(i:Nat)(z:Option Value)(e n:Nat)(y:Option Value):lZ {size:=n,zero:=z,kind:=TK.slice e 3 24 y} (.pv (aP a)) (some (.pv (.val (.int .i64 (if a.length<i then(a.length:Int)else(i:Int)))))) (some (.pv (.val (.int .i64 (min ((i:Int)+1) (a.length:Int))))))=some (.pv (aP (ky a i))):=by
 have b:0<=(if a.length<i then(a.length:Int)else(i:Int)):=by split<;>omega
 have c:0<=min ((i:Int)+1) (a.length:Int):=by omega
 have d:(if a.length<i then(a.length:Int)else(i:Int)).toNat=min i a.length:=by split<;>omega
 have f:(min ((i:Int)+1) (a.length:Int)).toNat=min (i+1) a.length:=by omega
 simp only[lZ,VS b,VS c,d,f,Wp];rw[VS ⟨by omega,by omega,by decide,Bi a⟩]
 congr 3
 rw[<-List.map_take,<-YE]
 congr 1
 unfold ky;by_cases h:i<a.length
 .rw[show min i a.length=i by omega,show min (i+1) a.length=i+1 by omega,List.drop_take,show i+1-i=1 by omega]
 .rw[show min i a.length=a.length by omega,show min (i+1) a.length=a.length by omega,XW,List.drop_length,Ye (by omega)];rfl
theorem Ql(s:Sce)(bx:List Iv)(a:List Vc)(hs:ScL s)(a2:bx.length<=9223372036854775807)(hh:a.length<=9223372036854775807):mW 38 (eK s) (iv bx) (aP a) (AH (bD s bx a)):=by
 have cp:=UJ s bx hs a2
 have hd:bD s bx a=if gt s bx then jz s.shs (dD s) (fO s bx) a (dD s).length 0 true else⟨0,[],⟨0,[],[]⟩⟩:=rfl
 cases hp:gt s bx with
 |false=>
  rw[hp]at cp hd;simp only[VP,VZ]at hd;rw[hd];refine Dp func38 λC hP hN=>?_;exact Gy
 |true=>
 rw[hp]at cp hd;simp only[V8]at hd;have W:=GX hp;have S:=FI hp;rw[hd];generalize dD s=PR at *;generalize fO s bx=PT at *;generalize s.shs=c at *;have bc:=W.few;generalize b:jz c PR PT a PR.length 0 true=X at *;generalize n:(dT c PR PT a).map ao=K
 have N:K.length=PR.length:=by rw[<-n];simp[dT]
 have P:∀k p,PR[k]?=some p->K[k]?=some (ao (qM c PT a k p).1):=λk q L=>by rw[<-n,dT,VN,List.getElem?_mapIdx,L];rfl
 refine Dp func38 λC hP hN=>?_;refine GT (gA (show(24:Int)*(PR.length:Int)<=281474976710656 by omega) (show(PR.length:Int)<=9223372036854775807 by omega)) ?_;refine WP.loopN [12,14,16] PR.length (λi st=>∃R:List PV,∃M:Bool,jz c PR PT a (PR.length-i) i M=X/\st.t 2=.pv (aP a)/\st.t 6=.ptr 6 0/\st.h 6=some (.box [.pv (Z 0),.pv (.val (.slice none 0 0)),.pv (Z 0),.pv (.val (.slice none 0 0)),.pv (.val (.slice none 0 0))] true false)/\st.t 7=.ptr 7 0/\st.h 7=some (.box [.pv (.sl (c.map cD)),.pv (.sl (PR.map ri)),.pv (.sl (PT.map aF))] true false)/\st.t 9=.arr 30 PR.length/\st.t 10=.pv (B M)/\st.t 33=.pv (Z PR.length)/\st.t 34=.pv (Z i)/\st.h 12=none/\st.h 14=none/\st.h 16=none/\st.h 30=some (.row 68 3 R 0)/\R.length=PR.length/\(∀k,i<=k->k<PR.length->R[k]?=some (ow 0 0 0))/\∀k,k<i->R[k]?=K[k]?) ?_ ?_
 .refine⟨List.replicate PR.length (ow 0 0 0),true,b,?_⟩
  simp
  try (intro k L;first|exact L|simp[Wn,L])
 rintro i st hi ⟨R,M,b,g2,T,A,U,D,V,u,x,z,f,g,j,d,r,G,hR⟩;by_cases l:i<PR.length
 .have I:=aj l (by omega)
  obtain⟨p,hp⟩:∃p,PR[i]?=some p:=⟨_,an l⟩;have o:=G i (VU _) l;have H:=qj o
  have a6:i<R.length:=by omega
  have cc:=UI c PR PT W i p hp;have r1:=S p.1;have r2:=S p.2;have l1:=vr W p.1;have l2:=vr W p.2;have Y:=UH (dL PT p.1) (dx c p.1) (dL PT p.2) (dx c p.2) (ky a i) (by omega) (by omega) (by simp[ky];omega);have a5:qM c PT a i p=kW (dL PT p.1) (dx c p.1) (dL PT p.2) (dx c p.2) (ky a i):=rfl;rw[<-a5]at Y;rw[show PR.length-i=(PR.length-i-1)+1 by omega]at b;simp only[jz,hp]at b;have O:=P i p hp
  have k2:∀k,k<i+1->(R.set i (ao (qM c PT a i p).1))[k]?=K[k]?:=λk h1=>by
   rw[VV];by_cases e:i=k
   .subst e;rw[VS rfl,VS a6,O]
   .rw[VM e];exact hR k (by omega)
  have k1:∀y k,i+1<=k->k<PR.length->(R.set i y)[k]?=some (ow 0 0 0):=λy k h1 h2=>by
   rw[VV,VM (by omega)];exact G k (by omega) h2
  have J:(qM c PT a i p).2=false->∀k,k<i+1->R[k]?=K[k]?:=λhf k h1=>by
   by_cases e:k=i
   .subst e;rw[o,O]
    have:(qM c PT a k p).1=(0,0,0):=Mv hf;rw[this]
   .exact hR k (by omega)
  have bb:∀k,i+1<=k->k<PR.length->R[k]?=some (ow 0 0 0):=λk h1 h2=>G k (by omega) h2;generalize qM c PT a i p=F at *;clear P n N
  cases E:F.2 with
  |true=>
   rw[E]at Y b;simp only[V8]at b;refine GT (s7 g2 T A U D V u x z f g j d r (f8 l I o H @D0)) ?_;rw[show PR.length-i-1=PR.length-(i+1) by omega]at b;refine⟨R.set i (ao F.1),?_⟩;cases M
   .exact .inl ⟨b,rfl,rfl,by simp[r],k1 _,k2⟩
   .exact .inr ⟨b,rfl,rfl,by simp[r],k1 _,k2⟩
  |false=>
   rw[E]at Y b;simp only[VP,VZ]at b;have J:=J E;have c1:=FT (dL PT p.1) (by omega);have c2:=FT (dL PT p.2) (by omega);have z1:=oE l1;have z2:=oE l2;have c3:=Qk (aA (dL PT p.1)) (aA (dL PT p.2)) (dx c p.1+dx c p.2) 64 (by omega) (by omega);have ar:qF c PT p=jD (aA (dL PT p.1)) (aA (dL PT p.2)) (dx c p.1+dx c p.2) 64:=rfl;have a8:=wV (aA (dL PT p.1)) (aA (dL PT p.2)) (dx c p.1+dx c p.2) 64;rw[<-ar]at c3 a8;have hw:i64.wrap (dx c p.1+dx c p.2)=dx c p.1+dx c p.2:=aa;generalize qF c PT p=m at *;have co:=UG m.2.w m.2.v (dL PT p.1) (dx c p.1) (dL PT p.2) (dx c p.2) (by omega) (by omega) (by omega) (by omega);have ba:sf c PT m.2.w m.2.v p=(oC m.2.w m.2.v (dL PT p.1) (dx c p.1) (dL PT p.2) (dx c p.2)&&decide (0<=lR m.2.w m.2.v (dL PT p.1) (dx c p.1) (dL PT p.2) (dx c p.2))):=rfl;rw[<-ba]at co
   cases Q:sf c PT m.2.w m.2.v p with
   |true=>
    rw[Q]at co b;simp only[V8]at b;subst b;have cv:=vC ⟨i,m.2.w,m.2.v⟩;exact GS (s7 g2 T A U D V u x z f g j d r (go l I o H @D0 hw))
   |false=>
    rw[Q]at co b;simp only[VP,VZ]at b;rw[show PR.length-i-1=PR.length-(i+1) by omega]at b;refine GT (s7 g2 T A U D V u x z f g j d r (go l I o H @D0 hw)) ?_;exact⟨b,bb,J⟩
 .have a7:i=PR.length:=by omega
  subst a7
  have a1:R=K:=by
   apply WA;intro k;by_cases L:k<PR.length
   .exact hR k L
   .rw[VW (by omega),VW (by omega)]
  subst a1;rw[XU]at b;simp only[jz]at b;have cv:=vS (dT c PR PT a)
  have ad:(dT c PR PT a).length=PR.length:=by simp[dT]
  cases M with
  |true=>
   simp only[V8]at b;subst b;rw[<-n]at d;exact GS (s7 g2 T A U D V u x z f g j d N ad)
  |false=>
   simp only[VP,VZ]at b;subst b;rw[<-n]at d;exact Gy
theorem DN(js:List J)(b:Bx):∀i,(iC js b i).1=-1\/∃j:Nat,(iC js b i).1=(j:Int)/\j<i/\∃x,b[j]?=some x/\2<=dG x
 |0=>.inl rfl
 |i+1=>by
  have ih:=DN js b i;have d:(∃j:Nat,(iC js b i).1=(j:Int)/\j<i/\∃x,b[j]?=some x/\2<=dG x)->∃j:Nat,(iC js b i).1=(j:Int)/\j<i+1/\∃x,b[j]?=some x/\2<=dG x:=λ⟨j,a,c,e⟩=>⟨j,a,by omega,e⟩;simp only[iC];split
  .rename_i f x a c
   split
   .rename_i h;exact .inr ⟨i,rfl,by omega,x,c,h.1⟩
   .exact ih.imp id d
  .exact ih.imp id d
theorem It{x:Int×Int}(h:aw x.1 x.2=true):dG x=x.2-x.1:=by
 have:=fc.1 h;rw[dG,h];simp only[V8];exact aa (by omega) (by omega)
theorem u9(js:List J)(ms:List Ms)(b:Bx):fW js ms b=-1\/∃j:Nat,fW js ms b=(j:Int)/\j<b.length/\b.length=js.length/\bj vI b=true/\∃x,b[j]?=some x/\2<=x.2-x.1:=by
 unfold fW;split
 .rename_i h
  simp only[sO,An,L4]at h;rcases DN js b js.length with e|⟨j,d,g,x,a,c⟩
  .exact .inl e
  .have f:aw x.1 x.2=true:=fq.1 h.1.2 _ (Is a)
   rw[It f]at c;exact .inr ⟨j,d,by omega,h.1.1,h.1.2,x,a,c⟩
 .exact .inl rfl
def gy(js:List J)(ms:List Ms)(w:Int)(b:Bx):Bool:=decide (0<=fW js ms b)&&match b[(fW js ms b).toNat]? with
 |some x=>decide (w<x.2-x.1)
 |none=>false
def iN(js:List J)(ms:List Ms)(w:Int)(t:Tr):List Bool:=(ah t).map (gy js ms w)
def ly(t:Tr)(op:List Bool)(p q:List Int)(sort:Int):Bool:=dq t.cells.length (oP t.cells op sort) (aG (ah t) q) (aG (ah t) p) (fS (ah t))
def ja(t:Tr)(op:List Bool)(p q:List Int)(sort:Int):List Nat:=eM t.cells.length (oP t.cells op sort) (aG (ah t) q) (aG (ah t) p) (fS (ah t))
def xV(js:List J)(ms:List Ms)(t:Tr)(p q:List Int)(w:Int):Bool:=decide (aO js ms=0)&&decide (t.root.length=js.length)&&decide (1<=w)&&lO t.root p&&lO t.root q
def r5(t:Tr)(op:List Bool)(k:Nat):Bool:=decide ((eD t k).kind=0)&&(op[k]?.getD false)
def pf(js:List J)(ms:List Ms)(t:Tr)(op:List Bool)(c:List Nat):Int×Int×Int:=match c.find? (r5 t op)with
 |some k=>((k:Int),fW js ms (aZ t (k:Int)),3)
 |none=>(-1,-1,0)
def DO(js:List J)(ms:List Ms)(t:Tr)(op:List Bool)(p q:List Int):Int×Int×Int:=
 if ly t op p q 0=true then(-1,-1,1)else if ly t op p q 3=false then(-1,-1,2)
 else if ly t op p q 1=true then pf js ms t op (ja t op p q 1)else if ly t op p q 2=true then(-1,-1,5)else pf js ms t op (ja t op p q 3)
def jw(js:List J)(ms:List Ms)(t:Tr)(p q:List Int)(w:Int):Int×Int×Int:=if xV js ms t p q w&&aT t then DO js ms t (iN js ms w t) p q else(-1,-1,0)
def r6(s:Sce)(t:Tr)(i:Int):Bool:=decide (aY s=0)&&eX t i&&gU s.js s.ms (dt t i)
def kf(s:Sce)(t:Tr)(i:Int):Verd:=aV (bD s (dt t i) (eD t i.toNat).nor)
def km(s:Sce)(t:Tr)(i:Int):Bool:=r6 s t i&&cO t i (kf s t i)
def gJ(s:Sce)(t:Tr)(i:Int):Tr:=if r6 s t i then bX t i (kf s t i)else t
def mP(s:Sce)(t:Tr)(i j:Int):Tr:=gJ s (cL t i j) t.cells.length
def wQ(s:Sce)(t:Tr)(i j:Int):Bool:=dA t i j&&km s (cL t i j) t.cells.length&&km s (mP s t i j) (t.cells.length+1)
def qf(s:Sce)(t:Tr)(i j:Int):Tr:=if wQ s t i j then gJ s (mP s t i j) (t.cells.length+1)else t
def qg(s:Sce)(p q:List Int)(w cells:Int):Nat->Tr->Tr×Int
 |0,t=>(t,0)
 |f+1,t=>if(jw s.js s.ms t p q w).2.2=3 then if cells-2<t.cells.length then(t,4)else qg s p q w cells f (qf s t (jw s.js s.ms t p q w).1 (jw s.js s.ms t p q w).2.1)
  else(t,(jw s.js s.ms t p q w).2.2)
def vd(s:Sce)(p q:List Int)(w cells:Int):Bool:=decide (aY s=0)&&bW s.js s.ms p&&bW s.js s.ms q&&decide (1<=w)&&decide (1<=cells)&&decide (cells<=2048)
def sY(s:Sce):Tr:=gJ s (im (af s.js s.ms)) 0
def sZ(s:Sce)(p q:List Int)(w cells:Int):Tr×Int:=if vd s p q w cells then qg s p q w cells 2048 (sY s)else(⟨[],[]⟩,0)
section
variable {n:Nat} {may may' has:Nat->Bool} {tch:Nat->Nat->Bool} (h:∀i,i<n->may i=may' i)
include h
theorem Ih:∀i,i<=n->bI n may has i=bI n may' has i
 |0,_=>rfl
 |i+1,hi=>by simp only[bI];rw[Ih i (by omega),h i (by omega)]
theorem Ii(s:BS)(k:Nat):∀i,i<=n->bJ may tch s k i=bJ may' tch s k i
 |0,_=>rfl
 |i+1,hi=>by
  simp only[bJ]
  have e:yR may tch (bJ may' tch s k i) k i=yR may' tch (bJ may' tch s k i) k i:=by unfold yR;rw[h i (by omega)]
  rw[Ii s k i (by omega),e]
theorem DD:∀k,bK n may has tch k=bK n may' has tch k
 |0=>by simp only[bK];exact Ih h n (VU _)
 |k+1=>by simp only[bK];rw[DD k,Ii h _ _ n (VU _)]
theorem u0{hasF:Nat->Bool}:dq n may has hasF tch=dq n may' has hasF tch/\eM n may has hasF tch=eM n may' has hasF tch:=by
 have a:mu n may has hasF tch=mu n may' has hasF tch:=by unfold mu;rw[DD h]
 have b:dq n may has hasF tch=dq n may' has hasF tch:=by unfold dq;rw[a]
 refine⟨b,?_⟩;unfold eM;rw[a,b,DD h]
end
theorem Pt(k j:Int)(o:Bool)(h:(j != -1)=o):oA k j=pF k 1 o:=by unfold oA;rw[h];rfl
theorem Pu(k j:Int)(o:Bool)(h:(j != -1)=o):tH k j=pF k 2 o:=by
 have:(j==-1)=!o:=by rw[<-h];simp[bne]
 unfold tH;rw[this];rfl
def iE(js:List J)(ms:List Ms)(w:Int)(b:Bx):Int:=if gy js ms w b then fW js ms b else -1
def NK(js:List J)(ms:List Ms)(w:Int)(t:Tr):List Int:=(ah t).map (iE js ms w)
theorem DE{b:Bx}:(iE js ms w b != -1)=gy js ms w b:=by
 unfold iE
 cases h:gy js ms w b with
 |false=>simp
 |true=>
  have:0<=fW js ms b:=by
   unfold gy at h;simp only[An,L4]at h;exact h.1
  simp;omega
theorem Mm{t:Tr}{i:Nat}(b:aT t=true)(hi:i<t.cells.length):(NK js ms w t)[i]?=some (iE js ms w (gv (ah t) i))/\(iN js ms w t)[i]?=some (gy js ms w (gv (ah t) i)):=by
 have a:(ah t)[i]?=some (gv (ah t) i):=by
  have:=fA b;simp[gv,an (by omega:i<(ah t).length)]
 simp[NK,iN,a]
theorem BU{α:Type}{p q:α->Bool}:∀{l:List α},(∀x∈l,p x=q x)->l.find? p=l.find? q
 |[],_=>rfl
 |a::l,h=>by
  simp only[List.find?_cons];rw[h a (by simp),BU λx b=>h x (by simp[b])]
theorem NJ{b:Bx}(h:fW js ms b=-1):gy js ms w b=false:=by simp[gy,h]
theorem Ml{b:Bx}{j:Nat}{x:Int×Int}(h:fW js ms b=(j:Int))(c:b[j]?=some x):gy js ms w b=decide (w<x.2-x.1):=by
 have a:(0:Int)<=(j:Int):=by omega
 unfold gy;rw[h,V7,c,Wv a,We]
theorem Qi(js:List J)(ms:List Ms)(b:Bx)(w:Int)(d:js.length<=9223372036854775807)(f:ms.length<=9223372036854775807)(c:b.length<=9223372036854775807):mW 35 (gB js ms) (iv b) (Z w) (Z (iE js ms w b)):=by
 have i:=T9 js ms b d f c;rcases u9 js ms b with a|⟨j,a,k,_,n,x,g,p⟩
 .have e:iE js ms w b=-1:=by unfold iE;rw[NJ a];rfl
  rw[e];rw[a]at i;refine Dp func35 λC hP hN=>?_;exact Gy
 .have e:iE js ms w b=if w<x.2-x.1 then(j:Int)else -1:=by
   unfold iE;rw[Ml a g,a];by_cases h:w<x.2-x.1<;>simp[h]
  rw[e];rw[a]at i;have r:∀h,b[j]'h=x:=λh=>iK g h;have o:=fc.1 (fq.1 n _ (Is g));have q:i64.wrap (x.2-x.1)=x.2-x.1:=aa
  have m:¬(j:Int)=-1:=by omega
  by_cases h:w<x.2-x.1
  .have l:¬x.2-x.1<=w:=by omega
   rw[VS h];refine Dp func35 λC hP hN=>?_;exact Gy
  .have l:x.2-x.1<=w:=by omega
   rw[VM h];refine Dp func35 λC hP hN=>?_;exact Gy
theorem GY(x:Int):0<=x*x:=by
 rcases Yf 0 x with h|h
 .exact WV h h
 .have:=WV (show 0<=-x by omega) (show 0<=-x by omega)
  rw[Int.neg_mul_neg]at this;exact this
def N2(l:List Int)(m:Nat)(c:Vc):Vc:=(wr (c.1+wr (wr (nx l m 7-3)*32768)),wr (c.2.1+wr (wr (nx l (nn l m) 5-2)*32768)),wr (c.2.2+wr (wr (nx l (nn l (nn l m)) 5-2)*32768)))
def sg(l:List Int)(m:Nat):Nat->Nat
 |0=>m
 |i+1=>nn l (nn l (nn l (sg l m i)))
theorem D1(l:List Int)(m:Nat):∀i,sg l m i<=m+3*i
 |0=>VU _
 |i+1=>by
  have h:=D1 l m i;have a:=br l (sg l m i);have b:=br l (nn l (sg l m i));have c:=br l (nn l (nn l (sg l m i)));simp only[sg];omega
def B5(l:List Int)(m:Nat)(c:Vc)(k:Nat):List Vc:=c::(List.range k).map λi=>N2 l (sg l m i) c
theorem J9(l:List Int)(m:Nat)(c:Vc)(k:Nat):(B5 l m c (k+1)).map ao=(B5 l m c k).map ao++[ao (N2 l (sg l m k) c)]:=by simp[B5,Xk]
theorem FK(l:List Int)(m:Nat)(c:Vc)(k:Nat):(B5 l m c k).length=k+1:=by simp[B5]
def oS(l:List Int)(n:Nat):Nat:=(nx l n 4).toNat
def FL(l:List Int)(n:Nat)(c:Vc):List Vc:=B5 l (nn l n) c (oS l n)
def B6(l:List Int)(n:Nat):Nat:=sg l (nn l n) (oS l n)
theorem Qm(l:List Int)(n:Nat)(c:Vc)(hn:n<100000):aQ prog 24 [.bx 0,.pv (ao c)] [j8 l n] [j8 l (B6 l n)] (.pv (aP (FL l n c))):=by
 have x:=cY l n (k:=4) (by decide) (by decide)
 have p:nx l n 4=((oS l n:Nat):Int):=by unfold oS;omega
 have q:oS l n<4:=by unfold oS;omega
 have r:=br l n;refine oV func24 rfl (by kernel_rfl) (by simp[f24]) rfl (by intro i j h;rcases i with _|_|_|i<;>simp_all) ?_;intro C hP hN;simp only[f24]at hN|-
 with_reducible repeat' (first|refine Sp.h ?_|((first|refine Wh [8] ?_|refine Wi [8] ?_|refine Ss.h ?_|refine Sc.h (io l n 4 (by decide) (by omega)) ?_|(refine Sb.h ?_ ?_ ?_<;>(try intro hgd)<;>try exact Xy))<;>simp -implicitDefEqProofs (maxSteps:=2000000) [hP,hN,j8,p]<;>try refine Ya ?_)|refine X2 ?_ ?_|(refine Xd ?_ ?_<;>intro hcd<;>try exact Xx))
 refine WP.loopN [] (oS l n) (λi st=>st.t 0=.ptr (pk 0) 0/\st.t 3=.ptr 3 0/\st.h 3=some (.box [.pv (Z c.1),.pv (Z c.2.1),.pv (Z c.2.2)] true false)/\st.t 6=.pv (Z ((oS l n:Int)-i))/\
  st.h (pk 0)=some (.box [.pv (zs l),.pv (Z (sg l (nn l n) i))] false false)/\st.t 5=.arr 8 (i+1)/\st.h 8=some (.row 68 3 ((B5 l (nn l n) c i).map ao) 0)) (by simp[sg,B5]) ?_
 rintro i st hi ⟨g,m,a,h6,hp,h5,b⟩;have v:=FK l (nn l n) c i;by_cases f:i<oS l n
 .have u:i64.wrap ((oS l n:Int)-i-1)=(oS l n:Int)-((i:Int)+1):=by rw[IntKind.wrap_i64];omega
  have d:(0:Int)<(oS l n:Int)-i:=by omega
  have s:=D1 l (nn l n) i;have y:=br l (sg l (nn l n) i);have z:=br l (nn l (sg l (nn l n) i));have o:=J9 l (nn l n) c i;have hS:sg l (nn l n) (i+1)=nn l (nn l (nn l (sg l (nn l n) i))):=rfl
  with_reducible repeat' (first|refine Sp.h ?_|((first|refine Wd ?_|refine Ss.h ?_|refine Sc.h (yx l _ _ (by decide) (by decide) (by omega)) ?_|(refine Sb.h ?_ ?_ ?_<;>(try intro hgd)<;>try exact Xy))<;>simp -implicitDefEqProofs (maxSteps:=2000000) [hP,hN,g,m,a,h5,h6,hp,b,f,u,d,hS,v,show(i+1+1)*24<=140737488355328 by omega,show i<=9223372036854775805 by omega]<;>try refine Ya ?_)|refine X2 ?_ ?_|(refine Xd ?_ ?_<;>intro hcd<;>try exact Xx))
  all_goals simp[o,N2]
 .have e:i=oS l n:=by omega
  subst e;refine Gz ?_
  all_goals simp[B6,FL]
theorem IE(l:List Int)(n:Nat):B6 l n<=n+10:=by
 have b:=br l n;have d:=cY l n (k:=4) (by decide) (by decide)
 have a:oS l n<4:=by unfold oS;omega
 have c:=D1 l (nn l n) (oS l n);unfold B6;omega
theorem Mw(l:List Int):wL l 0<=60:=by
 have d:=br l 0;have i:=cY l 0 (k:=3) (by decide) (by decide)
 have b:rN l 0<=3:=by unfold rN;omega
 have e:=Dr l (nn l 0) (rN l 0);have f:=br l (rM l 0);have c:=cY l (rM l 0) (k:=3) (by decide) (by decide)
 have a:rK l 0<3:=by unfold rK;omega
 have g:=HV l (nn l (rM l 0)) (rK l 0);have h5:rM l 0=sP l (nn l 0) (rN l 0):=rfl;unfold wL;omega
def Qn(l:List Int)(m:Nat)(i:Nat):Sh:=⟨i,wr ((wr (wr (1+nx l m 3)*65536)).tdiv 8),FL l (nn l (nn l m)) (wr (nx l (nn l m) 4*32768),0,0)⟩
def iV(l:List Int)(n:Nat):Nat->List Sh×Nat
 |0=>([],n)
 |i+1=>if nx l (iV l n i).2 5<4 then((iV l n i).1++[Qn l (nn l (iV l n i).2) i],B6 l (nn l (nn l (nn l (iV l n i).2))))else((iV l n i).1,nn l (iV l n i).2)
theorem D2(l:List Int)(n:Nat):∀i,(iV l n i).2<=n+13*i/\(iV l n i).1.length<=i
 |0=>by simp[iV]
 |i+1=>by
  have ih:=D2 l n i;have a:=br l (iV l n i).2;have b:=br l (nn l (iV l n i).2);have a3:=br l (nn l (nn l (iV l n i).2));have a4:=IE l (nn l (nn l (nn l (iV l n i).2)));simp only[iV];split
  .simp only[V9,XE,X0];omega
  .simp only;omega
def IF(l:List Int)(m:Nat):Sh:=⟨-1,wr ((wr (wr (1+nx l (nn l (nn l (nn l m))) 4)*65536)).tdiv 8),FL l (nn l (nn l (nn l (nn l m)))) (wr (wr (nx l m 19-9)*32768),wr (wr (nx l (nn l m) 19-9)*32768),wr (wr (nx l (nn l (nn l m)) 5-2)*32768))⟩
def kI(l:List Int)(xs:List Sh)(n:Nat):Nat->List Sh×Nat
 |0=>(xs,n)
 |i+1=>((kI l xs n i).1++[IF l (kI l xs n i).2],B6 l (nn l (nn l (nn l (nn l (kI l xs n i).2)))))
theorem D3(l:List Int)(xs:List Sh)(n:Nat):∀i,(kI l xs n i).2<=n+14*i/\(kI l xs n i).1.length=xs.length+i
 |0=>by simp[kI]
 |i+1=>by
  have ih:=D3 l xs n i;have a:=br l (kI l xs n i).2;have b:=br l (nn l (kI l xs n i).2);have a3:=br l (nn l (nn l (kI l xs n i).2));have a4:=br l (nn l (nn l (nn l (kI l xs n i).2)));have c:=IE l (nn l (nn l (nn l (nn l (kI l xs n i).2))));simp only[kI,V9,XE,X0];omega
def wW(l:List Int)(n:Nat):Nat:=(1+nx l n 3).toNat
def mA(l:List Int):List Sh×Nat:=iV l (wL l 0) (rN l 0)
def mB(l:List Int):List Sh×Nat:=kI l (mA l).1 (nn l (mA l).2) (wW l (mA l).2)
def tJ(l:List Int):Sce:=⟨nN l 0,sQ l 0,(mB l).1,if nx l (mB l).2 5=1 then[(-1,nx l (nn l (mB l).2) (rN l 0))]else[]⟩
def UK(l:List Int)(xs:List Sh)(h:Hp):Prop:=∃W:AV,h 4=some (.box [.pv (.sl ((nN l 0).map bu)),.pv (.sl ((sQ l 0).map cE)),W,fJ] true false)/\((xs=[]/\W=fJ/\h 71=none)\/(xs≠[]/\W=.arr 40 xs.length/\h 40=some (.row 70 3 (xs.map cD) 0))\/(xs≠[]/\W=.arr 71 xs.length/\h 71=some (.row 70 3 (xs.map cD) 0)))
theorem d8(l:List Int):bh 8 (zs l) (eK (tJ l)):=by
 have N:=cY l 0 (k:=3) (by decide) (by decide)
 have X:rN l 0<=3/\0<rN l 0:=by unfold rN;omega
 have s:(nN l 0).length=rN l 0:=t6 l (nn l 0) (rN l 0);have Y:=Mw l;have cr:=Uc l 0 (by decide);generalize P:wL l 0=u at *;refine Dp func8 λC hP hN=>?_;have q1:=@Nn;refine GT @j8.eq_1 ?_
 refine WP.loopN [] (rN l 0) (λi st=>st.t 3=.ptr 9 0/\st.h 9=some (.box [.pv (zs l),.pv (Z (iV l u i).2)] true false)/\st.t 2=.ptr 2 0/\st.h 2=some (.box [fJ,fJ,fJ,fJ] true false)/\st.t 4=.ptr 4 0/\st.t 5=.pv (Z i)/\st.h 71=none/\st.h 86=none/\st.h 7=none/\
  (((iV l u i).1=[]/\st.h 4=some (.box [.pv (.sl ((nN l 0).map bu)),.pv (.sl ((sQ l 0).map cE)),fJ,fJ] true false)/\st.h 40=none)\/((iV l u i).1≠[]/\st.h 4=some (.box [.pv (.sl ((nN l 0).map bu)),.pv (.sl ((sQ l 0).map cE)),.arr 40 (iV l u i).1.length,fJ] true false)/\st.h 40=some (.row 70 3 ((iV l u i).1.map cD) 0)))) (by simp[iV]) ?_
 rintro i st hi ⟨g3,j,g2,n,g4,g5,d,e,o,x⟩;have G:=D2 l u i;by_cases r:i<rN l 0
 .have v:=aj r (by omega)
  have hS:iV l u (i+1)=if nx l (iV l u i).2 5<4 then((iV l u i).1++[Qn l (nn l (iV l u i).2) i],B6 l (nn l (nn l (nn l (iV l u i).2))))else((iV l u i).1,nn l (iV l u i).2):=rfl
  generalize iV l u (i+1)=R at *;generalize iV l u i=S at *;obtain⟨xs,m⟩:=S;simp only at G hS j x;have Q:=br l m;have T:=br l (nn l m);have a3:=br l (nn l (nn l m));have F:=Qm l (nn l (nn l (nn l m))) (wr (nx l (nn l (nn l m)) 4*32768),0,0) (by omega);by_cases h5:nx l m 5<4
  .rw[VS h5]at hS
   subst hS;rcases x with⟨p,f,g⟩|⟨p,f,g⟩
   .subst p
    with_reducible repeat' (first|refine Sp.h ?_|((first|refine Wd ?_|refine Ss.h ?_|refine Sc.h (io l _ 5 (by decide) (by omega)) ?_|refine Sc.h (io l _ 3 (by decide) (by omega)) ?_|refine Sc.h (io l _ 4 (by decide) (by omega)) ?_|refine Sc.h (F) ?_|(refine Sb.h ?_ ?_ ?_<;>(try intro hgd)<;>try exact Xy))<;>simp -implicitDefEqProofs [hP,hN,g3,j,g2,n,g4,g5,d,e,o,f,g,r,v,s,h5]<;>try refine Ya ?_)|refine X2 ?_ ?_|(refine Xd ?_ ?_<;>intro hcd<;>try exact Xx))
    all_goals exact⟨rfl,rfl,rfl⟩
   .skip
    with_reducible repeat' (first|refine Sp.h ?_|((first|refine Wd ?_|refine Ss.h ?_|refine Sc.h (io l _ 5 (by decide) (by omega)) ?_|refine Sc.h (io l _ 3 (by decide) (by omega)) ?_|refine Sc.h (io l _ 4 (by decide) (by omega)) ?_|refine Sc.h (F) ?_|(refine Sb.h ?_ ?_ ?_<;>(try intro hgd)<;>try exact Xy))<;>simp -implicitDefEqProofs [hP,hN,g3,j,g2,n,g4,g5,d,e,o,f,g,r,v,s,h5,show(xs.length+1)*40<=140737488355328 by omega,show xs.length<=9223372036854775806 by omega]<;>try refine Ya ?_)|refine X2 ?_ ?_|(refine Xd ?_ ?_<;>intro hcd<;>try exact Xx))
    all_goals exact⟨rfl,rfl,rfl⟩
  .rw[VM h5]at hS
   subst hS;rcases x with⟨p,f,g⟩|⟨p,f,g⟩
   all_goals
    with_reducible repeat' (first|refine Sp.h ?_|((first|refine Wd ?_|refine Ss.h ?_|refine Sc.h (io l _ 5 (by decide) (by omega)) ?_|(refine Sb.h ?_ ?_ ?_<;>(try intro hgd)<;>try exact Xy))<;>simp -implicitDefEqProofs [hP,hN,g3,j,g2,n,g4,g5,d,e,o,f,g,r,v,s,h5]<;>try refine Ya ?_)|refine X2 ?_ ?_|(refine Xd ?_ ?_<;>intro hcd<;>try exact Xx))
    all_goals exact p
 .have E:i=rN l 0:=by omega
  subst E
  have H:iV l u (rN l 0)=mA l:=by unfold mA;rw[P]
  rw[H]at G j x;have hK:nx l (mA l).2 3<3/\0<=nx l (mA l).2 3:=⟨(cY l _ (by decide) (by decide)).2,(cY l _ (by decide) (by decide)).1⟩
  have O:i64.wrap (1+nx l (mA l).2 3)=((wW l (mA l).2:Nat):Int):=by rw[IntKind.wrap_i64];unfold wW;omega
  have U:wW l (mA l).2<=3/\1<=wW l (mA l).2:=by unfold wW;omega
  have L:tJ l=⟨nN l 0,sQ l 0,(mB l).1,if nx l (mB l).2 5=1 then[(-1,nx l (nn l (mB l).2) (rN l 0))]else[]⟩:=rfl;rw[L];have I:mB l=kI l (mA l).1 (nn l (mA l).2) (wW l (mA l).2):=rfl;have V:=br l (mA l).2;rw[I];generalize mA l=A at *;clear H L I;generalize wW l A.2=K at *
  obtain⟨W,f,q⟩:∃W:AV,st.h 4=some (.box [.pv (.sl ((nN l 0).map bu)),.pv (.sl ((sQ l 0).map cE)),W,fJ] true false)/\((A.1=[]/\W=fJ/\st.h 71=none)\/(A.1≠[]/\W=.arr 40 A.1.length/\st.h 40=some (.row 70 3 (A.1.map cD) 0))\/(A.1≠[]/\W=.arr 71 A.1.length/\st.h 71=some (.row 70 3 (A.1.map cD) 0))):=by
   rcases x with⟨a,b,c⟩|⟨a,b,c⟩
   .exact⟨_,b,.inl ⟨a,rfl,d⟩⟩
   .exact⟨_,b,.inr (.inl ⟨a,rfl,c⟩)⟩
  clear x
  with_reducible repeat' (first|refine Sp.h ?_|((first|refine Wd ?_|refine Ss.h ?_|refine Sc.h (io l _ 3 (by decide) (by omega)) ?_|(refine Sb.h ?_ ?_ ?_<;>(try intro hgd)<;>try exact Xy))<;>simp -implicitDefEqProofs [hP,hN,g3,j,g2,n,g4,g5,f,e,o,s,O]<;>try refine Ya ?_)|refine X2 ?_ ?_|(refine Xd ?_ ?_<;>intro hcd<;>try exact Xx))
  have M:kI l A.1 (nn l A.2) 0=(A.1,nn l A.2):=rfl;refine WP.loopN [7] K (λi st=>st.t 3=.ptr 9 0/\st.h 9=some (.box [.pv (zs l),.pv (Z (kI l A.1 (nn l A.2) i).2)] true false)/\st.t 2=.ptr 2 0/\st.h 2=some (.box [fJ,fJ,fJ,fJ] true false)/\st.t 4=.ptr 4 0/\st.t 6=.pv (Z ((K:Int)-i))/\st.h 86=none/\st.h 7=none/\UK l (kI l A.1 (nn l A.2) i).1 st.h) ?_ ?_
  .refine⟨by simp[g3],by simp[M],by simp[g2],by simp[n],by simp[g4],by simp,by simp[e],by simp[o],?_⟩
   rw[M];rcases q with⟨a,rfl,b⟩|⟨a,rfl,b⟩|⟨a,rfl,b⟩
   .exact⟨fJ,by simp[f],.inl ⟨a,rfl,by simp[b]⟩⟩
   .exact⟨.arr 40 A.1.length,by simp[f],.inr (.inl ⟨a,rfl,by simp[b]⟩)⟩
   .exact⟨.arr 71 A.1.length,by simp[f],.inr (.inr ⟨a,rfl,by simp[b]⟩)⟩
  clear g3 j g2 n g4 g5 e o f d q;rintro i st hi ⟨g3,j,g2,n,g4,B,e,o,W,f,q⟩;have z:=D3 l A.1 (nn l A.2) i;by_cases r:i<K
  .have v:i64.wrap ((K:Int)-i-1)=(K:Int)-((i:Int)+1):=by rw[IntKind.wrap_i64];omega
   have D:(0:Int)<(K:Int)-i:=by omega
   have hS:kI l A.1 (nn l A.2) (i+1)=((kI l A.1 (nn l A.2) i).1++[IF l (kI l A.1 (nn l A.2) i).2],B6 l (nn l (nn l (nn l (nn l (kI l A.1 (nn l A.2) i).2))))):=rfl;generalize kI l A.1 (nn l A.2) (i+1)=R at *;generalize kI l A.1 (nn l A.2) i=S at *;subst hS;obtain⟨xs,m⟩:=S;simp only at z j q|-;have Q:=br l m;have T:=br l (nn l m);have a3:=br l (nn l (nn l m));have a4:=br l (nn l (nn l (nn l m)));have F:=Qm l (nn l (nn l (nn l (nn l m)))) (wr (wr (nx l m 19-9)*32768),wr (wr (nx l (nn l m) 19-9)*32768),wr (wr (nx l (nn l (nn l m)) 5-2)*32768)) (by omega);rcases q with⟨p,q,d⟩|⟨p,q,g⟩|⟨p,q,d⟩
   .subst q;subst p
    with_reducible repeat' (first|refine Sp.h ?_|((first|refine Wd ?_|refine Ss.h ?_|refine Sc.h (yx l _ 9 (by decide) (by decide) (by omega)) ?_|refine Sc.h (yx l _ 2 (by decide) (by decide) (by omega)) ?_|refine Sc.h (io l _ 4 (by decide) (by omega)) ?_|refine Sc.h (F) ?_|(refine Sb.h ?_ ?_ ?_<;>(try intro hgd)<;>try exact Xy))<;>simp -implicitDefEqProofs [hP,hN,g3,j,g2,n,g4,B,e,o,f,d,v,D]<;>try refine Ya ?_)|refine X2 ?_ ?_|(refine Xd ?_ ?_<;>intro hcd<;>try exact Xx))
    refine⟨r,.arr 71 [IF l m].length,by simp[St.kill,bG,az],.inr (.inr ⟨by simp,rfl,?_⟩)⟩;simp[St.kill,bG,az]
    all_goals exact⟨rfl,rfl,rfl⟩
   .subst q
    with_reducible repeat' (first|refine Sp.h ?_|((first|refine Wd ?_|refine Ss.h ?_|refine Sc.h (yx l _ 9 (by decide) (by decide) (by omega)) ?_|refine Sc.h (yx l _ 2 (by decide) (by decide) (by omega)) ?_|refine Sc.h (io l _ 4 (by decide) (by omega)) ?_|refine Sc.h (F) ?_|(refine Sb.h ?_ ?_ ?_<;>(try intro hgd)<;>try exact Xy))<;>simp -implicitDefEqProofs [hP,hN,g3,j,g2,n,g4,B,e,o,f,g,v,D,show(xs.length+1)*40<=140737488355328 by omega,show xs.length<=9223372036854775806 by omega]<;>try refine Ya ?_)|refine X2 ?_ ?_|(refine Xd ?_ ?_<;>intro hcd<;>try exact Xx))
    refine⟨r,.arr 40 (xs++[IF l m]).length,by simp[St.kill,bG,az],.inr (.inl ⟨by simp,rfl,?_⟩)⟩;simp[St.kill,bG,az]
    all_goals exact⟨rfl,rfl,rfl⟩
   .subst q
    with_reducible repeat' (first|refine Sp.h ?_|((first|refine Wd ?_|refine Ss.h ?_|refine Sc.h (yx l _ 9 (by decide) (by decide) (by omega)) ?_|refine Sc.h (yx l _ 2 (by decide) (by decide) (by omega)) ?_|refine Sc.h (io l _ 4 (by decide) (by omega)) ?_|refine Sc.h (F) ?_|(refine Sb.h ?_ ?_ ?_<;>(try intro hgd)<;>try exact Xy))<;>simp -implicitDefEqProofs [hP,hN,g3,j,g2,n,g4,B,e,o,f,d,v,D,show(xs.length+1)*40<=140737488355328 by omega,show xs.length<=9223372036854775806 by omega]<;>try refine Ya ?_)|refine X2 ?_ ?_|(refine Xd ?_ ?_<;>intro hcd<;>try exact Xx))
    refine⟨r,.arr 71 (xs++[IF l m]).length,by simp[St.kill,bG,az],.inr (.inr ⟨by simp,rfl,?_⟩)⟩;simp[St.kill,bG,az]
    all_goals exact⟨rfl,rfl,rfl⟩
  .have E:i=K:=by omega
   subst E;generalize kI l A.1 (nn l A.2) i=S at *;obtain⟨xs,m⟩:=S;simp only at z j q|-;have Q:=br l m
   have J:((rN l 0:Nat):Int)≠0:=by omega
   have p:xs≠[]:=by
    rintro rfl;have:=z.2;simp at this;omega
   by_cases h5:nx l m 5=1
   .have y:(nx l m 5==1)=true:=by simp[h5]
    rw[VS h5];rcases q with⟨N,q,d⟩|⟨_,q,g⟩|⟨_,q,d⟩
    .exact absurd N p
    .subst q
     with_reducible repeat' (first|refine Sp.h ?_|((first|refine Wd ?_|refine Ss.h ?_|refine Sc.h (io l _ 5 (by decide) (by omega)) ?_|refine Sc.h (io l _ _ J (by omega)) ?_)<;>simp -implicitDefEqProofs [hP,hN,g3,j,g2,n,g4,B,e,o,f,g,h5,y,s]<;>try refine Ya ?_))
    .subst q
     with_reducible repeat' (first|refine Sp.h ?_|((first|refine Wd ?_|refine Ss.h ?_|refine Sc.h (io l _ 5 (by decide) (by omega)) ?_|refine Sc.h (io l _ _ J (by omega)) ?_)<;>simp -implicitDefEqProofs [hP,hN,g3,j,g2,n,g4,B,e,o,f,d,h5,y,s]<;>try refine Ya ?_))
   .have y:(nx l m 5==1)=false:=by simp[h5]
    rw[VM h5];rcases q with⟨N,q,d⟩|⟨_,q,g⟩|⟨_,q,d⟩
    .exact absurd N p
    .subst q
     with_reducible repeat' (first|refine Sp.h ?_|((first|refine Ss.h ?_|refine Sc.h (io l _ 5 (by decide) (by omega)) ?_)<;>simp -implicitDefEqProofs [hP,hN,g3,j,g2,n,g4,B,e,o,f,g,h5,y,s]))
    .subst q
     with_reducible repeat' (first|refine Sp.h ?_|((first|refine Ss.h ?_|refine Sc.h (io l _ 5 (by decide) (by omega)) ?_)<;>simp -implicitDefEqProofs [hP,hN,g3,j,g2,n,g4,B,e,o,f,d,h5,y,s]))
theorem Ul(t:Tr)(v:Verd)(F:TSm t)(z:tx 16777216 v)(g:cO t 0 v=true):nY prog 77 ([eT t,Z 0,nh v].map .pv) mw (λr Q=>r=.tup [.agg ([iv t.root].map .pv++[.arr 291 ((bX t 0 v).cells.map bw).length]),.pv (B true)]/\Q=fI 58 8 ((bX t 0 v).cells.map bw)):=by
 have T:bX t 0 v=dl t 0 v:=by unfold bX;rw[VS g];rfl
 have a:=g;simp only[cO,An,L4]at a;obtain⟨⟨⟨⟨⟨V,_⟩,h0⟩,l⟩,D⟩,hf⟩:=a
 have d:0<t.cells.length:=by omega
 have U:=F.cells;have G:=Qu t (by omega);rw[V]at G
 have x:t.cells≠[]:=by intro e;rw[e]at d;simp at d
 have cc:=KU t F x;generalize E:t.cells[0]=c at *
 have i:t.cells[0]?=some c:=by rw[an d,E]
 have l:dR c=true:=by simpa[ej,i]using l
 have D:c.v.kind=0:=by simpa[eD,i]using D
 have cl:=KM c;have I:=OY v;have cv:=O6 v z;rw[l]at cl;rw[hf]at I
 have p:(c.v.kind !=0)=false:=by simp[D]
 have j:=zE l
 have W:c.joint=-1:=by rw[j];rfl
 have X:c.low=-1:=by rw[j];rfl
 have Y:c.high=-1:=by rw[j];rfl
 clear j
 have s:((dl t 0 v).cells.map bw).length=t.cells.length:=by simp[dl]
 rw[T,s]
 have y:(t.cells.map bw).set 0 (bw (aD v))=(dl t 0 v).cells.map bw:=by simp[dl,Xs]
 clear g F z U
 have u:¬(t.cells.length:Int)<=0:=by omega
 refine Hs func77 CK ?_;intro C hP hN;simp only[f77]at hN|-
 with_reducible iterate 7 any_goals (first|refine Sp.h ?_|((first|refine Wd ?_|refine Ss.h ?_|refine Sc.h (cc) ?_|(refine Sb.h ?_ ?_ ?_<;>(try intro hgd)<;>try exact Xy))<;>simp -implicitDefEqProofs (maxSteps:=2000000) [hP,hN,tQ,mw,d,i,E,p]<;>try refine Yc ?_)|refine X2 ?_ ?_|(refine Xd ?_ ?_<;>intro hcd<;>try exact Xx))
 refine Hw 10 291 (e:=58) (sz:=8) (fz:=0) (xs:=t.cells.map bw) (by simp[ag,mw]) (by simp[ag,mw]) (by omega) (by omega) ?_
 refine WP.of_st (P:=λst=>st.t 1=.pv (Z 0)/\st.t 3=.ptr 3 0/\st.t 5=.ptr 5 0/\st.t 6=.ptr 6 0/\st.t 7=.ptr 7 0/\st.h 3=some (.box [.pv (iv t.root),.pv (.sl (t.cells.map bw))] true false)/\st.h 5=some (.box [.pv (Z v.kind),.pv (aP v.nor),.pv (Z v.pair),.pv (zs v.left),.pv (zs v.right)] true false)/\st.h 6=some (.box [.pv (iv t.root),.arr 291 t.cells.length] true false)/\st.h 7=some (.box [.pv (B false)] true false)/\st.h 291=some (.row 58 8 (t.cells.map bw) 0)/\∀k,290<=k->k≠291->st.h k=none)
  ⟨⟨by simp[bQ,bn,ag],by simp[bQ,bn,rk,ag],by simp[bQ,bn,rk,ag],by simp[bQ,bn,rk,ag],by simp[bQ,bn,rk,ag],by simp[bE,df,bQ,bn,rk,ag],by simp[bE,df,bQ,bn,rk,ag],by simp[bE,df,bQ,bn,rk,ag],by simp[bE,df,bQ,bn,rk,ag],by simp[bE,df,ag],λk h1 R=>?_⟩,?_⟩
 .simp[bE,ag,mw,R,show¬k=3 by omega,show¬k=5 by omega,show¬k=6 by omega,show¬k=7 by omega,show¬k=10 by omega]
 rintro st ⟨g1,g3,g5,J,K,L,M,b6,N,n,A⟩
 with_reducible repeat' (first|refine Sp.h ?_|((first|refine Wd ?_|refine Ss.h ?_|refine Sc.h (G) ?_|refine Sc.h (cl) ?_|refine Sc.h (I) ?_|refine Sc.h (cv) ?_|(refine Sb.h ?_ ?_ ?_<;>(try intro hgd)<;>try exact Xy))<;>simp -implicitDefEqProofs (maxSteps:=2000000) [hP,hN,g1,g3,g5,J,K,L,M,b6,N,n,d,u,x,i,E,p]<;>try refine Yc ?_)|refine X2 ?_ ?_|(refine Xd ?_ ?_<;>intro hcd<;>try exact Xx))
 have q:291≠6:=by omega
 refine xq (H:=fI 58 8 ((dl t 0 v).cells.map bw)) (r:=.tup [.agg [.pv (iv t.root),.arr 291 t.cells.length],.pv (B true)]) (by simp[mM,ln,J,K]) rfl (λk q=>?_) ⟨λk b m=>?_,λk b o m=>?_,λk b m=>?_,λk O o f m=>?_⟩ ⟨rfl,rfl⟩ (λk O f q=>by cases q)
 .simp only[inK,An,L4]at q
  by_cases e:k=291
  .subst e
   simp only[fI,V8,<-y];simp[ag,W,X,Y,aD]
  .simp[fI,ag,e,show¬k=6 by omega,show¬k=7 by omega]
   exact A k q.1 e
 .obtain⟨rfl,_⟩:=fZ m;rfl
 .obtain⟨_,rfl⟩:=fZ m;simp[Blk.frz]
 .obtain⟨_,rfl⟩:=fZ m;rfl
 .obtain⟨_,S⟩:=fZ m;cases S
set_option maxRecDepth 100000 in
@[simp] theorem TT:fC prog 73:=by
 have hf:=func73;have nt:=ntmps73;have rs:=results73;exact BL
theorem Um(sc:Sce)(t:Tr)(c:Cel)(hs:ScL sc)(F:TSm t)(Q:aY sc=0)(j:eX t 0=true)(hi:gU sc.js sc.ms (dt t 0)=true)(u:t.cells[0]?=some c)(s:(dt t 0).length<=9223372036854775807)(y:c.v.nor.length<=9223372036854775807)
 (z:tx 16777216 (aV (bD sc (dt t 0) c.v.nor)))(i:cO t 0 (aV (bD sc (dt t 0) c.v.nor))=true):
 nY prog 33 ([eK sc,eT t,Z 0].map .pv) mw (λr O=>r=.tup [.agg ([iv t.root].map .pv++[.arr 291 ((bX t 0 (aV (bD sc (dt t 0) c.v.nor))).cells.map bw).length]),.pv (B true)]/\O=fI 58 8 ((bX t 0 (aV (bD sc (dt t 0) c.v.nor))).cells.map bw)):=by
 have I:=Ul t _ F z i;have A:=Eg sc hs;have J:=T8 sc.js sc.ms (dt t 0) hs.js hs.ms;have K:=Vg t 0 (by have:=F.cells;omega);have N:=Ql sc (dt t 0) c.v.nor hs s y;rw[Q]at A;rw[hi]at J;rw[j]at K;have a:0<t.cells.length:=(th.1 u).1;have p:∀h,t.cells[0]'h=c:=λh=>iK u h
 have q:((bX t 0 (aV (bD sc (dt t 0) c.v.nor))).cells.map bw).length=t.cells.length:=by
  unfold bX;rw[VS i];simp[dl]
 have n:¬(t.cells.length:Int)<=0:=by omega
 have x:t.cells≠[]:=by intro e;rw[e]at a;simp at a
 have m:nh (aV (bD sc (dt t 0) c.v.nor))=AH (bD sc (dt t 0) c.v.nor):=rfl;rw[m]at I;clear m i z hi s y F;generalize(bX t 0 (aV (bD sc (dt t 0) c.v.nor))).cells.map bw=Y at *;generalize bD sc (dt t 0) c.v.nor=V at *;generalize dt t 0=bx at *;refine Hs func33 CK ?_;intro C hP hN;simp only[f33]at hN|-
 with_reducible repeat' (first|refine Sp.h ?_|((with_unfolding_all refine WP.drawX (hn:=[]) 12 rfl (by rw[hP];kernel_rfl) (by kernel_rfl) ?_);simp -implicitDefEqProofs (maxSteps:=2000000) [hP,hN,tQ,mw,a,n,x,u,p])|((first|refine Wd ?_|refine Ss.h ?_|refine Sc.h (A) ?_|refine Sc.h (J) ?_|refine Sc.h (K) ?_|refine Sc.h (N) ?_|(refine Sb.h ?_ ?_ ?_<;>(try intro hgd)<;>try exact Xy))<;>simp -implicitDefEqProofs (maxSteps:=2000000) [hP,hN,tQ,mw,a,n,x,u,p]<;>try refine Yc ?_)|refine X2 ?_ ?_|(refine Xd ?_ ?_<;>intro hcd<;>try exact Xx))
 refine⟨_,Hu (f:=.func 77) (xs:=[.tmp 33,.tmp 34,.tmp 44]) (g:=77) (d:=45) rfl rfl rfl (by simp[dv]) (by simp[ag,mw]) rfl (by simp[St.ev]) I,?_⟩;simp -implicitDefEqProofs (maxSteps:=2000000) [hP,hN,a,u,p,mw];refine Ya ?_;refine Hw 45 291 (e:=58) (sz:=8) (fz:=0) (xs:=Y) (by simp[ag,mw]) (by simp[ag,mw]) (by omega) (by omega) ?_
 refine WP.of_st (P:=λst=>st.t 6=.ptr 6 0/\st.t 7=.ptr 7 0/\st.h 6=some (.box [.pv (iv t.root),.arr 291 Y.length] true false)/\st.h 7=some (.box [.pv (B true)] true false)/\st.h 291=some (.row 58 8 Y 0)/\∀k,290<=k->k≠291->st.h k=none)
  ⟨⟨by simp[bQ,bn,rk,ag],by simp[bQ,bn,rk,ag],by simp[bE,df,bQ,bn,rk,ag],by simp[bE,df,bQ,bn,rk,ag],by simp[bE,df,ag],λk T R=>?_⟩,?_⟩
 .simp[bE,ag,mw,R,show¬k=3 by omega,show¬k=4 by omega,show¬k=6 by omega,show¬k=7 by omega,show¬k=45 by omega]
 rintro st ⟨L,M,b6,G,l,E⟩
 with_reducible repeat' (first|refine Sp.h ?_|((first|refine Wd ?_|refine Ss.h ?_|(refine Sb.h ?_ ?_ ?_<;>(try intro hgd)<;>try exact Xy))<;>simp -implicitDefEqProofs (maxSteps:=2000000) [hP,hN,L,M,b6,G,l]<;>try refine Yc ?_)|refine X2 ?_ ?_|(refine Xd ?_ ?_<;>intro hcd<;>try exact Xx))
 rw[q];refine xq (H:=fI 58 8 Y) (r:=.tup [.agg [.pv (iv t.root),.arr 291 t.cells.length],.pv (B true)]) (by simp[mM,ln,L,M,b6,G,q]) rfl (λk D=>?_) ⟨λk b j=>?_,λk b o j=>?_,λk b j=>?_,λk A o f j=>?_⟩ ⟨rfl,rfl⟩ (λk A f D=>by cases D)
 .simp only[inK,An,L4]at D
  by_cases e:k=291
  .subst e;simp[fI,l]
  .simp[fI,e]
   exact E k D.1 e
 .obtain⟨rfl,_⟩:=fZ j;rfl
 .obtain⟨_,rfl⟩:=fZ j;simp[Blk.frz]
 .obtain⟨_,rfl⟩:=fZ j;rfl
 .obtain⟨_,S⟩:=fZ j;cases S
end Go.Ab
