/- The contracts and facts that the laws of this seat need, in one text (K12b, K12c, K13, K13b, K13c, Tv, K13d, DeP, DcM, Dc8, K13e, K14, K14b, Dc10, Dc11, AbX). -/
import Derived.Test.YtnhmldjcmpfaeaaGreatF8
set_option linter.all false
set_option maxHeartbeats 16000000
namespace Go.Ab
open Go.Proofs
variable {PR:List (Nat×Nat)}{PT:List (List aH)}{js:List J}{ms:List Ms}{s:Sce}{w:Int}
abbrev mq(a:List aH)(ra:Int)(b:List aH)(rb:Int)(hints:List Vc):List PV:=[.rptr (bR a) 0,.rptr (bR b) 0,.rptr (Z ra) 0,.rptr (Z rb) 0,.rptr (bQ hints) 0]
theorem E4(a:List aH)(ra:Int)(b:List aH)(rb:Int)(hints:List Vc):aa Tryz.prog 95 [.pv (bR a),.pv (Z ra),.pv (bR b),.pv (Z rb),.pv (bQ hints)] [] [] (.pv (.fn (.func 131) [] (mq a ra b rb hints))):=by
 refine Dp Tryz.func95 ?_;intro C hP hN;simp only[Tryz.f95]at hN|-;exact Gy
def zV(a:List aH)(ra:Int)(b:List aH)(rb:Int):Bool:=aV a&&aV b&&cJ ra 0 1048576&&cJ rb 0 1048576
def xA(a:List aH)(ra:Int)(b:List aH)(rb:Int):Vc:=(m8 (aX a) (aX b) (ra+rb) 64).2.n
def xD(a:List aH)(ra:Int)(b:List aH)(rb:Int)(hints:List Vc):List Vc:=
 if zV a ra b rb then hints.filter bS++((if sj a b then[qd a b]else[])++(qc++(if bS (xA a ra b rb)then[xA a ra b rb]else[])))else[]
theorem B1{α:Type}{p:α->Bool}{l:List α}{k:Nat}{v:α}(hv:l[k]?=some v):(l.filter p)=(l.take k).filter p++(if p v then[v]else[])++(l.drop (k+1)).filter p:=by
 obtain⟨h,hv⟩:=List.getElem?_eq_some_iff.1 hv
 have e:l=l.take k++v::l.drop (k+1):=by rw[<-hv,List.getElem_cons_drop];exact(List.take_append_drop k l).symm
 conv=>lhs;rw[e]
 rw[List.filter_append,List.filter_cons];split<;>simp
structure CandT(l:Nat)(a:List aH)(ra:Int)(b:List aH)(rb:Int)(hints:List Vc)(t:Nat->AV):Prop where
 g0:t 0=.pv (.val (.func (.yield l) #[] #[]))
 g1:t 1=.pv (.rptr (bR a) 0)
 g2:t 2=.pv (.rptr (bR b) 0)
 g3:t 3=.pv (.rptr (Z ra) 0)
 g4:t 4=.pv (.rptr (Z rb) 0)
 g5:t 5=.pv (.rptr (bQ hints) 0)
def xE{P:Program}(E:YEnv P)(a:List aH)(ra:Int)(b:List aH)(rb:Int)(hints:List Vc)(n:Nat):QY:=λe t i s=>match e with
 |.normal=>s=false∧i=n∧CandT E.l a ra b rb hints t
 |.ret=>s=true∧i<E.xs.length
 |_=>False
theorem Jp(a:List aH)(ra:Int)(b:List aH)(rb:Int)(hints:List Vc)(ha:a.length<=9223372036854775807)(hb:b.length<=9223372036854775807)(hl:hints.length<=9223372036854775807):zI Tryz.prog 131 (mq a ra b rb hints) ((xD a ra b rb hints).map aR):=by
 refine Fa (c:=(Tryz.f131.body).getD .skip) Tryz.func131 rfl (by kernel_rfl) rfl (by simp[Tryz.f131]) ?_;intro E hEN hxs;simp only[Tryz.f131,Option.getD_some]at hEN|-;rw[<-hxs];have hG:CandT E.l a ra b rb hints (tI E.l (mq a ra b rb hints)):=⟨rfl,rfl,rfl,rfl,rfl,rfl⟩;generalize tI E.l (mq a ra b rb hints)=t at *;obtain⟨g0,g1,g2,g3,g4,g5⟩:=hG;have hF:=eV;have ca:=Ld a ha;have cb:=Ld b hb;have cra:=My ra;have crb:=My rb
 have hcl:xD a ra b rb hints=if zV a ra b rb then hints.filter bS++((if sj a b then[qd a b]else[])++(qc++(if bS (xA a ra b rb)then[xA a ra b rb]else[])))else[]:=rfl
 have hcb:zV a ra b rb=(aV a&&aV b&&cJ ra 0 1048576&&cJ rb 0 1048576):=rfl
 cases hok:zV a ra b rb with
 |false=>
  rw[hok]at hcl hcb;simp only[Bool.false_eq_true,if_false]at hcl
  have hx0:E.xs.length=0:=by rw[hxs,hcl];rfl
  refine bp.seq ?_;refine bp.walk λC hP hN=>?_;rw[hEN]at hN;cases hpa:aV a
  .rw[hpa]at ca
   repeat' (first
    |with_reducible refine af.seq ?_
    |(with_reducible ((first|refine af.region hF (hn:=[]) (by kernel_rfl) ?_|refine bh (ca) ?_|refine bh (cb) ?_|refine bh (cra) ?_|refine bh (crb) ?_|refine af.cond' ?_);simp -implicitDefEqProofs (maxSteps:=2000000) [hP,hN,g0,g1,g2,g3,g4,g5]))
    |(with_reducible refine aO (by simp[g0,g1,g2,g3,g4,g5]) (λhgd=>?_) (λhgd=>?_)<;>first|(exfalso;simp at hgd;done)|(exfalso;simp at hgd;omega)|simp -implicitDefEqProofs (maxSteps:=2000000) [hP,hN,g0,g1,g2,g3,g4,g5])
    |with_reducible refine aE ?_ ?_
    |(with_reducible refine av (λhcd=>?_) (λhcd=>?_)<;>(try (exfalso;clear hP hN;simp_all;done))<;>(try (exfalso;simp at *;omega)))
    |with_reducible refine af.block ?_
    |(with_reducible ((first|refine af.skip ?_|refine af.exit ?_|refine af.ret ?_);simp[g0,g1,g2,g3,g4,g5])))
   all_goals exact⟨.inr rfl,by simp[hx0]⟩
  rw[hpa]at ca hcb;cases hpb:aV b
  .rw[hpb]at cb
   repeat' (first
    |with_reducible refine af.seq ?_
    |(with_reducible ((first|refine af.region hF (hn:=[]) (by kernel_rfl) ?_|refine bh (ca) ?_|refine bh (cb) ?_|refine bh (cra) ?_|refine bh (crb) ?_|refine af.cond' ?_);simp -implicitDefEqProofs (maxSteps:=2000000) [hP,hN,g0,g1,g2,g3,g4,g5]))
    |(with_reducible refine aO (by simp[g0,g1,g2,g3,g4,g5]) (λhgd=>?_) (λhgd=>?_)<;>first|(exfalso;simp at hgd;done)|(exfalso;simp at hgd;omega)|simp -implicitDefEqProofs (maxSteps:=2000000) [hP,hN,g0,g1,g2,g3,g4,g5])
    |with_reducible refine aE ?_ ?_
    |(with_reducible refine av (λhcd=>?_) (λhcd=>?_)<;>(try (exfalso;clear hP hN;simp_all;done))<;>(try (exfalso;simp at *;omega)))
    |with_reducible refine af.block ?_
    |(with_reducible ((first|refine af.skip ?_|refine af.exit ?_|refine af.ret ?_);simp[g0,g1,g2,g3,g4,g5])))
   all_goals exact⟨.inr rfl,by simp[hx0]⟩
  rw[hpb]at cb hcb;cases hra:cJ ra 0 1048576
  .rw[hra]at cra
   repeat' (first
    |with_reducible refine af.seq ?_
    |(with_reducible ((first|refine af.region hF (hn:=[]) (by kernel_rfl) ?_|refine bh (ca) ?_|refine bh (cb) ?_|refine bh (cra) ?_|refine bh (crb) ?_|refine af.cond' ?_);simp -implicitDefEqProofs (maxSteps:=2000000) [hP,hN,g0,g1,g2,g3,g4,g5]))
    |(with_reducible refine aO (by simp[g0,g1,g2,g3,g4,g5]) (λhgd=>?_) (λhgd=>?_)<;>first|(exfalso;simp at hgd;done)|(exfalso;simp at hgd;omega)|simp -implicitDefEqProofs (maxSteps:=2000000) [hP,hN,g0,g1,g2,g3,g4,g5])
    |with_reducible refine aE ?_ ?_
    |(with_reducible refine av (λhcd=>?_) (λhcd=>?_)<;>(try (exfalso;clear hP hN;simp_all;done))<;>(try (exfalso;simp at *;omega)))
    |with_reducible refine af.block ?_
    |(with_reducible ((first|refine af.skip ?_|refine af.exit ?_|refine af.ret ?_);simp[g0,g1,g2,g3,g4,g5])))
   all_goals exact⟨.inr rfl,by simp[hx0]⟩
  rw[hra]at cra hcb
  have hrb:cJ rb 0 1048576=false:=by simpa using hcb.symm
  rw[hrb]at crb
  repeat' (first
   |with_reducible refine af.seq ?_
   |(with_reducible ((first|refine af.region hF (hn:=[]) (by kernel_rfl) ?_|refine bh (ca) ?_|refine bh (cb) ?_|refine bh (cra) ?_|refine bh (crb) ?_|refine af.cond' ?_);simp -implicitDefEqProofs (maxSteps:=2000000) [hP,hN,g0,g1,g2,g3,g4,g5]))
   |(with_reducible refine aO (by simp[g0,g1,g2,g3,g4,g5]) (λhgd=>?_) (λhgd=>?_)<;>first|(exfalso;simp at hgd;done)|(exfalso;simp at hgd;omega)|simp -implicitDefEqProofs (maxSteps:=2000000) [hP,hN,g0,g1,g2,g3,g4,g5])
   |with_reducible refine aE ?_ ?_
   |(with_reducible refine av (λhcd=>?_) (λhcd=>?_)<;>(try (exfalso;clear hP hN;simp_all;done))<;>(try (exfalso;simp at *;omega)))
   |with_reducible refine af.block ?_
   |(with_reducible ((first|refine af.skip ?_|refine af.exit ?_|refine af.ret ?_);simp[g0,g1,g2,g3,g4,g5])))
  all_goals exact⟨.inr rfl,by simp[hx0]⟩
 |true=>
 have hk:=hok;rw[hcb]at hk;simp only[Bool.and_eq_true]at hk;obtain⟨⟨⟨hpa,hpb⟩,hra⟩,hrb⟩:=hk;rw[hpa]at ca;rw[hpb]at cb;rw[hra]at cra;rw[hrb]at crb;rw[hok]at hcl;simp only[if_true]at hcl;rw[hcl]at hxs;clear hcl hcb;refine bp.seq (bp.mono (Q:=xE E a ra b rb hints 0) ?_ ?_)
 .refine bp.walk λC hP hN=>?_
  rw[hEN]at hN
  repeat' (first
   |with_reducible refine af.seq ?_
   |(with_reducible ((first|refine af.region hF (hn:=[]) (by kernel_rfl) ?_|refine bh (ca) ?_|refine bh (cb) ?_|refine bh (cra) ?_|refine bh (crb) ?_|refine af.cond' ?_);simp -implicitDefEqProofs (maxSteps:=2000000) [hP,hN,g0,g1,g2,g3,g4,g5]))
   |(with_reducible refine aO (by simp[g0,g1,g2,g3,g4,g5]) (λhgd=>?_) (λhgd=>?_)<;>first|(exfalso;simp at hgd;done)|(exfalso;simp at hgd;omega)|simp -implicitDefEqProofs (maxSteps:=2000000) [hP,hN,g0,g1,g2,g3,g4,g5])
   |with_reducible refine aE ?_ ?_
   |(with_reducible refine av (λhcd=>?_) (λhcd=>?_)<;>(try (exfalso;clear hP hN;simp_all;done))<;>(try (exfalso;simp at *;omega)))
   |with_reducible refine af.block ?_
   |(with_reducible ((first|refine af.skip ?_|refine af.exit ?_|refine af.ret ?_);simp[g0,g1,g2,g3,g4,g5])))
  all_goals exact⟨rfl,rfl,by constructor<;>simp[bk,ah,g0,g1,g2,g3,g4,g5]⟩
 clear g0 g1 g2 g3 g4 g5;rintro e t i s h
 cases e with
 |ret=>exact⟨.inr rfl,by obtain⟨rfl,h⟩:=h;exact h⟩
 |normal=>
  obtain⟨rfl,rfl,hG⟩:=h;show bp E _ _ _ _ _;refine bp.seq (bp.mono (Q:=xE E a ra b rb hints (hints.filter bS).length) ?_ ?_)
  .obtain⟨g0,g1,g2,g3,g4,g5⟩:=hG
   refine bp.seq ?_;refine bp.walk λC hP hN=>?_;rw[hEN]at hN
   repeat' (first
    |with_reducible refine af.seq ?_
    |(with_reducible ((first|refine af.region hF (hn:=[]) (by kernel_rfl) ?_|refine af.cond' ?_);simp -implicitDefEqProofs (maxSteps:=2000000) [hP,hN,g0,g1,g2,g3,g4,g5]))
    |(with_reducible refine aO (by simp[g0,g1,g2,g3,g4,g5]) (λhgd=>?_) (λhgd=>?_)<;>first|(exfalso;simp at hgd;done)|(exfalso;simp at hgd;omega)|simp -implicitDefEqProofs (maxSteps:=2000000) [hP,hN,g0,g1,g2,g3,g4,g5])
    |with_reducible refine aE ?_ ?_
    |(with_reducible refine av (λhcd=>?_) (λhcd=>?_)<;>(try (exfalso;clear hP hN;simp_all;done))<;>(try (exfalso;simp at *;omega)))
    |with_reducible refine af.block ?_
    |(with_reducible ((first|refine af.skip ?_|refine af.exit ?_|refine af.ret ?_);simp[g0,g1,g2,g3,g4,g5])))
   show bp E _ _ _ _ _;refine bp.block ?_;refine bp.loopN hints.length (λk t i s=>s=false∧i=((hints.take k).filter bS).length∧CandT E.l a ra b rb hints t∧t 32=.pv (bQ hints)∧t 33=.pv (Z hints.length)∧t 34=.pv (Z k)) ?_ ?_
   .refine⟨rfl,rfl,?_,?_⟩
    .constructor<;>simp[bk,ah,g0,g1,g2,g3,g4,g5]
    .simp[bk,ah]
   clear g0 g1 g2 g3 g4 g5;rintro k t i s hk ⟨rfl,rfl,⟨g0,g1,g2,g3,g4,g5⟩,g32,g33,g34⟩;refine bp.blocks λC hP hN=>?_;rw[hEN]at hN;by_cases hlt:k<hints.length
   .have hwr:=au hlt hl
    generalize hxe:hints[k]=v at *
    have hx:hints[k]?=some v:=by rw[List.getElem?_eq_getElem hlt,hxe]
    have cu:=MD v;have hft:=B1 (p:=bS) hx
    have htk:hints.take (k+1)=hints.take k++[v]:=by rw[List.take_add_one,hx];rfl
    refine bE.seq ?_
    repeat' (first
     |with_reducible refine af.seq ?_
     |(with_reducible ((first|refine af.region hF (hn:=[]) (by kernel_rfl) ?_|refine af.cond' ?_);simp -implicitDefEqProofs (maxSteps:=2000000) [hP,hN,g0,g1,g2,g3,g4,g5,g32,g33,g34,hlt]))
     |(with_reducible refine aO (by simp[g0,g1,g2,g3,g4,g5,g32,g33,g34,hlt]) (λhgd=>?_) (λhgd=>?_)<;>first|(exfalso;simp at hgd;done)|(exfalso;simp at hgd;omega)|simp -implicitDefEqProofs (maxSteps:=2000000) [hP,hN,g0,g1,g2,g3,g4,g5,g32,g33,g34,hlt])
     |with_reducible refine aE ?_ ?_
     |(with_reducible refine av (λhcd=>?_) (λhcd=>?_)<;>(try (exfalso;clear hP hN;simp_all;done))<;>(try (exfalso;simp at *;omega)))
     |with_reducible refine af.block ?_
     |(with_reducible ((first|refine af.skip ?_|refine af.exit ?_|refine af.ret ?_);simp[g0,g1,g2,g3,g4,g5,g32,g33,g34,hlt])))
    show bE E C _ _ _ _ _;refine bE.seq ?_
    repeat' (first
     |with_reducible refine af.seq ?_
     |(with_reducible ((first|refine af.region hF (hn:=[]) (by kernel_rfl) ?_|refine af.cond' ?_);simp -implicitDefEqProofs (maxSteps:=2000000) [hP,hN,g0,g1,g2,g3,g4,g5,g32,g33,g34,hlt]))
     |(with_reducible refine aO (by simp[g0,g1,g2,g3,g4,g5,g32,g33,g34,hlt]) (λhgd=>?_) (λhgd=>?_)<;>first|(exfalso;simp at hgd;done)|(exfalso;simp at hgd;omega)|simp -implicitDefEqProofs (maxSteps:=2000000) [hP,hN,g0,g1,g2,g3,g4,g5,g32,g33,g34,hlt])
     |with_reducible refine aE ?_ ?_
     |(with_reducible refine av (λhcd=>?_) (λhcd=>?_)<;>(try (exfalso;clear hP hN;simp_all;done))<;>(try (exfalso;simp at *;omega)))
     |with_reducible refine af.block ?_
     |(with_reducible ((first|refine af.skip ?_|refine af.exit ?_|refine af.ret ?_);simp[g0,g1,g2,g3,g4,g5,g32,g33,g34,hlt])))
    refine af.skip ?_;show bE E C _ _ _ _ _;refine bE.seqY (bE.block ?_);refine bE.seq ?_
    repeat' (first
     |with_reducible refine af.seq ?_
     |(with_reducible ((first|refine af.region hF (hn:=[]) (by kernel_rfl) ?_|refine af.cond' ?_);simp -implicitDefEqProofs (maxSteps:=2000000) [hP,hN,g0,g1,g2,g3,g4,g5,g32,g33,g34,hlt,hx,hxe]))
     |(with_reducible refine aO (by simp[g0,g1,g2,g3,g4,g5,g32,g33,g34,hlt,hx,hxe]) (λhgd=>?_) (λhgd=>?_)<;>first|(exfalso;simp at hgd;done)|(exfalso;simp at hgd;omega)|simp -implicitDefEqProofs (maxSteps:=2000000) [hP,hN,g0,g1,g2,g3,g4,g5,g32,g33,g34,hlt,hx,hxe])
     |with_reducible refine aE ?_ ?_
     |(with_reducible refine av (λhcd=>?_) (λhcd=>?_)<;>(try (exfalso;clear hP hN;simp_all;done))<;>(try (exfalso;simp at *;omega)))
     |with_reducible refine af.block ?_
     |(with_reducible ((first|refine af.skip ?_|refine af.exit ?_|refine af.ret ?_);simp[g0,g1,g2,g3,g4,g5,g32,g33,g34,hlt,hx,hxe])))
    show bE E C _ _ _ _ _
    cases hu:bS v with
    |true=>
     rw[hu]at cu
     have hi:E.xs[((hints.take k).filter bS).length]?=some (aR v):=by
      rw[hxs,hft,hu];simp
     refine bE.seqY (bE.yield (hn:=[]) (d:=43) (f:=41) (x:=42) (pre:=[_,_,_,_,_]) (post:=[_,_]) rfl (by kernel_rfl) rfl rfl rfl rfl (by rw[hEN];decide) ?_);rw[hEN];simp -implicitDefEqProofs (maxSteps:=2000000) [g0,g1,g2,g3,g4,g5,g32,g33,g34,hlt,hx,hxe];refine bh cu ?_;simp -implicitDefEqProofs (maxSteps:=2000000) [g0,g1,g2,g3,g4,g5,g32,g33,g34,hlt,hx,hxe,bk];refine⟨by simp[de,bk,ah],hi,?_,?_⟩
     .show bp E _ _ _ _ _
      refine bp.cond (b:=true) (by simp[bk,ah]) (λ_=>bp.ret ?_) (λh=>by cases h);exact⟨rfl,(List.getElem?_eq_some_iff.1 hi).1⟩
     .show bp E _ _ _ _ _
      refine bp.cond (b:=false) (by simp[bk,ah]) (λh=>by cases h) (λ_=>bp.skip ?_);show bp E _ _ _ _ _;clear hP hN;refine bp.walk λC hP hN=>?_;rw[hEN]at hN
      repeat' (first
       |with_reducible refine af.seq ?_
       |(with_reducible ((first|refine af.region hF (hn:=[]) (by kernel_rfl) ?_|refine af.cond' ?_);simp -implicitDefEqProofs (maxSteps:=2000000) [hP,hN,g0,g1,g2,g3,g4,g5,g32,g33,g34,hlt,hx,hxe,hwr,bk]))
       |(with_reducible refine aO (by simp[g0,g1,g2,g3,g4,g5,g32,g33,g34,hlt,hx,hxe,hwr,bk]) (λhgd=>?_) (λhgd=>?_)<;>first|(exfalso;simp at hgd;done)|(exfalso;simp at hgd;omega)|simp -implicitDefEqProofs (maxSteps:=2000000) [hP,hN,g0,g1,g2,g3,g4,g5,g32,g33,g34,hlt,hx,hxe,hwr,bk])
       |with_reducible refine aE ?_ ?_
       |(with_reducible refine av (λhcd=>?_) (λhcd=>?_)<;>(try (exfalso;clear hP hN;simp_all;done))<;>(try (exfalso;simp at *;omega)))
       |with_reducible refine af.block ?_
       |(with_reducible ((first|refine af.skip ?_|refine af.exit ?_|refine af.ret ?_);simp[g0,g1,g2,g3,g4,g5,g32,g33,g34,hlt,hx,hxe,hwr,bk])))
      repeat' (refine And.intro ?_ ?_)
      all_goals first|rfl|(rw[htk,List.filter_append];simp[hu];done)|(simp[hu,htk,bk,ah,g32,g33,hwr];done)|(constructor<;>simp[bk,ah,g0,g1,g2,g3,g4,g5])
    |false=>
     rw[hu]at cu;refine bE.walk ?_
     repeat' (first
      |with_reducible refine af.seq ?_
      |(with_reducible ((first|refine af.region hF (hn:=[]) (by kernel_rfl) ?_|refine bh (cu) ?_|refine af.cond' ?_);simp -implicitDefEqProofs (maxSteps:=2000000) [hP,hN,g0,g1,g2,g3,g4,g5,g32,g33,g34,hlt,hx,hxe]))
      |(with_reducible refine aO (by simp[g0,g1,g2,g3,g4,g5,g32,g33,g34,hlt,hx,hxe]) (λhgd=>?_) (λhgd=>?_)<;>first|(exfalso;simp at hgd;done)|(exfalso;simp at hgd;omega)|simp -implicitDefEqProofs (maxSteps:=2000000) [hP,hN,g0,g1,g2,g3,g4,g5,g32,g33,g34,hlt,hx,hxe])
      |with_reducible refine aE ?_ ?_
      |(with_reducible refine av (λhcd=>?_) (λhcd=>?_)<;>(try (exfalso;clear hP hN;simp_all;done))<;>(try (exfalso;simp at *;omega)))
      |with_reducible refine af.block ?_
      |(with_reducible ((first|refine af.skip ?_|refine af.exit ?_|refine af.ret ?_);simp[g0,g1,g2,g3,g4,g5,g32,g33,g34,hlt,hx,hxe])))
     show bp E _ _ _ _ _;clear hP hN;refine bp.walk λC hP hN=>?_;rw[hEN]at hN
     repeat' (first
      |with_reducible refine af.seq ?_
      |(with_reducible ((first|refine af.region hF (hn:=[]) (by kernel_rfl) ?_|refine af.cond' ?_);simp -implicitDefEqProofs (maxSteps:=2000000) [hP,hN,g0,g1,g2,g3,g4,g5,g32,g33,g34,hlt,hx,hxe,hwr,bk]))
      |(with_reducible refine aO (by simp[g0,g1,g2,g3,g4,g5,g32,g33,g34,hlt,hx,hxe,hwr,bk]) (λhgd=>?_) (λhgd=>?_)<;>first|(exfalso;simp at hgd;done)|(exfalso;simp at hgd;omega)|simp -implicitDefEqProofs (maxSteps:=2000000) [hP,hN,g0,g1,g2,g3,g4,g5,g32,g33,g34,hlt,hx,hxe,hwr,bk])
      |with_reducible refine aE ?_ ?_
      |(with_reducible refine av (λhcd=>?_) (λhcd=>?_)<;>(try (exfalso;clear hP hN;simp_all;done))<;>(try (exfalso;simp at *;omega)))
      |with_reducible refine af.block ?_
      |(with_reducible ((first|refine af.skip ?_|refine af.exit ?_|refine af.ret ?_);simp[g0,g1,g2,g3,g4,g5,g32,g33,g34,hlt,hx,hxe,hwr,bk])))
     repeat' (refine And.intro ?_ ?_)
     all_goals first|rfl|(rw[htk,List.filter_append];simp[hu];done)|(simp[hu,htk,bk,ah,g32,g33,hwr];done)|(constructor<;>simp[bk,ah,g0,g1,g2,g3,g4,g5])
   .have hin:k=hints.length:=by omega
    subst hin;refine bE.walk ?_
    repeat' (first
     |with_reducible refine af.seq ?_
     |(with_reducible ((first|refine af.region hF (hn:=[]) (by kernel_rfl) ?_|refine af.cond' ?_);simp -implicitDefEqProofs (maxSteps:=2000000) [hP,hN,g0,g1,g2,g3,g4,g5,g32,g33,g34]))
     |(with_reducible refine aO (by simp[g0,g1,g2,g3,g4,g5,g32,g33,g34]) (λhgd=>?_) (λhgd=>?_)<;>first|(exfalso;simp at hgd;done)|(exfalso;simp at hgd;omega)|simp -implicitDefEqProofs (maxSteps:=2000000) [hP,hN,g0,g1,g2,g3,g4,g5,g32,g33,g34])
     |with_reducible refine aE ?_ ?_
     |(with_reducible refine av (λhcd=>?_) (λhcd=>?_)<;>(try (exfalso;clear hP hN;simp_all;done))<;>(try (exfalso;simp at *;omega)))
     |with_reducible refine af.block ?_
     |(with_reducible ((first|refine af.skip ?_|refine af.exit ?_|refine af.ret ?_);simp[g0,g1,g2,g3,g4,g5,g32,g33,g34])))
    exact⟨rfl,rfl,by constructor<;>simp[bk,ah,g0,g1,g2,g3,g4,g5]⟩
  clear hG;rintro e t i s h
  cases e with
  |ret=>exact⟨.inr rfl,by obtain⟨rfl,h⟩:=h;exact h⟩
  |normal=>
   obtain⟨rfl,rfl,hG⟩:=h;show bp E _ _ _ _ _;generalize hn1:(hints.filter bS).length=n1 at *;refine bp.seq (bp.mono (Q:=xE E a ra b rb hints (n1+(if sj a b then[qd a b]else[]).length)) ?_ ?_)
   .obtain⟨g0,g1,g2,g3,g4,g5⟩:=hG
    refine bp.blocks λC hP hN=>?_;rw[hEN]at hN;have cm:=Jo a b ha hb;refine bE.seq ?_
    cases hmb:sj a b with
    |false=>
     rw[hmb]at cm
     repeat' (first
      |with_reducible refine af.seq ?_
      |(with_reducible ((first|refine af.region hF (hn:=[]) (by kernel_rfl) ?_|refine bh (cm) ?_|refine af.cond' ?_);simp -implicitDefEqProofs (maxSteps:=2000000) [hP,hN,g0,g1,g2,g3,g4,g5]))
      |(with_reducible refine aO (by simp[g0,g1,g2,g3,g4,g5]) (λhgd=>?_) (λhgd=>?_)<;>first|(exfalso;simp at hgd;done)|(exfalso;simp at hgd;omega)|simp -implicitDefEqProofs (maxSteps:=2000000) [hP,hN,g0,g1,g2,g3,g4,g5])
      |with_reducible refine aE ?_ ?_
      |(with_reducible refine av (λhcd=>?_) (λhcd=>?_)<;>(try (exfalso;clear hP hN;simp_all;done))<;>(try (exfalso;simp at *;omega)))
      |with_reducible refine af.block ?_
      |(with_reducible ((first|refine af.skip ?_|refine af.exit ?_|refine af.ret ?_);simp[g0,g1,g2,g3,g4,g5])))
     show bE E C _ _ _ _ _;refine bE.walk ?_
     repeat' (first
      |with_reducible refine af.seq ?_
      |(with_reducible ((first|refine af.region hF (hn:=[]) (by kernel_rfl) ?_|refine af.cond' ?_);simp -implicitDefEqProofs (maxSteps:=2000000) [hP,hN,g0,g1,g2,g3,g4,g5]))
      |(with_reducible refine aO (by simp[g0,g1,g2,g3,g4,g5]) (λhgd=>?_) (λhgd=>?_)<;>first|(exfalso;simp at hgd;done)|(exfalso;simp at hgd;omega)|simp -implicitDefEqProofs (maxSteps:=2000000) [hP,hN,g0,g1,g2,g3,g4,g5])
      |with_reducible refine aE ?_ ?_
      |(with_reducible refine av (λhcd=>?_) (λhcd=>?_)<;>(try (exfalso;clear hP hN;simp_all;done))<;>(try (exfalso;simp at *;omega)))
      |with_reducible refine af.block ?_
      |(with_reducible ((first|refine af.skip ?_|refine af.exit ?_|refine af.ret ?_);simp[g0,g1,g2,g3,g4,g5])))
     exact⟨rfl,by simp,by constructor<;>simp[bk,ah,g0,g1,g2,g3,g4,g5]⟩
    |true=>
     rw[hmb]at cm
     have hi:E.xs[n1]?=some (aR (qd a b)):=by rw[hxs,hmb,<-hn1];simp
     generalize qd a b=v at *
     repeat' (first
      |with_reducible refine af.seq ?_
      |(with_reducible ((first|refine af.region hF (hn:=[]) (by kernel_rfl) ?_|refine bh (cm) ?_|refine af.cond' ?_);simp -implicitDefEqProofs (maxSteps:=2000000) [hP,hN,g0,g1,g2,g3,g4,g5]))
      |(with_reducible refine aO (by simp[g0,g1,g2,g3,g4,g5]) (λhgd=>?_) (λhgd=>?_)<;>first|(exfalso;simp at hgd;done)|(exfalso;simp at hgd;omega)|simp -implicitDefEqProofs (maxSteps:=2000000) [hP,hN,g0,g1,g2,g3,g4,g5])
      |with_reducible refine aE ?_ ?_
      |(with_reducible refine av (λhcd=>?_) (λhcd=>?_)<;>(try (exfalso;clear hP hN;simp_all;done))<;>(try (exfalso;simp at *;omega)))
      |with_reducible refine af.block ?_
      |(with_reducible ((first|refine af.skip ?_|refine af.exit ?_|refine af.ret ?_);simp[g0,g1,g2,g3,g4,g5])))
     show bE E C _ _ _ _ _;refine bE.seqY (bE.yield (hn:=[]) (d:=57) (f:=55) (x:=56) (pre:=[_,_,_,_]) (post:=[_,_]) rfl (by kernel_rfl) rfl rfl rfl rfl (by rw[hEN];decide) ?_);rw[hEN];simp -implicitDefEqProofs (maxSteps:=2000000) [g0,g1,g2,g3,g4,g5,bk];refine⟨by simp[de,bk,ah],hi,?_,?_⟩
     .show bp E _ _ _ _ _
      refine bp.cond (b:=true) (by simp[bk,ah]) (λ_=>bp.ret ?_) (λh=>by cases h);exact⟨rfl,(List.getElem?_eq_some_iff.1 hi).1⟩
     .show bp E _ _ _ _ _
      refine bp.cond (b:=false) (by simp[bk,ah]) (λh=>by cases h) (λ_=>bp.skip ?_);exact⟨rfl,rfl,by constructor<;>simp[bk,ah,g0,g1,g2,g3,g4,g5]⟩
   clear hG;rintro e t i s h
   cases e with
   |ret=>exact⟨.inr rfl,by obtain⟨rfl,h⟩:=h;exact h⟩
   |normal=>
    obtain⟨rfl,rfl,hG⟩:=h;show bp E _ _ _ _ _;generalize hml:(if sj a b then[qd a b]else[])=ml at *;generalize hn2:n1+ml.length=n2 at *;refine bp.seq (bp.mono (Q:=xE E a ra b rb hints (n2+6)) ?_ ?_)
    .obtain⟨g0,g1,g2,g3,g4,g5⟩:=hG
     have cax:=LR;refine bp.seq ?_;refine bp.walk λC hP hN=>?_;rw[hEN]at hN
     repeat' (first
      |with_reducible refine af.seq ?_
      |(with_reducible ((first|refine af.region hF (hn:=[]) (by kernel_rfl) ?_|refine bh (cax) ?_|refine af.cond' ?_);simp -implicitDefEqProofs (maxSteps:=2000000) [hP,hN,g0,g1,g2,g3,g4,g5]))
      |(with_reducible refine aO (by simp[g0,g1,g2,g3,g4,g5]) (λhgd=>?_) (λhgd=>?_)<;>first|(exfalso;simp at hgd;done)|(exfalso;simp at hgd;omega)|simp -implicitDefEqProofs (maxSteps:=2000000) [hP,hN,g0,g1,g2,g3,g4,g5])
      |with_reducible refine aE ?_ ?_
      |(with_reducible refine av (λhcd=>?_) (λhcd=>?_)<;>(try (exfalso;clear hP hN;simp_all;done))<;>(try (exfalso;simp at *;omega)))
      |with_reducible refine af.block ?_
      |(with_reducible ((first|refine af.skip ?_|refine af.exit ?_|refine af.ret ?_);simp[g0,g1,g2,g3,g4,g5])))
     show bp E _ _ _ _ _;refine bp.block ?_;refine bp.loopN 6 (λk t i s=>s=false∧i=n2+k∧CandT E.l a ra b rb hints t∧t 60=.pv (bQ qc)∧t 61=.pv (Z 6)∧t 62=.pv (Z k)) ?_ ?_
     .refine⟨rfl,rfl,?_,?_⟩
      .constructor<;>simp[bk,ah,g0,g1,g2,g3,g4,g5]
      .simp[bk,ah]
     clear g0 g1 g2 g3 g4 g5;rintro k t i s hk ⟨rfl,rfl,⟨g0,g1,g2,g3,g4,g5⟩,g60,g61,g62⟩;refine bp.blocks λC hP hN=>?_;rw[hEN]at hN;by_cases hlt:k<6
     .have hwr:IntKind.i64.wrap ((k:Int)+1)=(k:Int)+1:=ab
      have hltI:(k:Int)<6:=by omega
      have hltL:k<qc.length:=hlt;generalize hxe:qc[k]=v at *
      have hx:qc[k]?=some v:=by rw[List.getElem?_eq_getElem hltL,hxe]
      have hi:E.xs[n2+k]?=some (aR v):=by
       rw[hxs,<-hn2,<-hn1,List.getElem?_map,List.getElem?_append_right (by omega),List.getElem?_append_right (by omega),show(hints.filter bS).length+ml.length+k-(hints.filter bS).length-ml.length=k by omega,List.getElem?_append_left hltL,hx];rfl
      generalize qc=AX at *;refine bE.seq ?_
      repeat' (first
       |with_reducible refine af.seq ?_
       |(with_reducible ((first|refine af.region hF (hn:=[]) (by kernel_rfl) ?_|refine af.cond' ?_);simp -implicitDefEqProofs (maxSteps:=2000000) [hP,hN,g0,g1,g2,g3,g4,g5,g60,g61,g62,hlt,hltI]))
       |(with_reducible refine aO (by simp[g0,g1,g2,g3,g4,g5,g60,g61,g62,hlt,hltI]) (λhgd=>?_) (λhgd=>?_)<;>first|(exfalso;simp at hgd;done)|(exfalso;simp at hgd;omega)|simp -implicitDefEqProofs (maxSteps:=2000000) [hP,hN,g0,g1,g2,g3,g4,g5,g60,g61,g62,hlt,hltI])
       |with_reducible refine aE ?_ ?_
       |(with_reducible refine av (λhcd=>?_) (λhcd=>?_)<;>(try (exfalso;clear hP hN;simp_all;done))<;>(try (exfalso;simp at *;omega)))
       |with_reducible refine af.block ?_
       |(with_reducible ((first|refine af.skip ?_|refine af.exit ?_|refine af.ret ?_);simp[g0,g1,g2,g3,g4,g5,g60,g61,g62,hlt,hltI])))
      show bE E C _ _ _ _ _;refine bE.seq ?_
      repeat' (first
       |with_reducible refine af.seq ?_
       |(with_reducible ((first|refine af.region hF (hn:=[]) (by kernel_rfl) ?_|refine af.cond' ?_);simp -implicitDefEqProofs (maxSteps:=2000000) [hP,hN,g0,g1,g2,g3,g4,g5,g60,g61,g62,hlt,hltI]))
       |(with_reducible refine aO (by simp[g0,g1,g2,g3,g4,g5,g60,g61,g62,hlt,hltI]) (λhgd=>?_) (λhgd=>?_)<;>first|(exfalso;simp at hgd;done)|(exfalso;simp at hgd;omega)|simp -implicitDefEqProofs (maxSteps:=2000000) [hP,hN,g0,g1,g2,g3,g4,g5,g60,g61,g62,hlt,hltI])
       |with_reducible refine aE ?_ ?_
       |(with_reducible refine av (λhcd=>?_) (λhcd=>?_)<;>(try (exfalso;clear hP hN;simp_all;done))<;>(try (exfalso;simp at *;omega)))
       |with_reducible refine af.block ?_
       |(with_reducible ((first|refine af.skip ?_|refine af.exit ?_|refine af.ret ?_);simp[g0,g1,g2,g3,g4,g5,g60,g61,g62,hlt,hltI])))
      refine af.skip ?_;show bE E C _ _ _ _ _;refine bE.seqY (bE.block ?_);refine bE.seq ?_
      repeat' (first
       |with_reducible refine af.seq ?_
       |(with_reducible ((first|refine af.region hF (hn:=[]) (by kernel_rfl) ?_|refine af.cond' ?_);simp -implicitDefEqProofs (maxSteps:=2000000) [hP,hN,g0,g1,g2,g3,g4,g5,g60,g61,g62,hlt,hltI,hltL,hx,hxe]))
       |(with_reducible refine aO (by simp[g0,g1,g2,g3,g4,g5,g60,g61,g62,hlt,hltI,hltL,hx,hxe]) (λhgd=>?_) (λhgd=>?_)<;>first|(exfalso;simp at hgd;done)|(exfalso;simp at hgd;omega)|simp -implicitDefEqProofs (maxSteps:=2000000) [hP,hN,g0,g1,g2,g3,g4,g5,g60,g61,g62,hlt,hltI,hltL,hx,hxe])
       |with_reducible refine aE ?_ ?_
       |(with_reducible refine av (λhcd=>?_) (λhcd=>?_)<;>(try (exfalso;clear hP hN;simp_all;done))<;>(try (exfalso;simp at *;omega)))
       |with_reducible refine af.block ?_
       |(with_reducible ((first|refine af.skip ?_|refine af.exit ?_|refine af.ret ?_);simp[g0,g1,g2,g3,g4,g5,g60,g61,g62,hlt,hltI,hltL,hx,hxe])))
      show bE E C _ _ _ _ _;refine bE.seqY (bE.yield (hn:=[]) (d:=68) (f:=66) (x:=67) (pre:=[_,_]) (post:=[_]) rfl (by kernel_rfl) rfl rfl rfl rfl (by rw[hEN];decide) ?_);rw[hEN];simp -implicitDefEqProofs (maxSteps:=2000000) [g0,g1,g2,g3,g4,g5,g60,g61,g62,hltL,hx,hxe,bk];refine⟨by simp[de,bk,ah],hi,?_,?_⟩
      .show bp E _ _ _ _ _
       refine bp.cond (b:=true) (by simp[bk,ah]) (λ_=>bp.ret ?_) (λh=>by cases h);exact⟨rfl,(List.getElem?_eq_some_iff.1 hi).1⟩
      .show bp E _ _ _ _ _
       refine bp.cond (b:=false) (by simp[bk,ah]) (λh=>by cases h) (λ_=>bp.skip ?_);show bp E _ _ _ _ _;clear hP hN;refine bp.walk λC hP hN=>?_;rw[hEN]at hN
       repeat' (first
        |with_reducible refine af.seq ?_
        |(with_reducible ((first|refine af.region hF (hn:=[]) (by kernel_rfl) ?_|refine af.cond' ?_);simp -implicitDefEqProofs (maxSteps:=2000000) [hP,hN,g0,g1,g2,g3,g4,g5,g60,g61,g62,hwr,bk]))
        |(with_reducible refine aO (by simp[g0,g1,g2,g3,g4,g5,g60,g61,g62,hwr,bk]) (λhgd=>?_) (λhgd=>?_)<;>first|(exfalso;simp at hgd;done)|(exfalso;simp at hgd;omega)|simp -implicitDefEqProofs (maxSteps:=2000000) [hP,hN,g0,g1,g2,g3,g4,g5,g60,g61,g62,hwr,bk])
        |with_reducible refine aE ?_ ?_
        |(with_reducible refine av (λhcd=>?_) (λhcd=>?_)<;>(try (exfalso;clear hP hN;simp_all;done))<;>(try (exfalso;simp at *;omega)))
        |with_reducible refine af.block ?_
        |(with_reducible ((first|refine af.skip ?_|refine af.exit ?_|refine af.ret ?_);simp[g0,g1,g2,g3,g4,g5,g60,g61,g62,hwr,bk])))
       repeat' (refine And.intro ?_ ?_)
       all_goals first|rfl|(simp[bk,ah,g60,g61,hwr];done)|(constructor<;>simp[bk,ah,g0,g1,g2,g3,g4,g5])
     .have hin:k=6:=by omega
      subst hin;refine bE.walk ?_
      repeat' (first
       |with_reducible refine af.seq ?_
       |(with_reducible ((first|refine af.region hF (hn:=[]) (by kernel_rfl) ?_|refine af.cond' ?_);simp -implicitDefEqProofs (maxSteps:=2000000) [hP,hN,g0,g1,g2,g3,g4,g5,g60,g61,g62]))
       |(with_reducible refine aO (by simp[g0,g1,g2,g3,g4,g5,g60,g61,g62]) (λhgd=>?_) (λhgd=>?_)<;>first|(exfalso;simp at hgd;done)|(exfalso;simp at hgd;omega)|simp -implicitDefEqProofs (maxSteps:=2000000) [hP,hN,g0,g1,g2,g3,g4,g5,g60,g61,g62])
       |with_reducible refine aE ?_ ?_
       |(with_reducible refine av (λhcd=>?_) (λhcd=>?_)<;>(try (exfalso;clear hP hN;simp_all;done))<;>(try (exfalso;simp at *;omega)))
       |with_reducible refine af.block ?_
       |(with_reducible ((first|refine af.skip ?_|refine af.exit ?_|refine af.ret ?_);simp[g0,g1,g2,g3,g4,g5,g60,g61,g62])))
      exact⟨rfl,rfl,by constructor<;>simp[bk,ah,g0,g1,g2,g3,g4,g5]⟩
    clear hG;rintro e t i s h
    cases e with
    |ret=>exact⟨.inr rfl,by obtain⟨rfl,h⟩:=h;exact h⟩
    |normal=>
     obtain⟨rfl,rfl,⟨g0,g1,g2,g3,g4,g5⟩⟩:=h;show bp E _ _ _ _ _;refine bp.blocks λC hP hN=>?_;rw[hEN]at hN;have c1:=Cl a ha;have c2:=Cl b hb;have hla:=(dH hpa).2.1;have hlb:=(dH hpb).2.1;have hca:=jv hpa;have hcb:=jv hpb;simp only[cJ,Bool.and_eq_true,decide_eq_true_eq]at hra hrb;have hw:IntKind.i64.wrap (ra+rb)=ra+rb:=ab;have c3:=uO (aX a) (aX b) (ra+rb) 64 (by omega) (by omega);have hnn:(m8 (aX a) (aX b) (ra+rb) 64).2.n=xA a ra b rb:=rfl;generalize m8 (aX a) (aX b) (ra+rb) 64=R at *;rw[<-hnn]at hxs;refine bE.draw (hn:=[]) (by kernel_rfl) (by kernel_rfl) ?_;rw[hEN];simp -implicitDefEqProofs (maxSteps:=2000000) [g0,g1,g2,g3,g4,g5];refine rV c1 ?_;simp -implicitDefEqProofs (maxSteps:=2000000) [g0,g1,g2,g3,g4,g5];refine rV c2 ?_;simp -implicitDefEqProofs (maxSteps:=2000000) [g0,g1,g2,g3,g4,g5,hw];refine rV c3 ?_;simp -implicitDefEqProofs (maxSteps:=2000000) [g0,g1,g2,g3,g4,g5,hw];refine⟨by kernel_rfl,?_⟩;have cu:=MD R.2.n;refine bE.seq ?_
     cases hu:bS R.2.n with
     |false=>
      rw[hu]at cu
      have hL:n2+6=E.xs.length:=by
       rw[hxs,hu,List.length_map,List.length_append,List.length_append,List.length_append,hn1];simp only[Bool.false_eq_true,if_false,List.length_cons,List.length_nil];omega
      repeat' (first
       |with_reducible refine af.seq ?_
       |(with_reducible ((first|refine af.region hF (hn:=[]) (by kernel_rfl) ?_|refine bh (cu) ?_|refine af.cond' ?_);simp -implicitDefEqProofs (maxSteps:=2000000) [hP,hN,g0,g1,g2,g3,g4,g5]))
       |(with_reducible refine aO (by simp[g0,g1,g2,g3,g4,g5]) (λhgd=>?_) (λhgd=>?_)<;>first|(exfalso;simp at hgd;done)|(exfalso;simp at hgd;omega)|simp -implicitDefEqProofs (maxSteps:=2000000) [hP,hN,g0,g1,g2,g3,g4,g5])
       |with_reducible refine aE ?_ ?_
       |(with_reducible refine av (λhcd=>?_) (λhcd=>?_)<;>(try (exfalso;clear hP hN;simp_all;done))<;>(try (exfalso;simp at *;omega)))
       |with_reducible refine af.block ?_
       |(with_reducible ((first|refine af.skip ?_|refine af.exit ?_|refine af.ret ?_);simp[g0,g1,g2,g3,g4,g5])))
      show bE E C _ _ _ _ _;refine bE.walk ?_
      repeat' (first
       |with_reducible refine af.seq ?_
       |(with_reducible ((first|refine af.region hF (hn:=[]) (by kernel_rfl) ?_|refine af.cond' ?_);simp -implicitDefEqProofs (maxSteps:=2000000) [hP,hN,g0,g1,g2,g3,g4,g5]))
       |(with_reducible refine aO (by simp[g0,g1,g2,g3,g4,g5]) (λhgd=>?_) (λhgd=>?_)<;>first|(exfalso;simp at hgd;done)|(exfalso;simp at hgd;omega)|simp -implicitDefEqProofs (maxSteps:=2000000) [hP,hN,g0,g1,g2,g3,g4,g5])
       |with_reducible refine aE ?_ ?_
       |(with_reducible refine av (λhcd=>?_) (λhcd=>?_)<;>(try (exfalso;clear hP hN;simp_all;done))<;>(try (exfalso;simp at *;omega)))
       |with_reducible refine af.block ?_
       |(with_reducible ((first|refine af.skip ?_|refine af.exit ?_|refine af.ret ?_);simp[g0,g1,g2,g3,g4,g5])))
      all_goals exact hL
     |true=>
      rw[hu]at cu
      have hL:n2+6+1=E.xs.length:=by
       rw[hxs,hu,List.length_map,List.length_append,List.length_append,List.length_append,hn1];simp only[if_true,List.length_cons,List.length_nil];omega
      have hi:E.xs[n2+6]?=some (aR R.2.n):=by
       rw[hxs,hu,<-hn2,<-hn1,List.getElem?_map,List.getElem?_append_right (by omega),List.getElem?_append_right (by omega),show(hints.filter bS).length+ml.length+6-(hints.filter bS).length-ml.length=6 by omega,List.getElem?_append_right (by decide)];rfl
      repeat' (first
       |with_reducible refine af.seq ?_
       |(with_reducible ((first|refine af.region hF (hn:=[]) (by kernel_rfl) ?_|refine bh (cu) ?_|refine af.cond' ?_);simp -implicitDefEqProofs (maxSteps:=2000000) [hP,hN,g0,g1,g2,g3,g4,g5]))
       |(with_reducible refine aO (by simp[g0,g1,g2,g3,g4,g5]) (λhgd=>?_) (λhgd=>?_)<;>first|(exfalso;simp at hgd;done)|(exfalso;simp at hgd;omega)|simp -implicitDefEqProofs (maxSteps:=2000000) [hP,hN,g0,g1,g2,g3,g4,g5])
       |with_reducible refine aE ?_ ?_
       |(with_reducible refine av (λhcd=>?_) (λhcd=>?_)<;>(try (exfalso;clear hP hN;simp_all;done))<;>(try (exfalso;simp at *;omega)))
       |with_reducible refine af.block ?_
       |(with_reducible ((first|refine af.skip ?_|refine af.exit ?_|refine af.ret ?_);simp[g0,g1,g2,g3,g4,g5])))
      show bE E C _ _ _ _ _;refine bE.cond (m:=81) (b:=true) (by simp) (λ_=>?_) (λh=>by cases h);refine bE.yield (hn:=[]) (d:=85) (f:=82) (x:=84) (pre:=[_,_,_]) (post:=[]) rfl (by kernel_rfl) rfl rfl rfl rfl (by rw[hEN];decide) ?_;rw[hEN];simp -implicitDefEqProofs (maxSteps:=2000000) [g0,g1,g2,g3,g4,g5,bk];exact⟨rfl,hi,by omega,hL⟩
    |_=>exact h.elim
   |_=>exact h.elim
  |_=>exact h.elim
 |_=>exact h.elim
set_option maxRecDepth 100000 in
theorem Eu:uq Tryz.prog 94:=by
 refine⟨by kernel_rfl,λn args w=>?_⟩;refine callsDIn_of_wpSIn Tryz.func94 rfl trivial λc₀ cs hu=>?_;apply wpSIn_seq;apply wpSIn_region
 have hk:∀k,k<Tryz.f94.ntmps->k<args.size+(Tryz.f94.ntmps-args.size):=by intro k h;omega
 rw[Tryz.ntmps94]at hk;have h0:=hk 0 (by decide);have h1:=hk 1 (by decide);have h2:=hk 2 (by decide);have h3:=hk 3 (by decide);simp[wpOpsSIn,go_sem,recoverD,hu,Tryz.ntmps94,Exit.thenS,h0,h1,h2,h3];refine wpSIn_cond (t:=false) (by simp[Act.eval,h0,h1,h2,h3]) ?_;simp only[Bool.false_eq_true,if_false];refine wpSIn_of_wpIn rfl (wpIn_skip ?_);cases c₀
 simp_all[bodyPostS,results,Tryz.results94]
def qe(a:List aH)(ra:Int)(b:List aH)(rb:Int)(hints:List Vc):Vc×Bool:=match(xD a ra b rb hints).find? (λn=>qH n a ra b rb)with
 |some n=>(n,true)
 |none=>((0,0,0),false)
theorem ES{α:Type}{p:α->Bool}{l:List α}(h:∀j x,j<l.length->l[j]?=some x->p x=false):l.find? p=none:=by
 rw[List.find?_eq_none];intro x hx;obtain⟨j,hj,rfl⟩:=List.mem_iff_getElem.1 hx;rw[h j _ hj (List.getElem?_eq_getElem hj)];simp
theorem zq{α:Type}{p:α->Bool}:∀{l:List α}{i:Nat}{v:α},l[i]?=some v->p v=true->(∀j x,j<i->l[j]?=some x->p x=false)->l.find? p=some v
 |[],i,v,h,_,_=>by simp at h
 |y::l,0,v,h,hp,_=>by simp at h;subst h;simp[hp]
 |y::l,i+1,v,h,hp,hq=>by
  have h0:=hq 0 y (by omega) rfl;rw[List.find?_cons,h0];exact zq (by simpa using h) hp λj x hj hx=>hq (j+1) x (by omega) (by simpa using hx)
abbrev DE:List Nat:=[5,6,7,8,10,11]
abbrev J1(a:List aH)(ra:Int)(b:List aH)(rb:Int):Nat->List PV:=λk=>if k=5 then[bR a]else if k=6 then[Z ra]else if k=7 then[bR b]else if k=8 then[Z rb]else if k=10 then[Z 0,Z 0,Z 0]else[B false]
structure FindI(a:List aH)(ra:Int)(b:List aH)(rb:Int)(n:Vc)(k:Bool)(h:Hp):Prop where
 h5:h 5=some (.box [.pv (bR a)] false false)
 h6:h 6=some (.box [.pv (Z ra)] false false)
 h7:h 7=some (.box [.pv (bR b)] false false)
 h8:h 8=some (.box [.pv (Z rb)] false false)
 h10:h 10=some (.box [.pv (Z n.1),.pv (Z n.2.1),.pv (Z n.2.2)] false false)
 h11:h 11=some (.box [.pv (B k)] false false)
theorem FindI.all{a:List aH}{ra:Int}{b:List aH}{rb:Int}{n:Vc}{k:Bool}{h:Hp}(H:FindI a ra b rb n k h){j:Nat}(hj:j∈DE):∃cs,h j=some (.box cs false false):=by
 simp only[List.mem_cons,List.not_mem_nil,or_false]at hj;rcases hj with rfl|rfl|rfl|rfl|rfl|rfl
 .exact⟨_,H.h5⟩
 .exact⟨_,H.h6⟩
 .exact⟨_,H.h7⟩
 .exact⟨_,H.h8⟩
 .exact⟨_,H.h10⟩
 .exact⟨_,H.h11⟩
def G1(a:List aH)(ra:Int)(b:List aH)(rb:Int)(CL:List Vc)(i:Nat):Prop:=∀j x,j<i->CL[j]?=some x->qH x a ra b rb=false
def J2(a:List aH)(ra:Int)(b:List aH)(rb:Int)(CL:List Vc)(i:Nat)(h:Hp):Prop:=∃n,CL[i]?=some n∧qH n a ra b rb=true∧FindI a ra b rb n true h∧G1 a ra b rb CL i
set_option maxRecDepth 100000 in
theorem uv(a:List aH)(ra:Int)(b:List aH)(rb:Int)(hints:List Vc)(ha:a.length<=9223372036854775807)(hb:b.length<=9223372036854775807)(hl:hints.length<=9223372036854775807):aa Tryz.prog 62 [.pv (bR a),.pv (Z ra),.pv (bR b),.pv (Z rb),.pv (bQ hints)] [] [] (.pv (.tup [aR (qe a ra b rb hints).1,B (qe a ra b rb hints).2])):=by
 have hfr:qe a ra b rb hints=match(xD a ra b rb hints).find? (λn=>qH n a ra b rb)with
  |some n=>(n,true)
  |none=>((0,0,0),false):=rfl
 have hit:=Jp a ra b rb hints ha hb hl;generalize xD a ra b rb hints=CL at *;refine yq (args:=[bR a,Z ra,bR b,Z rb,bQ hints]) Tryz.func62 rfl (by kernel_rfl) (by simp[Tryz.f62]) ?_;intro C hP hN hCS;simp only[Tryz.f62]at hN|-;have hF:=eV;refine kL.seq hCS ?_
 repeat' (first
  |with_reducible refine af.seq ?_
  |(with_reducible ((first|refine af.region hF (hn:=[]) (by kernel_rfl) ?_|refine af.cond' ?_);simp -implicitDefEqProofs (maxSteps:=2000000) [hP,hN]))
  |(with_reducible refine aO (by simp) (λhgd=>?_) (λhgd=>?_)<;>first|(exfalso;simp at hgd;done)|(exfalso;simp at hgd;omega)|simp -implicitDefEqProofs (maxSteps:=2000000) [hP,hN])
  |with_reducible refine aE ?_ ?_
  |(with_reducible refine av (λhcd=>?_) (λhcd=>?_)<;>(try (exfalso;clear hP hN;simp_all;done))<;>(try (exfalso;simp at *;omega)))
  |with_reducible refine af.block ?_
  |(with_reducible ((first|refine af.skip ?_|refine af.exit ?_|refine af.ret ?_);simp)))
 refine kL.defer (pre:=[_]) (hn:=[]) (g:=94) rfl (λo ho c' hc'=>by simp at ho;subst ho;cases hc') rfl rfl rfl rfl rfl (by rw[hP];exact Eu) ?_;simp -implicitDefEqProofs [hP,hN];refine kL.rangeS (kd:=[12]) hCS (gf:=131) (caps:=mq a ra b rb hints) (xs:=CL.map aR) (by rw[hP];exact hit) (by rw[hN];decide) (ks:=DE) (hin:=J1 a ra b rb) (t:=λm=>if m∈DE then .ptr m 0 else .undef) ?_ (λi h=>FindI a ra b rb (0,0,0) false h∧h 12=none∧G1 a ra b rb CL i) (λi h=>J2 a ra b rb CL i h) ?_ ?_ ?_ ?_ (by kernel_rfl) (hn:=[]) ?_ ?_
 .skip
  repeat' (first
   |with_reducible refine af.seq ?_
   |(with_reducible ((first|refine af.region hF (hn:=[]) (by kernel_rfl) ?_|refine bh (E4 a ra b rb hints) ?_|refine af.cond' ?_);simp -implicitDefEqProofs (maxSteps:=2000000) [hP,hN]))
   |(with_reducible refine aO (by simp) (λhgd=>?_) (λhgd=>?_)<;>first|(exfalso;simp at hgd;done)|(exfalso;simp at hgd;omega)|simp -implicitDefEqProofs (maxSteps:=2000000) [hP,hN])
   |with_reducible refine aE ?_ ?_
   |(with_reducible refine av (λhcd=>?_) (λhcd=>?_)<;>(try (exfalso;clear hP hN;simp_all;done))<;>(try (exfalso;simp at *;omega)))
   |with_reducible refine af.block ?_
   |(with_reducible ((first|refine af.skip ?_|refine af.exit ?_|refine af.ret ?_);simp)))
  refine⟨⟨rfl,rfl,rfl,rfl,rfl,rfl⟩,λm=>?_⟩;by_cases hm:m=5∨m=6∨m=7∨m=8∨m=10∨m=11
  .rcases hm with rfl|rfl|rfl|rfl|rfl|rfl<;>simp
  .simp only[if_neg hm];simp
   omega
 .refine⟨by constructor<;>rfl,rfl,λj x hj=>by omega⟩
 .rintro i h k hk ⟨hi,_⟩
  exact hi.all hk
 .rintro i h k hk ⟨n,_,_,hi,_⟩
  exact hi.all hk
 .intro C1 C2 l i x h hP1 hN1 hP2 hN2 hx ⟨hI,q12,hq⟩
  rw[List.getElem?_map,Option.map_eq_some_iff]at hx;obtain⟨v,hx,rfl⟩:=hx;have hF:=rX l;have hP0:=hP;have hN0:=hN;clear hP hN;have hP:=hP1.trans hP0;have hN:=hN1.trans hN0;have hPb:=hP2.trans hP0;have hNb:=hN2.trans hN0;obtain⟨q5,q6,q7,q8,q10,q11⟩:=hI;have cs:=Kw v a ra b rb ha hb
  cases hsp:qH v a ra b rb with
  |true=>
   rw[hsp]at cs
   repeat' (first
    |with_reducible refine af.seq ?_
    |(with_reducible ((first|refine af.region hF (hn:=[]) (by kernel_rfl) ?_|refine bh (cs) ?_|refine af.cond' ?_);simp -implicitDefEqProofs (maxSteps:=2000000) [hP,hN,hPb,hNb,kS,q5,q6,q7,q8,q10,q11,q12]))
    |(with_reducible refine aO (by simp[hPb,hNb,kS,q5,q6,q7,q8,q10,q11,q12]) (λhgd=>?_) (λhgd=>?_)<;>first|(exfalso;simp at hgd;done)|(exfalso;simp at hgd;omega)|simp -implicitDefEqProofs (maxSteps:=2000000) [hP,hN,hPb,hNb,kS,q5,q6,q7,q8,q10,q11,q12])
    |with_reducible refine aE ?_ ?_
    |(with_reducible refine av (λhcd=>?_) (λhcd=>?_)<;>(try (exfalso;clear hP hN;simp_all;done))<;>(try (exfalso;simp at *;omega)))
    |with_reducible refine af.block ?_
    |(with_reducible ((first|refine af.skip ?_|refine af.exit ?_|refine af.ret ?_);simp[hPb,hNb,kS,q5,q6,q7,q8,q10,q11,q12])))
   exact⟨v,hx,hsp,by constructor<;>simp[q5,q6,q7,q8,q10,q11],hq⟩
  |false=>
   rw[hsp]at cs
   repeat' (first
    |with_reducible refine af.seq ?_
    |(with_reducible ((first|refine af.region hF (hn:=[]) (by kernel_rfl) ?_|refine bh (cs) ?_|refine af.cond' ?_);simp -implicitDefEqProofs (maxSteps:=2000000) [hP,hN,hPb,hNb,kS,q5,q6,q7,q8,q10,q11,q12]))
    |(with_reducible refine aO (by simp[hPb,hNb,kS,q5,q6,q7,q8,q10,q11,q12]) (λhgd=>?_) (λhgd=>?_)<;>first|(exfalso;simp at hgd;done)|(exfalso;simp at hgd;omega)|simp -implicitDefEqProofs (maxSteps:=2000000) [hP,hN,hPb,hNb,kS,q5,q6,q7,q8,q10,q11,q12])
    |with_reducible refine aE ?_ ?_
    |(with_reducible refine av (λhcd=>?_) (λhcd=>?_)<;>(try (exfalso;clear hP hN;simp_all;done))<;>(try (exfalso;simp at *;omega)))
    |with_reducible refine af.block ?_
    |(with_reducible ((first|refine af.skip ?_|refine af.exit ?_|refine af.ret ?_);simp[hPb,hNb,kS,q5,q6,q7,q8,q10,q11,q12])))
   refine⟨by constructor<;>simp[St.kill,bm,aq,q5,q6,q7,q8,q10,q11],by simp[St.kill],λj x hj hx'=>?_⟩;by_cases e:j=i
   .subst e;rw[hx]at hx';injection hx' with hx';subst hx';exact hsp
   .exact hq j x (by omega) hx'
 .rintro h ⟨⟨q5,q6,q7,q8,q10,q11⟩,q12,hq⟩
  rw[List.length_map]at hq;have hn:CL.find? (λn=>qH n a ra b rb)=none:=ES hq;rw[hn]at hfr;rw[hfr];simp -implicitDefEqProofs [hP,hN,q5,q6,q7,q8,q10,q11]
 .rintro i h hi ⟨n,hn1,hn2,⟨q5,q6,q7,q8,q10,q11⟩,hq⟩
  rw[zq hn1 hn2 hq]at hfr;rw[hfr];simp -implicitDefEqProofs [hP,hN,q5,q6,q7,q8,q10,q11]
abbrev DF(SH:List Sh)(PR:List (Nat×Nat))(PT:List (List aH)):PV:=.agg [.sl (SH.map eL),.sl (PR.map xH),.sl (PT.map bR)]
abbrev J3(a b:List aH)(ra rb:Int):PV:=.agg [bR a,bR b,Z ra,Z rb]
def gi(PT:List (List aH))(i:Nat):List aH:=(PT[i]?).getD []
def fF(SH:List Sh)(i:Nat):Int:=((SH[i]?).map Sh.rad).getD 0
structure BdOk(SH:List Sh)(PR:List (Nat×Nat))(PT:List (List aH)):Prop where
 len:PT.length=SH.length
 prs:∀p∈PR,p.1<SH.length∧p.2<SH.length
 GO:SH.length<=24
 few:PR.length<=576
 pts:∀l∈PT,l.length<=8
theorem EU(SH:List Sh)(PR:List (Nat×Nat))(PT:List (List aH))(hb:BdOk SH PR PT)(k:Nat)(p:Nat×Nat)(hp:PR[k]?=some p):aa Tryz.prog 61 [.pv (DF SH PR PT),.pv (Z k)] [] [] (.pv (J3 (gi PT p.1) (gi PT p.2) (fF SH p.1) (fF SH p.2))):=by
 obtain⟨hlt,hpe⟩:=List.getElem?_eq_some_iff.1 hp;obtain⟨i,j⟩:=p;have hpr:=hb.prs _ (List.mem_of_getElem? hp);simp only at hpr;have hl:=hb.len;have hxk:∀h,PR[k]'h=(i,j):=λ_=>hpe
 have i1:i<PT.length:=by omega
 have j1:j<PT.length:=by omega
 obtain⟨a,ha⟩:∃x,PT[i]?=some x:=⟨_,List.getElem?_eq_getElem i1⟩;obtain⟨b,hb'⟩:∃x,PT[j]?=some x:=⟨_,List.getElem?_eq_getElem j1⟩;obtain⟨u,hu⟩:∃x,SH[i]?=some x:=⟨_,List.getElem?_eq_getElem hpr.1⟩;obtain⟨v,hv⟩:∃x,SH[j]?=some x:=⟨_,List.getElem?_eq_getElem hpr.2⟩
 have hxa:∀h,PT[i]'h=a:=λh=>by rw[List.getElem?_eq_getElem h]at ha;exact Option.some.inj ha
 have hxb:∀h,PT[j]'h=b:=λh=>by rw[List.getElem?_eq_getElem h]at hb';exact Option.some.inj hb'
 have hxu:∀h,SH[i]'h=u:=λh=>by rw[List.getElem?_eq_getElem h]at hu;exact Option.some.inj hu
 have hxv:∀h,SH[j]'h=v:=λh=>by rw[List.getElem?_eq_getElem h]at hv;exact Option.some.inj hv
 have e1:gi PT i=a:=by simp[gi,ha]
 have e2:gi PT j=b:=by simp[gi,hb']
 have e3:fF SH i=u.rad:=by simp[fF,hu]
 have e4:fF SH j=v.rad:=by simp[fF,hv]
 rw[e1,e2,e3,e4];obtain⟨h1,h2⟩:=hpr;refine Dp Tryz.func61 ?_;intro C hP hN;simp only[Tryz.f61]at hN|-;exact Gy
def ku(s:Sce)(bx:List Iv):Bool:=decide (eu s=0)&&pF s.js bx
theorem DG{p:Nat×Nat}(h:p∈gq s):p.1<p.2∧p.2<s.shs.length∧j5 s p.1 p.2=true:=by
 have hI:∀i k,k<=s.shs.length->p∈nV s i k->p.1<p.2∧p.2<s.shs.length∧j5 s p.1 p.2=true:=by
  intro i k
  induction k with
  |zero=>intro _ h;cases h
  |succ k ih=>
   intro hk h;rw[nV,List.mem_append]at h;rcases h with h|h
   .exact ih (by omega) h
   .split at h
    .rename_i hc
     rw[List.mem_singleton]at h;subst h;exact⟨hc.1,by omega,hc.2⟩
    .cases h
 have hN:∀i,p∈mz s i->p.1<p.2∧p.2<s.shs.length∧j5 s p.1 p.2=true:=by
  intro i
  induction i with
  |zero=>intro h;cases h
  |succ i ih=>
   intro h;rw[mz,List.mem_append]at h;rcases h with h|h
   .exact ih h
   .exact hI i _ (Nat.le_refl _) h
 unfold gq at h;split at h
 .exact hN _ h
 .cases h
theorem LT{bx:List Iv}(h:ku s bx=true):BdOk s.shs (gq s) (kw s bx):=by
 simp only[ku,Bool.and_eq_true,decide_eq_true_eq]at h;obtain⟨v1,v2,v3,v4,v5,v6,v7⟩:=qg h.1;have hl:=yF s s.shs.length;have hm:s.shs.length*s.shs.length<=24*24:=Nat.mul_le_mul v4 v4;refine⟨by simp[kw],λp hp=>?_,v4,?_,λl hl=>?_⟩
 .have:=DG hp;omega
 .unfold gq;rw[if_pos h.1];omega
 .obtain⟨x,hx,rfl⟩:=List.mem_map.1 hl
  have:=(v6 x hx).2;simp only[jh,Bool.and_eq_true,decide_eq_true_eq]at this;simp only[kO,List.length_map];omega
def G2(bx:List Iv)(i:Nat):Prop:=∀k x,k<i->bx[k]?=some x->vI x=true
theorem Ov(s:Sce)(bx:List Iv)(hs:ScL s)(hbl:bx.length<=9223372036854775807):aa Tryz.prog 60 [.pv (jG s),.pv (iv bx)] [] [] (.pv (.tup (if ku s bx then[DF s.shs (gq s) (kw s bx),B true]else[DF [] [] [],B false]))):=by
 have hd:ku s bx=(decide (eu s=0)&&(decide (bx.length=s.js.length)&&bx.all vI)):=rfl;have cc:=OO s hs;have hjl:=hs.js;by_cases h0:eu s=0
 case neg=>
  have h0':(eu s !=0)=true:=by simp[h0]
  rw[decide_eq_false h0,Bool.false_and]at hd;rw[hd];refine Dp Tryz.func60 ?_;intro C hP hN;simp only[Tryz.f60]at hN|-;exact Gy
 have h0':(eu s !=0)=false:=by simp[h0]
 by_cases h1:bx.length=s.js.length
 case neg=>
  have h1':((bx.length:Int)!=(s.js.length:Int))=true:=by simp;omega
  have h1'':¬(bx.length:Int)=(s.js.length:Int):=by omega
  rw[decide_eq_false h1,Bool.false_and,Bool.and_false]at hd;rw[hd];refine Dp Tryz.func60 ?_;intro C hP hN;simp only[Tryz.f60]at hN|-;exact Gy
 have h1':((bx.length:Int)!=(s.js.length:Int))=false:=by simp[h1]
 have hI:pF s.js bx=bx.all vI:=by
  show(decide (bx.length=s.js.length)&&bx.all vI)=_;rw[decide_eq_true h1,Bool.true_and]
 rw[decide_eq_true h0,decide_eq_true h1,Bool.true_and,Bool.true_and]at hd;rw[hd];have cP:=LS s bx hs h0;rw[hI]at cP;have cR:=Ok s hs;generalize kw s bx=PT at *;generalize gq s=PR at *;refine Dp Tryz.func60 ?_;intro C hP hN;simp only[Tryz.f60]at hN|-;refine Gz ?_;refine WP.loopN [7] bx.length (λi st=>st.t 1=.pv (iv bx)∧st.t 2=.ptr 2 0∧st.h 2=some (.box [.pv (.sl (s.js.map cW)),.pv (.sl (s.ms.map fc)),.pv (.sl (s.shs.map eL)),.pv (.sl (s.sks.map aU))] true false)∧st.t 4=.ptr 4 0∧st.h 4=some (.box [.pv (.val (.slice none 0 0)),.pv (.val (.slice none 0 0)),.pv (.val (.slice none 0 0))] true false)∧st.t 21=.pv (iv bx)∧st.t 22=.pv (Z bx.length)∧st.t 23=.pv (Z i)∧st.h 7=none∧G2 bx i) ?_ ?_
 .simp[h1]
  exact λk x hk=>by omega
 rintro i st hi ⟨g1,g2,hb2,g4,hb4,g21,g22,g23,hb7,hq⟩;by_cases hlt:i<bx.length
 .have hwr:=au hlt hbl
  generalize hxe:bx[i]=v at *
  have hx:bx[i]?=some v:=by rw[List.getElem?_eq_getElem hlt,hxe]
  have cv:=CI v.1 v.2;have hvI:vI v=aC v.1 v.2:=rfl;have hst:=tO (p:=vI) hx hq
  cases hvb:aC v.1 v.2 with
  |true=>
   rw[hvb]at cv;have hst':G2 bx (i+1):=hst hvb;refine GT (gA g1 (gA g2 (gA hb2 (gA g4 (gA hb4 (gA g21 (gA g22 (gA g23 (gA hb7 (gA hlt (gA hx (gA hxe hwr)))))))))))) ?_
   all_goals exact hst'
  |false=>
   rw[hvb]at cv
   have hall:bx.all vI=false:=by
    cases h:bx.all vI with
    |false=>rfl
    |true=>rw[List.all_eq_true]at h;have:=h v (List.mem_of_getElem? hx);rw[hvI,hvb]at this;cases this
   rw[hall];exact Gy
 .have hin:i=bx.length:=by omega
  subst hin;have hall:bx.all vI=true:=vT hq hlt;have cP:=cP hall;rw[hall];exact Gy
def FO(SH:List Sh)(PT:List (List aH))(n:Vc)(p:Nat×Nat):Bool:=qH n (gi PT p.1) (fF SH p.1) (gi PT p.2) (fF SH p.2)
def IP(SH:List Sh)(PR:List (Nat×Nat))(PT:List (List aH))(ns:List Vc)(i:Nat):Prop:=∀k n p,k<i->ns[k]?=some n->PR[k]?=some p->FO SH PT n p=true
def rD(SH:List Sh)(PR:List (Nat×Nat))(PT:List (List aH))(ns:List Vc):Bool:=decide (ns.length=PR.length)&&(ns.zip PR).all λx=>FO SH PT x.1 x.2
theorem Ev{SH:List Sh}{ns:List Vc}(hl:ns.length=PR.length)(h:IP SH PR PT ns ns.length):rD SH PR PT ns=true:=by
 simp only[rD,Bool.and_eq_true,decide_eq_true_eq,List.all_eq_true];refine⟨hl,λx hx=>?_⟩;obtain⟨k,hk,rfl⟩:=List.mem_iff_getElem.1 hx;rw[List.length_zip]at hk;rw[List.getElem_zip];exact h k _ _ (by omega) (List.getElem?_eq_getElem (by omega)) (List.getElem?_eq_getElem (by omega))
def F1(SH:List Sh)(PT:List (List aH))(x y:List Int)(p:Nat×Nat):Bool:=tD x y (gi PT p.1) (fF SH p.1) (gi PT p.2) (fF SH p.2)&&decide (0<=rg x y (gi PT p.1) (fF SH p.1) (gi PT p.2) (fF SH p.2))
structure Wit where
 pair:Int
 a:List Int
 b:List Int
abbrev J4(w:Wit):PV:=.agg [Z w.pair,zs w.a,zs w.b]
def FP(SH:List Sh)(PR:List (Nat×Nat))(PT:List (List aH))(w:Wit):Bool:=decide (0<=w.pair)&&match PR[w.pair.toNat]? with
 |some p=>F1 SH PT w.a w.b p
 |none=>false
set_option maxRecDepth 100000 in
@[simp] theorem KZ:dp Tryz.prog 59:=by
 have hf:=Tryz.func59;have nt:=Tryz.ntmps59;have rs:=Tryz.results59;exact GL
@[simp] theorem Pi:qQ Tryz.prog 139=true:=by kernel_rfl
@[simp] theorem Pj:qQ Tryz.prog 137=true:=by kernel_rfl
structure Vd where
 kind:Int
 ns:List Vc
 w:Wit
abbrev zW(v:Vd):PV:=.agg [Z v.kind,bQ v.ns,Z v.w.pair,zs v.w.a,zs v.w.b]
abbrev J5(ns:List Vc):PV:=.ifc 139 (.agg [bQ ns])
abbrev J6(w:Wit):PV:=.ifc 137 (J4 w)
theorem vS(ns:List Vc):aa Tryz.prog 66 [.pv (J5 ns)] [] [] (.pv (zW ⟨1,ns,⟨0,[],[]⟩⟩)):=by
 refine Dp Tryz.func66 ?_;intro C hP hN;simp only[Tryz.f66]at hN|-;exact Gy
theorem vC(w:Wit):aa Tryz.prog 66 [.pv (J6 w)] [] [] (.pv (zW ⟨2,[],w⟩)):=by
 refine Dp Tryz.func66 ?_;intro C hP hN;simp only[Tryz.f66]at hN|-;exact Gy
def y3(s:Sce)(bx:List Iv)(ns:List Vc):Bool:=ku s bx&&rD s.shs (gq s) (kw s bx) ns
def zd(s:Sce)(bx:List Iv)(w:Wit):Bool:=ku s bx&&FP s.shs (gq s) (kw s bx) w
def dN(v:Vd):Verd:=⟨v.kind,v.ns,v.w.pair,v.w.a,v.w.b⟩
def ri(hints:List Vc)(k:Nat):List Vc:=(hints.drop k).take 1
def zt(SH:List Sh)(PT:List (List aH))(hints:List Vc)(k:Nat)(p:Nat×Nat):Vc×Bool:=qe (gi PT p.1) (fF SH p.1) (gi PT p.2) (fF SH p.2) (ri hints k)
def yz(SH:List Sh)(PT:List (List aH))(p:Nat×Nat):Int×NSt:=m8 (aX (gi PT p.1)) (aX (gi PT p.2)) (fF SH p.1+fF SH p.2) 64
def jw(SH:List Sh)(PR:List (Nat×Nat))(PT:List (List aH))(hints:List Vc):List Vc:=PR.mapIdx λk p=>(zt SH PT hints k p).1
def tG(SH:List Sh)(PR:List (Nat×Nat))(PT:List (List aH))(hints:List Vc):Nat->Nat->Bool->Vd
 |0,_,ap=>if ap then⟨1,jw SH PR PT hints,⟨0,[],[]⟩⟩else⟨0,jw SH PR PT hints,⟨0,[],[]⟩⟩
 |f+1,k,ap=>match PR[k]? with
  |some p=>if(zt SH PT hints k p).2=true then tG SH PR PT hints f (k+1) ap
   else if F1 SH PT (yz SH PT p).2.w (yz SH PT p).2.v p=true then⟨2,[],⟨k,(yz SH PT p).2.w,(yz SH PT p).2.v⟩⟩
   else tG SH PR PT hints f (k+1) false
  |none=>if ap then⟨1,jw SH PR PT hints,⟨0,[],[]⟩⟩else⟨0,jw SH PR PT hints,⟨0,[],[]⟩⟩
def eS(s:Sce)(bx:List Iv)(hints:List Vc):Vd:=if ku s bx then tG s.shs (gq s) (kw s bx) hints (gq s).length 0 true else⟨0,[],⟨0,[],[]⟩⟩
theorem HI{bx:List Iv}(h:ku s bx=true)(i:Nat):0<=fF s.shs i∧fF s.shs i<=1048576:=by
 simp only[ku,Bool.and_eq_true,decide_eq_true_eq]at h;obtain⟨_,_,_,_,_,v6,_⟩:=qg h.1;unfold fF
 cases hx:s.shs[i]? with
 |none=>simp
 |some u=>
  have:=(v6 u (List.mem_of_getElem? hx)).2;simp only[jh,Bool.and_eq_true,decide_eq_true_eq]at this;simp only[Option.map_some,Option.getD_some];omega
theorem tH{l:List aH}(h:l.length<=8):(aX l).length<=8:=by unfold aX;split<;>simp<;>omega
theorem Bj{SH:List Sh}(hb:BdOk SH PR PT)(i:Nat):(gi PT i).length<=8:=by
 unfold gi
 cases h:PT[i]? with
 |none=>simp
 |some l=>exact hb.pts l (List.mem_of_getElem? h)
theorem HJ{a:List aH}{ra:Int}{b:List aH}{rb:Int}{h:List Vc}(hf:(qe a ra b rb h).2=false):(qe a ra b rb h).1=(0,0,0):=by
 unfold qe at hf|-;split
 .rename_i n e;rw[e]at hf;cases hf
 .rfl
theorem ET(a b:List Vc)(rho st:Int):(m8 a b rho st).2.w.length<=8∧(m8 a b rho st).2.v.length<=8:=by
 unfold m8;split
 .rename_i h
  simp only[zU,Bool.and_eq_true]at h;have ia:=j0.1 h.1.1.1;have ib:=j0.1 h.1.1.2;have:=sh (rho:=rho) (steps:=st.toNat) h.1.1.1 h.1.1.2 (st.toNat+1) (uZ a b) (ER ia.1 ib.1);rw[this.wl,this.vl];exact⟨ia.2.1,ib.2.1⟩
 .simp
theorem HK(l:List Vc):(l.map aR).all (lI 3)=true:=by
 rw[List.all_eq_true];intro x hx;obtain⟨v,_,rfl⟩:=List.mem_map.1 hx;rfl
theorem Bk(hints:List Vc)(i:Nat)(z:Option Value)(e n:Nat)(y:Option Value):lj {size:=n,zero:=z,kind:=TK.slice e 3 24 y} (.pv (bQ hints)) (some (.pv (.val (.int .i64 (if hints.length<i then(hints.length:Int)else(i:Int)))))) (some (.pv (.val (.int .i64 (min ((i:Int)+1) (hints.length:Int))))))=some (.pv (bQ (ri hints i))):=by
 have h1:0<=(if hints.length<i then(hints.length:Int)else(i:Int)):=by split<;>omega
 have h2:0<=min ((i:Int)+1) (hints.length:Int):=by omega
 have h3:(if hints.length<i then(hints.length:Int)else(i:Int)).toNat=min i hints.length:=by split<;>omega
 have h4:(min ((i:Int)+1) (hints.length:Int)).toNat=min (i+1) hints.length:=by omega
 simp only[lj,if_pos h1,if_pos h2,h3,h4,List.length_map];rw[if_pos ⟨by omega,by omega,by decide,HK hints⟩]
 congr 3
 rw[<-List.map_take,<-List.map_drop]
 congr 1
 unfold ri;by_cases h:i<hints.length
 .rw[show min i hints.length=i by omega,show min (i+1) hints.length=i+1 by omega,List.drop_take,show i+1-i=1 by omega]
 .rw[show min i hints.length=hints.length by omega,show min (i+1) hints.length=hints.length by omega,List.take_length,List.drop_length,List.drop_eq_nil_of_le (by omega)];rfl
theorem wO(s:Sce)(bx:List Iv)(hints:List Vc)(hs:ScL s)(hbl:bx.length<=9223372036854775807)(hh:hints.length<=9223372036854775807):aa Tryz.prog 24 [.pv (jG s),.pv (iv bx),.pv (bQ hints)] [] [] (.pv (zW (eS s bx hints))):=by
 have cp:=Ov s bx hs hbl
 have hd:eS s bx hints=if ku s bx then tG s.shs (gq s) (kw s bx) hints (gq s).length 0 true else⟨0,[],⟨0,[],[]⟩⟩:=rfl
 cases hp:ku s bx with
 |false=>
  rw[hp]at cp hd;simp only[Bool.false_eq_true,if_false]at hd;rw[hd];refine Dp Tryz.func24 ?_;intro C hP hN;simp only[Tryz.f24]at hN|-;exact Gy
 |true=>
 rw[hp]at cp hd;simp only[if_true]at hd;have hb:=LT hp;have hrd:=HI hp;rw[hd];generalize gq s=PR at *;generalize kw s bx=PT at *;generalize s.shs=SH at *;have hfew:=hb.few;generalize hgo:tG SH PR PT hints PR.length 0 true=RES at *;generalize hLM:(jw SH PR PT hints).map aR=LM
 have hML:LM.length=PR.length:=by rw[<-hLM];simp[jw]
 have hMk:∀k p,PR[k]?=some p->LM[k]?=some (aR (zt SH PT hints k p).1):=λk q hk=>by rw[<-hLM,jw,List.getElem?_map,List.getElem?_mapIdx,hk];rfl
 refine Dp Tryz.func24 ?_;intro C hP hN;simp only[Tryz.f24]at hN|-;refine GT (gA (show(24:Int)*(PR.length:Int)<=281474976710656 by omega) (show(PR.length:Int)<=9223372036854775807 by omega)) ?_;refine WP.loopN [12,14,16] PR.length (λi st=>∃R:List PV,∃ap:Bool,tG SH PR PT hints (PR.length-i) i ap=RES∧st.t 2=.pv (bQ hints)∧st.t 6=.ptr 6 0∧st.h 6=some (.box [.pv (Z 0),.pv (.val (.slice none 0 0)),.pv (Z 0),.pv (.val (.slice none 0 0)),.pv (.val (.slice none 0 0))] true false)∧st.t 7=.ptr 7 0∧st.h 7=some (.box [.pv (.sl (SH.map eL)),.pv (.sl (PR.map xH)),.pv (.sl (PT.map bR))] true false)∧st.t 9=.arr 30 PR.length∧st.t 10=.pv (B ap)∧st.t 33=.pv (Z PR.length)∧st.t 34=.pv (Z i)∧st.h 12=none∧st.h 14=none∧st.h 16=none∧st.h 30=some (.row 49 3 R 0)∧R.length=PR.length∧(∀k,i<=k->k<PR.length->R[k]?=some (mJ 0 0 0))∧∀k,k<i->R[k]?=LM[k]?) ?_ ?_
 .refine⟨List.replicate PR.length (mJ 0 0 0),true,hgo,?_⟩
  simp
  try (intro k hk;first|exact hk|simp[List.getElem?_replicate,hk])
 rintro i st hi ⟨R,ap,hgo,g2,g6,hb6,g7,hb7,g9,g10,g33,g34,hb12,hb14,hb16,hb30,hRl,hRz,hR⟩;by_cases hlt:i<PR.length
 .have hwr:=au hlt (by omega)
  obtain⟨p,hp⟩:∃p,PR[i]?=some p:=⟨_,List.getElem?_eq_getElem hlt⟩;have hRi:=hRz i (Nat.le_refl _) hlt;have hgi:=pG hRi
  have hiR:i<R.length:=by omega
  have cc:=EU SH PR PT hb i p hp;have r1:=hrd p.1;have r2:=hrd p.2;have l1:=Bj hb p.1;have l2:=Bj hb p.2;have cf:=uv (gi PT p.1) (fF SH p.1) (gi PT p.2) (fF SH p.2) (ri hints i) (by omega) (by omega) (by simp[ri];omega);have hfd:zt SH PT hints i p=qe (gi PT p.1) (fF SH p.1) (gi PT p.2) (fF SH p.2) (ri hints i):=rfl;rw[<-hfd]at cf;rw[show PR.length-i=(PR.length-i-1)+1 by omega]at hgo;simp only[tG,hp]at hgo;have hMi:=hMk i p hp
  have k2:∀k,k<i+1->(R.set i (aR (zt SH PT hints i p).1))[k]?=LM[k]?:=λk h1=>by
   rw[List.getElem?_set];by_cases e:i=k
   .subst e;rw[if_pos rfl,if_pos hiR,hMi]
   .rw[if_neg e];exact hR k (by omega)
  have k1:∀y k,i+1<=k->k<PR.length->(R.set i y)[k]?=some (mJ 0 0 0):=λy k h1 h2=>by
   rw[List.getElem?_set,if_neg (by omega)];exact hRz k (by omega) h2
  have k2':(zt SH PT hints i p).2=false->∀k,k<i+1->R[k]?=LM[k]?:=λhf k h1=>by
   by_cases e:k=i
   .subst e;rw[hRi,hMi]
    have:(zt SH PT hints k p).1=(0,0,0):=HJ hf;rw[this]
   .exact hR k (by omega)
  have k1':∀k,i+1<=k->k<PR.length->R[k]?=some (mJ 0 0 0):=λk h1 h2=>hRz k (by omega) h2;generalize zt SH PT hints i p=F at *;clear hMk hLM hML
  cases hF2:F.2 with
  |true=>
   rw[hF2]at cf hgo;simp only[if_true]at hgo;refine GT (gA g2 (gA g6 (gA hb6 (gA g7 (gA hb7 (gA g9 (gA g10 (gA g33 (gA g34 (gA hb12 (gA hb14 (gA hb16 (gA hb30 (gA hRl (gA hlt (gA hwr (gA hRi (gA hgi @Bk)))))))))))))))))) ?_;rw[show PR.length-i-1=PR.length-(i+1) by omega]at hgo;refine⟨R.set i (aR F.1),?_⟩;cases ap
   .exact .inl ⟨hgo,rfl,rfl,by simp[hRl],k1 _,k2⟩
   .exact .inr ⟨hgo,rfl,rfl,by simp[hRl],k1 _,k2⟩
  |false=>
   rw[hF2]at cf hgo;simp only[Bool.false_eq_true,if_false]at hgo;have k2':=k2' hF2;have c1:=Cl (gi PT p.1) (by omega);have c2:=Cl (gi PT p.2) (by omega);have z1:=tH l1;have z2:=tH l2;have c3:=uO (aX (gi PT p.1)) (aX (gi PT p.2)) (fF SH p.1+fF SH p.2) 64 (by omega) (by omega);have hNd:yz SH PT p=m8 (aX (gi PT p.1)) (aX (gi PT p.2)) (fF SH p.1+fF SH p.2) 64:=rfl;have hln:=ET (aX (gi PT p.1)) (aX (gi PT p.2)) (fF SH p.1+fF SH p.2) 64;rw[<-hNd]at c3 hln;have hw:IntKind.i64.wrap (fF SH p.1+fF SH p.2)=fF SH p.1+fF SH p.2:=ab;generalize yz SH PT p=NN at *;have co:=JA NN.2.w NN.2.v (gi PT p.1) (fF SH p.1) (gi PT p.2) (fF SH p.2) (by omega) (by omega) (by omega) (by omega);have hod:F1 SH PT NN.2.w NN.2.v p=(tD NN.2.w NN.2.v (gi PT p.1) (fF SH p.1) (gi PT p.2) (fF SH p.2)&&decide (0<=rg NN.2.w NN.2.v (gi PT p.1) (fF SH p.1) (gi PT p.2) (fF SH p.2))):=rfl;rw[<-hod]at co
   cases hov:F1 SH PT NN.2.w NN.2.v p with
   |true=>
    rw[hov]at co hgo;simp only[if_true]at hgo;subst hgo;have cv:=vC ⟨i,NN.2.w,NN.2.v⟩;exact GS (gA g2 (gA g6 (gA hb6 (gA g7 (gA hb7 (gA g9 (gA g10 (gA g33 (gA g34 (gA hb12 (gA hb14 (gA hb16 (gA hb30 (gA hRl (gA hlt (gA hwr (gA hRi (gA hgi (gA @Bk hw)))))))))))))))))))
   |false=>
    rw[hov]at co hgo;simp only[Bool.false_eq_true,if_false]at hgo;rw[show PR.length-i-1=PR.length-(i+1) by omega]at hgo;refine GT (gA g2 (gA g6 (gA hb6 (gA g7 (gA hb7 (gA g9 (gA g10 (gA g33 (gA g34 (gA hb12 (gA hb14 (gA hb16 (gA hb30 (gA hRl (gA hlt (gA hwr (gA hRi (gA hgi (gA @Bk hw))))))))))))))))))) ?_;exact⟨hgo,k1',k2'⟩
 .have hin:i=PR.length:=by omega
  subst hin
  have hRC:R=LM:=by
   apply List.ext_getElem?;intro k;by_cases hk:k<PR.length
   .exact hR k hk
   .rw[List.getElem?_eq_none (by omega),List.getElem?_eq_none (by omega)]
  subst hRC;rw[Nat.sub_self]at hgo;simp only[tG]at hgo;have cv:=vS (jw SH PR PT hints)
  have hBL:(jw SH PR PT hints).length=PR.length:=by simp[jw]
  cases ap with
  |true=>
   simp only[if_true]at hgo;subst hgo;rw[<-hLM]at hb30;exact GS (gA g2 (gA g6 (gA hb6 (gA g7 (gA hb7 (gA g9 (gA g10 (gA g33 (gA g34 (gA hb12 (gA hb14 (gA hb16 (gA hb30 (gA hML hBL))))))))))))))
  |false=>
   simp only[Bool.false_eq_true,if_false]at hgo;subst hgo;rw[<-hLM]at hb30;exact Gy
theorem Ba(js:List J)(b:Bx):∀i,(fX js b i).1=-1∨∃j:Nat,(fX js b i).1=(j:Int)∧j<i∧∃x,b[j]?=some x∧2<=cV x
 |0=>.inl rfl
 |i+1=>by
  have ih:=Ba js b i;have up:(∃j:Nat,(fX js b i).1=(j:Int)∧j<i∧∃x,b[j]?=some x∧2<=cV x)->∃j:Nat,(fX js b i).1=(j:Int)∧j<i+1∧∃x,b[j]?=some x∧2<=cV x:=λ⟨j,h1,h2,h3⟩=>⟨j,h1,by omega,h3⟩;simp only[fX];split
  .rename_i jj x h1 h2
   split
   .rename_i h;exact .inr ⟨i,rfl,by omega,x,h2,h.1⟩
   .exact ih.imp id up
  .exact ih.imp id up
theorem EO{x:Int×Int}(h:aC x.1 x.2=true):cV x=x.2-x.1:=by
 have:=ej.1 h;rw[cV,h];simp only[if_true];exact ab (by omega) (by omega)
theorem Bb(js:List J)(ms:List Ms)(b:Bx):iS js ms b=-1∨∃j:Nat,iS js ms b=(j:Int)∧j<b.length∧b.length=js.length∧bi vI b=true∧∃x,b[j]?=some x∧2<=x.2-x.1:=by
 unfold iS;split
 .rename_i h
  simp only[pX,Bool.and_eq_true,decide_eq_true_eq]at h;rcases Ba js b js.length with e|⟨j,h1,h2,x,h3,h4⟩
  .exact .inl e
  .have hv:aC x.1 x.2=true:=ey.1 h.1.2 _ (List.mem_of_getElem? h3)
   rw[EO hv]at h4;exact .inr ⟨j,h1,by omega,h.1.1,h.1.2,x,h3,h4⟩
 .exact .inl rfl
def kY(js:List J)(ms:List Ms)(w:Int)(b:Bx):Bool:=decide (0<=iS js ms b)&&match b[(iS js ms b).toNat]? with
 |some x=>decide (w<x.2-x.1)
 |none=>false
section
variable {n:Nat} {may may' has:Nat->Bool} {tch:Nat->Nat->Bool} (h:∀i,i<n->may i=may' i)
include h
end
def qD(js:List J)(ms:List Ms)(w:Int)(b:Bx):Int:=if kY js ms w b then iS js ms b else -1
theorem zz{b:Bx}:(qD js ms w b != -1)=kY js ms w b:=by
 unfold qD
 cases h:kY js ms w b with
 |false=>simp
 |true=>
  have:0<=iS js ms b:=by
   unfold kY at h;simp only[Bool.and_eq_true,decide_eq_true_eq]at h;exact h.1
  simp;omega
theorem IK{b:Bx}(h:iS js ms b=-1):kY js ms w b=false:=by simp[kY,h]
theorem HB{b:Bx}{j:Nat}{x:Int×Int}(h:iS js ms b=(j:Int))(hx:b[j]?=some x):kY js ms w b=decide (w<x.2-x.1):=by
 have hj:(0:Int)<=(j:Int):=by omega
 unfold kY;rw[h,Int.toNat_natCast,hx,decide_eq_true hj,Bool.true_and]
theorem I3(js:List J)(ms:List Ms)(b:Bx)(w:Int)(hjl:js.length<=9223372036854775807)(hml:ms.length<=9223372036854775807)(hbl:b.length<=9223372036854775807):aa Tryz.prog 21 [.pv (ja js ms),.pv (iv b),.pv (Z w)] [] [] (.pv (Z (qD js ms w b))):=by
 have cw:=Lk js ms b hjl hml hbl;rcases Bb js ms b with hj|⟨j,hj,hjl2,_,hv,x,hx,hw2⟩
 .have e:qD js ms w b=-1:=by unfold qD;rw[IK hj];rfl
  rw[e];rw[hj]at cw;refine Dp Tryz.func21 ?_;intro C hP hN;simp only[Tryz.f21]at hN|-;exact Gy
 .have e:qD js ms w b=if w<x.2-x.1 then(j:Int)else -1:=by
   unfold qD;rw[HB hj hx,hj];by_cases h:w<x.2-x.1<;>simp[h]
  rw[e];rw[hj]at cw;have hxe:∀h,b[j]'h=x:=λh=>fy hx h;have hvx:=ej.1 (ey.1 hv _ (List.mem_of_getElem? hx));have hwx:IntKind.i64.wrap (x.2-x.1)=x.2-x.1:=ab
  have hj1:¬(j:Int)=-1:=by omega
  by_cases h:w<x.2-x.1
  .have h':¬x.2-x.1<=w:=by omega
   rw[if_pos h];refine Dp Tryz.func21 ?_;intro C hP hN;simp only[Tryz.f21]at hN|-;exact Gy
  .have h':x.2-x.1<=w:=by omega
   rw[if_neg h];refine Dp Tryz.func21 ?_;intro C hP hN;simp only[Tryz.f21]at hN|-;exact Gy
def Il(l:List Int)(m:Nat)(c:Vc):Vc:=(wr (c.1+wr (wr (nx l m 7-3)*32768)),wr (c.2.1+wr (wr (nx l (nn l m) 5-2)*32768)),wr (c.2.2+wr (wr (nx l (nn l (nn l m)) 5-2)*32768)))
def mr(l:List Int)(m:Nat):Nat->Nat
 |0=>m
 |i+1=>nn l (nn l (nn l (mr l m i)))
theorem zh(l:List Int)(m:Nat):∀i,mr l m i<=m+3*i
 |0=>Nat.le_refl _
 |i+1=>by
  have h:=zh l m i;have l1:=lV l (mr l m i);have l2:=lV l (nn l (mr l m i));have l3:=lV l (nn l (nn l (mr l m i)));simp only[mr];omega
def xq(l:List Int)(m:Nat)(c:Vc)(k:Nat):List Vc:=c::(List.range k).map λi=>Il l (mr l m i) c
theorem FS(l:List Int)(m:Nat)(c:Vc)(k:Nat):(xq l m c (k+1)).map aR=(xq l m c k).map aR++[aR (Il l (mr l m k) c)]:=by simp[xq,List.range_succ]
theorem B2(l:List Int)(m:Nat)(c:Vc)(k:Nat):(xq l m c k).length=k+1:=by simp[xq]
def ky(l:List Int)(n:Nat):Nat:=(nx l n 4).toNat
def B3(l:List Int)(n:Nat)(c:Vc):List Vc:=xq l (nn l n) c (ky l n)
def xL(l:List Int)(n:Nat):Nat:=mr l (nn l n) (ky l n)
theorem NK(l:List Int)(n:Nat)(c:Vc)(hn:n<100000):aa Tryz.prog 26 [.bx 0,.pv (aR c)] [gx l n] [gx l (xL l n)] (.pv (bQ (B3 l n c))):=by
 have hx:=ld l n (k:=4) (by decide) (by decide)
 have hk:nx l n 4=((ky l n:Nat):Int):=by unfold ky;omega
 have hk3:ky l n<4:=by unfold ky;omega
 have hl1:=lV l n;refine qU Tryz.func26 rfl (by kernel_rfl) (by simp[Tryz.f26]) rfl (by intro i j h;rcases i with _|_|_|i<;>simp_all) ?_;intro C hP hN;simp only[Tryz.f26]at hN|-
 with_reducible repeat' (first|refine Sp.h ?_|((first|refine Wh [8] ?_|refine Wi [8] ?_|refine Ss.h ?_|refine Sc.h (NV l n 4 (by decide) (by omega)) ?_|(refine Sb.h ?_ ?_ ?_<;>(try intro hgd)<;>try exact Xy))<;>simp -implicitDefEqProofs (maxSteps:=2000000) [hP,hN,gx,hk]<;>try refine Ya ?_)|refine X2 ?_ ?_|(refine Xd ?_ ?_<;>intro hcd<;>try exact Xx))
 refine WP.loopN [] (ky l n) (λi st=>st.t 0=.ptr (pk 0) 0∧st.t 3=.ptr 3 0∧st.h 3=some (.box [.pv (Z c.1),.pv (Z c.2.1),.pv (Z c.2.2)] true false)∧st.t 6=.pv (Z ((ky l n:Int)-i))∧
  st.h (pk 0)=some (.box [.pv (zs l),.pv (Z (mr l (nn l n) i))] false false)∧st.t 5=.arr 8 (i+1)∧st.h 8=some (.row 49 3 ((xq l (nn l n) c i).map aR) 0)) (by simp[mr,xq]) ?_
 rintro i st hi ⟨h0,h3,hb3,h6,hp,h5,hb8⟩;have hz:=B2 l (nn l n) c i;by_cases hlt:i<ky l n
 .have hw:IntKind.i64.wrap ((ky l n:Int)-i-1)=(ky l n:Int)-((i:Int)+1):=by rw[IntKind.wrap_i64];omega
  have hgt:(0:Int)<(ky l n:Int)-i:=by omega
  have hm2:=zh l (nn l n) i;have l1:=lV l (mr l (nn l n) i);have l2:=lV l (nn l (mr l (nn l n) i));have hJ:=FS l (nn l n) c i;have hS:mr l (nn l n) (i+1)=nn l (nn l (nn l (mr l (nn l n) i))):=rfl
  with_reducible repeat' (first|refine Sp.h ?_|((first|refine Wd ?_|refine Ss.h ?_|refine Sc.h (Ks l _ _ (by decide) (by decide) (by omega)) ?_|(refine Sb.h ?_ ?_ ?_<;>(try intro hgd)<;>try exact Xy))<;>simp -implicitDefEqProofs (maxSteps:=2000000) [hP,hN,h0,h3,hb3,h5,h6,hp,hb8,hlt,hw,hgt,hS,hz,show(i+1+1)*24<=140737488355328 by omega,show i<=9223372036854775805 by omega]<;>try refine Ya ?_)|refine X2 ?_ ?_|(refine Xd ?_ ?_<;>intro hcd<;>try exact Xx))
  all_goals simp[hJ,Il]
 .have hir:i=ky l n:=by omega
  subst hir;refine Gz ?_
  all_goals simp[xL,B3]
theorem ED(l:List Int)(n:Nat):xL l n<=n+10:=by
 have h1:=lV l n;have hx:=ld l n (k:=4) (by decide) (by decide)
 have hk3:ky l n<4:=by unfold ky;omega
 have h2:=zh l (nn l n) (ky l n);unfold xL;omega
theorem He(l:List Int):qu l 0<=60:=by
 have h1:=lV l 0;have hx:=ld l 0 (k:=3) (by decide) (by decide)
 have hrN:rN l 0<=3:=by unfold rN;omega
 have h2:=yL l (nn l 0) (rN l 0);have h3:=lV l (rM l 0);have hx3:=ld l (rM l 0) (k:=3) (by decide) (by decide)
 have hrK:rK l 0<3:=by unfold rK;omega
 have h4:=Dl l (nn l (rM l 0)) (rK l 0);have h5:rM l 0=mu l (nn l 0) (rN l 0):=rfl;unfold qu;omega
def I4(l:List Int)(m:Nat)(i:Nat):Sh:=⟨i,wr ((wr (wr (1+nx l m 3)*65536)).tdiv 8),B3 l (nn l (nn l m)) (wr (nx l (nn l m) 4*32768),0,0)⟩
def eJ(l:List Int)(n:Nat):Nat->List Sh×Nat
 |0=>([],n)
 |i+1=>if nx l (eJ l n i).2 5<4 then((eJ l n i).1++[I4 l (nn l (eJ l n i).2) i],xL l (nn l (nn l (nn l (eJ l n i).2))))else((eJ l n i).1,nn l (eJ l n i).2)
theorem zi(l:List Int)(n:Nat):∀i,(eJ l n i).2<=n+13*i∧(eJ l n i).1.length<=i
 |0=>by simp[eJ]
 |i+1=>by
  have ih:=zi l n i;have a1:=lV l (eJ l n i).2;have a2:=lV l (nn l (eJ l n i).2);have a3:=lV l (nn l (nn l (eJ l n i).2));have a4:=ED l (nn l (nn l (nn l (eJ l n i).2)));simp only[eJ];split
  .simp only[List.length_append,List.length_cons,List.length_nil];omega
  .simp only;omega
def EE(l:List Int)(m:Nat):Sh:=⟨-1,wr ((wr (wr (1+nx l (nn l (nn l (nn l m))) 4)*65536)).tdiv 8),B3 l (nn l (nn l (nn l (nn l m)))) (wr (wr (nx l m 19-9)*32768),wr (wr (nx l (nn l m) 19-9)*32768),wr (wr (nx l (nn l (nn l m)) 5-2)*32768))⟩
def fA(l:List Int)(xs:List Sh)(n:Nat):Nat->List Sh×Nat
 |0=>(xs,n)
 |i+1=>((fA l xs n i).1++[EE l (fA l xs n i).2],xL l (nn l (nn l (nn l (nn l (fA l xs n i).2)))))
theorem zm(l:List Int)(xs:List Sh)(n:Nat):∀i,(fA l xs n i).2<=n+14*i∧(fA l xs n i).1.length=xs.length+i
 |0=>by simp[fA]
 |i+1=>by
  have ih:=zm l xs n i;have a1:=lV l (fA l xs n i).2;have a2:=lV l (nn l (fA l xs n i).2);have a3:=lV l (nn l (nn l (fA l xs n i).2));have a4:=lV l (nn l (nn l (nn l (fA l xs n i).2)));have a5:=ED l (nn l (nn l (nn l (nn l (fA l xs n i).2))));simp only[fA,List.length_append,List.length_cons,List.length_nil];omega
def rC(l:List Int)(n:Nat):Nat:=(1+nx l n 3).toNat
def mA(l:List Int):List Sh×Nat:=eJ l (qu l 0) (rN l 0)
def mB(l:List Int):List Sh×Nat:=fA l (mA l).1 (nn l (mA l).2) (rC l (mA l).2)
def ny(l:List Int):Sce:=⟨gD l 0,mI l 0,(mB l).1,if nx l (mB l).2 5=1 then[(-1,nx l (nn l (mB l).2) (rN l 0))]else[]⟩
def LO(l:List Int)(xs:List Sh)(h:Hp):Prop:=∃W:AV,h 4=some (.box [.pv (.sl ((gD l 0).map cW)),.pv (.sl ((mI l 0).map fc)),W,AN] true false)∧((xs=[]∧W=AN∧h 71=none)∨(xs≠[]∧W=.arr 40 xs.length∧h 40=some (.row 52 3 (xs.map eL) 0))∨(xs≠[]∧W=.arr 71 xs.length∧h 71=some (.row 52 3 (xs.map eL) 0)))
theorem Oa(l:List Int):aa Tryz.prog 10 [.pv (zs l)] [] [] (.pv (jG (ny l))):=by
 have hx:=ld l 0 (k:=3) (by decide) (by decide)
 have hrN:rN l 0<=3∧0<rN l 0:=by unfold rN;omega
 have hzJ:(gD l 0).length=rN l 0:=nF l (nn l 0) (rN l 0);have hre:=He l;have cr:=JV l 0 (by decide);generalize hn0:qu l 0=n0 at *;refine Dp Tryz.func10 ?_;intro C hP hN;simp only[Tryz.f10]at hN|-
 with_reducible repeat' (first|refine Sp.h ?_|((first|refine Wd ?_|refine Ss.h ?_|refine Sc.h (FD _) ?_|refine Sc.h (cr) ?_|(refine Sb.h ?_ ?_ ?_<;>(try intro hgd)<;>try exact Xy))<;>simp -implicitDefEqProofs (maxSteps:=2000000) [hP,hN,gx]<;>try refine Ya ?_)|refine X2 ?_ ?_|(refine Xd ?_ ?_<;>intro hcd<;>try exact Xx))
 refine WP.loopN [] (rN l 0) (λi st=>st.t 3=.ptr 9 0∧st.h 9=some (.box [.pv (zs l),.pv (Z (eJ l n0 i).2)] true false)∧st.t 2=.ptr 2 0∧st.h 2=some (.box [AN,AN,AN,AN] true false)∧st.t 4=.ptr 4 0∧st.t 5=.pv (Z i)∧st.h 71=none∧st.h 86=none∧st.h 7=none∧
  (((eJ l n0 i).1=[]∧st.h 4=some (.box [.pv (.sl ((gD l 0).map cW)),.pv (.sl ((mI l 0).map fc)),AN,AN] true false)∧st.h 40=none)∨((eJ l n0 i).1≠[]∧st.h 4=some (.box [.pv (.sl ((gD l 0).map cW)),.pv (.sl ((mI l 0).map fc)),.arr 40 (eJ l n0 i).1.length,AN] true false)∧st.h 40=some (.row 52 3 ((eJ l n0 i).1.map eL) 0)))) (by simp[eJ]) ?_
 rintro i st hi ⟨g3,hb9,g2,hb2,g4,g5,hb71,hb86,hb7,hor⟩;have hle:=zi l n0 i;by_cases hlt:i<rN l 0
 .have hwr:=au hlt (by omega)
  have hS:eJ l n0 (i+1)=if nx l (eJ l n0 i).2 5<4 then((eJ l n0 i).1++[I4 l (nn l (eJ l n0 i).2) i],xL l (nn l (nn l (nn l (eJ l n0 i).2))))else((eJ l n0 i).1,nn l (eJ l n0 i).2):=rfl
  generalize eJ l n0 (i+1)=S' at *;generalize eJ l n0 i=S at *;obtain⟨xs,m⟩:=S;simp only at hle hS hb9 hor;have a1:=lV l m;have a2:=lV l (nn l m);have a3:=lV l (nn l (nn l m));have cp:=NK l (nn l (nn l (nn l m))) (wr (nx l (nn l (nn l m)) 4*32768),0,0) (by omega);by_cases h5:nx l m 5<4
  .rw[if_pos h5]at hS
   subst hS;rcases hor with⟨hxs,hb4,hb40⟩|⟨hxs,hb4,hb40⟩
   .subst hxs
    with_reducible repeat' (first|refine Sp.h ?_|((first|refine Wd ?_|refine Ss.h ?_|refine Sc.h (NV l _ 5 (by decide) (by omega)) ?_|refine Sc.h (NV l _ 3 (by decide) (by omega)) ?_|refine Sc.h (NV l _ 4 (by decide) (by omega)) ?_|refine Sc.h (cp) ?_|(refine Sb.h ?_ ?_ ?_<;>(try intro hgd)<;>try exact Xy))<;>simp -implicitDefEqProofs (maxSteps:=2000000) [hP,hN,g3,hb9,g2,hb2,g4,g5,hb71,hb86,hb7,hb4,hb40,hlt,hwr,hzJ,h5]<;>try refine Ya ?_)|refine X2 ?_ ?_|(refine Xd ?_ ?_<;>intro hcd<;>try exact Xx))
    all_goals exact⟨rfl,rfl,rfl⟩
   .skip
    with_reducible repeat' (first|refine Sp.h ?_|((first|refine Wd ?_|refine Ss.h ?_|refine Sc.h (NV l _ 5 (by decide) (by omega)) ?_|refine Sc.h (NV l _ 3 (by decide) (by omega)) ?_|refine Sc.h (NV l _ 4 (by decide) (by omega)) ?_|refine Sc.h (cp) ?_|(refine Sb.h ?_ ?_ ?_<;>(try intro hgd)<;>try exact Xy))<;>simp -implicitDefEqProofs (maxSteps:=2000000) [hP,hN,g3,hb9,g2,hb2,g4,g5,hb71,hb86,hb7,hb4,hb40,hlt,hwr,hzJ,h5,show(xs.length+1)*40<=140737488355328 by omega,show xs.length<=9223372036854775806 by omega]<;>try refine Ya ?_)|refine X2 ?_ ?_|(refine Xd ?_ ?_<;>intro hcd<;>try exact Xx))
    all_goals exact⟨rfl,rfl,rfl⟩
  .rw[if_neg h5]at hS
   subst hS;rcases hor with⟨hxs,hb4,hb40⟩|⟨hxs,hb4,hb40⟩
   all_goals
    with_reducible repeat' (first|refine Sp.h ?_|((first|refine Wd ?_|refine Ss.h ?_|refine Sc.h (NV l _ 5 (by decide) (by omega)) ?_|(refine Sb.h ?_ ?_ ?_<;>(try intro hgd)<;>try exact Xy))<;>simp -implicitDefEqProofs (maxSteps:=2000000) [hP,hN,g3,hb9,g2,hb2,g4,g5,hb71,hb86,hb7,hb4,hb40,hlt,hwr,hzJ,h5]<;>try refine Ya ?_)|refine X2 ?_ ?_|(refine Xd ?_ ?_<;>intro hcd<;>try exact Xx))
    all_goals exact hxs
 .have hir:i=rN l 0:=by omega
  subst hir
  have hmA:eJ l n0 (rN l 0)=mA l:=by unfold mA;rw[hn0]
  rw[hmA]at hle hb9 hor;have hK:nx l (mA l).2 3<3∧0<=nx l (mA l).2 3:=⟨(ld l _ (by decide) (by decide)).2,(ld l _ (by decide) (by decide)).1⟩
  have hKe:IntKind.i64.wrap (1+nx l (mA l).2 3)=((rC l (mA l).2:Nat):Int):=by rw[IntKind.wrap_i64];unfold rC;omega
  have hK3:rC l (mA l).2<=3∧1<=rC l (mA l).2:=by unfold rC;omega
  have hsk:ny l=⟨gD l 0,mI l 0,(mB l).1,if nx l (mB l).2 5=1 then[(-1,nx l (nn l (mB l).2) (rN l 0))]else[]⟩:=rfl;rw[hsk];have hmB:mB l=fA l (mA l).1 (nn l (mA l).2) (rC l (mA l).2):=rfl;have hnA:=lV l (mA l).2;rw[hmB];generalize mA l=A at *;clear hmA hsk hmB;generalize rC l A.2=K at *
  obtain⟨W,hb4,hW⟩:∃W:AV,st.h 4=some (.box [.pv (.sl ((gD l 0).map cW)),.pv (.sl ((mI l 0).map fc)),W,AN] true false)∧((A.1=[]∧W=AN∧st.h 71=none)∨(A.1≠[]∧W=.arr 40 A.1.length∧st.h 40=some (.row 52 3 (A.1.map eL) 0))∨(A.1≠[]∧W=.arr 71 A.1.length∧st.h 71=some (.row 52 3 (A.1.map eL) 0))):=by
   rcases hor with⟨a,b,c⟩|⟨a,b,c⟩
   .exact⟨_,b,.inl ⟨a,rfl,hb71⟩⟩
   .exact⟨_,b,.inr (.inl ⟨a,rfl,c⟩)⟩
  clear hor
  with_reducible repeat' (first|refine Sp.h ?_|((first|refine Wd ?_|refine Ss.h ?_|refine Sc.h (NV l _ 3 (by decide) (by omega)) ?_|(refine Sb.h ?_ ?_ ?_<;>(try intro hgd)<;>try exact Xy))<;>simp -implicitDefEqProofs (maxSteps:=2000000) [hP,hN,g3,hb9,g2,hb2,g4,g5,hb4,hb86,hb7,hzJ,hKe]<;>try refine Ya ?_)|refine X2 ?_ ?_|(refine Xd ?_ ?_<;>intro hcd<;>try exact Xx))
  have hz0:fA l A.1 (nn l A.2) 0=(A.1,nn l A.2):=rfl;refine WP.loopN [7] K (λi st=>st.t 3=.ptr 9 0∧st.h 9=some (.box [.pv (zs l),.pv (Z (fA l A.1 (nn l A.2) i).2)] true false)∧st.t 2=.ptr 2 0∧st.h 2=some (.box [AN,AN,AN,AN] true false)∧st.t 4=.ptr 4 0∧st.t 6=.pv (Z ((K:Int)-i))∧st.h 86=none∧st.h 7=none∧LO l (fA l A.1 (nn l A.2) i).1 st.h) ?_ ?_
  .refine⟨by simp[g3],by simp[hz0],by simp[g2],by simp[hb2],by simp[g4],by simp,by simp[hb86],by simp[hb7],?_⟩
   rw[hz0];rcases hW with⟨a,rfl,b⟩|⟨a,rfl,b⟩|⟨a,rfl,b⟩
   .exact⟨AN,by simp[hb4],.inl ⟨a,rfl,by simp[b]⟩⟩
   .exact⟨.arr 40 A.1.length,by simp[hb4],.inr (.inl ⟨a,rfl,by simp[b]⟩)⟩
   .exact⟨.arr 71 A.1.length,by simp[hb4],.inr (.inr ⟨a,rfl,by simp[b]⟩)⟩
  clear g3 hb9 g2 hb2 g4 g5 hb86 hb7 hb4 hb71 hW;rintro i st hi ⟨g3,hb9,g2,hb2,g4,g6,hb86,hb7,W,hb4,hW⟩;have hleO:=zm l A.1 (nn l A.2) i;by_cases hlt:i<K
  .have hwr:IntKind.i64.wrap ((K:Int)-i-1)=(K:Int)-((i:Int)+1):=by rw[IntKind.wrap_i64];omega
   have hgt:(0:Int)<(K:Int)-i:=by omega
   have hS:fA l A.1 (nn l A.2) (i+1)=((fA l A.1 (nn l A.2) i).1++[EE l (fA l A.1 (nn l A.2) i).2],xL l (nn l (nn l (nn l (nn l (fA l A.1 (nn l A.2) i).2))))):=rfl;generalize fA l A.1 (nn l A.2) (i+1)=S' at *;generalize fA l A.1 (nn l A.2) i=S at *;subst hS;obtain⟨xs,m⟩:=S;simp only at hleO hb9 hW|-;have a1:=lV l m;have a2:=lV l (nn l m);have a3:=lV l (nn l (nn l m));have a4:=lV l (nn l (nn l (nn l m)));have cp:=NK l (nn l (nn l (nn l (nn l m)))) (wr (wr (nx l m 19-9)*32768),wr (wr (nx l (nn l m) 19-9)*32768),wr (wr (nx l (nn l (nn l m)) 5-2)*32768)) (by omega);rcases hW with⟨hxs,hW,hb71⟩|⟨hxs,hW,hb40⟩|⟨hxs,hW,hb71⟩
   .subst hW;subst hxs
    with_reducible repeat' (first|refine Sp.h ?_|((first|refine Wd ?_|refine Ss.h ?_|refine Sc.h (Ks l _ 9 (by decide) (by decide) (by omega)) ?_|refine Sc.h (Ks l _ 2 (by decide) (by decide) (by omega)) ?_|refine Sc.h (NV l _ 4 (by decide) (by omega)) ?_|refine Sc.h (cp) ?_|(refine Sb.h ?_ ?_ ?_<;>(try intro hgd)<;>try exact Xy))<;>simp -implicitDefEqProofs (maxSteps:=2000000) [hP,hN,g3,hb9,g2,hb2,g4,g6,hb86,hb7,hb4,hb71,hwr,hgt]<;>try refine Ya ?_)|refine X2 ?_ ?_|(refine Xd ?_ ?_<;>intro hcd<;>try exact Xx))
    refine⟨hlt,.arr 71 [EE l m].length,by simp[St.kill,bm,aq],.inr (.inr ⟨by simp,rfl,?_⟩)⟩;simp[St.kill,bm,aq]
    all_goals exact⟨rfl,rfl,rfl⟩
   .subst hW
    with_reducible repeat' (first|refine Sp.h ?_|((first|refine Wd ?_|refine Ss.h ?_|refine Sc.h (Ks l _ 9 (by decide) (by decide) (by omega)) ?_|refine Sc.h (Ks l _ 2 (by decide) (by decide) (by omega)) ?_|refine Sc.h (NV l _ 4 (by decide) (by omega)) ?_|refine Sc.h (cp) ?_|(refine Sb.h ?_ ?_ ?_<;>(try intro hgd)<;>try exact Xy))<;>simp -implicitDefEqProofs (maxSteps:=2000000) [hP,hN,g3,hb9,g2,hb2,g4,g6,hb86,hb7,hb4,hb40,hwr,hgt,show(xs.length+1)*40<=140737488355328 by omega,show xs.length<=9223372036854775806 by omega]<;>try refine Ya ?_)|refine X2 ?_ ?_|(refine Xd ?_ ?_<;>intro hcd<;>try exact Xx))
    refine⟨hlt,.arr 40 (xs++[EE l m]).length,by simp[St.kill,bm,aq],.inr (.inl ⟨by simp,rfl,?_⟩)⟩;simp[St.kill,bm,aq]
    all_goals exact⟨rfl,rfl,rfl⟩
   .subst hW
    with_reducible repeat' (first|refine Sp.h ?_|((first|refine Wd ?_|refine Ss.h ?_|refine Sc.h (Ks l _ 9 (by decide) (by decide) (by omega)) ?_|refine Sc.h (Ks l _ 2 (by decide) (by decide) (by omega)) ?_|refine Sc.h (NV l _ 4 (by decide) (by omega)) ?_|refine Sc.h (cp) ?_|(refine Sb.h ?_ ?_ ?_<;>(try intro hgd)<;>try exact Xy))<;>simp -implicitDefEqProofs (maxSteps:=2000000) [hP,hN,g3,hb9,g2,hb2,g4,g6,hb86,hb7,hb4,hb71,hwr,hgt,show(xs.length+1)*40<=140737488355328 by omega,show xs.length<=9223372036854775806 by omega]<;>try refine Ya ?_)|refine X2 ?_ ?_|(refine Xd ?_ ?_<;>intro hcd<;>try exact Xx))
    refine⟨hlt,.arr 71 (xs++[EE l m]).length,by simp[St.kill,bm,aq],.inr (.inr ⟨by simp,rfl,?_⟩)⟩;simp[St.kill,bm,aq]
    all_goals exact⟨rfl,rfl,rfl⟩
  .have hir:i=K:=by omega
   subst hir;generalize fA l A.1 (nn l A.2) i=S at *;obtain⟨xs,m⟩:=S;simp only at hleO hb9 hW|-;have a1:=lV l m
   have hne:((rN l 0:Nat):Int)≠0:=by omega
   have hxs:xs≠[]:=by
    rintro rfl;have:=hleO.2;simp at this;omega
   by_cases h5:nx l m 5=1
   .have h5':(nx l m 5==1)=true:=by simp[h5]
    rw[if_pos h5];rcases hW with⟨hx,hW,hb71⟩|⟨_,hW,hb40⟩|⟨_,hW,hb71⟩
    .exact absurd hx hxs
    .subst hW
     with_reducible repeat' (first|refine Sp.h ?_|((first|refine Wd ?_|refine Ss.h ?_|refine Sc.h (NV l _ 5 (by decide) (by omega)) ?_|refine Sc.h (NV l _ _ hne (by omega)) ?_|(refine Sb.h ?_ ?_ ?_<;>(try intro hgd)<;>try exact Xy))<;>simp -implicitDefEqProofs (maxSteps:=2000000) [hP,hN,g3,hb9,g2,hb2,g4,g6,hb86,hb7,hb4,hb40,h5,h5',hzJ]<;>try refine Ya ?_)|refine X2 ?_ ?_|(refine Xd ?_ ?_<;>intro hcd<;>try exact Xx))
    .subst hW
     with_reducible repeat' (first|refine Sp.h ?_|((first|refine Wd ?_|refine Ss.h ?_|refine Sc.h (NV l _ 5 (by decide) (by omega)) ?_|refine Sc.h (NV l _ _ hne (by omega)) ?_|(refine Sb.h ?_ ?_ ?_<;>(try intro hgd)<;>try exact Xy))<;>simp -implicitDefEqProofs (maxSteps:=2000000) [hP,hN,g3,hb9,g2,hb2,g4,g6,hb86,hb7,hb4,hb71,h5,h5',hzJ]<;>try refine Ya ?_)|refine X2 ?_ ?_|(refine Xd ?_ ?_<;>intro hcd<;>try exact Xx))
   .have h5':(nx l m 5==1)=false:=by simp[h5]
    rw[if_neg h5];rcases hW with⟨hx,hW,hb71⟩|⟨_,hW,hb40⟩|⟨_,hW,hb71⟩
    .exact absurd hx hxs
    .subst hW
     with_reducible repeat' (first|refine Sp.h ?_|((first|refine Wd ?_|refine Ss.h ?_|refine Sc.h (NV l _ 5 (by decide) (by omega)) ?_|(refine Sb.h ?_ ?_ ?_<;>(try intro hgd)<;>try exact Xy))<;>simp -implicitDefEqProofs (maxSteps:=2000000) [hP,hN,g3,hb9,g2,hb2,g4,g6,hb86,hb7,hb4,hb40,h5,h5',hzJ]<;>try refine Ya ?_)|refine X2 ?_ ?_|(refine Xd ?_ ?_<;>intro hcd<;>try exact Xx))
    .subst hW
     with_reducible repeat' (first|refine Sp.h ?_|((first|refine Wd ?_|refine Ss.h ?_|refine Sc.h (NV l _ 5 (by decide) (by omega)) ?_|(refine Sb.h ?_ ?_ ?_<;>(try intro hgd)<;>try exact Xy))<;>simp -implicitDefEqProofs (maxSteps:=2000000) [hP,hN,g3,hb9,g2,hb2,g4,g6,hb86,hb7,hb4,hb71,h5,h5',hzJ]<;>try refine Ya ?_)|refine X2 ?_ ?_|(refine Xd ?_ ?_<;>intro hcd<;>try exact Xx))
theorem LA(t:Tr)(v:Verd)(ht:TSm t)(hvv:CQ 16777216 v)(hyes:cX t 0 v=true):kC Tryz.prog 44 ([da t,Z 0,k7 v].map .pv) iX (λr h'=>r=.tup [.agg ([iv t.root].map .pv++[.arr 291 ((dE t 0 v).cells.map aW).length]),.pv (B true)]∧h'=eh 76 8 ((dE t 0 v).cells.map aW)):=by
 have hT:dE t 0 v=eI t 0 v:=by unfold dE;rw[if_pos hyes];rfl
 have hparts:=hyes;simp only[cX,Bool.and_eq_true,decide_eq_true_eq]at hparts;obtain⟨⟨⟨⟨⟨hv,_⟩,h0⟩,hlf⟩,h3⟩,hf⟩:=hparts
 have hlt:0<t.cells.length:=by omega
 have hl:=ht.cells;have cb:=I5 t (by omega);rw[hv]at cb
 have hne:t.cells≠[]:=by intro e;rw[e]at hlt;simp at hlt
 have cc:=Gr t ht hne;generalize hc:t.cells[0]=c at *
 have hci:t.cells[0]?=some c:=by rw[List.getElem?_eq_getElem hlt,hc]
 have hlf:cO c=true:=by simpa[dZ,hci]using hlf
 have h3:c.v.kind=0:=by simpa[zy,hci]using h3
 have cl:=N4 c;have cf:=N5 v;have cv:=N6 v hvv;rw[hlf]at cl;rw[hf]at cf
 have h3':(c.v.kind !=0)=false:=by simp[h3]
 have hcl:=wh hlf
 have q1:c.joint=-1:=by rw[hcl];rfl
 have q2:c.low=-1:=by rw[hcl];rfl
 have q3:c.high=-1:=by rw[hcl];rfl
 clear hcl
 have hlen:((eI t 0 v).cells.map aW).length=t.cells.length:=by simp[eI]
 rw[hT,hlen]
 have hrow:(t.cells.map aW).set 0 (aW (aP v))=(eI t 0 v).cells.map aW:=by simp[eI,List.map_set]
 clear hyes ht hvv hl
 have hlt2:¬(t.cells.length:Int)<=0:=by omega
 refine B8 Tryz.func44 xW ?_;intro C hP hN;simp only[Tryz.f44]at hN|-
 with_reducible iterate 7 any_goals (first|refine Sp.h ?_|((first|refine Wd ?_|refine Ss.h ?_|refine Sc.h (cc) ?_|(refine Sb.h ?_ ?_ ?_<;>(try intro hgd)<;>try exact Xy))<;>simp -implicitDefEqProofs (maxSteps:=2000000) [hP,hN,pO,iX,hlt,hci,hc,h3']<;>try refine Yc ?_)|refine X2 ?_ ?_|(refine Xd ?_ ?_<;>intro hcd<;>try exact Xx))
 refine D6 10 291 (e:=76) (sz:=8) (fz:=0) (xs:=t.cells.map aW) (by simp[ah,iX]) (by simp[ah,iX]) (by omega) (by omega) ?_
 refine WP.of_st (P:=λst=>st.t 1=.pv (Z 0)∧st.t 3=.ptr 3 0∧st.t 5=.ptr 5 0∧st.t 6=.ptr 6 0∧st.t 7=.ptr 7 0∧st.h 3=some (.box [.pv (iv t.root),.pv (.sl (t.cells.map aW))] true false)∧st.h 5=some (.box [.pv (Z v.kind),.pv (bQ v.nor),.pv (Z v.pair),.pv (zs v.left),.pv (zs v.right)] true false)∧st.h 6=some (.box [.pv (iv t.root),.arr 291 t.cells.length] true false)∧st.h 7=some (.box [.pv (B false)] true false)∧st.h 291=some (.row 76 8 (t.cells.map aW) 0)∧∀k,290<=k->k≠291->st.h k=none)
  ⟨⟨by simp[aY,aN,ah],by simp[aY,aN,rk,ah],by simp[aY,aN,rk,ah],by simp[aY,aN,rk,ah],by simp[aY,aN,rk,ah],by simp[aL,bN,aY,aN,rk,ah],by simp[aL,bN,aY,aN,rk,ah],by simp[aL,bN,aY,aN,rk,ah],by simp[aL,bN,aY,aN,rk,ah],by simp[aL,bN,ah],λk h1 h2=>?_⟩,?_⟩
 .simp[aL,ah,iX,h2,show¬k=3 by omega,show¬k=5 by omega,show¬k=6 by omega,show¬k=7 by omega,show¬k=10 by omega]
 rintro st ⟨g1,g3,g5,g6,g7,b3,b5,b6,b7,b291,bhi⟩
 with_reducible repeat' (first|refine Sp.h ?_|((first|refine Wd ?_|refine Ss.h ?_|refine Sc.h (cb) ?_|refine Sc.h (cl) ?_|refine Sc.h (cf) ?_|refine Sc.h (cv) ?_|(refine Sb.h ?_ ?_ ?_<;>(try intro hgd)<;>try exact Xy))<;>simp -implicitDefEqProofs (maxSteps:=2000000) [hP,hN,g1,g3,g5,g6,g7,b3,b5,b6,b7,b291,hlt,hlt2,hne,hci,hc,h3']<;>try refine Yc ?_)|refine X2 ?_ ?_|(refine Xd ?_ ?_<;>intro hcd<;>try exact Xx))
 have hk:291≠6:=by omega
 refine qL (H:=eh 76 8 ((eI t 0 v).cells.map aW)) (r:=.tup [.agg [.pv (iv t.root),.arr 291 t.cells.length],.pv (B true)]) (by simp[kK,jr,g6,g7]) rfl (λk hk=>?_) ⟨λk b hb=>?_,λk b o hb=>?_,λk b hb=>?_,λk cs o f hb=>?_⟩ ⟨rfl,rfl⟩ (λk cs f hk=>by cases hk)
 .simp only[inK,Bool.and_eq_true,decide_eq_true_eq]at hk
  by_cases e:k=291
  .subst e
   simp only[eh,if_true,<-hrow];simp[ah,q1,q2,q3,aP]
  .simp[eh,ah,e,show¬k=6 by omega,show¬k=7 by omega]
   exact bhi k hk.1 e
 .obtain⟨rfl,_⟩:=dn hb;rfl
 .obtain⟨_,rfl⟩:=dn hb;simp[Blk.frz]
 .obtain⟨_,rfl⟩:=dn hb;rfl
 .obtain⟨_,h9⟩:=dn hb;cases h9
set_option maxRecDepth 100000 in
@[simp] theorem Kq:dp Tryz.prog 40:=by
 have hf:=Tryz.func40;have nt:=Tryz.ntmps40;have rs:=Tryz.results40;exact wY
theorem LC(sc:Sce)(t:Tr)(c:Cel)(hs:ScL sc)(ht:TSm t)(h0:eu sc=0)(hb:iK t 0=true)(hi:kX sc.js sc.ms (fP t 0)=true)(hc:t.cells[0]?=some c)(hbl:(fP t 0).length<=9223372036854775807)(hnl:c.v.nor.length<=9223372036854775807)
 (hvv:CQ 16777216 (dN (eS sc (fP t 0) c.v.nor)))(hyes:cX t 0 (dN (eS sc (fP t 0) c.v.nor))=true):
 kC Tryz.prog 19 ([jG sc,da t,Z 0].map .pv) iX (λr h'=>r=.tup [.agg ([iv t.root].map .pv++[.arr 291 ((dE t 0 (dN (eS sc (fP t 0) c.v.nor))).cells.map aW).length]),.pv (B true)]∧h'=eh 76 8 ((dE t 0 (dN (eS sc (fP t 0) c.v.nor))).cells.map aW)):=by
 have cS:=LA t _ ht hvv hyes;have cs:=OO sc hs;have ci:=OQ sc.js sc.ms (fP t 0) hs.js hs.ms;have co:=KG t 0 (by have:=ht.cells;omega);have cB:=wO sc (fP t 0) c.v.nor hs hbl hnl;rw[h0]at cs;rw[hi]at ci;rw[hb]at co;have hlt:0<t.cells.length:=(List.getElem?_eq_some_iff.1 hc).1;have hc':∀h,t.cells[0]'h=c:=λh=>fy hc h
 have hYl:((dE t 0 (dN (eS sc (fP t 0) c.v.nor))).cells.map aW).length=t.cells.length:=by
  unfold dE;rw[if_pos hyes];simp[eI]
 have hlt2:¬(t.cells.length:Int)<=0:=by omega
 have hne:t.cells≠[]:=by intro e;rw[e]at hlt;simp at hlt
 have henc:k7 (dN (eS sc (fP t 0) c.v.nor))=zW (eS sc (fP t 0) c.v.nor):=rfl;rw[henc]at cS;clear henc hyes hvv hi hbl hnl ht;generalize(dE t 0 (dN (eS sc (fP t 0) c.v.nor))).cells.map aW=Y at *;generalize eS sc (fP t 0) c.v.nor=V at *;generalize fP t 0=bx at *;refine B8 Tryz.func19 xW ?_;intro C hP hN;simp only[Tryz.f19]at hN|-
 with_reducible repeat' (first|refine Sp.h ?_|((with_unfolding_all refine WP.drawX (hn:=[]) 12 rfl (by rw[hP];kernel_rfl) (by kernel_rfl) ?_);simp -implicitDefEqProofs (maxSteps:=2000000) [hP,hN,pO,iX,hlt,hlt2,hne,hc,hc'])|((first|refine Wd ?_|refine Ss.h ?_|refine Sc.h (cs) ?_|refine Sc.h (ci) ?_|refine Sc.h (co) ?_|refine Sc.h (cB) ?_|(refine Sb.h ?_ ?_ ?_<;>(try intro hgd)<;>try exact Xy))<;>simp -implicitDefEqProofs (maxSteps:=2000000) [hP,hN,pO,iX,hlt,hlt2,hne,hc,hc']<;>try refine Yc ?_)|refine X2 ?_ ?_|(refine Xd ?_ ?_<;>intro hcd<;>try exact Xx))
 refine⟨_,D5 (f:=.func 44) (xs:=[.tmp 33,.tmp 34,.tmp 44]) (g:=44) (d:=45) rfl rfl rfl (by simp[bX]) (by simp[ah,iX]) rfl (by simp[St.ev]) cS,?_⟩;simp -implicitDefEqProofs (maxSteps:=2000000) [hP,hN,hlt,hc,hc',iX];refine Ya ?_;refine D6 45 291 (e:=76) (sz:=8) (fz:=0) (xs:=Y) (by simp[ah,iX]) (by simp[ah,iX]) (by omega) (by omega) ?_
 refine WP.of_st (P:=λst=>st.t 6=.ptr 6 0∧st.t 7=.ptr 7 0∧st.h 6=some (.box [.pv (iv t.root),.arr 291 Y.length] true false)∧st.h 7=some (.box [.pv (B true)] true false)∧st.h 291=some (.row 76 8 Y 0)∧∀k,290<=k->k≠291->st.h k=none)
  ⟨⟨by simp[aY,aN,rk,ah],by simp[aY,aN,rk,ah],by simp[aL,bN,aY,aN,rk,ah],by simp[aL,bN,aY,aN,rk,ah],by simp[aL,bN,ah],λk h1 h2=>?_⟩,?_⟩
 .simp[aL,ah,iX,h2,show¬k=3 by omega,show¬k=4 by omega,show¬k=6 by omega,show¬k=7 by omega,show¬k=45 by omega]
 rintro st ⟨g6,g7,b6,b7,b291,bhi⟩
 with_reducible repeat' (first|refine Sp.h ?_|((first|refine Wd ?_|refine Ss.h ?_|(refine Sb.h ?_ ?_ ?_<;>(try intro hgd)<;>try exact Xy))<;>simp -implicitDefEqProofs (maxSteps:=2000000) [hP,hN,g6,g7,b6,b7,b291]<;>try refine Yc ?_)|refine X2 ?_ ?_|(refine Xd ?_ ?_<;>intro hcd<;>try exact Xx))
 rw[hYl];refine qL (H:=eh 76 8 Y) (r:=.tup [.agg [.pv (iv t.root),.arr 291 t.cells.length],.pv (B true)]) (by simp[kK,jr,g6,g7,b6,b7,hYl]) rfl (λk hk=>?_) ⟨λk b hb=>?_,λk b o hb=>?_,λk b hb=>?_,λk cs o f hb=>?_⟩ ⟨rfl,rfl⟩ (λk cs f hk=>by cases hk)
 .simp only[inK,Bool.and_eq_true,decide_eq_true_eq]at hk
  by_cases e:k=291
  .subst e;simp[eh,b291]
  .simp[eh,e]
   exact bhi k hk.1 e
 .obtain⟨rfl,_⟩:=dn hb;rfl
 .obtain⟨_,rfl⟩:=dn hb;simp[Blk.frz]
 .obtain⟨_,rfl⟩:=dn hb;rfl
 .obtain⟨_,h9⟩:=dn hb;cases h9
end Go.Ab
