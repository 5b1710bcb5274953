/- The contracts and facts that the laws of this seat need, in one text (K2b, K3, K4, K5, K5b, K6, K7, K8, K9, K11, K10, K11b, K11c, K11d, K11e, K5c, K5d, K5e, K5f, K5g, K12, Ab28, Ab30, Ab31). -/
import Derived.Test.YtdbgcnplnhmjgaaGreatW7
set_option linter.all false
set_option maxRecDepth 10000
set_option maxHeartbeats 16000000
namespace Go.Ab
open IntKind (i64)
open Go.Proofs.Tryz
open Go.Proofs
variable {P:Program}{a a0 a1 a10 a11 a12 a13 a14 a15 a16 a17 a18 a19 a2 a20 a21 a22 a23 a3 a4 a5 a6 a7 a8 a9 b b0 b1 b2 b3 b4 b5 d m t v0 v1 v2 v3 v4 v5 x:Int}{aft:Array Edge}{bet:Int->Int->Bool}{c y:Code}{dst:Option Nat}{f:Nat->Int}{g:Option (Nat×Bool)}{hn:List Nat}{i id k n q:Nat}{js:List J}{o:Oper}{ops:Array Oper}{post pre:List Oper}{w:List Int}{α:Type}{ρ:Operand->AV}{p:α->Bool}{xs:List α}
def mI(i:Nat):Int:=if i%2=0 then 1 else -1
def oe(xs:List Int):Nat->Int
 |0=>0
 |i+1=>oe xs i+mI i*(xs[i]?).getD 0
def fD(xs:List Int):Int:=oe xs xs.length
theorem EN(i:Nat)(x:Int):(mI i*x=x\/mI i*x=-x):=by unfold mI;split<;>simp
theorem Da(i:Nat):mI (i+1)=-mI i:=by unfold mI;split<;>split<;>omega
theorem uv{xs:List Int}(a:∀x∈xs,-1099511627776<=x/\x<=1099511627776):∀i:Nat,-((i:Int)*1099511627776)<=oe xs i/\oe xs i<=(i:Int)*1099511627776
 |0=>by simp[oe]
 |i+1=>by
  have h:=uv a i
  have c:-1099511627776<=(xs[i]?).getD 0/\(xs[i]?).getD 0<=1099511627776:=by
   cases b:xs[i]? with
   |none=>simp
   |some y=>exact a y (Is b)
  have d:=EN i ((xs[i]?).getD 0);simp only[oe];omega
theorem FR(xs:List Int)(k:xs.length<=1000)(c:∀x∈xs,-1099511627776<=x/\x<=1099511627776):bk 344 (zs xs) (Z (fD xs)):=by
 refine Dp func344 λC hP hN=>?_;refine Gz ?_;refine WP.loopN [] xs.length (λi st=>st.t 3=.pv (Z (oe xs i))/\st.t 4=.pv (Z (mI i))/\st.t 7=.pv (zs xs)/\st.t 8=.pv (Z xs.length)/\st.t 9=.pv (Z i)) (by simp[oe,mI]) ?_;rintro i st hi ⟨g3,g4,d,e,f⟩;by_cases a:i<xs.length
 .have m:=am a (by omega)
  have b:xs[i]?=some xs[i]:=an a;have l:=c xs[i] (Ul a);have j:=uv c i;have g:=EN i xs[i];have n:i64.wrap (mI i*xs[i])=mI i*xs[i]:=aa;have o:i64.wrap (oe xs i+mI i*xs[i])=oe xs (i+1):=(aa (by omega) (by omega)).trans (by simp[oe,b])
  have p:i64.wrap (-mI i)=mI (i+1):=by
   rw[Da];unfold mI;split<;>decide
  have q:i64.wrap (0-mI i)=mI (i+1):=by
   rw[Da];unfold mI;split<;>decide
  exact Gy
 .skip
  refine Gz ?_
  all_goals (have:i=xs.length:=by omega
             subst this;rfl)
def bh(n d:Int):Int:=(n+d-1)/d
theorem uw(n d:Int)(hn:0<=n)(b:n<=1099511627776)(hd:1<=d)(a:d<=1099511627776):aO 345 (Z n) (Z d) (Z (bh n d)):=by
 have g:i64.wrap (n+d)=n+d:=aa;have i:i64.wrap (n+d-1)=n+d-1:=aa;have hq:(n+d-1).tdiv d=(n+d-1)/d:=Uk (by omega);have e:0<=(n+d-1)/d:=V8 (by omega) (by omega);have f:(n+d-1)/d<=n+d-1:=WN _ (by omega);have j:i64.wrap ((n+d-1)/d)=(n+d-1)/d:=aa
 have c:d≠0:=by omega
 refine Dp func345 λC hP hN=>?_;refine Gz ?_
 all_goals rfl
def sR(lo hi:Int):Iv:=(max 0 (lo/16384),min 65536 (dM hi 16384))
theorem Mk(lo hi:Int)(h1:-4611686018427387904<=hi)(a:hi<=4611686018427387904):aO 346 (Z lo) (Z hi) (aP (sR lo hi)):=by
 refine Dp func346 λC hP hN=>?_;have b:=@PE;have c:=PD _ h1 a;refine GT trivial ?_
 all_goals simp[sR]
def og(f g:Nat->Int):List Int:=[f 1,bh (g 3) 6,f 5/120,bh (g 7) 5040]
def md(f g:Nat->Int):List Int:=[g 1,f 3/6,bh (g 5) 120,f 7/5040,bh (g 9) 362880]
def rI(f g:Nat->Int):List Int:=[1073741824,bh (g 2) 2,f 4/24,bh (g 6) 720,f 8/40320,bh (g 10) 3628800]
def oV(f g:Nat->Int):List Int:=[1073741824,f 2/2,bh (g 4) 24,f 6/720,bh (g 8) 40320]
def uy(x:Int):Iv:=sR (fD (og (fq x) (ft x))) (fD (md (fq x) (ft x)))
def yr(x:Int):Iv:=sR (fD (rI (fq x) (ft x))) (fD (oV (fq x) (ft x)))
theorem fl{n:Int}(e:0<=n)(h1:n<=1073741824)(hd:1<=d)(a:d<=4000000):0<=bh n d/\bh n d<=1099511627776:=by
 unfold bh;have b:0<=(n+d-1)/d:=V8 (by omega) (by omega);have c:(n+d-1)/d<=n+d-1:=WN _ (by omega);omega
theorem Db(hf:∀j,0<=f j/\f j<=1073741824)(j:Nat)(d:Int):(f j).tdiv d=f j/d:=Uk (hf j).1
theorem rJ(hf:∀j,0<=f j/\f j<=1073741824)(j:Nat)(hd:0<d):0<=f j/d/\f j/d<=1073741824:=by
 have h:=hf j;have a:0<=f j/d:=V8 (by omega) (by omega);have b:f j/d<=f j:=WN _ (by omega);omega
theorem Dc(hf:∀j,0<=f j/\f j<=1073741824)(j:Nat)(hd:0<d):i64.wrap (f j/d)=f j/d:=by
 have:=rJ hf j hd;exact aa (by omega) (by omega)
theorem P5(x:Int)(c:0<=x)(h1:x<=8192):bk 341 (Z x) (aP (uy x)):=by
 have q:=Mj x c h1;have hf:=oS c h1;have a:=oT c h1;show bf _ _ _ _ _ (.pv (aP (sR (fD (og (fq x) (ft x))) (fD (md (fq x) (ft x))))));generalize fq x=f at *;generalize ft x=g at *
 have i:∀y∈og f g,-1099511627776<=y/\y<=1099511627776:=by
  intro y b;have a1:=hf 1;have a2:=fl (d:=6) (a 3).1 (a 3).2 (by decide) (by decide);have a3:=rJ hf 5 (d:=120) (by decide);have a4:=fl (d:=5040) (a 7).1 (a 7).2 (by decide) (by decide);simp only[og,Uq,Uw,UV]at b;rcases b with rfl|rfl|rfl|rfl<;>omega
 have e:∀y∈md f g,-1099511627776<=y/\y<=1099511627776:=by
  intro y b;have a1:=a 1;have a2:=fl (d:=120) (a 5).1 (a 5).2 (by decide) (by decide);have a3:=rJ hf 3 (d:=6) (by decide);have a4:=fl (d:=362880) (a 9).1 (a 9).2 (by decide) (by decide);have a5:=rJ hf 7 (d:=5040) (by decide);simp only[md,Uq,Uw,UV]at b;rcases b with rfl|rfl|rfl|rfl|rfl<;>omega
 have b2:=uv e 5;have b3:-(((5:Nat):Int)*1099511627776)<=fD (md f g)/\fD (md f g)<=((5:Nat):Int)*1099511627776:=b2;have n:bf prog 344 [.pv (.sl [Z (f 1),Z (bh (g 3) 6),Z (f 5/120),Z (bh (g 7) 5040)])] [] [] (.pv (Z (fD (og f g)))):=FR (og f g) (by simp[og]) i;have o:bf prog 344 [.pv (.sl [Z (g 1),Z (f 3/6),Z (bh (g 5) 120),Z (f 7/5040),Z (bh (g 9) 362880)])] [] [] (.pv (Z (fD (md f g)))):=FR (md f g) (by simp[md]) e;have j:=uw (g 3) 6 (a 3).1 (by have:=a 3;omega) (by decide) (by decide);have l:=uw (g 7) 5040 (a 7).1 (by have:=a 7;omega) (by decide) (by decide);have k:=uw (g 5) 120 (a 5).1 (by have:=a 5;omega) (by decide) (by decide);have m:=uw (g 9) 362880 (a 9).1 (by have:=a 9;omega) (by decide) (by decide);have p:=Mk (fD (og f g)) (fD (md f g)) (by omega) (by omega);generalize fD (og f g)=lo at *;generalize fD (md f g)=hi at *;have t1:=Db hf 5 120;have t2:=Db hf 3 6;have t3:=Db hf 7 5040;have r:=Dc hf 5 (d:=120) (by decide);have s:=Dc hf 3 (d:=6) (by decide);have u:=Dc hf 7 (d:=5040) (by decide);refine Dp func341 λC hP hN=>?_;exact Gy
theorem P6(x:Int)(c:0<=x)(h1:x<=8192):bk 342 (Z x) (aP (yr x)):=by
 have q:=Mj x c h1;have hf:=oS c h1;have a:=oT c h1;show bf _ _ _ _ _ (.pv (aP (sR (fD (rI (fq x) (ft x))) (fD (oV (fq x) (ft x))))));generalize fq x=f at *;generalize ft x=g at *
 have j:∀y∈rI f g,-1099511627776<=y/\y<=1099511627776:=by
  intro y b;have a2:=fl (d:=2) (a 2).1 (a 2).2 (by decide) (by decide);have a3:=rJ hf 4 (d:=24) (by decide);have a4:=fl (d:=720) (a 6).1 (a 6).2 (by decide) (by decide);have a5:=rJ hf 8 (d:=40320) (by decide);have a6:=fl (d:=3628800) (a 10).1 (a 10).2 (by decide) (by decide);simp only[rI,Uq,Uw,UV]at b;rcases b with rfl|rfl|rfl|rfl|rfl|rfl<;>omega
 have e:∀y∈oV f g,-1099511627776<=y/\y<=1099511627776:=by
  intro y b;have a2:=fl (d:=24) (a 4).1 (a 4).2 (by decide) (by decide);have a3:=rJ hf 2 (d:=2) (by decide);have a4:=fl (d:=40320) (a 8).1 (a 8).2 (by decide) (by decide);have a5:=rJ hf 6 (d:=720) (by decide);simp only[oV,Uq,Uw,UV]at b;rcases b with rfl|rfl|rfl|rfl|rfl<;>omega
 have b2:=uv e 5;have b3:-(((5:Nat):Int)*1099511627776)<=fD (oV f g)/\fD (oV f g)<=((5:Nat):Int)*1099511627776:=b2;have n:bf prog 344 [.pv (.sl [Z 1073741824,Z (bh (g 2) 2),Z (f 4/24),Z (bh (g 6) 720),Z (f 8/40320),Z (bh (g 10) 3628800)])] [] [] (.pv (Z (fD (rI f g)))):=FR (rI f g) (by simp[rI]) j;have o:bf prog 344 [.pv (.sl [Z 1073741824,Z (f 2/2),Z (bh (g 4) 24),Z (f 6/720),Z (bh (g 8) 40320)])] [] [] (.pv (Z (fD (oV f g)))):=FR (oV f g) (by simp[oV]) e;have k:=uw (g 2) 2 (a 2).1 (by have:=a 2;omega) (by decide) (by decide);have c6:=uw (g 6) 720 (a 6).1 (by have:=a 6;omega) (by decide) (by decide);have i:=uw (g 10) 3628800 (a 10).1 (by have:=a 10;omega) (by decide) (by decide);have l:=uw (g 4) 24 (a 4).1 (by have:=a 4;omega) (by decide) (by decide);have m:=uw (g 8) 40320 (a 8).1 (by have:=a 8;omega) (by decide) (by decide);have p:=Mk (fD (rI f g)) (fD (oV f g)) (by omega) (by omega);generalize fD (rI f g)=lo at *;generalize fD (oV f g)=hi at *;have t1:=Db hf 4 24;have t2:=Db hf 8 40320;have t3:=Db hf 2 2;have t4:=Db hf 6 720;have r:=Dc hf 4 (d:=24) (by decide);have s:=Dc hf 8 (d:=40320) (by decide);have u:=Dc hf 2 (d:=2) (by decide);have v:=Dc hf 6 (d:=720) (by decide);refine Dp func342 λC hP hN=>?_;exact Gy
def fu(r:Int):Iv:=if r<=8192 then uy r else yr (16384-r)
theorem Ml(r:Int)(b:0<=r)(h1:r<=16384):bk 338 (Z r) (aP (fu r)):=by
 have c:i64.wrap (16384-r)=16384-r:=aa;by_cases h:r<=8192
 .have hf:fu r=uy r:=by simp[fu,h]
  have a:=P5 r b h;rw[hf];generalize uy r=y at *;refine Dp func338 λC hP hN=>?_;exact Gy
 .have hf:fu r=yr (16384-r):=by simp[fu,h]
  have a:=P6 (16384-r) (by omega) (by omega);rw[hf];generalize yr (16384-r)=y at *;refine Dp func338 λC hP hN=>?_;exact Gy
theorem NU(a:Int):zZ .and .i64 a 65535=a%65536:=by
 unfold zZ
 have d:(BitVec.ofInt 64 a &&& BitVec.ofInt 64 65535).toNat=(a%65536).toNat:=by
  rw[BitVec.toNat_and,BitVec.toNat_ofInt,BitVec.toNat_ofInt]
  have c:((65535:Int)%((2^64:Nat):Int)).toNat=2^16-1:=by decide
  rw[c,Nat.and_two_pow_sub_one_eq_mod];have e:0<=a%((2^64:Nat):Int):=U8 _ (by decide);have f:(a%((2^64:Nat):Int))%65536=a%65536:=Int.emod_emod_of_dvd a (by decide);omega
 show i64.wrap ((BitVec.ofInt 64 a &&& BitVec.ofInt 64 65535).toNat:Int)=_;rw[d,IntKind.wrap_i64];have:=U8 a (b:=65536) (by decide);have:=Va a (b:=65536) (by decide);omega
theorem IV(a:Int):bk 337 (Z a) (Z (a%65536)):=by
 refine Dp func337 λC hP hN=>?_;exact GS @NU
def qe(m:Int):Iv:=if m/16384=0 then fu (m%16384)else if m/16384=1 then fu (16384-m%16384)else if m/16384=2 then iJ (fu (m%16384))else iJ (fu (16384-m%16384))
def oW(a:Int):Iv:=qe (a%65536)
theorem Mm(a:Int):bk 332 (Z a) (aP (oW a)):=by
 have l:=IV a;show bf _ _ _ _ _ (.pv (aP (qe (a%65536))));have d:=U8 a (b:=65536) (by decide);have n:=Va a (b:=65536) (by decide);generalize a%65536=m at *;have t1:m.tmod 16384=m%16384:=WE d;have t2:m.tdiv 16384=m/16384:=Uk d;have e:i64.wrap (m/16384)=m/16384:=aa;have f:i64.wrap (m%16384)=m%16384:=aa;have g:i64.wrap (16384-m%16384)=16384-m%16384:=aa;have j:=Ml (m%16384) (by omega) (by omega);have k:=Ml (16384-m%16384) (by omega) (by omega)
 have key:m/16384=0\/m/16384=1\/m/16384=2\/m/16384=3:=by omega
 rcases key with c|c|c|c
 .have hf:qe m=fu (m%16384):=by simp[qe,c]
  rw[hf];generalize fu (m%16384)=y at *;refine Dp func332 λC hP hN=>?_;exact Gy
 .have hf:qe m=fu (16384-m%16384):=by simp[qe,c]
  rw[hf];generalize fu (16384-m%16384)=y at *;refine Dp func332 λC hP hN=>?_;exact Gy
 .have hf:qe m=iJ (fu (m%16384)):=by simp[qe,c]
  rw[hf];generalize fu (m%16384)=y at *;refine Dp func332 λC hP hN=>?_;have i:=@IJ;exact GS (s4 t1 t2 e f g c)
 .have hf:qe m=iJ (fu (16384-m%16384)):=by simp[qe,c]
  rw[hf];generalize fu (16384-m%16384)=y at *;refine Dp func332 λC hP hN=>?_;have i:=@IJ;exact GS (s4 t1 t2 e f g c)
def uz(a:Int):Iv:=oW (a%65536+16384)
theorem P7(a:Int):bk 331 (Z a) (aP (uz a)):=by
 have c:=IV a;show bf _ _ _ _ _ (.pv (aP (oW (a%65536+16384))));have e:=U8 a (b:=65536) (by decide);have f:=Va a (b:=65536) (by decide);generalize a%65536=m at *;have g:i64.wrap (m+16384)=m+16384:=aa;have d:=Mm (m+16384);generalize oW (m+16384)=y at *;refine Dp func331 λC hP hN=>?_;exact Gy
def mJ(a:Iv)(t:Int):Bool:=aw a.1 a.2&&decide (a.1<=a.1+(t-a.1)%65536)&&decide (a.1+(t-a.1)%65536<=a.2)
theorem Mn(t:Int)(h1:-2147483648<=a)(f:a<=2147483648)(g:-2147483648<=t)(i:t<=2147483648):aO 336 (I a b) (Z t) (B (mJ (a,b) t)):=by
 have c:i64.wrap (t-a)=t-a:=aa;have k:=U8 (t-a) (b:=65536) (by decide);have l:=Va (t-a) (b:=65536) (by decide);have d:i64.wrap (a+(t-a)%65536)=a+(t-a)%65536:=aa;have e:=IV (t-a);refine Dp func336 λC hP hN=>?_;have j:=@Ly;refine GT (gA c d) ?_
 all_goals (try simp[mJ])
def jp(a:Iv)(v:Int->Iv)(t b:Int):Iv:=if aw a.1 a.2=false then(0,0)else if 65536<=a.2-a.1 then(-65536,65536)else
 let h:=gR (v a.1) (v a.2)
 let c:=if mJ a t then gR h (pK 65536)else h
 if mJ a b then gR c (pK (-65536))else c
theorem Mo(f:FuncId)(v:Int->Iv)(t u:Int)(hf:∀x,bf prog f [.pv (Z x)] [] [] (.pv (aP (v x))))(s:-2147483648<=t)(j:t<=2147483648)(y:-2147483648<=u)(k:u<=2147483648):zS 330 (I a b) (Fv f) (Z t) (Z u) (aP (jp (a,b) v t u)):=by
 cases c:aw a b with
 |false=>
  have d:jp (a,b) v t u=(0,0):=by simp[jp,c]
  rw[d];refine Dp func330 λC hP hN=>?_;have m:=@jT;exact GS c
 |true=>
  have z:=em.1 c;have n:i64.wrap (b-a)=b-a:=aa;have o:=Mn (a:=a) (b:=b) t (by omega) (by omega) s j;have p:=Mn (a:=a) (b:=b) u (by omega) (by omega) y k;have B:bf prog 275 [.pv (Z 65536)] [] [] (.pv (I 65536 65536)):=Am 65536;have D:bf prog 275 [.pv (Z (-65536))] [] [] (.pv (I (-65536) (-65536))):=Am (-65536);by_cases e:65536<=b-a
  .have d:jp (a,b) v t u=(-65536,65536):=by simp[jp,c,e]
   rw[d];refine Dp func330 λC hP hN=>?_;have m:=@jT;have A:=@vw;exact GS (be c n e)
  .have d:jp (a,b) v t u=(let h:=gR (v a) (v b);let l:=if mJ (a,b) t then gR h (65536,65536)else h;if mJ (a,b) u then gR l (-65536,-65536)else l):=by
    have q:pK 65536=(65536,65536):=by decide
    have r:pK (-65536)=(-65536,-65536):=by decide
    simp[jp,c,e,q,r]
   rw[d];cases g:mJ (a,b) t<;>cases i:mJ (a,b) u<;>rw[g]at o<;>rw[i]at p
   all_goals
    refine Dp func330 λC hP hN=>?_;have m:=@jT;have A:=@vw;have E:=@hf;have F:=@Fo;exact GS (be c n e)
    all_goals (try simp)
def rK(a:Iv):Iv:=jp a oW 16384 49152
def rL(a:Iv):Iv:=jp a uz 0 32768
theorem P8:bk 324 (I a b) (aP (rK (a,b))):=by
 have c:=Mo (a:=a) (b:=b) 332 oW 16384 49152 Mm (by decide) (by decide) (by decide) (by decide);refine Dp func324 λC hP hN=>?_;refine Gz ?_
 all_goals exact⟨rfl,rfl⟩
theorem P9:bk 323 (I a b) (aP (rL (a,b))):=by
 have c:=Mo (a:=a) (b:=b) 331 uz 0 32768 P7 (by decide) (by decide) (by decide) (by decide);refine Dp func323 λC hP hN=>?_;refine Gz ?_
 all_goals exact⟨rfl,rfl⟩
abbrev av:=Iv×Iv×Iv
abbrev oh:=av×av×av
abbrev ol:=oh×av
abbrev V6(x0 x1 x2 x3 x4 x5:Int):PV:=.val (.agg #[.int .i64 x0,.int .i64 x1,.int .i64 x2,.int .i64 x3,.int .i64 x4,.int .i64 x5])
abbrev Dd(x0 x1 x2 x3 x4 x5 j k l m a b c d e f g i:Int):PV:=.val (.agg #[.int .i64 x0,.int .i64 x1,.int .i64 x2,.int .i64 x3,.int .i64 x4,.int .i64 x5,.int .i64 j,.int .i64 k,.int .i64 l,.int .i64 m,.int .i64 a,.int .i64 b,.int .i64 c,.int .i64 d,.int .i64 e,.int .i64 f,.int .i64 g,.int .i64 i])
abbrev xx(x0 x1 x2 x3 x4 x5 p q r s a b c d e f g i j k l m n o:Int):PV:=.val (.agg #[.int .i64 x0,.int .i64 x1,.int .i64 x2,.int .i64 x3,.int .i64 x4,.int .i64 x5,.int .i64 p,.int .i64 q,.int .i64 r,.int .i64 s,.int .i64 a,.int .i64 b,.int .i64 c,.int .i64 d,.int .i64 e,.int .i64 f,.int .i64 g,.int .i64 i,.int .i64 j,.int .i64 k,.int .i64 l,.int .i64 m,.int .i64 n,.int .i64 o])
abbrev bP(v:av):PV:=V6 v.1.1 v.1.2 v.2.1.1 v.2.1.2 v.2.2.1 v.2.2.2
abbrev wO(m:oh):PV:=Dd m.1.1.1 m.1.1.2 m.1.2.1.1 m.1.2.1.2 m.1.2.2.1 m.1.2.2.2 m.2.1.1.1 m.2.1.1.2 m.2.1.2.1.1 m.2.1.2.1.2 m.2.1.2.2.1 m.2.1.2.2.2 m.2.2.1.1 m.2.2.1.2 m.2.2.2.1.1 m.2.2.2.1.2 m.2.2.2.2.1 m.2.2.2.2.2
abbrev cG(p:ol):PV:=xx p.1.1.1.1 p.1.1.1.2 p.1.1.2.1.1 p.1.1.2.1.2 p.1.1.2.2.1 p.1.1.2.2.2 p.1.2.1.1.1 p.1.2.1.1.2 p.1.2.1.2.1.1 p.1.2.1.2.1.2 p.1.2.1.2.2.1 p.1.2.1.2.2.2 p.1.2.2.1.1 p.1.2.2.1.2 p.1.2.2.2.1.1 p.1.2.2.2.1.2 p.1.2.2.2.2.1 p.1.2.2.2.2.2 p.2.1.1 p.2.1.2 p.2.2.1.1 p.2.2.1.2 p.2.2.2.1 p.2.2.2.2
def g3(v:α×α×α):Nat->α
 |0=>v.1
 |1=>v.2.1
 |_=>v.2.2
@[simp] theorem VA(v:α×α×α):g3 v 0=v.1:=rfl
@[simp] theorem VB(v:α×α×α):g3 v 1=v.2.1:=rfl
@[simp] theorem VC(v:α×α×α):g3 v 2=v.2.2:=rfl
def jZ(m v:av):Nat->Iv
 |0=>(0,0)
 |n+1=>f7 (jZ m v n) (fw (g3 m n) (g3 v n))
def rM(a b:av):av:=(f7 a.1 b.1,f7 a.2.1 b.2.1,f7 a.2.2 b.2.2)
def tr(m:oh)(v:av):av:=(jZ m.1 v 3,jZ m.2.1 v 3,jZ m.2.2 v 3)
def vQ(x:Int):Int:=min (max x (-65536)) 65536
def FS(x:Iv):Iv:=(vQ x.1,vQ x.2)
def fT(b:oh)(c:Nat):av:=(g3 b.1 c,g3 b.2.1 c,g3 b.2.2 c)
def tu(a b:oh)(r c:Nat):Iv:=FS (jZ (g3 a r) (fT b c) 3)
def zJ(a b:oh):oh:=((tu a b 0 0,tu a b 0 1,tu a b 0 2),(tu a b 1 0,tu a b 1 1,tu a b 1 2),(tu a b 2 0,tu a b 2 1,tu a b 2 2))
def dZ(v:Int×Int×Int):av:=(pK v.1,pK v.2.1,pK v.2.2)
def mK:oh:=(((65536,65536),(0,0),(0,0)),((0,0),(65536,65536),(0,0)),((0,0),(0,0),(65536,65536)))
def bA:av:=((0,0),(0,0),(0,0))
def fJ(b:Int)(a:Iv):oh:=if aw a.1 a.2 then
 (if b=0 then(((65536,65536),(0,0),(0,0)),((0,0),rL a,iJ (rK a)),((0,0),rK a,rL a))
  else if b=1 then((rL a,(0,0),rK a),((0,0),(65536,65536),(0,0)),(iJ (rK a),(0,0),rL a))
  else if b=2 then((rL a,iJ (rK a),(0,0)),(rK a,rL a,(0,0)),((0,0),(0,0),(65536,65536)))
  else(bA,bA,bA))else(bA,bA,bA)
def d8(v:av):ol:=(mK,v)
def ie(b:Int)(a:Iv):ol:=(fJ b a,bA)
def om(a b:ol):ol:=(zJ a.1 b.1,rM a.2 (tr a.1 b.2))
def iN(p:ol)(v:av):av:=rM p.2 (tr p.1 v)
theorem eF(h:i<=3):i=0\/i=1\/i=2\/i=3:=by omega
def pick(b:Bool)(x:Iv):Iv:=if b then x else(0,0)
@[simp] theorem SX(x:Iv):pick true x=x:=rfl
@[simp] theorem SY(x:Iv):pick false x=(0,0):=rfl
def c6(v:av)(i:Nat):List AV:=[.pv (Z (pick (decide (0<i)) (g3 v 0)).1),.pv (Z (pick (decide (0<i)) (g3 v 0)).2),.pv (Z (pick (decide (1<i)) (g3 v 1)).1),.pv (Z (pick (decide (1<i)) (g3 v 1)).2),.pv (Z (pick (decide (2<i)) (g3 v 2)).1),.pv (Z (pick (decide (2<i)) (g3 v 2)).2)]
theorem IW(x y z:Int):bk 250 (n5 x y z) (bP (dZ (x,y,z))):=by
 have f:=λa=>Am a;refine Dp func250 λC hP hN=>?_;refine Gz ?_;refine WP.loopN [] 3 (λi st=>st.t 1=.ptr 1 0/\st.t 2=.ptr 2 0/\st.t 3=.ptr 3 0/\st.t 5=.pv (Z i)/\st.h 1=some (.box [.pv (Z x),.pv (Z y),.pv (Z z)] true false)/\st.h 2=some (.box (c6 (dZ (x,y,z)) 0) true false)/\st.h 3=some (.box (c6 (dZ (x,y,z)) i) true false)) (by simp[c6]) ?_;rintro i st hi ⟨g1,g2,e,g5,b,c,d⟩;rcases eF hi with rfl|rfl|rfl|rfl
 all_goals (simp[c6,dZ,pK]at g5 b c d)
 all_goals
  have g:=@f;exact GS (zAc g1 g2 e g5 b c d @c6.eq_1 @dZ.eq_1 @pK.eq_1)
theorem Qa:aO 293 (V6 a0 a1 a2 a3 a4 a5) (V6 b0 b1 b2 b3 b4 b5) (bP (rM ((a0,a1),(a2,a3),(a4,a5)) ((b0,b1),(b2,b3),(b4,b5)))):=by
 refine Dp func293 λC hP hN=>?_;refine Gz ?_;refine WP.loopN [] 3 (λi st=>st.t 2=.ptr 2 0/\st.t 3=.ptr 3 0/\st.t 4=.ptr 4 0/\st.t 5=.ptr 5 0/\st.t 7=.pv (Z i)/\st.h 2=some (.box [.pv (Z a0),.pv (Z a1),.pv (Z a2),.pv (Z a3),.pv (Z a4),.pv (Z a5)] true false)/\st.h 3=some (.box [.pv (Z b0),.pv (Z b1),.pv (Z b2),.pv (Z b3),.pv (Z b4),.pv (Z b5)] true false)/\st.h 4=some (.box (c6 bA 0) true false)/\st.h 5=some (.box (c6 (rM ((a0,a1),(a2,a3),(a4,a5)) ((b0,b1),(b2,b3),(b4,b5))) i) true false)) (by simp[c6]) ?_;rintro i st hi ⟨g2,e,g4,g5,f,a,b,c,d⟩;rcases eF hi with rfl|rfl|rfl|rfl
 all_goals (simp[c6,rM]at f a b c d)
 all_goals
  have g:=@Ao;exact GS (zAc g2 e g4 g5 f a b c d (gA @c6.eq_1 @rM.eq_1))
def cI(i:Nat):List AV:=[.pv (Z (if 0<i then 65536 else 0)),.pv (Z (if 0<i then 65536 else 0)),.pv (Z 0),.pv (Z 0),.pv (Z 0),.pv (Z 0),.pv (Z 0),.pv (Z 0),.pv (Z (if 1<i then 65536 else 0)),.pv (Z (if 1<i then 65536 else 0)),.pv (Z 0),.pv (Z 0),.pv (Z 0),.pv (Z 0),.pv (Z 0),.pv (Z 0),.pv (Z (if 2<i then 65536 else 0)),.pv (Z (if 2<i then 65536 else 0))]
theorem Qb:Bs 274 (wO mK):=by
 have d:bf prog 275 [.pv (Z 65536)] [] [] (.pv (I 65536 65536)):=Am 65536;refine Dp func274 λC hP hN=>?_;refine Gz ?_;refine WP.loopN [] 3 (λi st=>st.t 0=.ptr 0 0/\st.t 1=.ptr 1 0/\st.t 3=.pv (Z i)/\st.h 0=some (.box (cI 0) true false)/\st.h 1=some (.box (cI i) true false)) (by simp[cI]) ?_;rintro i st hi ⟨g0,g1,a,b,c⟩;rcases eF hi with rfl|rfl|rfl|rfl
 all_goals (simp[cI]at a b c)
 all_goals
  exact GS (zAa g0 g1 a b c @cI.eq_1 @mK.eq_1)
def rN(m:oh)(v:av)(i k r:Nat):Iv:=if r<i then jZ (g3 m r) v 3 else if r=i then jZ (g3 m r) v k else(0,0)
def cA(m:oh)(v:av)(i k:Nat):List AV:=[.pv (Z (rN m v i k 0).1),.pv (Z (rN m v i k 0).2),.pv (Z (rN m v i k 1).1),.pv (Z (rN m v i k 1).2),.pv (Z (rN m v i k 2).1),.pv (Z (rN m v i k 2).2)]
theorem Qc:aO 294 (Dd a0 a1 a2 a3 a4 a5 a6 a7 a8 a9 a10 a11 a12 a13 a14 a15 a16 a17) (V6 v0 v1 v2 v3 v4 v5) (bP (tr (((a0,a1),(a2,a3),(a4,a5)),((a6,a7),(a8,a9),(a10,a11)),((a12,a13),(a14,a15),(a16,a17))) ((v0,v1),(v2,v3),(v4,v5)))):=by
 obtain⟨A,o⟩:∃A:oh,A=(((a0,a1),(a2,a3),(a4,a5)),((a6,a7),(a8,a9),(a10,a11)),((a12,a13),(a14,a15),(a16,a17))):=⟨_,rfl⟩;obtain⟨D,p⟩:∃D:av,D=((v0,v1),(v2,v3),(v4,v5)):=⟨_,rfl⟩;obtain⟨r,e⟩:∃l:List AV,l=[a0,a1,a2,a3,a4,a5,a6,a7,a8,a9,a10,a11,a12,a13,a14,a15,a16,a17].map λx=>.pv (Z x):=⟨_,rfl⟩;simp only[U7,WB]at e;rw[<-o,<-p];refine Dp func294 λC hP hN=>?_
 with_reducible repeat' (first|refine Sp.h ?_|((first|refine Wd ?_|refine Ss.h ?_|(refine Sb.h ?_ ?_ ?_<;>(try intro hgd)<;>try exact Xy))<;>simp -implicitDefEqProofs (maxSteps:=2000000) [hP,hN,e]<;>try refine Ya ?_)|refine X2 ?_ ?_|(refine Xd ?_ ?_<;>intro hcd<;>try exact Xx))
 refine WP.loopN [] 3 (λi st=>st.t 2=.ptr 2 0/\st.t 3=.ptr 3 0/\st.t 4=.ptr 4 0/\st.t 5=.ptr 5 0/\st.h 2=some (.box r true false)/\st.h 3=some (.box [.pv (Z v0),.pv (Z v1),.pv (Z v2),.pv (Z v3),.pv (Z v4),.pv (Z v5)] true false)/\st.h 4=some (.box (cA A D 0 0) true false)/\st.t 8=.pv (Z i)/\st.h 5=some (.box (cA A D i 0) true false)) (by simp[cA,rN,jZ,e]) ?_;rintro i st hi ⟨g2,f,g4,g5,a,g,b,m,c⟩;rw[e]at a;by_cases q:i=3
 .simp[cA,rN,q]at m b c
  with_reducible repeat' (first|refine Sp.h ?_|((first|refine Wd ?_|refine Ss.h ?_|(refine Sb.h ?_ ?_ ?_<;>(try intro hgd)<;>try exact Xy))<;>simp -implicitDefEqProofs (maxSteps:=2000000) [hP,hN,g2,f,g4,g5,m,a,g,b,c,tr,q]<;>try refine Ya ?_)|refine X2 ?_ ?_|(refine Xd ?_ ?_<;>intro hcd<;>try exact Xx))
 have d:i=0\/i=1\/i=2:=by omega
 rcases d with d|d|d
 all_goals
  with_reducible repeat' (first|refine Sp.h ?_|((first|refine Wd ?_|refine Ss.h ?_|(refine Sb.h ?_ ?_ ?_<;>(try intro hgd)<;>try exact Xy))<;>simp -implicitDefEqProofs (maxSteps:=2000000) [hP,hN,g2,f,g4,g5,m,a,g,b,c,d]<;>try refine Ya ?_)|refine X2 ?_ ?_|(refine Xd ?_ ?_<;>intro hcd<;>try exact Xx))
  refine WP.loopN [] 3 (λk st=>st.t 2=.ptr 2 0/\st.t 3=.ptr 3 0/\st.t 4=.ptr 4 0/\st.t 5=.ptr 5 0/\st.h 2=some (.box r true false)/\st.h 3=some (.box [.pv (Z v0),.pv (Z v1),.pv (Z v2),.pv (Z v3),.pv (Z v4),.pv (Z v5)] true false)/\st.h 4=some (.box (cA A D 0 0) true false)/\st.t 8=.pv (Z i)/\st.t 6=.pv (Z i)/\st.t 11=.pv (Z k)/\st.h 5=some (.box (cA A D i k) true false)) (by simp[cA,rN,jZ,e,g2,f,g4,g5,m,a,g,b,c,d]) ?_;clear g2 f g4 g5 m a g b c;rintro k st u ⟨g2,f,g4,g5,a,g,b,m,s,n,c⟩;rw[e]at a;rcases eF u with j|j|j|j
  all_goals
   simp[cA,rN,jZ,o,p,d,j]at n b c
   with_reducible repeat' (first|refine Sp.h ?_|((first|refine Wd ?_|refine Ss.h ?_|refine Sc.h (Ma) ?_|refine Sc.h (Ao) ?_|(refine Sb.h ?_ ?_ ?_<;>(try intro hgd)<;>try exact Xy))<;>simp -implicitDefEqProofs (maxSteps:=2000000) [hP,hN,g2,f,g4,g5,s,m,n,a,g,b,c,e,cA,rN,jZ,o,p,d,j]<;>try refine Ya ?_)|refine X2 ?_ ?_|(refine Xd ?_ ?_<;>intro hcd<;>try exact Xx))
theorem Qd(x:Int):bk 297 (Z x) (Z (vQ x)):=by
 refine Dp func297 λC hP hN=>?_
 with_reducible repeat' (first|refine Sp.h ?_|((first|refine Ss.h ?_|(refine Sb.h ?_ ?_ ?_<;>(try intro hgd)<;>try exact Xy))<;>simp -implicitDefEqProofs (maxSteps:=2000000) [hP,hN])|refine X2 ?_ ?_|(refine Xd ?_ ?_<;>intro hcd<;>try exact Xx))
 all_goals (try simp[vQ])
def iZ(a b:oh)(i k r c:Nat):Iv:=if r<i\/(r=i/\c<k)then tu a b r c else(0,0)
def cC(a b:oh)(i k:Nat):List AV:=[.pv (Z (iZ a b i k 0 0).1),.pv (Z (iZ a b i k 0 0).2),.pv (Z (iZ a b i k 0 1).1),.pv (Z (iZ a b i k 0 1).2),.pv (Z (iZ a b i k 0 2).1),.pv (Z (iZ a b i k 0 2).2),.pv (Z (iZ a b i k 1 0).1),.pv (Z (iZ a b i k 1 0).2),.pv (Z (iZ a b i k 1 1).1),.pv (Z (iZ a b i k 1 1).2),.pv (Z (iZ a b i k 1 2).1),.pv (Z (iZ a b i k 1 2).2),.pv (Z (iZ a b i k 2 0).1),.pv (Z (iZ a b i k 2 0).2),.pv (Z (iZ a b i k 2 1).1),.pv (Z (iZ a b i k 2 1).2),.pv (Z (iZ a b i k 2 2).1),.pv (Z (iZ a b i k 2 2).2)]
def sA(a b:List AV)(A B:oh)(st:St):Prop:=st.t 2=.ptr 2 0/\st.t 3=.ptr 3 0/\st.t 4=.ptr 4 0/\st.t 5=.ptr 5 0/\st.h 2=some (.box a true false)/\st.h 3=some (.box b true false)/\st.h 4=some (.box (cC A B 0 0) true false)
theorem Qe{b6 L M N z D E F G H I J:Int}:aO 273 (Dd a0 a1 a2 a3 a4 a5 a6 a7 a8 a9 a10 a11 a12 a13 a14 a15 a16 a17) (Dd b0 b1 b2 b3 b4 b5 b6 L M N z D E F G H I J) (wO (zJ (((a0,a1),(a2,a3),(a4,a5)),((a6,a7),(a8,a9),(a10,a11)),((a12,a13),(a14,a15),(a16,a17))) (((b0,b1),(b2,b3),(b4,b5)),((b6,L),(M,N),(z,D)),((E,F),(G,H),(I,J))))):=by
 obtain⟨A,U⟩:∃A:oh,A=(((a0,a1),(a2,a3),(a4,a5)),((a6,a7),(a8,a9),(a10,a11)),((a12,a13),(a14,a15),(a16,a17))):=⟨_,rfl⟩;obtain⟨B,V⟩:∃B:oh,B=(((b0,b1),(b2,b3),(b4,b5)),((b6,L),(M,N),(z,D)),((E,F),(G,H),(I,J))):=⟨_,rfl⟩;rw[<-U,<-V];obtain⟨P,p⟩:∃l:List AV,l=[a0,a1,a2,a3,a4,a5,a6,a7,a8,a9,a10,a11,a12,a13,a14,a15,a16,a17].map λx=>.pv (Z x):=⟨_,rfl⟩;obtain⟨Q,q⟩:∃l:List AV,l=[b0,b1,b2,b3,b4,b5,b6,L,M,N,z,D,E,F,G,H,I,J].map λx=>.pv (Z x):=⟨_,rfl⟩;simp only[U7,WB]at p q;have hx:∀i k,FS (jZ (g3 A i) (fT B k) 3)=tu A B i k:=λ_ _=>rfl;have d1:∀m v n,jZ m v (n+1)=f7 (jZ m v n) (fw (g3 m n) (g3 v n)):=λ_ _ _=>rfl
 have Y:g3 (g3 A 0) 0=(a0,a1)/\g3 (g3 A 0) 1=(a2,a3)/\g3 (g3 A 0) 2=(a4,a5)/\g3 (g3 A 1) 0=(a6,a7)/\g3 (g3 A 1) 1=(a8,a9)/\g3 (g3 A 1) 2=(a10,a11)/\g3 (g3 A 2) 0=(a12,a13)/\g3 (g3 A 2) 1=(a14,a15)/\g3 (g3 A 2) 2=(a16,a17)/\g3 (fT B 0) 0=(b0,b1)/\g3 (fT B 1) 0=(b2,b3)/\g3 (fT B 2) 0=(b4,b5)/\g3 (fT B 0) 1=(b6,L)/\g3 (fT B 1) 1=(M,N)/\g3 (fT B 2) 1=(z,D)/\g3 (fT B 0) 2=(E,F)/\g3 (fT B 1) 2=(G,H)/\g3 (fT B 2) 2=(I,J):=by
  rw[U,V]
  repeat' (first|rfl|constructor)
 refine Dp func273 λC hP hN=>?_
 with_reducible repeat' (first|refine Sp.h ?_|((first|refine Wd ?_|refine Ss.h ?_|(refine Sb.h ?_ ?_ ?_<;>(try intro hgd)<;>try exact Xy))<;>simp -implicitDefEqProofs (maxSteps:=2000000) [hP,hN,p,q]<;>try refine Ya ?_)|refine X2 ?_ ?_|(refine Xd ?_ ?_<;>intro hcd<;>try exact Xx))
 refine WP.loopN [8] 3 (λi st=>sA P Q A B st/\st.t 10=.pv (Z i)/\st.h 5=some (.box (cC A B i 0) true false)/\st.h 8=none) (by simp[sA,cC,iZ,p,q]) ?_;rintro i st hi ⟨⟨g2,o,g4,g5,a,b,c⟩,g,d,r⟩;rw[p]at a;rw[q]at b;by_cases T:i=3
 .simp[cC,iZ,T]at g c d
  with_reducible repeat' (first|refine Sp.h ?_|((first|refine Wd ?_|refine Ss.h ?_|(refine Sb.h ?_ ?_ ?_<;>(try intro hgd)<;>try exact Xy))<;>simp -implicitDefEqProofs (maxSteps:=2000000) [hP,hN,g2,o,g4,g5,g,a,b,c,d,r,zJ,T]<;>try refine Ya ?_)|refine X2 ?_ ?_|(refine Xd ?_ ?_<;>intro hcd<;>try exact Xx))
 have f:i=0\/i=1\/i=2:=by omega
 rcases f with f|f|f
 all_goals
  with_reducible repeat' (first|refine Sp.h ?_|((first|refine Wd ?_|refine Ss.h ?_|(refine Sb.h ?_ ?_ ?_<;>(try intro hgd)<;>try exact Xy))<;>simp -implicitDefEqProofs (maxSteps:=2000000) [hP,hN,g2,o,g4,g5,g,a,b,c,d,r,f]<;>try refine Ya ?_)|refine X2 ?_ ?_|(refine Xd ?_ ?_<;>intro hcd<;>try exact Xx))
  refine WP.loopN [8] 3 (λk st=>sA P Q A B st/\st.t 10=.pv (Z i)/\st.t 6=.pv (Z i)/\st.t 13=.pv (Z k)/\st.h 5=some (.box (cC A B i k) true false)/\st.h 8=none) (by simp[sA,cC,iZ,p,q,g2,o,g4,g5,g,a,b,c,d,f]) ?_;clear g2 o g4 g5 g a b c d r;rintro k st hk ⟨⟨g2,o,g4,g5,a,b,c⟩,g,K,u,d,r⟩;rw[p]at a;rw[q]at b;by_cases W:k=3
  .simp[cC,iZ,f,W]at u c d
   with_reducible repeat' (first|refine Sp.h ?_|((first|refine Wd ?_|refine Ss.h ?_|(refine Sb.h ?_ ?_ ?_<;>(try intro hgd)<;>try exact Xy))<;>simp -implicitDefEqProofs (maxSteps:=2000000) [hP,hN,g2,o,g4,g5,K,g,u,a,b,c,d,r,sA,p,q,cC,iZ,f,W]<;>try refine Ya ?_)|refine X2 ?_ ?_|(refine Xd ?_ ?_<;>intro hcd<;>try exact Xx))
  have s:k=0\/k=1\/k=2:=by omega
  rcases s with s|s|s
  all_goals
   with_reducible repeat' (first|refine Sp.h ?_|((first|refine Wd ?_|refine Ss.h ?_|(refine Sb.h ?_ ?_ ?_<;>(try intro hgd)<;>try exact Xy))<;>simp -implicitDefEqProofs (maxSteps:=2000000) [hP,hN,g2,o,g4,g5,K,g,u,a,b,c,d,r,f,s]<;>try refine Ya ?_)|refine X2 ?_ ?_|(refine Xd ?_ ?_<;>intro hcd<;>try exact Xx))
   refine WP.loopN [] 3 (λj st=>sA P Q A B st/\st.t 10=.pv (Z i)/\st.t 6=.pv (Z i)/\st.t 13=.pv (Z k)/\st.t 7=.pv (Z k)/\st.t 16=.pv (Z j)/\st.h 5=some (.box (cC A B i k) true false)/\st.t 8=.ptr 8 0/\st.h 8=some (.box [.pv (Z (jZ (g3 A i) (fT B k) j).1),.pv (Z (jZ (g3 A i) (fT B k) j).2)] true false)) (by simp[sA,cC,iZ,jZ,p,q,g2,o,g4,g5,K,g,u,a,b,c,d,f,s]) ?_;clear g2 o g4 g5 K g u a b c d r;rintro j st hj ⟨⟨g2,o,g4,g5,a,b,c⟩,g,K,u,R,O,d,S,r⟩;rw[p]at a;rw[q]at b;by_cases j3:j=3
   .subst j3
    have e:=hx i k;generalize jZ (g3 A i) (fT B k) 3=X at *;simp[cC,iZ,f,s]at c d e
    with_reducible repeat' (first|refine Sp.h ?_|((first|refine Wd ?_|refine Ss.h ?_|refine Sc.h (Qd _) ?_|(refine Sb.h ?_ ?_ ?_<;>(try intro hgd)<;>try exact Xy))<;>simp -implicitDefEqProofs (maxSteps:=2000000) [hP,hN,g2,o,g4,g5,K,R,S,g,u,O,a,b,c,d,r,sA,p,q,cC,iZ,<-e,FS,f,s]<;>try refine Ya ?_)|refine X2 ?_ ?_|(refine Xd ?_ ?_<;>intro hcd<;>try exact Xx))
   have y:j=0\/j=1\/j=2:=by omega
   have e:=d1 (g3 A i) (fT B k) j;generalize jZ (g3 A i) (fT B k) (j+1)=nx at *;generalize jZ (g3 A i) (fT B k) j=X at *;rcases y with y|y|y
   all_goals
    simp only[f,s,y,Y]at e
    with_reducible repeat' (first|refine Sp.h ?_|((first|refine Wd ?_|refine Ss.h ?_|refine Sc.h (Ma) ?_|refine Sc.h (Ao) ?_|(refine Sb.h ?_ ?_ ?_<;>(try intro hgd)<;>try exact Xy))<;>simp -implicitDefEqProofs (maxSteps:=2000000) [hP,hN,g2,o,g4,g5,K,R,S,g,u,O,a,b,c,d,r,e,f,s,y,sA,p,q,cC,iZ]<;>try refine Ya ?_)|refine X2 ?_ ?_|(refine Xd ?_ ?_<;>intro hcd<;>try exact Xx))
@[simp] theorem TU:i64.wrap 0=0:=by decide
theorem Qf(x:Int):aO 319 (Z x) (I a b) (wO (fJ x (a,b))):=by
 have m:bf prog 275 [.pv (Z 65536)] [] [] (.pv (I 65536 65536)):=Am 65536;have n:bf prog 275 [.pv (Z 0)] [] [] (.pv (I 0 0)):=Am 0
 cases c:aw a b with
 |false=>
  have d:fJ x (a,b)=(bA,bA,bA):=by simp[fJ,c]
  rw[d];refine Dp func319 λC hP hN=>?_
  with_reducible repeat' (first|refine Sp.h ?_|((first|refine Ss.h ?_|refine Sc.h (jT _ _) ?_)<;>simp -implicitDefEqProofs [hP,hN,c,bA]))
 |true=>
  have l:=P8 (a:=a) (b:=b);have cc:=P9 (a:=a) (b:=b);generalize hS:rK (a,b)=S at *;generalize e:rL (a,b)=Q at *;have k:=IJ (a:=S.1) (b:=S.2);by_cases f:x=0
  .have d:fJ x (a,b)=(((65536,65536),(0,0),(0,0)),((0,0),Q,iJ S),((0,0),S,Q)):=by simp[fJ,c,f,hS,e]
   rw[d];subst f;refine Dp func319 λC hP hN=>?_;have j:=@jT;exact GS c
  by_cases g:x=1
  .have d:fJ x (a,b)=((Q,(0,0),S),((0,0),(65536,65536),(0,0)),(iJ S,(0,0),Q)):=by simp[fJ,c,g,hS,e]
   rw[d];subst g;refine Dp func319 λC hP hN=>?_;have j:=@jT;exact GS c
  by_cases i:x=2
  .have d:fJ x (a,b)=((Q,iJ S,(0,0)),(S,Q,(0,0)),((0,0),(0,0),(65536,65536))):=by simp[fJ,c,i,hS,e]
   rw[d];subst i;refine Dp func319 λC hP hN=>?_;have j:=@jT;exact GS c
  .have d:fJ x (a,b)=(bA,bA,bA):=by simp[fJ,c,f,g,i]
   rw[d];refine Dp func319 λC hP hN=>?_
   with_reducible repeat' (first|refine Sp.h ?_|((first|refine Wd ?_|refine Ss.h ?_|refine Sc.h (jT _ _) ?_|refine Sc.h (l) ?_|refine Sc.h (cc) ?_|refine Sc.h (k) ?_|refine Sc.h (m) ?_|refine Sc.h (n) ?_|(refine Sb.h ?_ ?_ ?_<;>(try intro hgd)<;>try exact Xy))<;>simp -implicitDefEqProofs [hP,hN,c,f,g,i,bA]<;>try refine Ya ?_)|refine X2 ?_ ?_|(refine Xd ?_ ?_<;>intro hcd<;>try exact Xx))
theorem Mp:Bs 247 (bP bA):=by
 have a:bf prog 250 [.pv (n5 0 0 0)] [] [] (.pv (bP bA)):=IW 0 0 0;refine Dp func247 λC hP hN=>?_;exact Gy
theorem De:bk 246 (V6 v0 v1 v2 v3 v4 v5) (cG (d8 ((v0,v1),(v2,v3),(v4,v5)))):=by
 refine Dp func246 λC hP hN=>?_;have a:=@Qb;refine GT trivial ?_
 all_goals (try simp[d8])
def gV:ol:=(mK,bA)
theorem IX:Bs 194 (cG gV):=by
 have a:bf prog 246 [.pv (bP bA)] [] [] (.pv (cG gV)):=De;refine Dp func194 λC hP hN=>?_;have b:=@Mp;exact GS trivial
theorem Qg(x:Int):aO 307 (Z x) (I a b) (cG (ie x (a,b))):=by
 have d:=Qf (a:=a) (b:=b) x;have c:ie x (a,b)=(fJ x (a,b),bA):=rfl;rw[c];generalize fJ x (a,b)=m at *;refine Dp func307 λC hP hN=>?_;have e:=@Mp;exact GS trivial
abbrev Qh(p:PV):PV:=.fn (.func 292) [] [.rptr p 0]
theorem Mq:bk 272 (xx a0 a1 a2 a3 a4 a5 a6 a7 a8 a9 a10 a11 a12 a13 a14 a15 a16 a17 a18 a19 a20 a21 a22 a23) (Qh (xx a0 a1 a2 a3 a4 a5 a6 a7 a8 a9 a10 a11 a12 a13 a14 a15 a16 a17 a18 a19 a20 a21 a22 a23)):=by
 refine Dp func272 λC hP hN=>?_;exact Gy
theorem Mr:aO 292 (V6 v0 v1 v2 v3 v4 v5) (.rptr (xx a0 a1 a2 a3 a4 a5 a6 a7 a8 a9 a10 a11 a12 a13 a14 a15 a16 a17 a18 a19 a20 a21 a22 a23) 0) (bP (iN ((((a0,a1),(a2,a3),(a4,a5)),((a6,a7),(a8,a9),(a10,a11)),((a12,a13),(a14,a15),(a16,a17))),((a18,a19),(a20,a21),(a22,a23))) ((v0,v1),(v2,v3),(v4,v5)))):=by
 refine Dp func292 λC hP hN=>?_;have a:=@Qc;have b:=@Qa;refine GT trivial ?_
 all_goals (try simp[iN])
theorem Qi:aO 249 (xx a0 a1 a2 a3 a4 a5 a6 a7 a8 a9 a10 a11 a12 a13 a14 a15 a16 a17 a18 a19 a20 a21 a22 a23) (V6 v0 v1 v2 v3 v4 v5) (bP (iN ((((a0,a1),(a2,a3),(a4,a5)),((a6,a7),(a8,a9),(a10,a11)),((a12,a13),(a14,a15),(a16,a17))),((a18,a19),(a20,a21),(a22,a23))) ((v0,v1),(v2,v3),(v4,v5)))):=by
 refine Dp func249 λC hP hN=>?_;have a:=@Mq;have b:=@Mr;exact GS trivial
theorem vR{b6 p q r a b c d e f g i j k l m n o:Int}:aO 245 (xx a0 a1 a2 a3 a4 a5 a6 a7 a8 a9 a10 a11 a12 a13 a14 a15 a16 a17 a18 a19 a20 a21 a22 a23) (xx b0 b1 b2 b3 b4 b5 b6 p q r a b c d e f g i j k l m n o) (cG (om ((((a0,a1),(a2,a3),(a4,a5)),((a6,a7),(a8,a9),(a10,a11)),((a12,a13),(a14,a15),(a16,a17))),((a18,a19),(a20,a21),(a22,a23))) ((((b0,b1),(b2,b3),(b4,b5)),((b6,p),(q,r),(a,b)),((c,d),(e,f),(g,i))),((j,k),(l,m),(n,o))))):=by
 refine Dp func245 λC hP hN=>?_;have s:=@Mq;have u:=@Mr;have v:=@Qe;refine GT trivial ?_
 all_goals (try simp[om,iN])
theorem IY(x:Int):aO 289 (Z x) (I a b) (cG (ie x (a,b))):=by
 have c:=Qg (a:=a) (b:=b) x;generalize ie x (a,b)=m at *;refine Dp func289 λC hP hN=>?_;exact Gy
theorem Qj(x:Int):aO 291 (Z x) (I a b) (cG gV):=by
 refine Dp func291 λC hP hN=>?_;have c:=@IX;exact GS trivial
theorem Qk:aO 290 (Z 0) (I a b) (cG (d8 ((a,b),(0,0),(0,0)))):=by
 have c:=De (v0:=((a,b),(0,0),(0,0)).1.1) (v1:=((a,b),(0,0),(0,0)).1.2) (v2:=((a,b),(0,0),(0,0)).2.1.1) (v3:=((a,b),(0,0),(0,0)).2.1.2) (v4:=((a,b),(0,0),(0,0)).2.2.1) (v5:=((a,b),(0,0),(0,0)).2.2.2);refine Dp func290 λC hP hN=>?_;exact Gy
theorem Ql:aO 290 (Z 1) (I a b) (cG (d8 ((0,0),(a,b),(0,0)))):=by
 have c:=De (v0:=((0,0),(a,b),(0,0)).1.1) (v1:=((0,0),(a,b),(0,0)).1.2) (v2:=((0,0),(a,b),(0,0)).2.1.1) (v3:=((0,0),(a,b),(0,0)).2.1.2) (v4:=((0,0),(a,b),(0,0)).2.2.1) (v5:=((0,0),(a,b),(0,0)).2.2.2);refine Dp func290 λC hP hN=>?_;exact Gy
theorem Qm:aO 290 (Z 2) (I a b) (cG (d8 ((0,0),(0,0),(a,b)))):=by
 have c:=De (v0:=((0,0),(0,0),(a,b)).1.1) (v1:=((0,0),(0,0),(a,b)).1.2) (v2:=((0,0),(0,0),(a,b)).2.1.1) (v3:=((0,0),(0,0),(a,b)).2.1.2) (v4:=((0,0),(0,0),(a,b)).2.2.1) (v5:=((0,0),(0,0),(a,b)).2.2.2);refine Dp func290 λC hP hN=>?_;exact Gy
abbrev Df(f:FuncId)(k:Int):Value:=.func (.func f) #[.int .i64 k] #[]
@[simp] theorem Qn:s5 prog 299 0=some (false,0,1):=by kernel_rfl
theorem Qo:bk 271 (Z 0) (.val (.agg #[Df 291 0])):=by
 refine Dp func271 λC hP hN=>?_;exact Gy
theorem Qp:bk 271 (Z 1) (.val (.agg #[Df 289 0])):=by
 refine Dp func271 λC hP hN=>?_;exact Gy
theorem Qq:bk 271 (Z 2) (.val (.agg #[Df 289 1])):=by
 refine Dp func271 λC hP hN=>?_;exact Gy
theorem Qr:bk 271 (Z 3) (.val (.agg #[Df 289 2])):=by
 refine Dp func271 λC hP hN=>?_;exact Gy
theorem Qs:bk 271 (Z 4) (.val (.agg #[Df 290 0])):=by
 refine Dp func271 λC hP hN=>?_;exact Gy
theorem Qt:bk 271 (Z 5) (.val (.agg #[Df 290 1])):=by
 refine Dp func271 λC hP hN=>?_;exact Gy
theorem Qu:bk 271 (Z 6) (.val (.agg #[Df 290 2])):=by
 refine Dp func271 λC hP hN=>?_;exact Gy
def gg(k:Int)(v:Iv):ol:=if k=1 then ie 0 v else if k=2 then ie 1 v else if k=3 then ie 2 v else if k=4 then d8 (v,(0,0),(0,0))else if k=5 then d8 ((0,0),v,(0,0))else if k=6 then d8 ((0,0),(0,0),v)else gV
def mL(j:J)(v:Iv):ol:=om (d8 (dZ (j.ox,j.oy,j.oz))) (gg j.kind v)
theorem Qv(j:J)(m:0<=j.kind)(h6:j.kind<=6):aO 244 (bR j) (I a b) (cG (mL j (a,b))):=by
 have l:=IW j.ox j.oy j.oz;have k:mL j (a,b)=om (d8 (dZ (j.ox,j.oy,j.oz))) (gg j.kind (a,b)):=rfl;rw[k];generalize dZ (j.ox,j.oy,j.oz)=pv at *;have i:=De (v0:=pv.1.1) (v1:=pv.1.2) (v2:=pv.2.1.1) (v3:=pv.2.1.2) (v4:=pv.2.2.1) (v5:=pv.2.2.2);have i:bf prog 246 [.pv (bP pv)] [] [] (.pv (cG (d8 pv))):=i;generalize d8 pv=sp at *
 have key:j.kind=0\/j.kind=1\/j.kind=2\/j.kind=3\/j.kind=4\/j.kind=5\/j.kind=6:=by omega
 rcases key with c|c|c|c|c|c|c
 .have d:gg j.kind (a,b)=gV:=by simp[gg,c]
  have e:=Qj (a:=a) (b:=b) 0;have f:=Qo;rw[d];generalize gV=mp at *;refine Dp func244 λC hP hN=>?_;have g:=@vR;exact GS c
 .have d:gg j.kind (a,b)=ie 0 (a,b):=by simp[gg,c]
  have e:=IY (a:=a) (b:=b) 0;have f:=Qp;rw[d];generalize ie 0 (a,b)=mp at *;refine Dp func244 λC hP hN=>?_;have g:=@vR;exact GS c
 .have d:gg j.kind (a,b)=ie 1 (a,b):=by simp[gg,c]
  have e:=IY (a:=a) (b:=b) 1;have f:=Qq;rw[d];generalize ie 1 (a,b)=mp at *;refine Dp func244 λC hP hN=>?_;have g:=@vR;exact GS c
 .have d:gg j.kind (a,b)=ie 2 (a,b):=by simp[gg,c]
  have e:=IY (a:=a) (b:=b) 2;have f:=Qr;rw[d];generalize ie 2 (a,b)=mp at *;refine Dp func244 λC hP hN=>?_;have g:=@vR;exact GS c
 .have d:gg j.kind (a,b)=d8 ((a,b),(0,0),(0,0)):=by simp[gg,c]
  have e:=Qk (a:=a) (b:=b);have f:=Qs;rw[d];generalize d8 ((a,b),(0,0),(0,0))=mp at *;refine Dp func244 λC hP hN=>?_;have g:=@vR;exact GS c
 .have d:gg j.kind (a,b)=d8 ((0,0),(a,b),(0,0)):=by simp[gg,c]
  have e:=Ql (a:=a) (b:=b);have f:=Qt;rw[d];generalize d8 ((0,0),(a,b),(0,0))=mp at *;refine Dp func244 λC hP hN=>?_;have g:=@vR;exact GS c
 .have d:gg j.kind (a,b)=d8 ((0,0),(0,0),(a,b)):=by simp[gg,c]
  have e:=Qm (a:=a) (b:=b);have f:=Qu;rw[d];generalize d8 ((0,0),(0,0),(a,b))=mp at *;refine Dp func244 λC hP hN=>?_;have g:=@vR;exact GS c
abbrev Vc:=Int×Int×Int
structure Sh where
 link:Int
 rad:Int
 pts:List Vc
structure Sce where
 js:List J
 ms:List Ms
 shs:List Sh
 sks:List (Int×Int)
variable {A B' l:List Vc}{shs:List Sh}{v:Vc}
abbrev dc(s:Sh):PV:=.agg [Z s.link,Z s.rad,aV s.pts]
abbrev gb(s:Sce):PV:=.agg [.sl (s.js.map bR),.sl (s.ms.map dC),.sl (s.shs.map dc),.sl (s.sks.map aP)]
def aC(m:Int)(v:Vc):Bool:=gt v.1 m&&gt v.2.1 m&&gt v.2.2 m
theorem cD:aC m v=true↔gt v.1 m=true/\gt v.2.1 m=true/\gt v.2.2 m=true:=by
 simp only[aC,An];constructor
 .rintro⟨⟨a,b⟩,c⟩;exact⟨a,b,c⟩
 .rintro⟨a,b,c⟩;exact⟨⟨a,b⟩,c⟩
theorem bm:gt x m=true↔¬x< -m/\¬m<x:=by
 simp only[gt,An,L4];omega
theorem oX(hq:∀k x,k<i->xs[k]?=some x->p x=true)(h:¬i<xs.length):xs.all p=true:=by
 rw[TY];intro x b;obtain⟨k,a⟩:=Uy b;exact hq k x (by have:=(th.1 a).1;omega) a
theorem m9{v:α}(b:xs[i]?=some v)(hq:∀k x,k<i->xs[k]?=some x->p x=true)(hp:p v=true):∀k x,k<i+1->xs[k]?=some x->p x=true:=by
 intro k x c a;by_cases e:k=i
 .subst e;rw[b]at a;injection a with a;subst a;exact hp
 .exact hq k x (by omega) a
def gB(s:Sh):Bool:=decide (1<=s.rad)&&decide (s.rad<=1048576)&&decide (1<=s.pts.length)&&decide (s.pts.length<=8)&&s.pts.all (aC 4194304)
theorem Qw(s:Sh)(U:s.pts.length<=9223372036854775807):bk 248 (dc s) (B (gB s)):=by
 by_cases T:s.rad<1\/1048576<s.rad\/s.pts.length<1\/8<s.pts.length
 .have hf:gB s=false:=by
   cases q:gB s with
   |false=>rfl
   |true=>
    exfalso;unfold gB at q;simp only[An,L4]at q;obtain⟨⟨⟨⟨b1,b2⟩,b3⟩,b4⟩,_⟩:=q;omega
  rw[hf]
  have r:s.rad<1\/1048576<s.rad\/(s.pts.length:Int)<1\/(8:Int)<s.pts.length:=by omega
  rcases r with h|h|h|h
  all_goals
   refine Dp func248 λC hP hN=>?_;exact Gy
 have P:¬s.rad<1:=by omega
 have Q:¬1048576<s.rad:=by omega
 have R:¬(s.pts.length:Int)<1:=by omega
 have S:¬(8:Int)<s.pts.length:=by omega
 have L:¬s.pts.length<1:=by omega
 have M:¬8<s.pts.length:=by omega
 have hf:gB s=s.pts.all (aC 4194304):=by
  have H:decide (1<=s.rad)=true:=by simp;omega
  have I:decide (s.rad<=1048576)=true:=by simp;omega
  have J:decide (1<=s.pts.length)=true:=by simp;omega
  have K:decide (s.pts.length<=8)=true:=by simp;omega
  simp only[gB,H,I,J,K,Un]
 rw[hf];refine Dp func248 λC hP hN=>?_
 cases e:s.pts.all (aC 4194304)with
 |true=>
  refine Gz ?_;refine WP.loopN [4] s.pts.length (λi st=>True/\st.t 28=.pv (aV s.pts)/\st.t 29=.pv (Z s.pts.length)/\st.t 30=.pv (Z i)/\st.h 4=none) (by simp) ?_;rintro i st hi ⟨g1,g,j,f,l⟩;by_cases d:i<s.pts.length
  .have o:=am d (by omega)
   have N:=cD.1 (TY.1 e _ (Ul d));obtain⟨z,A,D⟩:=N;rw[bm]at z A D;generalize m:s.pts[i]=v at *
   have F:s.pts[i]?=some v:=by rw[an d,m]
   refine Gz ?_;refine WP.loopN [] 3 (λk st=>True/\st.t 28=.pv (aV s.pts)/\st.t 29=.pv (Z s.pts.length)/\st.t 30=.pv (Z i)/\st.t 34=.pv (ax v)/\st.t 35=.pv (Z k)) (by simp[g1,g,j,f]) ?_;clear g1 g j f l;rintro k st u ⟨g1,g,j,f,gA,gK⟩;rcases eF u with rfl|rfl|rfl|rfl
   all_goals
    exact Gy
  .skip
   exact Gy
 |false=>
  refine Gz ?_;refine WP.loopN [4] s.pts.length (λi st=>True/\st.t 28=.pv (aV s.pts)/\st.t 29=.pv (Z s.pts.length)/\st.t 30=.pv (Z i)/\st.h 4=none/\∀k x,k<i->s.pts[k]?=some x->aC 4194304 x=true) (by simp) ?_;rintro i st hi ⟨g1,g,j,f,l,hq⟩;by_cases d:i<s.pts.length
  .have o:=am d (by omega)
   generalize m:s.pts[i]=v at *
   have F:s.pts[i]?=some v:=by rw[an d,m]
   have y:=m9 (p:=aC 4194304) F hq;refine Gz ?_;refine WP.loopN [] 3 (λk st=>True/\st.t 28=.pv (aV s.pts)/\st.t 29=.pv (Z s.pts.length)/\st.t 30=.pv (Z i)/\st.t 34=.pv (ax v)/\st.t 35=.pv (Z k)/\(0<k->gt v.1 4194304=true)/\(1<k->gt v.2.1 4194304=true)/\(2<k->gt v.2.2 4194304=true)) (by simp[g1,g,j,f]) ?_;clear g1 g j f l hq;rintro k st u ⟨g1,g,j,f,gA,gK,E,G,O⟩;rcases eF u with rfl|rfl|rfl|rfl
   .skip
    with_reducible repeat' (first|refine Sp.h ?_|((first|refine Ss.h ?_|(refine Sb.h ?_ ?_ ?_<;>(try intro hgd)<;>try exact Xy))<;>simp -implicitDefEqProofs (maxSteps:=2000000) [hP,hN,g1,g,j,f,gA,gK,o])|refine X2 ?_ ?_|(refine Xd ?_ ?_<;>intro hcd<;>try exact Xx))
    all_goals (try (rw[bm];simp only[Uc,L4]at hgd hcd;omega))
   .skip
    with_reducible repeat' (first|refine Sp.h ?_|((first|refine Ss.h ?_|(refine Sb.h ?_ ?_ ?_<;>(try intro hgd)<;>try exact Xy))<;>simp -implicitDefEqProofs (maxSteps:=2000000) [hP,hN,g1,g,j,f,gA,gK,o])|refine X2 ?_ ?_|(refine Xd ?_ ?_<;>intro hcd<;>try exact Xx))
    all_goals (try (exact⟨E (by omega),by rw[bm];simp only[Uc,L4]at hgd hcd;omega⟩))
   .skip
    with_reducible repeat' (first|refine Sp.h ?_|((first|refine Ss.h ?_|(refine Sb.h ?_ ?_ ?_<;>(try intro hgd)<;>try exact Xy))<;>simp -implicitDefEqProofs (maxSteps:=2000000) [hP,hN,g1,g,j,f,gA,gK,o])|refine X2 ?_ ?_|(refine Xd ?_ ?_<;>intro hcd<;>try exact Xx))
    all_goals (try (exact⟨E (by omega),G (by omega),by rw[bm];simp only[Uc,L4]at hgd hcd;omega⟩))
   .have hn:aC 4194304 v=true:=cD.2 ⟨E (by omega),G (by omega),O (by omega)⟩
    have n:=y hn;refine Gz ?_
    all_goals (try exact λk a b c=>n k (a,b,c))
  .have:=oX hq d
   rw[this]at e;cases e
abbrev aH(l:List av):PV:=.sl (l.map bP)
def dO(x:Iv):Bool:=!(decide (x.1< -268435456)||decide (x.2<x.1)||decide (268435456<x.2))
def df(v:av):Bool:=dO v.1&&dO v.2.1&&dO v.2.2
def az(l:List av):Bool:=decide (1<=l.length)&&decide (l.length<=8)&&l.all df
theorem f8{x:Iv}:dO x=true↔¬x.1< -268435456/\¬x.2<x.1/\¬268435456<x.2:=by
 simp only[dO,UD,Ve,Uc];constructor
 .rintro⟨⟨a,b⟩,c⟩;exact⟨a,b,c⟩
 .rintro⟨a,b,c⟩;exact⟨⟨a,b⟩,c⟩
theorem gv{v:av}:df v=true↔dO v.1=true/\dO v.2.1=true/\dO v.2.2=true:=by
 simp only[df,An];constructor
 .rintro⟨⟨a,b⟩,c⟩;exact⟨a,b,c⟩
 .rintro⟨a,b,c⟩;exact⟨⟨a,b⟩,c⟩
theorem uA(xs:List av)(T:xs.length<=9223372036854775807):bk 152 (aH xs) (B (az xs)):=by
 by_cases S:xs.length<1\/8<xs.length
 .have hf:az xs=false:=by
   cases y:az xs with
   |false=>rfl
   |true=>
    exfalso;unfold az at y;simp only[An,L4]at y;obtain⟨⟨b1,b2⟩,_⟩:=y;omega
  rw[hf]
  have z:(xs.length:Int)<1\/(8:Int)<xs.length:=by omega
  rcases z with h|h
  all_goals
   refine Dp func152 λC hP hN=>?_;exact Gy
 .have Q:¬(xs.length:Int)<1:=by omega
  have R:¬(8:Int)<xs.length:=by omega
  have M:¬xs.length<1:=by omega
  have N:¬8<xs.length:=by omega
  have hf:az xs=xs.all df:=by
   have K:decide (1<=xs.length)=true:=by simp;omega
   have L:decide (xs.length<=8)=true:=by simp;omega
   simp only[az,K,L,Un]
  rw[hf];refine Dp func152 λC hP hN=>?_
  cases l:xs.all df with
  |true=>
   refine Gz ?_;refine WP.loopN [4,6] xs.length (λi st=>st.t 15=.pv (aH xs)/\st.t 16=.pv (Z xs.length)/\st.t 17=.pv (Z i)/\st.h 4=none/\st.h 6=none) (by simp) ?_;rintro i st hi ⟨n,o,m,q,g⟩;by_cases j:i<xs.length
   .have u:=am j (by omega)
    have O:=gv.1 (TY.1 l _ (Ul j));obtain⟨E,F,G⟩:=O;rw[f8]at E F G;generalize r:xs[i]=v at *
    have I:xs[i]?=some v:=by rw[an j,r]
    refine Gz ?_;refine WP.loopN [6] 3 (λk st=>st.t 15=.pv (aH xs)/\st.t 16=.pv (Z xs.length)/\st.t 17=.pv (Z i)/\st.t 21=.pv (bP v)/\st.t 22=.pv (Z k)/\st.h 6=none) (by simp[n,o,m,g]) ?_;clear n o m q g;rintro k st A ⟨n,o,m,gA,gK,g⟩;rcases eF A with rfl|rfl|rfl|rfl
    all_goals
     exact Gy
   .skip
    exact Gy
  |false=>
   refine Gz ?_;refine WP.loopN [4,6] xs.length (λi st=>st.t 15=.pv (aH xs)/\st.t 16=.pv (Z xs.length)/\st.t 17=.pv (Z i)/\st.h 4=none/\st.h 6=none/\∀k x,k<i->xs[k]?=some x->df x=true) (by simp) ?_;rintro i st hi ⟨n,o,m,q,g,hq⟩;by_cases j:i<xs.length
   .have u:=am j (by omega)
    generalize r:xs[i]=v at *
    have I:xs[i]?=some v:=by rw[an j,r]
    have D:=m9 (p:=df) I hq;refine Gz ?_;refine WP.loopN [6] 3 (λk st=>st.t 15=.pv (aH xs)/\st.t 16=.pv (Z xs.length)/\st.t 17=.pv (Z i)/\st.t 21=.pv (bP v)/\st.t 22=.pv (Z k)/\st.h 6=none/\(0<k->dO v.1=true)/\(1<k->dO v.2.1=true)/\(2<k->dO v.2.2=true)) (by simp[n,o,m,g]) ?_;clear n o m q hq g;rintro k st A ⟨n,o,m,gA,gK,g,H,J,P⟩;rcases eF A with rfl|rfl|rfl|rfl
    .skip
     with_reducible repeat' (first|refine Sp.h ?_|((first|refine Ss.h ?_|(refine Sb.h ?_ ?_ ?_<;>(try intro hgd)<;>try exact Xy))<;>simp -implicitDefEqProofs (maxSteps:=2000000) [hP,hN,n,o,m,gA,gK,g,u])|refine X2 ?_ ?_|(refine Xd ?_ ?_<;>intro hcd<;>try exact Xx))
     all_goals (try (rw[f8];simp only[Uc,L4]at *;omega))
    .skip
     with_reducible repeat' (first|refine Sp.h ?_|((first|refine Ss.h ?_|(refine Sb.h ?_ ?_ ?_<;>(try intro hgd)<;>try exact Xy))<;>simp -implicitDefEqProofs (maxSteps:=2000000) [hP,hN,n,o,m,gA,gK,g,u])|refine X2 ?_ ?_|(refine Xd ?_ ?_<;>intro hcd<;>try exact Xx))
     all_goals (try (exact⟨H (by omega),by rw[f8];simp only[Uc,L4]at *;omega⟩))
    .skip
     with_reducible repeat' (first|refine Sp.h ?_|((first|refine Ss.h ?_|(refine Sb.h ?_ ?_ ?_<;>(try intro hgd)<;>try exact Xy))<;>simp -implicitDefEqProofs (maxSteps:=2000000) [hP,hN,n,o,m,gA,gK,g,u])|refine X2 ?_ ?_|(refine Xd ?_ ?_<;>intro hcd<;>try exact Xx))
     all_goals (try (exact⟨H (by omega),J (by omega),by rw[f8];simp only[Uc,L4]at *;omega⟩))
    .have hn:df v=true:=gv.2 ⟨H (by omega),J (by omega),P (by omega)⟩
     have s:=D hn;refine Gz ?_
     all_goals (try exact λk a b c d e f=>s k ((a,b),(c,d),(e,f)))
   .have:=oX hq j
    rw[this]at l;cases l
theorem Mt(r:Int):bk 214 (Z r) (B (bu r 0 1048576)):=by
 refine Dp func214 λC hP hN=>?_
 with_reducible repeat' (first|refine Sp.h ?_|((first|refine Ss.h ?_|(refine Sb.h ?_ ?_ ?_<;>(try intro hgd)<;>try exact Xy))<;>simp -implicitDefEqProofs (maxSteps:=2000000) [hP,hN])|refine X2 ?_ ?_|(refine Xd ?_ ?_<;>intro hcd<;>try exact Xx))
 all_goals (first|(simp_all[bu];done)|((try simp_all[bu])<;>(try omega)<;>grind))
theorem Mu(r:Int):bk 197 (Z r) (B (bu r 0 1048576)):=by
 refine Dp func197 λC hP hN=>?_
 with_reducible repeat' (first|refine Sp.h ?_|((first|refine Ss.h ?_|(refine Sb.h ?_ ?_ ?_<;>(try intro hgd)<;>try exact Xy))<;>simp -implicitDefEqProofs (maxSteps:=2000000) [hP,hN])|refine X2 ?_ ?_|(refine Xd ?_ ?_<;>intro hcd<;>try exact Xx))
 all_goals (first|(simp_all[bu];done)|((try simp_all[bu])<;>(try omega)<;>grind))
def mv(x:Iv):Int:=if aw x.1 x.2 then(x.1+x.2)/2 else 0
theorem IZ:bk 137 (I a b) (Z (mv (a,b))):=by
 have h:=Lx a b
 have e:(if aw a b=true then(wr (a+b)).fdiv 2 else 0)=mv (a,b):=by
  unfold mv;split
  .rename_i c
   have c:=em.1 c;rw[aa (by omega) (by omega)];exact Hh (a+b) 2
  .rfl
 rw[e]at h;exact h
def jx(v:av):Vc:=(mv v.1,mv v.2.1,mv v.2.2)
def aE(l:List av):List Vc:=if az l then l.map jx else[]
def cL(n:Nat):Nat:=if n=0 then 0 else Nat.log2 n+1
theorem oY(h:2^k<=n):cL n=k+cL (n/2^k):=by
 have a:0<2^k:=Nat.two_pow_pos k
 have hn:n≠0:=by omega
 have hd:n/2^k≠0:=by
  have:1<=n/2^k:=(Wp a).2 (by omega);omega
 unfold cL;rw[TZ hn,TZ hd];have b:=(Nat.log2_eq_iff hd (k:=Nat.log2 (n/2^k))).1 rfl
 have c:Nat.log2 n=Nat.log2 (n/2^k)+k:=by
  rw[Nat.log2_eq_iff hn];refine⟨?_,?_⟩
  .rw[Nat.pow_add];exact(Wp a).1 b.1
  .have:=(Nat.div_lt_iff_lt_mul a).1 b.2
   rw[show Nat.log2 (n/2^k)+k+1=(Nat.log2 (n/2^k)+1)+k from by omega,Nat.pow_add];exact this
 omega
theorem Mv(n:Nat):n<2^cL n:=by
 unfold cL;split
 .rename_i h;subst h;decide
 .rename_i h;exact((Nat.log2_eq_iff h (k:=Nat.log2 n)).1 rfl).2
theorem oo(h:n<2^k):cL n<=k:=by
 unfold cL;split
 .omega
 .rename_i a
  have:=((Nat.log2_eq_iff a (k:=Nat.log2 n)).1 rfl).1;have b:2^Nat.log2 n<2^k:=Nat.lt_of_le_of_lt this h;have:=(Nat.pow_lt_pow_iff_right (by decide:1<2)).1 b;omega
abbrev U6(n:Int):PV:=.val (.int .u64 n)
def I6:ByteArray:=⟨((List.range 256).map λi=>(cL i).toUInt8).toArray⟩
theorem Dh:∀i,i<256->I6[i]?=some (cL i).toUInt8/\(cL i).toUInt8.toNat=cL i:=by decide +kernel
theorem nE(h:i<256):I6[i]?=some (cL i).toUInt8:=(Dh i h).1
theorem lQ(h:i<256):(cL i).toUInt8.toNat=cL i:=(Dh i h).2
@[simp] theorem S3:i64.wrap 16=16:=by decide
@[simp] theorem S4:i64.wrap 24=24:=by decide
@[simp] theorem S5:i64.wrap 32=32:=by decide
@[simp] theorem S6:i64.wrap 40=40:=by decide
@[simp] theorem S7:i64.wrap 48=48:=by decide
@[simp] theorem S8:i64.wrap 8=8:=by decide
@[simp] theorem S9:i64.wrap 56=56:=by decide
@[simp] theorem TW:IntKind.u64.bits=64:=rfl
theorem yt{m:Nat}(B:Nat)(h:n/B=m):(n:Int).fdiv (B:Int)=(m:Int):=by
 rw[Hh,<-h];exact(Int.natCast_ediv n B).symm
theorem Bf(h:n<256):IntKind.u8.wrap (n:Int)=n:=by
 have e:(n:Int)%256=n:=by omega
 unfold IntKind.wrap;simp[IntKind.signed,IntKind.bits,e]
set_option maxRecDepth 100000 in
theorem QH(n:Nat)(hn:n<18446744073709551616):bk 302 (U6 n) (Z (cL n)):=by
 refine Dp func302 λC hP hN=>?_
 conv in (ByteArray.mk _)=>change I6
 by_cases a7:4294967296<=n
 .have ar:cL n=32+cL (n/4294967296):=oY (n:=n) (k:=32) (by omega)
  have Y:n/4294967296<4294967296:=by omega
  have a2:(n:Int).fdiv 4294967296=((n/4294967296:Nat):Int):=yt 4294967296 rfl;generalize U:n/4294967296=b at *
  have D:(4294967296:Int)<=(n:Int):=by omega
  by_cases L:65536<=b
  .have H:cL b=16+cL (b/65536):=oY (n:=b) (k:=16) (by omega)
   have G:b/65536<65536:=by omega
   have I:(b:Int).fdiv 65536=((b/65536:Nat):Int):=yt 65536 rfl;generalize E:b/65536=a at *
   have o:(65536:Int)<=(b:Int):=by omega
   by_cases F:256<=a
   .have z:cL a=8+cL (a/256):=oY (n:=a) (k:=8) (by omega)
    have y:a/256<256:=by omega
    have A:(a:Int).fdiv 256=((a/256:Nat):Int):=yt 256 rfl;generalize x:a/256=c at *
    have m:(256:Int)<=(a:Int):=by omega
    have s:=nE (i:=c) (by omega);have u:=Bf (n:=c) (by omega);have g:=lQ (i:=c) (by omega);have j:cL c<=8:=oo (by omega);have v:i64.wrap ((56:Int)+(cL c:Int))=56+(cL c:Int):=aa;have l:i64.wrap (cL c:Int)=(cL c:Int):=aa;refine Gz ?_
    all_goals (first|omega|(simp;done)|(simp;omega)|trace_state)
   .have m:¬(256:Int)<=(a:Int):=by omega
    have s:=nE (i:=a) (by omega);have u:=Bf (n:=a) (by omega);have g:=lQ (i:=a) (by omega);have j:cL a<=8:=oo (by omega);have v:i64.wrap ((48:Int)+(cL a:Int))=48+(cL a:Int):=aa;have l:i64.wrap (cL a:Int)=(cL a:Int):=aa;refine Gz ?_
    all_goals (first|omega|(simp;done)|(simp;omega)|trace_state)
  .have o:¬(65536:Int)<=(b:Int):=by omega
   by_cases W:256<=b
   .have P:cL b=8+cL (b/256):=oY (n:=b) (k:=8) (by omega)
    have N:b/256<256:=by omega
    have R:(b:Int).fdiv 256=((b/256:Nat):Int):=yt 256 rfl;generalize K:b/256=f at *
    have r:(256:Int)<=(b:Int):=by omega
    have s:=nE (i:=f) (by omega);have u:=Bf (n:=f) (by omega);have g:=lQ (i:=f) (by omega);have j:cL f<=8:=oo (by omega);have v:i64.wrap ((40:Int)+(cL f:Int))=40+(cL f:Int):=aa;have l:i64.wrap (cL f:Int)=(cL f:Int):=aa;refine Gz ?_
    all_goals (first|omega|(simp;done)|(simp;omega)|trace_state)
   .have r:¬(256:Int)<=(b:Int):=by omega
    have s:=nE (i:=b) (by omega);have u:=Bf (n:=b) (by omega);have g:=lQ (i:=b) (by omega);have j:cL b<=8:=oo (by omega);have v:i64.wrap ((32:Int)+(cL b:Int))=32+(cL b:Int):=aa;have l:i64.wrap (cL b:Int)=(cL b:Int):=aa;exact Gy
    all_goals (first|omega|(simp;done)|(simp;omega)|trace_state)
 .have D:¬(4294967296:Int)<=(n:Int):=by omega
  by_cases a6:65536<=n
  .have ad:cL n=16+cL (n/65536):=oY (n:=n) (k:=16) (by omega)
   have X:n/65536<65536:=by omega
   have a1:(n:Int).fdiv 65536=((n/65536:Nat):Int):=yt 65536 rfl;generalize T:n/65536=d at *
   have B:(65536:Int)<=(n:Int):=by omega
   by_cases V:256<=d
   .have O:cL d=8+cL (d/256):=oY (n:=d) (k:=8) (by omega)
    have M:d/256<256:=by omega
    have Q:(d:Int).fdiv 256=((d/256:Nat):Int):=yt 256 rfl;generalize J:d/256=e at *
    have q:(256:Int)<=(d:Int):=by omega
    have s:=nE (i:=e) (by omega);have u:=Bf (n:=e) (by omega);have g:=lQ (i:=e) (by omega);have j:cL e<=8:=oo (by omega);have v:i64.wrap ((24:Int)+(cL e:Int))=24+(cL e:Int):=aa;have l:i64.wrap (cL e:Int)=(cL e:Int):=aa;refine Gz ?_
    all_goals (first|omega|(simp;done)|(simp;omega)|trace_state)
   .have q:¬(256:Int)<=(d:Int):=by omega
    have s:=nE (i:=d) (by omega);have u:=Bf (n:=d) (by omega);have g:=lQ (i:=d) (by omega);have j:cL d<=8:=oo (by omega);have v:i64.wrap ((16:Int)+(cL d:Int))=16+(cL d:Int):=aa;have l:i64.wrap (cL d:Int)=(cL d:Int):=aa;exact Gy
    all_goals (first|omega|(simp;done)|(simp;omega)|trace_state)
  .have B:¬(65536:Int)<=(n:Int):=by omega
   by_cases g:256<=n
   .have ba:cL n=8+cL (n/256):=oY (n:=n) (k:=8) (by omega)
    have a8:n/256<256:=by omega
    have bb:(n:Int).fdiv 256=((n/256:Nat):Int):=yt 256 rfl;generalize a5:n/256=p at *
    have S:(256:Int)<=(n:Int):=by omega
    have s:=nE (i:=p) (by omega);have u:=Bf (n:=p) (by omega);have g:=lQ (i:=p) (by omega);have j:cL p<=8:=oo (by omega);have v:i64.wrap ((8:Int)+(cL p:Int))=8+(cL p:Int):=aa;have l:i64.wrap (cL p:Int)=(cL p:Int):=aa;exact Gy
    all_goals (first|omega|(simp;done)|(simp;omega)|trace_state)
   .have S:¬(256:Int)<=(n:Int):=by omega
    have s:=nE (i:=n) (by omega);have u:=Bf (n:=n) (by omega);have g:=lQ (i:=n) (by omega);have j:cL n<=8:=oo (by omega);have v:i64.wrap ((0:Int)+(cL n:Int))=0+(cL n:Int):=aa;have l:i64.wrap (cL n:Int)=(cL n:Int):=aa;exact Gy
    all_goals (first|omega|(simp;done)|(simp;omega)|trace_state)
def mU(n:Nat):Nat->Nat->Nat
 |0,r=>r
 |k+1,r=>mU n k (if(r+2^k)*(r+2^k)<=n then r+2^k else r)
theorem uD{n:Nat}:∀(k r:Nat),r*r<=n->n<(r+2^k)*(r+2^k)->mU n k r*mU n k r<=n/\n<(mU n k r+1)*(mU n k r+1)
 |0,r,a,b=>⟨a,by simpa[mU]using b⟩
 |k+1,r,a,b=>by
  simp only[mU];split
  .rename_i h
   refine uD k _ h ?_;rw[Vx,<-Nat.two_mul,<-Nat.pow_succ'];exact b
  .rename_i h
   exact uD k r a (by omega)
def dK(n:Nat):Nat:=mU n 32 0
theorem rS(h:n<18446744073709551616):dK n*dK n<=n/\n<(dK n+1)*(dK n+1):=uD 32 0 (UO _) (by simpa using h)
theorem Bg{a b:Nat}(h1:a*a<=n)(c:n<(a+1)*(a+1))(d:b*b<=n)(e:n<(b+1)*(b+1)):a=b:=by
 rcases VN a b with h|h|h
 .have:=Vj (show a+1<=b from h) (show a+1<=b from h);omega
 .exact h
 .have:=Vj (show b+1<=a from h) (show b+1<=a from h);omega
theorem KW(h:n<18446744073709551616)(c:n<2^k*2^k):mU n k 0=dK n:=by
 have a:=uD (n:=n) k 0 (UO _) (by simpa using c);have b:=rS h;exact Bg a.1 a.2 b.1 b.2
theorem sS(hn:n<4611686018427387904):dK n<2147483648:=by
 have h:=(rS (n:=n) (by omega)).1;rcases Nat.lt_or_ge (dK n) 2147483648 with a|a
 .exact a
 .have:=Vj a a;omega
def iU(n w:Nat):Nat->Nat
 |0=>0
 |i+1=>if(iU n w i+2^(w-i-1))*(iU n w i+2^(w-i-1))<=n then iU n w i+2^(w-i-1)else iU n w i
theorem EQ{n w:Nat}:∀i,i<=w->mU n (w-i) (iU n w i)=mU n w 0
 |0,_=>rfl
 |i+1,h=>by
  rw[<-EQ i (by omega)];obtain⟨m,c⟩:∃m,w-i=m+1:=⟨w-i-1,by omega⟩
  have a:w-(i+1)=m:=by omega
  have b:w-i-1=m:=by omega
  rw[c,a];simp only[iU,mU,b]
theorem yu{n w:Nat}:∀i,i<=w->iU n w i+2^(w-i)<=2^w
 |0,_=>by simp[iU]
 |i+1,h=>by
  have ih:=yu (n:=n) (w:=w) i (by omega);obtain⟨m,c⟩:∃m,w-i=m+1:=⟨w-i-1,by omega⟩
  have a:w-(i+1)=m:=by omega
  have b:w-i-1=m:=by omega
  rw[c,WA]at ih;simp only[iU,a,b];split<;>omega
theorem Hs(h:n<18446744073709551616):IntKind.u64.wrap (n:Int)=n:=by
 have e:(n:Int)%18446744073709551616=n:=by omega
 unfold IntKind.wrap;simp[IntKind.signed,IntKind.bits,e]
theorem QI(n:Nat)(hn:n<4611686018427387904):bk 279 (Z n) (Z (dK n)):=by
 by_cases J:n=0
 .subst J
  have hf:dK 0=0:=by decide +kernel
  rw[hf];refine Dp func279 λC hP hN=>?_;exact Gy
 have cl:=QH n (by omega);have x:=Mv n;have L:cL n<=62:=oo hn
 have o:¬(n:Int)<=0:=by omega
 have B:IntKind.u64.wrap (n:Int)=n:=Hs (by omega);obtain⟨w,U⟩:∃w,w=(cL n+1)/2:=⟨_,rfl⟩
 have s:w<=31:=by omega
 have P:cL n<=2*w:=by omega
 have y:n<2^w*2^w:=by
  rw[<-Nat.pow_add];exact UR x (Nat.pow_le_pow_right (by decide) (by omega))
 have z:=KW (n:=n) (k:=w) (by omega) y
 have A:((cL n:Int)+1).tdiv 2=(w:Int):=by
  rw[Uk (by omega)];omega
 have Q:i64.wrap ((cL n:Int)+1)=(cL n:Int)+1:=aa;have R:i64.wrap (w:Int)=w:=aa;have F:2^w<=2^31:=Nat.pow_le_pow_right (by decide) s
 have S:IntKind.u64.wrap (2^min w 64)=((2^w:Nat):Int):=by
  rw[Nat.min_eq_left (by omega)];have e:((2^w:Nat):Int)=(2:Int)^w:=Int.natCast_pow 2 w;rw[<-e];exact Hs (by omega)
 refine Dp func279 λC hP hN=>?_;refine GT (s4 o B Q R A S) ?_;refine WP.loopN [] w (λi st=>st.t 0=.pv (Z n)/\st.t 16=.pv (Z w)/\st.t 17=.pv (Z i)/\st.t 4=.pv (U6 (iU n w i))/\st.t 5=.pv (U6 ((2^(w-i):Nat):Int))) (by simp[iU]) ?_;rintro i st hi ⟨g0,f,g,g4,g5⟩;by_cases l:i<w
 .have c:(i:Int)<(w:Int):=by omega
  have d:i64.wrap ((i:Int)+1)=(i:Int)+1:=aa;obtain⟨m,M⟩:∃m,w-i=m+1:=⟨w-i-1,by omega⟩
  have D:w-(i+1)=m:=by omega
  have K:w-i-1=m:=by omega
  have b:=yu (n:=n) (w:=w) i hi;rw[M]at g5 b;rw[WA]at b
  have d1:((2^(m+1):Nat):Int).tdiv 2=((2^m:Nat):Int):=by
   rw[Uk (by omega),WA];omega
  have u:iU n w (i+1)=if(iU n w i+2^m)*(iU n w i+2^m)<=n then iU n w i+2^m else iU n w i:=by simp only[iU,K]
  generalize iU n w i=r at *;generalize hq:2^m=q at *;generalize 2^(m+1)=V at *
  have p:r+q<=2^31:=by omega
  have O:(r+q)*(r+q)<=2^31*2^31:=Vj p p;have G:IntKind.u64.wrap (q:Int)=q:=Hs (by omega)
  have H:IntKind.u64.wrap ((r:Int)+(q:Int))=(r:Int)+(q:Int):=by have:=Hs (n:=r+q) (by omega);simpa using this
  have I:IntKind.u64.wrap (((r:Int)+(q:Int))*((r:Int)+(q:Int)))=((r:Int)+(q:Int))*((r:Int)+(q:Int)):=by
   have:=Hs (n:=(r+q)*(r+q)) (by omega);simpa using this
  have E:(((r:Int)+(q:Int))*((r:Int)+(q:Int))<=(n:Int))↔(r+q)*(r+q)<=n:=by
   have e:((r:Int)+(q:Int))*((r:Int)+(q:Int))=(((r+q)*(r+q):Nat):Int):=by simp
   rw[e];omega
  by_cases a:(r+q)*(r+q)<=n
  .have j:=E.2 a
   rw[T6 a]at u;refine GT (zAd g0 f g g4 g5 c d d1 G H I (be j B l)) ?_
   all_goals (simp[u,D,hq];rw[<-hq];exact Int.natCast_pow 2 m)
  .have j:¬((r:Int)+(q:Int))*((r:Int)+(q:Int))<=(n:Int):=λh=>a (E.1 h)
   rw[TZ a]at u;refine GT (zAd g0 f g g4 g5 c d d1 G H I (be j B l)) ?_
   all_goals (simp[u,D,hq];rw[<-hq];exact Int.natCast_pow 2 m)
 .have v:i=w:=by omega
  subst v
  have hf:iU n i i=dK n:=by
   have:=EQ (n:=n) (w:=i) i (T8 _);rw[VW]at this;rw[<-z,<-this];rfl
  have b:=yu (n:=n) (w:=i) i (T8 _);rw[hf]at g4 b;have N:=sS hn;have T:i64.wrap (dK n:Int)=dK n:=aa;exact GS (s4 g0 f g g4 g5 T)
def sD(n:Nat):Nat:=if dK n*dK n<n then dK n+1 else dK n
theorem QJ(n:Nat)(hn:n<4611686018427387904):bk 257 (Z n) (Z (sD n)):=by
 have g:=QI n hn;have i:=sS hn
 have d:sD n=if dK n*dK n<n then dK n+1 else dK n:=rfl
 rw[d];generalize dK n=r at *;have f:r*r<=2147483648*2147483648:=Vj (by omega) (by omega)
 have b:i64.wrap ((r:Int)*(r:Int))=((r*r:Nat):Int):=by
  have e:((r:Int)*(r:Int))=((r*r:Nat):Int):=by simp
  rw[e];exact aa (by omega) (by omega)
 have c:i64.wrap ((r:Int)+1)=(r:Int)+1:=aa;by_cases h:r*r<n
 .have a:((r*r:Nat):Int)<(n:Int):=by omega
  rw[T6 h];refine Dp func257 λC hP hN=>?_;exact Gy
  all_goals (first|done|(simp[b,c,a]at *;done)|(exfalso;simp at *;omega))
 .have a:¬((r*r:Nat):Int)<(n:Int):=by omega
  rw[TZ h];refine Dp func257 λC hP hN=>?_;exact Gy
  all_goals (first|done|(simp[b,c,a]at *;done)|(exfalso;simp at *;omega))
theorem Mw(v:Vc):bk 251 (ax v) (B (aC 16384 v)):=by
 cases a:aC 16384 v with
 |true=>
  have j:=cD.1 a;obtain⟨d,e,f⟩:=j;rw[bm]at d e f;refine Dp func251 λC hP hN=>?_;refine Gz ?_;refine WP.loopN [] 3 (λk st=>st.t 5=.pv (ax v)/\st.t 6=.pv (Z k)) (by simp) ?_;rintro k st c ⟨g5,b⟩;rcases eF c with rfl|rfl|rfl|rfl
  all_goals
   exact Gy
 |false=>
  refine Dp func251 λC hP hN=>?_;refine Gz ?_;refine WP.loopN [] 3 (λk st=>st.t 5=.pv (ax v)/\st.t 6=.pv (Z k)/\(0<k->gt v.1 16384=true)/\(1<k->gt v.2.1 16384=true)/\(2<k->gt v.2.2 16384=true)) (by simp) ?_;rintro k st c ⟨g5,b,g,i,l⟩;rcases eF c with rfl|rfl|rfl|rfl
  .skip
   with_reducible repeat' (first|refine Sp.h ?_|((first|refine Ss.h ?_|(refine Sb.h ?_ ?_ ?_<;>(try intro hgd)<;>try exact Xy))<;>simp -implicitDefEqProofs (maxSteps:=2000000) [hP,hN,g5,b])|refine X2 ?_ ?_|(refine Xd ?_ ?_<;>intro hcd<;>try exact Xx))
   all_goals (try (rw[bm];simp only[Uc,L4]at hgd hcd;omega))
  .skip
   with_reducible repeat' (first|refine Sp.h ?_|((first|refine Ss.h ?_|(refine Sb.h ?_ ?_ ?_<;>(try intro hgd)<;>try exact Xy))<;>simp -implicitDefEqProofs (maxSteps:=2000000) [hP,hN,g5,b])|refine X2 ?_ ?_|(refine Xd ?_ ?_<;>intro hcd<;>try exact Xx))
   all_goals (try (exact⟨g (by omega),by rw[bm];simp only[Uc,L4]at hgd hcd;omega⟩))
  .skip
   with_reducible repeat' (first|refine Sp.h ?_|((first|refine Ss.h ?_|(refine Sb.h ?_ ?_ ?_<;>(try intro hgd)<;>try exact Xy))<;>simp -implicitDefEqProofs (maxSteps:=2000000) [hP,hN,g5,b])|refine X2 ?_ ?_|(refine Xd ?_ ?_<;>intro hcd<;>try exact Xx))
   all_goals (try (exact⟨g (by omega),i (by omega),by rw[bm];simp only[Uc,L4]at hgd hcd;omega⟩))
  .have hn:aC 16384 v=true:=cD.2 ⟨g (by omega),i (by omega),l (by omega)⟩
   rw[hn]at a;cases a
def nz(v:Vc):Bool:=!(v.1==0&&v.2.1==0&&v.2.2==0)
def aQ(v:Vc):Bool:=aC 16384 v&&nz v
theorem Di(v:Vc):bk 198 (ax v) (B (aQ v)):=by
 have c:=Mw v;have a:aQ v=(aC 16384 v&& !(v.1==0&&v.2.1==0&&v.2.2==0)):=rfl;rw[a];generalize aC 16384 v=b at *;refine Dp func198 λC hP hN=>?_;cases b
 all_goals
  exact Gy
def me(v:Vc):Vc:=(v.1.tdiv 2,v.2.1.tdiv 2,v.2.2.tdiv 2)
def kQ:Nat->Vc->Vc
 |0,v=>v
 |n+1,v=>if aC 16384 v then v else kQ n (me v)
def bE(v:Vc):Vc:=kQ 64 v
def fv(b:Int)(v:Vc):Prop:=(-b<=v.1/\v.1<=b)/\(-b<=v.2.1/\v.2.1<=b)/\(-b<=v.2.2/\v.2.2<=b)
theorem FW(h:-(2*b)<=x/\x<=2*b):-b<=x.tdiv 2/\x.tdiv 2<=b:=by
 have c:0<=b:=by omega
 rcases Wk 0 x with a|a
 .rw[Uk a];omega
 .have e:x.tdiv 2=-((-x).tdiv 2):=by rw[Int.neg_tdiv,Int.neg_neg]
  rw[e,Uk (by omega)];omega
theorem Dj(h:fv (2*b) v):fv b (me v):=⟨FW h.1,FW h.2.1,FW h.2.2⟩
theorem Mx(v:Vc)(h:fv 1099511627776 v):bk 206 (ax v) (.tup [ax (bE v),B (nz (bE v))]):=by
 have l:nz (bE v)=!((bE v).1==0&&(bE v).2.1==0&&(bE v).2.2==0):=rfl;rw[l];refine Dp func206 λC hP hN=>?_;refine Gz ?_;refine WP.loopN [] 41 (λi st=>∃w:Vc,st.t 1=.ptr 1 0/\st.t 2=.ptr 2 0/\st.h 1=some (.box [.pv (Z w.1),.pv (Z w.2.1),.pv (Z w.2.2)] true false)/\st.h 2=some (.box [.pv (Z 0),.pv (Z 0),.pv (Z 0)] true false)/\kQ (64-i) w=bE v/\fv ((2^(40-i):Nat):Int) w) (by simp;exact⟨v.1,v.2.1,v.2.2,⟨rfl,rfl,rfl⟩,rfl,h⟩) ?_;rintro i st hi ⟨w,g1,g2,a,c,hn,g⟩;have o:=Mw w;obtain⟨m,A⟩:∃m,64-i=m+1:=⟨64-i-1,by omega⟩;rw[A]at hn;simp only[kQ]at hn
 cases d:aC 16384 w with
 |true=>
  rw[d]at o;rw[T6 d]at hn;subst hn;exact Gy
 |false=>
  rw[d]at o;rw[TZ (by rw[d];simp)]at hn
  have r:i<40:=by
   rcases Nat.lt_or_ge i 40 with p|p
   .exact p
   .have e:40-i=0:=by omega
    rw[e]at g
    have:aC 16384 w=true:=by
     obtain⟨⟨a1,a2⟩,⟨a3,a4⟩,a5,a6⟩:=g;rw[cD,bm,bm,bm];omega
    rw[this]at d;cases d
  have b:fv ((2^(40-(i+1)):Nat):Int) (me w):=by
   obtain⟨q,hq⟩:∃q,40-i=q+1:=⟨40-i-1,by omega⟩
   have s:40-(i+1)=q:=by omega
   rw[hq,WA]at g;rw[s];refine Dj ?_
   have u:((2^q*2:Nat):Int)=2*((2^q:Nat):Int):=by omega
   rw[<-u];exact g
  have j:kQ (63-i) (me w)=bE v:=by rw[show 63-i=m by omega];exact hn
  have f:fv ((2:Int)^(39-i)) (me w):=by
   have e:((2^(40-(i+1)):Nat):Int)=(2:Int)^(39-i):=by rw[show 40-(i+1)=39-i by omega];exact Int.natCast_pow 2 (39-i)
   rw[<-e];exact b
  have z:((2^(40-(i+1)):Nat):Int)<=1099511627776:=by
   have:=Nat.pow_le_pow_right (n:=2) (by decide) (show 40-(i+1)<=40 by omega);omega
  have D:i64.wrap (w.1.tdiv 2)=w.1.tdiv 2:=by have:=b.1;simp only[me]at this;exact aa (by omega) (by omega)
  have E:i64.wrap (w.2.1.tdiv 2)=w.2.1.tdiv 2:=by have:=b.2.1;simp only[me]at this;exact aa (by omega) (by omega)
  have F:i64.wrap (w.2.2.tdiv 2)=w.2.2.tdiv 2:=by have:=b.2.2;simp only[me]at this;exact aa (by omega) (by omega)
  refine Gz ?_;refine WP.loopN [] 3 (λk st=>st.t 1=.ptr 1 0/\st.t 2=.ptr 2 0/\st.h 2=some (.box [.pv (Z 0),.pv (Z 0),.pv (Z 0)] true false)/\st.t 8=.pv (Z k)/\st.h 1=some (.box [.pv (Z (if 0<k then w.1.tdiv 2 else w.1)),.pv (Z (if 1<k then w.2.1.tdiv 2 else w.2.1)),.pv (Z (if 2<k then w.2.2.tdiv 2 else w.2.2))] true false)) (by simp[g1,g2,a,c]) ?_;clear g1 g2 a c;rintro k st y ⟨g1,g2,c,x,a⟩;rcases eF y with rfl|rfl|rfl|rfl
  all_goals (simp at x a)
  .skip
   exact Gy
  .skip
   exact Gy
  .skip
   exact Gy
  .skip
   refine Gz ?_
   all_goals (refine⟨by omega,_,_,_,⟨rfl,rfl,rfl⟩,?_,?_⟩<;>first|exact j|exact f)
def vU(v:Vc):Nat:=(v.1*v.1+v.2.1*v.2.1+v.2.2*v.2.2).toNat
def fX(v:Vc):Int:=if aQ v then(sD (vU v):Int)else 0
theorem My(v:Vc):bk 209 (ax v) (Z (fX v)):=by
 have f:=Di v
 cases c:aQ v with
 |false=>
  have d:fX v=0:=by simp[fX,c]
  rw[d];rw[c]at f;refine Dp func209 λC hP hN=>?_;exact Gy
 |true=>
  have d:fX v=(sD (vU v):Int):=by simp[fX,c]
  rw[d];rw[c]at f
  have g:aC 16384 v=true:=by simp only[aQ,An]at c;exact c.1
  rw[cD,bm,bm,bm]at g;obtain⟨v1,v2,v3⟩:=v;simp only at g;have m1:=bQ (a:=v1) (b:=v1) 16384 16384 (by omega) (by omega) (by omega) (by omega);have m2:=bQ (a:=v2) (b:=v2) 16384 16384 (by omega) (by omega) (by omega) (by omega);have j:=bQ (a:=v3) (b:=v3) 16384 16384 (by omega) (by omega) (by omega) (by omega)
  have k:0<=v1*v1:=by rcases Wk 0 v1 with h|h;exact UZ h h;exact V9 h h
  have l:0<=v2*v2:=by rcases Wk 0 v2 with h|h;exact UZ h h;exact V9 h h
  have m:0<=v3*v3:=by rcases Wk 0 v3 with h|h;exact UZ h h;exact V9 h h
  have e:vU (v1,v2,v3)=(v1*v1+v2*v2+v3*v3).toNat:=rfl;rw[e];have n:i64.wrap (v1*v1)=v1*v1:=aa;have o:i64.wrap (v2*v2)=v2*v2:=aa;have p:i64.wrap (v3*v3)=v3*v3:=aa;have r:i64.wrap (v1*v1+v2*v2)=v1*v1+v2*v2:=aa;have s:i64.wrap (v1*v1+v2*v2+v3*v3)=v1*v1+v2*v2+v3*v3:=aa;have i:=QJ (v1*v1+v2*v2+v3*v3).toNat (by omega);rw[Int.toNat_of_nonneg (by omega)]at i;generalize(v1*v1+v2*v2+v3*v3).toNat=q at *;refine Dp func209 λC hP hN=>?_;exact Gy
def qq(n:Int)(x:Iv):Int:=min (n*x.1) (n*x.2)
def qu(n:Int)(x:Iv):Int:=max (n*x.1) (n*x.2)
def gD(n:Vc)(v:av):Int:=qq n.1 v.1+qq n.2.1 v.2.1+qq n.2.2 v.2.2
def gE(n:Vc)(v:av):Int:=qu n.1 v.1+qu n.2.1 v.2.1+qu n.2.2 v.2.2
theorem FX{x:Iv}(h:dO x=true):(-268435456<=x.1/\x.1<=268435456)/\(-268435456<=x.2/\x.2<=268435456):=by
 rw[f8]at h;omega
theorem wR(h:gt x 16384=true):-16384<=x/\x<=16384:=by rw[bm]at h;omega
theorem oq{n:Int}{x:Iv}(hn:gt n 16384=true)(c:dO x=true):(-4398046511104<=n*x.1/\n*x.1<=4398046511104)/\(-4398046511104<=n*x.2/\n*x.2<=4398046511104)/\(-4398046511104<=qq n x/\qq n x<=4398046511104)/\(-4398046511104<=qu n x/\qu n x<=4398046511104):=by
 have d:=wR hn;have e:=FX c;have m1:=bQ (a:=n) (b:=x.1) 16384 268435456 (by omega) (by omega) (by omega) (by omega);have m2:=bQ (a:=n) (b:=x.2) 16384 268435456 (by omega) (by omega) (by omega) (by omega);unfold qq qu;omega
theorem Mz(n:Vc)(v:av)(hn:aC 16384 n=true)(g:df v=true):aO 311 (ax n) (bP v) (.tup [Z (gD n v),Z (gE n v)]):=by
 rw[cD]at hn;rw[gv]at g;obtain⟨D,E,F⟩:=hn;obtain⟨v1,v2,v3⟩:=g;have a1:=oq D v1;have a2:=oq E v2;have a3:=oq F v3;have i:gD n v=qq n.1 v.1+qq n.2.1 v.2.1+qq n.2.2 v.2.2:=rfl;have j:gE n v=qu n.1 v.1+qu n.2.1 v.2.1+qu n.2.2 v.2.2:=rfl;rw[i,j];have M:i64.wrap (n.1*v.1.1)=n.1*v.1.1:=aa;have N:i64.wrap (n.1*v.1.2)=n.1*v.1.2:=aa;have O:i64.wrap (n.2.1*v.2.1.1)=n.2.1*v.2.1.1:=aa;have P:i64.wrap (n.2.1*v.2.1.2)=n.2.1*v.2.1.2:=aa;have Q:i64.wrap (n.2.2*v.2.2.1)=n.2.2*v.2.2.1:=aa;have R:i64.wrap (n.2.2*v.2.2.2)=n.2.2*v.2.2.2:=aa;have f1:min (n.1*v.1.1) (n.1*v.1.2)=qq n.1 v.1:=rfl;have f2:min (n.2.1*v.2.1.1) (n.2.1*v.2.1.2)=qq n.2.1 v.2.1:=rfl;have f3:min (n.2.2*v.2.2.1) (n.2.2*v.2.2.2)=qq n.2.2 v.2.2:=rfl;have f4:max (n.1*v.1.1) (n.1*v.1.2)=qu n.1 v.1:=rfl;have f5:max (n.2.1*v.2.1.1) (n.2.1*v.2.1.2)=qu n.2.1 v.2.1:=rfl;have f6:max (n.2.2*v.2.2.1) (n.2.2*v.2.2.2)=qu n.2.2 v.2.2:=rfl;generalize u:qq n.1 v.1=a at *;generalize x:qq n.2.1 v.2.1=c at *;generalize y:qq n.2.2 v.2.2=e at *;generalize z:qu n.1 v.1=b at *;generalize A:qu n.2.1 v.2.1=d at *;generalize B:qu n.2.2 v.2.2=f at *;have G:i64.wrap a=a:=aa;have H:i64.wrap (a+c)=a+c:=aa;have I:i64.wrap (a+c+e)=a+c+e:=aa;have J:i64.wrap b=b:=aa;have K:i64.wrap (b+d)=b+d:=aa;have L:i64.wrap (b+d+f)=b+d+f:=aa;refine Dp func311 λC hP hN=>?_;refine Gz ?_;refine WP.loopN [9] 3 (λk st=>st.t 2=.ptr 2 0/\st.h 2=some (.box [.pv (Z n.1),.pv (Z n.2.1),.pv (Z n.2.2)] true false)/\st.t 12=.pv (bP v)/\st.t 13=.pv (Z k)/\st.h 9=none/\st.t 6=.pv (Z (if k=0 then 0 else if k=1 then a else if k=2 then a+c else a+c+e))/\st.t 7=.pv (Z (if k=0 then 0 else if k=1 then b else if k=2 then b+d else b+d+f))) (by simp) ?_;rintro k st s ⟨g2,q,l,m,r,o,p⟩;rcases eF s with rfl|rfl|rfl|rfl
 all_goals (simp at o p)
 all_goals
  exact Gy
abbrev yv(n:Vc):PV:=.rptr (ax n) 0
abbrev QK(n:Vc):PV:=.agg [.fn (.func 310) [] [yv n],.val (.func (.func 312) #[] #[])]
abbrev QL(n:Vc):PV:=.agg [.fn (.func 313) [] [yv n],.val (.func (.func 314) #[] #[])]
theorem QM(n:Vc):bk 299 (ax n) (QK n):=by
 refine Dp func299 λC hP hN=>?_;exact Gy
theorem QN(n:Vc):bk 301 (ax n) (QL n):=by
 refine Dp func301 λC hP hN=>?_;exact Gy
theorem QO(x y:Int):aO 312 (Z x) (Z y) (B (decide (x<y))):=by
 refine Dp func312 λC hP hN=>?_;exact Gy
theorem QP(x y:Int):aO 314 (Z x) (Z y) (B (decide (y<x))):=by
 refine Dp func314 λC hP hN=>?_;exact Gy
theorem QQ(n:Vc)(v:av)(hn:aC 16384 n=true)(c:df v=true):aO 310 (bP v) (yv n) (Z (gD n v)):=by
 have d:=Mz n v hn c;generalize gD n v=a at *;generalize gE n v=b at *;refine Dp func310 λC hP hN=>?_;exact Gy
theorem QR(n:Vc)(v:av)(hn:aC 16384 n=true)(c:df v=true):aO 313 (bP v) (yv n) (Z (gE n v)):=by
 have d:=Mz n v hn c;generalize gD n v=a at *;generalize gE n v=b at *;refine Dp func313 λC hP hN=>?_;exact Gy
def gZ(val:av->Int)(bet:Int->Int->Bool)(xs:List av):Nat->Int×Nat
 |0=>(0,0)
 |i+1=>match xs[i]? with
  |some v=>if i=0\/bet (val v) (gZ val bet xs i).1=true then(val v,i)else gZ val bet xs i
  |none=>gZ val bet xs i
def Ax(val:av->Int)(bet:Int->Int->Bool)(xs:List av):Int×Nat:=gZ val bet xs xs.length
theorem vV{val:av->Int}{xs:List av}{v:av}(h:xs[i]?=some v):gZ val bet xs (i+1)=if i=0\/bet (val v) (gZ val bet xs i).1=true then(val v,i)else gZ val bet xs i:=by simp only[gZ,h]
theorem MA(n:Vc)(f g:FuncId)(val:av->Int)(bet:Int->Int->Bool)(xs:List av)(E:xs.length<=1000)(hf:∀v,df v=true->bf prog f [.pv (bP v),.pv (yv n)] [] [] (.pv (Z (val v))))(z:∀x y,bf prog g [.pv (Z x),.pv (Z y)] [] [] (.pv (B (bet x y))))(hp:xs.all df=true):aO 300 (.agg [.fn (.func f) [] [yv n],.val (.func (.func g) #[] #[])]) (aH xs) (.tup [Z (Ax val bet xs).1,Z (Ax val bet xs).2]):=by
 refine Dp func300 λC hP hN=>?_;refine Gz ?_;refine WP.loopN [9] xs.length (λi st=>st.t 2=.ptr 2 0/\st.h 2=some (.box [.pv (.fn (.func f) [] [yv n]),.pv (.val (.func (.func g) #[] #[]))] true false)/\st.t 11=.pv (aH xs)/\st.t 12=.pv (Z xs.length)/\st.t 13=.pv (Z i)/\st.h 9=none/\st.t 6=.pv (Z (gZ val bet xs i).1)/\st.t 7=.pv (Z (gZ val bet xs i).2)) (by simp[gZ]) ?_;rintro i st hi ⟨g2,r,m,o,p,u,A,D⟩;by_cases c:i<xs.length
 .have F:=am c (by omega)
  generalize e:xs[i]=v at *
  have l:xs[i]?=some v:=by rw[an c,e]
  have cv:=hf v (TY.1 hp v (Is l));have b:=vV (val:=val) (bet:=bet) l;generalize gZ val bet xs i=s at *;generalize gZ val bet xs (i+1)=G at *;have j:=z (val v) s.1;generalize val v=y at *;by_cases k:i=0
  .subst k
   rw[T6 (.inl rfl)]at b;subst b;exact Gy
  .have q:((i:Int)==0)=false:=by simp;omega
   cases a:bet y s.1 with
   |true=>
    rw[a]at j;rw[T6 (.inr a)]at b;subst b;exact Gy
   |false=>
    rw[a]at j;rw[TZ (by rintro(h|h);exact k h;rw[a]at h;cases h)]at b;subst b;exact Gy
 .have d:i=xs.length:=by omega
  subst d;refine Gz ?_
  all_goals exact⟨rfl,rfl⟩
def fa(x y:Int):Bool:=decide (x<y)
def fc(x y:Int):Bool:=decide (y<x)
def gF(n:Vc)(xs:List av):Int×Nat:=Ax (gD n) fa xs
def gG(n:Vc)(xs:List av):Int×Nat:=Ax (gE n) fc xs
theorem bX{xs:List av}(h:az xs=true):xs.all df=true/\xs.length<=8/\1<=xs.length:=by
 simp only[az,An,L4]at h;exact⟨h.2,h.1.2,h.1.1⟩
theorem QS(n:Vc)(xs:List av)(g:xs.length<=9223372036854775807):aO 277 (ax n) (aH xs) (.tup (if aQ n&&az xs then[Z (gF n xs).1,Z (gF n xs).2,B true]else[Z 0,Z 0,B false])):=by
 have d:=Di n;have c:=uA xs g
 cases b:aQ n with
 |false=>
  rw[b]at d;refine Dp func277 λC hP hN=>?_;exact Gy
 |true=>
  rw[b]at d
  cases a:az xs with
  |false=>
   rw[a]at c;refine Dp func277 λC hP hN=>?_;exact Gy
  |true=>
   rw[a]at c
   have hn:aC 16384 n=true:=by simp only[aQ,An]at b;exact b.1
   obtain⟨f,j,_⟩:=bX a;have e:=MA n 310 312 (gD n) fa xs (by omega) (λv i=>QQ n v hn i) QO f;have hL:Ax (gD n) fa xs=gF n xs:=rfl;rw[hL]at e;generalize gF n xs=r at *;refine Dp func277 λC hP hN=>?_;have k:=QM n;exact GS trivial
theorem QT(n:Vc)(xs:List av)(g:xs.length<=9223372036854775807):aO 278 (ax n) (aH xs) (.tup (if aQ n&&az xs then[Z (gG n xs).1,Z (gG n xs).2,B true]else[Z 0,Z 0,B false])):=by
 have d:=Di n;have c:=uA xs g
 cases b:aQ n with
 |false=>
  rw[b]at d;refine Dp func278 λC hP hN=>?_;exact Gy
 |true=>
  rw[b]at d
  cases a:az xs with
  |false=>
   rw[a]at c;refine Dp func278 λC hP hN=>?_;exact Gy
  |true=>
   rw[a]at c
   have hn:aC 16384 n=true:=by simp only[aQ,An]at b;exact b.1
   obtain⟨f,j,_⟩:=bX a;have e:=MA n 313 314 (gE n) fc xs (by omega) (λv i=>QR n v hn i) QP f;have hL:Ax (gE n) fc xs=gG n xs:=rfl;rw[hL]at e;generalize gG n xs=r at *;refine Dp func278 λC hP hN=>?_;have k:=QN n;exact GS trivial
abbrev yw(a:List av)(c:Int)(b:List av)(d:Int):PV:=.agg [aH a,Z c,aH b,Z d]
def pu(a:List av)(r:Int):Bool:=az a&&decide (0<=r)&&decide (r<=1048576)
theorem MB(a:List av)(r:Int)(b:a.length<=9223372036854775807):bk 276 (.agg [aH a,Z r]) (B (pu a r)):=by
 have d:=uA a b;have c:pu a r=(az a&&decide (0<=r)&&decide (r<=1048576)):=rfl;rw[c];generalize az a=p at *;cases p
 all_goals
  refine Dp func276 λC hP hN=>?_;exact Gy
  all_goals (try (simp only[L4,Uc]at hgd;intros;omega))
theorem QU(a:List av)(c:Int)(b:List av)(d:Int):zS 202 (aH a) (Z c) (aH b) (Z d) (yw a c b d):=by
 refine Dp func202 λC hP hN=>?_;exact Gy
theorem yx{val:av->Int}{bet:Int->Int->Bool}{xs:List av}{m:Int}(a:0<=m)(h:∀v∈xs,-m<=val v/\val v<=m):∀i,-m<=(gZ val bet xs i).1/\(gZ val bet xs i).1<=m
 |0=>by simp[gZ];omega
 |i+1=>by
  have ih:=yx (val:=val) (bet:=bet) a h i;simp only[gZ];split
  .rename_i v b
   split
   .exact h v (Is b)
   .exact ih
  .exact ih
theorem ER{n:Vc}{v:av}(hn:aC 16384 n=true)(a:df v=true):(-13194139533312<=gD n v/\gD n v<=13194139533312)/\(-13194139533312<=gE n v/\gE n v<=13194139533312):=by
 rw[cD]at hn;rw[gv]at a;obtain⟨b,c,d⟩:=hn;obtain⟨v1,v2,v3⟩:=a;have a1:=oq b v1;have a2:=oq c v2;have a3:=oq d v3;unfold gD gE;omega
theorem Bh{n:Vc}{xs:List av}(hn:aC 16384 n=true)(b:xs.all df=true):-13194139533312<=(gF n xs).1/\(gF n xs).1<=13194139533312:=
 yx (by decide) (λv a=>(ER hn (TY.1 b v a)).1) _
theorem Bi{n:Vc}{xs:List av}(hn:aC 16384 n=true)(b:xs.all df=true):-13194139533312<=(gG n xs).1/\(gG n xs).1<=13194139533312:=
 yx (by decide) (λv a=>(ER hn (TY.1 b v a)).2) _
theorem Ht(c:aC 16384 v=true):vU v<=805306368:=by
 rw[cD,bm,bm,bm]at c;obtain⟨v1,v2,v3⟩:=v;simp only at c;have m1:=bQ (a:=v1) (b:=v1) 16384 16384 (by omega) (by omega) (by omega) (by omega);have m2:=bQ (a:=v2) (b:=v2) 16384 16384 (by omega) (by omega) (by omega) (by omega);have d:=bQ (a:=v3) (b:=v3) 16384 16384 (by omega) (by omega) (by omega) (by omega);show(v1*v1+v2*v2+v3*v3).toNat<=_;omega
theorem uE(v:Vc):0<=fX v/\fX v<=32768:=by
 unfold fX;split
 .rename_i a
  have b:aC 16384 v=true:=by simp only[aQ,An]at a;exact a.1
  have c:=Ht b;have d:=(rS (n:=vU v) (by omega)).1
  have e:dK (vU v)<32768:=by
   rcases Nat.lt_or_ge (dK (vU v)) 32768 with h|h
   .exact h
   .have:=Vj h h;omega
  unfold sD;split<;>omega
 .omega
def mf(n:Vc)(a:List av)(c:Int)(b:List av)(d:Int):Int:=(gF n a).1-(gG n b).1-fX n*(c+d)
def k9(n:Vc)(a:List av)(c:Int)(b:List av)(d:Int):Bool:=pu a c&&pu b d&&aQ n
theorem QV(n:Vc)(a:List av)(c:Int)(b:List av)(d:Int)(s:a.length<=9223372036854775807)(i:b.length<=9223372036854775807):aO 254 (yw a c b d) (ax n) (.tup (if k9 n a c b d then[Z (mf n a c b d),B true]else[Z 0,B false])):=by
 have p:=MB a c s;have r:=MB b d i;have A:k9 n a c b d=(pu a c&&pu b d&&aQ n):=rfl;rw[A]
 cases j:pu a c with
 |false=>
  rw[j]at p;refine Dp func254 λC hP hN=>?_;exact Gy
 |true=>
  rw[j]at p
  cases k:pu b d with
  |false=>
   rw[k]at r;refine Dp func254 λC hP hN=>?_;exact Gy
  |true=>
   rw[k]at r;simp only[pu,An,L4]at j k;obtain⟨⟨e,v⟩,x⟩:=j;obtain⟨⟨f,y⟩,z⟩:=k;have cl:=QS n a s;have o:=QT n b i;rw[e,VD]at cl;rw[f,VD]at o
   cases m:aQ n with
   |false=>
    rw[m]at cl;simp at cl;refine Dp func254 λC hP hN=>?_;exact Gy
   |true=>
    rw[m]at cl o;simp at cl o
    have hn:aC 16384 n=true:=by simp only[aQ,An]at m;exact m.1
    have E:=Bh hn (bX e).1;have F:=Bi hn (bX f).1;have G:=uE n;have D:=My n;have u:mf n a c b d=(gF n a).1-(gG n b).1-fX n*(c+d):=rfl;rw[u];generalize gF n a=l at *;generalize gG n b=g at *;generalize fX n=q at *;have m1:=bQ (a:=q) (b:=c+d) 32768 2097152 (by omega) (by omega) (by omega) (by omega);have H:i64.wrap (c+d)=c+d:=aa;have I:i64.wrap (q*(c+d))=q*(c+d):=aa;have J:i64.wrap (l.1-g.1)=l.1-g.1:=aa;have K:i64.wrap (l.1-g.1-q*(c+d))=l.1-g.1-q*(c+d):=aa;refine Dp func254 λC hP hN=>?_;exact Gy
def ju(n:Vc)(a:List av)(c:Int)(b:List av)(d:Int):Bool:=k9 n a c b d&&decide (0<mf n a c b d)
theorem QW(n:Vc)(a:List av)(c:Int)(b:List av)(d:Int)(i:a.length<=9223372036854775807)(e:b.length<=9223372036854775807):aO 201 (yw a c b d) (ax n) (B (ju n a c b d)):=by
 have f:=QV n a c b d i e;have j:ju n a c b d=(k9 n a c b d&&decide (0<mf n a c b d)):=rfl;rw[j];generalize mf n a c b d=m at *;cases g:k9 n a c b d<;>rw[g]at f<;>simp at f
 all_goals
  refine Dp func201 λC hP hN=>?_;exact Gy
theorem QX(n:Vc)(a:List av)(c:Int)(b:List av)(d:Int)(f:a.length<=9223372036854775807)(e:b.length<=9223372036854775807):xL 148 (ax n) (aH a) (Z c) (aH b) (Z d) (B (ju n a c b d)):=by
 have g:=QW n a c b d f e;generalize ju n a c b d=s at *;refine Dp func148 λC hP hN=>?_;have i:=QU a c b d;exact GS trivial
def dz(w:Int)(s x:Iv):Iv:=(s.1+w*x.1,s.2+w*x.2)
def qN(w:Int)(s x:av):av:=(dz w s.1 x.1,dz w s.2.1 x.2.1,dz w s.2.2 x.2.2)
def dI(l:List av)(ws:List Int):Nat->av
 |0=>bA
 |i+1=>match l[i]?,ws[i]? with
  |some x,some w=>qN w (dI l ws i) x
  |_,_=>dI l ws i
def bj(ws:List Int):Nat->Int
 |0=>0
 |i+1=>bj ws i+(ws[i]?).getD 0
def wB(w:Int):Bool:=!(decide (w<0)||decide (65536<w))
def ed(l:List av)(ws:List Int):Bool:=az l&&decide (ws.length=l.length)&&ws.all wB&& !(decide (bj ws ws.length<1)||decide (65536<bj ws ws.length))
abbrev fY(l:List av)(ws:List Int):PV:=.tup (if ed l ws then[bP (dI l ws ws.length),Z (bj ws ws.length),B true]else[bP bA,Z 0,B false])
theorem iK{w:Int}{s x:Iv}{m:Nat}(d:0<=w/\w<=65536)(c:dO x=true)(hs:(-((m:Int)*17592186044416)<=s.1/\s.1<=(m:Int)*17592186044416)/\(-((m:Int)*17592186044416)<=s.2/\s.2<=(m:Int)*17592186044416)):
 ((-17592186044416<=w*x.1/\w*x.1<=17592186044416)/\(-17592186044416<=w*x.2/\w*x.2<=17592186044416))/\(-(((m+1:Nat):Int)*17592186044416)<=(dz w s x).1/\(dz w s x).1<=((m+1:Nat):Int)*17592186044416)/\(-(((m+1:Nat):Int)*17592186044416)<=(dz w s x).2/\(dz w s x).2<=((m+1:Nat):Int)*17592186044416):=by
 rw[f8]at c;have m1:=bQ (a:=w) (b:=x.1) 65536 268435456 (by omega) (by omega) (by omega) (by omega);have m2:=bQ (a:=w) (b:=x.2) 65536 268435456 (by omega) (by omega) (by omega) (by omega);simp only[dz];omega
def Ay(m:Nat)(s:Iv):Prop:=(-((m:Int)*17592186044416)<=s.1/\s.1<=(m:Int)*17592186044416)/\(-((m:Int)*17592186044416)<=s.2/\s.2<=(m:Int)*17592186044416)
def rT(m:Nat)(s:av):Prop:=Ay m s.1/\Ay m s.2.1/\Ay m s.2.2
theorem yy{l:List av}{ws:List Int}(b:∀v∈l,df v=true)(h:∀w∈ws,wB w=true):∀i:Nat,rT i (dI l ws i)
 |0=>by simp[dI,rT,Ay,bA]
 |i+1=>by
  have ih:=yy b h i;simp only[dI];split
  .rename_i x w e d
   have a:=b x (Is e);have c:=h w (Is d);rw[gv]at a;simp only[wB,UD,Ve,Uc]at c;exact⟨(iK ⟨by omega,by omega⟩ a.1 ih.1).2,(iK ⟨by omega,by omega⟩ a.2.1 ih.2.1).2,(iK ⟨by omega,by omega⟩ a.2.2 ih.2.2).2⟩
  .obtain⟨⟨⟨a1,a2⟩,a3,a4⟩,⟨⟨b1,b2⟩,b3,b4⟩,⟨f,g⟩,j,k⟩:=ih
   refine⟨⟨⟨?_,?_⟩,?_,?_⟩,⟨⟨?_,?_⟩,?_,?_⟩,⟨?_,?_⟩,?_,?_⟩<;>omega
def lq(s x:av)(w:Int)(k:Nat):List AV:=[.pv (Z (if 0<k then(dz w s.1 x.1).1 else s.1.1)),.pv (Z (if 0<k then(dz w s.1 x.1).2 else s.1.2)),.pv (Z (if 1<k then(dz w s.2.1 x.2.1).1 else s.2.1.1)),.pv (Z (if 1<k then(dz w s.2.1 x.2.1).2 else s.2.1.2)),.pv (Z (if 2<k then(dz w s.2.2 x.2.2).1 else s.2.2.1)),.pv (Z (if 2<k then(dz w s.2.2 x.2.2).2 else s.2.2.2))]
abbrev b6(s:av):List AV:=[.pv (Z s.1.1),.pv (Z s.1.2),.pv (Z s.2.1.1),.pv (Z s.2.1.2),.pv (Z s.2.2.1),.pv (Z s.2.2.2)]
set_option maxRecDepth 4000 in
theorem MC(l:List av)(ws:List Int)(hl:l.length<=9223372036854775807)(V:ws.length<=9223372036854775807):aO 213 (aH l) (zs ws) (fY l ws):=by
 have cp:=uA l hl;have hc:ed l ws=(az l&&decide (ws.length=l.length)&&ws.all wB&& !(decide (bj ws ws.length<1)||decide (65536<bj ws ws.length))):=rfl;have z6:bP bA=V6 0 0 0 0 0 0:=rfl
 cases hp:az l with
 |false=>
  have hf:ed l ws=false:=by rw[hc,hp];simp
  rw[hp]at cp
  have H:fY l ws=.tup [V6 0 0 0 0 0 0,Z 0,B false]:=by unfold fY;rw[hf];rfl
  rw[H];refine Dp func213 λC hP hN=>?_;exact Gy
 |true=>
 rw[hp]at cp;by_cases J:ws.length=l.length
 case neg=>
  have hf:ed l ws=false:=by rw[hc];simp[J]
  have E:((ws.length:Int)!=(l.length:Int))=true:=by simp;omega
  have bc:¬(ws.length:Int)=(l.length:Int):=by omega
  have H:fY l ws=.tup [V6 0 0 0 0 0 0,Z 0,B false]:=by unfold fY;rw[hf];rfl
  rw[H];refine Dp func213 λC hP hN=>?_;exact Gy
 have E:((ws.length:Int)!=(l.length:Int))=false:=by simp[J]
 simp only[az,An,L4]at hp;obtain⟨⟨a6,a7⟩,Q⟩:=hp;have R:=TY.1 Q
 have P:ed l ws=(ws.all wB&& !(decide (bj ws ws.length<1)||decide (65536<bj ws ws.length))):=by
  have e1:az l=true:=by simp only[az,An,L4];exact⟨⟨a6,a7⟩,Q⟩
  rw[hc,e1,UA J];simp
 clear hc
 cases s:ws.all wB with
 |false=>
  have hf:ed l ws=false:=by rw[P,s];rfl
  have H:fY l ws=.tup [V6 0 0 0 0 0 0,Z 0,B false]:=by unfold fY;rw[hf];rfl
  rw[H];refine Dp func213 λC hP hN=>?_;refine GT E ?_;refine WP.loopN [12] ws.length (λi st=>st.t 0=.pv (aH l)/\st.t 4=.ptr 4 0/\st.h 4=some (.box (b6 bA) true false)/\st.t 7=.ptr 7 0/\st.h 7=some (.box (b6 (dI l ws i)) true false)/\st.t 8=.pv (Z (bj ws i))/\st.t 24=.pv (zs ws)/\st.t 25=.pv (Z ws.length)/\st.t 26=.pv (Z i)/\st.h 12=none/\(∀k x,k<i->ws[k]?=some x->wB x=true)/\rT i (dI l ws i)/\0<=bj ws i/\bj ws i<=(i:Int)*65536) (by simp[dI,bj,bA,rT,Ay]) ?_;rintro i st hi ⟨g0,g4,f,m,b,n,c,d,e,a,hq,L,ba,bb⟩;by_cases g:i<ws.length
  .have hw:=am g V
   generalize z:ws[i]=w at *
   have F:ws[i]?=some w:=by rw[an g,z]
   have u:i<l.length:=by omega
   generalize G:l[i]=x at *
   have M:l[i]?=some x:=by rw[an u,G]
   have a8:=m9 (p:=wB) F hq
   cases v:wB w with
   |false=>
    have y:w<0\/65536<w:=by
     simp only[wB,Bool.not_eq_false',UQ,L4]at v;exact v
    rcases y with I|I
    .skip
     exact GS (zAd g0 g4 f m b n c d e a g (be F z I))
    .have h10:¬w<0:=by omega
     exact GS (zAe g0 g4 f m b n c d e a g F z I h10)
   |true=>
    have U:=a8 v
    have y:¬w<0/\¬65536<w:=by
     simp only[wB,UD,Ve,Uc]at v;exact v
    obtain⟨I,h10⟩:=y;have r:=R x (Is M);rw[gv]at r
    have hS:dI l ws (i+1)=qN w (dI l ws i) x:=by simp only[dI,F,M]
    have N:bj ws (i+1)=bj ws i+w:=by simp only[bj,F,Ug]
    obtain⟨W,X,Y⟩:=L;have a1:=iK (w:=w) (x:=x.1) ⟨by omega,by omega⟩ r.1 W;have a2:=iK (w:=w) (x:=x.2.1) ⟨by omega,by omega⟩ r.2.1 X;have a3:=iK (w:=w) (x:=x.2.2) ⟨by omega,by omega⟩ r.2.2 Y;have K:rT (i+1) (qN w (dI l ws i) x):=⟨a1.2,a2.2,a3.2⟩;generalize dI l ws i=S at *;generalize dI l ws (i+1)=S' at *;generalize bj ws i=T at *;generalize bj ws (i+1)=T' at *;subst hS;subst N;have wT:i64.wrap (T+w)=T+w:=aa;have d1:(dz w S.1 x.1).1=S.1.1+w*x.1.1:=rfl;have d2:(dz w S.1 x.1).2=S.1.2+w*x.1.2:=rfl;have d3:(dz w S.2.1 x.2.1).1=S.2.1.1+w*x.2.1.1:=rfl;have d4:(dz w S.2.1 x.2.1).2=S.2.1.2+w*x.2.1.2:=rfl;have d5:(dz w S.2.2 x.2.2).1=S.2.2.1+w*x.2.2.1:=rfl;have d6:(dz w S.2.2 x.2.2).2=S.2.2.2+w*x.2.2.2:=rfl;have u1:i64.wrap (w*x.1.1)=w*x.1.1:=aa;have u2:i64.wrap (w*x.1.2)=w*x.1.2:=aa;have u3:i64.wrap (w*x.2.1.1)=w*x.2.1.1:=aa;have u4:i64.wrap (w*x.2.1.2)=w*x.2.1.2:=aa;have u5:i64.wrap (w*x.2.2.1)=w*x.2.2.1:=aa;have u6:i64.wrap (w*x.2.2.2)=w*x.2.2.2:=aa;have v1:i64.wrap (S.1.1+w*x.1.1)=(dz w S.1 x.1).1:=(aa (by rw[<-d1];omega) (by rw[<-d1];omega)).trans d1.symm;have v2:i64.wrap (S.1.2+w*x.1.2)=(dz w S.1 x.1).2:=(aa (by rw[<-d2];omega) (by rw[<-d2];omega)).trans d2.symm;have v3:i64.wrap (S.2.1.1+w*x.2.1.1)=(dz w S.2.1 x.2.1).1:=(aa (by rw[<-d3];omega) (by rw[<-d3];omega)).trans d3.symm;have v4:i64.wrap (S.2.1.2+w*x.2.1.2)=(dz w S.2.1 x.2.1).2:=(aa (by rw[<-d4];omega) (by rw[<-d4];omega)).trans d4.symm;have v5:i64.wrap (S.2.2.1+w*x.2.2.1)=(dz w S.2.2 x.2.2).1:=(aa (by rw[<-d5];omega) (by rw[<-d5];omega)).trans d5.symm;have v6:i64.wrap (S.2.2.2+w*x.2.2.2)=(dz w S.2.2 x.2.2).2:=(aa (by rw[<-d6];omega) (by rw[<-d6];omega)).trans d6.symm;have D:b6 (qN w S x)=lq S x w 3:=rfl;have A:b6 S=lq S x w 0:=rfl;rw[A]at b;rw[D];refine GT (zAe g0 g4 f m n c d e a g u F z M (so G I h10 wT b)) ?_;refine WP.loopN [12] 3 (λk st=>st.t 0=.pv (aH l)/\st.t 4=.ptr 4 0/\st.h 4=some (.box (b6 bA) true false)/\st.t 7=.ptr 7 0/\st.h 7=some (.box (lq S x w k) true false)/\st.t 8=.pv (Z (T+w))/\st.t 10=.pv (Z w)/\st.t 24=.pv (zs ws)/\st.t 25=.pv (Z ws.length)/\st.t 26=.pv (Z i)/\st.h 12=none/\st.t 44=.pv (bP x)/\st.t 45=.pv (Z k)) (by simp[g0,g4,f,m,n,c,d,e,a,b,lq]) ?_;clear g0 g4 f m b n c d e a hq;rintro k st hk ⟨g0,g4,f,m,b,n,o,c,d,e,a,q,j⟩;clear d1 d2 d3 d4 d5 d6 a1 a2 a3 W X Y;rcases eF hk with rfl|rfl|rfl|rfl
    all_goals (simp[lq]at b j)
    .skip
     exact GS (zAe g0 g4 f m n o c d e a q j b u1 (it u2 v1 v2 @lq.eq_1))
    .skip
     exact GS (zAe g0 g4 f m n o c d e a q j b u3 (it u4 v3 v4 @lq.eq_1))
    .skip
     exact GS (zAe g0 g4 f m n o c d e a q j b u5 (it u6 v5 v6 @lq.eq_1))
    .skip
     refine GT (zAe g0 g4 f m n o c d e a q j b hw (gA g @lq.eq_1)) ?_
     all_goals exact⟨U,K,by omega,by omega⟩
  .have:=oX hq g
   rw[this]at s;cases s
 |true=>
  refine Dp func213 λC hP hN=>?_;refine GT E ?_;refine WP.loopN [12] ws.length (λi st=>st.t 0=.pv (aH l)/\st.t 4=.ptr 4 0/\st.h 4=some (.box (b6 bA) true false)/\st.t 7=.ptr 7 0/\st.h 7=some (.box (b6 (dI l ws i)) true false)/\st.t 8=.pv (Z (bj ws i))/\st.t 24=.pv (zs ws)/\st.t 25=.pv (Z ws.length)/\st.t 26=.pv (Z i)/\st.h 12=none/\rT i (dI l ws i)/\0<=bj ws i/\bj ws i<=(i:Int)*65536) (by simp[dI,bj,bA,rT,Ay]) ?_;rintro i st hi ⟨g0,g4,f,m,b,n,c,d,e,a,L,ba,bb⟩;by_cases g:i<ws.length
  .have hw:=am g V
   generalize z:ws[i]=w at *
   have F:ws[i]?=some w:=by rw[an g,z]
   have u:i<l.length:=by omega
   generalize G:l[i]=x at *
   have M:l[i]?=some x:=by rw[an u,G]
   have v:=TY.1 s w (Is F)
   have y:¬w<0/\¬65536<w:=by
    simp only[wB,UD,Ve,Uc]at v;exact v
   obtain⟨I,h10⟩:=y;have r:=R x (Is M);rw[gv]at r
   have hS:dI l ws (i+1)=qN w (dI l ws i) x:=by simp only[dI,F,M]
   have N:bj ws (i+1)=bj ws i+w:=by simp only[bj,F,Ug]
   obtain⟨W,X,Y⟩:=L;have a1:=iK (w:=w) (x:=x.1) ⟨by omega,by omega⟩ r.1 W;have a2:=iK (w:=w) (x:=x.2.1) ⟨by omega,by omega⟩ r.2.1 X;have a3:=iK (w:=w) (x:=x.2.2) ⟨by omega,by omega⟩ r.2.2 Y;have K:rT (i+1) (qN w (dI l ws i) x):=⟨a1.2,a2.2,a3.2⟩;generalize dI l ws i=S at *;generalize dI l ws (i+1)=S' at *;generalize bj ws i=T at *;generalize bj ws (i+1)=T' at *;subst hS;subst N;have wT:i64.wrap (T+w)=T+w:=aa;have d1:(dz w S.1 x.1).1=S.1.1+w*x.1.1:=rfl;have d2:(dz w S.1 x.1).2=S.1.2+w*x.1.2:=rfl;have d3:(dz w S.2.1 x.2.1).1=S.2.1.1+w*x.2.1.1:=rfl;have d4:(dz w S.2.1 x.2.1).2=S.2.1.2+w*x.2.1.2:=rfl;have d5:(dz w S.2.2 x.2.2).1=S.2.2.1+w*x.2.2.1:=rfl;have d6:(dz w S.2.2 x.2.2).2=S.2.2.2+w*x.2.2.2:=rfl;have u1:i64.wrap (w*x.1.1)=w*x.1.1:=aa;have u2:i64.wrap (w*x.1.2)=w*x.1.2:=aa;have u3:i64.wrap (w*x.2.1.1)=w*x.2.1.1:=aa;have u4:i64.wrap (w*x.2.1.2)=w*x.2.1.2:=aa;have u5:i64.wrap (w*x.2.2.1)=w*x.2.2.1:=aa;have u6:i64.wrap (w*x.2.2.2)=w*x.2.2.2:=aa;have v1:i64.wrap (S.1.1+w*x.1.1)=(dz w S.1 x.1).1:=(aa (by rw[<-d1];omega) (by rw[<-d1];omega)).trans d1.symm;have v2:i64.wrap (S.1.2+w*x.1.2)=(dz w S.1 x.1).2:=(aa (by rw[<-d2];omega) (by rw[<-d2];omega)).trans d2.symm;have v3:i64.wrap (S.2.1.1+w*x.2.1.1)=(dz w S.2.1 x.2.1).1:=(aa (by rw[<-d3];omega) (by rw[<-d3];omega)).trans d3.symm;have v4:i64.wrap (S.2.1.2+w*x.2.1.2)=(dz w S.2.1 x.2.1).2:=(aa (by rw[<-d4];omega) (by rw[<-d4];omega)).trans d4.symm;have v5:i64.wrap (S.2.2.1+w*x.2.2.1)=(dz w S.2.2 x.2.2).1:=(aa (by rw[<-d5];omega) (by rw[<-d5];omega)).trans d5.symm;have v6:i64.wrap (S.2.2.2+w*x.2.2.2)=(dz w S.2.2 x.2.2).2:=(aa (by rw[<-d6];omega) (by rw[<-d6];omega)).trans d6.symm;have D:b6 (qN w S x)=lq S x w 3:=rfl;have A:b6 S=lq S x w 0:=rfl;rw[A]at b;rw[D];refine GT (zAe g0 g4 f m n c d e a g u F z M (so G I h10 wT b)) ?_;refine WP.loopN [12] 3 (λk st=>st.t 0=.pv (aH l)/\st.t 4=.ptr 4 0/\st.h 4=some (.box (b6 bA) true false)/\st.t 7=.ptr 7 0/\st.h 7=some (.box (lq S x w k) true false)/\st.t 8=.pv (Z (T+w))/\st.t 10=.pv (Z w)/\st.t 24=.pv (zs ws)/\st.t 25=.pv (Z ws.length)/\st.t 26=.pv (Z i)/\st.h 12=none/\st.t 44=.pv (bP x)/\st.t 45=.pv (Z k)) (by simp[g0,g4,f,m,n,c,d,e,a,b,lq]) ?_;clear g0 g4 f m b n c d e a;rintro k st hk ⟨g0,g4,f,m,b,n,o,c,d,e,a,q,j⟩;clear d1 d2 d3 d4 d5 d6 a1 a2 a3 W X Y;rcases eF hk with rfl|rfl|rfl|rfl
   all_goals (simp[lq]at b j)
   .skip
    exact GS (zAe g0 g4 f m n o c d e a q j b u1 (it u2 v1 v2 @lq.eq_1))
   .skip
    exact GS (zAe g0 g4 f m n o c d e a q j b u3 (it u4 v3 v4 @lq.eq_1))
   .skip
    exact GS (zAe g0 g4 f m n o c d e a q j b u5 (it u6 v5 v6 @lq.eq_1))
   .skip
    refine GT (zAe g0 g4 f m n o c d e a q j b hw (gA g @lq.eq_1)) ?_
    all_goals exact⟨K,by omega,by omega⟩
  .have a5:i=ws.length:=by omega
   subst a5
   have O:ed l ws=!(decide (bj ws ws.length<1)||decide (65536<bj ws ws.length)):=by rw[P,s];simp
   generalize ar:bj ws ws.length=T at *;generalize ad:dI l ws ws.length=S at *;by_cases N:T<1\/65536<T
   .have hf:ed l ws=false:=by
     rw[O];rcases N with h|h
     all_goals simp[h]
    have H:fY l ws=.tup [V6 0 0 0 0 0 0,Z 0,B false]:=by unfold fY;rw[hf];rfl
    rw[H];rcases N with h|h
    .skip
     exact GS (zAc g0 g4 f m b n c d e (gA a h))
    .have h2:¬T<1:=by omega
     exact GS (zAd g0 g4 f m b n c d e a h h2)
   .have h1:¬T<1:=by omega
    have h2:¬65536<T:=by omega
    have hf:ed l ws=true:=by rw[O];simp[h1,h2]
    have H:fY l ws=.tup [bP S,Z T,B true]:=by unfold fY;rw[hf,ad,ar];rfl
    rw[H];exact GS (zAd g0 g4 f m b n c d e a h1 h2)
def fI(l:List Vc):Bool:=decide (1<=l.length)&&decide (l.length<=8)&&l.all (aC 268435456)
theorem Mb(l:List Vc)(P:l.length<=9223372036854775807):bk 149 (aV l) (B (fI l)):=by
 by_cases O:l.length<1\/8<l.length
 .have hf:fI l=false:=by
   cases u:fI l with
   |false=>rfl
   |true=>
    exfalso;unfold fI at u;simp only[An,L4]at u;obtain⟨⟨b3,b4⟩,_⟩:=u;omega
  rw[hf]
  have y:(l.length:Int)<1\/(8:Int)<l.length:=by omega
  rcases y with h|h
  all_goals
   refine Dp func149 λC hP hN=>?_;exact Gy
 have M:¬(l.length:Int)<1:=by omega
 have N:¬(8:Int)<l.length:=by omega
 have r:1<=l.length:=by omega
 have s:l.length<=8:=by omega
 have J:fI l=l.all (aC 268435456):=by
  unfold fI;rw[UA r,UA s];simp
 rw[J];refine Dp func149 λC hP hN=>?_
 cases e:l.all (aC 268435456)with
 |true=>
  refine Gz ?_;refine WP.loopN [4] l.length (λi st=>True/\st.t 15=.pv (aV l)/\st.t 16=.pv (Z l.length)/\st.t 17=.pv (Z i)/\st.h 4=none) (by simp) ?_;rintro i st hi ⟨g1,g,j,f,m⟩;by_cases d:i<l.length
  .have q:=am d (by omega)
   have K:=cD.1 (TY.1 e _ (Ul d));obtain⟨D,E,F⟩:=K;rw[bm]at D E F;generalize n:l[i]=v at *
   have H:l[i]?=some v:=by rw[an d,n]
   refine Gz ?_;refine WP.loopN [] 3 (λk st=>True/\st.t 15=.pv (aV l)/\st.t 16=.pv (Z l.length)/\st.t 17=.pv (Z i)/\st.t 21=.pv (ax v)/\st.t 22=.pv (Z k)) (by simp[g1,g,j,f]) ?_;clear g1 g j f m;rintro k st z ⟨g1,g,j,f,gA,gK⟩;rcases eF z with rfl|rfl|rfl|rfl
   all_goals
    exact Gy
  .skip
   exact Gy
 |false=>
  refine Gz ?_;refine WP.loopN [4] l.length (λi st=>True/\st.t 15=.pv (aV l)/\st.t 16=.pv (Z l.length)/\st.t 17=.pv (Z i)/\st.h 4=none/\∀k x,k<i->l[k]?=some x->aC 268435456 x=true) (by simp) ?_;rintro i st hi ⟨g1,g,j,f,m,hq⟩;by_cases d:i<l.length
  .have q:=am d (by omega)
   generalize n:l[i]=v at *
   have H:l[i]?=some v:=by rw[an d,n]
   have A:=m9 (p:=aC 268435456) H hq;refine Gz ?_;refine WP.loopN [] 3 (λk st=>True/\st.t 15=.pv (aV l)/\st.t 16=.pv (Z l.length)/\st.t 17=.pv (Z i)/\st.t 21=.pv (ax v)/\st.t 22=.pv (Z k)/\(0<k->gt v.1 268435456=true)/\(1<k->gt v.2.1 268435456=true)/\(2<k->gt v.2.2 268435456=true)) (by simp[g1,g,j,f]) ?_;clear g1 g j f m hq;rintro k st z ⟨g1,g,j,f,gA,gK,G,I,L⟩;rcases eF z with rfl|rfl|rfl|rfl
   .skip
    with_reducible repeat' (first|refine Sp.h ?_|((first|refine Ss.h ?_|(refine Sb.h ?_ ?_ ?_<;>(try intro hgd)<;>try exact Xy))<;>simp -implicitDefEqProofs (maxSteps:=2000000) [hP,hN,g1,g,j,f,gA,gK,q])|refine X2 ?_ ?_|(refine Xd ?_ ?_<;>intro hcd<;>try exact Xx))
    all_goals (try (rw[bm];simp only[Uc,L4]at hgd hcd;omega))
   .skip
    with_reducible repeat' (first|refine Sp.h ?_|((first|refine Ss.h ?_|(refine Sb.h ?_ ?_ ?_<;>(try intro hgd)<;>try exact Xy))<;>simp -implicitDefEqProofs (maxSteps:=2000000) [hP,hN,g1,g,j,f,gA,gK,q])|refine X2 ?_ ?_|(refine Xd ?_ ?_<;>intro hcd<;>try exact Xx))
    all_goals (try (exact⟨G (by omega),by rw[bm];simp only[Uc,L4]at hgd hcd;omega⟩))
   .skip
    with_reducible repeat' (first|refine Sp.h ?_|((first|refine Ss.h ?_|(refine Sb.h ?_ ?_ ?_<;>(try intro hgd)<;>try exact Xy))<;>simp -implicitDefEqProofs (maxSteps:=2000000) [hP,hN,g1,g,j,f,gA,gK,q])|refine X2 ?_ ?_|(refine Xd ?_ ?_<;>intro hcd<;>try exact Xx))
    all_goals (try (exact⟨G (by omega),I (by omega),by rw[bm];simp only[Uc,L4]at hgd hcd;omega⟩))
   .have hn:aC 268435456 v=true:=cD.2 ⟨G (by omega),I (by omega),L (by omega)⟩
    have o:=A hn;refine Gz ?_
    all_goals (try exact λk a b c=>o k (a,b,c))
  .have:=oX hq d
   rw[this]at e;cases e
def bg(v w:Vc):Vc:=(v.1-w.1,v.2.1-w.2.1,v.2.2-w.2.2)
def bG(v w:Vc):Int:=v.1*w.1+v.2.1*w.2.1+v.2.2*w.2.2
theorem IL(v w:Vc)(b:fv 1152921504606846976 v)(c:fv 1152921504606846976 w):aO 203 (ax v) (ax w) (ax (bg v w)):=by
 obtain⟨v1,v2,v3⟩:=b;obtain⟨g,i,j⟩:=c;have d:i64.wrap (v.1-w.1)=v.1-w.1:=aa;have e:i64.wrap (v.2.1-w.2.1)=v.2.1-w.2.1:=aa;have f:i64.wrap (v.2.2-w.2.2)=v.2.2-w.2.2:=aa;have a:bg v w=(v.1-w.1,v.2.1-w.2.1,v.2.2-w.2.2):=rfl;rw[a];refine Dp func203 λC hP hN=>?_;exact Gy
theorem lN{w:Vc}{m:Nat}(a:fv m v)(b:fv n w):(-((m*n:Nat):Int)<=v.1*w.1/\v.1*w.1<=((m*n:Nat):Int))/\(-((m*n:Nat):Int)<=v.2.1*w.2.1/\v.2.1*w.2.1<=((m*n:Nat):Int))/\(-((m*n:Nat):Int)<=v.2.2*w.2.2/\v.2.2*w.2.2<=((m*n:Nat):Int)):=
 ⟨bQ m n a.1.1 a.1.2 b.1.1 b.1.2,bQ m n a.2.1.1 a.2.1.2 b.2.1.1 b.2.1.2,bQ m n a.2.2.1 a.2.2.2 b.2.2.1 b.2.2.2⟩
theorem Ap(v w:Vc)(m n:Nat)(c:fv m v)(d:fv n w)(a:3*(m*n)<=9223372036854775807):aO 256 (ax v) (ax w) (Z (bG v w)):=by
 obtain⟨l,o,p⟩:=lN c d;have b:bG v w=v.1*w.1+v.2.1*w.2.1+v.2.2*w.2.2:=rfl;rw[b];generalize m*n=k at *;have e:i64.wrap (v.1*w.1)=v.1*w.1:=aa;have f:i64.wrap (v.2.1*w.2.1)=v.2.1*w.2.1:=aa;have g:i64.wrap (v.2.2*w.2.2)=v.2.2*w.2.2:=aa;have i:i64.wrap (v.1*w.1+v.2.1*w.2.1)=v.1*w.1+v.2.1*w.2.1:=aa;have j:i64.wrap (v.1*w.1+v.2.1*w.2.1+v.2.2*w.2.2)=v.1*w.1+v.2.1*w.2.1+v.2.2*w.2.2:=aa;refine Dp func256 λC hP hN=>?_;exact Gy
abbrev FG(l:List Vc)(w:List Int):PV:=.agg [aV l,zs w]
theorem J1(l:List Vc)(h1:1<=l.length)(a:l.length<=8):bf prog 150 [.pv (aV l)] [] [] (.srow [aV l] 2 1 (((List.replicate l.length 0).set 0 65536).map Z)):=by
 refine Dp func150 λC hP hN=>?_;exact GS (it (show(0:Int)<l.length by omega) (show 0<l.length by omega) (show(8:Int)*(l.length:Int)<=281474976710656 by omega) (show(l.length:Int)<=9223372036854775807 by omega))
def dm(l:List Vc)(w:List Int):Nat->Vc
 |0=>(0,0,0)
 |i+1=>match l[i]?,w[i]? with
  |some p,some k=>((dm l w i).1+k*p.1,(dm l w i).2.1+k*p.2.1,(dm l w i).2.2+k*p.2.2)
  |_,_=>dm l w i
structure WgOk(w:List Int):Prop where
 pos:∀k∈w,0<=k
 tot:bj w w.length<=65536
theorem m8{k:Int}(h:w[i]?=some k):bj w (i+1)=bj w i+k:=by simp[bj,h]
theorem iw(h:∀k∈w,0<=k){j:Nat}(a:i<=j):bj w i<=bj w j:=by
 induction a with
 |refl=>exact Ww _
 |step c ih=>
  rename_i m
  cases b:w[m]? with
  |none=>simp only[bj,b,Option.getD_none];omega
  |some k=>
   have:=h k (Is b);rw[m8 b];omega
theorem rE(h:∀k∈w,0<=k)(i:Nat):0<=bj w i:=iw h (UO i)
theorem vL{k:Int}(a:0<=k)(b:-m<=x/\x<=m):-(k*m)<=k*x/\k*x<=k*m:=by
 refine⟨?_,U5 b.2 a⟩;have:=U5 b.1 a;rw[Int.mul_neg]at this;exact this
theorem eM(h:aC 268435456 v=true):fv 268435456 v:=by
 rw[cD,bm,bm,bm]at h;exact⟨⟨by omega,by omega⟩,⟨by omega,by omega⟩,⟨by omega,by omega⟩⟩
theorem Bb{l:List Vc}{w:List Int}(g:l.all (aC 268435456)=true)(e:∀k∈w,0<=k):∀i:Nat,fv (bj w i*268435456) (dm l w i)
 |0=>by simp[dm,bj,fv]
 |i+1=>by
  have ih:=Bb g e i;have m:=iw e (Nat.le_succ i);simp only[dm];split
  .rename_i p k hp f
   have j:=eM (TY.1 g p (Is hp));have d:=e k (Is f);rw[m8 f];obtain⟨a,b,c⟩:=j;have r:=vL d a;have s:=vL d b;have u:=vL d c;obtain⟨o,q,i3⟩:=ih;exact⟨⟨by simp only;omega,by simp only;omega⟩,⟨by simp only;omega,by simp only;omega⟩,⟨by simp only;omega,by simp only;omega⟩⟩
  .obtain⟨o,q,i3⟩:=ih
   have n:bj w i<=bj w (i+1):=m;exact⟨⟨by omega,by omega⟩,⟨by omega,by omega⟩,⟨by omega,by omega⟩⟩
theorem jX(c:l.all (aC 268435456)=true)(a:WgOk w)(i:Nat)(hi:i<=w.length):fv 17592186044416 (dm l w i):=by
 have b:=Bb c a.pos i;have d:=iw a.pos hi;have e:=a.tot;obtain⟨f,g,i3⟩:=b;exact⟨⟨by omega,by omega⟩,⟨by omega,by omega⟩,⟨by omega,by omega⟩⟩
def ll(s p:Vc)(k:Int)(j:Nat):List AV:=[.pv (Z (if 0<j then s.1+k*p.1 else s.1)),.pv (Z (if 1<j then s.2.1+k*p.2.1 else s.2.1)),.pv (Z (if 2<j then s.2.2+k*p.2.2 else s.2.2))]
theorem Mc(l:List Vc)(ws:List Int)(h8:l.length<=8)(K:ws.length=l.length)(A:l.all (aC 268435456)=true)(u:WgOk ws):bk 204 (FG l ws) (ax (dm l ws l.length)):=by
 refine Dp func204 λC hP hN=>?_;refine Gz ?_;refine WP.loopN [5] l.length (λi st=>st.t 1=.ptr 1 0/\st.h 1=some (.box [.pv (aV l),.pv (zs ws)] true false)/\st.t 2=.ptr 2 0/\st.h 2=some (.box [.pv (Z 0),.pv (Z 0),.pv (Z 0)] true false)/\st.t 3=.ptr 3 0/\st.h 3=some (.box [.pv (Z (dm l ws i).1),.pv (Z (dm l ws i).2.1),.pv (Z (dm l ws i).2.2)] true false)/\st.t 9=.pv (aV l)/\st.t 10=.pv (Z l.length)/\st.t 11=.pv (Z i)/\st.h 5=none) (by simp[dm]) ?_;rintro i st hi ⟨g1,g,g2,m,g3,c,s,e,f,y⟩;by_cases n:i<l.length
 .have L:=am n (by omega)
  have d:i<ws.length:=by omega
  generalize B:l[i]=p at *
  have D:l[i]?=some p:=by rw[an n,B]
  generalize q:ws[i]=k at *
  have v:ws[i]?=some k:=by rw[an d,q]
  have N:=jX A u i (by omega);have O:=jX A u (i+1) (by omega);have I:=u.pos k (Is v)
  have J:k<=65536:=by
   have a1:=m8 v;have a2:=rE u.pos i;have a3:=iw u.pos (show i+1<=ws.length by omega);have a4:=u.tot;omega
  have hp:=eM (TY.1 A p (Is D))
  have hS:dm l ws (i+1)=((dm l ws i).1+k*p.1,(dm l ws i).2.1+k*p.2.1,(dm l ws i).2.2+k*p.2.2):=by simp only[dm,D,v]
  have m1:=bQ (a:=k) (b:=p.1) 65536 268435456 (by omega) (by omega) hp.1.1 hp.1.2;have m2:=bQ (a:=k) (b:=p.2.1) 65536 268435456 (by omega) (by omega) hp.2.1.1 hp.2.1.2;have M:=bQ (a:=k) (b:=p.2.2) 65536 268435456 (by omega) (by omega) hp.2.2.1 hp.2.2.2;generalize dm l ws i=S at *;generalize dm l ws (i+1)=T at *;subst hS;obtain⟨E,F,G⟩:=O;simp only at E F G;have P:i64.wrap (k*p.1)=k*p.1:=aa;have Q:i64.wrap (k*p.2.1)=k*p.2.1:=aa;have R:i64.wrap (k*p.2.2)=k*p.2.2:=aa;have v1:i64.wrap (S.1+k*p.1)=S.1+k*p.1:=aa;have v2:i64.wrap (S.2.1+k*p.2.1)=S.2.1+k*p.2.1:=aa;have v3:i64.wrap (S.2.2+k*p.2.2)=S.2.2+k*p.2.2:=aa;clear N E F G m1 m2 M hp;have x:[AV.pv (Z S.1),AV.pv (Z S.2.1),AV.pv (Z S.2.2)]=ll S p k 0:=rfl;rw[x]at c;refine Gz ?_;refine WP.loopN [] 3 (λj st=>st.t 1=.ptr 1 0/\st.h 1=some (.box [.pv (aV l),.pv (zs ws)] true false)/\st.t 2=.ptr 2 0/\st.h 2=some (.box [.pv (Z 0),.pv (Z 0),.pv (Z 0)] true false)/\st.t 3=.ptr 3 0/\st.h 3=some (.box (ll S p k j) true false)/\st.t 4=.pv (Z i)/\st.t 9=.pv (aV l)/\st.t 10=.pv (Z l.length)/\st.t 11=.pv (Z i)/\st.t 16=.pv (ax p)/\st.t 17=.pv (Z j)) (by simp[g1,g,g2,m,g3,s,e,f,c,ll]) ?_;clear g1 g g2 m g3 s e f c y;rintro j st H ⟨g1,g,g2,m,g3,c,g4,s,e,f,r,o⟩;rcases eF H with rfl|rfl|rfl|rfl
  all_goals (simp[ll]at c o)
  .skip
   with_reducible repeat' (first|refine Sp.h ?_|((first|refine Wd ?_|refine Ss.h ?_|(refine Sb.h ?_ ?_ ?_<;>(try intro hgd)<;>try exact Xy))<;>simp -implicitDefEqProofs (maxSteps:=2000000) [hP,hN,g1,g,g2,m,g3,c,g4,s,e,f,r,o,n,d,v,q,P,v1,ll]<;>try refine Ya ?_)|refine X2 ?_ ?_|(refine Xd ?_ ?_<;>intro hcd<;>try exact Xx))
  .skip
   with_reducible repeat' (first|refine Sp.h ?_|((first|refine Wd ?_|refine Ss.h ?_|(refine Sb.h ?_ ?_ ?_<;>(try intro hgd)<;>try exact Xy))<;>simp -implicitDefEqProofs (maxSteps:=2000000) [hP,hN,g1,g,g2,m,g3,c,g4,s,e,f,r,o,n,d,v,q,Q,v2,ll]<;>try refine Ya ?_)|refine X2 ?_ ?_|(refine Xd ?_ ?_<;>intro hcd<;>try exact Xx))
  .skip
   with_reducible repeat' (first|refine Sp.h ?_|((first|refine Wd ?_|refine Ss.h ?_|(refine Sb.h ?_ ?_ ?_<;>(try intro hgd)<;>try exact Xy))<;>simp -implicitDefEqProofs (maxSteps:=2000000) [hP,hN,g1,g,g2,m,g3,c,g4,s,e,f,r,o,n,d,v,q,R,v3,ll]<;>try refine Ya ?_)|refine X2 ?_ ?_|(refine Xd ?_ ?_<;>intro hcd<;>try exact Xx))
  .skip
   exact Gy
 .have z:i=l.length:=by omega
  subst z;exact Gy
def dF(bet:Int->Int->Bool)(n p0:Vc)(l:List Vc):Nat->Int×Nat
 |0=>(bG n p0,0)
 |i+1=>match l[i]? with
  |some v=>if bet (bG n v) (dF bet n p0 l i).1=true then(bG n v,i)else dF bet n p0 l i
  |none=>dF bet n p0 l i
theorem oc{n p0:Vc}(h:l[i]?=some v):dF bet n p0 l (i+1)=if bet (bG n v) (dF bet n p0 l i).1=true then(bG n v,i)else dF bet n p0 l i:=by simp only[dF,h]
theorem ui{bet:Int->Int->Bool}{n p0:Vc}{l:List Vc}(a:0<l.length):∀i,(dF bet n p0 l i).2<l.length
 |0=>a
 |i+1=>by
  have:=ui (bet:=bet) (n:=n) (p0:=p0) a i;simp only[dF];split
  .rename_i v b
   obtain⟨h,_⟩:=th.1 b;split
   .exact h
   .exact this
  .exact this
def dk(bet:Int->Int->Bool)(n:Vc)(l:List Vc):Int×Nat:=dF bet n ((l[0]?).getD (0,0,0)) l l.length
theorem PM(n:Vc)(l:List Vc)(ws:List Int)(hn:aC 16384 n=true)(h1:1<=l.length)(h8:l.length<=8)(p:l.all (aC 268435456)=true):aO 207 (FG l ws) (ax n) (.tup [Z (dk fa n l).1,Z (dk fa n l).2]):=by
 have e:fv ((16384:Nat):Int) n:=by
  rw[cD,bm,bm,bm]at hn;exact⟨⟨by omega,by omega⟩,⟨by omega,by omega⟩,⟨by omega,by omega⟩⟩
 have c:0<l.length:=by omega
 generalize g:l[0]=p0 at *
 have f:l[0]?=some p0:=by rw[an c,g]
 have r:=Ap n p0 16384 268435456 e (eM (TY.1 p p0 (Is f))) (by decide)
 have z:dk fa n l=dF fa n p0 l l.length:=by simp only[dk,f,Ug]
 rw[z];have o:dF fa n p0 l 0=(bG n p0,0):=rfl;generalize D:bG n p0=d0 at *;refine Dp func207 λC hP hN=>?_;refine Gz ?_;refine WP.loopN [9] l.length (λi st=>st.t 3=.ptr 3 0/\st.h 3=some (.box [.pv (Z n.1),.pv (Z n.2.1),.pv (Z n.2.2)] true false)/\st.t 20=.pv (aV l)/\st.t 21=.pv (Z l.length)/\st.t 22=.pv (Z i)/\st.h 9=none/\st.t 6=.pv (Z (dF fa n p0 l i).1)/\st.t 7=.pv (Z (dF fa n p0 l i).2)) (by simp[o]) ?_;rintro i st hi ⟨g3,A,u,x,y,B,F,G⟩;by_cases b:i<l.length
 .have H:=am b (by omega)
  generalize m:l[i]=v at *
  have q:l[i]?=some v:=by rw[an b,m]
  have E:=Ap n v 16384 268435456 e (eM (TY.1 p v (Is q))) (by decide);have j:=oc (bet:=fa) (n:=n) (p0:=p0) q;generalize dF fa n p0 l i=s at *;generalize dF fa n p0 l (i+1)=I at *;generalize bG n v=d at *;by_cases a:fa d s.1=true
  .rw[T6 a]at j
   subst j;simp only[fa,L4]at a;exact Gy
  .rw[TZ a]at j
   subst j;simp only[fa,L4]at a;exact Gy
 .have k:i=l.length:=by omega
  subst k;exact Gy
  all_goals exact⟨rfl,rfl⟩
theorem PN(n:Vc)(l:List Vc)(ws:List Int)(hn:aC 16384 n=true)(h1:1<=l.length)(h8:l.length<=8)(p:l.all (aC 268435456)=true):aO 208 (FG l ws) (ax n) (.tup [Z (dk fc n l).1,Z (dk fc n l).2]):=by
 have e:fv ((16384:Nat):Int) n:=by
  rw[cD,bm,bm,bm]at hn;exact⟨⟨by omega,by omega⟩,⟨by omega,by omega⟩,⟨by omega,by omega⟩⟩
 have c:0<l.length:=by omega
 generalize g:l[0]=p0 at *
 have f:l[0]?=some p0:=by rw[an c,g]
 have r:=Ap n p0 16384 268435456 e (eM (TY.1 p p0 (Is f))) (by decide)
 have z:dk fc n l=dF fc n p0 l l.length:=by simp only[dk,f,Ug]
 rw[z];have o:dF fc n p0 l 0=(bG n p0,0):=rfl;generalize D:bG n p0=d0 at *;refine Dp func208 λC hP hN=>?_;refine Gz ?_;refine WP.loopN [9] l.length (λi st=>st.t 3=.ptr 3 0/\st.h 3=some (.box [.pv (Z n.1),.pv (Z n.2.1),.pv (Z n.2.2)] true false)/\st.t 20=.pv (aV l)/\st.t 21=.pv (Z l.length)/\st.t 22=.pv (Z i)/\st.h 9=none/\st.t 6=.pv (Z (dF fc n p0 l i).1)/\st.t 7=.pv (Z (dF fc n p0 l i).2)) (by simp[o]) ?_;rintro i st hi ⟨g3,A,u,x,y,B,F,G⟩;by_cases b:i<l.length
 .have H:=am b (by omega)
  generalize m:l[i]=v at *
  have q:l[i]?=some v:=by rw[an b,m]
  have E:=Ap n v 16384 268435456 e (eM (TY.1 p v (Is q))) (by decide);have j:=oc (bet:=fc) (n:=n) (p0:=p0) q;generalize dF fc n p0 l i=s at *;generalize dF fc n p0 l (i+1)=I at *;generalize bG n v=d at *;by_cases a:fc d s.1=true
  .rw[T6 a]at j
   subst j;simp only[fc,L4]at a;exact Gy
  .rw[TZ a]at j
   subst j;simp only[fc,L4]at a;exact Gy
 .have k:i=l.length:=by omega
  subst k;exact Gy
  all_goals exact⟨rfl,rfl⟩
def FF(x y z:AV)(fb:Option cX):Option cX:=match x,y,z with
 |.pv (.val (.int .i64 a)),.pv (.val (.int .i64 b)),.pv (.val (.int .i64 c))=>some (.pv (Z (max a (max b c))),[])
 |_,_,_=>fb
@[simp] theorem NK(a b c:Int)(fb:Option cX):FF (.pv (.val (.int .i64 a))) (.pv (.val (.int .i64 b))) (.pv (.val (.int .i64 c))) fb=some (.pv (Z (max a (max b c))),[]):=rfl
@[simp] theorem SQ{ty:TypeId}{i:Array TypeId}{pos:String}(x y z:Operand):
 bF prog ⟨dst,.call ⟨.builtin .max,#[x,y,z],i⟩,ty,pos,aft,g⟩ ρ=FF (ρ x) (ρ y) (ρ z) (jv prog ⟨dst,.call ⟨.builtin .max,#[x,y,z],i⟩,ty,pos,aft,g⟩ ρ):=by
 unfold FF;split
 .rename_i a b c d e f
  refine eh (by simp[Op.operands,Call.operands,d,e,f,fp]) ?_;unfold execOp;simp[resolve,invoke,builtin,Builtin.max_,d,e,f,qA,fp,Builtin.max2,ah,dW]
  try omega
 .rfl
def mu(x y:Int):Int:=max (max (max (max 0 x) (-x)) y) (-y)
theorem IK(x y:Int)(o:-4611686018427387904<=x/\x<=4611686018427387904)(p:-4611686018427387904<=y/\y<=4611686018427387904):bk 215 (.sl [Z x,Z y]) (Z (mu x y)):=by
 have g:i64.wrap (-x)=-x:=aa;have j:i64.wrap (-y)=-y:=aa;have k:i64.wrap (0-x)=-x:=(aa (n:=0-x) (by omega) (by omega)).trans (by omega);have l:i64.wrap (0-y)=-y:=(aa (n:=0-y) (by omega) (by omega)).trans (by omega)
 have f0:∀a b c:Int,max a (max b c)=max (max a b) c:=λ_ _ _=>by omega
 have f2:mu x y=max 0 (max x (max (-x) (max y (-y)))):=by unfold mu;omega
 rw[f2];refine Dp func215 λC hP hN=>?_;refine GT trivial ?_;refine WP.loopN [] 2 (λi st=>st.t 6=.pv (.sl [Z x,Z y])/\st.t 7=.pv (Z 2)/\st.t 8=.pv (Z i)/\st.t 3=.pv (Z (if i=0 then 0 else if i=1 then max 0 (max x (-x))else max 0 (max x (max (-x) (max y (-y))))))) (by simp) ?_;rintro i st hi ⟨e,f,d,g3⟩
 have m:i=0\/i=1\/i=2:=by omega
 rcases m with rfl|rfl|rfl
 all_goals (simp at g3 d)
 .skip
  with_reducible repeat' (first|refine Sp.h ?_|((first|refine Ss.h ?_|(refine Sb.h ?_ ?_ ?_<;>(try intro hgd)<;>try exact Xy))<;>simp -implicitDefEqProofs (maxSteps:=2000000) [hP,hN,e,f,d,g3,g,j,k,l])|refine X2 ?_ ?_|(refine Xd ?_ ?_<;>intro hcd<;>try exact Xx))
  all_goals (try (first|omega|(simp;omega)))
 .skip
  with_reducible repeat' (first|refine Sp.h ?_|((first|refine Ss.h ?_|(refine Sb.h ?_ ?_ ?_<;>(try intro hgd)<;>try exact Xy))<;>simp -implicitDefEqProofs (maxSteps:=2000000) [hP,hN,e,f,d,g3,g,j,k,l])|refine X2 ?_ ?_|(refine Xd ?_ ?_<;>intro hcd<;>try exact Xx))
  all_goals (try (first|omega|(simp;omega)))
 .skip
  with_reducible repeat' (first|refine Sp.h ?_|((first|refine Ss.h ?_|(refine Sb.h ?_ ?_ ?_<;>(try intro hgd)<;>try exact Xy))<;>simp -implicitDefEqProofs (maxSteps:=2000000) [hP,hN,e,f,d,g3])|refine X2 ?_ ?_|(refine Xd ?_ ?_<;>intro hcd<;>try exact Xx))
set_option maxRecDepth 100000 in
@[simp] theorem PJ:fx prog 212:=by
 have hf:=func212;have nt:=ntmps212;have rs:=results212;exact AW
set_option maxRecDepth 100000 in
@[simp] theorem PK:fx prog 153:=by
 have hf:=func153;have nt:=ntmps153;have rs:=results153;exact JT
def dt(u v:Iv)(tot:Int):Int:=(mu (u.1-v.2) (u.2-v.1)+tot-1)/tot
def jf(m:List Int)(reach:Int):Nat->Int
 |0=>reach*reach
 |k+1=>jf m reach k-(m[k]?).getD 0*(m[k]?).getD 0
def eY(U V:av)(tot:Int):List Int:=[dt U.1 V.1 tot,dt U.2.1 V.2.1 tot,dt U.2.2 V.2.2 tot]
def oM(m:List Int)(reach:Int):Int:=if m.all (λx=>decide (x<=reach))then jf m reach 3 else -1
def oa(left right:List Int)(a:List av)(c:Int)(b:List av)(d:Int):Bool:=
 ed a left&&ed b right&&decide (bj left left.length=bj right right.length)&&bu c 0 1048576&&bu d 0 1048576
def lM(left right:List Int)(a:List av)(c:Int)(b:List av)(d:Int):Int:=
 if oa left right a c b d then oM (eY (dI a left left.length) (dI b right right.length) (bj left left.length)) (c+d)else 0
theorem uf{a:List av}(h:ed a w=true):rT 8 (dI a w w.length):=by
 simp only[ed,az,An,L4,TY]at h;obtain⟨⟨⟨⟨⟨g,i⟩,b⟩,j⟩,h5⟩,h6⟩:=h;obtain⟨⟨⟨a1,a2⟩,a3,a4⟩,⟨⟨b1,b2⟩,b3,b4⟩,⟨c,d⟩,e,f⟩:=yy b h5 w.length;refine⟨⟨⟨?_,?_⟩,?_,?_⟩,⟨⟨?_,?_⟩,?_,?_⟩,⟨?_,?_⟩,?_,?_⟩<;>omega
theorem CT{a:List av}(h:ed a w=true):1<=bj w w.length/\bj w w.length<=65536:=by
 simp only[ed,An,UD,Ve,Uc]at h;omega
theorem ug{y:Int}(a:-m<=x/\x<=m)(b:-m<=y/\y<=m):0<=mu x y/\mu x y<=m:=by
 unfold mu;omega
theorem wL{h:Int}(a:0<=h)(h1:h<=4503599627370496)(t1:1<=t)(t2:t<=65536):0<=(h+t-1)/t/\(h+t-1)/t<=4503599627370496:=by
 refine⟨V8 (by omega) (by omega),?_⟩
 have:(h+t-1)/t<4503599627370496+1:=Int.ediv_lt_of_lt_mul (by omega) (by
  have b:(4503599627370496+1)*1<=(4503599627370496+1)*t:=by omega
  omega)
 omega
theorem mG(a:0<=x)(h1:x<=m):0<=x*x/\x*x<=m*m:=⟨UZ a a,WG h1 h1 a (by omega)⟩
set_option maxRecDepth 4000 in
theorem PL(left right:List Int)(a:List av)(I:Int)(b:List av)(J:Int)(h1:left.length<=9223372036854775807)(h2:right.length<=9223372036854775807)(h3:a.length<=9223372036854775807)(h4:b.length<=9223372036854775807):Kk 154 (zs left) (zs right) (aH a) (Z I) (aH b) (Z J) (.tup [Z (lM left right a I b J),B (oa left right a I b J)]):=by
 have ca:=MC a left h3 h1;have cb:=MC b right h4 h2;have M:=Mt I;have ar:=Mt J;have z6:bP bA=V6 0 0 0 0 0 0:=rfl;have e:oa left right a I b J=(ed a left&&ed b right&&decide (bj left left.length=bj right right.length)&&bu I 0 1048576&&bu J 0 1048576):=rfl
 have i:lM left right a I b J=if oa left right a I b J then oM (eY (dI a left left.length) (dI b right right.length) (bj left left.length)) (I+J)else 0:=rfl
 cases Y:ed a left with
 |false=>
  rw[Y]at e;simp only[UB]at e;rw[e]at i;simp only[T3,Ud]at i;rw[e,i];simp only[fY,Y,T3,Ud,z6]at ca;cases hB:ed b right
  all_goals (simp only[fY,hB,T3,Ud,Ui,z6]at cb)
  .skip
   refine Dp func154 λC hP hN=>?_;exact Gy
  .skip
   generalize dI b right right.length=V at *;generalize bj right right.length=T2 at *;refine Dp func154 λC hP hN=>?_;exact Gy
 |true=>
 simp only[fY,Y,Ui]at ca;generalize hU:dI a left left.length=U at *;generalize hT:bj left left.length=T at *
 cases hB:ed b right with
 |false=>
  rw[Y,hB]at e;simp only[UB,Vl]at e;rw[e]at i;simp only[T3,Ud]at i;rw[e,i];simp only[fY,hB,T3,Ud,z6]at cb;refine Dp func154 λC hP hN=>?_;exact Gy
 |true=>
 simp only[fY,hB,Ui]at cb;rw[Y,hB]at e;simp only[Un]at e;generalize hV:dI b right right.length=V at *;generalize a7:bj right right.length=T2 at *;by_cases q:T=T2
 case neg=>
  have e1:(T !=T2)=true:=by simp[q]
  simp only[q,decide_false,UB]at e;rw[e]at i;simp only[T3,Ud]at i;rw[e,i];refine Dp func154 λC hP hN=>?_;exact Gy
 have e0:(T !=T2)=false:=by simp[q]
 simp only[q,VR,Un]at e
 cases L:bu I 0 1048576 with
 |false=>
  rw[L]at M e;simp only[UB]at e;rw[e]at i;simp only[T3,Ud]at i;rw[e,i];refine Dp func154 λC hP hN=>?_;exact Gy
 |true=>
 cases ad:bu J 0 1048576 with
 |false=>
  rw[L]at M e;rw[ad]at ar e;simp only[Vl]at e;rw[e]at i;simp only[T3,Ud]at i;rw[e,i];refine Dp func154 λC hP hN=>?_;exact Gy
 |true=>
 rw[L]at M e;rw[ad]at ar e;simp only[Vi]at e;rw[e]at i;simp only[Ui]at i;rw[e]
 have a8:rT 8 U:=by rw[<-hU];exact uf Y
 have ba:rT 8 V:=by rw[<-hV];exact uf hB
 have o:=CT Y;rw[hT]at o;subst q;clear hT a7;simp only[bu,An,L4]at L ad;generalize bq:I+J=c at *;have b0:i64.wrap c=c:=aa;have bs:=mG (x:=c) (m:=2097152) (by omega) (by omega);have bH:i64.wrap (c*c)=c*c:=aa;rw[i];refine Dp func154 λC hP hN=>?_;refine Gz ?_;refine WP.loopN [] 3 (λk st=>st.t 14=.ptr 14 0/\st.h 14=some (.box (b6 U) true false)/\st.t 17=.ptr 17 0/\st.h 17=some (.box (b6 V) true false)/\st.t 18=.pv (Z T)/\st.t 15=.pv (Z T)/\st.t 20=.pv (Z c)/\st.t 12=.ptr 12 0/\st.h 12=some (.box [.pv (Z (jf (eY U V T) c k))] true false)/\st.t 13=.ptr 13 0/\st.h 13=some (.box [.pv (B false)] true false)/\st.t 66=.pv (Z k)/\(-(k*4398046511104:Int)<=jf (eY U V T) c k/\jf (eY U V T) c k<=4398046511104)/\∀j<k,∀x,(eY U V T)[j]?=some x->0<=x/\x<=c) ?_ ?_
 .simp[jf]
  omega
 rintro k st hk ⟨P,u,R,v,S,Q,W,N,r,O,s,X,bc,hpr⟩;obtain⟨⟨⟨a1,a2⟩,a3,a4⟩,⟨⟨b1,b2⟩,b3,b4⟩,⟨c1,c2⟩,c3,c4⟩:=a8;obtain⟨⟨⟨d1,d2⟩,d3,d4⟩,⟨⟨e1,e2⟩,e3,e4⟩,⟨f1,f2⟩,f3,f4⟩:=ba;rcases eF hk with rfl|rfl|rfl|rfl
 .have D:-281474976710656<=U.1.1-V.1.2/\U.1.1-V.1.2<=281474976710656:=by omega
  have z:-281474976710656<=U.1.2-V.1.1/\U.1.2-V.1.1<=281474976710656:=by omega
  have cf:=IK (U.1.1-V.1.2) (U.1.2-V.1.1) (by omega) (by omega);have y:=ug D z;have a5:=wL y.1 (by omega) o.1 o.2;have hgd:dt U.1 V.1 T=(mu (U.1.1-V.1.2) (U.1.2-V.1.1)+T-1)/T:=rfl;have w1:i64.wrap (U.1.1-V.1.2)=U.1.1-V.1.2:=aa;have w2:i64.wrap (U.1.2-V.1.1)=U.1.2-V.1.1:=aa;generalize mu (U.1.1-V.1.2) (U.1.2-V.1.1)=f at *;have w3:i64.wrap (f+T)=f+T:=aa;have w4:i64.wrap (f+T-1)=f+T-1:=aa;have w5:(f+T-1).tdiv T=(f+T-1)/T:=Uk (by omega);have w6:i64.wrap ((f+T-1)/T)=(f+T-1)/T:=aa
  have w7:¬T=0:=by omega
  have w8:(T==0)=false:=by simp;omega
  by_cases F:c<dt U.1 V.1 T
  .have H:oM (eY U V T) c=-1:=by
    have G:¬dt U.1 V.1 T<=c:=by omega
    unfold oM eY;simp[G]
   rw[H];rw[hgd]at F;exact Gy
  .have n:=mG (x:=dt U.1 V.1 T) (m:=c) (by omega) (by omega)
   have p:jf (eY U V T) c (0+1)=jf (eY U V T) c 0-dt U.1 V.1 T*dt U.1 V.1 T:=by simp[jf,eY]
   have d:∀j<0+1,∀x,(eY U V T)[j]?=some x->0<=x/\x<=c:=λj hj x l=>by
    by_cases A:j<0
    .exact hpr j A x l
    .have:j=0:=by omega
     subst this
     have:x=dt U.1 V.1 T:=by simpa[eY]using l.symm
     omega
   generalize jf (eY U V T) c (0+1)=E' at *;generalize jf (eY U V T) c 0=E at *;subst p;rw[hgd]at F n;have w9:i64.wrap ((f+T-1)/T*((f+T-1)/T))=(f+T-1)/T*((f+T-1)/T):=aa;have K:i64.wrap (E-(f+T-1)/T*((f+T-1)/T))=E-dt U.1 V.1 T*dt U.1 V.1 T:=(aa (by omega) (by omega)).trans (by rw[hgd]);rw[<-hgd]at n
   have g:-(0+1:Nat)*4398046511104<=E-dt U.1 V.1 T*dt U.1 V.1 T/\E-dt U.1 V.1 T*dt U.1 V.1 T<=4398046511104:=by omega
   refine GT (zAe P u R v S Q W N r O s X w1 w2 (zAb w3 w4 w5 w6 w7 w8 w9 (gA K F))) ?_
   all_goals first|exact⟨g,d⟩|exact⟨g.1,g.2,d⟩|exact⟨by omega,λx l=>d 0 (by omega) x l⟩
 .have D:-281474976710656<=U.2.1.1-V.2.1.2/\U.2.1.1-V.2.1.2<=281474976710656:=by omega
  have z:-281474976710656<=U.2.1.2-V.2.1.1/\U.2.1.2-V.2.1.1<=281474976710656:=by omega
  have cf:=IK (U.2.1.1-V.2.1.2) (U.2.1.2-V.2.1.1) (by omega) (by omega);have y:=ug D z;have a5:=wL y.1 (by omega) o.1 o.2;have hgd:dt U.2.1 V.2.1 T=(mu (U.2.1.1-V.2.1.2) (U.2.1.2-V.2.1.1)+T-1)/T:=rfl;have w1:i64.wrap (U.2.1.1-V.2.1.2)=U.2.1.1-V.2.1.2:=aa;have w2:i64.wrap (U.2.1.2-V.2.1.1)=U.2.1.2-V.2.1.1:=aa;generalize mu (U.2.1.1-V.2.1.2) (U.2.1.2-V.2.1.1)=f at *;have w3:i64.wrap (f+T)=f+T:=aa;have w4:i64.wrap (f+T-1)=f+T-1:=aa;have w5:(f+T-1).tdiv T=(f+T-1)/T:=Uk (by omega);have w6:i64.wrap ((f+T-1)/T)=(f+T-1)/T:=aa
  have w7:¬T=0:=by omega
  have w8:(T==0)=false:=by simp;omega
  by_cases F:c<dt U.2.1 V.2.1 T
  .have H:oM (eY U V T) c=-1:=by
    have G:¬dt U.2.1 V.2.1 T<=c:=by omega
    unfold oM eY;simp[G]
   rw[H];rw[hgd]at F;exact Gy
  .have n:=mG (x:=dt U.2.1 V.2.1 T) (m:=c) (by omega) (by omega)
   have p:jf (eY U V T) c (1+1)=jf (eY U V T) c 1-dt U.2.1 V.2.1 T*dt U.2.1 V.2.1 T:=by simp[jf,eY]
   have d:∀j<1+1,∀x,(eY U V T)[j]?=some x->0<=x/\x<=c:=λj hj x l=>by
    by_cases A:j<1
    .exact hpr j A x l
    .have:j=1:=by omega
     subst this
     have:x=dt U.2.1 V.2.1 T:=by simpa[eY]using l.symm
     omega
   generalize jf (eY U V T) c (1+1)=E' at *;generalize jf (eY U V T) c 1=E at *;subst p;rw[hgd]at F n;have w9:i64.wrap ((f+T-1)/T*((f+T-1)/T))=(f+T-1)/T*((f+T-1)/T):=aa;have K:i64.wrap (E-(f+T-1)/T*((f+T-1)/T))=E-dt U.2.1 V.2.1 T*dt U.2.1 V.2.1 T:=(aa (by omega) (by omega)).trans (by rw[hgd]);rw[<-hgd]at n
   have g:-(1+1:Nat)*4398046511104<=E-dt U.2.1 V.2.1 T*dt U.2.1 V.2.1 T/\E-dt U.2.1 V.2.1 T*dt U.2.1 V.2.1 T<=4398046511104:=by omega
   refine GT (zAe P u R v S Q W N r O s X w1 w2 (zAb w3 w4 w5 w6 w7 w8 w9 (gA K F))) ?_
   all_goals first|exact⟨g,d⟩|exact⟨g.1,g.2,d⟩|exact⟨by omega,λx l=>d 0 (by omega) x l⟩
 .have D:-281474976710656<=U.2.2.1-V.2.2.2/\U.2.2.1-V.2.2.2<=281474976710656:=by omega
  have z:-281474976710656<=U.2.2.2-V.2.2.1/\U.2.2.2-V.2.2.1<=281474976710656:=by omega
  have cf:=IK (U.2.2.1-V.2.2.2) (U.2.2.2-V.2.2.1) (by omega) (by omega);have y:=ug D z;have a5:=wL y.1 (by omega) o.1 o.2;have hgd:dt U.2.2 V.2.2 T=(mu (U.2.2.1-V.2.2.2) (U.2.2.2-V.2.2.1)+T-1)/T:=rfl;have w1:i64.wrap (U.2.2.1-V.2.2.2)=U.2.2.1-V.2.2.2:=aa;have w2:i64.wrap (U.2.2.2-V.2.2.1)=U.2.2.2-V.2.2.1:=aa;generalize mu (U.2.2.1-V.2.2.2) (U.2.2.2-V.2.2.1)=f at *;have w3:i64.wrap (f+T)=f+T:=aa;have w4:i64.wrap (f+T-1)=f+T-1:=aa;have w5:(f+T-1).tdiv T=(f+T-1)/T:=Uk (by omega);have w6:i64.wrap ((f+T-1)/T)=(f+T-1)/T:=aa
  have w7:¬T=0:=by omega
  have w8:(T==0)=false:=by simp;omega
  by_cases F:c<dt U.2.2 V.2.2 T
  .have H:oM (eY U V T) c=-1:=by
    have G:¬dt U.2.2 V.2.2 T<=c:=by omega
    unfold oM eY;simp[G]
   rw[H];rw[hgd]at F;exact Gy
  .have n:=mG (x:=dt U.2.2 V.2.2 T) (m:=c) (by omega) (by omega)
   have p:jf (eY U V T) c (2+1)=jf (eY U V T) c 2-dt U.2.2 V.2.2 T*dt U.2.2 V.2.2 T:=by simp[jf,eY]
   have d:∀j<2+1,∀x,(eY U V T)[j]?=some x->0<=x/\x<=c:=λj hj x l=>by
    by_cases A:j<2
    .exact hpr j A x l
    .have:j=2:=by omega
     subst this
     have:x=dt U.2.2 V.2.2 T:=by simpa[eY]using l.symm
     omega
   generalize jf (eY U V T) c (2+1)=E' at *;generalize jf (eY U V T) c 2=E at *;subst p;rw[hgd]at F n;have w9:i64.wrap ((f+T-1)/T*((f+T-1)/T))=(f+T-1)/T*((f+T-1)/T):=aa;have K:i64.wrap (E-(f+T-1)/T*((f+T-1)/T))=E-dt U.2.2 V.2.2 T*dt U.2.2 V.2.2 T:=(aa (by omega) (by omega)).trans (by rw[hgd]);rw[<-hgd]at n
   have g:-(2+1:Nat)*4398046511104<=E-dt U.2.2 V.2.2 T*dt U.2.2 V.2.2 T/\E-dt U.2.2 V.2.2 T*dt U.2.2 V.2.2 T<=4398046511104:=by omega
   refine GT (zAe P u R v S Q W N r O s X w1 w2 (zAb w3 w4 w5 w6 w7 w8 w9 (gA K F))) ?_
   all_goals first|exact⟨g,d⟩|exact⟨g.1,g.2,d⟩|exact⟨by omega,λx l=>d 0 (by omega) x l⟩
 .have a6:oM (eY U V T) c=jf (eY U V T) c 3:=by
   have:(eY U V T).all (λx=>decide (x<=c))=true:=by
    rw[TY];intro x l;obtain⟨j,hj,l⟩:=Vk.1 l
    have bb:j<3:=by simpa[eY]using hj
    have:=hpr j bb x (by rw[an hj,l]);simp;omega
   unfold oM;rw[this];rfl
  rw[a6];exact Gy
theorem SR(left right:List Int)(a:List av)(c:Int)(b:List av)(d:Int)(h1:left.length<=9223372036854775807)(f:right.length<=9223372036854775807)(g:a.length<=9223372036854775807)(i:b.length<=9223372036854775807):Kk 98 (zs left) (zs right) (aH a) (Z c) (aH b) (Z d) (B (oa left right a c b d&&decide (0<=lM left right a c b d))):=by
 have j:=PL left right a c b d h1 f g i;generalize oa left right a c b d=k at *;generalize lM left right a c b d=e at *;cases k
 all_goals (by_cases h:0<=e)
 all_goals
  refine Dp func98 λC hP hN=>?_;exact Gy
def mH(x:Int):Int:=dM (max x (-x)) 65536*dM (max x (-x)) 65536
def oN(v:Vc)(rho:Int):Bool:=decide (mH v.1+mH v.2.1+mH v.2.2<=rho*rho)
theorem rh(h:-35184372088832<=x/\x<=35184372088832):(0<=dM (max x (-x)) 65536/\dM (max x (-x)) 65536<=536870912)/\0<=mH x/\mH x<=288230376151711744:=by
 have a:0<=dM (max x (-x)) 65536/\dM (max x (-x)) 65536<=536870912:=by unfold dM;omega
 have b:=mG a.1 a.2;exact⟨a,b.1,by unfold mH;omega⟩
theorem PO(v:Vc)(rho:Int)(j:fv 35184372088832 v)(e:0<=rho/\rho<=2097152):aO 205 (ax v) (Z rho) (B (oN v rho)):=by
 obtain⟨v1,v2,v3⟩:=j;have s:=CS (max v.1 (-v.1)) (by omega) (by omega);have u:=CS (max v.2.1 (-v.2.1)) (by omega) (by omega);have x:=CS (max v.2.2 (-v.2.2)) (by omega) (by omega);have p:=rh v1;have q:=rh v2;have r:=rh v3;have E:=mG e.1 e.2;have z:i64.wrap (0-v.1)=-v.1:=(aa (n:=0-v.1) (by omega) (by omega)).trans (by omega);have A:i64.wrap (0-v.2.1)=-v.2.1:=(aa (n:=0-v.2.1) (by omega) (by omega)).trans (by omega);have D:i64.wrap (0-v.2.2)=-v.2.2:=(aa (n:=0-v.2.2) (by omega) (by omega)).trans (by omega);have l:i64.wrap (-v.1)=-v.1:=(aa (n:=-v.1) (by omega) (by omega));have m:i64.wrap (-v.2.1)=-v.2.1:=(aa (n:=-v.2.1) (by omega) (by omega));have o:i64.wrap (-v.2.2)=-v.2.2:=(aa (n:=-v.2.2) (by omega) (by omega));have hd:oN v rho=decide (mH v.1+mH v.2.1+mH v.2.2<=rho*rho):=rfl;rw[hd];have d1:mH v.1=dM (max v.1 (-v.1)) 65536*dM (max v.1 (-v.1)) 65536:=rfl;have d2:mH v.2.1=dM (max v.2.1 (-v.2.1)) 65536*dM (max v.2.1 (-v.2.1)) 65536:=rfl;have d3:mH v.2.2=dM (max v.2.2 (-v.2.2)) 65536*dM (max v.2.2 (-v.2.2)) 65536:=rfl;generalize mH v.1=a at *;generalize mH v.2.1=b at *;generalize mH v.2.2=c at *;generalize dM (max v.1 (-v.1)) 65536=t1 at *;generalize dM (max v.2.1 (-v.2.1)) 65536=t2 at *;generalize dM (max v.2.2 (-v.2.2)) 65536=t3 at *;generalize i:rho*rho=f at *;have F:i64.wrap (t1*t1)=a:=(aa (by rw[<-d1];omega) (by rw[<-d1];omega)).trans d1.symm;have G:i64.wrap (t2*t2)=b:=(aa (by rw[<-d2];omega) (by rw[<-d2];omega)).trans d2.symm;have H:i64.wrap (t3*t3)=c:=(aa (by rw[<-d3];omega) (by rw[<-d3];omega)).trans d3.symm;have I:i64.wrap f=f:=aa;have J:i64.wrap a=a:=aa;have K:i64.wrap (a+b)=a+b:=aa;have L:i64.wrap (a+b+c)=a+b+c:=aa;clear d1 d2 d3 p q r;refine Dp func205 λC hP hN=>?_;refine Gz ?_;refine WP.loopN [] 3 (λk st=>st.t 9=.pv (ax v)/\st.t 10=.pv (Z k)/\st.t 1=.pv (Z rho)/\st.t 5=.pv (Z (if k=0 then 0 else if k=1 then a else if k=2 then a+b else a+b+c))) (by simp) ?_;rintro k st g ⟨y,d,g1,g5⟩;rcases eF g with rfl|rfl|rfl|rfl
 all_goals (simp at g5 d)
 all_goals
  exact Gy
def lO(x s:Vc):Int:=if bG x (bg x s)<=0 then 0 else min 256 (bG x (bg x s)/max 1 (bG (bg x s) (bg x s)/256))
theorem rF{w:Vc}(c:fv a v)(d:fv b w):fv (a+b) (bg v w):=by
 obtain⟨v1,v2,v3⟩:=c;obtain⟨e,f,g⟩:=d;refine⟨?_,?_,?_⟩<;>(simp only[bg];omega)
theorem mb(x s:Vc):0<=lO x s/\lO x s<=256:=by
 unfold lO;split
 .omega
 .rename_i h
  have a:0<=bG x (bg x s)/max 1 (bG (bg x s) (bg x s)/256):=V8 (by omega) (by omega);omega
theorem jJ(h:fv a v)(c:a<=b):fv b v:=by
 obtain⟨v1,v2,v3⟩:=h;exact⟨by omega,by omega,by omega⟩
theorem zF(v:Vc):0<=bG v v:=by
 have h:∀x:Int,0<=x*x:=λx=>by
  rcases Wk 0 x with h|h
  .exact UZ h h
  .have:=UZ (show 0<=-x by omega) (show 0<=-x by omega)
   rw[Int.neg_mul_neg]at this;exact this
 have a:=h v.1;have b:=h v.2.1;have c:=h v.2.2;unfold bG;omega
theorem PP(x s:Vc)(b:fv 536870912 x)(hs:fv 536870912 s):aO 210 (ax x) (ax s) (Z (lO x s)):=by
 have a:=rF b hs;have o:=IL x s (jJ b (by decide)) (jJ hs (by decide));have k:=Ap x (bg x s) 536870912 1073741824 b a (by decide);have l:=Ap (bg x s) (bg x s) 1073741824 1073741824 a a (by decide);obtain⟨g,i,j⟩:=lN (m:=536870912) (n:=1073741824) b a;obtain⟨t1,t2,t3⟩:=lN (m:=1073741824) (n:=1073741824) a a
 have r:-1729382256910270464<=bG x (bg x s)/\bG x (bg x s)<=1729382256910270464:=by unfold bG;omega
 have y:bG (bg x s) (bg x s)<=3458764513820540928:=by unfold bG;omega
 have c:=zF (bg x s)
 have hp:lO x s=if bG x (bg x s)<=0 then 0 else min 256 (bG x (bg x s)/max 1 (bG (bg x s) (bg x s)/256)):=rfl
 rw[hp];clear g i j t1 t2 t3 a;generalize bG x (bg x s)=u at *;generalize bG (bg x s) (bg x s)=v at *;generalize bg x s=e at *;by_cases d:u<=0
 .rw[T6 d]
  refine Dp func210 λC hP hN=>?_;exact Gy
 .rw[TZ d]
  have a1:v.tdiv 256=v/256:=Uk c;have a2:i64.wrap (v/256)=v/256:=aa
  have q:1<=max 1 (v/256):=by omega
  generalize f:max 1 (v/256)=m at *;have a3:u.tdiv m=u/m:=Uk (by omega);have p:u/m<=u:=WN m (by omega);have h5:0<=u/m:=V8 (by omega) (by omega);have a4:i64.wrap (u/m)=u/m:=aa
  have a5:¬m=0:=by omega
  have a6:(m==0)=false:=by simp;omega
  refine Dp func210 λC hP hN=>?_;exact Gy
def eC(w:List Int)(t:Int)(i:Nat):List Int:=w.mapIdx λj k=>if j<i then k-k*t/256 else k
def eD(w:List Int)(t:Int):Nat->Int
 |0=>0
 |i+1=>eD w t i+(w[i]?).getD 0*t/256
def kg(w:List Int)(q:Nat)(t:Int):List Int:=(eC w t w.length).set q (((eC w t w.length)[q]?).getD 0+eD w t w.length)
theorem nA(w:List Int)(t:Int)(i:Nat):(eC w t i).length=w.length:=by simp[eC]
theorem jK(w:List Int)(t:Int)(i j:Nat):(eC w t i)[j]?=(w[j]?).map λk=>if j<i then k-k*t/256 else k:=by simp[eC,List.getElem?_mapIdx]
theorem uj(w:List Int)(t:Int):eC w t 0=w:=by
 apply UF;intro j;rw[jK];cases w[j]?<;>simp
theorem uk{k:Int}(a:w[i]?=some k):eC w t (i+1)=(eC w t i).set i (k-k*t/256):=by
 apply UF;intro j;rw[T9,jK,jK,nA];by_cases e:i=j
 .subst e
  obtain⟨h,_⟩:=th.1 a;rw[a];simp[h]
 .rw[TZ e]
  cases w[j]? with
  |none=>rfl
  |some x=>
   simp only[UL]
   congr 1
   by_cases h:j<i
   .rw[T6 h,T6 (by omega)]
   .rw[TZ h,TZ (by omega)]
theorem yk(w:List Int):∀i,bj w i=(w.take i).sum
 |0=>by simp[bj]
 |i+1=>by
  rw[List.take_succ]
  cases h:w[i]? with
  |none=>simp[bj,h,yk w i]
  |some k=>simp[bj,h,yk w i]
theorem ym(w:List Int):bj w w.length=w.sum:=by rw[yk,VX]
theorem Aq{y:Int}(h:w[q]?=some y):(w.set q x).sum=w.sum-y+x:=by
 induction w generalizing q with
 |nil=>simp at h
 |cons a r ih=>
  cases q with
  |zero=>simp at h;subst h;simp;omega
  |succ q=>simp at h;simp only[List.set_cons_succ,List.sum_cons,ih h];omega
theorem CU(w:List Int)(t:Int):∀i,i<=w.length->(eC w t i).sum=w.sum-eD w t i
 |0,_=>by simp[uj,eD]
 |i+1,h=>by
  have a:w[i]?=some w[i]:=an (by omega)
  have b:(eC w t i)[i]?=some w[i]:=by rw[jK,a];simp
  rw[uk a,Aq b,CU w t i (by omega)];simp only[eD,a,Ug];omega
theorem KS(hq:q<w.length):(kg w q t).sum=w.sum:=by
 have b:=nA w t w.length;have a:(eC w t w.length)[q]?=some ((eC w t w.length)[q]'(by omega)):=an (by omega);unfold kg;rw[Aq a,CU w t _ (T8 _),a];simp only[Ug];omega
theorem oO{k:Int}(b:0<=k)(c:0<=t)(a:t<=256):0<=k*t/\k*t<=k*256/\0<=k*t/256/\k*t/256<=k:=by
 have d:0<=k*t:=UZ b c;have e:k*t<=k*256:=U5 a b;omega
theorem oP{w:List Int}{t:Int}(c:∀k∈w,0<=k)(b:0<=t)(a:t<=256):∀i,0<=eD w t i/\eD w t i<=bj w i
 |0=>by simp[eD,bj]
 |i+1=>by
  have ih:=oP c b a i
  cases h:w[i]? with
  |none=>simp[eD,bj,h];omega
  |some k=>
   have:=oO (c k (Is h)) b a;simp only[eD,bj,h,Ug];omega
theorem ri(w:List Int)(q:Nat)(t:Int):(kg w q t).length=w.length:=by simp[kg,nA]
theorem CV(g:WgOk w)(hq:q<w.length)(m:0<=t)(d:t<=256):WgOk (kg w q t):=by
 constructor
 .intro k l
  obtain⟨j,f,rfl⟩:=Vk.1 l
  have a:j<w.length:=by rw[ri]at f;exact f
  have i:w[j]?=some w[j]:=an a;have hp:=oO (g.pos _ (Ul a)) m d
  have c:(eC w t w.length)[j]?=some (w[j]-w[j]*t/256):=by rw[jK,i];simp[a]
  have o:=oP g.pos m d w.length;generalize n:(kg w q t)[j]=x
  have b:(kg w q t)[j]?=some x:=by rw[an f,n]
  clear n l;unfold kg at b;rw[T9]at b;by_cases e:q=j
  .subst e
   rw[T6 rfl,T6 (by rw[nA];exact a),c]at b;simp only[Ug,T4]at b;omega
  .rw[TZ e,c]at b
   simp only[T4]at b;omega
 .rw[ym,KS hq,<-ym];exact g.tot
theorem Md(l:List Vc)(w:List Int)(q:Nat)(t:Int)(h8:w.length<=8)(c:WgOk w)(hq:q<w.length)(n:0<=t)(a:t<=256):E1 prog 211 [.agg [.pv (aV l),.arr 2000000 w.length],.pv (Z q),.pv (Z t)] [(2000000,.row 2 1 (w.map Z) 0)] [(2000000,.row 2 1 ((kg w q t).map Z) 0)] (.tup []):=by
 refine D4 func211 rfl (by kernel_rfl) (by simp[f211]) ?_ ?_
 .constructor
  .rfl
  .simp
  .intro k b h;simp at h;obtain⟨rfl,rfl⟩:=h;rfl
  .intro k b h;simp at h;obtain⟨rfl,rfl⟩:=h;rfl
  .intro k b b' h O
   have L:=fB h;have M:=fB O;simp at L M;obtain⟨rfl,rfl⟩:=L;obtain⟨_,rfl⟩:=M;simp[tB,ri]
 intro C hP hN;simp only[f211]at hN|-;refine GT (be @JE.eq_1 @bV.eq_1 @bV.eq_2) ?_;refine WP.loopN [] w.length (λi st=>st.t 3=.ptr 3 0/\st.h 3=some (.box [.pv (aV l),.arr 2000000 w.length] true false)/\st.t 11=.arr 2000000 w.length/\st.t 12=.pv (Z w.length)/\st.t 13=.pv (Z i)/\st.t 6=.pv (Z (eD w t i))/\st.t 1=.pv (Z q)/\st.t 2=.pv (Z t)/\st.h 2000000=some (.row 2 1 ((eC w t i).map Z) 0)) (by simp[uj,eD]) ?_;rintro i st hi ⟨g3,v,r,s,u,N,g1,g2,x⟩;have f:=nA w t i;by_cases j:i<w.length
 .have H:=am j (by omega)
  generalize I:w[i]=k at *
  have D:w[i]?=some k:=by rw[an j,I]
  have g:(eC w t i)[i]?=some k:=by rw[jK,D];simp
  have z:=c.pos k (Is D);have hp:=oO z n a;have G:=oP c.pos n a (i+1);have S:=oP c.pos n a i;have hm:=iw c.pos (show i+1<=w.length by omega);have A:=c.tot;have F:=uk (t:=t) D
  have y:eD w t (i+1)=eD w t i+k*t/256:=by simp only[eD,D,Ug]
  have P:k<=65536:=by
   have a1:=m8 D;have a2:=rE c.pos i;omega
  rw[y]at G;generalize eD w t (i+1)=L' at *;generalize eD w t i=o at *;generalize eC w t (i+1)=R' at *;generalize eC w t i=R at *;subst y;subst F;have X:i64.wrap (k*t)=k*t:=aa;have Y:(k*t).tdiv 256=k*t/256:=Uk (by omega);generalize k*t/256=p at *;have u3:i64.wrap p=p:=aa;have u4:i64.wrap (k-p)=k-p:=aa;have K:i64.wrap (o+p)=o+p:=aa
  have d:i<R.length:=by omega
  have m:∀h,R[i]'h=k:=λh=>by rw[an h]at g;exact UJ g
  with_reducible repeat' (first|refine Sp.h ?_|((first|refine Ss.h ?_|(refine Sb.h ?_ ?_ ?_<;>(try intro hgd)<;>try exact Xy))<;>simp -implicitDefEqProofs (maxSteps:=2000000) [hP,hN,g3,v,r,s,u,N,g1,g2,x,f,j,d,g,m,X,Y,u3,u4,K,H])|refine X2 ?_ ?_|(refine Xd ?_ ?_<;>intro hcd<;>try exact Xx))
 .have E:i=w.length:=by omega
  subst E;have T:=oP c.pos n a w.length;have U:=CV c hq n a;have hgd:kg w q t=(eC w t w.length).set q (((eC w t w.length)[q]?).getD 0+eD w t w.length):=rfl;have B:w[q]?=some w[q]:=an hq;have V:=oO (c.pos _ (Ul hq)) n a
  have e:(eC w t w.length)[q]?=some (w[q]-w[q]*t/256):=by rw[jK,B];simp[hq]
  have W:w[q]<=65536:=by
   have a1:=m8 B;have a2:=rE c.pos q;have a3:=iw c.pos (show q+1<=w.length by omega);have a4:=c.tot;omega
  have A:=c.tot;rw[e]at hgd;simp only[Ug]at hgd
  have Q:0<=w[q]-w[q]*t/256/\w[q]-w[q]*t/256<=65536:=by omega
  generalize w[q]-w[q]*t/256=J at *;rw[hgd];generalize eC w t w.length=R at *;generalize eD w t w.length=o at *
  have d:q<R.length:=by omega
  have m:∀h,R[q]'h=J:=λh=>by rw[an h]at e;exact UJ e
  have K:i64.wrap (J+o)=J+o:=aa
  with_reducible repeat' (first|refine Sp.h ?_|((first|refine Ss.h ?_|(refine Sb.h ?_ ?_ ?_<;>(try intro hgd)<;>try exact Xy))<;>simp -implicitDefEqProofs (maxSteps:=2000000) [hP,hN,g3,v,r,s,u,N,g1,g2,x,f,hq,d,e,m,K])|refine X2 ?_ ?_|(refine Xd ?_ ?_<;>intro hcd<;>try exact Xx))
  all_goals exact⟨rfl,⟨_,rfl,_,rfl⟩,by intro kb h;simp at h;subst h;simp⟩
def eE(A:List Vc)(w:List Int)(a:List Vc)(v:List Int):Vc:=bg (dm A w A.length) (dm a v a.length)
def jg(t:Vc):Vc:=(t.1.tdiv 65536,t.2.1.tdiv 65536,t.2.2.tdiv 65536)
structure NSt where
 w:List Int
 v:List Int
 n:Vc
 r:Nat
inductive NEnd where
 |stop(kind:Int)(s:NSt)
 |step(s:NSt)
variable {s:NSt}
def oQ(A a:List Vc)(rho:Int)(steps:Nat)(s:NSt):NEnd:=
 if oN (eE A s.w a s.v) rho=true then .stop 2 s
 else if nz (bE (jg (eE A s.w a s.v)))=false then .stop 0 ⟨s.w,s.v,bE (jg (eE A s.w a s.v)),s.r⟩
 else if fX (bE (jg (eE A s.w a s.v)))*rho<(dk fa (bE (jg (eE A s.w a s.v))) A).1-(dk fc (bE (jg (eE A s.w a s.v))) a).1 then .stop 1 ⟨s.w,s.v,bE (jg (eE A s.w a s.v)),s.r⟩
 else if s.r=steps then .stop 0 ⟨s.w,s.v,bE (jg (eE A s.w a s.v)),s.r⟩
 else if lO (jg (eE A s.w a s.v)) (bg ((A[(dk fa (bE (jg (eE A s.w a s.v))) A).2]?).getD (0,0,0)) ((a[(dk fc (bE (jg (eE A s.w a s.v))) a).2]?).getD (0,0,0)))=0 then .stop 0 ⟨s.w,s.v,bE (jg (eE A s.w a s.v)),s.r⟩
 else .step ⟨kg s.w (dk fa (bE (jg (eE A s.w a s.v))) A).2 (lO (jg (eE A s.w a s.v)) (bg ((A[(dk fa (bE (jg (eE A s.w a s.v))) A).2]?).getD (0,0,0)) ((a[(dk fc (bE (jg (eE A s.w a s.v))) a).2]?).getD (0,0,0)))),kg s.v (dk fc (bE (jg (eE A s.w a s.v))) a).2 (lO (jg (eE A s.w a s.v)) (bg ((A[(dk fa (bE (jg (eE A s.w a s.v))) A).2]?).getD (0,0,0)) ((a[(dk fc (bE (jg (eE A s.w a s.v))) a).2]?).getD (0,0,0)))),bE (jg (eE A s.w a s.v)),s.r+1⟩
def kH(A b:List Vc)(rho:Int)(steps:Nat):Nat->NSt->Int×NSt
 |0,s=>(0,s)
 |f+1,s=>match oQ A b rho steps s with
  |.stop k a=>(k,a)
  |.step a=>kH A b rho steps f a
theorem Hi{t:Vc}(h:fv 35184372088832 t):fv 536870912 (jg t):=by
 have a:∀x:Int,-35184372088832<=x/\x<=35184372088832->-536870912<=x.tdiv 65536/\x.tdiv 65536<=536870912:=λx c=>by
  rcases Wk 0 x with b|b
  .rw[Uk b];omega
  .have e:x.tdiv 65536=-((-x).tdiv 65536):=by rw[Int.neg_tdiv,Int.neg_neg]
   rw[e,Uk (by omega)];omega
 exact⟨a _ h.1,a _ h.2.1,a _ h.2.2⟩
structure NsOk(A B':List Vc)(s:NSt):Prop where
 w:WgOk s.w
 v:WgOk s.v
 wl:s.w.length=A.length
 vl:s.v.length=B'.length
theorem jY:fI l=true↔1<=l.length/\l.length<=8/\l.all (aC 268435456)=true:=by
 simp only[fI,An,L4,and_assoc]
theorem CW(a:fI A=true)(b:fI B'=true)(hs:NsOk A B' s):fv 35184372088832 (eE A s.w B' s.v):=by
 rw[jY]at a b;have c:=jX a.2.2 hs.w A.length (by rw[hs.wl];exact T8 _);have d:=jX b.2.2 hs.v B'.length (by rw[hs.vl];exact T8 _);exact rF c d
theorem nB{n:Vc}(a:1<=l.length):(dk bet n l).2<l.length:=ui a _
abbrev Oz(A:List Vc)(c:Nat)(a:List Vc)(b:Nat)(n:Vc)(r:Nat):List AV:=[.pv (aV A),.arr 2000000 c,.pv (aV a),.arr 2000001 b,.pv (Z n.1),.pv (Z n.2.1),.pv (Z n.2.2),.pv (Z r)]
abbrev J2(A a:List Vc)(s:NSt):List (Nat×Blk):=[(1000000,.box (Oz A s.w.length a s.v.length s.n s.r) false false),(2000000,.row 2 1 (s.w.map Z) 0),(2000001,.row 2 1 (s.v.map Z) 0)]
theorem zG:∀(k:Nat)(v:Vc),fv (16384*((2^k:Nat):Int)) v->aC 16384 (kQ k v)=true
 |0,v,h=>by
  obtain⟨a,b,c⟩:=h;simp only[kQ];rw[cD,bm,bm,bm];simp only[Nat.pow_zero]at a b c;exact⟨by omega,by omega,by omega⟩
 |k+1,v,h=>by
  simp only[kQ];split
  .assumption
  .refine zG k _ (Dj ?_)
   have e:2*(16384*((2^k:Nat):Int))=16384*((2^(k+1):Nat):Int):=by rw[WA];omega
   rw[e];exact h
theorem Bc(v:Vc)(h:fv 1099511627776 v):aC 16384 (bE v)=true:=zG 64 v (jJ h (by decide))
theorem um{rho:Int}{steps:Nat}(b:fI A=true)(c:fI B'=true)(hs:NsOk A B' s):(∀k a,oQ A B' rho steps s=.stop k a->NsOk A B' a)/\∀a,oQ A B' rho steps s=.step a->NsOk A B' a:=by
 rw[jY]at b c;unfold oQ;refine⟨λk a h=>?_,λa h=>?_⟩
 .repeat' split at h
  all_goals first
   |(injection h with _ h;subst h;exact hs)
   |(injection h with _ h;subst h;exact⟨hs.w,hs.v,hs.wl,hs.vl⟩)
   |cases h
 .repeat' split at h
  all_goals first
   |cases h;done
   |(injection h with h
     subst h
     exact⟨CV hs.w (by rw[hs.wl];exact nB b.1) (mb _ _).1 (mb _ _).2,CV hs.v (by rw[hs.vl];exact nB c.1) (mb _ _).1 (mb _ _).2,by rw[ri];exact hs.wl,by rw[ri];exact hs.vl⟩)
theorem un{A a:List Vc}{rho:Int}{steps:Nat}(c:fI A=true)(d:fI a=true):∀(f:Nat)(s:NSt),NsOk A a s->NsOk A a (kH A a rho steps f s).2
 |0,s,b=>b
 |f+1,s,b=>by
  have h:=um (rho:=rho) (steps:=steps) c d b;simp only[kH];split
  .rename_i k g e;exact h.1 _ _ e
  .rename_i g e;exact un c d f g (h.2 _ e)
theorem su{n p:Vc}(hn:fv 16384 n)(hp:fv 268435456 p):-13194139533312<=bG n p/\bG n p<=13194139533312:=by
 obtain⟨a,b,c⟩:=lN (m:=16384) (n:=268435456) hn hp;unfold bG;omega
theorem Bd{bet:Int->Int->Bool}{n p0:Vc}{l:List Vc}(hn:fv 16384 n)(hp:fv 268435456 p0)(a:l.all (aC 268435456)=true):∀i,-13194139533312<=(dF bet n p0 l i).1/\(dF bet n p0 l i).1<=13194139533312
 |0=>su hn hp
 |i+1=>by
  have ih:=Bd (bet:=bet) hn hp a i;simp only[dF];split
  .rename_i v b
   have:=su hn (eM (TY.1 a v (Is b)));split
   .exact this
   .exact ih
  .exact ih
theorem vM(h:aC 16384 v=true):fv 16384 v:=by
 rw[cD,bm,bm,bm]at h;exact⟨⟨by omega,by omega⟩,⟨by omega,by omega⟩,⟨by omega,by omega⟩⟩
theorem qK{n:Vc}(hn:aC 16384 n=true)(a:l.all (aC 268435456)=true):-13194139533312<=(dk bet n l).1/\(dk bet n l).1<=13194139533312:=by
 refine Bd (vM hn) ?_ a _
 cases h:l[0]? with
 |none=>simp[fv]
 |some p=>exact eM (TY.1 a p (Is h))
theorem Me{s':NSt}(hs:NsOk A B' s)(a:NsOk A B' s'):OkG (J2 A B' s) (J2 A B' s'):=by
 constructor
 .rfl
 .simp
 .intro k b h
  simp only[Uq,Ue,Uw,UV]at h;rcases h with⟨rfl,rfl⟩|⟨rfl,rfl⟩|⟨rfl,rfl⟩
  all_goals (simp[j7,mV])
 .intro k b h
  simp only[Uq,Ue,Uw,UV]at h;rcases h with⟨rfl,rfl⟩|⟨rfl,rfl⟩|⟨rfl,rfl⟩
  all_goals (simp[j7,mV])
 .intro k b g h f
  have d:=fB h;have c:=fB f;simp only[Uq,Ue,Uw,UV]at d c;rcases d with⟨rfl,rfl⟩|⟨rfl,rfl⟩|⟨rfl,rfl⟩
  .rcases c with⟨_,rfl⟩|⟨e,_⟩|⟨e,_⟩
   .rfl
   .exact absurd e (by decide)
   .exact absurd e (by decide)
  .rcases c with⟨e,_⟩|⟨_,rfl⟩|⟨e,_⟩
   .exact absurd e (by decide)
   .simp[tB,hs.wl,a.wl]
   .exact absurd e (by decide)
  .rcases c with⟨e,_⟩|⟨e,_⟩|⟨_,rfl⟩
   .exact absurd e (by decide)
   .exact absurd e (by decide)
   .simp[tB,hs.vl,a.vl]
set_option maxRecDepth 4000 in
theorem PQ(A l:List Vc)(rho:Int)(steps:Nat)(s0:NSt)(hA:fI A=true)(hB:fI l=true)(hr:0<=rho/\rho<=2097152)(b1:steps<=64)(hs:NsOk A l s0)(h0:s0.r=0):E1 prog 151 [.ptr 1000000 0,.pv (Z rho),.pv (Z steps)] (J2 A l s0) (J2 A l (kH A l rho steps (steps+1) s0).2) (Z (kH A l rho steps (steps+1) s0).1):=by
 have a1:=un (rho:=rho) (steps:=steps) hA hB (steps+1) s0 hs;generalize a2:kH A l rho steps (steps+1) s0=RR at *;have m:=jY.1 hA;have o:=jY.1 hB;refine D4 func151 rfl (by kernel_rfl) (by simp[f151]) (Me hs a1) ?_;intro C hP hN;simp only[f151]at hN|-;refine GT (be @JE.eq_1 @bV.eq_1 @bV.eq_2) ?_;refine WP.loopN [7,8,9] steps (λi st=>∃s:NSt,NsOk A l s/\s.r=i/\kH A l rho steps (steps+1-i) s=RR/\st.t 0=.ptr 1000000 0/\st.t 1=.pv (Z rho)/\st.t 2=.pv (Z steps)/\st.h 7=none/\st.h 8=none/\st.h 9=none/\st.h 1000000=some (.box (Oz A s.w.length l s.v.length s.n s.r) false false)/\st.h 2000000=some (.row 2 1 (s.w.map Z) 0)/\st.h 2000001=some (.row 2 1 (s.v.map Z) 0)) (by refine⟨s0,hs,h0,a2,?_⟩;simp) ?_;rintro i st hi ⟨s,hs,b0,c,g0,g1,g2,p,u,y,j,e,f⟩;have ar:=CW hA hB hs;have J:=Hi ar;have V:=jJ J (show(536870912:Int)<=1099511627776 by decide);have P:=Bc _ V;rw[show steps+1-i=(steps-i)+1 by omega]at c;simp only[kH]at c;have d:oQ A l rho steps s=_:=rfl
 conv at d=>rhs;unfold oQ
 have c1:=Mc A s.w m.2.1 hs.wl m.2.2 hs.w;have c2:=Mc l s.v o.2.1 hs.vl o.2.2 hs.v;have a6:=jX m.2.2 hs.w A.length (by rw[hs.wl];exact T8 _);have a7:=jX o.2.2 hs.v l.length (by rw[hs.vl];exact T8 _);have c3:=IL _ _ (jJ a6 (by decide)) (jJ a7 (by decide));have a8:bg (dm A s.w A.length) (dm l s.v l.length)=eE A s.w l s.v:=rfl;rw[a8]at c3;have c4:=PO _ rho ar hr;have a5:=um (rho:=rho) (steps:=steps) hA hB hs;generalize eE A s.w l s.v=T at *;have c5:=Mx _ V;have I:jg T=(T.1.tdiv 65536,T.2.1.tdiv 65536,T.2.2.tdiv 65536):=rfl
 cases O:oN T rho with
 |true=>
  rw[O]at c4;rw[T6 O]at d;rw[d]at c;simp only at c;subst c;refine GT (zAb g0 g1 g2 p u y j (gA e f)) ?_
  all_goals exact⟨rfl,⟨_,rfl,_,rfl⟩,by intro kb h;simp only[Uq,Uw,UV]at h;rcases h with rfl|rfl|rfl<;>simp[j,e,f]⟩
 |false=>
  rw[O]at c4;rw[TZ (by rw[O];simp)]at d
  have L:i64.wrap (T.1.tdiv 65536)=T.1.tdiv 65536:=by have:=J.1;rw[I]at this;simp only at this;exact aa (by omega) (by omega)
  have M:i64.wrap (T.2.1.tdiv 65536)=T.2.1.tdiv 65536:=by have:=J.2.1;rw[I]at this;simp only at this;exact aa (by omega) (by omega)
  have N:i64.wrap (T.2.2.tdiv 65536)=T.2.2.tdiv 65536:=by have:=J.2.2;rw[I]at this;simp only at this;exact aa (by omega) (by omega)
  generalize bE (jg T)=n at *
  cases Q:nz n with
  |false=>
   rw[T6 Q]at d;rw[d]at c;simp only at c;subst c;rw[Q,I]at c5;refine GT (zAd g0 g1 g2 p u y j e f L M N) ?_
   all_goals exact⟨rfl,⟨_,rfl,_,rfl⟩,by intro kb h;simp only[Uq,Uw,UV]at h;rcases h with rfl|rfl|rfl<;>simp[j,e,f]⟩
  |true=>
   rw[TZ (by rw[Q];simp)]at d;have c6:=PM n A s.w P m.1 m.2.1 m.2.2;have c7:=PN n l s.v P o.1 o.2.1 o.2.2;have c8:=My n;have hq:=uE n;have l1:=qK (bet:=fa) P m.2.2;have l2:=qK (bet:=fc) P o.2.2;have X:=nB (bet:=fa) (n:=n) m.1;have Y:=nB (bet:=fc) (n:=n) o.1;generalize dk fa n A=lo at *;generalize dk fc n l=F at *;generalize fX n=q at *;have bH:=bQ (a:=q) (b:=rho) 32768 2097152 (by omega) (by omega) (by omega) (by omega);have S:i64.wrap (lo.1-F.1)=lo.1-F.1:=aa;have U:i64.wrap (q*rho)=q*rho:=aa;generalize D:q*rho=qr at *;obtain⟨pa,z⟩:∃x,A[lo.2]?=some x:=⟨_,an X⟩;obtain⟨pb,B⟩:∃x,l[F.2]?=some x:=⟨_,an Y⟩
   have G:∀h,A[lo.2]'h=pa:=λh=>by rw[an h]at z;exact UJ z
   have H:∀h,l[F.2]'h=pb:=λh=>by rw[an h]at B;exact UJ B
   have sa:=eM (TY.1 m.2.2 pa (Is z));have sb:=eM (TY.1 o.2.2 pb (Is B));have c9:=IL pa pb (jJ sa (by decide)) (jJ sb (by decide));have bs:=rF sa sb;have ad:=PP (jg T) (bg pa pb) J bs;have R:=mb (jg T) (bg pa pb);rw[z,B]at d;simp only[Ug]at d;generalize lO (jg T) (bg pa pb)=t at *;generalize bg pa pb=b2 at *;rw[I]at c5 ad;rw[Q]at c5;by_cases g:qr<lo.1-F.1
   .rw[T6 g]at d
    rw[d]at c;simp only at c;subst c;refine GT (zAe g0 g1 g2 p u y j e f L M N S U (gA D g)) ?_
    all_goals exact⟨rfl,⟨_,rfl,_,rfl⟩,by intro kb h;simp only[Uq,Uw,UV]at h;rcases h with rfl|rfl|rfl<;>simp[j,e,f]⟩
   rw[TZ g]at d;by_cases W:s.r=steps
   .rw[T6 W]at d
    rw[d]at c;simp only at c;subst c
    have k:((s.r:Int)==(steps:Int))=true:=by simp;omega
    refine GT (zAe g0 g1 g2 p u y j e f L M N S U (be D g k)) ?_
    all_goals exact⟨rfl,⟨_,rfl,_,rfl⟩,by intro kb h;simp only[Uq,Uw,UV]at h;rcases h with rfl|rfl|rfl<;>simp[j,e,f]⟩
   rw[TZ W]at d
   have k:((s.r:Int)==(steps:Int))=false:=by simp;omega
   by_cases E:t=0
   .rw[T6 E]at d
    rw[d]at c;simp only at c;subst c;refine GT (zAe g0 g1 g2 p u y j e f L M N S U (zAc D g k z B G H X Y E)) ?_
    all_goals exact⟨rfl,⟨_,rfl,_,rfl⟩,by intro kb h;simp only[Uq,Uw,UV]at h;rcases h with rfl|rfl|rfl<;>simp[j,e,f]⟩
   rw[TZ E]at d;have bc:=a5.2 _ d;rw[d]at c;simp only at c
   have K:(t==0)=false:=by simp;omega
   have ba:=Md A s.w lo.2 t (by rw[hs.wl];exact m.2.1) hs.w (by rw[hs.wl];exact X) R.1 R.2;have bb:=Md l s.v F.2 t (by rw[hs.vl];exact o.2.1) hs.v (by rw[hs.vl];exact Y) R.1 R.2
   with_reducible repeat' (first|refine Sp.h ?_|((refine WP.share (hn:=[]) (pre:=[_,_,_,_,_,_,_]) (post:=[]) rfl rfl rfl ?_);simp -implicitDefEqProofs (maxSteps:=2000000) [hP,hN,g0,g1,g2,p,u,y,j,e,f,L,M,N,S,U,D,g,k,z,B,G,H,X,Y,E,K])|((first|refine Wd ?_|refine Ss.h ?_|refine Sc.h (c1) ?_|refine Sc.h (c2) ?_|refine Sc.h (c3) ?_|refine Sc.h (c4) ?_|refine Sc.h (c5) ?_|refine Sc.h (c6) ?_|refine Sc.h (c7) ?_|refine Sc.h (c8) ?_|refine Sc.h (c9) ?_|refine Sc.h (ad) ?_|(refine Sb.h ?_ ?_ ?_<;>(try intro hgd)<;>try exact Xy))<;>simp -implicitDefEqProofs (maxSteps:=2000000) [hP,hN,g0,g1,g2,p,u,y,j,e,f,L,M,N,S,U,D,g,k,z,B,G,H,X,Y,E,K]<;>try refine Ya ?_)|refine X2 ?_ ?_|(refine Xd ?_ ?_<;>intro hcd<;>try exact Xx))
   simp only[yL,hP];refine⟨_,_,_,_,_,λ_=>2000000,rfl,ba,rfl,?_⟩;refine⟨by simp[zT,lT],by simp[D3,mV],by simp,by intro kb h;simp only[Uq,Uw,UV]at h;subst h;simp[e,iP],by rw[hN];rfl,?_⟩;simp -implicitDefEqProofs (maxSteps:=2000000) [hP,hN,iM,iP,dR,e]
   with_reducible repeat' (first|refine Sp.h ?_|((refine WP.share (hn:=[]) (pre:=[_,_,_,_,_,_,_]) (post:=[]) rfl rfl rfl ?_);simp -implicitDefEqProofs (maxSteps:=2000000) [hP,hN,g0,g1,g2,p,u,y,j,e,f,iM,iP,L,M,N,S,U,D,g,k,z,B,G,H,X,Y,E,K])|((first|refine Wd ?_|refine Ss.h ?_|refine Sc.h (c1) ?_|refine Sc.h (c2) ?_|refine Sc.h (c3) ?_|refine Sc.h (c4) ?_|refine Sc.h (c5) ?_|refine Sc.h (c6) ?_|refine Sc.h (c7) ?_|refine Sc.h (c8) ?_|refine Sc.h (c9) ?_|refine Sc.h (ad) ?_|(refine Sb.h ?_ ?_ ?_<;>(try intro hgd)<;>try exact Xy))<;>simp -implicitDefEqProofs (maxSteps:=2000000) [hP,hN,g0,g1,g2,p,u,y,j,e,f,iM,iP,L,M,N,S,U,D,g,k,z,B,G,H,X,Y,E,K]<;>try refine Ya ?_)|refine X2 ?_ ?_|(refine Xd ?_ ?_<;>intro hcd<;>try exact Xx))
   simp only[yL,hP];refine⟨_,_,_,_,_,λ_=>2000001,rfl,bb,rfl,?_⟩;refine⟨by simp[zT,lT],by simp[D3,mV],by simp,by intro kb h;simp only[Uq,Uw,UV]at h;subst h;simp[f,iP],by rw[hN];rfl,?_⟩;simp -implicitDefEqProofs (maxSteps:=2000000) [hP,hN,iM,iP,dR,e,f];have bq:i64.wrap ((s.r:Int)+1)=(s.r:Int)+1:=aa;refine GT (zAe g0 g1 g2 p u y j e f bq @iM.eq_1 @iP.eq_1 @iP.eq_2 L (zAe M N S U D g k z B G H X Y E K)) ?_;refine⟨by omega,⟨kg s.w lo.2 t,kg s.v F.2 t,n,s.r+1⟩,bc,by simp only;omega,c,⟨(ri _ _ _).symm,(ri _ _ _).symm,rfl,rfl,rfl,by simp only;omega⟩,rfl,rfl⟩
def sx(a b:List Vc):NSt:=⟨(List.replicate a.length 0).set 0 65536,(List.replicate b.length 0).set 0 65536,(0,0,0),0⟩
theorem J3(h:1<=n):WgOk ((List.replicate n 0).set 0 65536):=by
 constructor
 .intro k a
  rcases UM a with h|rfl
  .have:=List.eq_of_mem_replicate h;omega
  .decide
 .rw[ym,Aq (y:=0) (by rw[Us,T6 (by omega)])]
  have:(List.replicate n (0:Int)).sum=0:=by simp
  omega
theorem CX{a b:List Vc}(c:1<=a.length)(d:1<=b.length):NsOk a b (sx a b):=⟨J3 c,J3 d,by simp[sx],by simp[sx]⟩
def qL(a b:List Vc)(rho steps:Int):Bool:=fI a&&fI b&&bu rho 0 2097152&&bu steps 0 64
def jm(a b:List Vc)(rho steps:Int):Int×NSt:=if qL a b rho steps then kH a b rho steps.toNat (steps.toNat+1) (sx a b)else(0,⟨[],[],(0,0,0),0⟩)
abbrev J4(x:Int×NSt):PV:=.agg [Z x.1,Z x.2.n.1,Z x.2.n.2.1,Z x.2.n.2.2,zs x.2.w,zs x.2.v,Z x.2.r]
theorem OA(a b:List Vc)(rho steps:Int)(y:a.length<=9223372036854775807)(z:b.length<=9223372036854775807):zS 96 (aV a) (aV b) (Z rho) (Z steps) (J4 (jm a b rho steps)):=by
 have g:=Mb a y;have j:=Mb b z;have c:qL a b rho steps=(fI a&&fI b&&bu rho 0 2097152&&bu steps 0 64):=rfl
 have d:jm a b rho steps=if qL a b rho steps then kH a b rho steps.toNat (steps.toNat+1) (sx a b)else(0,⟨[],[],(0,0,0),0⟩):=rfl
 cases e:fI a with
 |false=>
  rw[e]at g c;simp only[UB]at c;rw[c]at d;simp only[T3,Ud]at d;rw[d];refine Dp func96 λC hP hN=>?_;exact Gy
 |true=>
 cases f:fI b with
 |false=>
  rw[e]at g c;rw[f]at j c;simp only[Vl,UB]at c;rw[c]at d;simp only[T3,Ud]at d;rw[d];refine Dp func96 λC hP hN=>?_;exact Gy
 |true=>
 rw[e]at g c;rw[f]at j c;simp only[Vi,Un]at c;by_cases u:rho<0\/2097152<rho\/steps<0\/64<steps
 .have hf:(bu rho 0 2097152&&bu steps 0 64)=false:=by
   simp only[bu];rcases u with h|h|h|h
   .rw[U0 (show¬0<=rho by omega)];simp
   .rw[U0 (show¬rho<=2097152 by omega)];simp
   .rw[U0 (show¬0<=steps by omega)];simp
   .rw[U0 (show¬steps<=64 by omega)];simp
  rw[hf]at c;rw[c]at d;simp only[T3,Ud]at d;rw[d];rcases u with h|h|h|h
  all_goals
   refine Dp func96 λC hP hN=>?_;exact Gy
 have hf:(bu rho 0 2097152&&bu steps 0 64)=true:=by
  simp only[bu,An,L4];omega
 rw[hf]at c;rw[c]at d;simp only[Ui]at d;obtain⟨m,A⟩:∃m:Nat,steps=m:=⟨steps.toNat,by omega⟩;subst A;simp only[Uh]at d;have n:=jY.1 e;have o:=jY.1 f;have v:=J1 a n.1 n.2.1;have x:=J1 b o.1 o.2.1;have k:=CX n.1 o.1;have i:=un (rho:=rho) (steps:=m) e f (m+1) (sx a b) k;have l:=PQ a b rho m (sx a b) e f (by omega) (by omega) k rfl;generalize kH a b rho m (m+1) (sx a b)=E at *;rw[d]
 have p:¬rho<0:=by omega
 have r:¬2097152<rho:=by omega
 have F:¬(m:Int)<0:=by omega
 have s:¬64<(m:Int):=by omega
 refine Dp func96 λC hP hN=>?_
 with_reducible repeat' (first|refine Sp.h ?_|((refine WP.share (hn:=[]) (pre:=[_,_]) (post:=[_]) rfl rfl rfl ?_);simp -implicitDefEqProofs (maxSteps:=2000000) [hP,hN,p,r,s])|((first|refine Ss.h ?_|refine Sc.h (g) ?_|refine Sc.h (j) ?_|refine Sc.h (v) ?_|refine Sc.h (x) ?_|(refine Sb.h ?_ ?_ ?_<;>(try intro hgd)<;>try exact Xy))<;>simp -implicitDefEqProofs (maxSteps:=2000000) [hP,hN,p,r,s])|refine X2 ?_ ?_|(refine Xd ?_ ?_<;>intro hcd<;>try exact Xx))
 simp only[yL,hP];refine⟨_,_,_,_,_,λq=>if q=1000000 then 9 else if q=2000000 then 37 else 40,rfl,l,rfl,?_⟩;refine⟨by simp[zT,lT],by simp[D3,mV],by simp,by intro G h;simp only[Uq,Uw,UV]at h;rcases h with rfl|rfl|rfl<;>simp[iP,lT,mO,sx],by rw[hN];rfl,?_⟩;simp -implicitDefEqProofs (maxSteps:=2000000) [hP,hN,iM,iP,lT,mO];have D:=i.wl;have B:=i.vl;exact Gy
def dJ(n:Nat)(l:Int):Bool:=decide (-1<=l)&&decide (l<n)
theorem Ho(s:Sce)(l:Int)(a:s.js.length<=9223372036854775807):aO 64 (gb s) (Z l) (B (dJ s.js.length l)):=by
 refine Dp func64 λC hP hN=>?_
 with_reducible repeat' (first|refine Sp.h ?_|((first|refine Ss.h ?_|(refine Sb.h ?_ ?_ ?_<;>(try intro hgd)<;>try exact Xy))<;>simp -implicitDefEqProofs (maxSteps:=2000000) [hP,hN])|refine X2 ?_ ?_|(refine Xd ?_ ?_<;>intro hcd<;>try exact Xx))
 all_goals (simp only[dJ,L4,Uc]at *;first|done|(simp;intros;omega)|(simp;omega)|omega)
def dG(n:Nat)(h:Sh):Int:=if(dJ n h.link&&decide (1<=h.rad)&&decide (h.rad<=1048576)&&decide (1<=h.pts.length)&&decide (h.pts.length<=8))=true then(if h.pts.all (aC 4194304)=true then 0 else 805)else 902
theorem SZ(s:Sce)(h:Sh)(J:s.js.length<=9223372036854775807)(K:h.pts.length<=9223372036854775807):aO 63 (gb s) (dc h) (Z (dG s.js.length h)):=by
 have D:=Ho s h.link J
 cases l:dJ s.js.length h.link with
 |false=>
  have hf:dG s.js.length h=902:=by simp[dG,l]
  rw[hf];rw[l]at D;refine Dp func63 λC hP hN=>?_;exact Gy
 |true=>
 rw[l]at D;by_cases I:h.rad<1\/1048576<h.rad\/(h.pts.length:Int)<1\/(8:Int)<h.pts.length
 .have hf:dG s.js.length h=902:=by
   unfold dG;rw[TZ];simp only[An,L4];rintro⟨⟨⟨⟨b0,b1⟩,b2⟩,b3⟩,b4⟩;omega
  rw[hf];rcases I with q|q|q|q
  all_goals
   refine Dp func63 λC hP hN=>?_;exact Gy
 have q:¬h.rad<1:=by omega
 have N:¬1048576<h.rad:=by omega
 have O:¬(h.pts.length:Int)<1:=by omega
 have P:¬(8:Int)<h.pts.length:=by omega
 have G:¬h.pts.length<1:=by omega
 have H:¬8<h.pts.length:=by omega
 have hf:dG s.js.length h=if h.pts.all (aC 4194304)=true then 0 else 805:=by
  unfold dG;rw[T6];simp only[An,L4];exact⟨⟨⟨⟨l,by omega⟩,by omega⟩,by omega⟩,by omega⟩
 rw[hf];refine Dp func63 λC hP hN=>?_
 cases e:h.pts.all (aC 4194304)with
 |true=>
  refine Gz ?_;refine WP.loopN [7] h.pts.length (λi st=>True/\st.t 37=.pv (aV h.pts)/\st.t 38=.pv (Z h.pts.length)/\st.t 39=.pv (Z i)/\st.h 7=none) (by simp) ?_;rintro i st hi ⟨g1,g,j,f,m⟩;by_cases d:i<h.pts.length
  .have r:=am d (by omega)
   have L:=cD.1 (TY.1 e _ (Ul d));obtain⟨y,z,A⟩:=L;rw[bm]at y z A;generalize n:h.pts[i]=v at *
   have E:h.pts[i]?=some v:=by rw[an d,n]
   refine Gz ?_;refine WP.loopN [] 3 (λk st=>True/\st.t 37=.pv (aV h.pts)/\st.t 38=.pv (Z h.pts.length)/\st.t 39=.pv (Z i)/\st.t 43=.pv (ax v)/\st.t 44=.pv (Z k)) (by simp[g1,g,j,f]) ?_;clear g1 g j f m;rintro k st l ⟨g1,g,j,f,gA,gK⟩;rcases eF l with rfl|rfl|rfl|rfl
   all_goals
    exact Gy
  .skip
   exact Gy
 |false=>
  refine Gz ?_;refine WP.loopN [7] h.pts.length (λi st=>True/\st.t 37=.pv (aV h.pts)/\st.t 38=.pv (Z h.pts.length)/\st.t 39=.pv (Z i)/\st.h 7=none/\∀k x,k<i->h.pts[k]?=some x->aC 4194304 x=true) (by simp) ?_;rintro i st hi ⟨g1,g,j,f,m,hq⟩;by_cases d:i<h.pts.length
  .have r:=am d (by omega)
   generalize n:h.pts[i]=v at *
   have E:h.pts[i]?=some v:=by rw[an d,n]
   have u:=m9 (p:=aC 4194304) E hq;refine Gz ?_;refine WP.loopN [] 3 (λk st=>True/\st.t 37=.pv (aV h.pts)/\st.t 38=.pv (Z h.pts.length)/\st.t 39=.pv (Z i)/\st.t 43=.pv (ax v)/\st.t 44=.pv (Z k)/\(0<k->gt v.1 4194304=true)/\(1<k->gt v.2.1 4194304=true)/\(2<k->gt v.2.2 4194304=true)) (by simp[g1,g,j,f]) ?_;clear g1 g j f m hq;rintro k st l ⟨g1,g,j,f,gA,gK,B,F,M⟩;rcases eF l with rfl|rfl|rfl|rfl
   .skip
    with_reducible repeat' (first|refine Sp.h ?_|((first|refine Ss.h ?_|(refine Sb.h ?_ ?_ ?_<;>(try intro hgd)<;>try exact Xy))<;>simp -implicitDefEqProofs (maxSteps:=2000000) [hP,hN,g1,g,j,f,gA,gK,r])|refine X2 ?_ ?_|(refine Xd ?_ ?_<;>intro hcd<;>try exact Xx))
    all_goals (try (rw[bm];simp only[Uc,L4]at hgd hcd;omega))
   .skip
    with_reducible repeat' (first|refine Sp.h ?_|((first|refine Ss.h ?_|(refine Sb.h ?_ ?_ ?_<;>(try intro hgd)<;>try exact Xy))<;>simp -implicitDefEqProofs (maxSteps:=2000000) [hP,hN,g1,g,j,f,gA,gK,r])|refine X2 ?_ ?_|(refine Xd ?_ ?_<;>intro hcd<;>try exact Xx))
    all_goals (try (exact⟨B (by omega),by rw[bm];simp only[Uc,L4]at hgd hcd;omega⟩))
   .skip
    with_reducible repeat' (first|refine Sp.h ?_|((first|refine Ss.h ?_|(refine Sb.h ?_ ?_ ?_<;>(try intro hgd)<;>try exact Xy))<;>simp -implicitDefEqProofs (maxSteps:=2000000) [hP,hN,g1,g,j,f,gA,gK,r])|refine X2 ?_ ?_|(refine Xd ?_ ?_<;>intro hcd<;>try exact Xx))
    all_goals (try (exact⟨B (by omega),F (by omega),by rw[bm];simp only[Uc,L4]at hgd hcd;omega⟩))
   .have hn:aC 4194304 v=true:=cD.2 ⟨B (by omega),F (by omega),M (by omega)⟩
    have o:=u hn;refine Gz ?_
    all_goals (try exact λk a b c=>o k (a,b,c))
  .have:=oX hq d
   rw[this]at e;cases e
def gY(n:Nat)(shs:List Sh):Int:=match(shs.map (dG n)).find? (λe=>e !=0)with
 |some e=>e
 |none=>0
theorem uX(b:i<shs.length)(hq:∀k x,k<i->shs[k]?=some x->dG n x=0)(c:dG n shs[i]≠0):gY n shs=dG n shs[i]:=by
 have:(shs.map (dG n)).find? (λe=>e !=0)=some (dG n shs[i]):=by
  rw[Ws];refine⟨by simpa using c,i,by simpa using b,by simp,λk d=>?_⟩
  have a:k<shs.length:=by omega
  simp[hq k shs[k] d (an a)]
 rw[gY,this]
theorem rO(hq:∀(k:Nat) x,shs[k]?=some x->dG n x=0):gY n shs=0:=by
 have:(shs.map (dG n)).find? (λe=>e !=0)=none:=by
  rw[U9];intro e a;simp only[Uo]at a;obtain⟨x,c,rfl⟩:=a;obtain⟨k,b⟩:=Uy c;simp[hq k x b]
 rw[gY,this]
def kM(n:Nat)(p:Int×Int):Bool:=dJ n p.1&&dJ n p.2
def aZ(s:Sce):Int:=if aW s.js s.ms≠0 then aW s.js s.ms else if 24<s.shs.length then 901 else if gY s.js.length s.shs≠0 then gY s.js.length s.shs else if 64<s.sks.length then 903 else if s.sks.all (kM s.js.length)=true then 0 else 903
structure ScL(s:Sce):Prop where
 js:s.js.length<=9223372036854775807
 ms:s.ms.length<=9223372036854775807
 shs:s.shs.length<=9223372036854775807
 sks:s.sks.length<=9223372036854775807
 pts:∀h∈s.shs,h.pts.length<=9223372036854775807
theorem Hq(s:Sce)(hs:ScL s):bk 29 (gb s) (Z (aZ s)):=by
 have U:=xp s.js s.ms hs.js hs.ms;obtain⟨G,l2,l3,T,l5⟩:=hs;by_cases A:aW s.js s.ms=0
 case neg=>
  have hf:aZ s=aW s.js s.ms:=by simp[aZ,A]
  have V:(aW s.js s.ms !=0)=true:=by simp[A]
  rw[hf];generalize aW s.js s.ms=r at *;refine Dp func29 λC hP hN=>?_;exact Gy
 rw[A]at U;by_cases R:24<s.shs.length
 .have hf:aZ s=901:=by simp[aZ,A,R]
  have M:(24:Int)<s.shs.length:=by omega
  rw[hf];refine Dp func29 λC hP hN=>?_;exact Gy
 have M:¬(24:Int)<s.shs.length:=by omega
 have hf:aZ s=if gY s.js.length s.shs≠0 then gY s.js.length s.shs else if 64<s.sks.length then 903 else if s.sks.all (kM s.js.length)=true then 0 else 903:=by simp only[aZ,A,R,Ud,ne_eq,Vs]
 rw[hf];refine Dp func29 λC hP hN=>?_;refine Gz ?_;refine WP.loopN [5] s.shs.length (λi st=>st.t 1=.ptr 1 0/\st.h 1=some (.box [.pv (.sl (s.js.map bR)),.pv (.sl (s.ms.map dC)),.pv (.sl (s.shs.map dc)),.pv (.sl (s.sks.map aP))] true false)/\st.t 20=.pv (.sl (s.shs.map dc))/\st.t 21=.pv (Z s.shs.length)/\st.t 22=.pv (Z i)/\st.h 5=none/\st.h 8=none/\∀k x,k<i->s.shs[k]?=some x->dG s.js.length x=0) (by simp) ?_;rintro i st hi ⟨g1,d,u,y,z,D,f,hq⟩;by_cases c:i<s.shs.length
 .have S:=am c l3
  have N:=uX (n:=s.js.length) c hq;have o:=λq=>m9 (p:=λx=>dG s.js.length x==0) (an c) (λk x P j=>by simp[hq k x P j]) q;generalize l:s.shs[i]=v at *
  have j:s.shs[i]?=some v:=by rw[an c,l]
  have cc:=SZ s v G (l5 v (Is j));generalize dG s.js.length v=e at *;by_cases q:e=0
  .subst q
   have F:∀k x,k<i+1->s.shs[k]?=some x->dG s.js.length x=0:=λk x P j=>by simpa using o rfl k x P j
   refine Gz ?_
   all_goals exact F
  .have X:(e !=0)=true:=by simp[q]
   have O:=N q;exact Gy
   all_goals simp[O,q]
 .have Y:gY s.js.length s.shs=0:=rO (λk x j=>hq k x (by have:=(th.1 j).1;omega) j)
  rw[Y];by_cases W:64<s.sks.length
  .have B:(64:Int)<s.sks.length:=by omega
   exact Gy
  .have B:¬(64:Int)<s.sks.length:=by omega
   cases g:s.sks.all (kM s.js.length)with
   |true=>
    refine Gz ?_;refine WP.loopN [8] s.sks.length (λi st=>st.t 1=.ptr 1 0/\st.h 1=some (.box [.pv (.sl (s.js.map bR)),.pv (.sl (s.ms.map dC)),.pv (.sl (s.shs.map dc)),.pv (.sl (s.sks.map aP))] true false)/\st.t 38=.pv (.sl (s.sks.map aP))/\st.t 39=.pv (Z s.sks.length)/\st.t 40=.pv (Z i)/\st.h 8=none) (by simp[g1,d,f]) ?_;clear g1 d u y z D f hq c;rintro i st hi ⟨g1,d,J,K,L,f⟩;by_cases c:i<s.sks.length
    .have S:=am c T
     have Q:=TY.1 g _ (Ul c);generalize l:s.sks[i]=v at *
     have j:s.sks[i]?=some v:=by rw[an c,l]
     simp only[kM,An]at Q;have H:=Ho s v.1 G;have I:=Ho s v.2 G;rw[Q.1]at H;rw[Q.2]at I;exact Gy
    .skip
     exact Gy
   |false=>
    refine Gz ?_;refine WP.loopN [8] s.sks.length (λi st=>st.t 1=.ptr 1 0/\st.h 1=some (.box [.pv (.sl (s.js.map bR)),.pv (.sl (s.ms.map dC)),.pv (.sl (s.shs.map dc)),.pv (.sl (s.sks.map aP))] true false)/\st.t 38=.pv (.sl (s.sks.map aP))/\st.t 39=.pv (Z s.sks.length)/\st.t 40=.pv (Z i)/\st.h 8=none/\∀k x,k<i->s.sks[k]?=some x->kM s.js.length x=true) (by simp[g1,d,f]) ?_;clear g1 d u y z D f hq c;rintro i st hi ⟨g1,d,J,K,L,f,hq⟩;by_cases c:i<s.sks.length
    .have S:=am c T
     generalize l:s.sks[i]=v at *
     have j:s.sks[i]?=some v:=by rw[an c,l]
     have o:=m9 (p:=kM s.js.length) j hq;have H:=Ho s v.1 G;have I:=Ho s v.2 G;have m:kM s.js.length v=(dJ s.js.length v.1&&dJ s.js.length v.2):=rfl
     cases b1:dJ s.js.length v.1 with
     |false=>
      rw[b1]at H;exact Gy
     |true=>
      rw[b1]at H m
      cases b2:dJ s.js.length v.2 with
      |false=>
       rw[b2]at I;exact Gy
      |true=>
       rw[b2]at I m;have E:=o m;refine Gz ?_
       all_goals exact λk a b=>E k (a,b)
    .have:=oX hq c
     rw[this]at g;cases g
def Au(i:Nat)(j:J):Prop:=(0<=j.kind/\j.kind<=6)/\-1<=j.parent/\j.parent<(i:Int)
def rP(js:List J):Prop:=∀i j,js[i]?=some j->Au i j
theorem Hr{j:J}(h:cO js i j=0):Au i j:=by
 unfold cO at h
 repeat' split at h
 all_goals (try (cases h;done))
 all_goals (try omega)
 refine⟨by omega,by omega,by omega⟩
theorem sB{ms:List Ms}(h:aW js ms=0):rP js/\js.length<=10/\1<=js.length:=by
 unfold aW at h;split at h
 .cases h
 .rename_i n
  split at h
  .rename_i c;exact absurd h c
  .rename_i k
   refine⟨λi j b=>?_,by omega,by omega⟩;have l:=(th.1 b).1
   have a:jG js=0:=by simpa using k
   rw[pI]at a;by_cases d:cO js i j=0
   .exact Hr d
   .exfalso
    cases hf:(js.mapIdx (cO js)).find? (λe=>e !=0)with
    |none=>
     rw[U9]at hf
     have m:cO js i j∈js.mapIdx (cO js):=by
      rw[List.mem_mapIdx];obtain⟨f,g⟩:=th.1 b;exact⟨i,f,by rw[g]⟩
     exact hf _ m (by simpa using d)
    |some e=>
     rw[hf]at a;have:=VM hf;simp only at a;rw[a]at this;simp at this
theorem nD{s:Sce}(h:aZ s=0):rP s.js/\s.js.length<=10/\1<=s.js.length/\s.shs.length<=24/\s.sks.length<=64/\(∀x∈s.shs,dJ s.js.length x.link=true/\gB x=true)/\∀p∈s.sks,kM s.js.length p=true:=by
 unfold aZ at h;split at h
 .rename_i b;exact absurd h b
 .rename_i d
  have d:aW s.js s.ms=0:=by simpa using d
  split at h
  .cases h
  .rename_i o
   split at h
   .rename_i b;exact absurd h b
   .rename_i c
    have c:gY s.js.length s.shs=0:=by simpa using c
    split at h
    .cases h
    .rename_i q
     split at h
     .rename_i m
      obtain⟨a1,a2,a3⟩:=sB d;refine⟨a1,a2,a3,by omega,by omega,λx n=>?_,λp hp=>TY.1 m p hp⟩
      have a:dG s.js.length x=0:=by
       by_cases a:dG s.js.length x=0
       .exact a
       .exfalso
        unfold gY at c
        cases hf:(s.shs.map (dG s.js.length)).find? (λe=>e !=0)with
        |none=>
         rw[U9]at hf;exact hf _ (Uo.2 ⟨x,n,rfl⟩) (by simpa using a)
        |some e=>
         rw[hf]at c;have:=VM hf;simp only at c;rw[c]at this;simp at this
      unfold dG at a;split at a
      .rename_i f
       split at a
       .rename_i hn
        simp only[An,L4]at f;obtain⟨⟨⟨⟨g,i⟩,j⟩,k⟩,l⟩:=f;refine⟨g,?_⟩;simp only[gB,An,L4];exact⟨⟨⟨⟨i,j⟩,k⟩,l⟩,hn⟩
       .cases a
      .cases a
     .cases h
theorem Qx(a b c d:Int):ao prog (Op.equal 78 (.agg #[.int .i64 a,.int .i64 b]) (.agg #[.int .i64 c,.int .i64 d]))=some (a==c&&b==d):=by
 have hf:(prog.fieldsOf 78).toList=[(prog.fieldsOf 78)[0]!,(prog.fieldsOf 78)[1]!]:=by kernel_rfl
 show ao prog (Op.equalIn (9999+1) 78 _ _)=_;rw[AU 9999 78 _ _ (by kernel_rfl) (by kernel_rfl),hf]
 have h:=wD (P:=prog) (d:=9999) (xs:=#[.int .i64 a,.int .i64 b]) (ys:=#[.int .i64 c,.int .i64 d]) (f:=(prog.fieldsOf 78)[0]!) (fs:=[(prog.fieldsOf 78)[1]!]) (a:=.int .i64 a) (b:=.int .i64 c) (by decide +kernel) (by kernel_rfl) (by kernel_rfl) (vu 9998 _ .i64 .i64 a c (by kernel_rfl))
  (wD (by decide +kernel) (a:=.int .i64 b) (b:=.int .i64 d) (by kernel_rfl) (by kernel_rfl) (vu 9998 _ .i64 .i64 b d (by kernel_rfl)) GF)
 rw[h];simp
def FT(x y:AV)(fb:Option cX):Option cX:=match wG x,wG y with
 |some (a,b),some (c,d)=>some (.pv (.val (.bool (a==c&&b==d))),[])
 |_,_=>fb
@[simp] theorem NV(a b c d:Int)(fb:Option cX):FT (.pv (.val (.agg #[.int .i64 a,.int .i64 b]))) (.pv (.val (.agg #[.int .i64 c,.int .i64 d]))) fb=some (.pv (.val (.bool (a==c&&b==d))),[]):=rfl
@[simp] theorem TV{ty:TypeId}{pos:String}(x y:Operand):
 bF prog ⟨dst,.binOp .eql 78 x y 78,ty,pos,aft,g⟩ ρ=FT (ρ x) (ρ y) (jv prog ⟨dst,.binOp .eql 78 x y 78,ty,pos,aft,g⟩ ρ):=by
 unfold FT;split
 .rename_i a b c d e f
  exact zj rfl (qH e) (qH f) (by kernel_rfl) (Qx a b c d)
 .rfl
def vT(a b:Int)(p:Int×Int):Bool:=(p.1==a&&p.2==b)||(p.1==b&&p.2==a)
def ki(s:Sce)(a b:Int):Bool:=s.sks.any (vT a b)
theorem I3{v:α}(h:xs[i]?=some v)(hp:p v=true):xs.any p=true:=VY.2 ⟨v,Is h,hp⟩
theorem I4(hq:∀k x,k<i->xs[k]?=some x->p x=false)(h:¬i<xs.length):xs.any p=false:=by
 rw[VP];intro x b;obtain⟨k,a⟩:=Uy b;simp[hq k x (by have:=(th.1 a).1;omega) a]
theorem FU{v:α}(b:xs[i]?=some v)(hq:∀k x,k<i->xs[k]?=some x->p x=false)(hp:p v=false):∀k x,k<i+1->xs[k]?=some x->p x=false:=by
 intro k x c a;by_cases e:k=i
 .subst e;rw[b]at a;injection a with a;subst a;exact hp
 .exact hq k x (by omega) a
theorem Qy(s:Sce)(a b:Int)(y:s.sks.length<=9223372036854775807):mm 191 (gb s) (Z a) (Z b) (B (ki s a b)):=by
 have e:ki s a b=s.sks.any (vT a b):=rfl;rw[e];refine Dp func191 λC hP hN=>?_;refine Gz ?_;refine WP.loopN [8] s.sks.length (λi st=>st.t 1=.pv (Z a)/\st.t 2=.pv (Z b)/\st.t 10=.pv (.sl (s.sks.map aP))/\st.t 11=.pv (Z s.sks.length)/\st.t 12=.pv (Z i)/\st.h 8=none/\∀k x,k<i->s.sks[k]?=some x->vT a b x=false) (by simp) ?_;rintro i st hi ⟨g1,g2,o,q,r,u,hq⟩;by_cases c:i<s.sks.length
 .have A:=am c y
  generalize g:s.sks[i]=v at *
  have n:s.sks[i]?=some v:=by rw[an c,g]
  have f:=FU (p:=vT a b) n hq;have m:=I3 (p:=vT a b) n;have hp:vT a b v=((v.1==a&&v.2==b)||(v.1==b&&v.2==a)):=rfl
  cases j:(v.1==a&&v.2==b)with
  |true=>
   rw[j,Bool.true_or]at hp;have z:=m hp;exact Gy
  |false=>
   rw[j,Bool.false_or]at hp
   cases l:(v.1==b&&v.2==a)with
   |true=>
    rw[l]at hp;have z:=m hp;exact Gy
   |false=>
    rw[l]at hp;have d:=f hp;refine Gz ?_
    all_goals exact λk a b=>d k (a,b)
 .have hn:=I4 hq c
  exact Gy
def Qz(L:List Int)(i:Nat)(j:J):Int:=if j.lo=j.hi then(L[(j.parent+1).toNat]?).getD 0 else(i:Int)
def qf(js:List J):Nat->List Int
 |0=>[-1]
 |i+1=>match js[i]? with
  |some j=>qf js i++[Qz (qf js i) i j]
  |none=>qf js i
def kO(js:List J):List Int:=qf js js.length
theorem rQ{js:List J}:∀i,i<=js.length->(qf js i).length=i+1
 |0,_=>rfl
 |i+1,h=>by
  have a:i<js.length:=by omega
  have ih:=rQ (js:=js) i (by omega);simp only[qf,an a,Uj,ih,UX]
theorem rR{js:List J}{k:Nat}:∀i,k<=i->i<=js.length->∀q,q<=k->(qf js i)[q]?=(qf js k)[q]?
 |0,b,c,q,hq=>by have:k=0:=by omega
                 subst this;rfl
 |i+1,b,c,q,hq=>by
  by_cases e:k=i+1
  .subst e;rfl
  .have a:i<js.length:=by omega
   rw[<-rR i (by omega) (by omega) q hq];simp only[qf,an a];rw[T1 (by rw[rQ i (by omega)];omega)]
theorem EO{j:J}(b:js[i]?=some j)(e:Au i j):(kO js)[i+1]?=some (if j.lo=j.hi then((kO js)[(j.parent+1).toNat]?).getD 0 else(i:Int)):=by
 have f:=(th.1 b).1;obtain⟨_,g,l⟩:=e;have c:(kO js)[i+1]?=(qf js (i+1))[i+1]?:=rR js.length (k:=i+1) (by omega) (T8 _) _ (T8 _);have d:(kO js)[(j.parent+1).toNat]?=(qf js i)[(j.parent+1).toNat]?:=rR js.length (k:=i) (by omega) (T8 _) _ (by omega);rw[c,d];have a:=rQ (js:=js) i (by omega);simp only[qf,b];rw[T5 (by omega),a,VW];rfl
theorem QA(js:List J)(ms:List Ms)(P:rP js)(Y:js.length<=10):bk 190 (gP js ms) (zs (kO js)):=by
 have S:(kO js).length=js.length+1:=rQ _ (T8 _);have v:(kO js)[0]?=some (-1):=rR js.length (k:=0) (by omega) (T8 _) 0 (T8 _);have B:=λi j(h:js[i]?=some j)=>EO h (P i j h);generalize kO js=g at *;have W:i64.wrap ((js.length:Int)+1)=((js.length+1:Nat):Int):=(aa (by omega) (by omega)).trans (by omega);refine Dp func190 λC hP hN=>?_;refine GT (it W (show(8:Int)*((js.length:Int)+1)<=281474976710656 by omega) (show(js.length:Int)+1<=9223372036854775807 by omega) (show(0:Int)<=(js.length:Int)+1 by omega)) ?_;refine WP.loopN [5] js.length (λi st=>∃R:List Int,st.t 3=.arr 10 (js.length+1)/\st.t 14=.pv (.sl (js.map bR))/\st.t 15=.pv (Z js.length)/\st.t 16=.pv (Z i)/\st.h 5=none/\st.h 10=some (.row 3 1 (R.map Z) 0)/\R.length=js.length+1/\∀k,k<=i->R[k]?=g[k]?) ?_ ?_
 .refine⟨(List.replicate (js.length+1) 0).set 0 (-1),?_⟩
  simp[v,Vv,List.map_replicate]
 rintro i st hi ⟨R,g3,r,s,u,D,l,a,y⟩;by_cases d:i<js.length
 .have V:=am d (by omega)
  generalize q:js[i]=j at *
  have M:js[i]?=some j:=by rw[an d,q]
  have f:=B i j M;obtain⟨_,T,U⟩:=P i j M;obtain⟨p,hp⟩:∃p:Nat,j.parent+1=p:=⟨(j.parent+1).toNat,by omega⟩;have X:i64.wrap (j.parent+1)=(p:Int):=(aa (by omega) (by omega)).trans hp
  have n:p<=i:=by omega
  have I:p<R.length:=by omega
  have c:i+1<R.length:=by omega
  have b:R[p]?=some R[p]:=an I;have A:R[i+1]?=some R[i+1]:=an c
  have L:((i:Int)+1).toNat=i+1:=by omega
  have F:(0:Int)<=(i:Int)+1:=by omega
  rw[hp]at f
  have K:g[p]?=some R[p]:=by rw[<-y p n];exact b
  rw[Uh,K,Ug]at f;generalize R[p]=O at *
  have key:∀x,g[i+1]?=some x->∀k,k<=i+1->(R.set (i+1) x)[k]?=g[k]?:=by
   intro x N k Q;rw[T9];by_cases e:i+1=k
   .subst e;rw[T6 rfl,T6 c,N]
   .rw[TZ e];exact y k (by omega)
  have o:((R.map Z).set (i+1) (Z (i:Int)))[p]?=some (Z O):=by rw[T9,TZ (by omega),T0,b];rfl
  have G:∀h,((R.map Z).set (i+1) (Z (i:Int)))[p]'h=Z O:=λh=>by
   have:=an h;rw[o]at this;injection this with this;exact this.symm
  by_cases m:j.lo=j.hi
  .rw[T6 m]at f
   have E:(j.lo==j.hi)=true:=by simp[m]
   with_reducible repeat' (first|refine Sp.h ?_|((first|refine Ss.h ?_|(refine Sb.h ?_ ?_ ?_<;>(try intro hgd)<;>try exact Xy))<;>simp -implicitDefEqProofs (maxSteps:=2000000) [hP,hN,g3,r,s,u,D,l,d,V,M,q,a,c,n,X,m,A,L,F,b,o,G,show p<js.length+1 by omega])|refine X2 ?_ ?_|(refine Xd ?_ ?_<;>intro hcd<;>try exact Xx))
   all_goals exact⟨R.set (i+1) O,by simp[Vv],by simp[a],key _ f⟩
  .rw[TZ m]at f
   have E:(j.lo==j.hi)=false:=by simp[m]
   refine Gz ?_
   all_goals exact⟨R.set (i+1) (i:Int),by simp[Vv],by simp[a],key _ f⟩
 .have H:i=js.length:=by omega
  subst H
  have z:R=g:=by
   apply UF;intro k;by_cases Q:k<=js.length
   .exact y k Q
   .rw[Ua (by omega),Ua (by omega)]
  subst z;exact Gy
def tv(h:Sh):Nat:=(h.link+1).toNat
def Av(c:List Int)(a b:Sh):Bool:=(c[tv a]?).getD 0==(c[tv b]?).getD 0
def BJ(s:Sce)(a b:Sh):Bool:=!Av (kO s.js) a b&& !ki s a.link b.link
def gC(s:Sce)(i q:Nat):Bool:=match s.shs[i]?,s.shs[q]? with
 |some a,some b=>BJ s a b
 |_,_=>false
def lp(s:Sce)(i:Nat):Nat->List (Nat×Nat)
 |0=>[]
 |k+1=>lp s i k++(if i<k/\gC s i k=true then[(i,k)]else[])
def jM(s:Sce):Nat->List (Nat×Nat)
 |0=>[]
 |i+1=>jM s i++lp s i s.shs.length
def dB(s:Sce):List (Nat×Nat):=if aZ s=0 then jM s s.shs.length else[]
abbrev qM(p:Nat×Nat):PV:=.val (.agg #[.int .i64 (p.1:Int),.int .i64 (p.2:Int)])
theorem Aw(s:Sce)(i:Nat):∀k,k<=i+1->lp s i k=[]
 |0,_=>rfl
 |k+1,h=>by
  have:¬i<k:=by omega
  simp[lp,Aw s i k (by omega),this]
theorem wP(s:Sce)(i:Nat):∀k,(lp s i k).length<=k
 |0=>T8 _
 |k+1=>by
  have:=wP s i k;simp only[lp,Uj];split<;>simp<;>omega
theorem wQ(s:Sce):∀i,(jM s i).length<=i*s.shs.length
 |0=>by simp[jM]
 |i+1=>by
  have:=wQ s i;have:=wP s i s.shs.length;simp only[jM,Uj,UH];omega
theorem I5{s:Sce}{h:Sh}(b:dJ s.js.length h.link=true):∃x,(kO s.js)[tv h]?=some x/\tv h<(kO s.js).length/\h.link+1=(tv h:Int)/\h.link<s.js.length:=by
 simp only[dJ,An,L4]at b;have c:(kO s.js).length=s.js.length+1:=rQ _ (T8 _)
 have a:tv h<(kO s.js).length:=by unfold tv;omega
 exact⟨_,an a,a,by unfold tv;omega,b.2⟩
theorem QB(s:Sce)(hs:ScL s):bk 144 (gb s) (.sl ((dB s).map qM)):=by
 have cc:=Hq s hs;by_cases L:aZ s=0
 case neg=>
  have hf:dB s=[]:=by simp[dB,L]
  have a8:(aZ s !=0)=true:=by simp[L]
  rw[hf];generalize aZ s=r at *;refine Dp func144 λC hP hN=>?_;exact Gy
 have hf:dB s=jM s s.shs.length:=by simp[dB,L]
 rw[hf];rw[L]at cc;obtain⟨v1,v2,v3,v4,v5,v6,v7⟩:=nD L;have cr:=QA s.js s.ms v1 v2;have T:=λa b=>Qy s a b hs.sks;have N:=λh(hh:h∈s.shs)=>I5 (s:=s) (v6 h hh).1;have a2:∀a b:Sh,BJ s a b=(!Av (kO s.js) a b&& !ki s a.link b.link):=λ_ _=>rfl;generalize kO s.js=K at *;have nL:=wQ s;have iL:=wP s;refine Dp func144 λC hP hN=>?_;refine sh [4] trivial ?_;refine WP.loopN [6,8] s.shs.length (λi st=>st.t 1=.ptr 1 0/\st.h 1=some (.box [.pv (.sl (s.js.map bR)),.pv (.sl (s.ms.map dC)),.pv (.sl (s.shs.map dc)),.pv (.sl (s.sks.map aP))] true false)/\st.t 3=.pv (zs K)/\st.t 17=.pv (.sl (s.shs.map dc))/\st.t 18=.pv (Z s.shs.length)/\st.t 19=.pv (Z i)/\st.h 6=none/\st.h 8=none/\st.t 4=.arr 4 (jM s i).length/\st.h 4=some (.row 200 2 ((jM s i).map qM) 0)) (by simp[jM]) ?_;rintro i st hi ⟨g1,l,g3,f,g,j,m,n,g4,c⟩;by_cases O:i<s.shs.length
 .have hw:=am O (by omega)
  generalize a6:s.shs[i]=a at *
  have hx:s.shs[i]?=some a:=by rw[an O,a6]
  obtain⟨xa,p,A,M,ba⟩:=N a (Is hx)
  have D:∀h,K[tv a]'h=xa:=λh=>by have:=an h;rw[p]at this;injection this with this;exact this.symm
  have G:jM s (i+1)=jM s i++lp s i s.shs.length:=rfl;have bH:=nL i;have bs:i*s.shs.length<=24*24:=Vj (by omega) (by omega);have H:i64.wrap (a.link+1)=(tv a:Int):=(aa (by omega) (by omega)).trans M;have bb:a.link+1=(tv a:Int):=M;refine Gz ?_;refine WP.loopN [8] (s.shs.length-(i+1)) (λq st=>st.t 1=.ptr 1 0/\st.h 1=some (.box [.pv (.sl (s.js.map bR)),.pv (.sl (s.ms.map dC)),.pv (.sl (s.shs.map dc)),.pv (.sl (s.sks.map aP))] true false)/\st.t 3=.pv (zs K)/\st.t 17=.pv (.sl (s.shs.map dc))/\st.t 18=.pv (Z s.shs.length)/\st.t 19=.pv (Z i)/\st.t 5=.pv (Z i)/\st.t 6=.ptr 6 0/\st.h 6=some (.box [.pv (Z a.link),.pv (Z a.rad),.pv (aV a.pts)] true false)/\st.h 8=none/\st.t 7=.pv (Z ((i+1+q:Nat):Int))/\st.t 4=.arr 4 (jM s i++lp s i (i+1+q)).length/\st.h 4=some (.row 200 2 ((jM s i++lp s i (i+1+q)).map qM) 0)) (by simp[g1,l,g3,f,g,j,m,n,g4,c,Aw]) ?_;clear g1 l g3 f g j m n g4 c;rintro q st hq ⟨g1,l,g3,f,g,j,g5,U,m,n,R,g4,c⟩;obtain⟨k,hk⟩:∃k,k=i+1+q:=⟨_,rfl⟩
  have ar:i+1+(q+1)=k+1:=by omega
  rw[<-hk]at R g4 c;rw[ar];have V:lp s i (k+1)=lp s i k++(if i<k/\gC s i k=true then[(i,k)]else[]):=rfl;have bq:=iL i k;by_cases x:k<s.shs.length
  .have e:(k:Int)<(s.shs.length:Int):=by omega
   have J:i64.wrap ((k:Int)+1)=(k:Int)+1:=aa;generalize y:s.shs[k]=b at *
   have Q:s.shs[k]?=some b:=by rw[an x,y]
   obtain⟨xb,u,B,X,bc⟩:=N b (Is Q)
   have E:∀h,K[tv b]'h=xb:=λh=>by have:=an h;rw[u]at this;injection this with this;exact this.symm
   have I:i64.wrap (b.link+1)=(tv b:Int):=(aa (by omega) (by omega)).trans X
   have o:gC s i k=(!Av K a b&& !ki s a.link b.link):=by simp only[gC,hx,Q,a2]
   have a5:Av K a b=(xa==xb):=by simp only[Av,p,u,Ug]
   rw[a5]at o;have S:=T a.link b.link
   have Y:i<k:=by omega
   have a7:(jM s i++lp s i k).length<=1000:=by simp only[Uj];omega
   generalize z:jM s i++lp s i k=P at *
   have F:q<s.shs.length-(i+1):=by omega
   have W:jM s i++lp s i (k+1)=P++(if gC s i k=true then[(i,k)]else[]):=by
    rw[V,<-U4,z];simp[Y]
   rw[W];generalize ki s a.link b.link=sk at *
   cases v:(xa==xb)with
   |true=>
    rw[v]at o
    have d:gC s i k=false:=by rw[o];rfl
    rw[d]
    with_reducible repeat' (first|refine Sp.h ?_|((first|refine Wd ?_|refine Ss.h ?_|refine Sc.h (S) ?_|(refine Sb.h ?_ ?_ ?_<;>(try intro hgd)<;>try exact Xy))<;>simp -implicitDefEqProofs (maxSteps:=2000000) [hP,hN,g1,l,g3,f,g,j,g5,U,m,n,R,g4,c,x,e,J,Q,y,H,I,p,A,u,B,D,E,v,F]<;>try refine Ya ?_)|refine X2 ?_ ?_|(refine Xd ?_ ?_<;>intro hcd<;>try exact Xx))
   |false=>
    rw[v]at o
    cases sk with
    |true=>
     have d:gC s i k=false:=by rw[o];rfl
     rw[d]
     with_reducible repeat' (first|refine Sp.h ?_|((first|refine Wd ?_|refine Ss.h ?_|refine Sc.h (S) ?_|(refine Sb.h ?_ ?_ ?_<;>(try intro hgd)<;>try exact Xy))<;>simp -implicitDefEqProofs (maxSteps:=2000000) [hP,hN,g1,l,g3,f,g,j,g5,U,m,n,R,g4,c,x,e,J,Q,y,H,I,p,A,u,B,D,E,v,F]<;>try refine Ya ?_)|refine X2 ?_ ?_|(refine Xd ?_ ?_<;>intro hcd<;>try exact Xx))
    |false=>
     have d:gC s i k=true:=by rw[o];rfl
     rw[d]
     with_reducible repeat' (first|refine Sp.h ?_|((first|refine Wd ?_|refine Ss.h ?_|refine Sc.h (S) ?_|(refine Sb.h ?_ ?_ ?_<;>(try intro hgd)<;>try exact Xy))<;>simp -implicitDefEqProofs (maxSteps:=2000000) [hP,hN,g1,l,g3,f,g,j,g5,U,m,n,R,g4,c,x,e,J,Q,y,H,I,p,A,u,B,D,E,v,F,show(P.length+1)*16<=140737488355328 by omega,show P.length<=9223372036854775806 by omega]<;>try refine Ya ?_)|refine X2 ?_ ?_|(refine Xd ?_ ?_<;>intro hcd<;>try exact Xx))
  .have a1:k=s.shs.length:=by omega
   have e:¬(k:Int)<(s.shs.length:Int):=by omega
   rw[a1,<-G]at g4 c;exact Gy
 .have ad:i=s.shs.length:=by omega
  subst ad;exact Gy
theorem QC(x:Int×Int):bk 243 (aP x) (B (!aw x.1 x.2)):=by
 refine Dp func243 λC hP hN=>?_;have a:=@jT;exact GS trivial
 all_goals (first|(simp_all;done)|((try simp_all)<;>(try omega)<;>grind))
def kj(js:List J)(bx:List Iv):Bool:=decide (bx.length=js.length)&&bi vI bx
theorem QD(js:List J)(ms:List Ms)(bx:List Iv)(e:js.length<=9223372036854775807)(a:bx.length<=9223372036854775807):aO 192 (gP js ms) (iv bx) (B (kj js bx)):=by
 have cc:=LC 243 (λx=>!aw x.1 x.2) bx a QC;have d:(bx.any λx=>!aw x.1 x.2)=!bi vI bx:=Ej vI bx;rw[d]at cc;have hd:kj js bx=(decide (bx.length=js.length)&&bi vI bx):=rfl;rw[hd];generalize bi vI bx=c at *;by_cases h:bx.length=js.length
 .have b:((bx.length:Int)==(js.length:Int))=true:=by simp[h]
  cases c
  all_goals
   refine Dp func192 λC hP hN=>?_;exact Gy
 .have b:((bx.length:Int)==(js.length:Int))=false:=by simp;omega
  refine Dp func192 λC hP hN=>?_;exact Gy
def zP:ol:=((((0,0),(0,0),(0,0)),((0,0),(0,0),(0,0)),((0,0),(0,0),(0,0))),((0,0),(0,0),(0,0)))
def FV(L:List ol)(j:J)(v:Iv):ol:=if j.parent=-1 then mL j v else om ((L[j.parent.toNat]?).getD zP) (mL j v)
def kl(js:List J)(bx:List Iv):Nat->List ol
 |0=>[]
 |i+1=>match js[i]?,bx[i]? with
  |some j,some v=>kl js bx i++[FV (kl js bx i) j v]
  |_,_=>kl js bx i
def iy(js:List J)(bx:List Iv):List ol:=kl js bx js.length
theorem kP{js:List J}{bx:List Iv}(c:bx.length=js.length):∀i,i<=js.length->(kl js bx i).length=i
 |0,_=>rfl
 |i+1,h=>by
  have b:i<js.length:=by omega
  have a:i<bx.length:=by omega
  have ih:=kP c i (by omega);simp only[kl,an b,an a,Uj,ih,UX]
theorem uB{js:List J}{bx:List Iv}(c:bx.length=js.length){k:Nat}:∀i,k<=i->i<=js.length->∀q,q<k->(kl js bx i)[q]?=(kl js bx k)[q]?
 |0,d,f,q,hq=>by omega
 |i+1,d,f,q,hq=>by
  by_cases e:k=i+1
  .subst e;rfl
  .have b:i<js.length:=by omega
   have a:i<bx.length:=by omega
   rw[<-uB c i (by omega) (by omega) q hq];simp only[kl,an b,an a];rw[T1 (by rw[kP c i (by omega)];omega)]
theorem Dg{bx:List Iv}(c:bx.length=js.length){j:J}{v:Iv}(d:js[i]?=some j)(o:bx[i]?=some v)(g:Au i j):(iy js bx)[i]?=some (if j.parent=-1 then mL j v else om (((iy js bx)[j.parent.toNat]?).getD zP) (mL j v)):=by
 have l:=(th.1 d).1;obtain⟨_,m,n⟩:=g;have e:(iy js bx)[i]?=(kl js bx (i+1))[i]?:=uB c js.length (k:=i+1) (by omega) (T8 _) _ (by omega);rw[e];have a:=kP c i (by omega);simp only[kl,d,o];rw[T5 (by omega),a,VW];show some (FV (kl js bx i) j v)=_;unfold FV;by_cases b:j.parent=-1
 .rw[T6 b,T6 b]
 .rw[TZ b,TZ b]
  have f:(iy js bx)[j.parent.toNat]?=(kl js bx i)[j.parent.toNat]?:=uB c js.length (k:=i) (by omega) (T8 _) _ (by omega);rw[f]
theorem KU:cG zP=.val (.agg #[.int .i64 0,.int .i64 0,.int .i64 0,.int .i64 0,.int .i64 0,.int .i64 0,.int .i64 0,.int .i64 0,.int .i64 0,.int .i64 0,.int .i64 0,.int .i64 0,.int .i64 0,.int .i64 0,.int .i64 0,.int .i64 0,.int .i64 0,.int .i64 0,.int .i64 0,.int .i64 0,.int .i64 0,.int .i64 0,.int .i64 0,.int .i64 0]):=rfl
theorem KV:bP bA=.val (.agg #[.int .i64 0,.int .i64 0,.int .i64 0,.int .i64 0,.int .i64 0,.int .i64 0]):=rfl
theorem pM{R:List PV}{x:PV}(h:R[k]?=some x):∀a,R[k]'a=x:=λa=>by
 have:=an a;rw[h]at this;injection this with this;exact this.symm
set_option maxRecDepth 4000 in
theorem QE(js:List J)(ms:List Ms)(bx:List Iv)(hj:rP js)(hl:js.length<=10)(hb:bx.length=js.length):aO 193 (gP js ms) (iv bx) (.sl ((iy js bx).map cG)):=by
 have X:(iy js bx).length=js.length:=kP hb _ (T8 _);have a1:=λi j v(T:js[i]?=some j)(W:bx[i]?=some v)=>Dg hb T W (hj i j T);generalize iy js bx=m at *;generalize G:m.map cG=B at *
 have b0:B.length=js.length:=by rw[<-G];simpa using X
 have I:∀k p,m[k]?=some p->B[k]?=some (cG p):=λk p h=>by rw[<-G,T0,h];rfl
 refine Dp func193 λC hP hN=>?_;refine GT (gA (show(192:Int)*(js.length:Int)<=281474976710656 by omega) (show(js.length:Int)<=9223372036854775807 by omega)) ?_;refine WP.loopN [7] js.length (λi st=>∃R:List PV,st.t 1=.pv (iv bx)/\st.t 5=.arr 11 js.length/\st.t 13=.pv (.sl (js.map bR))/\st.t 14=.pv (Z js.length)/\st.t 15=.pv (Z i)/\st.h 7=none/\st.h 11=some (.row 247 24 R 0)/\R.length=js.length/\(∀k,i<=k->k<js.length->R[k]?=some (cG zP))/\∀k,k<i->R[k]?=B[k]?) ?_ ?_
 .refine⟨List.replicate js.length (cG zP),?_⟩
  rw[KU];simp
  try (intro k U;first|exact U|simp[Us,U])
 rintro i st hi ⟨R,g1,g5,D,E,F,M,l,c,K,Y⟩;by_cases d:i<js.length
 .have hw:=am d (by omega)
  generalize u:js[i]=j at *
  have V:js[i]?=some j:=by rw[an d,u]
  have f:i<bx.length:=by omega
  generalize s:bx[i]=v at *
  have hv:bx[i]?=some v:=by rw[an f,s]
  obtain⟨⟨a5,a6⟩,b1,b2⟩:=hj i j V;have cj:=Qv (a:=v.1) (b:=v.2) j a5 a6;have L:=a1 i j v V hv;have n:=K i (T8 _) d;have N:=pM n
  have O:i<R.length:=by omega
  generalize hq:mL j (v.1,v.2)=q at *
  have key:∀x,m[i]?=some x->(∀k,i+1<=k->k<js.length->(R.set i (cG x))[k]?=some (cG zP))/\∀k,k<i+1->(R.set i (cG x))[k]?=B[k]?:=by
   intro x bH;refine⟨λk T W=>?_,λk T=>?_⟩
   .rw[T9,TZ (by omega)];exact K k (by omega) W
   .rw[T9]
    by_cases e:i=k
    .subst e;rw[T6 rfl,T6 O,I i x bH]
    .rw[TZ e];exact Y k (by omega)
  have Q:(R.set i (cG q))[i]?=some (cG q):=by rw[T9,T6 rfl,T6 O]
  have bc:=pM Q;have bq:∀y,(R.set i (cG q)).set i y=R.set i y:=λy=>List.set_set ..;by_cases A:j.parent=-1
  .rw[T6 A]at L
   obtain⟨z,g⟩:=key q L
   have o:(j.parent==-1)=true:=by simp[A]
   have r:(j.parent != -1)=false:=by simp[A]
   refine GT (zAe g1 g5 D E F M l c d f hw V u hv (so s n N o r)) ?_
   all_goals first|exact⟨_,rfl,by simp[c],z,g⟩|exact⟨z,g⟩|exact⟨by simp[c],z,g⟩|exact g
  .rw[TZ A]at L
   obtain⟨p,hp⟩:∃p:Nat,j.parent=p:=⟨j.parent.toNat,by omega⟩
   have o:(j.parent==-1)=false:=by simp[A]
   have r:(j.parent != -1)=true:=by simp[A]
   have a7:(0:Int)<=j.parent:=by omega
   have P:j.parent.toNat=p:=by omega
   have a8:p<i:=by omega
   have bb:p<m.length:=by omega
   have H:m[p]?=some m[p]:=an bb;rw[P,H,Ug]at L;have ar:=(Y p a8).trans (I p _ H);generalize m[p]=pp at *;obtain⟨z,g⟩:=key _ L
   have S:(R.set i (cG q))[p]?=some (cG pp):=by rw[T9,TZ (by omega)];exact ar
   have bs:=pM S
   have ba:p<js.length:=by omega
   have q1:=@vR;refine GT (zAe g1 g5 D E F M l c d f hw V u hv (zAd s n N a7 P o r Q bc bq S (gA bs ba))) ?_
   all_goals first|exact⟨_,rfl,by simp[c],z,g⟩|exact⟨z,g⟩|exact⟨by simp[c],z,g⟩|exact g
 .have a2:i=js.length:=by omega
  subst a2
  have ad:R=B:=by
   apply UF;intro k;by_cases U:k<js.length
   .exact Y k U
   .rw[Ua (by omega),Ua (by omega)]
  subst ad;exact Gy
def eO(h:Sh)(p:ol):List av:=h.pts.map λq=>iN p (dZ q)
set_option maxRecDepth 4000 in
theorem QF(h:Sh)(p:ol)(hs:gB h=true):aO 195 (dc h) (cG p) (aH (eO h p)):=by
 have J:1<=h.pts.length/\h.pts.length<=8:=by
  simp only[gB,An,L4]at hs;obtain⟨⟨⟨_,b3⟩,b4⟩,_⟩:=hs;exact⟨b3,b4⟩
 have cc:=Qw h (by omega);rw[hs]at cc;have E:eO h p=h.pts.map λq=>iN p (dZ q):=rfl;rw[E];generalize a:(h.pts.map λq=>iN p (dZ q)).map bP=f
 have N:f.length=h.pts.length:=by rw[<-a];simp
 have g:∀k q,h.pts[k]?=some q->f[k]?=some (bP (iN p (dZ q))):=λk q d=>by rw[<-a,T0,T0,d];rfl
 refine Dp func195 λC hP hN=>?_;refine GT (gA (show(48:Int)*(h.pts.length:Int)<=281474976710656 by omega) (show(h.pts.length:Int)<=9223372036854775807 by omega)) ?_;refine WP.loopN [7] h.pts.length (λi st=>∃R:List PV,st.t 3=.ptr 3 0/\st.h 3=some (.box [.pv (Z p.1.1.1.1),.pv (Z p.1.1.1.2),.pv (Z p.1.1.2.1.1),.pv (Z p.1.1.2.1.2),.pv (Z p.1.1.2.2.1),.pv (Z p.1.1.2.2.2),.pv (Z p.1.2.1.1.1),.pv (Z p.1.2.1.1.2),.pv (Z p.1.2.1.2.1.1),.pv (Z p.1.2.1.2.1.2),.pv (Z p.1.2.1.2.2.1),.pv (Z p.1.2.1.2.2.2),.pv (Z p.1.2.2.1.1),.pv (Z p.1.2.2.1.2),.pv (Z p.1.2.2.2.1.1),.pv (Z p.1.2.2.2.1.2),.pv (Z p.1.2.2.2.2.1),.pv (Z p.1.2.2.2.2.2),.pv (Z p.2.1.1),.pv (Z p.2.1.2),.pv (Z p.2.2.1.1),.pv (Z p.2.2.1.2),.pv (Z p.2.2.2.1),.pv (Z p.2.2.2.2)] true false)/\st.t 5=.arr 14 h.pts.length/\st.t 16=.pv (aV h.pts)/\st.t 17=.pv (Z h.pts.length)/\st.t 18=.pv (Z i)/\st.h 7=none/\st.h 14=some (.row 216 6 R 0)/\R.length=h.pts.length/\(∀k,i<=k->k<h.pts.length->R[k]?=some (bP bA))/\∀k,k<i->R[k]?=f[k]?) ?_ ?_
 .refine⟨List.replicate h.pts.length (bP bA),?_⟩
  rw[KV];simp
  try (intro k d;first|exact d|simp[Us,d])
 rintro i st hi ⟨R,g3,x,g5,r,s,u,z,m,c,l,I⟩;by_cases b:i<h.pts.length
 .have O:=am b (by omega)
  generalize n:h.pts[i]=q at *
  have K:h.pts[i]?=some q:=by rw[an b,n]
  have j:=l i (T8 _) b;have A:=pM j
  have B:i<R.length:=by omega
  have H:=IW q.1 q.2.1 q.2.2;have F:dZ (q.1,q.2.1,q.2.2)=dZ q:=rfl;rw[F]at H
  have G:∀y k,i+1<=k->k<h.pts.length->(R.set i y)[k]?=some (bP bA):=λy k L M=>by
   rw[T9,TZ (by omega)];exact l k (by omega) M
  have o:∀k,k<i+1->(R.set i (bP (iN p (dZ q))))[k]?=f[k]?:=λk L=>by
   rw[T9];by_cases e:i=k
   .subst e;rw[T6 rfl,T6 B,g i q K]
   .rw[TZ e];exact I k (by omega)
  clear g a;generalize dZ q=P at *
  with_reducible repeat' (first|refine Sp.h ?_|((first|refine Wd ?_|refine Ss.h ?_|refine Sc.h (H) ?_|refine Sc.h (Qi) ?_|(refine Sb.h ?_ ?_ ?_<;>(try intro hgd)<;>try exact Xy))<;>simp -implicitDefEqProofs (maxSteps:=2000000) [hP,hN,g3,x,g5,r,s,u,z,m,c,b,O,K,n,j,A]<;>try refine Ya ?_)|refine X2 ?_ ?_|(refine Xd ?_ ?_<;>intro hcd<;>try exact Xx))
  all_goals first|exact⟨_,rfl,by simp[c],G _,o⟩|exact⟨G _,o⟩|exact⟨by simp[c],G _,o⟩|exact o
 .have D:i=h.pts.length:=by omega
  subst D
  have v:R=f:=by
   apply UF;intro k;by_cases d:k<h.pts.length
   .exact I k d
   .rw[Ua (by omega),Ua (by omega)]
  subst v;exact Gy
  all_goals (rw[<-a];simp)
def iA(a:List ol)(h:Sh):ol:=if h.link=-1 then gV else(a[h.link.toNat]?).getD zP
def fK(s:Sce)(bx:List Iv):List (List av):=s.shs.map λh=>eO h (iA (iy s.js bx) h)
theorem uC{bx:List Iv}:kj js bx=true↔bx.length=js.length/\bi vI bx=true:=by simp[kj]
set_option maxRecDepth 4000 in
theorem QG(s:Sce)(bx:List Iv)(hs:ScL s)(h0:aZ s=0)(J:kj s.js bx=true):aO 145 (gb s) (iv bx) (.sl ((fK s bx).map aH)):=by
 have cc:=Hq s hs;rw[h0]at cc;obtain⟨v1,v2,v3,v4,v5,v6,v7⟩:=nD h0;have I:=(uC.1 J).1;have cb:=QD s.js s.ms bx hs.js (by omega);rw[J]at cb;have cl:=QE s.js s.ms bx v1 v2 I;have ad:(iy s.js bx).length=s.js.length:=kP I _ (T8 _);have L:fK s bx=s.shs.map λh=>eO h (iA (iy s.js bx) h):=rfl;rw[L];generalize iy s.js bx=a at *;generalize f:(s.shs.map λh=>eO h (iA a h)).map aH=x
 have ar:x.length=s.shs.length:=by rw[<-f];simp
 have E:∀k h,s.shs[k]?=some h->x[k]?=some (aH (eO h (iA a h))):=λk q u=>by rw[<-f,T0,T0,u];rfl
 refine Dp func145 λC hP hN=>?_;refine GT (gA (show(24:Int)*(s.shs.length:Int)<=281474976710656 by omega) (show(s.shs.length:Int)<=9223372036854775807 by omega)) ?_;refine WP.loopN [8,9] s.shs.length (λi st=>∃R:List PV,st.t 5=.pv (.sl (a.map cG))/\st.t 6=.arr 27 s.shs.length/\st.t 29=.pv (.sl (s.shs.map dc))/\st.t 30=.pv (Z s.shs.length)/\st.t 31=.pv (Z i)/\st.h 8=none/\st.h 9=none/\st.h 27=some (.row 153 1 R 0)/\R.length=s.shs.length/\(∀k,i<=k->k<s.shs.length->R[k]?=some (.val (.slice none 0 0)))/\∀k,k<i->R[k]?=x[k]?) ?_ ?_
 .refine⟨List.replicate s.shs.length (.val (.slice none 0 0)),?_⟩
  simp
  try (intro k u;first|exact u|simp[Us,u])
 rintro i st hi ⟨R,g5,Y,z,A,B,G,H,g,b,F,hR⟩;by_cases c:i<s.shs.length
 .have hw:=am c (by omega)
  generalize o:s.shs[i]=h at *
  have N:s.shs[i]?=some h:=by rw[an c,o]
  have hm:=Is N;obtain⟨T,W⟩:=v6 h hm;simp only[dJ,An,L4]at T;have j:=F i (T8 _) c;have K:=pM j
  have Q:i<R.length:=by omega
  have X:=λp=>QF h p W
  have v:∀y k,i+1<=k->k<s.shs.length->(R.set i y)[k]?=some (.val (.slice none 0 0)):=λy k h1 h2=>by
   rw[T9,TZ (by omega)];exact F k (by omega) h2
  have d:∀k,k<i+1->(R.set i (aH (eO h (iA a h))))[k]?=x[k]?:=λk h1=>by
   rw[T9];by_cases e:i=k
   .subst e;rw[T6 rfl,T6 Q,E i h N]
   .rw[TZ e];exact hR k (by omega)
  clear E f L;by_cases r:h.link=-1
  .have l:(h.link==-1)=true:=by simp[r]
   have m:(h.link != -1)=false:=by simp[r]
   have n:iA a h=gV:=by simp[iA,r]
   rw[n]at d;have O:=X gV;generalize eO h gV=pl at *;have q1:=@IX;refine GT (zAe g5 Y z A B G H g b c hw N o j (be K l m)) ?_
   all_goals first|exact⟨_,rfl,by simp[b],v _,d⟩|exact⟨v _,d⟩|exact⟨by simp[b],v _,d⟩|exact d
  .have l:(h.link==-1)=false:=by simp[r]
   have m:(h.link != -1)=true:=by simp[r]
   have U:(0:Int)<=h.link:=by omega
   obtain⟨p,hp⟩:∃p:Nat,h.link.toNat=p:=⟨_,rfl⟩
   have M:p<a.length:=by omega
   have D:a[p]?=some a[p]:=an M
   have n:iA a h=a[p]:=by simp only[iA,TZ r,hp,D,Ug]
   have a1:∀hh,a[p]'hh=a[p]:=λ_=>rfl;rw[n]at d;generalize V:a[p]=pp at *;have O:=X pp;generalize eO h pp=pl at *;have q1:=@IX;refine GT (zAe g5 Y z A B G H g b c hw N o j (zAb K l m U hp M D V)) ?_
   all_goals first|exact⟨_,rfl,by simp[b],v _,d⟩|exact⟨v _,d⟩|exact⟨by simp[b],v _,d⟩|exact d
 .have S:i=s.shs.length:=by omega
  subst S
  have P:R=x:=by
   apply UF;intro k;by_cases u:k<s.shs.length
   .exact hR k u
   .rw[Ua (by omega),Ua (by omega)]
  subst P;exact Gy
  all_goals (rw[<-f];simp)
def sC(v:av)(k:Nat):Vc:=(if 0<k then mv v.1 else 0,if 1<k then mv v.2.1 else 0,if 2<k then mv v.2.2 else 0)
theorem EP(l:List av)(W:l.length<=9223372036854775807):bk 97 (aH l) (aV (aE l)):=by
 have Q:=uA l W
 cases hp:az l with
 |false=>
  have M:aE l=[]:=by simp[aE,hp]
  rw[M];rw[hp]at Q;refine Dp func97 λC hP hN=>?_;exact Gy
 |true=>
 have M:aE l=l.map jx:=by simp[aE,hp]
 rw[M];rw[hp]at Q;simp only[az,An,L4]at hp;obtain⟨⟨X,Y⟩,ad⟩:=hp;generalize z:(l.map jx).map ax=B
 have V:B.length=l.length:=by rw[<-z];simp
 have D:∀k h,l[k]?=some h->B[k]?=some (ax (jx h)):=λk q u=>by rw[<-z,T0,T0,u];rfl
 refine Dp func97 λC hP hN=>?_;refine GT (gA (show(24:Int)*(l.length:Int)<=281474976710656 by omega) (show(l.length:Int)<=9223372036854775807 by omega)) ?_;refine WP.loopN [5,7] l.length (λi st=>∃R:List PV,st.t 3=.arr 13 l.length/\st.t 14=.pv (aH l)/\st.t 15=.pv (Z l.length)/\st.t 16=.pv (Z i)/\st.h 5=none/\st.h 7=none/\st.h 13=some (.row 68 3 R 0)/\R.length=l.length/\(∀k,i<=k->k<l.length->R[k]?=some (n5 0 0 0))/\∀k,k<i->R[k]?=B[k]?) ?_ ?_
 .refine⟨List.replicate l.length (n5 0 0 0),?_⟩
  simp
  try (intro k u;first|exact u|simp[Us,u])
 rintro i st hi ⟨R,g3,g,j,m,F,n,f,L,E,S⟩;by_cases o:i<l.length
 .have hw:=am o (by omega)
  generalize O:l[i]=v at *
  have hx:l[i]?=some v:=by rw[an o,O]
  have K:=E i (T8 _) o;have I:=D i v hx;clear D;refine Gz ?_;refine WP.loopN [7] 3 (λk st=>∃p:List PV,st.t 3=.arr 13 l.length/\st.t 4=.pv (Z i)/\st.t 14=.pv (aH l)/\st.t 15=.pv (Z l.length)/\st.t 16=.pv (Z i)/\st.t 21=.pv (bP v)/\st.t 22=.pv (Z k)/\st.h 7=none/\st.h 13=some (.row 68 3 p 0)/\p.length=l.length/\p[i]?=some (n5 (sC v k).1 (sC v k).2.1 (sC v k).2.2)/\∀q,q≠i->p[q]?=R[q]?) ?_ ?_
  .refine⟨R,?_⟩
   simp[g3,g,j,m,F,n,f,L,K,sC]
  clear g3 g j m F n f;rintro k st u ⟨p,g3,g4,g,j,m,x,r,n,f,c,d,A⟩;have s:=pM d
  have G:i<p.length:=by omega
  have b:∀y,(p.set i y)[i]?=some y:=λy=>by rw[T9,T6 rfl,T6 G]
  have a:∀y q,q≠i->(p.set i y)[q]?=R[q]?:=λy q hq=>by rw[T9,TZ (λe=>hq e.symm)];exact A q hq
  rcases eF u with rfl|rfl|rfl|rfl
  all_goals (simp[sC]at d s r)
  .skip
   with_reducible repeat' (first|refine Sp.h ?_|((first|refine Wd ?_|refine Ss.h ?_|refine Sc.h (IZ) ?_|(refine Sb.h ?_ ?_ ?_<;>(try intro hgd)<;>try exact Xy))<;>simp -implicitDefEqProofs (maxSteps:=2000000) [hP,hN,g3,g4,g,j,m,x,r,n,f,c,d,s,o,sC,b]<;>try refine Ya ?_)|refine X2 ?_ ?_|(refine Xd ?_ ?_<;>intro hcd<;>try exact Xx))
   all_goals first|exact⟨_,rfl,by simp[c],b _,a _⟩|exact⟨by simp[c],b _,a _⟩|exact⟨b _,a _⟩|exact λq hq=>a _ q hq
  .skip
   with_reducible repeat' (first|refine Sp.h ?_|((first|refine Wd ?_|refine Ss.h ?_|refine Sc.h (IZ) ?_|(refine Sb.h ?_ ?_ ?_<;>(try intro hgd)<;>try exact Xy))<;>simp -implicitDefEqProofs (maxSteps:=2000000) [hP,hN,g3,g4,g,j,m,x,r,n,f,c,d,s,o,sC,b]<;>try refine Ya ?_)|refine X2 ?_ ?_|(refine Xd ?_ ?_<;>intro hcd<;>try exact Xx))
   all_goals first|exact⟨_,rfl,by simp[c],b _,a _⟩|exact⟨by simp[c],b _,a _⟩|exact⟨b _,a _⟩|exact λq hq=>a _ q hq
  .skip
   with_reducible repeat' (first|refine Sp.h ?_|((first|refine Wd ?_|refine Ss.h ?_|refine Sc.h (IZ) ?_|(refine Sb.h ?_ ?_ ?_<;>(try intro hgd)<;>try exact Xy))<;>simp -implicitDefEqProofs (maxSteps:=2000000) [hP,hN,g3,g4,g,j,m,x,r,n,f,c,d,s,o,sC,b]<;>try refine Ya ?_)|refine X2 ?_ ?_|(refine Xd ?_ ?_<;>intro hcd<;>try exact Xx))
   all_goals first|exact⟨_,rfl,by simp[c],b _,a _⟩|exact⟨by simp[c],b _,a _⟩|exact⟨b _,a _⟩|exact λq hq=>a _ q hq
  .have P:∀k,i+1<=k->k<l.length->p[k]?=some (n5 0 0 0):=λk T U=>by rw[A k (by omega)];exact E k (by omega) U
   have H:∀k,k<i+1->p[k]?=B[k]?:=λk T=>by
    by_cases e:k=i
    .subst e;rw[I,d];rfl
    .rw[A k e];exact S k (by omega)
   refine Gz ?_
   all_goals first|exact⟨_,rfl,c,P,H⟩|exact⟨c,P,H⟩|exact⟨P,H⟩|exact H
 .have N:i=l.length:=by omega
  subst N
  have J:R=B:=by
   apply UF;intro k;by_cases u:k<l.length
   .exact S k u
   .rw[Ua (by omega),Ua (by omega)]
  subst J;exact Gy
  all_goals (rw[<-z];simp)
set_option maxRecDepth 100000 in
@[simp] theorem PS:fx prog 146:=by
 have hf:=func146;have nt:=ntmps146;have rs:=results146;exact AW
set_option maxRecDepth 100000 in
@[simp] theorem PU:fx prog 252:=by
 have hf:=func252;have nt:=ntmps252;have rs:=results252;exact AW
def aF(l:List Vc):Nat->Vc
 |0=>(0,0,0)
 |i+1=>match l[i]? with
  |some p=>((aF l i).1+p.1,(aF l i).2.1+p.2.1,(aF l i).2.2+p.2.2)
  |none=>aF l i
theorem jL{l:List Vc}(d:l.all (aC 268435456)=true):∀i:Nat,fv ((i:Int)*268435456) (aF l i)
 |0=>by simp[aF,fv]
 |i+1=>by
  obtain⟨e,f,i3⟩:=jL d i;simp only[aF];split
  .rename_i p hp
   obtain⟨a,b,c⟩:=eM (TY.1 d p (Is hp));exact⟨⟨by simp only;omega,by simp only;omega⟩,⟨by simp only;omega,by simp only;omega⟩,⟨by simp only;omega,by simp only;omega⟩⟩
  .exact⟨⟨by omega,by omega⟩,⟨by omega,by omega⟩,⟨by omega,by omega⟩⟩
def uo(s p:Vc)(j:Nat):List AV:=[.pv (Z (if 0<j then s.1+p.1 else s.1)),.pv (Z (if 1<j then s.2.1+p.2.1 else s.2.1)),.pv (Z (if 2<j then s.2.2+p.2.2 else s.2.2))]
theorem Mf(l:List Vc)(h8:l.length<=8)(q:l.all (aC 268435456)=true):bk 253 (aV l) (ax (aF l l.length)):=by
 refine Dp func253 λC hP hN=>?_;refine Gz ?_;refine WP.loopN [5] l.length (λi st=>st.t 2=.ptr 2 0/\st.h 2=some (.box [.pv (Z 0),.pv (Z 0),.pv (Z 0)] true false)/\st.t 3=.ptr 3 0/\st.h 3=some (.box [.pv (Z (aF l i).1),.pv (Z (aF l i).2.1),.pv (Z (aF l i).2.2)] true false)/\st.t 7=.pv (aV l)/\st.t 8=.pv (Z l.length)/\st.t 9=.pv (Z i)/\st.h 5=none) (by simp[aF]) ?_;rintro i st hi ⟨g2,b,g3,a,e,f,g,c⟩;by_cases m:i<l.length
 .have y:=am m (by omega)
  generalize o:l[i]=p at *
  have r:l[i]?=some p:=by rw[an m,o]
  have z:=jL q (i+1);have hp:=eM (TY.1 q p (Is r))
  have hS:aF l (i+1)=((aF l i).1+p.1,(aF l i).2.1+p.2.1,(aF l i).2.2+p.2.2):=by simp only[aF,r]
  generalize aF l i=S at *;generalize aF l (i+1)=A at *;subst hS;obtain⟨s,u,v⟩:=z;simp only at s u v;have v1:i64.wrap (S.1+p.1)=S.1+p.1:=aa;have v2:i64.wrap (S.2.1+p.2.1)=S.2.1+p.2.1:=aa;have v3:i64.wrap (S.2.2+p.2.2)=S.2.2+p.2.2:=aa;clear s u v hp;have k:[AV.pv (Z S.1),AV.pv (Z S.2.1),AV.pv (Z S.2.2)]=uo S p 0:=rfl;rw[k]at a;refine Gz ?_;refine WP.loopN [] 3 (λj st=>st.t 2=.ptr 2 0/\st.h 2=some (.box [.pv (Z 0),.pv (Z 0),.pv (Z 0)] true false)/\st.t 3=.ptr 3 0/\st.h 3=some (.box (uo S p j) true false)/\st.t 5=.ptr 5 0/\st.h 5=some (.box [.pv (Z p.1),.pv (Z p.2.1),.pv (Z p.2.2)] true false)/\st.t 7=.pv (aV l)/\st.t 8=.pv (Z l.length)/\st.t 9=.pv (Z i)/\st.t 13=.pv (Z j)) (by simp[g2,b,g3,e,f,g,a,uo]) ?_;clear g2 b g3 e f g a c;rintro j st x ⟨g2,b,g3,a,g5,c,e,f,g,d⟩;rcases eF x with rfl|rfl|rfl|rfl
  all_goals (simp[uo]at a d)
  .skip
   with_reducible repeat' (first|refine Sp.h ?_|((first|refine Wd ?_|refine Ss.h ?_|(refine Sb.h ?_ ?_ ?_<;>(try intro hgd)<;>try exact Xy))<;>simp -implicitDefEqProofs (maxSteps:=2000000) [hP,hN,g2,b,g3,a,g5,c,e,f,g,d,v1,uo]<;>try refine Ya ?_)|refine X2 ?_ ?_|(refine Xd ?_ ?_<;>intro hcd<;>try exact Xx))
  .skip
   with_reducible repeat' (first|refine Sp.h ?_|((first|refine Wd ?_|refine Ss.h ?_|(refine Sb.h ?_ ?_ ?_<;>(try intro hgd)<;>try exact Xy))<;>simp -implicitDefEqProofs (maxSteps:=2000000) [hP,hN,g2,b,g3,a,g5,c,e,f,g,d,v2,uo]<;>try refine Ya ?_)|refine X2 ?_ ?_|(refine Xd ?_ ?_<;>intro hcd<;>try exact Xx))
  .skip
   with_reducible repeat' (first|refine Sp.h ?_|((first|refine Wd ?_|refine Ss.h ?_|(refine Sb.h ?_ ?_ ?_<;>(try intro hgd)<;>try exact Xy))<;>simp -implicitDefEqProofs (maxSteps:=2000000) [hP,hN,g2,b,g3,a,g5,c,e,f,g,d,v3,uo]<;>try refine Ya ?_)|refine X2 ?_ ?_|(refine Xd ?_ ?_<;>intro hcd<;>try exact Xx))
  .skip
   exact Gy
 .have n:i=l.length:=by omega
  subst n;exact Gy
abbrev kI:List Vc:=[(1,0,0),(-1,0,0),(0,1,0),(0,-1,0),(0,0,1),(0,0,-1)]
theorem PW:Bs 200 (aV kI):=by
 refine Dp func200 λC hP hN=>?_;exact Gy
theorem lP{l:List av}:(aE l).all (aC 268435456)=true:=by
 unfold aE;split
 .rename_i h
  have hp:=(bX h).1;rw[TY]at hp|-;intro x e;obtain⟨v,g,rfl⟩:=Uo.1 e;have f:=hp v g;rw[gv]at f;obtain⟨a,b,c⟩:=f
  have d:∀x:Iv,dO x=true->gt (mv x) 268435456=true:=λx e=>by
   rw[f8]at e;rw[bm];unfold mv;split<;>omega
  rw[cD];exact⟨d _ a,d _ b,d _ c⟩
 .rfl
theorem gu{l:List av}(h:az l=true):(aE l).length=l.length:=by simp[aE,h]
def ln(a b:List av):Vc:=((aF (aE a) a.length).1*b.length-(aF (aE b) b.length).1*a.length,(aF (aE a) a.length).2.1*b.length-(aF (aE b) b.length).2.1*a.length,(aF (aE a) a.length).2.2*b.length-(aF (aE b) b.length).2.2*a.length)
def kJ(a b:List av):Vc:=if az a&&az b then bE (ln a b)else(0,0,0)
def mc(a b:List av):Bool:=az a&&az b&&nz (bE (ln a b))
theorem FH{l:List av}(h:az l=true):fv 2147483648 (aF (aE l) l.length):=by
 have a:=jL (lP (l:=l)) l.length;have b:=(bX h).2.1;exact jJ a (by omega)
theorem EI{a b:List av}(f:az a=true)(g:az b=true):fv 1099511627776 (ln a b):=by
 obtain⟨i,j,k⟩:=FH f;obtain⟨t1,t2,t3⟩:=FH g;have c:=(bX f).2.1;have d:=(bX g).2.1
 have e:∀x:Int,-2147483648<=x/\x<=2147483648->∀n:Nat,n<=8->-17179869184<=x*n/\x*n<=17179869184:=λx l n hn=>by
  have:=bQ (a:=x) (b:=(n:Int)) 2147483648 8 (by omega) (by omega) (by omega) (by omega);omega
 have a1:=e _ i _ d;have a2:=e _ j _ d;have a3:=e _ k _ d;have b1:=e _ t1 _ c;have b2:=e _ t2 _ c;have b3:=e _ t3 _ c;unfold ln;exact⟨by simp only;omega,by simp only;omega,by simp only;omega⟩
def EJ(v:Vc)(j:Nat):List AV:=[.pv (Z (if 0<j then v.1 else 0)),.pv (Z (if 1<j then v.2.1 else 0)),.pv (Z (if 2<j then v.2.2 else 0))]
theorem PX(a b:List av)(K:a.length<=9223372036854775807)(L:b.length<=9223372036854775807):aO 199 (aH a) (aH b) (.tup [ax (kJ a b),B (mc a b)]):=by
 have I:=uA a K;have J:=uA b L
 have hN:kJ a b=if az a&&az b then bE (ln a b)else(0,0,0):=rfl
 have R:mc a b=(az a&&az b&&nz (bE (ln a b))):=rfl;rw[hN,R]
 cases c:az a with
 |false=>
  rw[c]at I;refine Dp func199 λC hP hN=>?_;exact Gy
 |true=>
 rw[c]at I
 cases d:az b with
 |false=>
  rw[d]at J;refine Dp func199 λC hP hN=>?_;exact Gy
 |true=>
 rw[d]at J;have c1:=EP a K;have c2:=EP b L;have P:=Mf (aE a) (by rw[gu c];exact(bX c).2.1) lP;have Q:=Mf (aE b) (by rw[gu d];exact(bX d).2.1) lP;rw[gu c]at P;rw[gu d]at Q;have v:=EI c d;have c5:=Mx (ln a b) v;obtain⟨W,X,Y⟩:=FH c;obtain⟨t1,t2,t3⟩:=FH d;have s:=(bX c).2.1;have u:=(bX d).2.1;have i:ln a b=((aF (aE a) a.length).1*b.length-(aF (aE b) b.length).1*a.length,(aF (aE a) a.length).2.1*b.length-(aF (aE b) b.length).2.1*a.length,(aF (aE a) a.length).2.2*b.length-(aF (aE b) b.length).2.2*a.length):=rfl;simp only[Vi,Ui,Un]
 have e:∀x:Int,-2147483648<=x/\x<=2147483648->∀n:Nat,n<=8->-17179869184<=x*n/\x*n<=17179869184:=λx hx n hn=>by
  have:=bQ (a:=x) (b:=(n:Int)) 2147483648 8 (by omega) (by omega) (by omega) (by omega);omega
 generalize aF (aE a) a.length=S at *;generalize aF (aE b) b.length=T at *;generalize ln a b=V at *;have f1:=e _ W _ u;have f2:=e _ X _ u;have f3:=e _ Y _ u;have k1:=e _ t1 _ s;have k2:=e _ t2 _ s;have k3:=e _ t3 _ s;clear e
 have M:S.1*b.length-T.1*a.length=V.1:=by rw[i]
 have N:S.2.1*b.length-T.2.1*a.length=V.2.1:=by rw[i]
 have O:S.2.2*b.length-T.2.2*a.length=V.2.2:=by rw[i]
 clear i;have y:i64.wrap (S.1*b.length)=S.1*b.length:=aa;have z:i64.wrap (T.1*a.length)=T.1*a.length:=aa;have w0:i64.wrap (S.1*b.length-T.1*a.length)=V.1:=(aa (by omega) (by omega)).trans M;have A:i64.wrap (S.2.1*b.length)=S.2.1*b.length:=aa;have D:i64.wrap (T.2.1*a.length)=T.2.1*a.length:=aa;have w1:i64.wrap (S.2.1*b.length-T.2.1*a.length)=V.2.1:=(aa (by omega) (by omega)).trans N;have E:i64.wrap (S.2.2*b.length)=S.2.2*b.length:=aa;have F:i64.wrap (T.2.2*a.length)=T.2.2*a.length:=aa;have w2:i64.wrap (S.2.2*b.length-T.2.2*a.length)=V.2.2:=(aa (by omega) (by omega)).trans O;generalize bE V=n at *;have G:i64.wrap (a.length:Int)=(a.length:Int):=aa;have H:i64.wrap (b.length:Int)=(b.length:Int):=aa;refine Dp func199 λC hP hN=>?_;refine Gz ?_;refine WP.loopN [] 3 (λk st=>st.t 0=.pv (aH a)/\st.t 1=.pv (aH b)/\st.t 4=.ptr 4 0/\st.h 4=some (.box [.pv (Z 0),.pv (Z 0),.pv (Z 0)] true false)/\st.t 5=.ptr 5 0/\st.h 5=some (.box [.pv (B false)] true false)/\st.t 6=.ptr 6 0/\st.h 6=some (.box [.pv (Z S.1),.pv (Z S.2.1),.pv (Z S.2.2)] true false)/\st.t 7=.ptr 7 0/\st.h 7=some (.box [.pv (Z T.1),.pv (Z T.2.1),.pv (Z T.2.2)] true false)/\st.t 8=.ptr 8 0/\st.h 8=some (.box (EJ V k) true false)/\st.t 26=.pv (Z k)) (by simp[EJ]) ?_;rintro k st U ⟨g0,g1,g4,j,g5,l,p,m,q,o,r,g,f⟩;rcases eF U with rfl|rfl|rfl|rfl
 all_goals (simp[EJ]at g f)
 .skip
  exact GS (zAe p m q o r g g0 g1 g4 g5 j l f y (so z w0 G H @EJ.eq_1))
 .skip
  exact GS (zAe p m q o r g g0 g1 g4 g5 j l f A (so D w1 G H @EJ.eq_1))
 .skip
  exact GS (zAe p m q o r g g0 g1 g4 g5 j l f E (so F w2 G H @EJ.eq_1))
 .skip
  exact Gy
structure YEnv(P:Program) where
 N:Nat
 l:Nat
 xs:List PV
 J:Bool->Nat->(Nat->Nat->Prop)->World->Prop
 bd:∀s i M W,J s i M W->∀b o,M b o->b<W.heap.size
 gr:∀s i M W W',J s i M W->Ext (λ_=>False) W W'->J s i M W'
 yl:∀m i x M W v1,xs[i]?=some x->J false i M W->Rep W M x v1->YieldAt Fence.wide m P l #[v1] W λe W'=>∃(b:Bool)(M':Nat->Nat->Prop),e=.returned (.bool b)/\J (!b) (if b=true then i+1 else i) M' W'/\Pres W M W' M'
abbrev QY:=Exit->(Nat->AV)->Nat->Bool->Prop
def JC(E:YEnv P)(Q:QY):Exit->Act->World->Prop:=λe b f=>∃t' c d a,E.J d c a f/\ff E.N a t' b f/\b.defers=[]/\Q e t' c d
def bU(E:YEnv P)(c:Code)(Q:QY)(t:Nat->AV)(i:Nat)(s:Bool):Prop:=
 ∀n a w M,E.J s i M w->ff E.N M t a w->a.defers=[]->c.wpIn Fence.wide n P (JC E Q) a w
section
variable {P:Program} {E:YEnv P} {Q:QY} {t:Nat->AV} {i:Nat} {s:Bool}
theorem bU.walk(h:∀C:Cx,C.P=P->C.N=E.N->aI Fence.wide C c (λe b=>Q e (bM b.t) i s) ⟨t,λ_=>none⟩):bU E c Q t i s:=by
 intro n a w M g j hd;refine wpIn_mono (j.step (E.bd _ _ _ _ g) h) ?_;rintro e l m ⟨b,hq,d,k,f⟩;exact⟨_,i,s,M,E.gr _ _ _ _ _ g k,d,by rw[f];exact hd,hq⟩
theorem bU.mono{Q':QY}(h:bU E c Q t i s)(hq:∀e t i s,Q e t i s->Q' e t i s):bU E c Q' t i s:=
 λn a w M l k hd=>wpIn_mono (h n a w M l k hd) λ_ _ _ ⟨t',m,o,b,d,f,g,j⟩=>⟨t',m,o,b,d,f,g,hq _ _ _ _ j⟩
theorem bU.sub{t':Nat->AV}(h:bU E c Q t' i s)(e:∀m,t' m=.undef\/t' m=t m):bU E c Q t i s:=
 λn a w M d b hd=>h n a w M d (b.sub e) hd
def JD{P:Program}(E:YEnv P)(y:Code)(Q:QY):QY
 |.normal,t,i,s=>bU E y Q t i s
 |e,t,i,s=>Q e t i s
theorem bU.seq{x:Code}(h:bU E x (JD E y Q) t i s):bU E (.seq x y) Q t i s:=by
 intro n a w M l k hd;refine wpIn_seq (wpIn_mono (h n a w M l k hd) ?_);rintro e j p ⟨t',m,o,b,c,d,f,g⟩
 cases e with
 |normal=>exact g n j p b c d f
 |_=>exact⟨t',m,o,b,c,d,f,g⟩
theorem bU.skip(h:Q .normal t i s):bU E .skip Q t i s:=λ_ _ _ M b a hd=>wpIn_skip ⟨t,i,s,M,b,a,hd,h⟩
theorem bU.ret(h:Q .ret t i s):bU E .ret Q t i s:=λ_ _ _ M b a hd=>wpIn_ret ⟨t,i,s,M,b,a,hd,h⟩
theorem bU.exit(h:Q (.exit id) t i s):bU E (.exit id) Q t i s:=λ_ _ _ M b a hd=>wpIn_exit ⟨t,i,s,M,b,a,hd,h⟩
theorem bU.cond{m:Nat}{x:Code}{b:Bool}(g:t m=.pv (.val (.bool b)))(k:b=true->bU E x Q t i s)(hf:b=false->bU E y Q t i s):bU E (.cond (.tmp m) x y) Q t i s:=by
 intro n a w M f c hd
 have d:a.eval (.tmp m)=.bool b:=by
  rcases c.2 m with e|⟨p,e,j⟩
  .grind
  .rw[g]at e;injection e with e;subst e;exact aR j
 exact wpIn_cond_split d (λe=>k e n a w M f c hd) (λe=>hf e n a w M f c hd)
def yI(id:Nat)(Q:QY):QY
 |.exit j,t,i,s=>if j=id then Q .normal t i s else Q (.exit j) t i s
 |e,t,i,s=>Q e t i s
theorem bU.block(h:bU E c (yI id Q) t i s):bU E (.block id c) Q t i s:=by
 intro n a w M p o hd;refine wpIn_block (wpIn_mono (h n a w M p o hd) ?_);rintro e q r ⟨t',l,m,d,f,g,k,b⟩
 cases e with
 |exit j=>
  simp only[yI,Exit.inBlock]at b|-;split
  .rename_i e;rw[T6 e]at b;exact⟨t',l,m,d,f,g,k,b⟩
  .rename_i e;rw[TZ e]at b;exact⟨t',l,m,d,f,g,k,b⟩
 |_=>exact⟨t',l,m,d,f,g,k,b⟩
theorem bU.loopN(K:Nat)(I:Nat->(Nat->AV)->Nat->Bool->Prop)(R:I 0 t i s)
 (round:∀k t i s,k<=K->I k t i s->bU E c (λe t i s=>match e with|.normal=>k<K/\I (k+1) t i s|e=>Q e t i s) t i s):bU E (.loop c) Q t i s:=by
 classical
 intro n a w M O L hd
 let b:Nat->Act->World->Prop:=λk a w=>∃t i s M,I k t i s/\E.J s i M w/\ff E.N M t a w/\a.defers=[]
 have f:∀a w,(∃k,k<=K/\b k a w)->∃k,k<=K/\b k a w/\∀j,j<=K->b j a w->j<=k:=by
  intro a w ⟨T,r,H⟩
  have:∀d k,K-k<=d->k<=K->b k a w->∃k,k<=K/\b k a w/\∀j,j<=K->b j a w->j<=k:=by
   intro d
   induction d with
   |zero=>intro k hd P m;exact⟨k,P,m,λj V _=>by omega⟩
   |succ d ih=>
    grind
  exact this K T (by omega) r H
 refine wpIn_loop (λa w=>∃k,k<=K/\b k a w) (λa w=>K-(if h:∃k,k<=K/\b k a w/\∀j,j<=K->b j a w->j<=k then h.choose else 0)) ⟨0,UO _,t,i,s,M,R,O,L,hd⟩ ?_;intro a1 D o;have u:=f a1 D o;have v:=u.choose_spec;obtain⟨t1,S,U,G,g1,g2,g3,g4⟩:=v.2.1;refine wpIn_mono (round _ t1 S U v.1 g1 n a1 D G g2 g3 g4) ?_;rintro e a2 F ⟨t2,x,C,q,y,z,A,B⟩
 cases e with
 |normal=>
  obtain⟨l,m⟩:=B;have g:b (u.choose+1) a2 F:=⟨t2,x,C,q,m,y,z,A⟩;refine⟨⟨_,l,g⟩,?_⟩;have p:=f a2 F ⟨_,l,g⟩;have r:=p.choose_spec.2.2 _ l g
  grind
 |_=>exact⟨t2,x,C,q,y,z,A,B⟩
end
theorem xd{l:Nat}{rest:List Oper}{c:Call}{f x:Operand}{Q:Exit->Act->World->Prop}{a:Act}{w:World}{R:Ending->World->Prop}(r:Region.wanted o (yielded ops a.tmps)=true)(q:o.op=.call c)(j:c.callee=.value f)(b:c.args=#[x])
 (hf:a.eval f=.func (.yield l) #[] #[])(s:YieldAt Fence.wide (n-1) P l #[a.eval x] w R)
 (i:∀e m,R e m->∃v,e=.returned v/\wpListIn Fence.wide n P ops Q rest (a.put o.dst v) m):wpListIn Fence.wide n P ops Q (o::rest) a w:=by
 obtain⟨fn,tmps,assign,body,k,d⟩:=s;unfold wpListIn;rw[T6 r];refine⟨λ_ _=>trivial,?_⟩;show o.uponIn Fence.wide n P a _ Q ((o.semAt none a.eval).run P w);rw[Oper.semAt_none]
 have g:(execOp a.eval o).run P w=.ok (.round l fn tmps assign body) w:=by
  generalize a.eval=ρ at hf k;unfold execOp;rw[q];obtain⟨p,u,at_⟩:=c;simp only at j b;subst j;subst b;simp[resolve,hf,invoke,go_sem,k]
 rw[g];refine⟨λh=>(by cases h),d.mono ?_⟩
 grind
section
variable {P:Program} {E:YEnv P} {Q:QY} {t:Nat->AV} {i:Nat}
theorem bU.yield{d f x:Nat}{c:Call}(s:ops.toList=pre++o::post)(O:qX ops=true)(ho:o.op=.call c)(hc:c.callee=.value (.tmp f))(u:c.args=#[.tmp x])(hd:o.dst=some d)(K:d<E.N)
 (B:dR P hn E.N ops (λg=>g.t f=.pv (.val (.func (.yield E.l) #[] #[]))/\fP ops (bM g.t) o.guard=some true/\∃q,g.t x=.pv q/\E.xs[i]?=some q/\
   ∀b,dR P hn E.N ops (λC=>Q .normal (bM C.t) (if b=true then i+1 else i) (!b)) post ⟨ag (bM g.t) d (.pv (.val (.bool b))),λ_=>none⟩) pre ⟨t,λ_=>none⟩):bU E (.region id ops false) Q t i false:=by
 intro n a w M W hH L;refine wpIn_region_list ?_;rw[s];refine dX _ ?_;have r:∀y∈pre++o::post,∀c,y.op≠.defer c:=λy j=>lZ O (by rw[s];exact j);refine hH.list (E.bd _ _ _ _ W) (λy j=>r y (VU _ j)) B ?_;rintro g D X ⟨Z,h2,q,h3,h4,h5⟩ k hx v;have z:=E.gr _ _ _ _ _ W hx;have H:=E.bd _ _ _ _ z
 have Y:D.eval (.tmp f)=.func (.yield E.l) #[] #[]:=by
  rcases k.2 f with e|⟨p,e,T⟩
  .grind [bM]
  .simp only[bM,Z]at e;injection e with e;subst e;exact aR T
 have ex:Rep X M q (D.eval (.tmp x)):=by
  rcases k.2 x with e|⟨p,e,T⟩
  .grind [bM]
  .simp only[bM,h3]at e;injection e with e;subst e;exact T
 refine xd ?_ ho hc u Y (E.yl (n-1) i q M X _ h4 z ex) ?_
 .exact eJ (k.sim (P:=P) H).2.2 h2
 rintro e w2 ⟨b,V,rfl,A,R⟩;refine⟨_,rfl,?_⟩
 have F:ff E.N V (ag (bM g.t) d (.pv (.val (.bool b)))) (D.put o.dst (.bool b)) w2:=by
  have I:=k.mono R;rw[hd]
  have v:d<D.tmps.size:=by rw[I.1];exact K
  refine⟨by simpa[Act.put]using I.1,λm=>?_⟩;rw[ry v];simp only[ag];split
  .exact .inr ⟨_,rfl,.val _⟩
  .exact I.2 m
 refine F.list (E.bd _ _ _ _ A) (λy j=>r y (List.mem_append_right _ (Wt _ j))) (h5 b) ?_;intro ad a3 w3 S G U J;exact⟨_,_,_,V,E.gr _ _ _ _ _ A U,G,by rw[J,kB,v];exact L,S⟩
end
def tI(l:Nat)(caps:List PV):Nat->AV
 |0=>.pv (.val (.func (.yield l) #[] #[]))
 |k+1=>match caps[k]? with
  |some p=>.pv p
  |none=>.undef
theorem HO{gf:FuncId}{fn:Func}{caps xs:List PV}(hf:P.funcs[gf]?=some fn)(V:fn.body=some c)(q:dh P gf=true)(v:fn.results=#[])(H:caps.length+1<=fn.ntmps)
 (h:∀E:YEnv P,E.N=fn.ntmps->E.xs=xs->bU E c (λe _ i s=>(e=.normal\/e=.ret)/\(if s=true then i<xs.length else i=xs.length)) (tI E.l caps) 0 false):By P gf caps xs:=by
 refine⟨q,λn l a W M J g A T B U hY O f=>?_⟩
 have I:∀(s:Bool) i M W,(if s=true then g i M W else J i M W)->∀b o,M b o->b<W.heap.size:=by
  intro s i M W F
  cases s with
  |true=>exact B i M W F
  |false=>exact A i M W F
 have K:∀(s:Bool) i M W j,(if s=true then g i M W else J i M W)->Ext (λ_=>False) W j->(if s=true then g i M j else J i M j):=by
  grind
 have L:∀m i x M W v1,xs[i]?=some x->(if false=true then g i M W else J i M W)->Rep W M x v1->YieldAt Fence.wide m P l #[v1] W λe j=>∃(b:Bool)(d:Nat->Nat->Prop),e=.returned (.bool b)/\(if(!b)=true then g (if b=true then i+1 else i) d j else J (if b=true then i+1 else i) d j)/\Pres W M j d:=by
  grind
 let E:YEnv P:={N:=fn.ntmps,l:=l,xs:=xs,J:=λs i M W=>if s=true then g i M W else J i M W,bd:=I,gr:=K,yl:=L}
 have X:=f.1;refine(callsIn_of_wp_marks hf V trivial ?_ rfl)
 have S:ff fn.ntmps M (tI l caps) {tmps:=((#[Value.func (.yield l) #[] #[]]:Array Value)++a.toArray)++Array.replicate (fn.ntmps-((#[Value.func (.yield l) #[] #[]]:Array Value)++a.toArray).size) undef,defers:=[]} W:=by
  refine⟨by simp;omega,λm=>?_⟩
  cases m with
  |zero=>
   have D:(((#[Value.func (.yield l) #[] #[]]:Array Value)++a.toArray)++Array.replicate (fn.ntmps-((#[Value.func (.yield l) #[] #[]]:Array Value)++a.toArray).size) undef).getD 0 undef=.func (.yield l) #[] #[]:=by
    rw[T7,UC (by simp),UC (by simp)];rfl
   refine .inr ⟨_,rfl,?_⟩;simp only[D];exact .val _
  |succ k=>
   simp only[tI]
   cases G:caps[k]? with
   |none=>exact .inl rfl
   |some p=>
    have u:k<a.length:=by rw[<-X];exact(th.1 G).1
    have hr:=f.2 k p a[k] G (an u);refine .inr ⟨p,rfl,?_⟩
    have D:(((#[Value.func (.yield l) #[] #[]]:Array Value)++a.toArray)++Array.replicate (fn.ntmps-((#[Value.func (.yield l) #[] #[]]:Array Value)++a.toArray).size) undef).getD (k+1) undef=a[k]:=by
     rw[T7,UC (by simp;omega),Array.getElem?_append_right (by simp)];simp[u]
    grind
 refine wpIn_mono (h E rfl rfl n _ W M O S rfl) ?_;rintro e z y ⟨t',i',s',d,Y,Z,Q,R,h5⟩
 have r:((∃d,J xs.length d y)\/∃i d,i<xs.length/\g i d y):=by
  grind
 have C:(results fn z.tmps).run P y=.ok (.tuple #[]) y:=by
  unfold results;rw[v];simp[go_sem]
 rcases R with rfl|rfl
 all_goals
  show LeavesInM Fence.wide n P fn z.tmps _ z.defers .returning y
  rw[Q];exact⟨_,C,⟨_,rfl⟩,r⟩
section
variable {P:Program} {E:YEnv P} {Q:QY} {C:Cx} {st:St} {i:Nat} {s:Bool}
def cE{P:Program}(E:YEnv P)(C:Cx)(c:Code)(Q:QY)(st:St)(i:Nat)(s:Bool):Prop:=
 C.P=P->C.N=E.N->(∀b,¬C.S b)->E.J s i C.M0 C.w0->∀n L a w,gX C L st a w->a.defers=[]->c.wpIn Fence.wide n P (JC E Q) a w
theorem JF{C:Cx}(h:∀b,¬C.S b){w c:World}(a:Ext C.S w c):Ext (λ_=>False) w c:=by
 have e:C.S=λ_=>False:=funext λb=>propext ⟨λd=>(h b d).elim,False.elim⟩;rw[e]at a;exact a
theorem bU.blocks{t:Nat->AV}(h:∀C:Cx,C.P=P->C.N=E.N->cE E C c Q ⟨t,λ_=>none⟩ i s):bU E c Q t i s:=by
 intro n a w M b d hd;exact h {P:=P,N:=E.N,M0:=M,S:=λ_=>False,pb:=λ_=>none,w0:=w} rfl rfl rfl rfl (λ_ h=>h) b n _ a w (d.sim (E.bd _ _ _ _ b)) hd
theorem cE.drop(h:bU E c Q (bM st.t) i s):cE E C c Q st i s:=by
 intro hP hN hS e n L a w d hd;have b:=qY d;rw[hN]at b;exact h n a w C.M0 (E.gr _ _ _ _ _ e (JF hS d.1.ext)) b hd
def Nu{P:Program}(E:YEnv P)(C:Cx)(y:Code)(Q:QY)(i:Nat)(s:Bool):Exit->St->Prop
 |.normal,st=>cE E C y Q st i s
 |e,st=>Q e (bM st.t) i s
theorem cE.seq{x:Code}(h:aI Fence.wide C x (Nu E C y Q i s) st):cE E C (.seq x y) Q st i s:=by
 intro hP hN hS j n L a w l hd;subst hP;refine wpIn_seq (wpIn_mono (h n L a w l) ?_);rintro e f o ⟨m,k,b,_,d,hq⟩
 have c:f.defers=[]:=by rw[d];exact hd
 have g:=qY b;rw[hN]at g
 cases e with
 |normal=>exact hq rfl hN hS j n k f o b c
 |_=>exact⟨_,i,s,C.M0,E.gr _ _ _ _ _ j (JF hS b.1.ext),g,c,hq⟩
theorem cE.walk(h:aI Fence.wide C c (λe d=>Q e (bM d.t) i s) st):cE E C c Q st i s:=by
 intro hP hN hS j n L a w k hd;subst hP;refine wpIn_mono (h n L a w k) ?_;rintro e m o ⟨d,l,b,_,f,hq⟩;have g:=qY b;rw[hN]at g;exact⟨_,i,s,C.M0,E.gr _ _ _ _ _ j (JF hS b.1.ext),g,by rw[f];exact hd,hq⟩
theorem cE.cond{m:Nat}{x:Code}{b:Bool}(g:st.t m=.pv (.val (.bool b)))(k:b=true->cE E C x Q st i s)(hf:b=false->cE E C y Q st i s):cE E C (.cond (.tmp m) x y) Q st i s:=by
 intro hP hN hS f n L a w d hd
 have c:a.eval (.tmp m)=.bool b:=by
  have h:=d.2.2 m;rw[g]at h
  cases h with
  |pv j=>exact aR j
 exact wpIn_cond_split c (λe=>k e hP hN hS f n L a w d hd) (λe=>hf e hP hN hS f n L a w d hd)
theorem cE.seqY{x:Code}(h:cE E C x (JD E y Q) st i s):cE E C (.seq x y) Q st i s:=by
 intro hP hN hS k n L a w l hd;refine wpIn_seq (wpIn_mono (h hP hN hS k n L a w l hd) ?_);rintro e j p ⟨t',m,o,b,c,d,f,g⟩
 cases e with
 |normal=>exact g n j p b c d f
 |_=>exact⟨t',m,o,b,c,d,f,g⟩
theorem cE.block(h:cE E C c (yI id Q) st i s):cE E C (.block id c) Q st i s:=by
 intro hP hN hS o n L a w p hd;refine wpIn_block (wpIn_mono (h hP hN hS o n L a w p hd) ?_);rintro e q r ⟨t',l,m,d,f,g,k,b⟩
 cases e with
 |exit j=>
  simp only[yI]at b;show(if j=id then _ else _);split
  .rename_i e;rw[T6 e]at b;exact⟨t',l,m,d,f,g,k,b⟩
  .rename_i e;rw[TZ e]at b;exact⟨t',l,m,d,f,g,k,b⟩
 |_=>exact⟨t',l,m,d,f,g,k,b⟩
theorem cE.yield{d f x:Nat}{c:Call}(s:ops.toList=pre++o::post)(S:qX ops=true)(ho:o.op=.call c)(hc:c.callee=.value (.tmp f))(v:c.args=#[.tmp x])(hd:o.dst=some d)(O:d<E.N)
 (u:dR P hn E.N ops (λg=>g.t f=.pv (.val (.func (.yield E.l) #[] #[]))/\fP ops (bM g.t) o.guard=some true/\∃q,g.t x=.pv q/\E.xs[i]?=some q/\
   ∀b,dR P hn E.N ops (λF=>Q .normal (bM F.t) (if b=true then i+1 else i) (!b)) post ⟨ag (bM g.t) d (.pv (.val (.bool b))),λ_=>none⟩) pre st):cE E C (.region id ops false) Q st i false:=by
 intro hP hN hS hJ n L a w hs R;subst hP;rw[<-hN]at u;refine wpIn_region_list ?_;rw[s];refine dX _ ?_;have r:∀z∈pre++o::post,∀c,z.op≠.defer c:=λz j=>lZ S (by rw[s];exact j);refine iS gJ (λg L' G w' D _ y hq=>?_) (λz j=>r z (VU _ j)) hs (aM.refl hs.1) rfl u;obtain⟨Y,h2,q,Z,h4,h5⟩:=hq;have k:=qY D;have A:=E.gr _ _ _ _ _ hJ (JF hS D.1.ext);have J:=E.bd _ _ _ _ A
 have ef:G.eval (.tmp f)=.func (.yield E.l) #[] #[]:=by
  rcases k.2 f with e|⟨p,e,V⟩
  .simp only[bM,Y]at e;cases e
  .simp only[bM,Y]at e;injection e with e;subst e;exact aR V
 have ex:Rep w' C.M0 q (G.eval (.tmp x)):=by
  rcases k.2 x with e|⟨p,e,V⟩
  .simp only[bM,Z]at e;cases e
  .simp only[bM,Z]at e;injection e with e;subst e;exact V
 refine xd ?_ ho hc v ef (E.yl (n-1) i q C.M0 w' _ h4 A ex) ?_
 .exact eJ (k.sim (P:=C.P) J).2.2 h2
 rintro e w2 ⟨b,X,rfl,B,T⟩;refine⟨_,rfl,?_⟩
 have H:ff E.N X (ag (bM g.t) d (.pv (.val (.bool b)))) (G.put o.dst (.bool b)) w2:=by
  have K:=k.mono T;rw[hd]
  have y:d<G.tmps.size:=by rw[K.1,hN];exact O
  refine⟨by simpa[Act.put,hN]using K.1,λm=>?_⟩;rw[ry y];simp only[ag];split
  .exact .inr ⟨_,rfl,.val _⟩
  .exact K.2 m
 refine H.list (E.bd _ _ _ _ B) (λz j=>r z (List.mem_append_right _ (Wt _ j))) (by rw[hN]at h5;exact h5 b) ?_;intro ad a3 w3 U I W M;exact⟨_,_,_,X,E.gr _ _ _ _ _ B W,I,by rw[M,kB,y];exact R,U⟩
end
def uY(C:Cx)(ds:List Deferred)(st:St)(a:Act)(w:World):Prop:=∃L,MemL C L st.h w/\a.tmps.size=C.N/\a.defers=ds/\∀n,RepA w (ae C L st.h) L st.h (st.t n) (a.tmps.getD n undef)
theorem uY.put{C:Cx}{ds:List Deferred}{L:Nat->Loc}{st:St}{a:Act}{w:World}(j:MemL C L st.h w)(hN:a.tmps.size=C.N)(b:a.defers=ds)(k:∀n,RepA w (ae C L st.h) L st.h (st.t n) (a.tmps.getD n undef))
 {d:Option Nat}(hd:dr C.N d=true){v:AV}{W:List (Nat×Blk)}{u:Value}{c:World}{L':Nat->Loc}(i:aM C L st.h w L' (ai st.h W) c)(l:RepA c (ae C L' (ai st.h W)) L' (ai st.h W) v u):
 uY C ds (st.put d v W) (a.put d u) c:=by
 obtain⟨e,f,g⟩:=gX.put (a:=a) ⟨j,hN,k⟩ hd i l;exact⟨L',e,f,(kB _ _ _).trans b,g⟩
section
variable {C:Cx} {hn:List Nat} {ops:Array Oper} {fs:List Ef} {st:St} {ds:List Deferred}
theorem Gg(z:ke ops=true)(b4:fs.length=ops.size)(V:∀(i:Nat) o f,ops[i]?=some o->fs[i]?=some f->nV C.P hn C.N ops o (run (fs.take i) st) f)
 (R:jC (kc ops.toList []) (fs.map λf=>(f.W.map (·.1),f.K))=true){Q':Exit->Act->World->Prop}(hQ:∀a w,uY C ds (run fs st) a w->Q' .normal a w):
 ∀(fuel:Nat)(c:Array Bool)(a:Act)(w:World),c.size=ops.size->((List.range ops.size).filter λj=>!aN c j).length<=fuel->(∀i j,nT ops i j->aN c j=true->aN c i=true)->
  uY C ds (fy fs ops.size st (aN c)) a w->wpAny C.P .any ops Q' fuel c a w:=by
 have H:∀c:Array Bool,Region.ready .any ops c=[]->c.size=ops.size->∀j,j<ops.size->aN c j=true:=by
  intro c X B j
  induction j using Nat.strongRecOn with
  |_ j ih=>
   intro l
   cases hl:aN c j with
   |true=>rfl
   |false=>
    have:j∈Region.ready .any ops c:=lY.2 ⟨l,hl,λq hq=>by
     have ck:=qF z hq;have:=ih q ck (by omega);unfold aN at this;rw[T7]at this|-;rw[UG (by omega)]at this|-
     simpa using this⟩
    rw[X]at this;cases this
 have a1:∀(c:Array Bool) a w,Region.ready .any ops c=[]->c.size=ops.size->uY C ds (fy fs ops.size st (aN c)) a w->Q' .normal a w:=by
  intro c a w X B D;apply hQ;have hl:=H c X B
  have:fy fs ops.size st (aN c)=run fs st:=by
   have ht:run fs st=run (fs.take ops.size) st:=by rw[Up (by omega)]
   rw[ht]
   have F:(fy fs ops.size st (aN c)).t=(run (fs.take ops.size) st).t:=by
    funext r;rw[nW fs st _ (by omega)];exact ew (λj l _=>hl j l)
   have G:(fy fs ops.size st (aN c)).h=(run (fs.take ops.size) st).h:=by
    funext r;rw[nX fs st _ (by omega)];exact ew (λj l _=>hl j l)
   cases hA:fy fs ops.size st (aN c);cases hB:run (fs.take ops.size) st;rw[hA,hB]at F G;simp at F G;rw[F,G]
  rw[<-this];exact D
 intro fuel
 induction fuel with
 |zero=>
  intro c a w B bH Y D
  have ar:Region.ready .any ops c=[]:=by
   cases X:Region.ready .any ops c with
   |nil=>rfl
   |cons i r=>
    have hi:i∈Region.ready .any ops c:=by rw[X];simp
    obtain⟨F,G,_⟩:=lY.1 hi;have:i∈(List.range ops.size).filter λj=>!aN c j:=U1.2 ⟨UE.2 F,by simp[G]⟩;have b7:((List.range ops.size).filter λj=>!aN c j)=[]:=Uv (by omega);rw[b7]at this;cases this
  exact⟨ar,a1 c a w ar B D⟩
 |succ fuel ih=>
  intro c a w B bH Y D;refine⟨λX=>a1 c a w X B D,λi hi=>?_⟩;obtain⟨O,S,b1⟩:=lY.1 hi;have ho:ops[i]?=some ops[i]:=UG O;have hf:fs[i]?=some (fs[i]'(by omega)):=an _;generalize ops[i]=o at ho;generalize fs[i]'(by omega)=f at hf;obtain⟨J,b3,I⟩:=V i o f ho hf
  have y:∀q,Pre ops q i->aN c q=true:=by
   intro q hq
   have hd:∀q,nT ops q i->aN c q=true:=by
    intro q hq;have cp:=qF z hq;have:=b1 q hq;unfold aN;rw[T7]at this|-;rw[UG (by omega)]at this|-;simpa using this
   cases hq with
   |one h=>exact hd q h
   |step h h'=>exact qE Y h (hd _ h')
  have s:∀q,Pre ops i q->aN c q=false:=by
   intro q hq
   cases cj:aN c q with
   |false=>rfl
   |true=>rw[qE Y hq cj]at S;cases S
  have a6:∀j r,(se fs r j).isSome=true->∃oj A,ops[j]?=some oj/\fs[j]?=some A/\oj.dst=some r:=by
   intro j r l;unfold se at l;split at l
   .rename_i A p
    split at l
    .rename_i hd
     have ch:j<ops.size:=by rw[<-b4];exact(th.1 p).1
     have E:ops[j]?=some ops[j]:=UG ch;obtain⟨_,G,_⟩:=V j _ A E p;exact⟨_,A,E,p,by rw[<-G];exact hd⟩
    .cases l
   .cases l
  have bb:∀j k,(sf fs k j).isSome=true->∃A,fs[j]?=some A/\k∈A.W.map (·.1):=by
   intro j k l;unfold sf at l;split at l
   .rename_i A p;exact⟨A,p,vt l⟩
   .cases l
  have g:∀(j:Nat)(A:Ef),fs[j]?=some A->(fs.map λf=>(f.W.map (·.1),f.K))[j]?=some (A.W.map (·.1),A.K):=λj A h=>by simp[h]
  have ad:∀r∈pF ops o,(fy fs ops.size st (aN c)).t r=(run (fs.take i) st).t r:=by
   intro r X;rw[nW fs st i (by omega),<-qC (n:=ops.size) (by omega)];refine ew (λj l hw=>?_);obtain⟨oj,A,E,p,hd⟩:=a6 j r hw;rcases VN j i with T|rfl|a7
   .rw[y j (lX z T E ho (by simp[lE,hd,X]))];simp[T]
   .rw[S];simp
   .rw[s j (lX z a7 ho E (by simp[lE,hd,X]))]
    have:¬j<i:=by omega
    simp[this]
  have bs:∀k∈f.K,(fy fs ops.size st (aN c)).h k=(run (fs.take i) st).h k:=by
   intro k Q;rw[nX fs st i (by omega),<-qC (n:=ops.size) (by omega)];refine ew (λj l hw=>?_);obtain⟨A,p,hd⟩:=bb j k hw;rcases VN j i with T|rfl|a7
   .rw[y j (nj R T (g j A p) (g i f hf) ⟨k,.inl ⟨hd,Q⟩⟩)];simp[T]
   .rw[S];simp
   .rw[s j (nj R a7 (g i f hf) (g j A p) ⟨k,.inr ⟨hd,Q⟩⟩)]
    have:¬j<i:=by omega
    simp[this]
  have cb:∀k,k∈f.W.map (·.1)->k∈f.K:=by
   intro k Q;obtain⟨kb,ba,rfl⟩:=Uo.1 Q;rcases I with⟨_,_,_,H⟩|⟨_,_,hW,_⟩
   .have:=TY.1 H kb ba;simpa using this
   .rw[hW]at ba;cases ba
  have mo:fy fs ops.size st (aN (c.setIfInBounds i true))=(fy fs ops.size st (aN c)).put f.d f.v f.W:=by
   have b5:∀j,j<ops.size->aN (c.setIfInBounds i true) j=(aN c j||j==i):=by
    intro j l;unfold aN;by_cases e:j=i
    .subst e;simp[T7,B,l]
    .have F:(j==i)=false:=by simpa using e
     rw[F,Bool.or_false,T7,T7,US (by omega)]
   have F:(fy fs ops.size st (aN (c.setIfInBounds i true))).t=((fy fs ops.size st (aN c)).put f.d f.v f.W).t:=by
    funext r
    show iR ops.size (se fs r) (st.t r) (aN (c.setIfInBounds i true))=_;rw[ew (λj l _=>b5 j l),pm O ?_]
    .have hw:se fs r i=if f.d=some r then some f.v else none:=by simp[se,hf]
     rw[hw]
     cases hd:f.d with
     |none=>simp[St.put,fy]
     |some d=>
      simp only[St.put,ag,T4];by_cases e:d=r
      .subst e;simp
      .rw[TZ e,TZ (λh=>e h.symm)];rfl
    .intro bc j a8 l bq
     obtain⟨oi,fi,Z,M,a5⟩:=a6 i r bc;obtain⟨oj,A,E,p,hd⟩:=a6 j r bq;rw[ho]at Z;injection Z with Z;subst Z;exact s j (lX z a8 ho E (by simp[lE,a5,hd]))
   have G:(fy fs ops.size st (aN (c.setIfInBounds i true))).h=((fy fs ops.size st (aN c)).put f.d f.v f.W).h:=by
    funext k
    show iR ops.size (sf fs k) (st.h k) (aN (c.setIfInBounds i true))=_;rw[ew (λj l _=>b5 j l),pm O ?_]
    .have hw:sf fs k i=jk f.W k:=by simp[sf,hf]
     rw[hw];simp only[St.put];exact(po k f.W (fy fs ops.size st (aN c)).h).symm
    .intro bc j a8 l bq
     obtain⟨fi,M,a5⟩:=bb i k bc;obtain⟨A,p,hd⟩:=bb j k bq;rw[hf]at M;injection M with M;subst M;exact s j (nj R a8 (g i f hf) (g j A p) ⟨k,.inr ⟨hd,cb k a5⟩⟩)
   cases hA:fy fs ops.size st (aN (c.setIfInBounds i true));cases hB:(fy fs ops.size st (aN c)).put f.d f.v f.W;rw[hA,hB]at F G;simp at F G;rw[F,G]
  have U:∀a' w',uY C ds ((fy fs ops.size st (aN c)).put f.d f.v f.W) a' w'->wpAny C.P .any ops Q' fuel (c.setIfInBounds i true) a' w':=by
   intro a' w' cm;refine ih (c.setIfInBounds i true) a' w' (by simp[B]) ?_ ?_ (by rw[mo];exact cm)
   .have cn:((List.range ops.size).filter λj=>!aN (c.setIfInBounds i true) j).length<((List.range ops.size).filter λj=>!aN c j).length:=by
     have cf:((List.range ops.size).filter λj=>!aN (c.setIfInBounds i true) j)=((List.range ops.size).filter λj=>!aN c j).filter λj=>!(j==i):=by
      rw[List.filter_filter];refine List.filter_congr (λj l=>?_);have cg:=UE.1 l;unfold aN;by_cases e:j=i
      .subst e;simp[T7,B,cg]
      .have F:(j==i)=false:=by simpa using e
       rw[F,T7,T7,US (by omega)];simp
     rw[cf];refine List.length_filter_lt_length_iff_exists.2 ⟨i,U1.2 ⟨UE.2 O,by simp[S]⟩,by simp⟩
    omega
   .intro q j hd l
    have ca:∀m,aN (c.setIfInBounds i true) m=true↔(aN c m=true\/m=i):=by
     intro m;unfold aN;by_cases e:m=i
     .subst e;simp[T7,B,O]
     .rw[T7,T7,US (by omega)];simp[e]
    rw[ca]at l|-;rcases l with l|rfl
    .exact .inl (Y q j hd l)
    .exact .inl (y q (.one hd))
  obtain⟨L,hm,hN,b0,ht⟩:=D
  have hgd:fP ops (fy fs ops.size st (aN c)).t o.guard=fP ops (run (fs.take i) st).t o.guard:=by
   unfold fP;split
   .rfl
   .rename_i j want hg
    split
    .rename_i d hd
     rw[ad d (by simp[pF,hg,hd])]
    .rfl
  unfold wpOp;rw[ho];simp only;rcases I with⟨hg,hK,b2,cd⟩|⟨hg,hv,hW,_⟩
  .rw[eJ ht (hgd.trans hg)]
   rw[T6 rfl];refine .inl ?_
   have b8:∀x∈o.op.operands,(run (fs.take i) st).ev x=(fy fs ops.size st (aN c)).ev x:=by
    intro x hx
    cases x with
    |tmp t=>
     refine(ad t ?_).symm;simp only[pF,Cf,Uf,List.mem_filterMap];exact .inl ⟨.tmp t,by simpa using hx,rfl⟩
    |_=>rfl
   have b9:bW f.K (run (fs.take i) st).h=bW f.K (fy fs ops.size st (aN c)).h:=by
    funext k
    unfold bW;split
    .rename_i Q;exact(bs k (by simpa using Q)).symm
    .rfl
   rw[b9]at b2;refine lW.congr b8 b2 C L _ w a rfl hm ?_ ?_ (λx _=>dj ht x) _ _ (λu w' L' hA hv=>?_)
   .intro k b Q;unfold bW at Q;split at Q
    .exact Q
    .cases Q
   .intro d hd
    unfold bW;rw[T6 (hK d hd)];refine⟨rfl,?_⟩;have a2:=J;rw[hd]at a2;simp only[dr,An,L4]at a2;exact a2.2
   .refine U _ _ ?_
    rw[b3];exact uY.put hm hN b0 ht J hA hv
  .rw[eJ ht (hgd.trans hg)]
   simp only[T3,Ud];refine U _ _ ?_;rw[b3,hv,hW];exact uY.put hm hN b0 ht J (W:=[]) (aM.refl hm) (.pv (.val _))
variable {P:Program} {E:YEnv P} {Q:QY} {i:Nat} {s:Bool}
theorem cE.draw(q:P.follows .mixedOrders=true)(c:ke ops=true)
 (h:lj P hn E.N ops (λg st=>jC (kc ops.toList []) g=true/\cE E C y Q st i s) ops.toList [] st):cE E C (.seq (.region id ops true) y) Q st i s:=by
 intro hP hN hS F n L a w d hd;subst hP;rw[<-hN]at h;obtain⟨fs,z,A,B,D⟩:=s9 h;refine wpIn_seq (wpIn_wide.2 ?_);refine wp_region_any q (Gg (ds:=[]) (fs:=fs) (st:=st) c (by rw[z];simp) (λi o f r hf=>A i o f (by simpa using r) hf) (by simpa using B) (λa w d=>?_) _ _ _ _ (by simp) ?_ ?_ ?_)
 .obtain⟨x,p,k,l,u⟩:=d
  exact D rfl hN hS F n x a w ⟨p,k,u⟩ l
 .refine VJ (Wq _ _) (by simp)
 .intro i j hd b
  have m:j<ops.size:=by obtain⟨o,r,_⟩:=hd;exact(Ux.1 r).1
  unfold aN at b;rw[T7,VZ,T6 m]at b;cases b
 .have:fy fs ops.size st (aN (Array.replicate ops.size false))=st:=by
   have hf:∀j,j<ops.size->aN (Array.replicate ops.size false) j=false:=by
    intro j b;unfold aN;rw[T7,VZ,T6 b];rfl
   have G:∀{V:Type}(wr:Nat->Option V)(e:V),iR ops.size wr e (aN (Array.replicate ops.size false))=e:=by
    intro V wr e;rw[ew (ls':=λ_=>false) (λj b _=>hf j b)]
    have:∀n,iR n wr e (λ_=>false)=e:=by
     intro n;induction n with
     |zero=>rfl
     |succ n ih=>rw[ku];simp[ih]
    exact this _
   cases st;unfold fy;simp[G]
  rw[this];have v:=d.1.grow (Ext.drew (λ_=>False) w);exact⟨L,v.1,d.2.1,hd,λn=>(d.2.2 n).mono v.2 (KC.refl _ _)⟩
end
end Go.Ab
