/- The contracts and facts that the laws of this seat need, in one text (K2b, K3, K4, K5, K5b, K6, K7, K8, K9, K11, K10, K11b, K11c, K11d, K11e, K5c, K5d, K5e, K5f, K5g, K12, Ab28, Ab30, Ab31). -/
import Derived.Test.YtidomjacfogjlaaGreatU7
set_option linter.all false
set_option maxRecDepth 10000
set_option maxHeartbeats 16000000
namespace Go.Ab
open IntKind (i64)
open Go.Proofs.Tryz
open Go.Proofs
variable {P:Program}{a a0 a1 a10 a11 a12 a13 a14 a15 a16 a17 a18 a19 a2 a20 a21 a22 a23 a3 a4 a5 a6 a7 a8 a9 b b0 b1 b2 b3 b4 b5 d m t v0 v1 v2 v3 v4 v5 x:Int}{aft:Array Edge}{bet:Int->Int->Bool}{c y:Code}{dst:Option Nat}{f:Nat->Int}{g:Option (Nat×Bool)}{hn:List Nat}{i id k n q:Nat}{js:List J}{o:Oper}{ops:Array Oper}{post pre:List Oper}{w:List Int}{α:Type}{ρ:Operand->AV}{p:α->Bool}{xs:List α}
def mr(i:Nat):Int:=if i%2=0 then 1 else -1
def nT(xs:List Int):Nat->Int
 |0=>0
 |i+1=>nT xs i+mr i*(xs[i]?).getD 0
def fp(xs:List Int):Int:=nT xs xs.length
theorem ES(i:Nat)(x:Int):(mr i*x=x\/mr i*x=-x):=by unfold mr;split<;>simp
theorem C5(i:Nat):mr (i+1)=-mr i:=by unfold mr;split<;>split<;>omega
theorem ue{xs:List Int}(a:∀x∈xs,-1099511627776<=x/\x<=1099511627776):∀i:Nat,-((i:Int)*1099511627776)<=nT xs i/\nT xs i<=(i:Int)*1099511627776
 |0=>by simp[nT]
 |i+1=>by
  have h:=ue a i
  have c:-1099511627776<=(xs[i]?).getD 0/\(xs[i]?).getD 0<=1099511627776:=by
   cases b:xs[i]? with
   |none=>simp
   |some y=>exact a y (Is b)
  have d:=ES i ((xs[i]?).getD 0);simp only[nT];omega
theorem FY(xs:List Int)(k:xs.length<=1000)(c:∀x∈xs,-1099511627776<=x/\x<=1099511627776):aR 399 (zs xs) (Z (fp xs)):=by
 refine Dp func399 λC hP hN=>?_;refine Gz ?_;refine WP.loopN [] xs.length (λi st=>st.t 3=.pv (Z (nT xs i))/\st.t 4=.pv (Z (mr i))/\st.t 7=.pv (zs xs)/\st.t 8=.pv (Z xs.length)/\st.t 9=.pv (Z i)) (by simp[nT,mr]) ?_;rintro i st hi ⟨g3,g4,d,e,f⟩;by_cases a:i<xs.length
 .have m:=aj a (by omega)
  have b:xs[i]?=some xs[i]:=an a;have l:=c xs[i] (Uo a);have j:=ue c i;have g:=ES i xs[i];have n:i64.wrap (mr i*xs[i])=mr i*xs[i]:=aa;have o:i64.wrap (nT xs i+mr i*xs[i])=nT xs (i+1):=(aa (by omega) (by omega)).trans (by simp[nT,b])
  have p:i64.wrap (-mr i)=mr (i+1):=by
   rw[C5];unfold mr;split<;>decide
  have q:i64.wrap (0-mr i)=mr (i+1):=by
   rw[C5];unfold mr;split<;>decide
  exact Gy
 .skip
  refine Gz ?_
  all_goals (have:i=xs.length:=by omega
             subst this;rfl)
def aU(n d:Int):Int:=(n+d-1)/d
theorem uf(n d:Int)(hn:0<=n)(b:n<=1099511627776)(hd:1<=d)(a:d<=1099511627776):aK 400 (Z n) (Z d) (Z (aU n d)):=by
 have g:i64.wrap (n+d)=n+d:=aa;have i:i64.wrap (n+d-1)=n+d-1:=aa;have hq:(n+d-1).tdiv d=(n+d-1)/d:=Un (by omega);have e:0<=(n+d-1)/d:=Wa (by omega) (by omega);have f:(n+d-1)/d<=n+d-1:=WM _ (by omega);have j:i64.wrap ((n+d-1)/d)=(n+d-1)/d:=aa
 have c:d≠0:=by omega
 refine Dp func400 λC hP hN=>?_;refine Gz ?_
 all_goals rfl
def sy(lo hi:Int):Iv:=(max 0 (lo/16384),min 65536 (dG hi 16384))
theorem MA(lo hi:Int)(h1:-4611686018427387904<=hi)(a:hi<=4611686018427387904):aK 401 (Z lo) (Z hi) (aC (sy lo hi)):=by
 refine Dp func401 λC hP hN=>?_;have b:=@PY;have c:=PX _ h1 a;refine GT trivial ?_
 all_goals simp[sy]
def nU(f g:Nat->Int):List Int:=[f 1,aU (g 3) 6,f 5/120,aU (g 7) 5040]
def lO(f g:Nat->Int):List Int:=[g 1,f 3/6,aU (g 5) 120,f 7/5040,aU (g 9) 362880]
def rh(f g:Nat->Int):List Int:=[1073741824,aU (g 2) 2,f 4/24,aU (g 6) 720,f 8/40320,aU (g 10) 3628800]
def oG(f g:Nat->Int):List Int:=[1073741824,f 2/2,aU (g 4) 24,f 6/720,aU (g 8) 40320]
def ug(x:Int):Iv:=sy (fp (nU (fa x) (fc x))) (fp (lO (fa x) (fc x)))
def yp(x:Int):Iv:=sy (fp (rh (fa x) (fc x))) (fp (oG (fa x) (fc x)))
theorem eX{n:Int}(e:0<=n)(h1:n<=1073741824)(hd:1<=d)(a:d<=4000000):0<=aU n d/\aU n d<=1099511627776:=by
 unfold aU;have b:0<=(n+d-1)/d:=Wa (by omega) (by omega);have c:(n+d-1)/d<=n+d-1:=WM _ (by omega);omega
theorem C6(hf:∀j,0<=f j/\f j<=1073741824)(j:Nat)(d:Int):(f j).tdiv d=f j/d:=Un (hf j).1
theorem ri(hf:∀j,0<=f j/\f j<=1073741824)(j:Nat)(hd:0<d):0<=f j/d/\f j/d<=1073741824:=by
 have h:=hf j;have a:0<=f j/d:=Wa (by omega) (by omega);have b:f j/d<=f j:=WM _ (by omega);omega
theorem C7(hf:∀j,0<=f j/\f j<=1073741824)(j:Nat)(hd:0<d):i64.wrap (f j/d)=f j/d:=by
 have:=ri hf j hd;exact aa (by omega) (by omega)
theorem Qs(x:Int)(c:0<=x)(h1:x<=8192):aR 396 (Z x) (aC (ug x)):=by
 have q:=Mz x c h1;have hf:=oD c h1;have a:=oE c h1;show aP _ _ _ _ _ (.pv (aC (sy (fp (nU (fa x) (fc x))) (fp (lO (fa x) (fc x))))));generalize fa x=f at *;generalize fc x=g at *
 have i:∀y∈nU f g,-1099511627776<=y/\y<=1099511627776:=by
  intro y b;have a1:=hf 1;have a2:=eX (d:=6) (a 3).1 (a 3).2 (by decide) (by decide);have a3:=ri hf 5 (d:=120) (by decide);have a4:=eX (d:=5040) (a 7).1 (a 7).2 (by decide) (by decide);simp only[nU,Ut,Uz,UX]at b;rcases b with rfl|rfl|rfl|rfl<;>omega
 have e:∀y∈lO f g,-1099511627776<=y/\y<=1099511627776:=by
  intro y b;have a1:=a 1;have a2:=eX (d:=120) (a 5).1 (a 5).2 (by decide) (by decide);have a3:=ri hf 3 (d:=6) (by decide);have a4:=eX (d:=362880) (a 9).1 (a 9).2 (by decide) (by decide);have a5:=ri hf 7 (d:=5040) (by decide);simp only[lO,Ut,Uz,UX]at b;rcases b with rfl|rfl|rfl|rfl|rfl<;>omega
 have b2:=ue e 5;have b3:-(((5:Nat):Int)*1099511627776)<=fp (lO f g)/\fp (lO f g)<=((5:Nat):Int)*1099511627776:=b2;have n:aP prog 399 [.pv (.sl [Z (f 1),Z (aU (g 3) 6),Z (f 5/120),Z (aU (g 7) 5040)])] [] [] (.pv (Z (fp (nU f g)))):=FY (nU f g) (by simp[nU]) i;have o:aP prog 399 [.pv (.sl [Z (g 1),Z (f 3/6),Z (aU (g 5) 120),Z (f 7/5040),Z (aU (g 9) 362880)])] [] [] (.pv (Z (fp (lO f g)))):=FY (lO f g) (by simp[lO]) e;have j:=uf (g 3) 6 (a 3).1 (by have:=a 3;omega) (by decide) (by decide);have l:=uf (g 7) 5040 (a 7).1 (by have:=a 7;omega) (by decide) (by decide);have k:=uf (g 5) 120 (a 5).1 (by have:=a 5;omega) (by decide) (by decide);have m:=uf (g 9) 362880 (a 9).1 (by have:=a 9;omega) (by decide) (by decide);have p:=MA (fp (nU f g)) (fp (lO f g)) (by omega) (by omega);generalize fp (nU f g)=lo at *;generalize fp (lO f g)=hi at *;have r:=C6 hf 5 120;have s:=C6 hf 3 6;have t3:=C6 hf 7 5040;have u:=C7 hf 5 (d:=120) (by decide);have v:=C7 hf 3 (d:=6) (by decide);have z:=C7 hf 7 (d:=5040) (by decide);refine Dp func396 λC hP hN=>?_;exact Gy
theorem Qt(x:Int)(c:0<=x)(h1:x<=8192):aR 397 (Z x) (aC (yp x)):=by
 have q:=Mz x c h1;have hf:=oD c h1;have a:=oE c h1;show aP _ _ _ _ _ (.pv (aC (sy (fp (rh (fa x) (fc x))) (fp (oG (fa x) (fc x))))));generalize fa x=f at *;generalize fc x=g at *
 have j:∀y∈rh f g,-1099511627776<=y/\y<=1099511627776:=by
  intro y b;have a2:=eX (d:=2) (a 2).1 (a 2).2 (by decide) (by decide);have a3:=ri hf 4 (d:=24) (by decide);have a4:=eX (d:=720) (a 6).1 (a 6).2 (by decide) (by decide);have a5:=ri hf 8 (d:=40320) (by decide);have a6:=eX (d:=3628800) (a 10).1 (a 10).2 (by decide) (by decide);simp only[rh,Ut,Uz,UX]at b;rcases b with rfl|rfl|rfl|rfl|rfl|rfl<;>omega
 have e:∀y∈oG f g,-1099511627776<=y/\y<=1099511627776:=by
  intro y b;have a2:=eX (d:=24) (a 4).1 (a 4).2 (by decide) (by decide);have a3:=ri hf 2 (d:=2) (by decide);have a4:=eX (d:=40320) (a 8).1 (a 8).2 (by decide) (by decide);have a5:=ri hf 6 (d:=720) (by decide);simp only[oG,Ut,Uz,UX]at b;rcases b with rfl|rfl|rfl|rfl|rfl<;>omega
 have b2:=ue e 5;have b3:-(((5:Nat):Int)*1099511627776)<=fp (oG f g)/\fp (oG f g)<=((5:Nat):Int)*1099511627776:=b2;have n:aP prog 399 [.pv (.sl [Z 1073741824,Z (aU (g 2) 2),Z (f 4/24),Z (aU (g 6) 720),Z (f 8/40320),Z (aU (g 10) 3628800)])] [] [] (.pv (Z (fp (rh f g)))):=FY (rh f g) (by simp[rh]) j;have o:aP prog 399 [.pv (.sl [Z 1073741824,Z (f 2/2),Z (aU (g 4) 24),Z (f 6/720),Z (aU (g 8) 40320)])] [] [] (.pv (Z (fp (oG f g)))):=FY (oG f g) (by simp[oG]) e;have k:=uf (g 2) 2 (a 2).1 (by have:=a 2;omega) (by decide) (by decide);have c6:=uf (g 6) 720 (a 6).1 (by have:=a 6;omega) (by decide) (by decide);have i:=uf (g 10) 3628800 (a 10).1 (by have:=a 10;omega) (by decide) (by decide);have l:=uf (g 4) 24 (a 4).1 (by have:=a 4;omega) (by decide) (by decide);have m:=uf (g 8) 40320 (a 8).1 (by have:=a 8;omega) (by decide) (by decide);have p:=MA (fp (rh f g)) (fp (oG f g)) (by omega) (by omega);generalize fp (rh f g)=lo at *;generalize fp (oG f g)=hi at *;have r:=C6 hf 4 24;have s:=C6 hf 8 40320;have t3:=C6 hf 2 2;have u:=C6 hf 6 720;have v:=C7 hf 4 (d:=24) (by decide);have z:=C7 hf 8 (d:=40320) (by decide);have A:=C7 hf 2 (d:=2) (by decide);have B:=C7 hf 6 (d:=720) (by decide);refine Dp func397 λC hP hN=>?_;exact Gy
def fe(r:Int):Iv:=if r<=8192 then ug r else yp (16384-r)
theorem MB(r:Int)(b:0<=r)(h1:r<=16384):aR 395 (Z r) (aC (fe r)):=by
 have c:i64.wrap (16384-r)=16384-r:=aa;by_cases h:r<=8192
 .have hf:fe r=ug r:=by simp[fe,h]
  have a:=Qs r b h;rw[hf];generalize ug r=y at *;refine Dp func395 λC hP hN=>?_;exact Gy
 .have hf:fe r=yp (16384-r):=by simp[fe,h]
  have a:=Qt (16384-r) (by omega) (by omega);rw[hf];generalize yp (16384-r)=y at *;refine Dp func395 λC hP hN=>?_;exact Gy
theorem Oe(a:Int):zX .and .i64 a 65535=a%65536:=by
 unfold zX
 have d:(BitVec.ofInt 64 a &&& BitVec.ofInt 64 65535).toNat=(a%65536).toNat:=by
  rw[BitVec.toNat_and,BitVec.toNat_ofInt,BitVec.toNat_ofInt]
  have c:((65535:Int)%((2^64:Nat):Int)).toNat=2^16-1:=by decide
  rw[c,Nat.and_two_pow_sub_one_eq_mod];have e:0<=a%((2^64:Nat):Int):=Va _ (by decide);have f:(a%((2^64:Nat):Int))%65536=a%65536:=Int.emod_emod_of_dvd a (by decide);omega
 show i64.wrap ((BitVec.ofInt 64 a &&& BitVec.ofInt 64 65535).toNat:Int)=_;rw[d,IntKind.wrap_i64];have:=Va a (b:=65536) (by decide);have:=Ve a (b:=65536) (by decide);omega
theorem IX(a:Int):aR 394 (Z a) (Z (a%65536)):=by
 refine Dp func394 λC hP hN=>?_;exact GS @Oe
def pK(m:Int):Iv:=if m/16384=0 then fe (m%16384)else if m/16384=1 then fe (16384-m%16384)else if m/16384=2 then iA (fe (m%16384))else iA (fe (16384-m%16384))
def oH(a:Int):Iv:=pK (a%65536)
theorem MC(a:Int):aR 391 (Z a) (aC (oH a)):=by
 have o:=IX a;show aP _ _ _ _ _ (.pv (aC (pK (a%65536))));have d:=Va a (b:=65536) (by decide);have p:=Ve a (b:=65536) (by decide);generalize a%65536=m at *;have e:m.tmod 16384=m%16384:=WG d;have f:m.tdiv 16384=m/16384:=Un d;have g:i64.wrap (m/16384)=m/16384:=aa;have i:i64.wrap (m%16384)=m%16384:=aa;have j:i64.wrap (16384-m%16384)=16384-m%16384:=aa;have l:=MB (m%16384) (by omega) (by omega);have n:=MB (16384-m%16384) (by omega) (by omega)
 have key:m/16384=0\/m/16384=1\/m/16384=2\/m/16384=3:=by omega
 rcases key with c|c|c|c
 .have hf:pK m=fe (m%16384):=by simp[pK,c]
  rw[hf];generalize fe (m%16384)=y at *;refine Dp func391 λC hP hN=>?_;exact Gy
 .have hf:pK m=fe (16384-m%16384):=by simp[pK,c]
  rw[hf];generalize fe (16384-m%16384)=y at *;refine Dp func391 λC hP hN=>?_;exact Gy
 .have hf:pK m=iA (fe (m%16384)):=by simp[pK,c]
  rw[hf];generalize fe (m%16384)=y at *;refine Dp func391 λC hP hN=>?_;have k:=@IN;exact GS (it e f g i j c)
 .have hf:pK m=iA (fe (16384-m%16384)):=by simp[pK,c]
  rw[hf];generalize fe (16384-m%16384)=y at *;refine Dp func391 λC hP hN=>?_;have k:=@IN;exact GS (it e f g i j c)
def ui(a:Int):Iv:=oH (a%65536+16384)
theorem Qu(a:Int):aR 390 (Z a) (aC (ui a)):=by
 have c:=IX a;show aP _ _ _ _ _ (.pv (aC (oH (a%65536+16384))));have e:=Va a (b:=65536) (by decide);have f:=Ve a (b:=65536) (by decide);generalize a%65536=m at *;have g:i64.wrap (m+16384)=m+16384:=aa;have d:=MC (m+16384);generalize oH (m+16384)=y at *;refine Dp func390 λC hP hN=>?_;exact Gy
def mt(a:Iv)(t:Int):Bool:=az a.1 a.2&&decide (a.1<=a.1+(t-a.1)%65536)&&decide (a.1+(t-a.1)%65536<=a.2)
theorem MD(t:Int)(h1:-2147483648<=a)(f:a<=2147483648)(g:-2147483648<=t)(i:t<=2147483648):aK 393 (I a b) (Z t) (B (mt (a,b) t)):=by
 have c:i64.wrap (t-a)=t-a:=aa;have k:=Va (t-a) (b:=65536) (by decide);have l:=Ve (t-a) (b:=65536) (by decide);have d:i64.wrap (a+(t-a)%65536)=a+(t-a)%65536:=aa;have e:=IX (t-a);refine Dp func393 λC hP hN=>?_;have j:=@LP;refine GT (gA c d) ?_
 all_goals (try simp[mt])
def jk(a:Iv)(v:Int->Iv)(t b:Int):Iv:=if az a.1 a.2=false then(0,0)else if 65536<=a.2-a.1 then(-65536,65536)else
 let h:=gF (v a.1) (v a.2)
 let c:=if mt a t then gF h (pn 65536)else h
 if mt a b then gF c (pn (-65536))else c
theorem ME(f:FuncId)(v:Int->Iv)(t u:Int)(hf:∀x,aP prog f [.pv (Z x)] [] [] (.pv (aC (v x))))(s:-2147483648<=t)(j:t<=2147483648)(y:-2147483648<=u)(k:u<=2147483648):BB 389 (I a b) (Fv f) (Z t) (Z u) (aC (jk (a,b) v t u)):=by
 cases c:az a b with
 |false=>
  have d:jk (a,b) v t u=(0,0):=by simp[jk,c]
  rw[d];refine Dp func389 λC hP hN=>?_;have m:=@jM;exact GS c
 |true=>
  have z:=eU.1 c;have n:i64.wrap (b-a)=b-a:=aa;have o:=MD (a:=a) (b:=b) t (by omega) (by omega) s j;have p:=MD (a:=a) (b:=b) u (by omega) (by omega) y k;have B:aP prog 340 [.pv (Z 65536)] [] [] (.pv (I 65536 65536)):=Al 65536;have D:aP prog 340 [.pv (Z (-65536))] [] [] (.pv (I (-65536) (-65536))):=Al (-65536);by_cases e:65536<=b-a
  .have d:jk (a,b) v t u=(-65536,65536):=by simp[jk,c,e]
   rw[d];refine Dp func389 λC hP hN=>?_;have m:=@jM;have A:=@vf;exact GS (be c n e)
  .have d:jk (a,b) v t u=(let h:=gF (v a) (v b);let l:=if mt (a,b) t then gF h (65536,65536)else h;if mt (a,b) u then gF l (-65536,-65536)else l):=by
    have q:pn 65536=(65536,65536):=by decide
    have r:pn (-65536)=(-65536,-65536):=by decide
    simp[jk,c,e,q,r]
   rw[d];cases g:mt (a,b) t<;>cases i:mt (a,b) u<;>rw[g]at o<;>rw[i]at p
   all_goals
    refine Dp func389 λC hP hN=>?_;have m:=@jM;have A:=@vf;have E:=@hf;have F:=@Fw;exact GS (be c n e)
    all_goals (try simp)
def rj(a:Iv):Iv:=jk a oH 16384 49152
def rl(a:Iv):Iv:=jk a ui 0 32768
theorem Qv:aR 385 (I a b) (aC (rj (a,b))):=by
 have c:=ME (a:=a) (b:=b) 391 oH 16384 49152 MC (by decide) (by decide) (by decide) (by decide);refine Dp func385 λC hP hN=>?_;refine Gz ?_
 all_goals exact⟨rfl,rfl⟩
theorem Qw:aR 384 (I a b) (aC (rl (a,b))):=by
 have c:=ME (a:=a) (b:=b) 390 ui 0 32768 Qu (by decide) (by decide) (by decide) (by decide);refine Dp func384 λC hP hN=>?_;refine Gz ?_
 all_goals exact⟨rfl,rfl⟩
abbrev aq:=Iv×Iv×Iv
abbrev nV:=aq×aq×aq
abbrev nW:=nV×aq
abbrev V6(x0 x1 x2 x3 x4 x5:Int):PV:=.val (.agg #[.int .i64 x0,.int .i64 x1,.int .i64 x2,.int .i64 x3,.int .i64 x4,.int .i64 x5])
abbrev C8(x0 x1 x2 x3 x4 x5 j k l m a b c d e f g i:Int):PV:=.val (.agg #[.int .i64 x0,.int .i64 x1,.int .i64 x2,.int .i64 x3,.int .i64 x4,.int .i64 x5,.int .i64 j,.int .i64 k,.int .i64 l,.int .i64 m,.int .i64 a,.int .i64 b,.int .i64 c,.int .i64 d,.int .i64 e,.int .i64 f,.int .i64 g,.int .i64 i])
abbrev xn(x0 x1 x2 x3 x4 x5 p q r s a b c d e f g i j k l m n o:Int):PV:=.val (.agg #[.int .i64 x0,.int .i64 x1,.int .i64 x2,.int .i64 x3,.int .i64 x4,.int .i64 x5,.int .i64 p,.int .i64 q,.int .i64 r,.int .i64 s,.int .i64 a,.int .i64 b,.int .i64 c,.int .i64 d,.int .i64 e,.int .i64 f,.int .i64 g,.int .i64 i,.int .i64 j,.int .i64 k,.int .i64 l,.int .i64 m,.int .i64 n,.int .i64 o])
abbrev bE(v:aq):PV:=V6 v.1.1 v.1.2 v.2.1.1 v.2.1.2 v.2.2.1 v.2.2.2
abbrev wI(m:nV):PV:=C8 m.1.1.1 m.1.1.2 m.1.2.1.1 m.1.2.1.2 m.1.2.2.1 m.1.2.2.2 m.2.1.1.1 m.2.1.1.2 m.2.1.2.1.1 m.2.1.2.1.2 m.2.1.2.2.1 m.2.1.2.2.2 m.2.2.1.1 m.2.2.1.2 m.2.2.2.1.1 m.2.2.2.1.2 m.2.2.2.2.1 m.2.2.2.2.2
abbrev bY(p:nW):PV:=xn p.1.1.1.1 p.1.1.1.2 p.1.1.2.1.1 p.1.1.2.1.2 p.1.1.2.2.1 p.1.1.2.2.2 p.1.2.1.1.1 p.1.2.1.1.2 p.1.2.1.2.1.1 p.1.2.1.2.1.2 p.1.2.1.2.2.1 p.1.2.1.2.2.2 p.1.2.2.1.1 p.1.2.2.1.2 p.1.2.2.2.1.1 p.1.2.2.2.1.2 p.1.2.2.2.2.1 p.1.2.2.2.2.2 p.2.1.1 p.2.1.2 p.2.2.1.1 p.2.2.1.2 p.2.2.2.1 p.2.2.2.2
def g3(v:α×α×α):Nat->α
 |0=>v.1
 |1=>v.2.1
 |_=>v.2.2
@[simp] theorem V0(v:α×α×α):g3 v 0=v.1:=rfl
@[simp] theorem V4(v:α×α×α):g3 v 1=v.2.1:=rfl
@[simp] theorem V5(v:α×α×α):g3 v 2=v.2.2:=rfl
def jQ(m v:aq):Nat->Iv
 |0=>(0,0)
 |n+1=>fO (jQ m v n) (fg (g3 m n) (g3 v n))
def rm(a b:aq):aq:=(fO a.1 b.1,fO a.2.1 b.2.1,fO a.2.2 b.2.2)
def sX(m:nV)(v:aq):aq:=(jQ m.1 v 3,jQ m.2.1 v 3,jQ m.2.2 v 3)
def vH(x:Int):Int:=min (max x (-65536)) 65536
def FZ(x:Iv):Iv:=(vH x.1,vH x.2)
def fC(b:nV)(c:Nat):aq:=(g3 b.1 c,g3 b.2.1 c,g3 b.2.2 c)
def sY(a b:nV)(r c:Nat):Iv:=FZ (jQ (g3 a r) (fC b c) 3)
def zF(a b:nV):nV:=((sY a b 0 0,sY a b 0 1,sY a b 0 2),(sY a b 1 0,sY a b 1 1,sY a b 1 2),(sY a b 2 0,sY a b 2 1,sY a b 2 2))
def dS(v:Int×Int×Int):aq:=(pn v.1,pn v.2.1,pn v.2.2)
def mu:nV:=(((65536,65536),(0,0),(0,0)),((0,0),(65536,65536),(0,0)),((0,0),(0,0),(65536,65536)))
def bm:aq:=((0,0),(0,0),(0,0))
def fw(b:Int)(a:Iv):nV:=if az a.1 a.2 then
 (if b=0 then(((65536,65536),(0,0),(0,0)),((0,0),rl a,iA (rj a)),((0,0),rj a,rl a))
  else if b=1 then((rl a,(0,0),rj a),((0,0),(65536,65536),(0,0)),(iA (rj a),(0,0),rl a))
  else if b=2 then((rl a,iA (rj a),(0,0)),(rj a,rl a,(0,0)),((0,0),(0,0),(65536,65536)))
  else(bm,bm,bm))else(bm,bm,bm)
def dT(v:aq):nW:=(mu,v)
def gV(b:Int)(a:Iv):nW:=(fw b a,bm)
def nX(a b:nW):nW:=(zF a.1 b.1,rm a.2 (sX a.1 b.2))
def iF(p:nW)(v:aq):aq:=rm p.2 (sX p.1 v)
theorem eu(h:i<=3):i=0\/i=1\/i=2\/i=3:=by omega
def pick(b:Bool)(x:Iv):Iv:=if b then x else(0,0)
@[simp] theorem Tb(x:Iv):pick true x=x:=rfl
@[simp] theorem Tc(x:Iv):pick false x=(0,0):=rfl
def c6(v:aq)(i:Nat):List AV:=[.pv (Z (pick (decide (0<i)) (g3 v 0)).1),.pv (Z (pick (decide (0<i)) (g3 v 0)).2),.pv (Z (pick (decide (1<i)) (g3 v 1)).1),.pv (Z (pick (decide (1<i)) (g3 v 1)).2),.pv (Z (pick (decide (2<i)) (g3 v 2)).1),.pv (Z (pick (decide (2<i)) (g3 v 2)).2)]
theorem IY(x y z:Int):aR 322 (nK x y z) (bE (dS (x,y,z))):=by
 have f:=λa=>Al a;refine Dp func322 λC hP hN=>?_;refine Gz ?_;refine WP.loopN [] 3 (λi st=>st.t 1=.ptr 1 0/\st.t 2=.ptr 2 0/\st.t 3=.ptr 3 0/\st.t 5=.pv (Z i)/\st.h 1=some (.box [.pv (Z x),.pv (Z y),.pv (Z z)] true false)/\st.h 2=some (.box (c6 (dS (x,y,z)) 0) true false)/\st.h 3=some (.box (c6 (dS (x,y,z)) i) true false)) (by simp[c6]) ?_;rintro i st hi ⟨g1,g2,e,g5,b,c,d⟩;rcases eu hi with rfl|rfl|rfl|rfl
 all_goals (simp[c6,dS,pn]at g5 b c d)
 all_goals
  have g:=@f;exact GS (s6 g1 g2 e g5 b c d @c6.eq_1 @dS.eq_1 @pn.eq_1)
theorem Qx:aK 355 (V6 a0 a1 a2 a3 a4 a5) (V6 b0 b1 b2 b3 b4 b5) (bE (rm ((a0,a1),(a2,a3),(a4,a5)) ((b0,b1),(b2,b3),(b4,b5)))):=by
 refine Dp func355 λC hP hN=>?_;refine Gz ?_;refine WP.loopN [] 3 (λi st=>st.t 2=.ptr 2 0/\st.t 3=.ptr 3 0/\st.t 4=.ptr 4 0/\st.t 5=.ptr 5 0/\st.t 7=.pv (Z i)/\st.h 2=some (.box [.pv (Z a0),.pv (Z a1),.pv (Z a2),.pv (Z a3),.pv (Z a4),.pv (Z a5)] true false)/\st.h 3=some (.box [.pv (Z b0),.pv (Z b1),.pv (Z b2),.pv (Z b3),.pv (Z b4),.pv (Z b5)] true false)/\st.h 4=some (.box (c6 bm 0) true false)/\st.h 5=some (.box (c6 (rm ((a0,a1),(a2,a3),(a4,a5)) ((b0,b1),(b2,b3),(b4,b5))) i) true false)) (by simp[c6]) ?_;rintro i st hi ⟨g2,e,g4,g5,f,a,b,c,d⟩;rcases eu hi with rfl|rfl|rfl|rfl
 all_goals (simp[c6,rm]at f a b c d)
 all_goals
  have g:=@Am;exact GS (s6 g2 e g4 g5 f a b c d (gA @c6.eq_1 @rm.eq_1))
def cI(i:Nat):List AV:=[.pv (Z (if 0<i then 65536 else 0)),.pv (Z (if 0<i then 65536 else 0)),.pv (Z 0),.pv (Z 0),.pv (Z 0),.pv (Z 0),.pv (Z 0),.pv (Z 0),.pv (Z (if 1<i then 65536 else 0)),.pv (Z (if 1<i then 65536 else 0)),.pv (Z 0),.pv (Z 0),.pv (Z 0),.pv (Z 0),.pv (Z 0),.pv (Z 0),.pv (Z (if 2<i then 65536 else 0)),.pv (Z (if 2<i then 65536 else 0))]
theorem Qy:BA 339 (wI mu):=by
 have d:aP prog 340 [.pv (Z 65536)] [] [] (.pv (I 65536 65536)):=Al 65536;refine Dp func339 λC hP hN=>?_;refine Gz ?_;refine WP.loopN [] 3 (λi st=>st.t 0=.ptr 0 0/\st.t 1=.ptr 1 0/\st.t 3=.pv (Z i)/\st.h 0=some (.box (cI 0) true false)/\st.h 1=some (.box (cI i) true false)) (by simp[cI]) ?_;rintro i st hi ⟨g0,g1,a,b,c⟩;rcases eu hi with rfl|rfl|rfl|rfl
 all_goals (simp[cI]at a b c)
 all_goals
  exact GS (so g0 g1 a b c @cI.eq_1 @mu.eq_1)
def rn(m:nV)(v:aq)(i k r:Nat):Iv:=if r<i then jQ (g3 m r) v 3 else if r=i then jQ (g3 m r) v k else(0,0)
def cA(m:nV)(v:aq)(i k:Nat):List AV:=[.pv (Z (rn m v i k 0).1),.pv (Z (rn m v i k 0).2),.pv (Z (rn m v i k 1).1),.pv (Z (rn m v i k 1).2),.pv (Z (rn m v i k 2).1),.pv (Z (rn m v i k 2).2)]
theorem Qz:aK 356 (C8 a0 a1 a2 a3 a4 a5 a6 a7 a8 a9 a10 a11 a12 a13 a14 a15 a16 a17) (V6 v0 v1 v2 v3 v4 v5) (bE (sX (((a0,a1),(a2,a3),(a4,a5)),((a6,a7),(a8,a9),(a10,a11)),((a12,a13),(a14,a15),(a16,a17))) ((v0,v1),(v2,v3),(v4,v5)))):=by
 obtain⟨A,o⟩:∃A:nV,A=(((a0,a1),(a2,a3),(a4,a5)),((a6,a7),(a8,a9),(a10,a11)),((a12,a13),(a14,a15),(a16,a17))):=⟨_,rfl⟩;obtain⟨D,p⟩:∃D:aq,D=((v0,v1),(v2,v3),(v4,v5)):=⟨_,rfl⟩;obtain⟨r,e⟩:∃l:List AV,l=[a0,a1,a2,a3,a4,a5,a6,a7,a8,a9,a10,a11,a12,a13,a14,a15,a16,a17].map λx=>.pv (Z x):=⟨_,rfl⟩;simp only[U9,WE]at e;rw[<-o,<-p];refine Dp func356 λC hP hN=>?_
 with_reducible repeat' (first|refine Sp.h ?_|((first|refine Wd ?_|refine Ss.h ?_|(refine Sb.h ?_ ?_ ?_<;>(try intro hgd)<;>try exact Xy))<;>simp -implicitDefEqProofs (maxSteps:=2000000) [hP,hN,e]<;>try refine Ya ?_)|refine X2 ?_ ?_|(refine Xd ?_ ?_<;>intro hcd<;>try exact Xx))
 refine WP.loopN [] 3 (λi st=>st.t 2=.ptr 2 0/\st.t 3=.ptr 3 0/\st.t 4=.ptr 4 0/\st.t 5=.ptr 5 0/\st.h 2=some (.box r true false)/\st.h 3=some (.box [.pv (Z v0),.pv (Z v1),.pv (Z v2),.pv (Z v3),.pv (Z v4),.pv (Z v5)] true false)/\st.h 4=some (.box (cA A D 0 0) true false)/\st.t 8=.pv (Z i)/\st.h 5=some (.box (cA A D i 0) true false)) (by simp[cA,rn,jQ,e]) ?_;rintro i st hi ⟨g2,f,g4,g5,a,g,b,m,c⟩;rw[e]at a;by_cases q:i=3
 .simp[cA,rn,q]at m b c
  with_reducible repeat' (first|refine Sp.h ?_|((first|refine Wd ?_|refine Ss.h ?_|(refine Sb.h ?_ ?_ ?_<;>(try intro hgd)<;>try exact Xy))<;>simp -implicitDefEqProofs (maxSteps:=2000000) [hP,hN,g2,f,g4,g5,m,a,g,b,c,sX,q]<;>try refine Ya ?_)|refine X2 ?_ ?_|(refine Xd ?_ ?_<;>intro hcd<;>try exact Xx))
 have d:i=0\/i=1\/i=2:=by omega
 rcases d with d|d|d
 all_goals
  with_reducible repeat' (first|refine Sp.h ?_|((first|refine Wd ?_|refine Ss.h ?_|(refine Sb.h ?_ ?_ ?_<;>(try intro hgd)<;>try exact Xy))<;>simp -implicitDefEqProofs (maxSteps:=2000000) [hP,hN,g2,f,g4,g5,m,a,g,b,c,d]<;>try refine Ya ?_)|refine X2 ?_ ?_|(refine Xd ?_ ?_<;>intro hcd<;>try exact Xx))
  refine WP.loopN [] 3 (λk st=>st.t 2=.ptr 2 0/\st.t 3=.ptr 3 0/\st.t 4=.ptr 4 0/\st.t 5=.ptr 5 0/\st.h 2=some (.box r true false)/\st.h 3=some (.box [.pv (Z v0),.pv (Z v1),.pv (Z v2),.pv (Z v3),.pv (Z v4),.pv (Z v5)] true false)/\st.h 4=some (.box (cA A D 0 0) true false)/\st.t 8=.pv (Z i)/\st.t 6=.pv (Z i)/\st.t 11=.pv (Z k)/\st.h 5=some (.box (cA A D i k) true false)) (by simp[cA,rn,jQ,e,g2,f,g4,g5,m,a,g,b,c,d]) ?_;clear g2 f g4 g5 m a g b c;rintro k st u ⟨g2,f,g4,g5,a,g,b,m,s,n,c⟩;rw[e]at a;rcases eu u with j|j|j|j
  all_goals
   simp[cA,rn,jQ,o,p,d,j]at n b c
   with_reducible repeat' (first|refine Sp.h ?_|((first|refine Wd ?_|refine Ss.h ?_|refine Sc.h (Mn) ?_|refine Sc.h (Am) ?_|(refine Sb.h ?_ ?_ ?_<;>(try intro hgd)<;>try exact Xy))<;>simp -implicitDefEqProofs (maxSteps:=2000000) [hP,hN,g2,f,g4,g5,s,m,n,a,g,b,c,e,cA,rn,jQ,o,p,d,j]<;>try refine Ya ?_)|refine X2 ?_ ?_|(refine Xd ?_ ?_<;>intro hcd<;>try exact Xx))
theorem QA(x:Int):aR 359 (Z x) (Z (vH x)):=by
 refine Dp func359 λC hP hN=>?_
 with_reducible repeat' (first|refine Sp.h ?_|((first|refine Ss.h ?_|(refine Sb.h ?_ ?_ ?_<;>(try intro hgd)<;>try exact Xy))<;>simp -implicitDefEqProofs (maxSteps:=2000000) [hP,hN])|refine X2 ?_ ?_|(refine Xd ?_ ?_<;>intro hcd<;>try exact Xx))
 all_goals (try simp[vH])
def iV(a b:nV)(i k r c:Nat):Iv:=if r<i\/(r=i/\c<k)then sY a b r c else(0,0)
def cC(a b:nV)(i k:Nat):List AV:=[.pv (Z (iV a b i k 0 0).1),.pv (Z (iV a b i k 0 0).2),.pv (Z (iV a b i k 0 1).1),.pv (Z (iV a b i k 0 1).2),.pv (Z (iV a b i k 0 2).1),.pv (Z (iV a b i k 0 2).2),.pv (Z (iV a b i k 1 0).1),.pv (Z (iV a b i k 1 0).2),.pv (Z (iV a b i k 1 1).1),.pv (Z (iV a b i k 1 1).2),.pv (Z (iV a b i k 1 2).1),.pv (Z (iV a b i k 1 2).2),.pv (Z (iV a b i k 2 0).1),.pv (Z (iV a b i k 2 0).2),.pv (Z (iV a b i k 2 1).1),.pv (Z (iV a b i k 2 1).2),.pv (Z (iV a b i k 2 2).1),.pv (Z (iV a b i k 2 2).2)]
def rX(a b:List AV)(A B:nV)(st:St):Prop:=st.t 2=.ptr 2 0/\st.t 3=.ptr 3 0/\st.t 4=.ptr 4 0/\st.t 5=.ptr 5 0/\st.h 2=some (.box a true false)/\st.h 3=some (.box b true false)/\st.h 4=some (.box (cC A B 0 0) true false)
theorem QB{b6 L M N z D E F G H I J:Int}:aK 338 (C8 a0 a1 a2 a3 a4 a5 a6 a7 a8 a9 a10 a11 a12 a13 a14 a15 a16 a17) (C8 b0 b1 b2 b3 b4 b5 b6 L M N z D E F G H I J) (wI (zF (((a0,a1),(a2,a3),(a4,a5)),((a6,a7),(a8,a9),(a10,a11)),((a12,a13),(a14,a15),(a16,a17))) (((b0,b1),(b2,b3),(b4,b5)),((b6,L),(M,N),(z,D)),((E,F),(G,H),(I,J))))):=by
 obtain⟨A,U⟩:∃A:nV,A=(((a0,a1),(a2,a3),(a4,a5)),((a6,a7),(a8,a9),(a10,a11)),((a12,a13),(a14,a15),(a16,a17))):=⟨_,rfl⟩;obtain⟨B,V⟩:∃B:nV,B=(((b0,b1),(b2,b3),(b4,b5)),((b6,L),(M,N),(z,D)),((E,F),(G,H),(I,J))):=⟨_,rfl⟩;rw[<-U,<-V];obtain⟨P,p⟩:∃l:List AV,l=[a0,a1,a2,a3,a4,a5,a6,a7,a8,a9,a10,a11,a12,a13,a14,a15,a16,a17].map λx=>.pv (Z x):=⟨_,rfl⟩;obtain⟨Q,q⟩:∃l:List AV,l=[b0,b1,b2,b3,b4,b5,b6,L,M,N,z,D,E,F,G,H,I,J].map λx=>.pv (Z x):=⟨_,rfl⟩;simp only[U9,WE]at p q;have hx:∀i k,FZ (jQ (g3 A i) (fC B k) 3)=sY A B i k:=λ_ _=>rfl;have Y:∀m v n,jQ m v (n+1)=fO (jQ m v n) (fg (g3 m n) (g3 v n)):=λ_ _ _=>rfl
 have ea:g3 (g3 A 0) 0=(a0,a1)/\g3 (g3 A 0) 1=(a2,a3)/\g3 (g3 A 0) 2=(a4,a5)/\g3 (g3 A 1) 0=(a6,a7)/\g3 (g3 A 1) 1=(a8,a9)/\g3 (g3 A 1) 2=(a10,a11)/\g3 (g3 A 2) 0=(a12,a13)/\g3 (g3 A 2) 1=(a14,a15)/\g3 (g3 A 2) 2=(a16,a17)/\g3 (fC B 0) 0=(b0,b1)/\g3 (fC B 1) 0=(b2,b3)/\g3 (fC B 2) 0=(b4,b5)/\g3 (fC B 0) 1=(b6,L)/\g3 (fC B 1) 1=(M,N)/\g3 (fC B 2) 1=(z,D)/\g3 (fC B 0) 2=(E,F)/\g3 (fC B 1) 2=(G,H)/\g3 (fC B 2) 2=(I,J):=by
  rw[U,V]
  repeat' (first|rfl|constructor)
 refine Dp func338 λC hP hN=>?_
 with_reducible repeat' (first|refine Sp.h ?_|((first|refine Wd ?_|refine Ss.h ?_|(refine Sb.h ?_ ?_ ?_<;>(try intro hgd)<;>try exact Xy))<;>simp -implicitDefEqProofs (maxSteps:=2000000) [hP,hN,p,q]<;>try refine Ya ?_)|refine X2 ?_ ?_|(refine Xd ?_ ?_<;>intro hcd<;>try exact Xx))
 refine WP.loopN [8] 3 (λi st=>rX P Q A B st/\st.t 10=.pv (Z i)/\st.h 5=some (.box (cC A B i 0) true false)/\st.h 8=none) (by simp[rX,cC,iV,p,q]) ?_;rintro i st hi ⟨⟨g2,o,g4,g5,a,b,c⟩,g,d,r⟩;rw[p]at a;rw[q]at b;by_cases T:i=3
 .simp[cC,iV,T]at g c d
  with_reducible repeat' (first|refine Sp.h ?_|((first|refine Wd ?_|refine Ss.h ?_|(refine Sb.h ?_ ?_ ?_<;>(try intro hgd)<;>try exact Xy))<;>simp -implicitDefEqProofs (maxSteps:=2000000) [hP,hN,g2,o,g4,g5,g,a,b,c,d,r,zF,T]<;>try refine Ya ?_)|refine X2 ?_ ?_|(refine Xd ?_ ?_<;>intro hcd<;>try exact Xx))
 have f:i=0\/i=1\/i=2:=by omega
 rcases f with f|f|f
 all_goals
  with_reducible repeat' (first|refine Sp.h ?_|((first|refine Wd ?_|refine Ss.h ?_|(refine Sb.h ?_ ?_ ?_<;>(try intro hgd)<;>try exact Xy))<;>simp -implicitDefEqProofs (maxSteps:=2000000) [hP,hN,g2,o,g4,g5,g,a,b,c,d,r,f]<;>try refine Ya ?_)|refine X2 ?_ ?_|(refine Xd ?_ ?_<;>intro hcd<;>try exact Xx))
  refine WP.loopN [8] 3 (λk st=>rX P Q A B st/\st.t 10=.pv (Z i)/\st.t 6=.pv (Z i)/\st.t 13=.pv (Z k)/\st.h 5=some (.box (cC A B i k) true false)/\st.h 8=none) (by simp[rX,cC,iV,p,q,g2,o,g4,g5,g,a,b,c,d,f]) ?_;clear g2 o g4 g5 g a b c d r;rintro k st hk ⟨⟨g2,o,g4,g5,a,b,c⟩,g,K,u,d,r⟩;rw[p]at a;rw[q]at b;by_cases W:k=3
  .simp[cC,iV,f,W]at u c d
   with_reducible repeat' (first|refine Sp.h ?_|((first|refine Wd ?_|refine Ss.h ?_|(refine Sb.h ?_ ?_ ?_<;>(try intro hgd)<;>try exact Xy))<;>simp -implicitDefEqProofs (maxSteps:=2000000) [hP,hN,g2,o,g4,g5,K,g,u,a,b,c,d,r,rX,p,q,cC,iV,f,W]<;>try refine Ya ?_)|refine X2 ?_ ?_|(refine Xd ?_ ?_<;>intro hcd<;>try exact Xx))
  have s:k=0\/k=1\/k=2:=by omega
  rcases s with s|s|s
  all_goals
   with_reducible repeat' (first|refine Sp.h ?_|((first|refine Wd ?_|refine Ss.h ?_|(refine Sb.h ?_ ?_ ?_<;>(try intro hgd)<;>try exact Xy))<;>simp -implicitDefEqProofs (maxSteps:=2000000) [hP,hN,g2,o,g4,g5,K,g,u,a,b,c,d,r,f,s]<;>try refine Ya ?_)|refine X2 ?_ ?_|(refine Xd ?_ ?_<;>intro hcd<;>try exact Xx))
   refine WP.loopN [] 3 (λj st=>rX P Q A B st/\st.t 10=.pv (Z i)/\st.t 6=.pv (Z i)/\st.t 13=.pv (Z k)/\st.t 7=.pv (Z k)/\st.t 16=.pv (Z j)/\st.h 5=some (.box (cC A B i k) true false)/\st.t 8=.ptr 8 0/\st.h 8=some (.box [.pv (Z (jQ (g3 A i) (fC B k) j).1),.pv (Z (jQ (g3 A i) (fC B k) j).2)] true false)) (by simp[rX,cC,iV,jQ,p,q,g2,o,g4,g5,K,g,u,a,b,c,d,f,s]) ?_;clear g2 o g4 g5 K g u a b c d r;rintro j st hj ⟨⟨g2,o,g4,g5,a,b,c⟩,g,K,u,R,O,d,S,r⟩;rw[p]at a;rw[q]at b;by_cases j3:j=3
   .subst j3
    have e:=hx i k;generalize jQ (g3 A i) (fC B k) 3=X at *;simp[cC,iV,f,s]at c d e
    with_reducible repeat' (first|refine Sp.h ?_|((first|refine Wd ?_|refine Ss.h ?_|refine Sc.h (QA _) ?_|(refine Sb.h ?_ ?_ ?_<;>(try intro hgd)<;>try exact Xy))<;>simp -implicitDefEqProofs (maxSteps:=2000000) [hP,hN,g2,o,g4,g5,K,R,S,g,u,O,a,b,c,d,r,rX,p,q,cC,iV,<-e,FZ,f,s]<;>try refine Ya ?_)|refine X2 ?_ ?_|(refine Xd ?_ ?_<;>intro hcd<;>try exact Xx))
   have y:j=0\/j=1\/j=2:=by omega
   have e:=Y (g3 A i) (fC B k) j;generalize jQ (g3 A i) (fC B k) (j+1)=nx at *;generalize jQ (g3 A i) (fC B k) j=X at *;rcases y with y|y|y
   all_goals
    simp only[f,s,y,ea]at e
    with_reducible repeat' (first|refine Sp.h ?_|((first|refine Wd ?_|refine Ss.h ?_|refine Sc.h (Mn) ?_|refine Sc.h (Am) ?_|(refine Sb.h ?_ ?_ ?_<;>(try intro hgd)<;>try exact Xy))<;>simp -implicitDefEqProofs (maxSteps:=2000000) [hP,hN,g2,o,g4,g5,K,R,S,g,u,O,a,b,c,d,r,e,f,s,y,rX,p,q,cC,iV]<;>try refine Ya ?_)|refine X2 ?_ ?_|(refine Xd ?_ ?_<;>intro hcd<;>try exact Xx))
@[simp] theorem TY:i64.wrap 0=0:=by decide
theorem QC(x:Int):aK 381 (Z x) (I a b) (wI (fw x (a,b))):=by
 have m:aP prog 340 [.pv (Z 65536)] [] [] (.pv (I 65536 65536)):=Al 65536;have n:aP prog 340 [.pv (Z 0)] [] [] (.pv (I 0 0)):=Al 0
 cases c:az a b with
 |false=>
  have d:fw x (a,b)=(bm,bm,bm):=by simp[fw,c]
  rw[d];refine Dp func381 λC hP hN=>?_
  with_reducible repeat' (first|refine Sp.h ?_|((first|refine Ss.h ?_|refine Sc.h (jM _ _) ?_)<;>simp -implicitDefEqProofs [hP,hN,c,bm]))
 |true=>
  have l:=Qv (a:=a) (b:=b);have cc:=Qw (a:=a) (b:=b);generalize hS:rj (a,b)=S at *;generalize e:rl (a,b)=Q at *;have k:=IN (a:=S.1) (b:=S.2);by_cases f:x=0
  .have d:fw x (a,b)=(((65536,65536),(0,0),(0,0)),((0,0),Q,iA S),((0,0),S,Q)):=by simp[fw,c,f,hS,e]
   rw[d];subst f;refine Dp func381 λC hP hN=>?_;have j:=@jM;exact GS c
  by_cases g:x=1
  .have d:fw x (a,b)=((Q,(0,0),S),((0,0),(65536,65536),(0,0)),(iA S,(0,0),Q)):=by simp[fw,c,g,hS,e]
   rw[d];subst g;refine Dp func381 λC hP hN=>?_;have j:=@jM;exact GS c
  by_cases i:x=2
  .have d:fw x (a,b)=((Q,iA S,(0,0)),(S,Q,(0,0)),((0,0),(0,0),(65536,65536))):=by simp[fw,c,i,hS,e]
   rw[d];subst i;refine Dp func381 λC hP hN=>?_;have j:=@jM;exact GS c
  .have d:fw x (a,b)=(bm,bm,bm):=by simp[fw,c,f,g,i]
   rw[d];refine Dp func381 λC hP hN=>?_
   with_reducible repeat' (first|refine Sp.h ?_|((first|refine Wd ?_|refine Ss.h ?_|refine Sc.h (jM _ _) ?_|refine Sc.h (l) ?_|refine Sc.h (cc) ?_|refine Sc.h (k) ?_|refine Sc.h (m) ?_|refine Sc.h (n) ?_|(refine Sb.h ?_ ?_ ?_<;>(try intro hgd)<;>try exact Xy))<;>simp -implicitDefEqProofs [hP,hN,c,f,g,i,bm]<;>try refine Ya ?_)|refine X2 ?_ ?_|(refine Xd ?_ ?_<;>intro hcd<;>try exact Xx))
theorem MF:BA 319 (bE bm):=by
 have a:aP prog 322 [.pv (nK 0 0 0)] [] [] (.pv (bE bm)):=IY 0 0 0;refine Dp func319 λC hP hN=>?_;exact Gy
theorem C9:aR 318 (V6 v0 v1 v2 v3 v4 v5) (bY (dT ((v0,v1),(v2,v3),(v4,v5)))):=by
 refine Dp func318 λC hP hN=>?_;have a:=@Qy;refine GT trivial ?_
 all_goals (try simp[dT])
def gJ:nW:=(mu,bm)
theorem IZ:BA 274 (bY gJ):=by
 have a:aP prog 318 [.pv (bE bm)] [] [] (.pv (bY gJ)):=C9;refine Dp func274 λC hP hN=>?_;have b:=@MF;exact GS trivial
theorem QD(x:Int):aK 369 (Z x) (I a b) (bY (gV x (a,b))):=by
 have d:=QC (a:=a) (b:=b) x;have c:gV x (a,b)=(fw x (a,b),bm):=rfl;rw[c];generalize fw x (a,b)=m at *;refine Dp func369 λC hP hN=>?_;have e:=@MF;exact GS trivial
abbrev QE(p:PV):PV:=.fn (.func 354) [] [.rptr p 0]
theorem MG:aR 337 (xn a0 a1 a2 a3 a4 a5 a6 a7 a8 a9 a10 a11 a12 a13 a14 a15 a16 a17 a18 a19 a20 a21 a22 a23) (QE (xn a0 a1 a2 a3 a4 a5 a6 a7 a8 a9 a10 a11 a12 a13 a14 a15 a16 a17 a18 a19 a20 a21 a22 a23)):=by
 refine Dp func337 λC hP hN=>?_;exact Gy
theorem MH:aK 354 (V6 v0 v1 v2 v3 v4 v5) (.rptr (xn a0 a1 a2 a3 a4 a5 a6 a7 a8 a9 a10 a11 a12 a13 a14 a15 a16 a17 a18 a19 a20 a21 a22 a23) 0) (bE (iF ((((a0,a1),(a2,a3),(a4,a5)),((a6,a7),(a8,a9),(a10,a11)),((a12,a13),(a14,a15),(a16,a17))),((a18,a19),(a20,a21),(a22,a23))) ((v0,v1),(v2,v3),(v4,v5)))):=by
 refine Dp func354 λC hP hN=>?_;have a:=@Qz;have b:=@Qx;refine GT trivial ?_
 all_goals (try simp[iF])
theorem QF:aK 321 (xn a0 a1 a2 a3 a4 a5 a6 a7 a8 a9 a10 a11 a12 a13 a14 a15 a16 a17 a18 a19 a20 a21 a22 a23) (V6 v0 v1 v2 v3 v4 v5) (bE (iF ((((a0,a1),(a2,a3),(a4,a5)),((a6,a7),(a8,a9),(a10,a11)),((a12,a13),(a14,a15),(a16,a17))),((a18,a19),(a20,a21),(a22,a23))) ((v0,v1),(v2,v3),(v4,v5)))):=by
 refine Dp func321 λC hP hN=>?_;have a:=@MG;have b:=@MH;exact GS trivial
theorem vJ{b6 p q r a b c d e f g i j k l m n o:Int}:aK 317 (xn a0 a1 a2 a3 a4 a5 a6 a7 a8 a9 a10 a11 a12 a13 a14 a15 a16 a17 a18 a19 a20 a21 a22 a23) (xn b0 b1 b2 b3 b4 b5 b6 p q r a b c d e f g i j k l m n o) (bY (nX ((((a0,a1),(a2,a3),(a4,a5)),((a6,a7),(a8,a9),(a10,a11)),((a12,a13),(a14,a15),(a16,a17))),((a18,a19),(a20,a21),(a22,a23))) ((((b0,b1),(b2,b3),(b4,b5)),((b6,p),(q,r),(a,b)),((c,d),(e,f),(g,i))),((j,k),(l,m),(n,o))))):=by
 refine Dp func317 λC hP hN=>?_;have s:=@MG;have u:=@MH;have v:=@QB;refine GT trivial ?_
 all_goals (try simp[nX,iF])
theorem I0(x:Int):aK 351 (Z x) (I a b) (bY (gV x (a,b))):=by
 have c:=QD (a:=a) (b:=b) x;generalize gV x (a,b)=m at *;refine Dp func351 λC hP hN=>?_;exact Gy
theorem QG(x:Int):aK 353 (Z x) (I a b) (bY gJ):=by
 refine Dp func353 λC hP hN=>?_;have c:=@IZ;exact GS trivial
theorem QH:aK 352 (Z 0) (I a b) (bY (dT ((a,b),(0,0),(0,0)))):=by
 have c:=C9 (v0:=((a,b),(0,0),(0,0)).1.1) (v1:=((a,b),(0,0),(0,0)).1.2) (v2:=((a,b),(0,0),(0,0)).2.1.1) (v3:=((a,b),(0,0),(0,0)).2.1.2) (v4:=((a,b),(0,0),(0,0)).2.2.1) (v5:=((a,b),(0,0),(0,0)).2.2.2);refine Dp func352 λC hP hN=>?_;exact Gy
theorem QI:aK 352 (Z 1) (I a b) (bY (dT ((0,0),(a,b),(0,0)))):=by
 have c:=C9 (v0:=((0,0),(a,b),(0,0)).1.1) (v1:=((0,0),(a,b),(0,0)).1.2) (v2:=((0,0),(a,b),(0,0)).2.1.1) (v3:=((0,0),(a,b),(0,0)).2.1.2) (v4:=((0,0),(a,b),(0,0)).2.2.1) (v5:=((0,0),(a,b),(0,0)).2.2.2);refine Dp func352 λC hP hN=>?_;exact Gy
theorem QJ:aK 352 (Z 2) (I a b) (bY (dT ((0,0),(0,0),(a,b)))):=by
 have c:=C9 (v0:=((0,0),(0,0),(a,b)).1.1) (v1:=((0,0),(0,0),(a,b)).1.2) (v2:=((0,0),(0,0),(a,b)).2.1.1) (v3:=((0,0),(0,0),(a,b)).2.1.2) (v4:=((0,0),(0,0),(a,b)).2.2.1) (v5:=((0,0),(0,0),(a,b)).2.2.2);refine Dp func352 λC hP hN=>?_;exact Gy
abbrev Da(f:FuncId)(k:Int):Value:=.func (.func f) #[.int .i64 k] #[]
@[simp] theorem QK:sJ prog 380 0=some (false,0,1):=by kernel_rfl
theorem QL:aR 336 (Z 0) (.val (.agg #[Da 353 0])):=by
 refine Dp func336 λC hP hN=>?_;exact Gy
theorem QM:aR 336 (Z 1) (.val (.agg #[Da 351 0])):=by
 refine Dp func336 λC hP hN=>?_;exact Gy
theorem QN:aR 336 (Z 2) (.val (.agg #[Da 351 1])):=by
 refine Dp func336 λC hP hN=>?_;exact Gy
theorem QO:aR 336 (Z 3) (.val (.agg #[Da 351 2])):=by
 refine Dp func336 λC hP hN=>?_;exact Gy
theorem QP:aR 336 (Z 4) (.val (.agg #[Da 352 0])):=by
 refine Dp func336 λC hP hN=>?_;exact Gy
theorem QQ:aR 336 (Z 5) (.val (.agg #[Da 352 1])):=by
 refine Dp func336 λC hP hN=>?_;exact Gy
theorem QR:aR 336 (Z 6) (.val (.agg #[Da 352 2])):=by
 refine Dp func336 λC hP hN=>?_;exact Gy
def fX(k:Int)(v:Iv):nW:=if k=1 then gV 0 v else if k=2 then gV 1 v else if k=3 then gV 2 v else if k=4 then dT (v,(0,0),(0,0))else if k=5 then dT ((0,0),v,(0,0))else if k=6 then dT ((0,0),(0,0),v)else gJ
def mv(j:J)(v:Iv):nW:=nX (dT (dS (j.ox,j.oy,j.oz))) (fX j.kind v)
theorem QS(j:J)(m:0<=j.kind)(h6:j.kind<=6):aK 316 (bu j) (I a b) (bY (mv j (a,b))):=by
 have l:=IY j.ox j.oy j.oz;have k:mv j (a,b)=nX (dT (dS (j.ox,j.oy,j.oz))) (fX j.kind (a,b)):=rfl;rw[k];generalize dS (j.ox,j.oy,j.oz)=pv at *;have i:=C9 (v0:=pv.1.1) (v1:=pv.1.2) (v2:=pv.2.1.1) (v3:=pv.2.1.2) (v4:=pv.2.2.1) (v5:=pv.2.2.2);have i:aP prog 318 [.pv (bE pv)] [] [] (.pv (bY (dT pv))):=i;generalize dT pv=sp at *
 have key:j.kind=0\/j.kind=1\/j.kind=2\/j.kind=3\/j.kind=4\/j.kind=5\/j.kind=6:=by omega
 rcases key with c|c|c|c|c|c|c
 .have d:fX j.kind (a,b)=gJ:=by simp[fX,c]
  have e:=QG (a:=a) (b:=b) 0;have f:=QL;rw[d];generalize gJ=mp at *;refine Dp func316 λC hP hN=>?_;have g:=@vJ;exact GS c
 .have d:fX j.kind (a,b)=gV 0 (a,b):=by simp[fX,c]
  have e:=I0 (a:=a) (b:=b) 0;have f:=QM;rw[d];generalize gV 0 (a,b)=mp at *;refine Dp func316 λC hP hN=>?_;have g:=@vJ;exact GS c
 .have d:fX j.kind (a,b)=gV 1 (a,b):=by simp[fX,c]
  have e:=I0 (a:=a) (b:=b) 1;have f:=QN;rw[d];generalize gV 1 (a,b)=mp at *;refine Dp func316 λC hP hN=>?_;have g:=@vJ;exact GS c
 .have d:fX j.kind (a,b)=gV 2 (a,b):=by simp[fX,c]
  have e:=I0 (a:=a) (b:=b) 2;have f:=QO;rw[d];generalize gV 2 (a,b)=mp at *;refine Dp func316 λC hP hN=>?_;have g:=@vJ;exact GS c
 .have d:fX j.kind (a,b)=dT ((a,b),(0,0),(0,0)):=by simp[fX,c]
  have e:=QH (a:=a) (b:=b);have f:=QP;rw[d];generalize dT ((a,b),(0,0),(0,0))=mp at *;refine Dp func316 λC hP hN=>?_;have g:=@vJ;exact GS c
 .have d:fX j.kind (a,b)=dT ((0,0),(a,b),(0,0)):=by simp[fX,c]
  have e:=QI (a:=a) (b:=b);have f:=QQ;rw[d];generalize dT ((0,0),(a,b),(0,0))=mp at *;refine Dp func316 λC hP hN=>?_;have g:=@vJ;exact GS c
 .have d:fX j.kind (a,b)=dT ((0,0),(0,0),(a,b)):=by simp[fX,c]
  have e:=QJ (a:=a) (b:=b);have f:=QR;rw[d];generalize dT ((0,0),(0,0),(a,b))=mp at *;refine Dp func316 λC hP hN=>?_;have g:=@vJ;exact GS c
abbrev Vc:=Int×Int×Int
structure Sh where
 link:Int
 rad:Int
 pts:List Vc
structure Sce where
 js:List J
 ms:List Ms
 shs:List Sh
 sks:List (Int×Int)
variable {A B' l:List Vc}{shs:List Sh}{v:Vc}
abbrev cE(s:Sh):PV:=.agg [Z s.link,Z s.rad,aG s.pts]
abbrev eM(s:Sce):PV:=.agg [.sl (s.js.map bu),.sl (s.ms.map cG),.sl (s.shs.map cE),.sl (s.sks.map aC)]
def av(m:Int)(v:Vc):Bool:=fU v.1 m&&fU v.2.1 m&&fU v.2.2 m
theorem bV:av m v=true↔fU v.1 m=true/\fU v.2.1 m=true/\fU v.2.2 m=true:=by
 simp only[av,An];constructor
 .rintro⟨⟨a,b⟩,c⟩;exact⟨a,b,c⟩
 .rintro⟨a,b,c⟩;exact⟨⟨a,b⟩,c⟩
theorem aY:fU x m=true↔¬x< -m/\¬m<x:=by
 simp only[fU,An,L4];omega
theorem oI(hq:∀k x,k<i->xs[k]?=some x->p x=true)(h:¬i<xs.length):xs.all p=true:=by
 rw[TP];intro x b;obtain⟨k,a⟩:=UB b;exact hq k x (by have:=(th.1 a).1;omega) a
theorem mO{v:α}(b:xs[i]?=some v)(hq:∀k x,k<i->xs[k]?=some x->p x=true)(hp:p v=true):∀k x,k<i+1->xs[k]?=some x->p x=true:=by
 intro k x c a;by_cases e:k=i
 .subst e;rw[b]at a;injection a with a;subst a;exact hp
 .exact hq k x (by omega) a
def gp(s:Sh):Bool:=decide (1<=s.rad)&&decide (s.rad<=1048576)&&decide (1<=s.pts.length)&&decide (s.pts.length<=8)&&s.pts.all (av 4194304)
theorem QT(s:Sh)(U:s.pts.length<=9223372036854775807):aR 320 (cE s) (B (gp s)):=by
 by_cases T:s.rad<1\/1048576<s.rad\/s.pts.length<1\/8<s.pts.length
 .have hf:gp s=false:=by
   cases q:gp s with
   |false=>rfl
   |true=>
    exfalso;unfold gp at q;simp only[An,L4]at q;obtain⟨⟨⟨⟨b1,b2⟩,b3⟩,b4⟩,_⟩:=q;omega
  rw[hf]
  have r:s.rad<1\/1048576<s.rad\/(s.pts.length:Int)<1\/(8:Int)<s.pts.length:=by omega
  rcases r with h|h|h|h
  all_goals
   refine Dp func320 λC hP hN=>?_;exact Gy
 have P:¬s.rad<1:=by omega
 have Q:¬1048576<s.rad:=by omega
 have R:¬(s.pts.length:Int)<1:=by omega
 have S:¬(8:Int)<s.pts.length:=by omega
 have L:¬s.pts.length<1:=by omega
 have M:¬8<s.pts.length:=by omega
 have hf:gp s=s.pts.all (av 4194304):=by
  have H:decide (1<=s.rad)=true:=by simp;omega
  have I:decide (s.rad<=1048576)=true:=by simp;omega
  have J:decide (1<=s.pts.length)=true:=by simp;omega
  have K:decide (s.pts.length<=8)=true:=by simp;omega
  simp only[gp,H,I,J,K,Uq]
 rw[hf];refine Dp func320 λC hP hN=>?_
 cases e:s.pts.all (av 4194304)with
 |true=>
  refine Gz ?_;refine WP.loopN [4] s.pts.length (λi st=>True/\st.t 28=.pv (aG s.pts)/\st.t 29=.pv (Z s.pts.length)/\st.t 30=.pv (Z i)/\st.h 4=none) (by simp) ?_;rintro i st hi ⟨g1,g,j,f,l⟩;by_cases d:i<s.pts.length
  .have o:=aj d (by omega)
   have N:=bV.1 (TP.1 e _ (Uo d));obtain⟨z,A,D⟩:=N;rw[aY]at z A D;generalize m:s.pts[i]=v at *
   have F:s.pts[i]?=some v:=by rw[an d,m]
   refine Gz ?_;refine WP.loopN [] 3 (λk st=>True/\st.t 28=.pv (aG s.pts)/\st.t 29=.pv (Z s.pts.length)/\st.t 30=.pv (Z i)/\st.t 34=.pv (am v)/\st.t 35=.pv (Z k)) (by simp[g1,g,j,f]) ?_;clear g1 g j f l;rintro k st u ⟨g1,g,j,f,gA,gK⟩;rcases eu u with rfl|rfl|rfl|rfl
   all_goals
    exact Gy
  .skip
   exact Gy
 |false=>
  refine Gz ?_;refine WP.loopN [4] s.pts.length (λi st=>True/\st.t 28=.pv (aG s.pts)/\st.t 29=.pv (Z s.pts.length)/\st.t 30=.pv (Z i)/\st.h 4=none/\∀k x,k<i->s.pts[k]?=some x->av 4194304 x=true) (by simp) ?_;rintro i st hi ⟨g1,g,j,f,l,hq⟩;by_cases d:i<s.pts.length
  .have o:=aj d (by omega)
   generalize m:s.pts[i]=v at *
   have F:s.pts[i]?=some v:=by rw[an d,m]
   have y:=mO (p:=av 4194304) F hq;refine Gz ?_;refine WP.loopN [] 3 (λk st=>True/\st.t 28=.pv (aG s.pts)/\st.t 29=.pv (Z s.pts.length)/\st.t 30=.pv (Z i)/\st.t 34=.pv (am v)/\st.t 35=.pv (Z k)/\(0<k->fU v.1 4194304=true)/\(1<k->fU v.2.1 4194304=true)/\(2<k->fU v.2.2 4194304=true)) (by simp[g1,g,j,f]) ?_;clear g1 g j f l hq;rintro k st u ⟨g1,g,j,f,gA,gK,E,G,O⟩;rcases eu u with rfl|rfl|rfl|rfl
   .skip
    with_reducible repeat' (first|refine Sp.h ?_|((first|refine Ss.h ?_|(refine Sb.h ?_ ?_ ?_<;>(try intro hgd)<;>try exact Xy))<;>simp -implicitDefEqProofs (maxSteps:=2000000) [hP,hN,g1,g,j,f,gA,gK,o])|refine X2 ?_ ?_|(refine Xd ?_ ?_<;>intro hcd<;>try exact Xx))
    all_goals (try (rw[aY];simp only[Ue,L4]at hgd hcd;omega))
   .skip
    with_reducible repeat' (first|refine Sp.h ?_|((first|refine Ss.h ?_|(refine Sb.h ?_ ?_ ?_<;>(try intro hgd)<;>try exact Xy))<;>simp -implicitDefEqProofs (maxSteps:=2000000) [hP,hN,g1,g,j,f,gA,gK,o])|refine X2 ?_ ?_|(refine Xd ?_ ?_<;>intro hcd<;>try exact Xx))
    all_goals (try (exact⟨E (by omega),by rw[aY];simp only[Ue,L4]at hgd hcd;omega⟩))
   .skip
    with_reducible repeat' (first|refine Sp.h ?_|((first|refine Ss.h ?_|(refine Sb.h ?_ ?_ ?_<;>(try intro hgd)<;>try exact Xy))<;>simp -implicitDefEqProofs (maxSteps:=2000000) [hP,hN,g1,g,j,f,gA,gK,o])|refine X2 ?_ ?_|(refine Xd ?_ ?_<;>intro hcd<;>try exact Xx))
    all_goals (try (exact⟨E (by omega),G (by omega),by rw[aY];simp only[Ue,L4]at hgd hcd;omega⟩))
   .have hn:av 4194304 v=true:=bV.2 ⟨E (by omega),G (by omega),O (by omega)⟩
    have n:=y hn;refine Gz ?_
    all_goals (try exact λk a b c=>n k (a,b,c))
  .have:=oI hq d
   rw[this]at e;cases e
abbrev aB(l:List aq):PV:=.sl (l.map bE)
def dH(x:Iv):Bool:=!(decide (x.1< -268435456)||decide (x.2<x.1)||decide (268435456<x.2))
def cZ(v:aq):Bool:=dH v.1&&dH v.2.1&&dH v.2.2
def ao(l:List aq):Bool:=decide (1<=l.length)&&decide (l.length<=8)&&l.all cZ
theorem fP{x:Iv}:dH x=true↔¬x.1< -268435456/\¬x.2<x.1/\¬268435456<x.2:=by
 simp only[dH,UG,Vg,Ue];constructor
 .rintro⟨⟨a,b⟩,c⟩;exact⟨a,b,c⟩
 .rintro⟨a,b,c⟩;exact⟨⟨a,b⟩,c⟩
theorem gh{v:aq}:cZ v=true↔dH v.1=true/\dH v.2.1=true/\dH v.2.2=true:=by
 simp only[cZ,An];constructor
 .rintro⟨⟨a,b⟩,c⟩;exact⟨a,b,c⟩
 .rintro⟨a,b,c⟩;exact⟨⟨a,b⟩,c⟩
theorem uj(xs:List aq)(T:xs.length<=9223372036854775807):aR 225 (aB xs) (B (ao xs)):=by
 by_cases S:xs.length<1\/8<xs.length
 .have hf:ao xs=false:=by
   cases y:ao xs with
   |false=>rfl
   |true=>
    exfalso;unfold ao at y;simp only[An,L4]at y;obtain⟨⟨b1,b2⟩,_⟩:=y;omega
  rw[hf]
  have z:(xs.length:Int)<1\/(8:Int)<xs.length:=by omega
  rcases z with h|h
  all_goals
   refine Dp func225 λC hP hN=>?_;exact Gy
 .have Q:¬(xs.length:Int)<1:=by omega
  have R:¬(8:Int)<xs.length:=by omega
  have M:¬xs.length<1:=by omega
  have N:¬8<xs.length:=by omega
  have hf:ao xs=xs.all cZ:=by
   have K:decide (1<=xs.length)=true:=by simp;omega
   have L:decide (xs.length<=8)=true:=by simp;omega
   simp only[ao,K,L,Uq]
  rw[hf];refine Dp func225 λC hP hN=>?_
  cases l:xs.all cZ with
  |true=>
   refine Gz ?_;refine WP.loopN [4,6] xs.length (λi st=>st.t 15=.pv (aB xs)/\st.t 16=.pv (Z xs.length)/\st.t 17=.pv (Z i)/\st.h 4=none/\st.h 6=none) (by simp) ?_;rintro i st hi ⟨n,o,m,q,g⟩;by_cases j:i<xs.length
   .have u:=aj j (by omega)
    have O:=gh.1 (TP.1 l _ (Uo j));obtain⟨E,F,G⟩:=O;rw[fP]at E F G;generalize r:xs[i]=v at *
    have I:xs[i]?=some v:=by rw[an j,r]
    refine Gz ?_;refine WP.loopN [6] 3 (λk st=>st.t 15=.pv (aB xs)/\st.t 16=.pv (Z xs.length)/\st.t 17=.pv (Z i)/\st.t 21=.pv (bE v)/\st.t 22=.pv (Z k)/\st.h 6=none) (by simp[n,o,m,g]) ?_;clear n o m q g;rintro k st A ⟨n,o,m,gA,gK,g⟩;rcases eu A with rfl|rfl|rfl|rfl
    all_goals
     exact Gy
   .skip
    exact Gy
  |false=>
   refine Gz ?_;refine WP.loopN [4,6] xs.length (λi st=>st.t 15=.pv (aB xs)/\st.t 16=.pv (Z xs.length)/\st.t 17=.pv (Z i)/\st.h 4=none/\st.h 6=none/\∀k x,k<i->xs[k]?=some x->cZ x=true) (by simp) ?_;rintro i st hi ⟨n,o,m,q,g,hq⟩;by_cases j:i<xs.length
   .have u:=aj j (by omega)
    generalize r:xs[i]=v at *
    have I:xs[i]?=some v:=by rw[an j,r]
    have D:=mO (p:=cZ) I hq;refine Gz ?_;refine WP.loopN [6] 3 (λk st=>st.t 15=.pv (aB xs)/\st.t 16=.pv (Z xs.length)/\st.t 17=.pv (Z i)/\st.t 21=.pv (bE v)/\st.t 22=.pv (Z k)/\st.h 6=none/\(0<k->dH v.1=true)/\(1<k->dH v.2.1=true)/\(2<k->dH v.2.2=true)) (by simp[n,o,m,g]) ?_;clear n o m q hq g;rintro k st A ⟨n,o,m,gA,gK,g,H,J,P⟩;rcases eu A with rfl|rfl|rfl|rfl
    .skip
     with_reducible repeat' (first|refine Sp.h ?_|((first|refine Ss.h ?_|(refine Sb.h ?_ ?_ ?_<;>(try intro hgd)<;>try exact Xy))<;>simp -implicitDefEqProofs (maxSteps:=2000000) [hP,hN,n,o,m,gA,gK,g,u])|refine X2 ?_ ?_|(refine Xd ?_ ?_<;>intro hcd<;>try exact Xx))
     all_goals (try (rw[fP];simp only[Ue,L4]at *;omega))
    .skip
     with_reducible repeat' (first|refine Sp.h ?_|((first|refine Ss.h ?_|(refine Sb.h ?_ ?_ ?_<;>(try intro hgd)<;>try exact Xy))<;>simp -implicitDefEqProofs (maxSteps:=2000000) [hP,hN,n,o,m,gA,gK,g,u])|refine X2 ?_ ?_|(refine Xd ?_ ?_<;>intro hcd<;>try exact Xx))
     all_goals (try (exact⟨H (by omega),by rw[fP];simp only[Ue,L4]at *;omega⟩))
    .skip
     with_reducible repeat' (first|refine Sp.h ?_|((first|refine Ss.h ?_|(refine Sb.h ?_ ?_ ?_<;>(try intro hgd)<;>try exact Xy))<;>simp -implicitDefEqProofs (maxSteps:=2000000) [hP,hN,n,o,m,gA,gK,g,u])|refine X2 ?_ ?_|(refine Xd ?_ ?_<;>intro hcd<;>try exact Xx))
     all_goals (try (exact⟨H (by omega),J (by omega),by rw[fP];simp only[Ue,L4]at *;omega⟩))
    .have hn:cZ v=true:=gh.2 ⟨H (by omega),J (by omega),P (by omega)⟩
     have s:=D hn;refine Gz ?_
     all_goals (try exact λk a b c d e f=>s k ((a,b),(c,d),(e,f)))
   .have:=oI hq j
    rw[this]at l;cases l
theorem MI(r:Int):aR 294 (Z r) (B (bf r 0 1048576)):=by
 refine Dp func294 λC hP hN=>?_
 with_reducible repeat' (first|refine Sp.h ?_|((first|refine Ss.h ?_|(refine Sb.h ?_ ?_ ?_<;>(try intro hgd)<;>try exact Xy))<;>simp -implicitDefEqProofs (maxSteps:=2000000) [hP,hN])|refine X2 ?_ ?_|(refine Xd ?_ ?_<;>intro hcd<;>try exact Xx))
 all_goals (first|(simp_all[bf];done)|((try simp_all[bf])<;>(try omega)<;>grind))
theorem MJ(r:Int):aR 277 (Z r) (B (bf r 0 1048576)):=by
 refine Dp func277 λC hP hN=>?_
 with_reducible repeat' (first|refine Sp.h ?_|((first|refine Ss.h ?_|(refine Sb.h ?_ ?_ ?_<;>(try intro hgd)<;>try exact Xy))<;>simp -implicitDefEqProofs (maxSteps:=2000000) [hP,hN])|refine X2 ?_ ?_|(refine Xd ?_ ?_<;>intro hcd<;>try exact Xx))
 all_goals (first|(simp_all[bf];done)|((try simp_all[bf])<;>(try omega)<;>grind))
def mb(x:Iv):Int:=if az x.1 x.2 then(x.1+x.2)/2 else 0
theorem I1:aR 195 (I a b) (Z (mb (a,b))):=by
 have h:=LO a b
 have e:(if az a b=true then(wr (a+b)).fdiv 2 else 0)=mb (a,b):=by
  unfold mb;split
  .rename_i c
   have c:=eU.1 c;rw[aa (by omega) (by omega)];exact Hi (a+b) 2
  .rfl
 rw[e]at h;exact h
def ju(v:aq):Vc:=(mb v.1,mb v.2.1,mb v.2.2)
def aw(l:List aq):List Vc:=if ao l then l.map ju else[]
def cF(n:Nat):Nat:=if n=0 then 0 else Nat.log2 n+1
theorem oJ(h:2^k<=n):cF n=k+cF (n/2^k):=by
 have a:0<2^k:=Nat.two_pow_pos k
 have hn:n≠0:=by omega
 have hd:n/2^k≠0:=by
  have:1<=n/2^k:=(Wr a).2 (by omega);omega
 unfold cF;rw[TQ hn,TQ hd];have b:=(Nat.log2_eq_iff hd (k:=Nat.log2 (n/2^k))).1 rfl
 have c:Nat.log2 n=Nat.log2 (n/2^k)+k:=by
  rw[Nat.log2_eq_iff hn];refine⟨?_,?_⟩
  .rw[Nat.pow_add];exact(Wr a).1 b.1
  .have:=(Nat.div_lt_iff_lt_mul a).1 b.2
   rw[show Nat.log2 (n/2^k)+k+1=(Nat.log2 (n/2^k)+1)+k from by omega,Nat.pow_add];exact this
 omega
theorem MK(n:Nat):n<2^cF n:=by
 unfold cF;split
 .rename_i h;subst h;decide
 .rename_i h;exact((Nat.log2_eq_iff h (k:=Nat.log2 n)).1 rfl).2
theorem nY(h:n<2^k):cF n<=k:=by
 unfold cF;split
 .omega
 .rename_i a
  have:=((Nat.log2_eq_iff a (k:=Nat.log2 n)).1 rfl).1;have b:2^Nat.log2 n<2^k:=Nat.lt_of_le_of_lt this h;have:=(Nat.pow_lt_pow_iff_right (by decide:1<2)).1 b;omega
abbrev U6(n:Int):PV:=.val (.int .u64 n)
def I5:ByteArray:=⟨((List.range 256).map λi=>(cF i).toUInt8).toArray⟩
theorem Dd:∀i,i<256->I5[i]?=some (cF i).toUInt8/\(cF i).toUInt8.toNat=cF i:=by decide +kernel
theorem nd(h:i<256):I5[i]?=some (cF i).toUInt8:=(Dd i h).1
theorem lx(h:i<256):(cF i).toUInt8.toNat=cF i:=(Dd i h).2
@[simp] theorem Td:i64.wrap 16=16:=by decide
@[simp] theorem Te:i64.wrap 24=24:=by decide
@[simp] theorem Tf:i64.wrap 32=32:=by decide
@[simp] theorem Tg:i64.wrap 40=40:=by decide
@[simp] theorem Th:i64.wrap 48=48:=by decide
@[simp] theorem Ti:i64.wrap 8=8:=by decide
@[simp] theorem Tj:i64.wrap 56=56:=by decide
@[simp] theorem T0:IntKind.u64.bits=64:=rfl
theorem yq{m:Nat}(B:Nat)(h:n/B=m):(n:Int).fdiv (B:Int)=(m:Int):=by
 rw[Hi,<-h];exact(Int.natCast_ediv n B).symm
theorem Bf(h:n<256):IntKind.u8.wrap (n:Int)=n:=by
 have e:(n:Int)%256=n:=by omega
 unfold IntKind.wrap;simp[IntKind.signed,IntKind.bits,e]
set_option maxRecDepth 100000 in
theorem Q6(n:Nat)(hn:n<18446744073709551616):aR 364 (U6 n) (Z (cF n)):=by
 refine Dp func364 λC hP hN=>?_
 conv in (ByteArray.mk _)=>change I5
 by_cases a7:4294967296<=n
 .have ar:cF n=32+cF (n/4294967296):=oJ (n:=n) (k:=32) (by omega)
  have Y:n/4294967296<4294967296:=by omega
  have a2:(n:Int).fdiv 4294967296=((n/4294967296:Nat):Int):=yq 4294967296 rfl;generalize U:n/4294967296=b at *
  have D:(4294967296:Int)<=(n:Int):=by omega
  by_cases L:65536<=b
  .have H:cF b=16+cF (b/65536):=oJ (n:=b) (k:=16) (by omega)
   have G:b/65536<65536:=by omega
   have I:(b:Int).fdiv 65536=((b/65536:Nat):Int):=yq 65536 rfl;generalize E:b/65536=a at *
   have o:(65536:Int)<=(b:Int):=by omega
   by_cases F:256<=a
   .have z:cF a=8+cF (a/256):=oJ (n:=a) (k:=8) (by omega)
    have y:a/256<256:=by omega
    have A:(a:Int).fdiv 256=((a/256:Nat):Int):=yq 256 rfl;generalize x:a/256=c at *
    have m:(256:Int)<=(a:Int):=by omega
    have s:=nd (i:=c) (by omega);have u:=Bf (n:=c) (by omega);have g:=lx (i:=c) (by omega);have j:cF c<=8:=nY (by omega);have v:i64.wrap ((56:Int)+(cF c:Int))=56+(cF c:Int):=aa;have l:i64.wrap (cF c:Int)=(cF c:Int):=aa;refine Gz ?_
    all_goals (first|omega|(simp;done)|(simp;omega)|trace_state)
   .have m:¬(256:Int)<=(a:Int):=by omega
    have s:=nd (i:=a) (by omega);have u:=Bf (n:=a) (by omega);have g:=lx (i:=a) (by omega);have j:cF a<=8:=nY (by omega);have v:i64.wrap ((48:Int)+(cF a:Int))=48+(cF a:Int):=aa;have l:i64.wrap (cF a:Int)=(cF a:Int):=aa;refine Gz ?_
    all_goals (first|omega|(simp;done)|(simp;omega)|trace_state)
  .have o:¬(65536:Int)<=(b:Int):=by omega
   by_cases W:256<=b
   .have P:cF b=8+cF (b/256):=oJ (n:=b) (k:=8) (by omega)
    have N:b/256<256:=by omega
    have R:(b:Int).fdiv 256=((b/256:Nat):Int):=yq 256 rfl;generalize K:b/256=f at *
    have r:(256:Int)<=(b:Int):=by omega
    have s:=nd (i:=f) (by omega);have u:=Bf (n:=f) (by omega);have g:=lx (i:=f) (by omega);have j:cF f<=8:=nY (by omega);have v:i64.wrap ((40:Int)+(cF f:Int))=40+(cF f:Int):=aa;have l:i64.wrap (cF f:Int)=(cF f:Int):=aa;refine Gz ?_
    all_goals (first|omega|(simp;done)|(simp;omega)|trace_state)
   .have r:¬(256:Int)<=(b:Int):=by omega
    have s:=nd (i:=b) (by omega);have u:=Bf (n:=b) (by omega);have g:=lx (i:=b) (by omega);have j:cF b<=8:=nY (by omega);have v:i64.wrap ((32:Int)+(cF b:Int))=32+(cF b:Int):=aa;have l:i64.wrap (cF b:Int)=(cF b:Int):=aa;exact Gy
    all_goals (first|omega|(simp;done)|(simp;omega)|trace_state)
 .have D:¬(4294967296:Int)<=(n:Int):=by omega
  by_cases a6:65536<=n
  .have ad:cF n=16+cF (n/65536):=oJ (n:=n) (k:=16) (by omega)
   have X:n/65536<65536:=by omega
   have a1:(n:Int).fdiv 65536=((n/65536:Nat):Int):=yq 65536 rfl;generalize T:n/65536=d at *
   have B:(65536:Int)<=(n:Int):=by omega
   by_cases V:256<=d
   .have O:cF d=8+cF (d/256):=oJ (n:=d) (k:=8) (by omega)
    have M:d/256<256:=by omega
    have Q:(d:Int).fdiv 256=((d/256:Nat):Int):=yq 256 rfl;generalize J:d/256=e at *
    have q:(256:Int)<=(d:Int):=by omega
    have s:=nd (i:=e) (by omega);have u:=Bf (n:=e) (by omega);have g:=lx (i:=e) (by omega);have j:cF e<=8:=nY (by omega);have v:i64.wrap ((24:Int)+(cF e:Int))=24+(cF e:Int):=aa;have l:i64.wrap (cF e:Int)=(cF e:Int):=aa;refine Gz ?_
    all_goals (first|omega|(simp;done)|(simp;omega)|trace_state)
   .have q:¬(256:Int)<=(d:Int):=by omega
    have s:=nd (i:=d) (by omega);have u:=Bf (n:=d) (by omega);have g:=lx (i:=d) (by omega);have j:cF d<=8:=nY (by omega);have v:i64.wrap ((16:Int)+(cF d:Int))=16+(cF d:Int):=aa;have l:i64.wrap (cF d:Int)=(cF d:Int):=aa;exact Gy
    all_goals (first|omega|(simp;done)|(simp;omega)|trace_state)
  .have B:¬(65536:Int)<=(n:Int):=by omega
   by_cases g:256<=n
   .have a9:cF n=8+cF (n/256):=oJ (n:=n) (k:=8) (by omega)
    have a8:n/256<256:=by omega
    have ba:(n:Int).fdiv 256=((n/256:Nat):Int):=yq 256 rfl;generalize a5:n/256=p at *
    have S:(256:Int)<=(n:Int):=by omega
    have s:=nd (i:=p) (by omega);have u:=Bf (n:=p) (by omega);have g:=lx (i:=p) (by omega);have j:cF p<=8:=nY (by omega);have v:i64.wrap ((8:Int)+(cF p:Int))=8+(cF p:Int):=aa;have l:i64.wrap (cF p:Int)=(cF p:Int):=aa;exact Gy
    all_goals (first|omega|(simp;done)|(simp;omega)|trace_state)
   .have S:¬(256:Int)<=(n:Int):=by omega
    have s:=nd (i:=n) (by omega);have u:=Bf (n:=n) (by omega);have g:=lx (i:=n) (by omega);have j:cF n<=8:=nY (by omega);have v:i64.wrap ((0:Int)+(cF n:Int))=0+(cF n:Int):=aa;have l:i64.wrap (cF n:Int)=(cF n:Int):=aa;exact Gy
    all_goals (first|omega|(simp;done)|(simp;omega)|trace_state)
def mJ(n:Nat):Nat->Nat->Nat
 |0,r=>r
 |k+1,r=>mJ n k (if(r+2^k)*(r+2^k)<=n then r+2^k else r)
theorem un{n:Nat}:∀(k r:Nat),r*r<=n->n<(r+2^k)*(r+2^k)->mJ n k r*mJ n k r<=n/\n<(mJ n k r+1)*(mJ n k r+1)
 |0,r,a,b=>⟨a,by simpa[mJ]using b⟩
 |k+1,r,a,b=>by
  simp only[mJ];split
  .rename_i h
   refine un k _ h ?_;rw[VA,<-Nat.two_mul,<-Nat.pow_succ'];exact b
  .rename_i h
   exact un k r a (by omega)
def dE(n:Nat):Nat:=mJ n 32 0
theorem rv(h:n<18446744073709551616):dE n*dE n<=n/\n<(dE n+1)*(dE n+1):=un 32 0 (UR _) (by simpa using h)
theorem Bg{a b:Nat}(h1:a*a<=n)(c:n<(a+1)*(a+1))(d:b*b<=n)(e:n<(b+1)*(b+1)):a=b:=by
 rcases VM a b with h|h|h
 .have:=Vm (show a+1<=b from h) (show a+1<=b from h);omega
 .exact h
 .have:=Vm (show b+1<=a from h) (show b+1<=a from h);omega
theorem K3(h:n<18446744073709551616)(c:n<2^k*2^k):mJ n k 0=dE n:=by
 have a:=un (n:=n) k 0 (UR _) (by simpa using c);have b:=rv h;exact Bg a.1 a.2 b.1 b.2
theorem sA(hn:n<4611686018427387904):dE n<2147483648:=by
 have h:=(rv (n:=n) (by omega)).1;rcases Nat.lt_or_ge (dE n) 2147483648 with a|a
 .exact a
 .have:=Vm a a;omega
def iR(n w:Nat):Nat->Nat
 |0=>0
 |i+1=>if(iR n w i+2^(w-i-1))*(iR n w i+2^(w-i-1))<=n then iR n w i+2^(w-i-1)else iR n w i
theorem EV{n w:Nat}:∀i,i<=w->mJ n (w-i) (iR n w i)=mJ n w 0
 |0,_=>rfl
 |i+1,h=>by
  rw[<-EV i (by omega)];obtain⟨m,c⟩:∃m,w-i=m+1:=⟨w-i-1,by omega⟩
  have a:w-(i+1)=m:=by omega
  have b:w-i-1=m:=by omega
  rw[c,a];simp only[iR,mJ,b]
theorem yr{n w:Nat}:∀i,i<=w->iR n w i+2^(w-i)<=2^w
 |0,_=>by simp[iR]
 |i+1,h=>by
  have ih:=yr (n:=n) (w:=w) i (by omega);obtain⟨m,c⟩:∃m,w-i=m+1:=⟨w-i-1,by omega⟩
  have a:w-(i+1)=m:=by omega
  have b:w-i-1=m:=by omega
  rw[c,WC]at ih;simp only[iR,a,b];split<;>omega
theorem Ht(h:n<18446744073709551616):IntKind.u64.wrap (n:Int)=n:=by
 have e:(n:Int)%18446744073709551616=n:=by omega
 unfold IntKind.wrap;simp[IntKind.signed,IntKind.bits,e]
theorem Q7(n:Nat)(hn:n<4611686018427387904):aR 344 (Z n) (Z (dE n)):=by
 by_cases K:n=0
 .subst K
  have hf:dE 0=0:=by decide +kernel
  rw[hf];refine Dp func344 λC hP hN=>?_;exact Gy
 have cl:=Q6 n (by omega);have x:=MK n;have M:cF n<=62:=nY hn
 have o:¬(n:Int)<=0:=by omega
 have B:IntKind.u64.wrap (n:Int)=n:=Ht (by omega);obtain⟨w,V⟩:∃w,w=(cF n+1)/2:=⟨_,rfl⟩
 have s:w<=31:=by omega
 have Q:cF n<=2*w:=by omega
 have y:n<2^w*2^w:=by
  rw[<-Nat.pow_add];exact UU x (Nat.pow_le_pow_right (by decide) (by omega))
 have z:=K3 (n:=n) (k:=w) (by omega) y
 have A:((cF n:Int)+1).tdiv 2=(w:Int):=by
  rw[Un (by omega)];omega
 have R:i64.wrap ((cF n:Int)+1)=(cF n:Int)+1:=aa;have S:i64.wrap (w:Int)=w:=aa;have G:2^w<=2^31:=Nat.pow_le_pow_right (by decide) s
 have T:IntKind.u64.wrap (2^min w 64)=((2^w:Nat):Int):=by
  rw[Nat.min_eq_left (by omega)];have e:((2^w:Nat):Int)=(2:Int)^w:=Int.natCast_pow 2 w;rw[<-e];exact Ht (by omega)
 refine Dp func344 λC hP hN=>?_;refine GT (it o B R S A T) ?_;refine WP.loopN [] w (λi st=>st.t 0=.pv (Z n)/\st.t 16=.pv (Z w)/\st.t 17=.pv (Z i)/\st.t 4=.pv (U6 (iR n w i))/\st.t 5=.pv (U6 ((2^(w-i):Nat):Int))) (by simp[iR]) ?_;rintro i st hi ⟨g0,f,g,g4,g5⟩;by_cases l:i<w
 .have c:(i:Int)<(w:Int):=by omega
  have d:i64.wrap ((i:Int)+1)=(i:Int)+1:=aa;obtain⟨m,N⟩:∃m,w-i=m+1:=⟨w-i-1,by omega⟩
  have E:w-(i+1)=m:=by omega
  have L:w-i-1=m:=by omega
  have b:=yr (n:=n) (w:=w) i hi;rw[N]at g5 b;rw[WC]at b
  have D:((2^(m+1):Nat):Int).tdiv 2=((2^m:Nat):Int):=by
   rw[Un (by omega),WC];omega
  have u:iR n w (i+1)=if(iR n w i+2^m)*(iR n w i+2^m)<=n then iR n w i+2^m else iR n w i:=by simp only[iR,L]
  generalize iR n w i=r at *;generalize hq:2^m=q at *;generalize 2^(m+1)=W at *
  have p:r+q<=2^31:=by omega
  have P:(r+q)*(r+q)<=2^31*2^31:=Vm p p;have H:IntKind.u64.wrap (q:Int)=q:=Ht (by omega)
  have I:IntKind.u64.wrap ((r:Int)+(q:Int))=(r:Int)+(q:Int):=by have:=Ht (n:=r+q) (by omega);simpa using this
  have J:IntKind.u64.wrap (((r:Int)+(q:Int))*((r:Int)+(q:Int)))=((r:Int)+(q:Int))*((r:Int)+(q:Int)):=by
   have:=Ht (n:=(r+q)*(r+q)) (by omega);simpa using this
  have F:(((r:Int)+(q:Int))*((r:Int)+(q:Int))<=(n:Int))↔(r+q)*(r+q)<=n:=by
   have e:((r:Int)+(q:Int))*((r:Int)+(q:Int))=(((r+q)*(r+q):Nat):Int):=by simp
   rw[e];omega
  by_cases a:(r+q)*(r+q)<=n
  .have j:=F.2 a
   rw[T8 a]at u;refine GT (s7 g0 f g g4 g5 c d D H I J (be j B l)) ?_
   all_goals (simp[u,E,hq];rw[<-hq];exact Int.natCast_pow 2 m)
  .have j:¬((r:Int)+(q:Int))*((r:Int)+(q:Int))<=(n:Int):=λh=>a (F.1 h)
   rw[TQ a]at u;refine GT (s7 g0 f g g4 g5 c d D H I J (be j B l)) ?_
   all_goals (simp[u,E,hq];rw[<-hq];exact Int.natCast_pow 2 m)
 .have v:i=w:=by omega
  subst v
  have hf:iR n i i=dE n:=by
   have:=EV (n:=n) (w:=i) i (Ua _);rw[VV]at this;rw[<-z,<-this];rfl
  have b:=yr (n:=n) (w:=i) i (Ua _);rw[hf]at g4 b;have O:=sA hn;have U:i64.wrap (dE n:Int)=dE n:=aa;exact GS (it g0 f g g4 g5 U)
def r4(n:Nat):Nat:=if dE n*dE n<n then dE n+1 else dE n
theorem Q8(n:Nat)(hn:n<4611686018427387904):aR 329 (Z n) (Z (r4 n)):=by
 have g:=Q7 n hn;have i:=sA hn
 have d:r4 n=if dE n*dE n<n then dE n+1 else dE n:=rfl
 rw[d];generalize dE n=r at *;have f:r*r<=2147483648*2147483648:=Vm (by omega) (by omega)
 have b:i64.wrap ((r:Int)*(r:Int))=((r*r:Nat):Int):=by
  have e:((r:Int)*(r:Int))=((r*r:Nat):Int):=by simp
  rw[e];exact aa (by omega) (by omega)
 have c:i64.wrap ((r:Int)+1)=(r:Int)+1:=aa;by_cases h:r*r<n
 .have a:((r*r:Nat):Int)<(n:Int):=by omega
  rw[T8 h];refine Dp func329 λC hP hN=>?_;exact Gy
  all_goals (first|done|(simp[b,c,a]at *;done)|(exfalso;simp at *;omega))
 .have a:¬((r*r:Nat):Int)<(n:Int):=by omega
  rw[TQ h];refine Dp func329 λC hP hN=>?_;exact Gy
  all_goals (first|done|(simp[b,c,a]at *;done)|(exfalso;simp at *;omega))
theorem ML(v:Vc):aR 323 (am v) (B (av 16384 v)):=by
 cases a:av 16384 v with
 |true=>
  have j:=bV.1 a;obtain⟨d,e,f⟩:=j;rw[aY]at d e f;refine Dp func323 λC hP hN=>?_;refine Gz ?_;refine WP.loopN [] 3 (λk st=>st.t 5=.pv (am v)/\st.t 6=.pv (Z k)) (by simp) ?_;rintro k st c ⟨g5,b⟩;rcases eu c with rfl|rfl|rfl|rfl
  all_goals
   exact Gy
 |false=>
  refine Dp func323 λC hP hN=>?_;refine Gz ?_;refine WP.loopN [] 3 (λk st=>st.t 5=.pv (am v)/\st.t 6=.pv (Z k)/\(0<k->fU v.1 16384=true)/\(1<k->fU v.2.1 16384=true)/\(2<k->fU v.2.2 16384=true)) (by simp) ?_;rintro k st c ⟨g5,b,g,i,l⟩;rcases eu c with rfl|rfl|rfl|rfl
  .skip
   with_reducible repeat' (first|refine Sp.h ?_|((first|refine Ss.h ?_|(refine Sb.h ?_ ?_ ?_<;>(try intro hgd)<;>try exact Xy))<;>simp -implicitDefEqProofs (maxSteps:=2000000) [hP,hN,g5,b])|refine X2 ?_ ?_|(refine Xd ?_ ?_<;>intro hcd<;>try exact Xx))
   all_goals (try (rw[aY];simp only[Ue,L4]at hgd hcd;omega))
  .skip
   with_reducible repeat' (first|refine Sp.h ?_|((first|refine Ss.h ?_|(refine Sb.h ?_ ?_ ?_<;>(try intro hgd)<;>try exact Xy))<;>simp -implicitDefEqProofs (maxSteps:=2000000) [hP,hN,g5,b])|refine X2 ?_ ?_|(refine Xd ?_ ?_<;>intro hcd<;>try exact Xx))
   all_goals (try (exact⟨g (by omega),by rw[aY];simp only[Ue,L4]at hgd hcd;omega⟩))
  .skip
   with_reducible repeat' (first|refine Sp.h ?_|((first|refine Ss.h ?_|(refine Sb.h ?_ ?_ ?_<;>(try intro hgd)<;>try exact Xy))<;>simp -implicitDefEqProofs (maxSteps:=2000000) [hP,hN,g5,b])|refine X2 ?_ ?_|(refine Xd ?_ ?_<;>intro hcd<;>try exact Xx))
   all_goals (try (exact⟨g (by omega),i (by omega),by rw[aY];simp only[Ue,L4]at hgd hcd;omega⟩))
  .have hn:av 16384 v=true:=bV.2 ⟨g (by omega),i (by omega),l (by omega)⟩
   rw[hn]at a;cases a
def nz(v:Vc):Bool:=!(v.1==0&&v.2.1==0&&v.2.2==0)
def aL(v:Vc):Bool:=av 16384 v&&nz v
theorem De(v:Vc):aR 278 (am v) (B (aL v)):=by
 have c:=ML v;have a:aL v=(av 16384 v&& !(v.1==0&&v.2.1==0&&v.2.2==0)):=rfl;rw[a];generalize av 16384 v=b at *;refine Dp func278 λC hP hN=>?_;cases b
 all_goals
  exact Gy
def lP(v:Vc):Vc:=(v.1.tdiv 2,v.2.1.tdiv 2,v.2.2.tdiv 2)
def kA:Nat->Vc->Vc
 |0,v=>v
 |n+1,v=>if av 16384 v then v else kA n (lP v)
def bp(v:Vc):Vc:=kA 64 v
def ff(b:Int)(v:Vc):Prop:=(-b<=v.1/\v.1<=b)/\(-b<=v.2.1/\v.2.1<=b)/\(-b<=v.2.2/\v.2.2<=b)
theorem F3(h:-(2*b)<=x/\x<=2*b):-b<=x.tdiv 2/\x.tdiv 2<=b:=by
 have c:0<=b:=by omega
 rcases Wo 0 x with a|a
 .rw[Un a];omega
 .have e:x.tdiv 2=-((-x).tdiv 2):=by rw[Int.neg_tdiv,Int.neg_neg]
  rw[e,Un (by omega)];omega
theorem Df(h:ff (2*b) v):ff b (lP v):=⟨F3 h.1,F3 h.2.1,F3 h.2.2⟩
theorem MM(v:Vc)(h:ff 1099511627776 v):aR 286 (am v) (.tup [am (bp v),B (nz (bp v))]):=by
 have l:nz (bp v)=!((bp v).1==0&&(bp v).2.1==0&&(bp v).2.2==0):=rfl;rw[l];refine Dp func286 λC hP hN=>?_;refine Gz ?_;refine WP.loopN [] 41 (λi st=>∃w:Vc,st.t 1=.ptr 1 0/\st.t 2=.ptr 2 0/\st.h 1=some (.box [.pv (Z w.1),.pv (Z w.2.1),.pv (Z w.2.2)] true false)/\st.h 2=some (.box [.pv (Z 0),.pv (Z 0),.pv (Z 0)] true false)/\kA (64-i) w=bp v/\ff ((2^(40-i):Nat):Int) w) (by simp;exact⟨v.1,v.2.1,v.2.2,⟨rfl,rfl,rfl⟩,rfl,h⟩) ?_;rintro i st hi ⟨w,g1,g2,a,c,hn,g⟩;have o:=ML w;obtain⟨m,A⟩:∃m,64-i=m+1:=⟨64-i-1,by omega⟩;rw[A]at hn;simp only[kA]at hn
 cases d:av 16384 w with
 |true=>
  rw[d]at o;rw[T8 d]at hn;subst hn;exact Gy
 |false=>
  rw[d]at o;rw[TQ (by rw[d];simp)]at hn
  have r:i<40:=by
   rcases Nat.lt_or_ge i 40 with p|p
   .exact p
   .have e:40-i=0:=by omega
    rw[e]at g
    have:av 16384 w=true:=by
     obtain⟨⟨a1,a2⟩,⟨a3,a4⟩,a5,a6⟩:=g;rw[bV,aY,aY,aY];omega
    rw[this]at d;cases d
  have b:ff ((2^(40-(i+1)):Nat):Int) (lP w):=by
   obtain⟨q,hq⟩:∃q,40-i=q+1:=⟨40-i-1,by omega⟩
   have s:40-(i+1)=q:=by omega
   rw[hq,WC]at g;rw[s];refine Df ?_
   have u:((2^q*2:Nat):Int)=2*((2^q:Nat):Int):=by omega
   rw[<-u];exact g
  have j:kA (63-i) (lP w)=bp v:=by rw[show 63-i=m by omega];exact hn
  have f:ff ((2:Int)^(39-i)) (lP w):=by
   have e:((2^(40-(i+1)):Nat):Int)=(2:Int)^(39-i):=by rw[show 40-(i+1)=39-i by omega];exact Int.natCast_pow 2 (39-i)
   rw[<-e];exact b
  have z:((2^(40-(i+1)):Nat):Int)<=1099511627776:=by
   have:=Nat.pow_le_pow_right (n:=2) (by decide) (show 40-(i+1)<=40 by omega);omega
  have D:i64.wrap (w.1.tdiv 2)=w.1.tdiv 2:=by have:=b.1;simp only[lP]at this;exact aa (by omega) (by omega)
  have E:i64.wrap (w.2.1.tdiv 2)=w.2.1.tdiv 2:=by have:=b.2.1;simp only[lP]at this;exact aa (by omega) (by omega)
  have F:i64.wrap (w.2.2.tdiv 2)=w.2.2.tdiv 2:=by have:=b.2.2;simp only[lP]at this;exact aa (by omega) (by omega)
  refine Gz ?_;refine WP.loopN [] 3 (λk st=>st.t 1=.ptr 1 0/\st.t 2=.ptr 2 0/\st.h 2=some (.box [.pv (Z 0),.pv (Z 0),.pv (Z 0)] true false)/\st.t 8=.pv (Z k)/\st.h 1=some (.box [.pv (Z (if 0<k then w.1.tdiv 2 else w.1)),.pv (Z (if 1<k then w.2.1.tdiv 2 else w.2.1)),.pv (Z (if 2<k then w.2.2.tdiv 2 else w.2.2))] true false)) (by simp[g1,g2,a,c]) ?_;clear g1 g2 a c;rintro k st y ⟨g1,g2,c,x,a⟩;rcases eu y with rfl|rfl|rfl|rfl
  all_goals (simp at x a)
  .skip
   exact Gy
  .skip
   exact Gy
  .skip
   exact Gy
  .skip
   refine Gz ?_
   all_goals (refine⟨by omega,_,_,_,⟨rfl,rfl,rfl⟩,?_,?_⟩<;>first|exact j|exact f)
def vL(v:Vc):Nat:=(v.1*v.1+v.2.1*v.2.1+v.2.2*v.2.2).toNat
def fI(v:Vc):Int:=if aL v then(r4 (vL v):Int)else 0
theorem MN(v:Vc):aR 289 (am v) (Z (fI v)):=by
 have f:=De v
 cases c:aL v with
 |false=>
  have d:fI v=0:=by simp[fI,c]
  rw[d];rw[c]at f;refine Dp func289 λC hP hN=>?_;exact Gy
 |true=>
  have d:fI v=(r4 (vL v):Int):=by simp[fI,c]
  rw[d];rw[c]at f
  have g:av 16384 v=true:=by simp only[aL,An]at c;exact c.1
  rw[bV,aY,aY,aY]at g;obtain⟨v1,v2,v3⟩:=v;simp only at g;have m1:=bF (a:=v1) (b:=v1) 16384 16384 (by omega) (by omega) (by omega) (by omega);have m2:=bF (a:=v2) (b:=v2) 16384 16384 (by omega) (by omega) (by omega) (by omega);have j:=bF (a:=v3) (b:=v3) 16384 16384 (by omega) (by omega) (by omega) (by omega)
  have k:0<=v1*v1:=by rcases Wo 0 v1 with h|h;exact U1 h h;exact Wb h h
  have l:0<=v2*v2:=by rcases Wo 0 v2 with h|h;exact U1 h h;exact Wb h h
  have m:0<=v3*v3:=by rcases Wo 0 v3 with h|h;exact U1 h h;exact Wb h h
  have e:vL (v1,v2,v3)=(v1*v1+v2*v2+v3*v3).toNat:=rfl;rw[e];have n:i64.wrap (v1*v1)=v1*v1:=aa;have o:i64.wrap (v2*v2)=v2*v2:=aa;have p:i64.wrap (v3*v3)=v3*v3:=aa;have r:i64.wrap (v1*v1+v2*v2)=v1*v1+v2*v2:=aa;have s:i64.wrap (v1*v1+v2*v2+v3*v3)=v1*v1+v2*v2+v3*v3:=aa;have i:=Q8 (v1*v1+v2*v2+v3*v3).toNat (by omega);rw[Int.toNat_of_nonneg (by omega)]at i;generalize(v1*v1+v2*v2+v3*v3).toNat=q at *;refine Dp func289 λC hP hN=>?_;exact Gy
def pT(n:Int)(x:Iv):Int:=min (n*x.1) (n*x.2)
def pU(n:Int)(x:Iv):Int:=max (n*x.1) (n*x.2)
def gt(n:Vc)(v:aq):Int:=pT n.1 v.1+pT n.2.1 v.2.1+pT n.2.2 v.2.2
def gu(n:Vc)(v:aq):Int:=pU n.1 v.1+pU n.2.1 v.2.1+pU n.2.2 v.2.2
theorem F4{x:Iv}(h:dH x=true):(-268435456<=x.1/\x.1<=268435456)/\(-268435456<=x.2/\x.2<=268435456):=by
 rw[fP]at h;omega
theorem wL(h:fU x 16384=true):-16384<=x/\x<=16384:=by rw[aY]at h;omega
theorem nZ{n:Int}{x:Iv}(hn:fU n 16384=true)(c:dH x=true):(-4398046511104<=n*x.1/\n*x.1<=4398046511104)/\(-4398046511104<=n*x.2/\n*x.2<=4398046511104)/\(-4398046511104<=pT n x/\pT n x<=4398046511104)/\(-4398046511104<=pU n x/\pU n x<=4398046511104):=by
 have d:=wL hn;have e:=F4 c;have m1:=bF (a:=n) (b:=x.1) 16384 268435456 (by omega) (by omega) (by omega) (by omega);have m2:=bF (a:=n) (b:=x.2) 16384 268435456 (by omega) (by omega) (by omega) (by omega);unfold pT pU;omega
theorem MO(n:Vc)(v:aq)(hn:av 16384 n=true)(g:cZ v=true):aK 373 (am n) (bE v) (.tup [Z (gt n v),Z (gu n v)]):=by
 rw[bV]at hn;rw[gh]at g;obtain⟨D,E,F⟩:=hn;obtain⟨v1,v2,v3⟩:=g;have a1:=nZ D v1;have a2:=nZ E v2;have a3:=nZ F v3;have i:gt n v=pT n.1 v.1+pT n.2.1 v.2.1+pT n.2.2 v.2.2:=rfl;have j:gu n v=pU n.1 v.1+pU n.2.1 v.2.1+pU n.2.2 v.2.2:=rfl;rw[i,j];have S:i64.wrap (n.1*v.1.1)=n.1*v.1.1:=aa;have T:i64.wrap (n.1*v.1.2)=n.1*v.1.2:=aa;have U:i64.wrap (n.2.1*v.2.1.1)=n.2.1*v.2.1.1:=aa;have V:i64.wrap (n.2.1*v.2.1.2)=n.2.1*v.2.1.2:=aa;have W:i64.wrap (n.2.2*v.2.2.1)=n.2.2*v.2.2.1:=aa;have X:i64.wrap (n.2.2*v.2.2.2)=n.2.2*v.2.2.2:=aa;have G:min (n.1*v.1.1) (n.1*v.1.2)=pT n.1 v.1:=rfl;have H:min (n.2.1*v.2.1.1) (n.2.1*v.2.1.2)=pT n.2.1 v.2.1:=rfl;have I:min (n.2.2*v.2.2.1) (n.2.2*v.2.2.2)=pT n.2.2 v.2.2:=rfl;have J:max (n.1*v.1.1) (n.1*v.1.2)=pU n.1 v.1:=rfl;have K:max (n.2.1*v.2.1.1) (n.2.1*v.2.1.2)=pU n.2.1 v.2.1:=rfl;have L:max (n.2.2*v.2.2.1) (n.2.2*v.2.2.2)=pU n.2.2 v.2.2:=rfl;generalize u:pT n.1 v.1=a at *;generalize x:pT n.2.1 v.2.1=c at *;generalize y:pT n.2.2 v.2.2=e at *;generalize z:pU n.1 v.1=b at *;generalize A:pU n.2.1 v.2.1=d at *;generalize B:pU n.2.2 v.2.2=f at *;have M:i64.wrap a=a:=aa;have N:i64.wrap (a+c)=a+c:=aa;have O:i64.wrap (a+c+e)=a+c+e:=aa;have P:i64.wrap b=b:=aa;have Q:i64.wrap (b+d)=b+d:=aa;have R:i64.wrap (b+d+f)=b+d+f:=aa;refine Dp func373 λC hP hN=>?_;refine Gz ?_;refine WP.loopN [9] 3 (λk st=>st.t 2=.ptr 2 0/\st.h 2=some (.box [.pv (Z n.1),.pv (Z n.2.1),.pv (Z n.2.2)] true false)/\st.t 12=.pv (bE v)/\st.t 13=.pv (Z k)/\st.h 9=none/\st.t 6=.pv (Z (if k=0 then 0 else if k=1 then a else if k=2 then a+c else a+c+e))/\st.t 7=.pv (Z (if k=0 then 0 else if k=1 then b else if k=2 then b+d else b+d+f))) (by simp) ?_;rintro k st s ⟨g2,q,l,m,r,o,p⟩;rcases eu s with rfl|rfl|rfl|rfl
 all_goals (simp at o p)
 all_goals
  exact Gy
abbrev yt(n:Vc):PV:=.rptr (am n) 0
abbrev Q9(n:Vc):PV:=.agg [.fn (.func 372) [] [yt n],.val (.func (.func 374) #[] #[])]
abbrev Ra(n:Vc):PV:=.agg [.fn (.func 375) [] [yt n],.val (.func (.func 376) #[] #[])]
theorem Rb(n:Vc):aR 361 (am n) (Q9 n):=by
 refine Dp func361 λC hP hN=>?_;exact Gy
theorem Rc(n:Vc):aR 363 (am n) (Ra n):=by
 refine Dp func363 λC hP hN=>?_;exact Gy
theorem Rd(x y:Int):aK 374 (Z x) (Z y) (B (decide (x<y))):=by
 refine Dp func374 λC hP hN=>?_;exact Gy
theorem Re(x y:Int):aK 376 (Z x) (Z y) (B (decide (y<x))):=by
 refine Dp func376 λC hP hN=>?_;exact Gy
theorem Rf(n:Vc)(v:aq)(hn:av 16384 n=true)(c:cZ v=true):aK 372 (bE v) (yt n) (Z (gt n v)):=by
 have d:=MO n v hn c;generalize gt n v=a at *;generalize gu n v=b at *;refine Dp func372 λC hP hN=>?_;exact Gy
theorem Rg(n:Vc)(v:aq)(hn:av 16384 n=true)(c:cZ v=true):aK 375 (bE v) (yt n) (Z (gu n v)):=by
 have d:=MO n v hn c;generalize gt n v=a at *;generalize gu n v=b at *;refine Dp func375 λC hP hN=>?_;exact Gy
def gQ(val:aq->Int)(bet:Int->Int->Bool)(xs:List aq):Nat->Int×Nat
 |0=>(0,0)
 |i+1=>match xs[i]? with
  |some v=>if i=0\/bet (val v) (gQ val bet xs i).1=true then(val v,i)else gQ val bet xs i
  |none=>gQ val bet xs i
def Ay(val:aq->Int)(bet:Int->Int->Bool)(xs:List aq):Int×Nat:=gQ val bet xs xs.length
theorem vM{val:aq->Int}{xs:List aq}{v:aq}(h:xs[i]?=some v):gQ val bet xs (i+1)=if i=0\/bet (val v) (gQ val bet xs i).1=true then(val v,i)else gQ val bet xs i:=by simp only[gQ,h]
theorem MP(n:Vc)(f g:FuncId)(val:aq->Int)(bet:Int->Int->Bool)(xs:List aq)(E:xs.length<=1000)(hf:∀v,cZ v=true->aP prog f [.pv (bE v),.pv (yt n)] [] [] (.pv (Z (val v))))(z:∀x y,aP prog g [.pv (Z x),.pv (Z y)] [] [] (.pv (B (bet x y))))(hp:xs.all cZ=true):aK 362 (.agg [.fn (.func f) [] [yt n],.val (.func (.func g) #[] #[])]) (aB xs) (.tup [Z (Ay val bet xs).1,Z (Ay val bet xs).2]):=by
 refine Dp func362 λC hP hN=>?_;refine Gz ?_;refine WP.loopN [9] xs.length (λi st=>st.t 2=.ptr 2 0/\st.h 2=some (.box [.pv (.fn (.func f) [] [yt n]),.pv (.val (.func (.func g) #[] #[]))] true false)/\st.t 11=.pv (aB xs)/\st.t 12=.pv (Z xs.length)/\st.t 13=.pv (Z i)/\st.h 9=none/\st.t 6=.pv (Z (gQ val bet xs i).1)/\st.t 7=.pv (Z (gQ val bet xs i).2)) (by simp[gQ]) ?_;rintro i st hi ⟨g2,r,m,o,p,u,A,D⟩;by_cases c:i<xs.length
 .have F:=aj c (by omega)
  generalize e:xs[i]=v at *
  have l:xs[i]?=some v:=by rw[an c,e]
  have cv:=hf v (TP.1 hp v (Is l));have b:=vM (val:=val) (bet:=bet) l;generalize gQ val bet xs i=s at *;generalize gQ val bet xs (i+1)=G at *;have j:=z (val v) s.1;generalize val v=y at *;by_cases k:i=0
  .subst k
   rw[T8 (.inl rfl)]at b;subst b;exact Gy
  .have q:((i:Int)==0)=false:=by simp;omega
   cases a:bet y s.1 with
   |true=>
    rw[a]at j;rw[T8 (.inr a)]at b;subst b;exact Gy
   |false=>
    rw[a]at j;rw[TQ (by rintro(h|h);exact k h;rw[a]at h;cases h)]at b;subst b;exact Gy
 .have d:i=xs.length:=by omega
  subst d;refine Gz ?_
  all_goals exact⟨rfl,rfl⟩
def eN(x y:Int):Bool:=decide (x<y)
def eO(x y:Int):Bool:=decide (y<x)
def gv(n:Vc)(xs:List aq):Int×Nat:=Ay (gt n) eN xs
def gw(n:Vc)(xs:List aq):Int×Nat:=Ay (gu n) eO xs
theorem bR{xs:List aq}(h:ao xs=true):xs.all cZ=true/\xs.length<=8/\1<=xs.length:=by
 simp only[ao,An,L4]at h;exact⟨h.2,h.1.2,h.1.1⟩
theorem Rh(n:Vc)(xs:List aq)(g:xs.length<=9223372036854775807):aK 342 (am n) (aB xs) (.tup (if aL n&&ao xs then[Z (gv n xs).1,Z (gv n xs).2,B true]else[Z 0,Z 0,B false])):=by
 have d:=De n;have c:=uj xs g
 cases b:aL n with
 |false=>
  rw[b]at d;refine Dp func342 λC hP hN=>?_;exact Gy
 |true=>
  rw[b]at d
  cases a:ao xs with
  |false=>
   rw[a]at c;refine Dp func342 λC hP hN=>?_;exact Gy
  |true=>
   rw[a]at c
   have hn:av 16384 n=true:=by simp only[aL,An]at b;exact b.1
   obtain⟨f,j,_⟩:=bR a;have e:=MP n 372 374 (gt n) eN xs (by omega) (λv i=>Rf n v hn i) Rd f;have hL:Ay (gt n) eN xs=gv n xs:=rfl;rw[hL]at e;generalize gv n xs=r at *;refine Dp func342 λC hP hN=>?_;have k:=Rb n;exact GS trivial
theorem Ri(n:Vc)(xs:List aq)(g:xs.length<=9223372036854775807):aK 343 (am n) (aB xs) (.tup (if aL n&&ao xs then[Z (gw n xs).1,Z (gw n xs).2,B true]else[Z 0,Z 0,B false])):=by
 have d:=De n;have c:=uj xs g
 cases b:aL n with
 |false=>
  rw[b]at d;refine Dp func343 λC hP hN=>?_;exact Gy
 |true=>
  rw[b]at d
  cases a:ao xs with
  |false=>
   rw[a]at c;refine Dp func343 λC hP hN=>?_;exact Gy
  |true=>
   rw[a]at c
   have hn:av 16384 n=true:=by simp only[aL,An]at b;exact b.1
   obtain⟨f,j,_⟩:=bR a;have e:=MP n 375 376 (gu n) eO xs (by omega) (λv i=>Rg n v hn i) Re f;have hL:Ay (gu n) eO xs=gw n xs:=rfl;rw[hL]at e;generalize gw n xs=r at *;refine Dp func343 λC hP hN=>?_;have k:=Rc n;exact GS trivial
abbrev yu(a:List aq)(c:Int)(b:List aq)(d:Int):PV:=.agg [aB a,Z c,aB b,Z d]
def oW(a:List aq)(r:Int):Bool:=ao a&&decide (0<=r)&&decide (r<=1048576)
theorem MQ(a:List aq)(r:Int)(b:a.length<=9223372036854775807):aR 341 (.agg [aB a,Z r]) (B (oW a r)):=by
 have d:=uj a b;have c:oW a r=(ao a&&decide (0<=r)&&decide (r<=1048576)):=rfl;rw[c];generalize ao a=p at *;cases p
 all_goals
  refine Dp func341 λC hP hN=>?_;exact Gy
  all_goals (try (simp only[L4,Ue]at hgd;intros;omega))
theorem Rj(a:List aq)(c:Int)(b:List aq)(d:Int):BB 282 (aB a) (Z c) (aB b) (Z d) (yu a c b d):=by
 refine Dp func282 λC hP hN=>?_;exact Gy
theorem yv{val:aq->Int}{bet:Int->Int->Bool}{xs:List aq}{m:Int}(a:0<=m)(h:∀v∈xs,-m<=val v/\val v<=m):∀i,-m<=(gQ val bet xs i).1/\(gQ val bet xs i).1<=m
 |0=>by simp[gQ];omega
 |i+1=>by
  have ih:=yv (val:=val) (bet:=bet) a h i;simp only[gQ];split
  .rename_i v b
   split
   .exact h v (Is b)
   .exact ih
  .exact ih
theorem EW{n:Vc}{v:aq}(hn:av 16384 n=true)(a:cZ v=true):(-13194139533312<=gt n v/\gt n v<=13194139533312)/\(-13194139533312<=gu n v/\gu n v<=13194139533312):=by
 rw[bV]at hn;rw[gh]at a;obtain⟨b,c,d⟩:=hn;obtain⟨v1,v2,v3⟩:=a;have a1:=nZ b v1;have a2:=nZ c v2;have a3:=nZ d v3;unfold gt gu;omega
theorem Bh{n:Vc}{xs:List aq}(hn:av 16384 n=true)(b:xs.all cZ=true):-13194139533312<=(gv n xs).1/\(gv n xs).1<=13194139533312:=
 yv (by decide) (λv a=>(EW hn (TP.1 b v a)).1) _
theorem Bi{n:Vc}{xs:List aq}(hn:av 16384 n=true)(b:xs.all cZ=true):-13194139533312<=(gw n xs).1/\(gw n xs).1<=13194139533312:=
 yv (by decide) (λv a=>(EW hn (TP.1 b v a)).2) _
theorem Hu(c:av 16384 v=true):vL v<=805306368:=by
 rw[bV,aY,aY,aY]at c;obtain⟨v1,v2,v3⟩:=v;simp only at c;have m1:=bF (a:=v1) (b:=v1) 16384 16384 (by omega) (by omega) (by omega) (by omega);have m2:=bF (a:=v2) (b:=v2) 16384 16384 (by omega) (by omega) (by omega) (by omega);have d:=bF (a:=v3) (b:=v3) 16384 16384 (by omega) (by omega) (by omega) (by omega);show(v1*v1+v2*v2+v3*v3).toNat<=_;omega
theorem uo(v:Vc):0<=fI v/\fI v<=32768:=by
 unfold fI;split
 .rename_i a
  have b:av 16384 v=true:=by simp only[aL,An]at a;exact a.1
  have c:=Hu b;have d:=(rv (n:=vL v) (by omega)).1
  have e:dE (vL v)<32768:=by
   rcases Nat.lt_or_ge (dE (vL v)) 32768 with h|h
   .exact h
   .have:=Vm h h;omega
  unfold r4;split<;>omega
 .omega
def lQ(n:Vc)(a:List aq)(c:Int)(b:List aq)(d:Int):Int:=(gv n a).1-(gw n b).1-fI n*(c+d)
def kO(n:Vc)(a:List aq)(c:Int)(b:List aq)(d:Int):Bool:=oW a c&&oW b d&&aL n
theorem Rk(n:Vc)(a:List aq)(c:Int)(b:List aq)(d:Int)(s:a.length<=9223372036854775807)(i:b.length<=9223372036854775807):aK 326 (yu a c b d) (am n) (.tup (if kO n a c b d then[Z (lQ n a c b d),B true]else[Z 0,B false])):=by
 have p:=MQ a c s;have r:=MQ b d i;have A:kO n a c b d=(oW a c&&oW b d&&aL n):=rfl;rw[A]
 cases j:oW a c with
 |false=>
  rw[j]at p;refine Dp func326 λC hP hN=>?_;exact Gy
 |true=>
  rw[j]at p
  cases k:oW b d with
  |false=>
   rw[k]at r;refine Dp func326 λC hP hN=>?_;exact Gy
  |true=>
   rw[k]at r;simp only[oW,An,L4]at j k;obtain⟨⟨e,v⟩,x⟩:=j;obtain⟨⟨f,y⟩,z⟩:=k;have cl:=Rh n a s;have o:=Ri n b i;rw[e,VC]at cl;rw[f,VC]at o
   cases m:aL n with
   |false=>
    rw[m]at cl;simp at cl;refine Dp func326 λC hP hN=>?_;exact Gy
   |true=>
    rw[m]at cl o;simp at cl o
    have hn:av 16384 n=true:=by simp only[aL,An]at m;exact m.1
    have E:=Bh hn (bR e).1;have F:=Bi hn (bR f).1;have G:=uo n;have D:=MN n;have u:lQ n a c b d=(gv n a).1-(gw n b).1-fI n*(c+d):=rfl;rw[u];generalize gv n a=l at *;generalize gw n b=g at *;generalize fI n=q at *;have m1:=bF (a:=q) (b:=c+d) 32768 2097152 (by omega) (by omega) (by omega) (by omega);have H:i64.wrap (c+d)=c+d:=aa;have I:i64.wrap (q*(c+d))=q*(c+d):=aa;have J:i64.wrap (l.1-g.1)=l.1-g.1:=aa;have K:i64.wrap (l.1-g.1-q*(c+d))=l.1-g.1-q*(c+d):=aa;refine Dp func326 λC hP hN=>?_;exact Gy
def kc(n:Vc)(a:List aq)(c:Int)(b:List aq)(d:Int):Bool:=kO n a c b d&&decide (0<lQ n a c b d)
theorem Rl(n:Vc)(a:List aq)(c:Int)(b:List aq)(d:Int)(i:a.length<=9223372036854775807)(e:b.length<=9223372036854775807):aK 281 (yu a c b d) (am n) (B (kc n a c b d)):=by
 have f:=Rk n a c b d i e;have j:kc n a c b d=(kO n a c b d&&decide (0<lQ n a c b d)):=rfl;rw[j];generalize lQ n a c b d=m at *;cases g:kO n a c b d<;>rw[g]at f<;>simp at f
 all_goals
  refine Dp func281 λC hP hN=>?_;exact Gy
theorem Rm(n:Vc)(a:List aq)(c:Int)(b:List aq)(d:Int)(f:a.length<=9223372036854775807)(e:b.length<=9223372036854775807):xF 221 (am n) (aB a) (Z c) (aB b) (Z d) (B (kc n a c b d)):=by
 have g:=Rl n a c b d f e;generalize kc n a c b d=s at *;refine Dp func221 λC hP hN=>?_;have i:=Rj a c b d;exact GS trivial
def du(w:Int)(s x:Iv):Iv:=(s.1+w*x.1,s.2+w*x.2)
def qi(w:Int)(s x:aq):aq:=(du w s.1 x.1,du w s.2.1 x.2.1,du w s.2.2 x.2.2)
def dC(l:List aq)(ws:List Int):Nat->aq
 |0=>bm
 |i+1=>match l[i]?,ws[i]? with
  |some x,some w=>qi w (dC l ws i) x
  |_,_=>dC l ws i
def aX(ws:List Int):Nat->Int
 |0=>0
 |i+1=>aX ws i+(ws[i]?).getD 0
def wB(w:Int):Bool:=!(decide (w<0)||decide (65536<w))
def dX(l:List aq)(ws:List Int):Bool:=ao l&&decide (ws.length=l.length)&&ws.all wB&& !(decide (aX ws ws.length<1)||decide (65536<aX ws ws.length))
abbrev fJ(l:List aq)(ws:List Int):PV:=.tup (if dX l ws then[bE (dC l ws ws.length),Z (aX ws ws.length),B true]else[bE bm,Z 0,B false])
theorem iB{w:Int}{s x:Iv}{m:Nat}(e:0<=w/\w<=65536)(c:dH x=true)(d:(-((m:Int)*17592186044416)<=s.1/\s.1<=(m:Int)*17592186044416)/\(-((m:Int)*17592186044416)<=s.2/\s.2<=(m:Int)*17592186044416)):
 ((-17592186044416<=w*x.1/\w*x.1<=17592186044416)/\(-17592186044416<=w*x.2/\w*x.2<=17592186044416))/\(-(((m+1:Nat):Int)*17592186044416)<=(du w s x).1/\(du w s x).1<=((m+1:Nat):Int)*17592186044416)/\(-(((m+1:Nat):Int)*17592186044416)<=(du w s x).2/\(du w s x).2<=((m+1:Nat):Int)*17592186044416):=by
 rw[fP]at c;have m1:=bF (a:=w) (b:=x.1) 65536 268435456 (by omega) (by omega) (by omega) (by omega);have m2:=bF (a:=w) (b:=x.2) 65536 268435456 (by omega) (by omega) (by omega) (by omega);simp only[du];omega
def Az(m:Nat)(s:Iv):Prop:=(-((m:Int)*17592186044416)<=s.1/\s.1<=(m:Int)*17592186044416)/\(-((m:Int)*17592186044416)<=s.2/\s.2<=(m:Int)*17592186044416)
def rx(m:Nat)(s:aq):Prop:=Az m s.1/\Az m s.2.1/\Az m s.2.2
theorem yw{l:List aq}{ws:List Int}(b:∀v∈l,cZ v=true)(h:∀w∈ws,wB w=true):∀i:Nat,rx i (dC l ws i)
 |0=>by simp[dC,rx,Az,bm]
 |i+1=>by
  have ih:=yw b h i;simp only[dC];split
  .rename_i x w e d
   have a:=b x (Is e);have c:=h w (Is d);rw[gh]at a;simp only[wB,UG,Vg,Ue]at c;exact⟨(iB ⟨by omega,by omega⟩ a.1 ih.1).2,(iB ⟨by omega,by omega⟩ a.2.1 ih.2.1).2,(iB ⟨by omega,by omega⟩ a.2.2 ih.2.2).2⟩
  .obtain⟨⟨⟨a1,a2⟩,a3,a4⟩,⟨⟨b1,b2⟩,b3,b4⟩,⟨f,g⟩,j,k⟩:=ih
   refine⟨⟨⟨?_,?_⟩,?_,?_⟩,⟨⟨?_,?_⟩,?_,?_⟩,⟨?_,?_⟩,?_,?_⟩<;>omega
def kX(s x:aq)(w:Int)(k:Nat):List AV:=[.pv (Z (if 0<k then(du w s.1 x.1).1 else s.1.1)),.pv (Z (if 0<k then(du w s.1 x.1).2 else s.1.2)),.pv (Z (if 1<k then(du w s.2.1 x.2.1).1 else s.2.1.1)),.pv (Z (if 1<k then(du w s.2.1 x.2.1).2 else s.2.1.2)),.pv (Z (if 2<k then(du w s.2.2 x.2.2).1 else s.2.2.1)),.pv (Z (if 2<k then(du w s.2.2 x.2.2).2 else s.2.2.2))]
abbrev b6(s:aq):List AV:=[.pv (Z s.1.1),.pv (Z s.1.2),.pv (Z s.2.1.1),.pv (Z s.2.1.2),.pv (Z s.2.2.1),.pv (Z s.2.2.2)]
set_option maxRecDepth 4000 in
theorem MR(l:List aq)(ws:List Int)(hl:l.length<=9223372036854775807)(ad:ws.length<=9223372036854775807):aK 293 (aB l) (zs ws) (fJ l ws):=by
 have cp:=uj l hl;have hc:dX l ws=(ao l&&decide (ws.length=l.length)&&ws.all wB&& !(decide (aX ws ws.length<1)||decide (65536<aX ws ws.length))):=rfl;have z6:bE bm=V6 0 0 0 0 0 0:=rfl
 cases hp:ao l with
 |false=>
  have hf:dX l ws=false:=by rw[hc,hp];simp
  rw[hp]at cp
  have L:fJ l ws=.tup [V6 0 0 0 0 0 0,Z 0,B false]:=by unfold fJ;rw[hf];rfl
  rw[L];refine Dp func293 λC hP hN=>?_;exact Gy
 |true=>
 rw[hp]at cp;by_cases N:ws.length=l.length
 case neg=>
  have hf:dX l ws=false:=by rw[hc];simp[N]
  have E:((ws.length:Int)!=(l.length:Int))=true:=by simp;omega
  have bc:¬(ws.length:Int)=(l.length:Int):=by omega
  have L:fJ l ws=.tup [V6 0 0 0 0 0 0,Z 0,B false]:=by unfold fJ;rw[hf];rfl
  rw[L];refine Dp func293 λC hP hN=>?_;exact Gy
 have E:((ws.length:Int)!=(l.length:Int))=false:=by simp[N]
 simp only[ao,An,L4]at hp;obtain⟨⟨a7,a8⟩,W⟩:=hp;have X:=TP.1 W
 have V:dX l ws=(ws.all wB&& !(decide (aX ws ws.length<1)||decide (65536<aX ws ws.length))):=by
  have e1:ao l=true:=by simp only[ao,An,L4];exact⟨⟨a7,a8⟩,W⟩
  rw[hc,e1,UD N];simp
 clear hc
 cases s:ws.all wB with
 |false=>
  have hf:dX l ws=false:=by rw[V,s];rfl
  have L:fJ l ws=.tup [V6 0 0 0 0 0 0,Z 0,B false]:=by unfold fJ;rw[hf];rfl
  rw[L];refine Dp func293 λC hP hN=>?_;refine GT E ?_;refine WP.loopN [12] ws.length (λi st=>st.t 0=.pv (aB l)/\st.t 4=.ptr 4 0/\st.h 4=some (.box (b6 bm) true false)/\st.t 7=.ptr 7 0/\st.h 7=some (.box (b6 (dC l ws i)) true false)/\st.t 8=.pv (Z (aX ws i))/\st.t 24=.pv (zs ws)/\st.t 25=.pv (Z ws.length)/\st.t 26=.pv (Z i)/\st.h 12=none/\(∀k x,k<i->ws[k]?=some x->wB x=true)/\rx i (dC l ws i)/\0<=aX ws i/\aX ws i<=(i:Int)*65536) (by simp[dC,aX,bm,rx,Az]) ?_;rintro i st hi ⟨g0,g4,f,m,b,n,c,d,e,a,hq,P,ba,bb⟩;by_cases g:i<ws.length
  .have hw:=aj g ad
   generalize z:ws[i]=w at *
   have F:ws[i]?=some w:=by rw[an g,z]
   have u:i<l.length:=by omega
   generalize G:l[i]=x at *
   have Q:l[i]?=some x:=by rw[an u,G]
   have a9:=mO (p:=wB) F hq
   cases v:wB w with
   |false=>
    have y:w<0\/65536<w:=by
     simp only[wB,Bool.not_eq_false',UT,L4]at v;exact v
    rcases y with M|M
    .skip
     exact GS (s7 g0 g4 f m b n c d e a g (be F z M))
    .have h10:¬w<0:=by omega
     exact GS (zAa g0 g4 f m b n c d e a g F z M h10)
   |true=>
    have Y:=a9 v
    have y:¬w<0/\¬65536<w:=by
     simp only[wB,UG,Vg,Ue]at v;exact v
    obtain⟨M,h10⟩:=y;have r:=X x (Is Q);rw[gh]at r
    have hS:dC l ws (i+1)=qi w (dC l ws i) x:=by simp only[dC,F,Q]
    have R:aX ws (i+1)=aX ws i+w:=by simp only[aX,F,Uj]
    obtain⟨r1,r2,r3⟩:=P;have a1:=iB (w:=w) (x:=x.1) ⟨by omega,by omega⟩ r.1 r1;have a2:=iB (w:=w) (x:=x.2.1) ⟨by omega,by omega⟩ r.2.1 r2;have a3:=iB (w:=w) (x:=x.2.2) ⟨by omega,by omega⟩ r.2.2 r3;have O:rx (i+1) (qi w (dC l ws i) x):=⟨a1.2,a2.2,a3.2⟩;generalize dC l ws i=S at *;generalize dC l ws (i+1)=S' at *;generalize aX ws i=T at *;generalize aX ws (i+1)=T' at *;subst hS;subst R;have wT:i64.wrap (T+w)=T+w:=aa;have H:(du w S.1 x.1).1=S.1.1+w*x.1.1:=rfl;have I:(du w S.1 x.1).2=S.1.2+w*x.1.2:=rfl;have d3:(du w S.2.1 x.2.1).1=S.2.1.1+w*x.2.1.1:=rfl;have d4:(du w S.2.1 x.2.1).2=S.2.1.2+w*x.2.1.2:=rfl;have J:(du w S.2.2 x.2.2).1=S.2.2.1+w*x.2.2.1:=rfl;have K:(du w S.2.2 x.2.2).2=S.2.2.2+w*x.2.2.2:=rfl;have u1:i64.wrap (w*x.1.1)=w*x.1.1:=aa;have u2:i64.wrap (w*x.1.2)=w*x.1.2:=aa;have u3:i64.wrap (w*x.2.1.1)=w*x.2.1.1:=aa;have u4:i64.wrap (w*x.2.1.2)=w*x.2.1.2:=aa;have u5:i64.wrap (w*x.2.2.1)=w*x.2.2.1:=aa;have u6:i64.wrap (w*x.2.2.2)=w*x.2.2.2:=aa;have v1:i64.wrap (S.1.1+w*x.1.1)=(du w S.1 x.1).1:=(aa (by rw[<-H];omega) (by rw[<-H];omega)).trans H.symm;have v2:i64.wrap (S.1.2+w*x.1.2)=(du w S.1 x.1).2:=(aa (by rw[<-I];omega) (by rw[<-I];omega)).trans I.symm;have v3:i64.wrap (S.2.1.1+w*x.2.1.1)=(du w S.2.1 x.2.1).1:=(aa (by rw[<-d3];omega) (by rw[<-d3];omega)).trans d3.symm;have v4:i64.wrap (S.2.1.2+w*x.2.1.2)=(du w S.2.1 x.2.1).2:=(aa (by rw[<-d4];omega) (by rw[<-d4];omega)).trans d4.symm;have v5:i64.wrap (S.2.2.1+w*x.2.2.1)=(du w S.2.2 x.2.2).1:=(aa (by rw[<-J];omega) (by rw[<-J];omega)).trans J.symm;have v6:i64.wrap (S.2.2.2+w*x.2.2.2)=(du w S.2.2 x.2.2).2:=(aa (by rw[<-K];omega) (by rw[<-K];omega)).trans K.symm;have D:b6 (qi w S x)=kX S x w 3:=rfl;have A:b6 S=kX S x w 0:=rfl;rw[A]at b;rw[D];refine GT (zAa g0 g4 f m n c d e a g u F z Q (go G M h10 wT b)) ?_;refine WP.loopN [12] 3 (λk st=>st.t 0=.pv (aB l)/\st.t 4=.ptr 4 0/\st.h 4=some (.box (b6 bm) true false)/\st.t 7=.ptr 7 0/\st.h 7=some (.box (kX S x w k) true false)/\st.t 8=.pv (Z (T+w))/\st.t 10=.pv (Z w)/\st.t 24=.pv (zs ws)/\st.t 25=.pv (Z ws.length)/\st.t 26=.pv (Z i)/\st.h 12=none/\st.t 44=.pv (bE x)/\st.t 45=.pv (Z k)) (by simp[g0,g4,f,m,n,c,d,e,a,b,kX]) ?_;clear g0 g4 f m b n c d e a hq;rintro k st hk ⟨g0,g4,f,m,b,n,o,c,d,e,a,q,j⟩;clear H I d3 d4 J K a1 a2 a3 r1 r2 r3;rcases eu hk with rfl|rfl|rfl|rfl
    all_goals (simp[kX]at b j)
    .skip
     exact GS (zAa g0 g4 f m n o c d e a q j b u1 (f7 u2 v1 v2 @kX.eq_1))
    .skip
     exact GS (zAa g0 g4 f m n o c d e a q j b u3 (f7 u4 v3 v4 @kX.eq_1))
    .skip
     exact GS (zAa g0 g4 f m n o c d e a q j b u5 (f7 u6 v5 v6 @kX.eq_1))
    .skip
     refine GT (zAa g0 g4 f m n o c d e a q j b hw (gA g @kX.eq_1)) ?_
     all_goals exact⟨Y,O,by omega,by omega⟩
  .have:=oI hq g
   rw[this]at s;cases s
 |true=>
  refine Dp func293 λC hP hN=>?_;refine GT E ?_;refine WP.loopN [12] ws.length (λi st=>st.t 0=.pv (aB l)/\st.t 4=.ptr 4 0/\st.h 4=some (.box (b6 bm) true false)/\st.t 7=.ptr 7 0/\st.h 7=some (.box (b6 (dC l ws i)) true false)/\st.t 8=.pv (Z (aX ws i))/\st.t 24=.pv (zs ws)/\st.t 25=.pv (Z ws.length)/\st.t 26=.pv (Z i)/\st.h 12=none/\rx i (dC l ws i)/\0<=aX ws i/\aX ws i<=(i:Int)*65536) (by simp[dC,aX,bm,rx,Az]) ?_;rintro i st hi ⟨g0,g4,f,m,b,n,c,d,e,a,P,ba,bb⟩;by_cases g:i<ws.length
  .have hw:=aj g ad
   generalize z:ws[i]=w at *
   have F:ws[i]?=some w:=by rw[an g,z]
   have u:i<l.length:=by omega
   generalize G:l[i]=x at *
   have Q:l[i]?=some x:=by rw[an u,G]
   have v:=TP.1 s w (Is F)
   have y:¬w<0/\¬65536<w:=by
    simp only[wB,UG,Vg,Ue]at v;exact v
   obtain⟨M,h10⟩:=y;have r:=X x (Is Q);rw[gh]at r
   have hS:dC l ws (i+1)=qi w (dC l ws i) x:=by simp only[dC,F,Q]
   have R:aX ws (i+1)=aX ws i+w:=by simp only[aX,F,Uj]
   obtain⟨r1,r2,r3⟩:=P;have a1:=iB (w:=w) (x:=x.1) ⟨by omega,by omega⟩ r.1 r1;have a2:=iB (w:=w) (x:=x.2.1) ⟨by omega,by omega⟩ r.2.1 r2;have a3:=iB (w:=w) (x:=x.2.2) ⟨by omega,by omega⟩ r.2.2 r3;have O:rx (i+1) (qi w (dC l ws i) x):=⟨a1.2,a2.2,a3.2⟩;generalize dC l ws i=S at *;generalize dC l ws (i+1)=S' at *;generalize aX ws i=T at *;generalize aX ws (i+1)=T' at *;subst hS;subst R;have wT:i64.wrap (T+w)=T+w:=aa;have H:(du w S.1 x.1).1=S.1.1+w*x.1.1:=rfl;have I:(du w S.1 x.1).2=S.1.2+w*x.1.2:=rfl;have d3:(du w S.2.1 x.2.1).1=S.2.1.1+w*x.2.1.1:=rfl;have d4:(du w S.2.1 x.2.1).2=S.2.1.2+w*x.2.1.2:=rfl;have J:(du w S.2.2 x.2.2).1=S.2.2.1+w*x.2.2.1:=rfl;have K:(du w S.2.2 x.2.2).2=S.2.2.2+w*x.2.2.2:=rfl;have u1:i64.wrap (w*x.1.1)=w*x.1.1:=aa;have u2:i64.wrap (w*x.1.2)=w*x.1.2:=aa;have u3:i64.wrap (w*x.2.1.1)=w*x.2.1.1:=aa;have u4:i64.wrap (w*x.2.1.2)=w*x.2.1.2:=aa;have u5:i64.wrap (w*x.2.2.1)=w*x.2.2.1:=aa;have u6:i64.wrap (w*x.2.2.2)=w*x.2.2.2:=aa;have v1:i64.wrap (S.1.1+w*x.1.1)=(du w S.1 x.1).1:=(aa (by rw[<-H];omega) (by rw[<-H];omega)).trans H.symm;have v2:i64.wrap (S.1.2+w*x.1.2)=(du w S.1 x.1).2:=(aa (by rw[<-I];omega) (by rw[<-I];omega)).trans I.symm;have v3:i64.wrap (S.2.1.1+w*x.2.1.1)=(du w S.2.1 x.2.1).1:=(aa (by rw[<-d3];omega) (by rw[<-d3];omega)).trans d3.symm;have v4:i64.wrap (S.2.1.2+w*x.2.1.2)=(du w S.2.1 x.2.1).2:=(aa (by rw[<-d4];omega) (by rw[<-d4];omega)).trans d4.symm;have v5:i64.wrap (S.2.2.1+w*x.2.2.1)=(du w S.2.2 x.2.2).1:=(aa (by rw[<-J];omega) (by rw[<-J];omega)).trans J.symm;have v6:i64.wrap (S.2.2.2+w*x.2.2.2)=(du w S.2.2 x.2.2).2:=(aa (by rw[<-K];omega) (by rw[<-K];omega)).trans K.symm;have D:b6 (qi w S x)=kX S x w 3:=rfl;have A:b6 S=kX S x w 0:=rfl;rw[A]at b;rw[D];refine GT (zAa g0 g4 f m n c d e a g u F z Q (go G M h10 wT b)) ?_;refine WP.loopN [12] 3 (λk st=>st.t 0=.pv (aB l)/\st.t 4=.ptr 4 0/\st.h 4=some (.box (b6 bm) true false)/\st.t 7=.ptr 7 0/\st.h 7=some (.box (kX S x w k) true false)/\st.t 8=.pv (Z (T+w))/\st.t 10=.pv (Z w)/\st.t 24=.pv (zs ws)/\st.t 25=.pv (Z ws.length)/\st.t 26=.pv (Z i)/\st.h 12=none/\st.t 44=.pv (bE x)/\st.t 45=.pv (Z k)) (by simp[g0,g4,f,m,n,c,d,e,a,b,kX]) ?_;clear g0 g4 f m b n c d e a;rintro k st hk ⟨g0,g4,f,m,b,n,o,c,d,e,a,q,j⟩;clear H I d3 d4 J K a1 a2 a3 r1 r2 r3;rcases eu hk with rfl|rfl|rfl|rfl
   all_goals (simp[kX]at b j)
   .skip
    exact GS (zAa g0 g4 f m n o c d e a q j b u1 (f7 u2 v1 v2 @kX.eq_1))
   .skip
    exact GS (zAa g0 g4 f m n o c d e a q j b u3 (f7 u4 v3 v4 @kX.eq_1))
   .skip
    exact GS (zAa g0 g4 f m n o c d e a q j b u5 (f7 u6 v5 v6 @kX.eq_1))
   .skip
    refine GT (zAa g0 g4 f m n o c d e a q j b hw (gA g @kX.eq_1)) ?_
    all_goals exact⟨O,by omega,by omega⟩
  .have a6:i=ws.length:=by omega
   subst a6
   have U:dX l ws=!(decide (aX ws ws.length<1)||decide (65536<aX ws ws.length)):=by rw[V,s];simp
   generalize a5:aX ws ws.length=T at *;generalize ar:dC l ws ws.length=S at *;by_cases R:T<1\/65536<T
   .have hf:dX l ws=false:=by
     rw[U];rcases R with h|h
     all_goals simp[h]
    have L:fJ l ws=.tup [V6 0 0 0 0 0 0,Z 0,B false]:=by unfold fJ;rw[hf];rfl
    rw[L];rcases R with h|h
    .skip
     exact GS (s6 g0 g4 f m b n c d e (gA a h))
    .have h2:¬T<1:=by omega
     exact GS (s7 g0 g4 f m b n c d e a h h2)
   .have h1:¬T<1:=by omega
    have h2:¬65536<T:=by omega
    have hf:dX l ws=true:=by rw[U];simp[h1,h2]
    have L:fJ l ws=.tup [bE S,Z T,B true]:=by unfold fJ;rw[hf,ar,a5];rfl
    rw[L];exact GS (s7 g0 g4 f m b n c d e a h1 h2)
def fv(l:List Vc):Bool:=decide (1<=l.length)&&decide (l.length<=8)&&l.all (av 268435456)
theorem Mo(l:List Vc)(P:l.length<=9223372036854775807):aR 222 (aG l) (B (fv l)):=by
 by_cases O:l.length<1\/8<l.length
 .have hf:fv l=false:=by
   cases u:fv l with
   |false=>rfl
   |true=>
    exfalso;unfold fv at u;simp only[An,L4]at u;obtain⟨⟨b3,b4⟩,_⟩:=u;omega
  rw[hf]
  have y:(l.length:Int)<1\/(8:Int)<l.length:=by omega
  rcases y with h|h
  all_goals
   refine Dp func222 λC hP hN=>?_;exact Gy
 have M:¬(l.length:Int)<1:=by omega
 have N:¬(8:Int)<l.length:=by omega
 have r:1<=l.length:=by omega
 have s:l.length<=8:=by omega
 have J:fv l=l.all (av 268435456):=by
  unfold fv;rw[UD r,UD s];simp
 rw[J];refine Dp func222 λC hP hN=>?_
 cases e:l.all (av 268435456)with
 |true=>
  refine Gz ?_;refine WP.loopN [4] l.length (λi st=>True/\st.t 15=.pv (aG l)/\st.t 16=.pv (Z l.length)/\st.t 17=.pv (Z i)/\st.h 4=none) (by simp) ?_;rintro i st hi ⟨g1,g,j,f,m⟩;by_cases d:i<l.length
  .have q:=aj d (by omega)
   have K:=bV.1 (TP.1 e _ (Uo d));obtain⟨D,E,F⟩:=K;rw[aY]at D E F;generalize n:l[i]=v at *
   have H:l[i]?=some v:=by rw[an d,n]
   refine Gz ?_;refine WP.loopN [] 3 (λk st=>True/\st.t 15=.pv (aG l)/\st.t 16=.pv (Z l.length)/\st.t 17=.pv (Z i)/\st.t 21=.pv (am v)/\st.t 22=.pv (Z k)) (by simp[g1,g,j,f]) ?_;clear g1 g j f m;rintro k st z ⟨g1,g,j,f,gA,gK⟩;rcases eu z with rfl|rfl|rfl|rfl
   all_goals
    exact Gy
  .skip
   exact Gy
 |false=>
  refine Gz ?_;refine WP.loopN [4] l.length (λi st=>True/\st.t 15=.pv (aG l)/\st.t 16=.pv (Z l.length)/\st.t 17=.pv (Z i)/\st.h 4=none/\∀k x,k<i->l[k]?=some x->av 268435456 x=true) (by simp) ?_;rintro i st hi ⟨g1,g,j,f,m,hq⟩;by_cases d:i<l.length
  .have q:=aj d (by omega)
   generalize n:l[i]=v at *
   have H:l[i]?=some v:=by rw[an d,n]
   have A:=mO (p:=av 268435456) H hq;refine Gz ?_;refine WP.loopN [] 3 (λk st=>True/\st.t 15=.pv (aG l)/\st.t 16=.pv (Z l.length)/\st.t 17=.pv (Z i)/\st.t 21=.pv (am v)/\st.t 22=.pv (Z k)/\(0<k->fU v.1 268435456=true)/\(1<k->fU v.2.1 268435456=true)/\(2<k->fU v.2.2 268435456=true)) (by simp[g1,g,j,f]) ?_;clear g1 g j f m hq;rintro k st z ⟨g1,g,j,f,gA,gK,G,I,L⟩;rcases eu z with rfl|rfl|rfl|rfl
   .skip
    with_reducible repeat' (first|refine Sp.h ?_|((first|refine Ss.h ?_|(refine Sb.h ?_ ?_ ?_<;>(try intro hgd)<;>try exact Xy))<;>simp -implicitDefEqProofs (maxSteps:=2000000) [hP,hN,g1,g,j,f,gA,gK,q])|refine X2 ?_ ?_|(refine Xd ?_ ?_<;>intro hcd<;>try exact Xx))
    all_goals (try (rw[aY];simp only[Ue,L4]at hgd hcd;omega))
   .skip
    with_reducible repeat' (first|refine Sp.h ?_|((first|refine Ss.h ?_|(refine Sb.h ?_ ?_ ?_<;>(try intro hgd)<;>try exact Xy))<;>simp -implicitDefEqProofs (maxSteps:=2000000) [hP,hN,g1,g,j,f,gA,gK,q])|refine X2 ?_ ?_|(refine Xd ?_ ?_<;>intro hcd<;>try exact Xx))
    all_goals (try (exact⟨G (by omega),by rw[aY];simp only[Ue,L4]at hgd hcd;omega⟩))
   .skip
    with_reducible repeat' (first|refine Sp.h ?_|((first|refine Ss.h ?_|(refine Sb.h ?_ ?_ ?_<;>(try intro hgd)<;>try exact Xy))<;>simp -implicitDefEqProofs (maxSteps:=2000000) [hP,hN,g1,g,j,f,gA,gK,q])|refine X2 ?_ ?_|(refine Xd ?_ ?_<;>intro hcd<;>try exact Xx))
    all_goals (try (exact⟨G (by omega),I (by omega),by rw[aY];simp only[Ue,L4]at hgd hcd;omega⟩))
   .have hn:av 268435456 v=true:=bV.2 ⟨G (by omega),I (by omega),L (by omega)⟩
    have o:=A hn;refine Gz ?_
    all_goals (try exact λk a b c=>o k (a,b,c))
  .have:=oI hq d
   rw[this]at e;cases e
def aT(v w:Vc):Vc:=(v.1-w.1,v.2.1-w.2.1,v.2.2-w.2.2)
def bA(v w:Vc):Int:=v.1*w.1+v.2.1*w.2.1+v.2.2*w.2.2
theorem IQ(v w:Vc)(b:ff 1152921504606846976 v)(c:ff 1152921504606846976 w):aK 283 (am v) (am w) (am (aT v w)):=by
 obtain⟨v1,v2,v3⟩:=b;obtain⟨g,i,j⟩:=c;have d:i64.wrap (v.1-w.1)=v.1-w.1:=aa;have e:i64.wrap (v.2.1-w.2.1)=v.2.1-w.2.1:=aa;have f:i64.wrap (v.2.2-w.2.2)=v.2.2-w.2.2:=aa;have a:aT v w=(v.1-w.1,v.2.1-w.2.1,v.2.2-w.2.2):=rfl;rw[a];refine Dp func283 λC hP hN=>?_;exact Gy
theorem lr{w:Vc}{m:Nat}(a:ff m v)(b:ff n w):(-((m*n:Nat):Int)<=v.1*w.1/\v.1*w.1<=((m*n:Nat):Int))/\(-((m*n:Nat):Int)<=v.2.1*w.2.1/\v.2.1*w.2.1<=((m*n:Nat):Int))/\(-((m*n:Nat):Int)<=v.2.2*w.2.2/\v.2.2*w.2.2<=((m*n:Nat):Int)):=
 ⟨bF m n a.1.1 a.1.2 b.1.1 b.1.2,bF m n a.2.1.1 a.2.1.2 b.2.1.1 b.2.1.2,bF m n a.2.2.1 a.2.2.2 b.2.2.1 b.2.2.2⟩
theorem Ao(v w:Vc)(m n:Nat)(c:ff m v)(d:ff n w)(a:3*(m*n)<=9223372036854775807):aK 328 (am v) (am w) (Z (bA v w)):=by
 obtain⟨l,o,p⟩:=lr c d;have b:bA v w=v.1*w.1+v.2.1*w.2.1+v.2.2*w.2.2:=rfl;rw[b];generalize m*n=k at *;have e:i64.wrap (v.1*w.1)=v.1*w.1:=aa;have f:i64.wrap (v.2.1*w.2.1)=v.2.1*w.2.1:=aa;have g:i64.wrap (v.2.2*w.2.2)=v.2.2*w.2.2:=aa;have i:i64.wrap (v.1*w.1+v.2.1*w.2.1)=v.1*w.1+v.2.1*w.2.1:=aa;have j:i64.wrap (v.1*w.1+v.2.1*w.2.1+v.2.2*w.2.2)=v.1*w.1+v.2.1*w.2.1+v.2.2*w.2.2:=aa;refine Dp func328 λC hP hN=>?_;exact Gy
abbrev FP(l:List Vc)(w:List Int):PV:=.agg [aG l,zs w]
theorem J7(l:List Vc)(h1:1<=l.length)(a:l.length<=8):aP prog 223 [.pv (aG l)] [] [] (.srow [aG l] 2 1 (((List.replicate l.length 0).set 0 65536).map Z)):=by
 refine Dp func223 λC hP hN=>?_;exact GS (f7 (show(0:Int)<l.length by omega) (show 0<l.length by omega) (show(8:Int)*(l.length:Int)<=281474976710656 by omega) (show(l.length:Int)<=9223372036854775807 by omega))
def de(l:List Vc)(w:List Int):Nat->Vc
 |0=>(0,0,0)
 |i+1=>match l[i]?,w[i]? with
  |some p,some k=>((de l w i).1+k*p.1,(de l w i).2.1+k*p.2.1,(de l w i).2.2+k*p.2.2)
  |_,_=>de l w i
structure WgOk(w:List Int):Prop where
 pos:∀k∈w,0<=k
 tot:aX w w.length<=65536
theorem mN{k:Int}(h:w[i]?=some k):aX w (i+1)=aX w i+k:=by simp[aX,h]
theorem ic(h:∀k∈w,0<=k){j:Nat}(a:i<=j):aX w i<=aX w j:=by
 induction a with
 |refl=>exact Wy _
 |step c ih=>
  rename_i m
  cases b:w[m]? with
  |none=>simp only[aX,b,Option.getD_none];omega
  |some k=>
   have:=h k (Is b);rw[mN b];omega
theorem rc(h:∀k∈w,0<=k)(i:Nat):0<=aX w i:=ic h (UR i)
theorem vt{k:Int}(a:0<=k)(b:-m<=x/\x<=m):-(k*m)<=k*x/\k*x<=k*m:=by
 refine⟨?_,U8 b.2 a⟩;have:=U8 b.1 a;rw[Int.mul_neg]at this;exact this
theorem eD(h:av 268435456 v=true):ff 268435456 v:=by
 rw[bV,aY,aY,aY]at h;exact⟨⟨by omega,by omega⟩,⟨by omega,by omega⟩,⟨by omega,by omega⟩⟩
theorem Ba{l:List Vc}{w:List Int}(g:l.all (av 268435456)=true)(e:∀k∈w,0<=k):∀i:Nat,ff (aX w i*268435456) (de l w i)
 |0=>by simp[de,aX,ff]
 |i+1=>by
  have ih:=Ba g e i;have m:=ic e (Nat.le_succ i);simp only[de];split
  .rename_i p k hp f
   have j:=eD (TP.1 g p (Is hp));have d:=e k (Is f);rw[mN f];obtain⟨a,b,c⟩:=j;have r:=vt d a;have s:=vt d b;have u:=vt d c;obtain⟨o,q,i3⟩:=ih;exact⟨⟨by simp only;omega,by simp only;omega⟩,⟨by simp only;omega,by simp only;omega⟩,⟨by simp only;omega,by simp only;omega⟩⟩
  .obtain⟨o,q,i3⟩:=ih
   have n:aX w i<=aX w (i+1):=m;exact⟨⟨by omega,by omega⟩,⟨by omega,by omega⟩,⟨by omega,by omega⟩⟩
theorem jO(c:l.all (av 268435456)=true)(a:WgOk w)(i:Nat)(hi:i<=w.length):ff 17592186044416 (de l w i):=by
 have b:=Ba c a.pos i;have d:=ic a.pos hi;have e:=a.tot;obtain⟨f,g,i3⟩:=b;exact⟨⟨by omega,by omega⟩,⟨by omega,by omega⟩,⟨by omega,by omega⟩⟩
def kU(s p:Vc)(k:Int)(j:Nat):List AV:=[.pv (Z (if 0<j then s.1+k*p.1 else s.1)),.pv (Z (if 1<j then s.2.1+k*p.2.1 else s.2.1)),.pv (Z (if 2<j then s.2.2+k*p.2.2 else s.2.2))]
theorem Mp(l:List Vc)(ws:List Int)(h8:l.length<=8)(K:ws.length=l.length)(A:l.all (av 268435456)=true)(u:WgOk ws):aR 284 (FP l ws) (am (de l ws l.length)):=by
 refine Dp func284 λC hP hN=>?_;refine Gz ?_;refine WP.loopN [5] l.length (λi st=>st.t 1=.ptr 1 0/\st.h 1=some (.box [.pv (aG l),.pv (zs ws)] true false)/\st.t 2=.ptr 2 0/\st.h 2=some (.box [.pv (Z 0),.pv (Z 0),.pv (Z 0)] true false)/\st.t 3=.ptr 3 0/\st.h 3=some (.box [.pv (Z (de l ws i).1),.pv (Z (de l ws i).2.1),.pv (Z (de l ws i).2.2)] true false)/\st.t 9=.pv (aG l)/\st.t 10=.pv (Z l.length)/\st.t 11=.pv (Z i)/\st.h 5=none) (by simp[de]) ?_;rintro i st hi ⟨g1,g,g2,m,g3,c,s,e,f,y⟩;by_cases n:i<l.length
 .have L:=aj n (by omega)
  have d:i<ws.length:=by omega
  generalize B:l[i]=p at *
  have D:l[i]?=some p:=by rw[an n,B]
  generalize q:ws[i]=k at *
  have v:ws[i]?=some k:=by rw[an d,q]
  have N:=jO A u i (by omega);have O:=jO A u (i+1) (by omega);have I:=u.pos k (Is v)
  have J:k<=65536:=by
   have a1:=mN v;have a2:=rc u.pos i;have a3:=ic u.pos (show i+1<=ws.length by omega);have a4:=u.tot;omega
  have hp:=eD (TP.1 A p (Is D))
  have hS:de l ws (i+1)=((de l ws i).1+k*p.1,(de l ws i).2.1+k*p.2.1,(de l ws i).2.2+k*p.2.2):=by simp only[de,D,v]
  have m1:=bF (a:=k) (b:=p.1) 65536 268435456 (by omega) (by omega) hp.1.1 hp.1.2;have m2:=bF (a:=k) (b:=p.2.1) 65536 268435456 (by omega) (by omega) hp.2.1.1 hp.2.1.2;have M:=bF (a:=k) (b:=p.2.2) 65536 268435456 (by omega) (by omega) hp.2.2.1 hp.2.2.2;generalize de l ws i=S at *;generalize de l ws (i+1)=T at *;subst hS;obtain⟨E,F,G⟩:=O;simp only at E F G;have P:i64.wrap (k*p.1)=k*p.1:=aa;have Q:i64.wrap (k*p.2.1)=k*p.2.1:=aa;have R:i64.wrap (k*p.2.2)=k*p.2.2:=aa;have v1:i64.wrap (S.1+k*p.1)=S.1+k*p.1:=aa;have v2:i64.wrap (S.2.1+k*p.2.1)=S.2.1+k*p.2.1:=aa;have v3:i64.wrap (S.2.2+k*p.2.2)=S.2.2+k*p.2.2:=aa;clear N E F G m1 m2 M hp;have x:[AV.pv (Z S.1),AV.pv (Z S.2.1),AV.pv (Z S.2.2)]=kU S p k 0:=rfl;rw[x]at c;refine Gz ?_;refine WP.loopN [] 3 (λj st=>st.t 1=.ptr 1 0/\st.h 1=some (.box [.pv (aG l),.pv (zs ws)] true false)/\st.t 2=.ptr 2 0/\st.h 2=some (.box [.pv (Z 0),.pv (Z 0),.pv (Z 0)] true false)/\st.t 3=.ptr 3 0/\st.h 3=some (.box (kU S p k j) true false)/\st.t 4=.pv (Z i)/\st.t 9=.pv (aG l)/\st.t 10=.pv (Z l.length)/\st.t 11=.pv (Z i)/\st.t 16=.pv (am p)/\st.t 17=.pv (Z j)) (by simp[g1,g,g2,m,g3,s,e,f,c,kU]) ?_;clear g1 g g2 m g3 s e f c y;rintro j st H ⟨g1,g,g2,m,g3,c,g4,s,e,f,r,o⟩;rcases eu H with rfl|rfl|rfl|rfl
  all_goals (simp[kU]at c o)
  .skip
   with_reducible repeat' (first|refine Sp.h ?_|((first|refine Wd ?_|refine Ss.h ?_|(refine Sb.h ?_ ?_ ?_<;>(try intro hgd)<;>try exact Xy))<;>simp -implicitDefEqProofs (maxSteps:=2000000) [hP,hN,g1,g,g2,m,g3,c,g4,s,e,f,r,o,n,d,v,q,P,v1,kU]<;>try refine Ya ?_)|refine X2 ?_ ?_|(refine Xd ?_ ?_<;>intro hcd<;>try exact Xx))
  .skip
   with_reducible repeat' (first|refine Sp.h ?_|((first|refine Wd ?_|refine Ss.h ?_|(refine Sb.h ?_ ?_ ?_<;>(try intro hgd)<;>try exact Xy))<;>simp -implicitDefEqProofs (maxSteps:=2000000) [hP,hN,g1,g,g2,m,g3,c,g4,s,e,f,r,o,n,d,v,q,Q,v2,kU]<;>try refine Ya ?_)|refine X2 ?_ ?_|(refine Xd ?_ ?_<;>intro hcd<;>try exact Xx))
  .skip
   with_reducible repeat' (first|refine Sp.h ?_|((first|refine Wd ?_|refine Ss.h ?_|(refine Sb.h ?_ ?_ ?_<;>(try intro hgd)<;>try exact Xy))<;>simp -implicitDefEqProofs (maxSteps:=2000000) [hP,hN,g1,g,g2,m,g3,c,g4,s,e,f,r,o,n,d,v,q,R,v3,kU]<;>try refine Ya ?_)|refine X2 ?_ ?_|(refine Xd ?_ ?_<;>intro hcd<;>try exact Xx))
  .skip
   exact Gy
 .have z:i=l.length:=by omega
  subst z;exact Gy
def dB(bet:Int->Int->Bool)(n p0:Vc)(l:List Vc):Nat->Int×Nat
 |0=>(bA n p0,0)
 |i+1=>match l[i]? with
  |some v=>if bet (bA n v) (dB bet n p0 l i).1=true then(bA n v,i)else dB bet n p0 l i
  |none=>dB bet n p0 l i
theorem nO{n p0:Vc}(h:l[i]?=some v):dB bet n p0 l (i+1)=if bet (bA n v) (dB bet n p0 l i).1=true then(bA n v,i)else dB bet n p0 l i:=by simp only[dB,h]
theorem tZ{bet:Int->Int->Bool}{n p0:Vc}{l:List Vc}(a:0<l.length):∀i,(dB bet n p0 l i).2<l.length
 |0=>a
 |i+1=>by
  have:=tZ (bet:=bet) (n:=n) (p0:=p0) a i;simp only[dB];split
  .rename_i v b
   obtain⟨h,_⟩:=th.1 b;split
   .exact h
   .exact this
  .exact this
def dc(bet:Int->Int->Bool)(n:Vc)(l:List Vc):Int×Nat:=dB bet n ((l[0]?).getD (0,0,0)) l l.length
theorem P7(n:Vc)(l:List Vc)(ws:List Int)(hn:av 16384 n=true)(h1:1<=l.length)(h8:l.length<=8)(p:l.all (av 268435456)=true):aK 287 (FP l ws) (am n) (.tup [Z (dc eN n l).1,Z (dc eN n l).2]):=by
 have e:ff ((16384:Nat):Int) n:=by
  rw[bV,aY,aY,aY]at hn;exact⟨⟨by omega,by omega⟩,⟨by omega,by omega⟩,⟨by omega,by omega⟩⟩
 have c:0<l.length:=by omega
 generalize g:l[0]=p0 at *
 have f:l[0]?=some p0:=by rw[an c,g]
 have r:=Ao n p0 16384 268435456 e (eD (TP.1 p p0 (Is f))) (by decide)
 have z:dc eN n l=dB eN n p0 l l.length:=by simp only[dc,f,Uj]
 rw[z];have o:dB eN n p0 l 0=(bA n p0,0):=rfl;generalize D:bA n p0=F at *;refine Dp func287 λC hP hN=>?_;refine Gz ?_;refine WP.loopN [9] l.length (λi st=>st.t 3=.ptr 3 0/\st.h 3=some (.box [.pv (Z n.1),.pv (Z n.2.1),.pv (Z n.2.2)] true false)/\st.t 20=.pv (aG l)/\st.t 21=.pv (Z l.length)/\st.t 22=.pv (Z i)/\st.h 9=none/\st.t 6=.pv (Z (dB eN n p0 l i).1)/\st.t 7=.pv (Z (dB eN n p0 l i).2)) (by simp[o]) ?_;rintro i st hi ⟨g3,A,u,x,y,B,G,H⟩;by_cases b:i<l.length
 .have I:=aj b (by omega)
  generalize m:l[i]=v at *
  have q:l[i]?=some v:=by rw[an b,m]
  have E:=Ao n v 16384 268435456 e (eD (TP.1 p v (Is q))) (by decide);have j:=nO (bet:=eN) (n:=n) (p0:=p0) q;generalize dB eN n p0 l i=s at *;generalize dB eN n p0 l (i+1)=J at *;generalize bA n v=d at *;by_cases a:eN d s.1=true
  .rw[T8 a]at j
   subst j;simp only[eN,L4]at a;exact Gy
  .rw[TQ a]at j
   subst j;simp only[eN,L4]at a;exact Gy
 .have k:i=l.length:=by omega
  subst k;exact Gy
  all_goals exact⟨rfl,rfl⟩
theorem P8(n:Vc)(l:List Vc)(ws:List Int)(hn:av 16384 n=true)(h1:1<=l.length)(h8:l.length<=8)(p:l.all (av 268435456)=true):aK 288 (FP l ws) (am n) (.tup [Z (dc eO n l).1,Z (dc eO n l).2]):=by
 have e:ff ((16384:Nat):Int) n:=by
  rw[bV,aY,aY,aY]at hn;exact⟨⟨by omega,by omega⟩,⟨by omega,by omega⟩,⟨by omega,by omega⟩⟩
 have c:0<l.length:=by omega
 generalize g:l[0]=p0 at *
 have f:l[0]?=some p0:=by rw[an c,g]
 have r:=Ao n p0 16384 268435456 e (eD (TP.1 p p0 (Is f))) (by decide)
 have z:dc eO n l=dB eO n p0 l l.length:=by simp only[dc,f,Uj]
 rw[z];have o:dB eO n p0 l 0=(bA n p0,0):=rfl;generalize D:bA n p0=F at *;refine Dp func288 λC hP hN=>?_;refine Gz ?_;refine WP.loopN [9] l.length (λi st=>st.t 3=.ptr 3 0/\st.h 3=some (.box [.pv (Z n.1),.pv (Z n.2.1),.pv (Z n.2.2)] true false)/\st.t 20=.pv (aG l)/\st.t 21=.pv (Z l.length)/\st.t 22=.pv (Z i)/\st.h 9=none/\st.t 6=.pv (Z (dB eO n p0 l i).1)/\st.t 7=.pv (Z (dB eO n p0 l i).2)) (by simp[o]) ?_;rintro i st hi ⟨g3,A,u,x,y,B,G,H⟩;by_cases b:i<l.length
 .have I:=aj b (by omega)
  generalize m:l[i]=v at *
  have q:l[i]?=some v:=by rw[an b,m]
  have E:=Ao n v 16384 268435456 e (eD (TP.1 p v (Is q))) (by decide);have j:=nO (bet:=eO) (n:=n) (p0:=p0) q;generalize dB eO n p0 l i=s at *;generalize dB eO n p0 l (i+1)=J at *;generalize bA n v=d at *;by_cases a:eO d s.1=true
  .rw[T8 a]at j
   subst j;simp only[eO,L4]at a;exact Gy
  .rw[TQ a]at j
   subst j;simp only[eO,L4]at a;exact Gy
 .have k:i=l.length:=by omega
  subst k;exact Gy
  all_goals exact⟨rfl,rfl⟩
def FO(x y z:AV)(fb:Option cK):Option cK:=match x,y,z with
 |.pv (.val (.int .i64 a)),.pv (.val (.int .i64 b)),.pv (.val (.int .i64 c))=>some (.pv (Z (max a (max b c))),[])
 |_,_,_=>fb
@[simp] theorem N6(a b c:Int)(fb:Option cK):FO (.pv (.val (.int .i64 a))) (.pv (.val (.int .i64 b))) (.pv (.val (.int .i64 c))) fb=some (.pv (Z (max a (max b c))),[]):=rfl
@[simp] theorem S7{ty:TypeId}{i:Array TypeId}{pos:String}(x y z:Operand):
 bz prog ⟨dst,.call ⟨.builtin .max,#[x,y,z],i⟩,ty,pos,aft,g⟩ ρ=FO (ρ x) (ρ y) (ρ z) (jq prog ⟨dst,.call ⟨.builtin .max,#[x,y,z],i⟩,ty,pos,aft,g⟩ ρ):=by
 unfold FO;split
 .rename_i a b c d e f
  refine d7 (by simp[Op.operands,Call.operands,d,e,f,eZ]) ?_;unfold execOp;simp[resolve,invoke,builtin,Builtin.max_,d,e,f,pX,eZ,Builtin.max2,ah,dP]
  try omega
 .rfl
def ma(x y:Int):Int:=max (max (max (max 0 x) (-x)) y) (-y)
theorem IP(x y:Int)(q:-4611686018427387904<=x/\x<=4611686018427387904)(r:-4611686018427387904<=y/\y<=4611686018427387904):aR 295 (.sl [Z x,Z y]) (Z (ma x y)):=by
 have g:i64.wrap (-x)=-x:=aa;have j:i64.wrap (-y)=-y:=aa;have k:i64.wrap (0-x)=-x:=(aa (n:=0-x) (by omega) (by omega)).trans (by omega);have l:i64.wrap (0-y)=-y:=(aa (n:=0-y) (by omega) (by omega)).trans (by omega)
 have p:∀a b c:Int,max a (max b c)=max (max a b) c:=λ_ _ _=>by omega
 have m:ma x y=max 0 (max x (max (-x) (max y (-y)))):=by unfold ma;omega
 rw[m];refine Dp func295 λC hP hN=>?_;refine GT trivial ?_;refine WP.loopN [] 2 (λi st=>st.t 6=.pv (.sl [Z x,Z y])/\st.t 7=.pv (Z 2)/\st.t 8=.pv (Z i)/\st.t 3=.pv (Z (if i=0 then 0 else if i=1 then max 0 (max x (-x))else max 0 (max x (max (-x) (max y (-y))))))) (by simp) ?_;rintro i st hi ⟨e,f,d,g3⟩
 have o:i=0\/i=1\/i=2:=by omega
 rcases o with rfl|rfl|rfl
 all_goals (simp at g3 d)
 .skip
  with_reducible repeat' (first|refine Sp.h ?_|((first|refine Ss.h ?_|(refine Sb.h ?_ ?_ ?_<;>(try intro hgd)<;>try exact Xy))<;>simp -implicitDefEqProofs (maxSteps:=2000000) [hP,hN,e,f,d,g3,g,j,k,l])|refine X2 ?_ ?_|(refine Xd ?_ ?_<;>intro hcd<;>try exact Xx))
  all_goals (try (first|omega|(simp;omega)))
 .skip
  with_reducible repeat' (first|refine Sp.h ?_|((first|refine Ss.h ?_|(refine Sb.h ?_ ?_ ?_<;>(try intro hgd)<;>try exact Xy))<;>simp -implicitDefEqProofs (maxSteps:=2000000) [hP,hN,e,f,d,g3,g,j,k,l])|refine X2 ?_ ?_|(refine Xd ?_ ?_<;>intro hcd<;>try exact Xx))
  all_goals (try (first|omega|(simp;omega)))
 .skip
  with_reducible repeat' (first|refine Sp.h ?_|((first|refine Ss.h ?_|(refine Sb.h ?_ ?_ ?_<;>(try intro hgd)<;>try exact Xy))<;>simp -implicitDefEqProofs (maxSteps:=2000000) [hP,hN,e,f,d,g3])|refine X2 ?_ ?_|(refine Xd ?_ ?_<;>intro hcd<;>try exact Xx))
set_option maxRecDepth 100000 in
@[simp] theorem P3:ew prog 292:=by
 have hf:=func292;have nt:=ntmps292;have rs:=results292;exact xg
set_option maxRecDepth 100000 in
@[simp] theorem P4:ew prog 226:=by
 have hf:=func226;have nt:=ntmps226;have rs:=results226;exact GQ
def dp(u v:Iv)(tot:Int):Int:=(ma (u.1-v.2) (u.2-v.1)+tot-1)/tot
def jd(m:List Int)(reach:Int):Nat->Int
 |0=>reach*reach
 |k+1=>jd m reach k-(m[k]?).getD 0*(m[k]?).getD 0
def eL(U V:aq)(tot:Int):List Int:=[dp U.1 V.1 tot,dp U.2.1 V.2.1 tot,dp U.2.2 V.2.2 tot]
def ou(m:List Int)(reach:Int):Int:=if m.all (λx=>decide (x<=reach))then jd m reach 3 else -1
def nN(left right:List Int)(a:List aq)(c:Int)(b:List aq)(d:Int):Bool:=
 dX a left&&dX b right&&decide (aX left left.length=aX right right.length)&&bf c 0 1048576&&bf d 0 1048576
def lq(left right:List Int)(a:List aq)(c:Int)(b:List aq)(d:Int):Int:=
 if nN left right a c b d then ou (eL (dC a left left.length) (dC b right right.length) (aX left left.length)) (c+d)else 0
theorem tW{a:List aq}(h:dX a w=true):rx 8 (dC a w w.length):=by
 simp only[dX,ao,An,L4,TP]at h;obtain⟨⟨⟨⟨⟨g,i⟩,b⟩,j⟩,h5⟩,h6⟩:=h;obtain⟨⟨⟨a1,a2⟩,a3,a4⟩,⟨⟨b1,b2⟩,b3,b4⟩,⟨c,d⟩,e,f⟩:=yw b h5 w.length;refine⟨⟨⟨?_,?_⟩,?_,?_⟩,⟨⟨?_,?_⟩,?_,?_⟩,⟨?_,?_⟩,?_,?_⟩<;>omega
theorem CP{a:List aq}(h:dX a w=true):1<=aX w w.length/\aX w w.length<=65536:=by
 simp only[dX,An,UG,Vg,Ue]at h;omega
theorem tY{y:Int}(a:-m<=x/\x<=m)(b:-m<=y/\y<=m):0<=ma x y/\ma x y<=m:=by
 unfold ma;omega
theorem wF{h:Int}(a:0<=h)(h1:h<=4503599627370496)(c:1<=t)(d:t<=65536):0<=(h+t-1)/t/\(h+t-1)/t<=4503599627370496:=by
 refine⟨Wa (by omega) (by omega),?_⟩
 have:(h+t-1)/t<4503599627370496+1:=Int.ediv_lt_of_lt_mul (by omega) (by
  have b:(4503599627370496+1)*1<=(4503599627370496+1)*t:=by omega
  omega)
 omega
theorem mo(a:0<=x)(h1:x<=m):0<=x*x/\x*x<=m*m:=⟨U1 a a,WH h1 h1 a (by omega)⟩
set_option maxRecDepth 4000 in
theorem P5(left right:List Int)(a:List aq)(I:Int)(b:List aq)(J:Int)(h1:left.length<=9223372036854775807)(h2:right.length<=9223372036854775807)(h3:a.length<=9223372036854775807)(h4:b.length<=9223372036854775807):HN 227 (zs left) (zs right) (aB a) (Z I) (aB b) (Z J) (.tup [Z (lq left right a I b J),B (nN left right a I b J)]):=by
 have ca:=MR a left h3 h1;have cb:=MR b right h4 h2;have M:=MI I;have ar:=MI J;have z6:bE bm=V6 0 0 0 0 0 0:=rfl;have e:nN left right a I b J=(dX a left&&dX b right&&decide (aX left left.length=aX right right.length)&&bf I 0 1048576&&bf J 0 1048576):=rfl
 have i:lq left right a I b J=if nN left right a I b J then ou (eL (dC a left left.length) (dC b right right.length) (aX left left.length)) (I+J)else 0:=rfl
 cases Y:dX a left with
 |false=>
  rw[Y]at e;simp only[UE]at e;rw[e]at i;simp only[T5,Uf]at i;rw[e,i];simp only[fJ,Y,T5,Uf,z6]at ca;cases hB:dX b right
  all_goals (simp only[fJ,hB,T5,Uf,Ul,z6]at cb)
  .skip
   refine Dp func227 λC hP hN=>?_;exact Gy
  .skip
   generalize dC b right right.length=V at *;generalize aX right right.length=T2 at *;refine Dp func227 λC hP hN=>?_;exact Gy
 |true=>
 simp only[fJ,Y,Ul]at ca;generalize hU:dC a left left.length=U at *;generalize hT:aX left left.length=T at *
 cases hB:dX b right with
 |false=>
  rw[Y,hB]at e;simp only[UE,Vo]at e;rw[e]at i;simp only[T5,Uf]at i;rw[e,i];simp only[fJ,hB,T5,Uf,z6]at cb;refine Dp func227 λC hP hN=>?_;exact Gy
 |true=>
 simp only[fJ,hB,Ul]at cb;rw[Y,hB]at e;simp only[Uq]at e;generalize hV:dC b right right.length=V at *;generalize a7:aX right right.length=T2 at *;by_cases q:T=T2
 case neg=>
  have e1:(T !=T2)=true:=by simp[q]
  simp only[q,decide_false,UE]at e;rw[e]at i;simp only[T5,Uf]at i;rw[e,i];refine Dp func227 λC hP hN=>?_;exact Gy
 have e0:(T !=T2)=false:=by simp[q]
 simp only[q,VQ,Uq]at e
 cases L:bf I 0 1048576 with
 |false=>
  rw[L]at M e;simp only[UE]at e;rw[e]at i;simp only[T5,Uf]at i;rw[e,i];refine Dp func227 λC hP hN=>?_;exact Gy
 |true=>
 cases ad:bf J 0 1048576 with
 |false=>
  rw[L]at M e;rw[ad]at ar e;simp only[Vo]at e;rw[e]at i;simp only[T5,Uf]at i;rw[e,i];refine Dp func227 λC hP hN=>?_;exact Gy
 |true=>
 rw[L]at M e;rw[ad]at ar e;simp only[Vl]at e;rw[e]at i;simp only[Ul]at i;rw[e]
 have a8:rx 8 U:=by rw[<-hU];exact tW Y
 have a9:rx 8 V:=by rw[<-hV];exact tW hB
 have o:=CP Y;rw[hT]at o;subst q;clear hT a7;simp only[bf,An,L4]at L ad;generalize bc:I+J=c at *;have bH:i64.wrap c=c:=aa;have bq:=mo (x:=c) (m:=2097152) (by omega) (by omega);have bs:i64.wrap (c*c)=c*c:=aa;rw[i];refine Dp func227 λC hP hN=>?_;refine Gz ?_;refine WP.loopN [] 3 (λk st=>st.t 14=.ptr 14 0/\st.h 14=some (.box (b6 U) true false)/\st.t 17=.ptr 17 0/\st.h 17=some (.box (b6 V) true false)/\st.t 18=.pv (Z T)/\st.t 15=.pv (Z T)/\st.t 20=.pv (Z c)/\st.t 12=.ptr 12 0/\st.h 12=some (.box [.pv (Z (jd (eL U V T) c k))] true false)/\st.t 13=.ptr 13 0/\st.h 13=some (.box [.pv (B false)] true false)/\st.t 66=.pv (Z k)/\(-(k*4398046511104:Int)<=jd (eL U V T) c k/\jd (eL U V T) c k<=4398046511104)/\∀j<k,∀x,(eL U V T)[j]?=some x->0<=x/\x<=c) ?_ ?_
 .simp[jd]
  omega
 rintro k st hk ⟨P,u,R,v,S,Q,W,N,r,O,s,X,bb,hpr⟩;obtain⟨⟨⟨a1,a2⟩,a3,a4⟩,⟨⟨b1,b2⟩,b3,b4⟩,⟨c1,c2⟩,c3,c4⟩:=a8;obtain⟨⟨⟨d1,d2⟩,d3,d4⟩,⟨⟨e1,e2⟩,e3,e4⟩,⟨f1,f2⟩,f3,f4⟩:=a9;rcases eu hk with rfl|rfl|rfl|rfl
 .have D:-281474976710656<=U.1.1-V.1.2/\U.1.1-V.1.2<=281474976710656:=by omega
  have z:-281474976710656<=U.1.2-V.1.1/\U.1.2-V.1.1<=281474976710656:=by omega
  have cf:=IP (U.1.1-V.1.2) (U.1.2-V.1.1) (by omega) (by omega);have y:=tY D z;have a5:=wF y.1 (by omega) o.1 o.2;have hgd:dp U.1 V.1 T=(ma (U.1.1-V.1.2) (U.1.2-V.1.1)+T-1)/T:=rfl;have w1:i64.wrap (U.1.1-V.1.2)=U.1.1-V.1.2:=aa;have w2:i64.wrap (U.1.2-V.1.1)=U.1.2-V.1.1:=aa;generalize ma (U.1.1-V.1.2) (U.1.2-V.1.1)=f at *;have w3:i64.wrap (f+T)=f+T:=aa;have w4:i64.wrap (f+T-1)=f+T-1:=aa;have w5:(f+T-1).tdiv T=(f+T-1)/T:=Un (by omega);have w6:i64.wrap ((f+T-1)/T)=(f+T-1)/T:=aa
  have w7:¬T=0:=by omega
  have w8:(T==0)=false:=by simp;omega
  by_cases F:c<dp U.1 V.1 T
  .have H:ou (eL U V T) c=-1:=by
    have G:¬dp U.1 V.1 T<=c:=by omega
    unfold ou eL;simp[G]
   rw[H];rw[hgd]at F;exact Gy
  .have n:=mo (x:=dp U.1 V.1 T) (m:=c) (by omega) (by omega)
   have p:jd (eL U V T) c (0+1)=jd (eL U V T) c 0-dp U.1 V.1 T*dp U.1 V.1 T:=by simp[jd,eL]
   have d:∀j<0+1,∀x,(eL U V T)[j]?=some x->0<=x/\x<=c:=λj hj x l=>by
    by_cases A:j<0
    .exact hpr j A x l
    .have:j=0:=by omega
     subst this
     have:x=dp U.1 V.1 T:=by simpa[eL]using l.symm
     omega
   generalize jd (eL U V T) c (0+1)=E' at *;generalize jd (eL U V T) c 0=E at *;subst p;rw[hgd]at F n;have w9:i64.wrap ((f+T-1)/T*((f+T-1)/T))=(f+T-1)/T*((f+T-1)/T):=aa;have K:i64.wrap (E-(f+T-1)/T*((f+T-1)/T))=E-dp U.1 V.1 T*dp U.1 V.1 T:=(aa (by omega) (by omega)).trans (by rw[hgd]);rw[<-hgd]at n
   have g:-(0+1:Nat)*4398046511104<=E-dp U.1 V.1 T*dp U.1 V.1 T/\E-dp U.1 V.1 T*dp U.1 V.1 T<=4398046511104:=by omega
   refine GT (zAa P u R v S Q W N r O s X w1 w2 (s5 w3 w4 w5 w6 w7 w8 w9 (gA K F))) ?_
   all_goals first|exact⟨g,d⟩|exact⟨g.1,g.2,d⟩|exact⟨by omega,λx l=>d 0 (by omega) x l⟩
 .have D:-281474976710656<=U.2.1.1-V.2.1.2/\U.2.1.1-V.2.1.2<=281474976710656:=by omega
  have z:-281474976710656<=U.2.1.2-V.2.1.1/\U.2.1.2-V.2.1.1<=281474976710656:=by omega
  have cf:=IP (U.2.1.1-V.2.1.2) (U.2.1.2-V.2.1.1) (by omega) (by omega);have y:=tY D z;have a5:=wF y.1 (by omega) o.1 o.2;have hgd:dp U.2.1 V.2.1 T=(ma (U.2.1.1-V.2.1.2) (U.2.1.2-V.2.1.1)+T-1)/T:=rfl;have w1:i64.wrap (U.2.1.1-V.2.1.2)=U.2.1.1-V.2.1.2:=aa;have w2:i64.wrap (U.2.1.2-V.2.1.1)=U.2.1.2-V.2.1.1:=aa;generalize ma (U.2.1.1-V.2.1.2) (U.2.1.2-V.2.1.1)=f at *;have w3:i64.wrap (f+T)=f+T:=aa;have w4:i64.wrap (f+T-1)=f+T-1:=aa;have w5:(f+T-1).tdiv T=(f+T-1)/T:=Un (by omega);have w6:i64.wrap ((f+T-1)/T)=(f+T-1)/T:=aa
  have w7:¬T=0:=by omega
  have w8:(T==0)=false:=by simp;omega
  by_cases F:c<dp U.2.1 V.2.1 T
  .have H:ou (eL U V T) c=-1:=by
    have G:¬dp U.2.1 V.2.1 T<=c:=by omega
    unfold ou eL;simp[G]
   rw[H];rw[hgd]at F;exact Gy
  .have n:=mo (x:=dp U.2.1 V.2.1 T) (m:=c) (by omega) (by omega)
   have p:jd (eL U V T) c (1+1)=jd (eL U V T) c 1-dp U.2.1 V.2.1 T*dp U.2.1 V.2.1 T:=by simp[jd,eL]
   have d:∀j<1+1,∀x,(eL U V T)[j]?=some x->0<=x/\x<=c:=λj hj x l=>by
    by_cases A:j<1
    .exact hpr j A x l
    .have:j=1:=by omega
     subst this
     have:x=dp U.2.1 V.2.1 T:=by simpa[eL]using l.symm
     omega
   generalize jd (eL U V T) c (1+1)=E' at *;generalize jd (eL U V T) c 1=E at *;subst p;rw[hgd]at F n;have w9:i64.wrap ((f+T-1)/T*((f+T-1)/T))=(f+T-1)/T*((f+T-1)/T):=aa;have K:i64.wrap (E-(f+T-1)/T*((f+T-1)/T))=E-dp U.2.1 V.2.1 T*dp U.2.1 V.2.1 T:=(aa (by omega) (by omega)).trans (by rw[hgd]);rw[<-hgd]at n
   have g:-(1+1:Nat)*4398046511104<=E-dp U.2.1 V.2.1 T*dp U.2.1 V.2.1 T/\E-dp U.2.1 V.2.1 T*dp U.2.1 V.2.1 T<=4398046511104:=by omega
   refine GT (zAa P u R v S Q W N r O s X w1 w2 (s5 w3 w4 w5 w6 w7 w8 w9 (gA K F))) ?_
   all_goals first|exact⟨g,d⟩|exact⟨g.1,g.2,d⟩|exact⟨by omega,λx l=>d 0 (by omega) x l⟩
 .have D:-281474976710656<=U.2.2.1-V.2.2.2/\U.2.2.1-V.2.2.2<=281474976710656:=by omega
  have z:-281474976710656<=U.2.2.2-V.2.2.1/\U.2.2.2-V.2.2.1<=281474976710656:=by omega
  have cf:=IP (U.2.2.1-V.2.2.2) (U.2.2.2-V.2.2.1) (by omega) (by omega);have y:=tY D z;have a5:=wF y.1 (by omega) o.1 o.2;have hgd:dp U.2.2 V.2.2 T=(ma (U.2.2.1-V.2.2.2) (U.2.2.2-V.2.2.1)+T-1)/T:=rfl;have w1:i64.wrap (U.2.2.1-V.2.2.2)=U.2.2.1-V.2.2.2:=aa;have w2:i64.wrap (U.2.2.2-V.2.2.1)=U.2.2.2-V.2.2.1:=aa;generalize ma (U.2.2.1-V.2.2.2) (U.2.2.2-V.2.2.1)=f at *;have w3:i64.wrap (f+T)=f+T:=aa;have w4:i64.wrap (f+T-1)=f+T-1:=aa;have w5:(f+T-1).tdiv T=(f+T-1)/T:=Un (by omega);have w6:i64.wrap ((f+T-1)/T)=(f+T-1)/T:=aa
  have w7:¬T=0:=by omega
  have w8:(T==0)=false:=by simp;omega
  by_cases F:c<dp U.2.2 V.2.2 T
  .have H:ou (eL U V T) c=-1:=by
    have G:¬dp U.2.2 V.2.2 T<=c:=by omega
    unfold ou eL;simp[G]
   rw[H];rw[hgd]at F;exact Gy
  .have n:=mo (x:=dp U.2.2 V.2.2 T) (m:=c) (by omega) (by omega)
   have p:jd (eL U V T) c (2+1)=jd (eL U V T) c 2-dp U.2.2 V.2.2 T*dp U.2.2 V.2.2 T:=by simp[jd,eL]
   have d:∀j<2+1,∀x,(eL U V T)[j]?=some x->0<=x/\x<=c:=λj hj x l=>by
    by_cases A:j<2
    .exact hpr j A x l
    .have:j=2:=by omega
     subst this
     have:x=dp U.2.2 V.2.2 T:=by simpa[eL]using l.symm
     omega
   generalize jd (eL U V T) c (2+1)=E' at *;generalize jd (eL U V T) c 2=E at *;subst p;rw[hgd]at F n;have w9:i64.wrap ((f+T-1)/T*((f+T-1)/T))=(f+T-1)/T*((f+T-1)/T):=aa;have K:i64.wrap (E-(f+T-1)/T*((f+T-1)/T))=E-dp U.2.2 V.2.2 T*dp U.2.2 V.2.2 T:=(aa (by omega) (by omega)).trans (by rw[hgd]);rw[<-hgd]at n
   have g:-(2+1:Nat)*4398046511104<=E-dp U.2.2 V.2.2 T*dp U.2.2 V.2.2 T/\E-dp U.2.2 V.2.2 T*dp U.2.2 V.2.2 T<=4398046511104:=by omega
   refine GT (zAa P u R v S Q W N r O s X w1 w2 (s5 w3 w4 w5 w6 w7 w8 w9 (gA K F))) ?_
   all_goals first|exact⟨g,d⟩|exact⟨g.1,g.2,d⟩|exact⟨by omega,λx l=>d 0 (by omega) x l⟩
 .have a6:ou (eL U V T) c=jd (eL U V T) c 3:=by
   have:(eL U V T).all (λx=>decide (x<=c))=true:=by
    rw[TP];intro x l;obtain⟨j,hj,l⟩:=Vn.1 l
    have ba:j<3:=by simpa[eL]using hj
    have:=hpr j ba x (by rw[an hj,l]);simp;omega
   unfold ou;rw[this];rfl
  rw[a6];exact Gy
theorem P6(left right:List Int)(a:List aq)(c:Int)(b:List aq)(d:Int)(h1:left.length<=9223372036854775807)(f:right.length<=9223372036854775807)(g:a.length<=9223372036854775807)(i:b.length<=9223372036854775807):HN 159 (zs left) (zs right) (aB a) (Z c) (aB b) (Z d) (B (nN left right a c b d&&decide (0<=lq left right a c b d))):=by
 have j:=P5 left right a c b d h1 f g i;generalize nN left right a c b d=k at *;generalize lq left right a c b d=e at *;cases k
 all_goals (by_cases h:0<=e)
 all_goals
  refine Dp func159 λC hP hN=>?_;exact Gy
def mq(x:Int):Int:=dG (max x (-x)) 65536*dG (max x (-x)) 65536
def ov(v:Vc)(rho:Int):Bool:=decide (mq v.1+mq v.2.1+mq v.2.2<=rho*rho)
theorem qG(h:-35184372088832<=x/\x<=35184372088832):(0<=dG (max x (-x)) 65536/\dG (max x (-x)) 65536<=536870912)/\0<=mq x/\mq x<=288230376151711744:=by
 have a:0<=dG (max x (-x)) 65536/\dG (max x (-x)) 65536<=536870912:=by unfold dG;omega
 have b:=mo a.1 a.2;exact⟨a,b.1,by unfold mq;omega⟩
theorem P9(v:Vc)(rho:Int)(p:ff 35184372088832 v)(g:0<=rho/\rho<=2097152):aK 285 (am v) (Z rho) (B (ov v rho)):=by
 obtain⟨v1,v2,v3⟩:=p;have z:=CO (max v.1 (-v.1)) (by omega) (by omega);have A:=CO (max v.2.1 (-v.2.1)) (by omega) (by omega);have D:=CO (max v.2.2 (-v.2.2)) (by omega) (by omega);have u:=qG v1;have x:=qG v2;have y:=qG v3;have I:=mo g.1 g.2;have F:i64.wrap (0-v.1)=-v.1:=(aa (n:=0-v.1) (by omega) (by omega)).trans (by omega);have G:i64.wrap (0-v.2.1)=-v.2.1:=(aa (n:=0-v.2.1) (by omega) (by omega)).trans (by omega);have H:i64.wrap (0-v.2.2)=-v.2.2:=(aa (n:=0-v.2.2) (by omega) (by omega)).trans (by omega);have q:i64.wrap (-v.1)=-v.1:=(aa (n:=-v.1) (by omega) (by omega));have r:i64.wrap (-v.2.1)=-v.2.1:=(aa (n:=-v.2.1) (by omega) (by omega));have s:i64.wrap (-v.2.2)=-v.2.2:=(aa (n:=-v.2.2) (by omega) (by omega));have hd:ov v rho=decide (mq v.1+mq v.2.1+mq v.2.2<=rho*rho):=rfl;rw[hd];have c:mq v.1=dG (max v.1 (-v.1)) 65536*dG (max v.1 (-v.1)) 65536:=rfl;have d:mq v.2.1=dG (max v.2.1 (-v.2.1)) 65536*dG (max v.2.1 (-v.2.1)) 65536:=rfl;have d3:mq v.2.2=dG (max v.2.2 (-v.2.2)) 65536*dG (max v.2.2 (-v.2.2)) 65536:=rfl;generalize mq v.1=a at *;generalize mq v.2.1=b at *;generalize mq v.2.2=e at *;generalize dG (max v.1 (-v.1)) 65536=j at *;generalize dG (max v.2.1 (-v.2.1)) 65536=l at *;generalize dG (max v.2.2 (-v.2.2)) 65536=t3 at *;generalize o:rho*rho=i at *;have J:i64.wrap (j*j)=a:=(aa (by rw[<-c];omega) (by rw[<-c];omega)).trans c.symm;have K:i64.wrap (l*l)=b:=(aa (by rw[<-d];omega) (by rw[<-d];omega)).trans d.symm;have L:i64.wrap (t3*t3)=e:=(aa (by rw[<-d3];omega) (by rw[<-d3];omega)).trans d3.symm;have M:i64.wrap i=i:=aa;have N:i64.wrap a=a:=aa;have O:i64.wrap (a+b)=a+b:=aa;have P:i64.wrap (a+b+e)=a+b+e:=aa;clear c d d3 u x y;refine Dp func285 λC hP hN=>?_;refine Gz ?_;refine WP.loopN [] 3 (λk st=>st.t 9=.pv (am v)/\st.t 10=.pv (Z k)/\st.t 1=.pv (Z rho)/\st.t 5=.pv (Z (if k=0 then 0 else if k=1 then a else if k=2 then a+b else a+b+e))) (by simp) ?_;rintro k st m ⟨E,f,g1,g5⟩;rcases eu m with rfl|rfl|rfl|rfl
 all_goals (simp at g5 f)
 all_goals
  exact Gy
def lu(x s:Vc):Int:=if bA x (aT x s)<=0 then 0 else min 256 (bA x (aT x s)/max 1 (bA (aT x s) (aT x s)/256))
theorem rd{w:Vc}(c:ff a v)(d:ff b w):ff (a+b) (aT v w):=by
 obtain⟨v1,v2,v3⟩:=c;obtain⟨e,f,g⟩:=d;refine⟨?_,?_,?_⟩<;>(simp only[aT];omega)
theorem lM(x s:Vc):0<=lu x s/\lu x s<=256:=by
 unfold lu;split
 .omega
 .rename_i h
  have a:0<=bA x (aT x s)/max 1 (bA (aT x s) (aT x s)/256):=Wa (by omega) (by omega);omega
theorem jD(h:ff a v)(c:a<=b):ff b v:=by
 obtain⟨v1,v2,v3⟩:=h;exact⟨by omega,by omega,by omega⟩
theorem zw(v:Vc):0<=bA v v:=by
 have h:∀x:Int,0<=x*x:=λx=>by
  rcases Wo 0 x with h|h
  .exact U1 h h
  .have:=U1 (show 0<=-x by omega) (show 0<=-x by omega)
   rw[Int.neg_mul_neg]at this;exact this
 have a:=h v.1;have b:=h v.2.1;have c:=h v.2.2;unfold bA;omega
theorem Qa(x s:Vc)(b:ff 536870912 x)(f:ff 536870912 s):aK 290 (am x) (am s) (Z (lu x s)):=by
 have a:=rd b f;have r:=IQ x s (jD b (by decide)) (jD f (by decide));have p:=Ao x (aT x s) 536870912 1073741824 b a (by decide);have q:=Ao (aT x s) (aT x s) 1073741824 1073741824 a a (by decide);obtain⟨i,j,k⟩:=lr (m:=536870912) (n:=1073741824) b a;obtain⟨l,o,t3⟩:=lr (m:=1073741824) (n:=1073741824) a a
 have A:-1729382256910270464<=bA x (aT x s)/\bA x (aT x s)<=1729382256910270464:=by unfold bA;omega
 have B:bA (aT x s) (aT x s)<=3458764513820540928:=by unfold bA;omega
 have c:=zw (aT x s)
 have hp:lu x s=if bA x (aT x s)<=0 then 0 else min 256 (bA x (aT x s)/max 1 (bA (aT x s) (aT x s)/256)):=rfl
 rw[hp];clear i j k l o t3 a;generalize bA x (aT x s)=u at *;generalize bA (aT x s) (aT x s)=v at *;generalize aT x s=e at *;by_cases d:u<=0
 .rw[T8 d]
  refine Dp func290 λC hP hN=>?_;exact Gy
 .rw[TQ d]
  have a1:v.tdiv 256=v/256:=Un c;have a2:i64.wrap (v/256)=v/256:=aa
  have z:1<=max 1 (v/256):=by omega
  generalize g:max 1 (v/256)=m at *;have a3:u.tdiv m=u/m:=Un (by omega);have y:u/m<=u:=WM m (by omega);have h5:0<=u/m:=Wa (by omega) (by omega);have a4:i64.wrap (u/m)=u/m:=aa
  have a5:¬m=0:=by omega
  have a6:(m==0)=false:=by simp;omega
  refine Dp func290 λC hP hN=>?_;exact Gy
def em(w:List Int)(t:Int)(i:Nat):List Int:=w.mapIdx λj k=>if j<i then k-k*t/256 else k
def en(w:List Int)(t:Int):Nat->Int
 |0=>0
 |i+1=>en w t i+(w[i]?).getD 0*t/256
def j5(w:List Int)(q:Nat)(t:Int):List Int:=(em w t w.length).set q (((em w t w.length)[q]?).getD 0+en w t w.length)
theorem m8(w:List Int)(t:Int)(i:Nat):(em w t i).length=w.length:=by simp[em]
theorem jE(w:List Int)(t:Int)(i j:Nat):(em w t i)[j]?=(w[j]?).map λk=>if j<i then k-k*t/256 else k:=by simp[em,List.getElem?_mapIdx]
theorem t5(w:List Int)(t:Int):em w t 0=w:=by
 apply UI;intro j;rw[jE];cases w[j]?<;>simp
theorem t6{k:Int}(a:w[i]?=some k):em w t (i+1)=(em w t i).set i (k-k*t/256):=by
 apply UI;intro j;rw[Ub,jE,jE,m8];by_cases e:i=j
 .subst e
  obtain⟨h,_⟩:=th.1 a;rw[a];simp[h]
 .rw[TQ e]
  cases w[j]? with
  |none=>rfl
  |some x=>
   simp only[UO]
   congr 1
   by_cases h:j<i
   .rw[T8 h,T8 (by omega)]
   .rw[TQ h,TQ (by omega)]
theorem yi(w:List Int):∀i,aX w i=(w.take i).sum
 |0=>by simp[aX]
 |i+1=>by
  rw[List.take_succ]
  cases h:w[i]? with
  |none=>simp[aX,h,yi w i]
  |some k=>simp[aX,h,yi w i]
theorem yj(w:List Int):aX w w.length=w.sum:=by rw[yi,VW]
theorem Ap{y:Int}(h:w[q]?=some y):(w.set q x).sum=w.sum-y+x:=by
 induction w generalizing q with
 |nil=>simp at h
 |cons a r ih=>
  cases q with
  |zero=>simp at h;subst h;simp;omega
  |succ q=>simp at h;simp only[List.set_cons_succ,List.sum_cons,ih h];omega
theorem CQ(w:List Int)(t:Int):∀i,i<=w.length->(em w t i).sum=w.sum-en w t i
 |0,_=>by simp[t5,en]
 |i+1,h=>by
  have a:w[i]?=some w[i]:=an (by omega)
  have b:(em w t i)[i]?=some w[i]:=by rw[jE,a];simp
  rw[t6 a,Ap b,CQ w t i (by omega)];simp only[en,a,Uj];omega
theorem KW(hq:q<w.length):(j5 w q t).sum=w.sum:=by
 have b:=m8 w t w.length;have a:(em w t w.length)[q]?=some ((em w t w.length)[q]'(by omega)):=an (by omega);unfold j5;rw[Ap a,CQ w t _ (Ua _),a];simp only[Uj];omega
theorem ow{k:Int}(b:0<=k)(c:0<=t)(a:t<=256):0<=k*t/\k*t<=k*256/\0<=k*t/256/\k*t/256<=k:=by
 have d:0<=k*t:=U1 b c;have e:k*t<=k*256:=U8 a b;omega
theorem oA{w:List Int}{t:Int}(c:∀k∈w,0<=k)(b:0<=t)(a:t<=256):∀i,0<=en w t i/\en w t i<=aX w i
 |0=>by simp[en,aX]
 |i+1=>by
  have ih:=oA c b a i
  cases h:w[i]? with
  |none=>simp[en,aX,h];omega
  |some k=>
   have:=ow (c k (Is h)) b a;simp only[en,aX,h,Uj];omega
theorem qH(w:List Int)(q:Nat)(t:Int):(j5 w q t).length=w.length:=by simp[j5,m8]
theorem CR(g:WgOk w)(hq:q<w.length)(m:0<=t)(d:t<=256):WgOk (j5 w q t):=by
 constructor
 .intro k l
  obtain⟨j,f,rfl⟩:=Vn.1 l
  have a:j<w.length:=by rw[qH]at f;exact f
  have i:w[j]?=some w[j]:=an a;have hp:=ow (g.pos _ (Uo a)) m d
  have c:(em w t w.length)[j]?=some (w[j]-w[j]*t/256):=by rw[jE,i];simp[a]
  have o:=oA g.pos m d w.length;generalize n:(j5 w q t)[j]=x
  have b:(j5 w q t)[j]?=some x:=by rw[an f,n]
  clear n l;unfold j5 at b;rw[Ub]at b;by_cases e:q=j
  .subst e
   rw[T8 rfl,T8 (by rw[m8];exact a),c]at b;simp only[Uj,T6]at b;omega
  .rw[TQ e,c]at b
   simp only[T6]at b;omega
 .rw[yj,KW hq,<-yj];exact g.tot
theorem Mq(l:List Vc)(w:List Int)(q:Nat)(t:Int)(h8:w.length<=8)(c:WgOk w)(hq:q<w.length)(n:0<=t)(a:t<=256):E8 prog 291 [.agg [.pv (aG l),.arr 2000000 w.length],.pv (Z q),.pv (Z t)] [(2000000,.row 2 1 (w.map Z) 0)] [(2000000,.row 2 1 ((j5 w q t).map Z) 0)] (.tup []):=by
 refine Ed func291 rfl (by kernel_rfl) (by simp[f291]) ?_ ?_
 .constructor
  .rfl
  .simp
  .intro k b h;simp at h;obtain⟨rfl,rfl⟩:=h;rfl
  .intro k b h;simp at h;obtain⟨rfl,rfl⟩:=h;rfl
  .intro k b b' h O
   have L:=fk h;have M:=fk O;simp at L M;obtain⟨rfl,rfl⟩:=L;obtain⟨_,rfl⟩:=M;simp[tg,qH]
 intro C hP hN;simp only[f291]at hN|-;refine GT (be @JK.eq_1 @bN.eq_1 @bN.eq_2) ?_;refine WP.loopN [] w.length (λi st=>st.t 3=.ptr 3 0/\st.h 3=some (.box [.pv (aG l),.arr 2000000 w.length] true false)/\st.t 11=.arr 2000000 w.length/\st.t 12=.pv (Z w.length)/\st.t 13=.pv (Z i)/\st.t 6=.pv (Z (en w t i))/\st.t 1=.pv (Z q)/\st.t 2=.pv (Z t)/\st.h 2000000=some (.row 2 1 ((em w t i).map Z) 0)) (by simp[t5,en]) ?_;rintro i st hi ⟨g3,v,r,s,u,N,g1,g2,x⟩;have f:=m8 w t i;by_cases j:i<w.length
 .have H:=aj j (by omega)
  generalize I:w[i]=k at *
  have D:w[i]?=some k:=by rw[an j,I]
  have g:(em w t i)[i]?=some k:=by rw[jE,D];simp
  have z:=c.pos k (Is D);have hp:=ow z n a;have G:=oA c.pos n a (i+1);have S:=oA c.pos n a i;have hm:=ic c.pos (show i+1<=w.length by omega);have A:=c.tot;have F:=t6 (t:=t) D
  have y:en w t (i+1)=en w t i+k*t/256:=by simp only[en,D,Uj]
  have P:k<=65536:=by
   have a1:=mN D;have a2:=rc c.pos i;omega
  rw[y]at G;generalize en w t (i+1)=L' at *;generalize en w t i=o at *;generalize em w t (i+1)=R' at *;generalize em w t i=R at *;subst y;subst F;have X:i64.wrap (k*t)=k*t:=aa;have Y:(k*t).tdiv 256=k*t/256:=Un (by omega);generalize k*t/256=p at *;have u3:i64.wrap p=p:=aa;have u4:i64.wrap (k-p)=k-p:=aa;have K:i64.wrap (o+p)=o+p:=aa
  have d:i<R.length:=by omega
  have m:∀h,R[i]'h=k:=λh=>by rw[an h]at g;exact UM g
  with_reducible repeat' (first|refine Sp.h ?_|((first|refine Ss.h ?_|(refine Sb.h ?_ ?_ ?_<;>(try intro hgd)<;>try exact Xy))<;>simp -implicitDefEqProofs (maxSteps:=2000000) [hP,hN,g3,v,r,s,u,N,g1,g2,x,f,j,d,g,m,X,Y,u3,u4,K,H])|refine X2 ?_ ?_|(refine Xd ?_ ?_<;>intro hcd<;>try exact Xx))
 .have E:i=w.length:=by omega
  subst E;have T:=oA c.pos n a w.length;have U:=CR c hq n a;have hgd:j5 w q t=(em w t w.length).set q (((em w t w.length)[q]?).getD 0+en w t w.length):=rfl;have B:w[q]?=some w[q]:=an hq;have V:=ow (c.pos _ (Uo hq)) n a
  have e:(em w t w.length)[q]?=some (w[q]-w[q]*t/256):=by rw[jE,B];simp[hq]
  have W:w[q]<=65536:=by
   have a1:=mN B;have a2:=rc c.pos q;have a3:=ic c.pos (show q+1<=w.length by omega);have a4:=c.tot;omega
  have A:=c.tot;rw[e]at hgd;simp only[Uj]at hgd
  have Q:0<=w[q]-w[q]*t/256/\w[q]-w[q]*t/256<=65536:=by omega
  generalize w[q]-w[q]*t/256=J at *;rw[hgd];generalize em w t w.length=R at *;generalize en w t w.length=o at *
  have d:q<R.length:=by omega
  have m:∀h,R[q]'h=J:=λh=>by rw[an h]at e;exact UM e
  have K:i64.wrap (J+o)=J+o:=aa
  with_reducible repeat' (first|refine Sp.h ?_|((first|refine Ss.h ?_|(refine Sb.h ?_ ?_ ?_<;>(try intro hgd)<;>try exact Xy))<;>simp -implicitDefEqProofs (maxSteps:=2000000) [hP,hN,g3,v,r,s,u,N,g1,g2,x,f,hq,d,e,m,K])|refine X2 ?_ ?_|(refine Xd ?_ ?_<;>intro hcd<;>try exact Xx))
  all_goals exact⟨rfl,⟨_,rfl,_,rfl⟩,by intro kb h;simp at h;subst h;simp⟩
def eo(A:List Vc)(w:List Int)(a:List Vc)(v:List Int):Vc:=aT (de A w A.length) (de a v a.length)
def je(t:Vc):Vc:=(t.1.tdiv 65536,t.2.1.tdiv 65536,t.2.2.tdiv 65536)
structure NSt where
 w:List Int
 v:List Int
 n:Vc
 r:Nat
inductive NEnd where
 |stop(kind:Int)(s:NSt)
 |step(s:NSt)
variable {s:NSt}
def oB(A a:List Vc)(rho:Int)(steps:Nat)(s:NSt):NEnd:=
 if ov (eo A s.w a s.v) rho=true then .stop 2 s
 else if nz (bp (je (eo A s.w a s.v)))=false then .stop 0 ⟨s.w,s.v,bp (je (eo A s.w a s.v)),s.r⟩
 else if fI (bp (je (eo A s.w a s.v)))*rho<(dc eN (bp (je (eo A s.w a s.v))) A).1-(dc eO (bp (je (eo A s.w a s.v))) a).1 then .stop 1 ⟨s.w,s.v,bp (je (eo A s.w a s.v)),s.r⟩
 else if s.r=steps then .stop 0 ⟨s.w,s.v,bp (je (eo A s.w a s.v)),s.r⟩
 else if lu (je (eo A s.w a s.v)) (aT ((A[(dc eN (bp (je (eo A s.w a s.v))) A).2]?).getD (0,0,0)) ((a[(dc eO (bp (je (eo A s.w a s.v))) a).2]?).getD (0,0,0)))=0 then .stop 0 ⟨s.w,s.v,bp (je (eo A s.w a s.v)),s.r⟩
 else .step ⟨j5 s.w (dc eN (bp (je (eo A s.w a s.v))) A).2 (lu (je (eo A s.w a s.v)) (aT ((A[(dc eN (bp (je (eo A s.w a s.v))) A).2]?).getD (0,0,0)) ((a[(dc eO (bp (je (eo A s.w a s.v))) a).2]?).getD (0,0,0)))),j5 s.v (dc eO (bp (je (eo A s.w a s.v))) a).2 (lu (je (eo A s.w a s.v)) (aT ((A[(dc eN (bp (je (eo A s.w a s.v))) A).2]?).getD (0,0,0)) ((a[(dc eO (bp (je (eo A s.w a s.v))) a).2]?).getD (0,0,0)))),bp (je (eo A s.w a s.v)),s.r+1⟩
def kp(A b:List Vc)(rho:Int)(steps:Nat):Nat->NSt->Int×NSt
 |0,s=>(0,s)
 |f+1,s=>match oB A b rho steps s with
  |.stop k a=>(k,a)
  |.step a=>kp A b rho steps f a
theorem Hj{t:Vc}(h:ff 35184372088832 t):ff 536870912 (je t):=by
 have a:∀x:Int,-35184372088832<=x/\x<=35184372088832->-536870912<=x.tdiv 65536/\x.tdiv 65536<=536870912:=λx c=>by
  rcases Wo 0 x with b|b
  .rw[Un b];omega
  .have e:x.tdiv 65536=-((-x).tdiv 65536):=by rw[Int.neg_tdiv,Int.neg_neg]
   rw[e,Un (by omega)];omega
 exact⟨a _ h.1,a _ h.2.1,a _ h.2.2⟩
structure NsOk(A B':List Vc)(s:NSt):Prop where
 w:WgOk s.w
 v:WgOk s.v
 wl:s.w.length=A.length
 vl:s.v.length=B'.length
theorem jP:fv l=true↔1<=l.length/\l.length<=8/\l.all (av 268435456)=true:=by
 simp only[fv,An,L4,and_assoc]
theorem CS(b:fv A=true)(c:fv B'=true)(a:NsOk A B' s):ff 35184372088832 (eo A s.w B' s.v):=by
 rw[jP]at b c;have d:=jO b.2.2 a.w A.length (by rw[a.wl];exact Ua _);have e:=jO c.2.2 a.v B'.length (by rw[a.vl];exact Ua _);exact rd d e
theorem m9{n:Vc}(a:1<=l.length):(dc bet n l).2<l.length:=tZ a _
abbrev OJ(A:List Vc)(c:Nat)(a:List Vc)(b:Nat)(n:Vc)(r:Nat):List AV:=[.pv (aG A),.arr 2000000 c,.pv (aG a),.arr 2000001 b,.pv (Z n.1),.pv (Z n.2.1),.pv (Z n.2.2),.pv (Z r)]
abbrev J8(A a:List Vc)(s:NSt):List (Nat×Blk):=[(1000000,.box (OJ A s.w.length a s.v.length s.n s.r) false false),(2000000,.row 2 1 (s.w.map Z) 0),(2000001,.row 2 1 (s.v.map Z) 0)]
theorem zx:∀(k:Nat)(v:Vc),ff (16384*((2^k:Nat):Int)) v->av 16384 (kA k v)=true
 |0,v,h=>by
  obtain⟨a,b,c⟩:=h;simp only[kA];rw[bV,aY,aY,aY];simp only[Nat.pow_zero]at a b c;exact⟨by omega,by omega,by omega⟩
 |k+1,v,h=>by
  simp only[kA];split
  .assumption
  .refine zx k _ (Df ?_)
   have e:2*(16384*((2^k:Nat):Int))=16384*((2^(k+1):Nat):Int):=by rw[WC];omega
   rw[e];exact h
theorem Bb(v:Vc)(h:ff 1099511627776 v):av 16384 (bp v)=true:=zx 64 v (jD h (by decide))
theorem t7{rho:Int}{steps:Nat}(c:fv A=true)(d:fv B'=true)(a:NsOk A B' s):(∀k b,oB A B' rho steps s=.stop k b->NsOk A B' b)/\∀b,oB A B' rho steps s=.step b->NsOk A B' b:=by
 rw[jP]at c d;unfold oB;refine⟨λk b h=>?_,λb h=>?_⟩
 .repeat' split at h
  all_goals first
   |(injection h with _ h;subst h;exact a)
   |(injection h with _ h;subst h;exact⟨a.w,a.v,a.wl,a.vl⟩)
   |cases h
 .repeat' split at h
  all_goals first
   |cases h;done
   |(injection h with h
     subst h
     exact⟨CR a.w (by rw[a.wl];exact m9 c.1) (lM _ _).1 (lM _ _).2,CR a.v (by rw[a.vl];exact m9 d.1) (lM _ _).1 (lM _ _).2,by rw[qH];exact a.wl,by rw[qH];exact a.vl⟩)
theorem t8{A a:List Vc}{rho:Int}{steps:Nat}(c:fv A=true)(d:fv a=true):∀(f:Nat)(s:NSt),NsOk A a s->NsOk A a (kp A a rho steps f s).2
 |0,s,b=>b
 |f+1,s,b=>by
  have h:=t7 (rho:=rho) (steps:=steps) c d b;simp only[kp];split
  .rename_i k g e;exact h.1 _ _ e
  .rename_i g e;exact t8 c d f g (h.2 _ e)
theorem rU{n p:Vc}(hn:ff 16384 n)(hp:ff 268435456 p):-13194139533312<=bA n p/\bA n p<=13194139533312:=by
 obtain⟨a,b,c⟩:=lr (m:=16384) (n:=268435456) hn hp;unfold bA;omega
theorem Bc{bet:Int->Int->Bool}{n p0:Vc}{l:List Vc}(hn:ff 16384 n)(hp:ff 268435456 p0)(a:l.all (av 268435456)=true):∀i,-13194139533312<=(dB bet n p0 l i).1/\(dB bet n p0 l i).1<=13194139533312
 |0=>rU hn hp
 |i+1=>by
  have ih:=Bc (bet:=bet) hn hp a i;simp only[dB];split
  .rename_i v b
   have:=rU hn (eD (TP.1 a v (Is b)));split
   .exact this
   .exact ih
  .exact ih
theorem vu(h:av 16384 v=true):ff 16384 v:=by
 rw[bV,aY,aY,aY]at h;exact⟨⟨by omega,by omega⟩,⟨by omega,by omega⟩,⟨by omega,by omega⟩⟩
theorem qf{n:Vc}(hn:av 16384 n=true)(a:l.all (av 268435456)=true):-13194139533312<=(dc bet n l).1/\(dc bet n l).1<=13194139533312:=by
 refine Bc (vu hn) ?_ a _
 cases h:l[0]? with
 |none=>simp[ff]
 |some p=>exact eD (TP.1 a p (Is h))
theorem Mr{s':NSt}(f:NsOk A B' s)(a:NsOk A B' s'):OkG (J8 A B' s) (J8 A B' s'):=by
 constructor
 .rfl
 .simp
 .intro k b h
  simp only[Ut,Ug,Uz,UX]at h;rcases h with⟨rfl,rfl⟩|⟨rfl,rfl⟩|⟨rfl,rfl⟩
  all_goals (simp[jU,mK])
 .intro k b h
  simp only[Ut,Ug,Uz,UX]at h;rcases h with⟨rfl,rfl⟩|⟨rfl,rfl⟩|⟨rfl,rfl⟩
  all_goals (simp[jU,mK])
 .intro k b i h g
  have d:=fk h;have c:=fk g;simp only[Ut,Ug,Uz,UX]at d c;rcases d with⟨rfl,rfl⟩|⟨rfl,rfl⟩|⟨rfl,rfl⟩
  .rcases c with⟨_,rfl⟩|⟨e,_⟩|⟨e,_⟩
   .rfl
   .exact absurd e (by decide)
   .exact absurd e (by decide)
  .rcases c with⟨e,_⟩|⟨_,rfl⟩|⟨e,_⟩
   .exact absurd e (by decide)
   .simp[tg,f.wl,a.wl]
   .exact absurd e (by decide)
  .rcases c with⟨e,_⟩|⟨e,_⟩|⟨_,rfl⟩
   .exact absurd e (by decide)
   .exact absurd e (by decide)
   .simp[tg,f.vl,a.vl]
set_option maxRecDepth 4000 in
theorem Qb(A l:List Vc)(rho:Int)(steps:Nat)(s0:NSt)(hA:fv A=true)(hB:fv l=true)(hr:0<=rho/\rho<=2097152)(b0:steps<=64)(D:NsOk A l s0)(h0:s0.r=0):E8 prog 224 [.ptr 1000000 0,.pv (Z rho),.pv (Z steps)] (J8 A l s0) (J8 A l (kp A l rho steps (steps+1) s0).2) (Z (kp A l rho steps (steps+1) s0).1):=by
 have a1:=t8 (rho:=rho) (steps:=steps) hA hB (steps+1) s0 D;generalize a2:kp A l rho steps (steps+1) s0=RR at *;have m:=jP.1 hA;have o:=jP.1 hB;refine Ed func224 rfl (by kernel_rfl) (by simp[f224]) (Mr D a1) ?_;intro C hP hN;simp only[f224]at hN|-;refine GT (be @JK.eq_1 @bN.eq_1 @bN.eq_2) ?_;refine WP.loopN [7,8,9] steps (λi st=>∃s:NSt,NsOk A l s/\s.r=i/\kp A l rho steps (steps+1-i) s=RR/\st.t 0=.ptr 1000000 0/\st.t 1=.pv (Z rho)/\st.t 2=.pv (Z steps)/\st.h 7=none/\st.h 8=none/\st.h 9=none/\st.h 1000000=some (.box (OJ A s.w.length l s.v.length s.n s.r) false false)/\st.h 2000000=some (.row 2 1 (s.w.map Z) 0)/\st.h 2000001=some (.row 2 1 (s.v.map Z) 0)) (by refine⟨s0,D,h0,a2,?_⟩;simp) ?_;rintro i st hi ⟨s,D,bH,c,g0,g1,g2,p,u,y,j,e,f⟩;have ar:=CS hA hB D;have K:=Hj ar;have W:=jD K (show(536870912:Int)<=1099511627776 by decide);have Q:=Bb _ W;rw[show steps+1-i=(steps-i)+1 by omega]at c;simp only[kp]at c;have d:oB A l rho steps s=_:=rfl
 conv at d=>rhs;unfold oB
 have c1:=Mp A s.w m.2.1 D.wl m.2.2 D.w;have c2:=Mp l s.v o.2.1 D.vl o.2.2 D.v;have a6:=jO m.2.2 D.w A.length (by rw[D.wl];exact Ua _);have a7:=jO o.2.2 D.v l.length (by rw[D.vl];exact Ua _);have c3:=IQ _ _ (jD a6 (by decide)) (jD a7 (by decide));have a8:aT (de A s.w A.length) (de l s.v l.length)=eo A s.w l s.v:=rfl;rw[a8]at c3;have c4:=P9 _ rho ar hr;have a5:=t7 (rho:=rho) (steps:=steps) hA hB D;generalize eo A s.w l s.v=T at *;have c5:=MM _ W;have J:je T=(T.1.tdiv 65536,T.2.1.tdiv 65536,T.2.2.tdiv 65536):=rfl
 cases P:ov T rho with
 |true=>
  rw[P]at c4;rw[T8 P]at d;rw[d]at c;simp only at c;subst c;refine GT (s5 g0 g1 g2 p u y j (gA e f)) ?_
  all_goals exact⟨rfl,⟨_,rfl,_,rfl⟩,by intro kb h;simp only[Ut,Uz,UX]at h;rcases h with rfl|rfl|rfl<;>simp[j,e,f]⟩
 |false=>
  rw[P]at c4;rw[TQ (by rw[P];simp)]at d
  have M:i64.wrap (T.1.tdiv 65536)=T.1.tdiv 65536:=by have:=K.1;rw[J]at this;simp only at this;exact aa (by omega) (by omega)
  have N:i64.wrap (T.2.1.tdiv 65536)=T.2.1.tdiv 65536:=by have:=K.2.1;rw[J]at this;simp only at this;exact aa (by omega) (by omega)
  have O:i64.wrap (T.2.2.tdiv 65536)=T.2.2.tdiv 65536:=by have:=K.2.2;rw[J]at this;simp only at this;exact aa (by omega) (by omega)
  generalize bp (je T)=n at *
  cases R:nz n with
  |false=>
   rw[T8 R]at d;rw[d]at c;simp only at c;subst c;rw[R,J]at c5;refine GT (s7 g0 g1 g2 p u y j e f M N O) ?_
   all_goals exact⟨rfl,⟨_,rfl,_,rfl⟩,by intro kb h;simp only[Ut,Uz,UX]at h;rcases h with rfl|rfl|rfl<;>simp[j,e,f]⟩
  |true=>
   rw[TQ (by rw[R];simp)]at d;have c6:=P7 n A s.w Q m.1 m.2.1 m.2.2;have c7:=P8 n l s.v Q o.1 o.2.1 o.2.2;have c8:=MN n;have hq:=uo n;have l1:=qf (bet:=eN) Q m.2.2;have l2:=qf (bet:=eO) Q o.2.2;have Y:=m9 (bet:=eN) (n:=n) m.1;have i2:=m9 (bet:=eO) (n:=n) o.1;generalize dc eN n A=lo at *;generalize dc eO n l=G at *;generalize fI n=q at *;have bs:=bF (a:=q) (b:=rho) 32768 2097152 (by omega) (by omega) (by omega) (by omega);have U:i64.wrap (lo.1-G.1)=lo.1-G.1:=aa;have V:i64.wrap (q*rho)=q*rho:=aa;generalize E:q*rho=qr at *;obtain⟨pa,z⟩:∃x,A[lo.2]?=some x:=⟨_,an Y⟩;obtain⟨pb,B⟩:∃x,l[G.2]?=some x:=⟨_,an i2⟩
   have H:∀h,A[lo.2]'h=pa:=λh=>by rw[an h]at z;exact UM z
   have I:∀h,l[G.2]'h=pb:=λh=>by rw[an h]at B;exact UM B
   have sa:=eD (TP.1 m.2.2 pa (Is z));have sb:=eD (TP.1 o.2.2 pb (Is B));have c9:=IQ pa pb (jD sa (by decide)) (jD sb (by decide));have bq:=rd sa sb;have ad:=Qa (je T) (aT pa pb) K bq;have S:=lM (je T) (aT pa pb);rw[z,B]at d;simp only[Uj]at d;generalize lu (je T) (aT pa pb)=t at *;generalize aT pa pb=b1 at *;rw[J]at c5 ad;rw[R]at c5;by_cases g:qr<lo.1-G.1
   .rw[T8 g]at d
    rw[d]at c;simp only at c;subst c;refine GT (zAa g0 g1 g2 p u y j e f M N O U V (gA E g)) ?_
    all_goals exact⟨rfl,⟨_,rfl,_,rfl⟩,by intro kb h;simp only[Ut,Uz,UX]at h;rcases h with rfl|rfl|rfl<;>simp[j,e,f]⟩
   rw[TQ g]at d;by_cases X:s.r=steps
   .rw[T8 X]at d
    rw[d]at c;simp only at c;subst c
    have k:((s.r:Int)==(steps:Int))=true:=by simp;omega
    refine GT (zAa g0 g1 g2 p u y j e f M N O U V (be E g k)) ?_
    all_goals exact⟨rfl,⟨_,rfl,_,rfl⟩,by intro kb h;simp only[Ut,Uz,UX]at h;rcases h with rfl|rfl|rfl<;>simp[j,e,f]⟩
   rw[TQ X]at d
   have k:((s.r:Int)==(steps:Int))=false:=by simp;omega
   by_cases F:t=0
   .rw[T8 F]at d
    rw[d]at c;simp only at c;subst c;refine GT (zAa g0 g1 g2 p u y j e f M N O U V (s6 E g k z B H I Y i2 F)) ?_
    all_goals exact⟨rfl,⟨_,rfl,_,rfl⟩,by intro kb h;simp only[Ut,Uz,UX]at h;rcases h with rfl|rfl|rfl<;>simp[j,e,f]⟩
   rw[TQ F]at d;have bb:=a5.2 _ d;rw[d]at c;simp only at c
   have L:(t==0)=false:=by simp;omega
   have a9:=Mq A s.w lo.2 t (by rw[D.wl];exact m.2.1) D.w (by rw[D.wl];exact Y) S.1 S.2;have ba:=Mq l s.v G.2 t (by rw[D.vl];exact o.2.1) D.v (by rw[D.vl];exact i2) S.1 S.2
   with_reducible repeat' (first|refine Sp.h ?_|((refine WP.share (hn:=[]) (pre:=[_,_,_,_,_,_,_]) (post:=[]) rfl rfl rfl ?_);simp -implicitDefEqProofs (maxSteps:=2000000) [hP,hN,g0,g1,g2,p,u,y,j,e,f,M,N,O,U,V,E,g,k,z,B,H,I,Y,i2,F,L])|((first|refine Wd ?_|refine Ss.h ?_|refine Sc.h (c1) ?_|refine Sc.h (c2) ?_|refine Sc.h (c3) ?_|refine Sc.h (c4) ?_|refine Sc.h (c5) ?_|refine Sc.h (c6) ?_|refine Sc.h (c7) ?_|refine Sc.h (c8) ?_|refine Sc.h (c9) ?_|refine Sc.h (ad) ?_|(refine Sb.h ?_ ?_ ?_<;>(try intro hgd)<;>try exact Xy))<;>simp -implicitDefEqProofs (maxSteps:=2000000) [hP,hN,g0,g1,g2,p,u,y,j,e,f,M,N,O,U,V,E,g,k,z,B,H,I,Y,i2,F,L]<;>try refine Ya ?_)|refine X2 ?_ ?_|(refine Xd ?_ ?_<;>intro hcd<;>try exact Xx))
   simp only[yI,hP];refine⟨_,_,_,_,_,λ_=>2000000,rfl,a9,rfl,?_⟩;refine⟨by simp[zR,lD],by simp[Ec,mK],by simp,by intro kb h;simp only[Ut,Uz,UX]at h;subst h;simp[e,iH],by rw[hN];rfl,?_⟩;simp -implicitDefEqProofs (maxSteps:=2000000) [hP,hN,iD,iH,dK,e]
   with_reducible repeat' (first|refine Sp.h ?_|((refine WP.share (hn:=[]) (pre:=[_,_,_,_,_,_,_]) (post:=[]) rfl rfl rfl ?_);simp -implicitDefEqProofs (maxSteps:=2000000) [hP,hN,g0,g1,g2,p,u,y,j,e,f,iD,iH,M,N,O,U,V,E,g,k,z,B,H,I,Y,i2,F,L])|((first|refine Wd ?_|refine Ss.h ?_|refine Sc.h (c1) ?_|refine Sc.h (c2) ?_|refine Sc.h (c3) ?_|refine Sc.h (c4) ?_|refine Sc.h (c5) ?_|refine Sc.h (c6) ?_|refine Sc.h (c7) ?_|refine Sc.h (c8) ?_|refine Sc.h (c9) ?_|refine Sc.h (ad) ?_|(refine Sb.h ?_ ?_ ?_<;>(try intro hgd)<;>try exact Xy))<;>simp -implicitDefEqProofs (maxSteps:=2000000) [hP,hN,g0,g1,g2,p,u,y,j,e,f,iD,iH,M,N,O,U,V,E,g,k,z,B,H,I,Y,i2,F,L]<;>try refine Ya ?_)|refine X2 ?_ ?_|(refine Xd ?_ ?_<;>intro hcd<;>try exact Xx))
   simp only[yI,hP];refine⟨_,_,_,_,_,λ_=>2000001,rfl,ba,rfl,?_⟩;refine⟨by simp[zR,lD],by simp[Ec,mK],by simp,by intro kb h;simp only[Ut,Uz,UX]at h;subst h;simp[f,iH],by rw[hN];rfl,?_⟩;simp -implicitDefEqProofs (maxSteps:=2000000) [hP,hN,iD,iH,dK,e,f];have bc:i64.wrap ((s.r:Int)+1)=(s.r:Int)+1:=aa;refine GT (zAa g0 g1 g2 p u y j e f bc @iD.eq_1 @iH.eq_1 @iH.eq_2 M (zAa N O U V E g k z B H I Y i2 F L)) ?_;refine⟨by omega,⟨j5 s.w lo.2 t,j5 s.v G.2 t,n,s.r+1⟩,bb,by simp only;omega,c,⟨(qH _ _ _).symm,(qH _ _ _).symm,rfl,rfl,rfl,by simp only;omega⟩,rfl,rfl⟩
def rV(a b:List Vc):NSt:=⟨(List.replicate a.length 0).set 0 65536,(List.replicate b.length 0).set 0 65536,(0,0,0),0⟩
theorem J9(h:1<=n):WgOk ((List.replicate n 0).set 0 65536):=by
 constructor
 .intro k a
  rcases UP a with h|rfl
  .have:=List.eq_of_mem_replicate h;omega
  .decide
 .rw[yj,Ap (y:=0) (by rw[Uv,T8 (by omega)])]
  have:(List.replicate n (0:Int)).sum=0:=by simp
  omega
theorem CT{a b:List Vc}(c:1<=a.length)(d:1<=b.length):NsOk a b (rV a b):=⟨J9 c,J9 d,by simp[rV],by simp[rV]⟩
def qg(a b:List Vc)(rho steps:Int):Bool:=fv a&&fv b&&bf rho 0 2097152&&bf steps 0 64
def ji(a b:List Vc)(rho steps:Int):Int×NSt:=if qg a b rho steps then kp a b rho steps.toNat (steps.toNat+1) (rV a b)else(0,⟨[],[],(0,0,0),0⟩)
abbrev Ka(x:Int×NSt):PV:=.agg [Z x.1,Z x.2.n.1,Z x.2.n.2.1,Z x.2.n.2.2,zs x.2.w,zs x.2.v,Z x.2.r]
theorem Mt(a b:List Vc)(rho steps:Int)(y:a.length<=9223372036854775807)(z:b.length<=9223372036854775807):BB 157 (aG a) (aG b) (Z rho) (Z steps) (Ka (ji a b rho steps)):=by
 have g:=Mo a y;have j:=Mo b z;have c:qg a b rho steps=(fv a&&fv b&&bf rho 0 2097152&&bf steps 0 64):=rfl
 have d:ji a b rho steps=if qg a b rho steps then kp a b rho steps.toNat (steps.toNat+1) (rV a b)else(0,⟨[],[],(0,0,0),0⟩):=rfl
 cases e:fv a with
 |false=>
  rw[e]at g c;simp only[UE]at c;rw[c]at d;simp only[T5,Uf]at d;rw[d];refine Dp func157 λC hP hN=>?_;exact Gy
 |true=>
 cases f:fv b with
 |false=>
  rw[e]at g c;rw[f]at j c;simp only[Vo,UE]at c;rw[c]at d;simp only[T5,Uf]at d;rw[d];refine Dp func157 λC hP hN=>?_;exact Gy
 |true=>
 rw[e]at g c;rw[f]at j c;simp only[Vl,Uq]at c;by_cases u:rho<0\/2097152<rho\/steps<0\/64<steps
 .have hf:(bf rho 0 2097152&&bf steps 0 64)=false:=by
   simp only[bf];rcases u with h|h|h|h
   .rw[U2 (show¬0<=rho by omega)];simp
   .rw[U2 (show¬rho<=2097152 by omega)];simp
   .rw[U2 (show¬0<=steps by omega)];simp
   .rw[U2 (show¬steps<=64 by omega)];simp
  rw[hf]at c;rw[c]at d;simp only[T5,Uf]at d;rw[d];rcases u with h|h|h|h
  all_goals
   refine Dp func157 λC hP hN=>?_;exact Gy
 have hf:(bf rho 0 2097152&&bf steps 0 64)=true:=by
  simp only[bf,An,L4];omega
 rw[hf]at c;rw[c]at d;simp only[Ul]at d;obtain⟨m,A⟩:∃m:Nat,steps=m:=⟨steps.toNat,by omega⟩;subst A;simp only[Uk]at d;have n:=jP.1 e;have o:=jP.1 f;have v:=J7 a n.1 n.2.1;have x:=J7 b o.1 o.2.1;have k:=CT n.1 o.1;have i:=t8 (rho:=rho) (steps:=m) e f (m+1) (rV a b) k;have l:=Qb a b rho m (rV a b) e f (by omega) (by omega) k rfl;generalize kp a b rho m (m+1) (rV a b)=E at *;rw[d]
 have p:¬rho<0:=by omega
 have r:¬2097152<rho:=by omega
 have F:¬(m:Int)<0:=by omega
 have s:¬64<(m:Int):=by omega
 refine Dp func157 λC hP hN=>?_
 with_reducible repeat' (first|refine Sp.h ?_|((refine WP.share (hn:=[]) (pre:=[_,_]) (post:=[_]) rfl rfl rfl ?_);simp -implicitDefEqProofs (maxSteps:=2000000) [hP,hN,p,r,s])|((first|refine Ss.h ?_|refine Sc.h (g) ?_|refine Sc.h (j) ?_|refine Sc.h (v) ?_|refine Sc.h (x) ?_|(refine Sb.h ?_ ?_ ?_<;>(try intro hgd)<;>try exact Xy))<;>simp -implicitDefEqProofs (maxSteps:=2000000) [hP,hN,p,r,s])|refine X2 ?_ ?_|(refine Xd ?_ ?_<;>intro hcd<;>try exact Xx))
 simp only[yI,hP];refine⟨_,_,_,_,_,λq=>if q=1000000 then 9 else if q=2000000 then 37 else 40,rfl,l,rfl,?_⟩;refine⟨by simp[zR,lD],by simp[Ec,mK],by simp,by intro G h;simp only[Ut,Uz,UX]at h;rcases h with rfl|rfl|rfl<;>simp[iH,lD,mC,rV],by rw[hN];rfl,?_⟩;simp -implicitDefEqProofs (maxSteps:=2000000) [hP,hN,iD,iH,lD,mC];have D:=i.wl;have B:=i.vl;exact Gy
def dt(n:Nat)(l:Int):Bool:=decide (-1<=l)&&decide (l<n)
theorem Db(s:Sce)(l:Int)(a:s.js.length<=9223372036854775807):aK 110 (eM s) (Z l) (B (dt s.js.length l)):=by
 refine Dp func110 λC hP hN=>?_
 with_reducible repeat' (first|refine Sp.h ?_|((first|refine Ss.h ?_|(refine Sb.h ?_ ?_ ?_<;>(try intro hgd)<;>try exact Xy))<;>simp -implicitDefEqProofs (maxSteps:=2000000) [hP,hN])|refine X2 ?_ ?_|(refine Xd ?_ ?_<;>intro hcd<;>try exact Xx))
 all_goals (simp only[dt,L4,Ue]at *;first|done|(simp;intros;omega)|(simp;omega)|omega)
def di(n:Nat)(h:Sh):Int:=if(dt n h.link&&decide (1<=h.rad)&&decide (h.rad<=1048576)&&decide (1<=h.pts.length)&&decide (h.pts.length<=8))=true then(if h.pts.all (av 4194304)=true then 0 else 805)else 902
theorem QU(s:Sce)(h:Sh)(J:s.js.length<=9223372036854775807)(K:h.pts.length<=9223372036854775807):aK 109 (eM s) (cE h) (Z (di s.js.length h)):=by
 have D:=Db s h.link J
 cases l:dt s.js.length h.link with
 |false=>
  have hf:di s.js.length h=902:=by simp[di,l]
  rw[hf];rw[l]at D;refine Dp func109 λC hP hN=>?_;exact Gy
 |true=>
 rw[l]at D;by_cases I:h.rad<1\/1048576<h.rad\/(h.pts.length:Int)<1\/(8:Int)<h.pts.length
 .have hf:di s.js.length h=902:=by
   unfold di;rw[TQ];simp only[An,L4];rintro⟨⟨⟨⟨b0,b1⟩,b2⟩,b3⟩,b4⟩;omega
  rw[hf];rcases I with q|q|q|q
  all_goals
   refine Dp func109 λC hP hN=>?_;exact Gy
 have q:¬h.rad<1:=by omega
 have N:¬1048576<h.rad:=by omega
 have O:¬(h.pts.length:Int)<1:=by omega
 have P:¬(8:Int)<h.pts.length:=by omega
 have G:¬h.pts.length<1:=by omega
 have H:¬8<h.pts.length:=by omega
 have hf:di s.js.length h=if h.pts.all (av 4194304)=true then 0 else 805:=by
  unfold di;rw[T8];simp only[An,L4];exact⟨⟨⟨⟨l,by omega⟩,by omega⟩,by omega⟩,by omega⟩
 rw[hf];refine Dp func109 λC hP hN=>?_
 cases e:h.pts.all (av 4194304)with
 |true=>
  refine Gz ?_;refine WP.loopN [7] h.pts.length (λi st=>True/\st.t 37=.pv (aG h.pts)/\st.t 38=.pv (Z h.pts.length)/\st.t 39=.pv (Z i)/\st.h 7=none) (by simp) ?_;rintro i st hi ⟨g1,g,j,f,m⟩;by_cases d:i<h.pts.length
  .have r:=aj d (by omega)
   have L:=bV.1 (TP.1 e _ (Uo d));obtain⟨y,z,A⟩:=L;rw[aY]at y z A;generalize n:h.pts[i]=v at *
   have E:h.pts[i]?=some v:=by rw[an d,n]
   refine Gz ?_;refine WP.loopN [] 3 (λk st=>True/\st.t 37=.pv (aG h.pts)/\st.t 38=.pv (Z h.pts.length)/\st.t 39=.pv (Z i)/\st.t 43=.pv (am v)/\st.t 44=.pv (Z k)) (by simp[g1,g,j,f]) ?_;clear g1 g j f m;rintro k st l ⟨g1,g,j,f,gA,gK⟩;rcases eu l with rfl|rfl|rfl|rfl
   all_goals
    exact Gy
  .skip
   exact Gy
 |false=>
  refine Gz ?_;refine WP.loopN [7] h.pts.length (λi st=>True/\st.t 37=.pv (aG h.pts)/\st.t 38=.pv (Z h.pts.length)/\st.t 39=.pv (Z i)/\st.h 7=none/\∀k x,k<i->h.pts[k]?=some x->av 4194304 x=true) (by simp) ?_;rintro i st hi ⟨g1,g,j,f,m,hq⟩;by_cases d:i<h.pts.length
  .have r:=aj d (by omega)
   generalize n:h.pts[i]=v at *
   have E:h.pts[i]?=some v:=by rw[an d,n]
   have u:=mO (p:=av 4194304) E hq;refine Gz ?_;refine WP.loopN [] 3 (λk st=>True/\st.t 37=.pv (aG h.pts)/\st.t 38=.pv (Z h.pts.length)/\st.t 39=.pv (Z i)/\st.t 43=.pv (am v)/\st.t 44=.pv (Z k)/\(0<k->fU v.1 4194304=true)/\(1<k->fU v.2.1 4194304=true)/\(2<k->fU v.2.2 4194304=true)) (by simp[g1,g,j,f]) ?_;clear g1 g j f m hq;rintro k st l ⟨g1,g,j,f,gA,gK,B,F,M⟩;rcases eu l with rfl|rfl|rfl|rfl
   .skip
    with_reducible repeat' (first|refine Sp.h ?_|((first|refine Ss.h ?_|(refine Sb.h ?_ ?_ ?_<;>(try intro hgd)<;>try exact Xy))<;>simp -implicitDefEqProofs (maxSteps:=2000000) [hP,hN,g1,g,j,f,gA,gK,r])|refine X2 ?_ ?_|(refine Xd ?_ ?_<;>intro hcd<;>try exact Xx))
    all_goals (try (rw[aY];simp only[Ue,L4]at hgd hcd;omega))
   .skip
    with_reducible repeat' (first|refine Sp.h ?_|((first|refine Ss.h ?_|(refine Sb.h ?_ ?_ ?_<;>(try intro hgd)<;>try exact Xy))<;>simp -implicitDefEqProofs (maxSteps:=2000000) [hP,hN,g1,g,j,f,gA,gK,r])|refine X2 ?_ ?_|(refine Xd ?_ ?_<;>intro hcd<;>try exact Xx))
    all_goals (try (exact⟨B (by omega),by rw[aY];simp only[Ue,L4]at hgd hcd;omega⟩))
   .skip
    with_reducible repeat' (first|refine Sp.h ?_|((first|refine Ss.h ?_|(refine Sb.h ?_ ?_ ?_<;>(try intro hgd)<;>try exact Xy))<;>simp -implicitDefEqProofs (maxSteps:=2000000) [hP,hN,g1,g,j,f,gA,gK,r])|refine X2 ?_ ?_|(refine Xd ?_ ?_<;>intro hcd<;>try exact Xx))
    all_goals (try (exact⟨B (by omega),F (by omega),by rw[aY];simp only[Ue,L4]at hgd hcd;omega⟩))
   .have hn:av 4194304 v=true:=bV.2 ⟨B (by omega),F (by omega),M (by omega)⟩
    have o:=u hn;refine Gz ?_
    all_goals (try exact λk a b c=>o k (a,b,c))
  .have:=oI hq d
   rw[this]at e;cases e
def gP(n:Nat)(shs:List Sh):Int:=match(shs.map (di n)).find? (λe=>e !=0)with
 |some e=>e
 |none=>0
theorem uM(b:i<shs.length)(hq:∀k x,k<i->shs[k]?=some x->di n x=0)(c:di n shs[i]≠0):gP n shs=di n shs[i]:=by
 have:(shs.map (di n)).find? (λe=>e !=0)=some (di n shs[i]):=by
  rw[Wu];refine⟨by simpa using c,i,by simpa using b,by simp,λk d=>?_⟩
  have a:k<shs.length:=by omega
  simp[hq k shs[k] d (an a)]
 rw[gP,this]
theorem ro(hq:∀(k:Nat) x,shs[k]?=some x->di n x=0):gP n shs=0:=by
 have:(shs.map (di n)).find? (λe=>e !=0)=none:=by
  rw[Vb];intro e a;simp only[Ur]at a;obtain⟨x,c,rfl⟩:=a;obtain⟨k,b⟩:=UB c;simp[hq k x b]
 rw[gP,this]
def jl(n:Nat)(p:Int×Int):Bool:=dt n p.1&&dt n p.2
def bi(s:Sce):Int:=if aW s.js s.ms≠0 then aW s.js s.ms else if 24<s.shs.length then 901 else if gP s.js.length s.shs≠0 then gP s.js.length s.shs else if 64<s.sks.length then 903 else if s.sks.all (jl s.js.length)=true then 0 else 903
structure ScL(s:Sce):Prop where
 js:s.js.length<=9223372036854775807
 ms:s.ms.length<=9223372036854775807
 shs:s.shs.length<=9223372036854775807
 sks:s.sks.length<=9223372036854775807
 pts:∀h∈s.shs,h.pts.length<=9223372036854775807
theorem ET(s:Sce)(Q:ScL s):aR 53 (eM s) (Z (bi s)):=by
 have V:=sq s.js s.ms Q.js Q.ms;obtain⟨G,l2,l3,U,l5⟩:=Q;by_cases A:aW s.js s.ms=0
 case neg=>
  have hf:bi s=aW s.js s.ms:=by simp[bi,A]
  have W:(aW s.js s.ms !=0)=true:=by simp[A]
  rw[hf];generalize aW s.js s.ms=r at *;refine Dp func53 λC hP hN=>?_;exact Gy
 rw[A]at V;by_cases S:24<s.shs.length
 .have hf:bi s=901:=by simp[bi,A,S]
  have M:(24:Int)<s.shs.length:=by omega
  rw[hf];refine Dp func53 λC hP hN=>?_;exact Gy
 have M:¬(24:Int)<s.shs.length:=by omega
 have hf:bi s=if gP s.js.length s.shs≠0 then gP s.js.length s.shs else if 64<s.sks.length then 903 else if s.sks.all (jl s.js.length)=true then 0 else 903:=by simp only[bi,A,S,Uf,ne_eq,Vv]
 rw[hf];refine Dp func53 λC hP hN=>?_;refine Gz ?_;refine WP.loopN [5] s.shs.length (λi st=>st.t 1=.ptr 1 0/\st.h 1=some (.box [.pv (.sl (s.js.map bu)),.pv (.sl (s.ms.map cG)),.pv (.sl (s.shs.map cE)),.pv (.sl (s.sks.map aC))] true false)/\st.t 20=.pv (.sl (s.shs.map cE))/\st.t 21=.pv (Z s.shs.length)/\st.t 22=.pv (Z i)/\st.h 5=none/\st.h 8=none/\∀k x,k<i->s.shs[k]?=some x->di s.js.length x=0) (by simp) ?_;rintro i st hi ⟨g1,d,u,y,z,D,f,hq⟩;by_cases c:i<s.shs.length
 .have T:=aj c l3
  have N:=uM (n:=s.js.length) c hq;have o:=λq=>mO (p:=λx=>di s.js.length x==0) (an c) (λk x P j=>by simp[hq k x P j]) q;generalize l:s.shs[i]=v at *
  have j:s.shs[i]?=some v:=by rw[an c,l]
  have cc:=QU s v G (l5 v (Is j));generalize di s.js.length v=e at *;by_cases q:e=0
  .subst q
   have F:∀k x,k<i+1->s.shs[k]?=some x->di s.js.length x=0:=λk x P j=>by simpa using o rfl k x P j
   refine Gz ?_
   all_goals exact F
  .have Y:(e !=0)=true:=by simp[q]
   have O:=N q;exact Gy
   all_goals simp[O,q]
 .have hz:gP s.js.length s.shs=0:=ro (λk x j=>hq k x (by have:=(th.1 j).1;omega) j)
  rw[hz];by_cases X:64<s.sks.length
  .have B:(64:Int)<s.sks.length:=by omega
   exact Gy
  .have B:¬(64:Int)<s.sks.length:=by omega
   cases g:s.sks.all (jl s.js.length)with
   |true=>
    refine Gz ?_;refine WP.loopN [8] s.sks.length (λi st=>st.t 1=.ptr 1 0/\st.h 1=some (.box [.pv (.sl (s.js.map bu)),.pv (.sl (s.ms.map cG)),.pv (.sl (s.shs.map cE)),.pv (.sl (s.sks.map aC))] true false)/\st.t 38=.pv (.sl (s.sks.map aC))/\st.t 39=.pv (Z s.sks.length)/\st.t 40=.pv (Z i)/\st.h 8=none) (by simp[g1,d,f]) ?_;clear g1 d u y z D f hq c;rintro i st hi ⟨g1,d,J,K,L,f⟩;by_cases c:i<s.sks.length
    .have T:=aj c U
     have R:=TP.1 g _ (Uo c);generalize l:s.sks[i]=v at *
     have j:s.sks[i]?=some v:=by rw[an c,l]
     simp only[jl,An]at R;have H:=Db s v.1 G;have I:=Db s v.2 G;rw[R.1]at H;rw[R.2]at I;exact Gy
    .skip
     exact Gy
   |false=>
    refine Gz ?_;refine WP.loopN [8] s.sks.length (λi st=>st.t 1=.ptr 1 0/\st.h 1=some (.box [.pv (.sl (s.js.map bu)),.pv (.sl (s.ms.map cG)),.pv (.sl (s.shs.map cE)),.pv (.sl (s.sks.map aC))] true false)/\st.t 38=.pv (.sl (s.sks.map aC))/\st.t 39=.pv (Z s.sks.length)/\st.t 40=.pv (Z i)/\st.h 8=none/\∀k x,k<i->s.sks[k]?=some x->jl s.js.length x=true) (by simp[g1,d,f]) ?_;clear g1 d u y z D f hq c;rintro i st hi ⟨g1,d,J,K,L,f,hq⟩;by_cases c:i<s.sks.length
    .have T:=aj c U
     generalize l:s.sks[i]=v at *
     have j:s.sks[i]?=some v:=by rw[an c,l]
     have o:=mO (p:=jl s.js.length) j hq;have H:=Db s v.1 G;have I:=Db s v.2 G;have m:jl s.js.length v=(dt s.js.length v.1&&dt s.js.length v.2):=rfl
     cases b1:dt s.js.length v.1 with
     |false=>
      rw[b1]at H;exact Gy
     |true=>
      rw[b1]at H m
      cases b2:dt s.js.length v.2 with
      |false=>
       rw[b2]at I;exact Gy
      |true=>
       rw[b2]at I m;have E:=o m;refine Gz ?_
       all_goals exact λk a b=>E k (a,b)
    .have:=oI hq c
     rw[this]at g;cases g
def Au(i:Nat)(j:J):Prop:=(0<=j.kind/\j.kind<=6)/\-1<=j.parent/\j.parent<(i:Int)
def rq(js:List J):Prop:=∀i j,js[i]?=some j->Au i j
theorem Hs{j:J}(h:cD js i j=0):Au i j:=by
 unfold cD at h
 repeat' split at h
 all_goals (try (cases h;done))
 all_goals (try omega)
 refine⟨by omega,by omega,by omega⟩
theorem rY{ms:List Ms}(h:aW js ms=0):rq js/\js.length<=10/\1<=js.length:=by
 unfold aW at h;split at h
 .cases h
 .rename_i n
  split at h
  .rename_i c;exact absurd h c
  .rename_i k
   refine⟨λi j b=>?_,by omega,by omega⟩;have l:=(th.1 b).1
   have a:jb js=0:=by simpa using k
   rw[ph]at a;by_cases d:cD js i j=0
   .exact Hs d
   .exfalso
    cases hf:(js.mapIdx (cD js)).find? (λe=>e !=0)with
    |none=>
     rw[Vb]at hf
     have m:cD js i j∈js.mapIdx (cD js):=by
      rw[List.mem_mapIdx];obtain⟨f,g⟩:=th.1 b;exact⟨i,f,by rw[g]⟩
     exact hf _ m (by simpa using d)
    |some e=>
     rw[hf]at a;have:=VL hf;simp only at a;rw[a]at this;simp at this
theorem nc{s:Sce}(h:bi s=0):rq s.js/\s.js.length<=10/\1<=s.js.length/\s.shs.length<=24/\s.sks.length<=64/\(∀x∈s.shs,dt s.js.length x.link=true/\gp x=true)/\∀p∈s.sks,jl s.js.length p=true:=by
 unfold bi at h;split at h
 .rename_i b;exact absurd h b
 .rename_i d
  have d:aW s.js s.ms=0:=by simpa using d
  split at h
  .cases h
  .rename_i o
   split at h
   .rename_i b;exact absurd h b
   .rename_i c
    have c:gP s.js.length s.shs=0:=by simpa using c
    split at h
    .cases h
    .rename_i q
     split at h
     .rename_i m
      obtain⟨a1,a2,a3⟩:=rY d;refine⟨a1,a2,a3,by omega,by omega,λx n=>?_,λp hp=>TP.1 m p hp⟩
      have a:di s.js.length x=0:=by
       by_cases a:di s.js.length x=0
       .exact a
       .exfalso
        unfold gP at c
        cases hf:(s.shs.map (di s.js.length)).find? (λe=>e !=0)with
        |none=>
         rw[Vb]at hf;exact hf _ (Ur.2 ⟨x,n,rfl⟩) (by simpa using a)
        |some e=>
         rw[hf]at c;have:=VL hf;simp only at c;rw[c]at this;simp at this
      unfold di at a;split at a
      .rename_i f
       split at a
       .rename_i hn
        simp only[An,L4]at f;obtain⟨⟨⟨⟨g,i⟩,j⟩,k⟩,l⟩:=f;refine⟨g,?_⟩;simp only[gp,An,L4];exact⟨⟨⟨⟨i,j⟩,k⟩,l⟩,hn⟩
       .cases a
      .cases a
     .cases h
theorem QV(a b c d:Int):ak prog (Op.equal 94 (.agg #[.int .i64 a,.int .i64 b]) (.agg #[.int .i64 c,.int .i64 d]))=some (a==c&&b==d):=by
 have hf:(prog.fieldsOf 94).toList=[(prog.fieldsOf 94)[0]!,(prog.fieldsOf 94)[1]!]:=by kernel_rfl
 show ak prog (Op.equalIn (9999+1) 94 _ _)=_;rw[AY 9999 94 _ _ (by kernel_rfl) (by kernel_rfl),hf]
 have h:=wt (P:=prog) (d:=9999) (xs:=#[.int .i64 a,.int .i64 b]) (ys:=#[.int .i64 c,.int .i64 d]) (f:=(prog.fieldsOf 94)[0]!) (fs:=[(prog.fieldsOf 94)[1]!]) (a:=.int .i64 a) (b:=.int .i64 c) (by decide +kernel) (by kernel_rfl) (by kernel_rfl) (ve 9998 _ .i64 .i64 a c (by kernel_rfl))
  (wt (by decide +kernel) (a:=.int .i64 b) (b:=.int .i64 d) (by kernel_rfl) (by kernel_rfl) (ve 9998 _ .i64 .i64 b d (by kernel_rfl)) GN)
 rw[h];simp
def F0(x y:AV)(fb:Option cK):Option cK:=match wv x,wv y with
 |some (a,b),some (c,d)=>some (.pv (.val (.bool (a==c&&b==d))),[])
 |_,_=>fb
@[simp] theorem Of(a b c d:Int)(fb:Option cK):F0 (.pv (.val (.agg #[.int .i64 a,.int .i64 b]))) (.pv (.val (.agg #[.int .i64 c,.int .i64 d]))) fb=some (.pv (.val (.bool (a==c&&b==d))),[]):=rfl
@[simp] theorem TZ{ty:TypeId}{pos:String}(x y:Operand):
 bz prog ⟨dst,.binOp .eql 94 x y 94,ty,pos,aft,g⟩ ρ=F0 (ρ x) (ρ y) (jq prog ⟨dst,.binOp .eql 94 x y 94,ty,pos,aft,g⟩ ρ):=by
 unfold F0;split
 .rename_i a b c d e f
  exact zd rfl (qd e) (qd f) (by kernel_rfl) (QV a b c d)
 .rfl
def vK(a b:Int)(p:Int×Int):Bool:=(p.1==a&&p.2==b)||(p.1==b&&p.2==a)
def j7(s:Sce)(a b:Int):Bool:=s.sks.any (vK a b)
theorem I2{v:α}(h:xs[i]?=some v)(hp:p v=true):xs.any p=true:=VX.2 ⟨v,Is h,hp⟩
theorem I3(hq:∀k x,k<i->xs[k]?=some x->p x=false)(h:¬i<xs.length):xs.any p=false:=by
 rw[VO];intro x b;obtain⟨k,a⟩:=UB b;simp[hq k x (by have:=(th.1 a).1;omega) a]
theorem F1{v:α}(b:xs[i]?=some v)(hq:∀k x,k<i->xs[k]?=some x->p x=false)(hp:p v=false):∀k x,k<i+1->xs[k]?=some x->p x=false:=by
 intro k x c a;by_cases e:k=i
 .subst e;rw[b]at a;injection a with a;subst a;exact hp
 .exact hq k x (by omega) a
theorem QW(s:Sce)(a b:Int)(y:s.sks.length<=9223372036854775807):kY 271 (eM s) (Z a) (Z b) (B (j7 s a b)):=by
 have e:j7 s a b=s.sks.any (vK a b):=rfl;rw[e];refine Dp func271 λC hP hN=>?_;refine Gz ?_;refine WP.loopN [8] s.sks.length (λi st=>st.t 1=.pv (Z a)/\st.t 2=.pv (Z b)/\st.t 10=.pv (.sl (s.sks.map aC))/\st.t 11=.pv (Z s.sks.length)/\st.t 12=.pv (Z i)/\st.h 8=none/\∀k x,k<i->s.sks[k]?=some x->vK a b x=false) (by simp) ?_;rintro i st hi ⟨g1,g2,o,q,r,u,hq⟩;by_cases c:i<s.sks.length
 .have A:=aj c y
  generalize g:s.sks[i]=v at *
  have n:s.sks[i]?=some v:=by rw[an c,g]
  have f:=F1 (p:=vK a b) n hq;have m:=I2 (p:=vK a b) n;have hp:vK a b v=((v.1==a&&v.2==b)||(v.1==b&&v.2==a)):=rfl
  cases j:(v.1==a&&v.2==b)with
  |true=>
   rw[j,Bool.true_or]at hp;have z:=m hp;exact Gy
  |false=>
   rw[j,Bool.false_or]at hp
   cases l:(v.1==b&&v.2==a)with
   |true=>
    rw[l]at hp;have z:=m hp;exact Gy
   |false=>
    rw[l]at hp;have d:=f hp;refine Gz ?_
    all_goals exact λk a b=>d k (a,b)
 .have hn:=I3 hq c
  exact Gy
def QX(L:List Int)(i:Nat)(j:J):Int:=if j.lo=j.hi then(L[(j.parent+1).toNat]?).getD 0 else(i:Int)
def pL(js:List J):Nat->List Int
 |0=>[-1]
 |i+1=>match js[i]? with
  |some j=>pL js i++[QX (pL js i) i j]
  |none=>pL js i
def ky(js:List J):List Int:=pL js js.length
theorem rt{js:List J}:∀i,i<=js.length->(pL js i).length=i+1
 |0,_=>rfl
 |i+1,h=>by
  have a:i<js.length:=by omega
  have ih:=rt (js:=js) i (by omega);simp only[pL,an a,Um,ih,UZ]
theorem ru{js:List J}{k:Nat}:∀i,k<=i->i<=js.length->∀q,q<=k->(pL js i)[q]?=(pL js k)[q]?
 |0,b,c,q,hq=>by have:k=0:=by omega
                 subst this;rfl
 |i+1,b,c,q,hq=>by
  by_cases e:k=i+1
  .subst e;rfl
  .have a:i<js.length:=by omega
   rw[<-ru i (by omega) (by omega) q hq];simp only[pL,an a];rw[T4 (by rw[rt i (by omega)];omega)]
theorem EU{j:J}(b:js[i]?=some j)(e:Au i j):(ky js)[i+1]?=some (if j.lo=j.hi then((ky js)[(j.parent+1).toNat]?).getD 0 else(i:Int)):=by
 have f:=(th.1 b).1;obtain⟨_,g,l⟩:=e;have c:(ky js)[i+1]?=(pL js (i+1))[i+1]?:=ru js.length (k:=i+1) (by omega) (Ua _) _ (Ua _);have d:(ky js)[(j.parent+1).toNat]?=(pL js i)[(j.parent+1).toNat]?:=ru js.length (k:=i) (by omega) (Ua _) _ (by omega);rw[c,d];have a:=rt (js:=js) i (by omega);simp only[pL,b];rw[T7 (by omega),a,VV];rfl
theorem QZ(js:List J)(ms:List Ms)(P:rq js)(Y:js.length<=10):aR 270 (iN js ms) (zs (ky js)):=by
 have S:(ky js).length=js.length+1:=rt _ (Ua _);have v:(ky js)[0]?=some (-1):=ru js.length (k:=0) (by omega) (Ua _) 0 (Ua _);have B:=λi j(h:js[i]?=some j)=>EU h (P i j h);generalize ky js=g at *;have W:i64.wrap ((js.length:Int)+1)=((js.length+1:Nat):Int):=(aa (by omega) (by omega)).trans (by omega);refine Dp func270 λC hP hN=>?_;refine GT (f7 W (show(8:Int)*((js.length:Int)+1)<=281474976710656 by omega) (show(js.length:Int)+1<=9223372036854775807 by omega) (show(0:Int)<=(js.length:Int)+1 by omega)) ?_;refine WP.loopN [5] js.length (λi st=>∃R:List Int,st.t 3=.arr 10 (js.length+1)/\st.t 14=.pv (.sl (js.map bu))/\st.t 15=.pv (Z js.length)/\st.t 16=.pv (Z i)/\st.h 5=none/\st.h 10=some (.row 3 1 (R.map Z) 0)/\R.length=js.length+1/\∀k,k<=i->R[k]?=g[k]?) ?_ ?_
 .refine⟨(List.replicate (js.length+1) 0).set 0 (-1),?_⟩
  simp[v,Vy,List.map_replicate]
 rintro i st hi ⟨R,g3,r,s,u,D,l,a,y⟩;by_cases d:i<js.length
 .have V:=aj d (by omega)
  generalize q:js[i]=j at *
  have M:js[i]?=some j:=by rw[an d,q]
  have f:=B i j M;obtain⟨_,T,U⟩:=P i j M;obtain⟨p,hp⟩:∃p:Nat,j.parent+1=p:=⟨(j.parent+1).toNat,by omega⟩;have X:i64.wrap (j.parent+1)=(p:Int):=(aa (by omega) (by omega)).trans hp
  have n:p<=i:=by omega
  have I:p<R.length:=by omega
  have c:i+1<R.length:=by omega
  have b:R[p]?=some R[p]:=an I;have A:R[i+1]?=some R[i+1]:=an c
  have L:((i:Int)+1).toNat=i+1:=by omega
  have F:(0:Int)<=(i:Int)+1:=by omega
  rw[hp]at f
  have K:g[p]?=some R[p]:=by rw[<-y p n];exact b
  rw[Uk,K,Uj]at f;generalize R[p]=O at *
  have key:∀x,g[i+1]?=some x->∀k,k<=i+1->(R.set (i+1) x)[k]?=g[k]?:=by
   intro x N k Q;rw[Ub];by_cases e:i+1=k
   .subst e;rw[T8 rfl,T8 c,N]
   .rw[TQ e];exact y k (by omega)
  have o:((R.map Z).set (i+1) (Z (i:Int)))[p]?=some (Z O):=by rw[Ub,TQ (by omega),TR,b];rfl
  have G:∀h,((R.map Z).set (i+1) (Z (i:Int)))[p]'h=Z O:=λh=>by
   have:=an h;rw[o]at this;injection this with this;exact this.symm
  by_cases m:j.lo=j.hi
  .rw[T8 m]at f
   have E:(j.lo==j.hi)=true:=by simp[m]
   with_reducible repeat' (first|refine Sp.h ?_|((first|refine Ss.h ?_|(refine Sb.h ?_ ?_ ?_<;>(try intro hgd)<;>try exact Xy))<;>simp -implicitDefEqProofs (maxSteps:=2000000) [hP,hN,g3,r,s,u,D,l,d,V,M,q,a,c,n,X,m,A,L,F,b,o,G,show p<js.length+1 by omega])|refine X2 ?_ ?_|(refine Xd ?_ ?_<;>intro hcd<;>try exact Xx))
   all_goals exact⟨R.set (i+1) O,by simp[Vy],by simp[a],key _ f⟩
  .rw[TQ m]at f
   have E:(j.lo==j.hi)=false:=by simp[m]
   refine Gz ?_
   all_goals exact⟨R.set (i+1) (i:Int),by simp[Vy],by simp[a],key _ f⟩
 .have H:i=js.length:=by omega
  subst H
  have z:R=g:=by
   apply UI;intro k;by_cases Q:k<=js.length
   .exact y k Q
   .rw[Uc (by omega),Uc (by omega)]
  subst z;exact Gy
def sZ(h:Sh):Nat:=(h.link+1).toNat
def Av(c:List Int)(a b:Sh):Bool:=(c[sZ a]?).getD 0==(c[sZ b]?).getD 0
def BQ(s:Sce)(a b:Sh):Bool:=!Av (ky s.js) a b&& !j7 s a.link b.link
def gq(s:Sce)(i q:Nat):Bool:=match s.shs[i]?,s.shs[q]? with
 |some a,some b=>BQ s a b
 |_,_=>false
def kW(s:Sce)(i:Nat):Nat->List (Nat×Nat)
 |0=>[]
 |k+1=>kW s i k++(if i<k/\gq s i k=true then[(i,k)]else[])
def jH(s:Sce):Nat->List (Nat×Nat)
 |0=>[]
 |i+1=>jH s i++kW s i s.shs.length
def eE(s:Sce):List (Nat×Nat):=if bi s=0 then jH s s.shs.length else[]
abbrev qh(p:Nat×Nat):PV:=.val (.agg #[.int .i64 (p.1:Int),.int .i64 (p.2:Int)])
theorem Aw(s:Sce)(i:Nat):∀k,k<=i+1->kW s i k=[]
 |0,_=>rfl
 |k+1,h=>by
  have:¬i<k:=by omega
  simp[kW,Aw s i k (by omega),this]
theorem wJ(s:Sce)(i:Nat):∀k,(kW s i k).length<=k
 |0=>Ua _
 |k+1=>by
  have:=wJ s i k;simp only[kW,Um];split<;>simp<;>omega
theorem wK(s:Sce):∀i,(jH s i).length<=i*s.shs.length
 |0=>by simp[jH]
 |i+1=>by
  have:=wK s i;have:=wJ s i s.shs.length;simp only[jH,Um,UK];omega
theorem I4{s:Sce}{h:Sh}(b:dt s.js.length h.link=true):∃x,(ky s.js)[sZ h]?=some x/\sZ h<(ky s.js).length/\h.link+1=(sZ h:Int)/\h.link<s.js.length:=by
 simp only[dt,An,L4]at b;have c:(ky s.js).length=s.js.length+1:=rt _ (Ua _)
 have a:sZ h<(ky s.js).length:=by unfold sZ;omega
 exact⟨_,an a,a,by unfold sZ;omega,b.2⟩
theorem Q0(s:Sce)(hs:ScL s):aR 217 (eM s) (.sl ((eE s).map qh)):=by
 have cc:=ET s hs;by_cases L:bi s=0
 case neg=>
  have hf:eE s=[]:=by simp[eE,L]
  have a8:(bi s !=0)=true:=by simp[L]
  rw[hf];generalize bi s=r at *;refine Dp func217 λC hP hN=>?_;exact Gy
 have hf:eE s=jH s s.shs.length:=by simp[eE,L]
 rw[hf];rw[L]at cc;obtain⟨v1,v2,v3,v4,v5,v6,v7⟩:=nc L;have cr:=QZ s.js s.ms v1 v2;have T:=λa b=>QW s a b hs.sks;have N:=λh(hh:h∈s.shs)=>I4 (s:=s) (v6 h hh).1;have a2:∀a b:Sh,BQ s a b=(!Av (ky s.js) a b&& !j7 s a.link b.link):=λ_ _=>rfl;generalize ky s.js=K at *;have nL:=wK s;have iL:=wJ s;refine Dp func217 λC hP hN=>?_;refine sP [4] trivial ?_;refine WP.loopN [6,8] s.shs.length (λi st=>st.t 1=.ptr 1 0/\st.h 1=some (.box [.pv (.sl (s.js.map bu)),.pv (.sl (s.ms.map cG)),.pv (.sl (s.shs.map cE)),.pv (.sl (s.sks.map aC))] true false)/\st.t 3=.pv (zs K)/\st.t 17=.pv (.sl (s.shs.map cE))/\st.t 18=.pv (Z s.shs.length)/\st.t 19=.pv (Z i)/\st.h 6=none/\st.h 8=none/\st.t 4=.arr 4 (jH s i).length/\st.h 4=some (.row 210 2 ((jH s i).map qh) 0)) (by simp[jH]) ?_;rintro i st hi ⟨g1,l,g3,f,g,j,m,n,g4,c⟩;by_cases O:i<s.shs.length
 .have hw:=aj O (by omega)
  generalize a6:s.shs[i]=a at *
  have hx:s.shs[i]?=some a:=by rw[an O,a6]
  obtain⟨xa,p,A,M,a9⟩:=N a (Is hx)
  have D:∀h,K[sZ a]'h=xa:=λh=>by have:=an h;rw[p]at this;injection this with this;exact this.symm
  have G:jH s (i+1)=jH s i++kW s i s.shs.length:=rfl;have bs:=nL i;have bq:i*s.shs.length<=24*24:=Vm (by omega) (by omega);have H:i64.wrap (a.link+1)=(sZ a:Int):=(aa (by omega) (by omega)).trans M;have ba:a.link+1=(sZ a:Int):=M;refine Gz ?_;refine WP.loopN [8] (s.shs.length-(i+1)) (λq st=>st.t 1=.ptr 1 0/\st.h 1=some (.box [.pv (.sl (s.js.map bu)),.pv (.sl (s.ms.map cG)),.pv (.sl (s.shs.map cE)),.pv (.sl (s.sks.map aC))] true false)/\st.t 3=.pv (zs K)/\st.t 17=.pv (.sl (s.shs.map cE))/\st.t 18=.pv (Z s.shs.length)/\st.t 19=.pv (Z i)/\st.t 5=.pv (Z i)/\st.t 6=.ptr 6 0/\st.h 6=some (.box [.pv (Z a.link),.pv (Z a.rad),.pv (aG a.pts)] true false)/\st.h 8=none/\st.t 7=.pv (Z ((i+1+q:Nat):Int))/\st.t 4=.arr 4 (jH s i++kW s i (i+1+q)).length/\st.h 4=some (.row 210 2 ((jH s i++kW s i (i+1+q)).map qh) 0)) (by simp[g1,l,g3,f,g,j,m,n,g4,c,Aw]) ?_;clear g1 l g3 f g j m n g4 c;rintro q st hq ⟨g1,l,g3,f,g,j,g5,U,m,n,R,g4,c⟩;obtain⟨k,hk⟩:∃k,k=i+1+q:=⟨_,rfl⟩
  have ar:i+1+(q+1)=k+1:=by omega
  rw[<-hk]at R g4 c;rw[ar];have V:kW s i (k+1)=kW s i k++(if i<k/\gq s i k=true then[(i,k)]else[]):=rfl;have bc:=iL i k;by_cases x:k<s.shs.length
  .have e:(k:Int)<(s.shs.length:Int):=by omega
   have J:i64.wrap ((k:Int)+1)=(k:Int)+1:=aa;generalize y:s.shs[k]=b at *
   have Q:s.shs[k]?=some b:=by rw[an x,y]
   obtain⟨xb,u,B,X,bb⟩:=N b (Is Q)
   have E:∀h,K[sZ b]'h=xb:=λh=>by have:=an h;rw[u]at this;injection this with this;exact this.symm
   have I:i64.wrap (b.link+1)=(sZ b:Int):=(aa (by omega) (by omega)).trans X
   have o:gq s i k=(!Av K a b&& !j7 s a.link b.link):=by simp only[gq,hx,Q,a2]
   have a5:Av K a b=(xa==xb):=by simp only[Av,p,u,Uj]
   rw[a5]at o;have S:=T a.link b.link
   have Y:i<k:=by omega
   have a7:(jH s i++kW s i k).length<=1000:=by simp only[Um];omega
   generalize z:jH s i++kW s i k=P at *
   have F:q<s.shs.length-(i+1):=by omega
   have W:jH s i++kW s i (k+1)=P++(if gq s i k=true then[(i,k)]else[]):=by
    rw[V,<-U7,z];simp[Y]
   rw[W];generalize j7 s a.link b.link=sk at *
   cases v:(xa==xb)with
   |true=>
    rw[v]at o
    have d:gq s i k=false:=by rw[o];rfl
    rw[d]
    with_reducible repeat' (first|refine Sp.h ?_|((first|refine Wd ?_|refine Ss.h ?_|refine Sc.h (S) ?_|(refine Sb.h ?_ ?_ ?_<;>(try intro hgd)<;>try exact Xy))<;>simp -implicitDefEqProofs (maxSteps:=2000000) [hP,hN,g1,l,g3,f,g,j,g5,U,m,n,R,g4,c,x,e,J,Q,y,H,I,p,A,u,B,D,E,v,F]<;>try refine Ya ?_)|refine X2 ?_ ?_|(refine Xd ?_ ?_<;>intro hcd<;>try exact Xx))
   |false=>
    rw[v]at o
    cases sk with
    |true=>
     have d:gq s i k=false:=by rw[o];rfl
     rw[d]
     with_reducible repeat' (first|refine Sp.h ?_|((first|refine Wd ?_|refine Ss.h ?_|refine Sc.h (S) ?_|(refine Sb.h ?_ ?_ ?_<;>(try intro hgd)<;>try exact Xy))<;>simp -implicitDefEqProofs (maxSteps:=2000000) [hP,hN,g1,l,g3,f,g,j,g5,U,m,n,R,g4,c,x,e,J,Q,y,H,I,p,A,u,B,D,E,v,F]<;>try refine Ya ?_)|refine X2 ?_ ?_|(refine Xd ?_ ?_<;>intro hcd<;>try exact Xx))
    |false=>
     have d:gq s i k=true:=by rw[o];rfl
     rw[d]
     with_reducible repeat' (first|refine Sp.h ?_|((first|refine Wd ?_|refine Ss.h ?_|refine Sc.h (S) ?_|(refine Sb.h ?_ ?_ ?_<;>(try intro hgd)<;>try exact Xy))<;>simp -implicitDefEqProofs (maxSteps:=2000000) [hP,hN,g1,l,g3,f,g,j,g5,U,m,n,R,g4,c,x,e,J,Q,y,H,I,p,A,u,B,D,E,v,F,show(P.length+1)*16<=140737488355328 by omega,show P.length<=9223372036854775806 by omega]<;>try refine Ya ?_)|refine X2 ?_ ?_|(refine Xd ?_ ?_<;>intro hcd<;>try exact Xx))
  .have a1:k=s.shs.length:=by omega
   have e:¬(k:Int)<(s.shs.length:Int):=by omega
   rw[a1,<-G]at g4 c;exact Gy
 .have ad:i=s.shs.length:=by omega
  subst ad;exact Gy
theorem Q1(x:Int×Int):aR 315 (aC x) (B (!az x.1 x.2)):=by
 refine Dp func315 λC hP hN=>?_;have a:=@jM;exact GS trivial
 all_goals (first|(simp_all;done)|((try simp_all)<;>(try omega)<;>grind))
def j8(js:List J)(bx:List Iv):Bool:=decide (bx.length=js.length)&&bT vI bx
theorem Q2(js:List J)(ms:List Ms)(bx:List Iv)(e:js.length<=9223372036854775807)(a:bx.length<=9223372036854775807):aK 272 (iN js ms) (iv bx) (B (j8 js bx)):=by
 have cc:=LR 315 (λx=>!az x.1 x.2) bx a Q1;have d:(bx.any λx=>!az x.1 x.2)=!bT vI bx:=Ew vI bx;rw[d]at cc;have hd:j8 js bx=(decide (bx.length=js.length)&&bT vI bx):=rfl;rw[hd];generalize bT vI bx=c at *;by_cases h:bx.length=js.length
 .have b:((bx.length:Int)==(js.length:Int))=true:=by simp[h]
  cases c
  all_goals
   refine Dp func272 λC hP hN=>?_;exact Gy
 .have b:((bx.length:Int)==(js.length:Int))=false:=by simp;omega
  refine Dp func272 λC hP hN=>?_;exact Gy
def zP:nW:=((((0,0),(0,0),(0,0)),((0,0),(0,0),(0,0)),((0,0),(0,0),(0,0))),((0,0),(0,0),(0,0)))
def F2(L:List nW)(j:J)(v:Iv):nW:=if j.parent=-1 then mv j v else nX ((L[j.parent.toNat]?).getD zP) (mv j v)
def j9(js:List J)(bx:List Iv):Nat->List nW
 |0=>[]
 |i+1=>match js[i]?,bx[i]? with
  |some j,some v=>j9 js bx i++[F2 (j9 js bx i) j v]
  |_,_=>j9 js bx i
def ie(js:List J)(bx:List Iv):List nW:=j9 js bx js.length
theorem kz{js:List J}{bx:List Iv}(c:bx.length=js.length):∀i,i<=js.length->(j9 js bx i).length=i
 |0,_=>rfl
 |i+1,h=>by
  have b:i<js.length:=by omega
  have a:i<bx.length:=by omega
  have ih:=kz c i (by omega);simp only[j9,an b,an a,Um,ih,UZ]
theorem uk{js:List J}{bx:List Iv}(c:bx.length=js.length){k:Nat}:∀i,k<=i->i<=js.length->∀q,q<k->(j9 js bx i)[q]?=(j9 js bx k)[q]?
 |0,d,f,q,hq=>by omega
 |i+1,d,f,q,hq=>by
  by_cases e:k=i+1
  .subst e;rfl
  .have b:i<js.length:=by omega
   have a:i<bx.length:=by omega
   rw[<-uk c i (by omega) (by omega) q hq];simp only[j9,an b,an a];rw[T4 (by rw[kz c i (by omega)];omega)]
theorem Dc{bx:List Iv}(c:bx.length=js.length){j:J}{v:Iv}(d:js[i]?=some j)(o:bx[i]?=some v)(g:Au i j):(ie js bx)[i]?=some (if j.parent=-1 then mv j v else nX (((ie js bx)[j.parent.toNat]?).getD zP) (mv j v)):=by
 have l:=(th.1 d).1;obtain⟨_,m,n⟩:=g;have e:(ie js bx)[i]?=(j9 js bx (i+1))[i]?:=uk c js.length (k:=i+1) (by omega) (Ua _) _ (by omega);rw[e];have a:=kz c i (by omega);simp only[j9,d,o];rw[T7 (by omega),a,VV];show some (F2 (j9 js bx i) j v)=_;unfold F2;by_cases b:j.parent=-1
 .rw[T8 b,T8 b]
 .rw[TQ b,TQ b]
  have f:(ie js bx)[j.parent.toNat]?=(j9 js bx i)[j.parent.toNat]?:=uk c js.length (k:=i) (by omega) (Ua _) _ (by omega);rw[f]
theorem KZ:bY zP=.val (.agg #[.int .i64 0,.int .i64 0,.int .i64 0,.int .i64 0,.int .i64 0,.int .i64 0,.int .i64 0,.int .i64 0,.int .i64 0,.int .i64 0,.int .i64 0,.int .i64 0,.int .i64 0,.int .i64 0,.int .i64 0,.int .i64 0,.int .i64 0,.int .i64 0,.int .i64 0,.int .i64 0,.int .i64 0,.int .i64 0,.int .i64 0,.int .i64 0]):=rfl
theorem K0:bE bm=.val (.agg #[.int .i64 0,.int .i64 0,.int .i64 0,.int .i64 0,.int .i64 0,.int .i64 0]):=rfl
theorem pt{R:List PV}{x:PV}(h:R[k]?=some x):∀a,R[k]'a=x:=λa=>by
 have:=an a;rw[h]at this;injection this with this;exact this.symm
set_option maxRecDepth 4000 in
theorem Q3(js:List J)(ms:List Ms)(bx:List Iv)(hj:rq js)(hl:js.length<=10)(hb:bx.length=js.length):aK 273 (iN js ms) (iv bx) (.sl ((ie js bx).map bY)):=by
 have X:(ie js bx).length=js.length:=kz hb _ (Ua _);have a1:=λi j v(T:js[i]?=some j)(W:bx[i]?=some v)=>Dc hb T W (hj i j T);generalize ie js bx=m at *;generalize G:m.map bY=B at *
 have bH:B.length=js.length:=by rw[<-G];simpa using X
 have I:∀k p,m[k]?=some p->B[k]?=some (bY p):=λk p h=>by rw[<-G,TR,h];rfl
 refine Dp func273 λC hP hN=>?_;refine GT (gA (show(192:Int)*(js.length:Int)<=281474976710656 by omega) (show(js.length:Int)<=9223372036854775807 by omega)) ?_;refine WP.loopN [7] js.length (λi st=>∃R:List PV,st.t 1=.pv (iv bx)/\st.t 5=.arr 11 js.length/\st.t 13=.pv (.sl (js.map bu))/\st.t 14=.pv (Z js.length)/\st.t 15=.pv (Z i)/\st.h 7=none/\st.h 11=some (.row 283 24 R 0)/\R.length=js.length/\(∀k,i<=k->k<js.length->R[k]?=some (bY zP))/\∀k,k<i->R[k]?=B[k]?) ?_ ?_
 .refine⟨List.replicate js.length (bY zP),?_⟩
  rw[KZ];simp
  try (intro k U;first|exact U|simp[Uv,U])
 rintro i st hi ⟨R,g1,g5,D,E,F,M,l,c,K,Y⟩;by_cases d:i<js.length
 .have hw:=aj d (by omega)
  generalize u:js[i]=j at *
  have V:js[i]?=some j:=by rw[an d,u]
  have f:i<bx.length:=by omega
  generalize s:bx[i]=v at *
  have hv:bx[i]?=some v:=by rw[an f,s]
  obtain⟨⟨a5,a6⟩,b0,b1⟩:=hj i j V;have cj:=QS (a:=v.1) (b:=v.2) j a5 a6;have L:=a1 i j v V hv;have n:=K i (Ua _) d;have N:=pt n
  have O:i<R.length:=by omega
  generalize hq:mv j (v.1,v.2)=q at *
  have key:∀x,m[i]?=some x->(∀k,i+1<=k->k<js.length->(R.set i (bY x))[k]?=some (bY zP))/\∀k,k<i+1->(R.set i (bY x))[k]?=B[k]?:=by
   intro x bs;refine⟨λk T W=>?_,λk T=>?_⟩
   .rw[Ub,TQ (by omega)];exact K k (by omega) W
   .rw[Ub]
    by_cases e:i=k
    .subst e;rw[T8 rfl,T8 O,I i x bs]
    .rw[TQ e];exact Y k (by omega)
  have Q:(R.set i (bY q))[i]?=some (bY q):=by rw[Ub,T8 rfl,T8 O]
  have bb:=pt Q;have bc:∀y,(R.set i (bY q)).set i y=R.set i y:=λy=>List.set_set ..;by_cases A:j.parent=-1
  .rw[T8 A]at L
   obtain⟨z,g⟩:=key q L
   have o:(j.parent==-1)=true:=by simp[A]
   have r:(j.parent != -1)=false:=by simp[A]
   refine GT (zAa g1 g5 D E F M l c d f hw V u hv (go s n N o r)) ?_
   all_goals first|exact⟨_,rfl,by simp[c],z,g⟩|exact⟨z,g⟩|exact⟨by simp[c],z,g⟩|exact g
  .rw[TQ A]at L
   obtain⟨p,hp⟩:∃p:Nat,j.parent=p:=⟨j.parent.toNat,by omega⟩
   have o:(j.parent==-1)=false:=by simp[A]
   have r:(j.parent != -1)=true:=by simp[A]
   have a7:(0:Int)<=j.parent:=by omega
   have P:j.parent.toNat=p:=by omega
   have a8:p<i:=by omega
   have ba:p<m.length:=by omega
   have H:m[p]?=some m[p]:=an ba;rw[P,H,Uj]at L;have ar:=(Y p a8).trans (I p _ H);generalize m[p]=pp at *;obtain⟨z,g⟩:=key _ L
   have S:(R.set i (bY q))[p]?=some (bY pp):=by rw[Ub,TQ (by omega)];exact ar
   have bq:=pt S
   have a9:p<js.length:=by omega
   have q1:=@vJ;refine GT (zAa g1 g5 D E F M l c d f hw V u hv (s7 s n N a7 P o r Q bb bc S (gA bq a9))) ?_
   all_goals first|exact⟨_,rfl,by simp[c],z,g⟩|exact⟨z,g⟩|exact⟨by simp[c],z,g⟩|exact g
 .have a2:i=js.length:=by omega
  subst a2
  have ad:R=B:=by
   apply UI;intro k;by_cases U:k<js.length
   .exact Y k U
   .rw[Uc (by omega),Uc (by omega)]
  subst ad;exact Gy
def eF(h:Sh)(p:nW):List aq:=h.pts.map λq=>iF p (dS q)
set_option maxRecDepth 4000 in
theorem Q4(h:Sh)(p:nW)(G:gp h=true):aK 275 (cE h) (bY p) (aB (eF h p)):=by
 have K:1<=h.pts.length/\h.pts.length<=8:=by
  simp only[gp,An,L4]at G;obtain⟨⟨⟨_,b3⟩,b4⟩,_⟩:=G;exact⟨b3,b4⟩
 have cc:=QT h (by omega);rw[G]at cc;have E:eF h p=h.pts.map λq=>iF p (dS q):=rfl;rw[E];generalize a:(h.pts.map λq=>iF p (dS q)).map bE=f
 have O:f.length=h.pts.length:=by rw[<-a];simp
 have g:∀k q,h.pts[k]?=some q->f[k]?=some (bE (iF p (dS q))):=λk q d=>by rw[<-a,TR,TR,d];rfl
 refine Dp func275 λC hP hN=>?_;refine GT (gA (show(48:Int)*(h.pts.length:Int)<=281474976710656 by omega) (show(h.pts.length:Int)<=9223372036854775807 by omega)) ?_;refine WP.loopN [7] h.pts.length (λi st=>∃R:List PV,st.t 3=.ptr 3 0/\st.h 3=some (.box [.pv (Z p.1.1.1.1),.pv (Z p.1.1.1.2),.pv (Z p.1.1.2.1.1),.pv (Z p.1.1.2.1.2),.pv (Z p.1.1.2.2.1),.pv (Z p.1.1.2.2.2),.pv (Z p.1.2.1.1.1),.pv (Z p.1.2.1.1.2),.pv (Z p.1.2.1.2.1.1),.pv (Z p.1.2.1.2.1.2),.pv (Z p.1.2.1.2.2.1),.pv (Z p.1.2.1.2.2.2),.pv (Z p.1.2.2.1.1),.pv (Z p.1.2.2.1.2),.pv (Z p.1.2.2.2.1.1),.pv (Z p.1.2.2.2.1.2),.pv (Z p.1.2.2.2.2.1),.pv (Z p.1.2.2.2.2.2),.pv (Z p.2.1.1),.pv (Z p.2.1.2),.pv (Z p.2.2.1.1),.pv (Z p.2.2.1.2),.pv (Z p.2.2.2.1),.pv (Z p.2.2.2.2)] true false)/\st.t 5=.arr 14 h.pts.length/\st.t 16=.pv (aG h.pts)/\st.t 17=.pv (Z h.pts.length)/\st.t 18=.pv (Z i)/\st.h 7=none/\st.h 14=some (.row 281 6 R 0)/\R.length=h.pts.length/\(∀k,i<=k->k<h.pts.length->R[k]?=some (bE bm))/\∀k,k<i->R[k]?=f[k]?) ?_ ?_
 .refine⟨List.replicate h.pts.length (bE bm),?_⟩
  rw[K0];simp
  try (intro k d;first|exact d|simp[Uv,d])
 rintro i st hi ⟨R,g3,x,g5,r,s,u,z,m,c,l,J⟩;by_cases b:i<h.pts.length
 .have P:=aj b (by omega)
  generalize n:h.pts[i]=q at *
  have L:h.pts[i]?=some q:=by rw[an b,n]
  have j:=l i (Ua _) b;have A:=pt j
  have B:i<R.length:=by omega
  have I:=IY q.1 q.2.1 q.2.2;have F:dS (q.1,q.2.1,q.2.2)=dS q:=rfl;rw[F]at I
  have H:∀y k,i+1<=k->k<h.pts.length->(R.set i y)[k]?=some (bE bm):=λy k M N=>by
   rw[Ub,TQ (by omega)];exact l k (by omega) N
  have o:∀k,k<i+1->(R.set i (bE (iF p (dS q))))[k]?=f[k]?:=λk M=>by
   rw[Ub];by_cases e:i=k
   .subst e;rw[T8 rfl,T8 B,g i q L]
   .rw[TQ e];exact J k (by omega)
  clear g a;generalize dS q=Q at *
  with_reducible repeat' (first|refine Sp.h ?_|((first|refine Wd ?_|refine Ss.h ?_|refine Sc.h (I) ?_|refine Sc.h (QF) ?_|(refine Sb.h ?_ ?_ ?_<;>(try intro hgd)<;>try exact Xy))<;>simp -implicitDefEqProofs (maxSteps:=2000000) [hP,hN,g3,x,g5,r,s,u,z,m,c,b,P,L,n,j,A]<;>try refine Ya ?_)|refine X2 ?_ ?_|(refine Xd ?_ ?_<;>intro hcd<;>try exact Xx))
  all_goals first|exact⟨_,rfl,by simp[c],H _,o⟩|exact⟨H _,o⟩|exact⟨by simp[c],H _,o⟩|exact o
 .have D:i=h.pts.length:=by omega
  subst D
  have v:R=f:=by
   apply UI;intro k;by_cases d:k<h.pts.length
   .exact J k d
   .rw[Uc (by omega),Uc (by omega)]
  subst v;exact Gy
  all_goals (rw[<-a];simp)
def ig(a:List nW)(h:Sh):nW:=if h.link=-1 then gJ else(a[h.link.toNat]?).getD zP
def gB(s:Sce)(bx:List Iv):List (List aq):=s.shs.map λh=>eF h (ig (ie s.js bx) h)
theorem um{bx:List Iv}:j8 js bx=true↔bx.length=js.length/\bT vI bx=true:=by simp[j8]
set_option maxRecDepth 4000 in
theorem Q5(s:Sce)(bx:List Iv)(hs:ScL s)(h0:bi s=0)(J:j8 s.js bx=true):aK 218 (eM s) (iv bx) (.sl ((gB s bx).map aB)):=by
 have cc:=ET s hs;rw[h0]at cc;obtain⟨v1,v2,v3,v4,v5,v6,v7⟩:=nc h0;have I:=(um.1 J).1;have cb:=Q2 s.js s.ms bx hs.js (by omega);rw[J]at cb;have cl:=Q3 s.js s.ms bx v1 v2 I;have ad:(ie s.js bx).length=s.js.length:=kz I _ (Ua _);have L:gB s bx=s.shs.map λh=>eF h (ig (ie s.js bx) h):=rfl;rw[L];generalize ie s.js bx=a at *;generalize f:(s.shs.map λh=>eF h (ig a h)).map aB=x
 have ar:x.length=s.shs.length:=by rw[<-f];simp
 have E:∀k h,s.shs[k]?=some h->x[k]?=some (aB (eF h (ig a h))):=λk q u=>by rw[<-f,TR,TR,u];rfl
 refine Dp func218 λC hP hN=>?_;refine GT (gA (show(24:Int)*(s.shs.length:Int)<=281474976710656 by omega) (show(s.shs.length:Int)<=9223372036854775807 by omega)) ?_;refine WP.loopN [8,9] s.shs.length (λi st=>∃R:List PV,st.t 5=.pv (.sl (a.map bY))/\st.t 6=.arr 27 s.shs.length/\st.t 29=.pv (.sl (s.shs.map cE))/\st.t 30=.pv (Z s.shs.length)/\st.t 31=.pv (Z i)/\st.h 8=none/\st.h 9=none/\st.h 27=some (.row 146 1 R 0)/\R.length=s.shs.length/\(∀k,i<=k->k<s.shs.length->R[k]?=some (.val (.slice none 0 0)))/\∀k,k<i->R[k]?=x[k]?) ?_ ?_
 .refine⟨List.replicate s.shs.length (.val (.slice none 0 0)),?_⟩
  simp
  try (intro k u;first|exact u|simp[Uv,u])
 rintro i st hi ⟨R,g5,Y,z,A,B,G,H,g,b,F,hR⟩;by_cases c:i<s.shs.length
 .have hw:=aj c (by omega)
  generalize o:s.shs[i]=h at *
  have N:s.shs[i]?=some h:=by rw[an c,o]
  have hm:=Is N;obtain⟨T,W⟩:=v6 h hm;simp only[dt,An,L4]at T;have j:=F i (Ua _) c;have K:=pt j
  have Q:i<R.length:=by omega
  have X:=λp=>Q4 h p W
  have v:∀y k,i+1<=k->k<s.shs.length->(R.set i y)[k]?=some (.val (.slice none 0 0)):=λy k h1 h2=>by
   rw[Ub,TQ (by omega)];exact F k (by omega) h2
  have d:∀k,k<i+1->(R.set i (aB (eF h (ig a h))))[k]?=x[k]?:=λk h1=>by
   rw[Ub];by_cases e:i=k
   .subst e;rw[T8 rfl,T8 Q,E i h N]
   .rw[TQ e];exact hR k (by omega)
  clear E f L;by_cases r:h.link=-1
  .have l:(h.link==-1)=true:=by simp[r]
   have m:(h.link != -1)=false:=by simp[r]
   have n:ig a h=gJ:=by simp[ig,r]
   rw[n]at d;have O:=X gJ;generalize eF h gJ=pl at *;have q1:=@IZ;refine GT (zAa g5 Y z A B G H g b c hw N o j (be K l m)) ?_
   all_goals first|exact⟨_,rfl,by simp[b],v _,d⟩|exact⟨v _,d⟩|exact⟨by simp[b],v _,d⟩|exact d
  .have l:(h.link==-1)=false:=by simp[r]
   have m:(h.link != -1)=true:=by simp[r]
   have U:(0:Int)<=h.link:=by omega
   obtain⟨p,hp⟩:∃p:Nat,h.link.toNat=p:=⟨_,rfl⟩
   have M:p<a.length:=by omega
   have D:a[p]?=some a[p]:=an M
   have n:ig a h=a[p]:=by simp only[ig,TQ r,hp,D,Uj]
   have a1:∀hh,a[p]'hh=a[p]:=λ_=>rfl;rw[n]at d;generalize V:a[p]=pp at *;have O:=X pp;generalize eF h pp=pl at *;have q1:=@IZ;refine GT (zAa g5 Y z A B G H g b c hw N o j (s5 K l m U hp M D V)) ?_
   all_goals first|exact⟨_,rfl,by simp[b],v _,d⟩|exact⟨v _,d⟩|exact⟨by simp[b],v _,d⟩|exact d
 .have S:i=s.shs.length:=by omega
  subst S
  have P:R=x:=by
   apply UI;intro k;by_cases u:k<s.shs.length
   .exact hR k u
   .rw[Uc (by omega),Uc (by omega)]
  subst P;exact Gy
  all_goals (rw[<-f];simp)
def rZ(v:aq)(k:Nat):Vc:=(if 0<k then mb v.1 else 0,if 1<k then mb v.2.1 else 0,if 2<k then mb v.2.2 else 0)
theorem Ax(l:List aq)(W:l.length<=9223372036854775807):aR 158 (aB l) (aG (aw l)):=by
 have Q:=uj l W
 cases hp:ao l with
 |false=>
  have M:aw l=[]:=by simp[aw,hp]
  rw[M];rw[hp]at Q;refine Dp func158 λC hP hN=>?_;exact Gy
 |true=>
 have M:aw l=l.map ju:=by simp[aw,hp]
 rw[M];rw[hp]at Q;simp only[ao,An,L4]at hp;obtain⟨⟨X,Y⟩,ad⟩:=hp;generalize z:(l.map ju).map am=B
 have V:B.length=l.length:=by rw[<-z];simp
 have D:∀k h,l[k]?=some h->B[k]?=some (am (ju h)):=λk q u=>by rw[<-z,TR,TR,u];rfl
 refine Dp func158 λC hP hN=>?_;refine GT (gA (show(24:Int)*(l.length:Int)<=281474976710656 by omega) (show(l.length:Int)<=9223372036854775807 by omega)) ?_;refine WP.loopN [5,7] l.length (λi st=>∃R:List PV,st.t 3=.arr 13 l.length/\st.t 14=.pv (aB l)/\st.t 15=.pv (Z l.length)/\st.t 16=.pv (Z i)/\st.h 5=none/\st.h 7=none/\st.h 13=some (.row 84 3 R 0)/\R.length=l.length/\(∀k,i<=k->k<l.length->R[k]?=some (nK 0 0 0))/\∀k,k<i->R[k]?=B[k]?) ?_ ?_
 .refine⟨List.replicate l.length (nK 0 0 0),?_⟩
  simp
  try (intro k u;first|exact u|simp[Uv,u])
 rintro i st hi ⟨R,g3,g,j,m,F,n,f,L,E,S⟩;by_cases o:i<l.length
 .have hw:=aj o (by omega)
  generalize O:l[i]=v at *
  have hx:l[i]?=some v:=by rw[an o,O]
  have K:=E i (Ua _) o;have I:=D i v hx;clear D;refine Gz ?_;refine WP.loopN [7] 3 (λk st=>∃p:List PV,st.t 3=.arr 13 l.length/\st.t 4=.pv (Z i)/\st.t 14=.pv (aB l)/\st.t 15=.pv (Z l.length)/\st.t 16=.pv (Z i)/\st.t 21=.pv (bE v)/\st.t 22=.pv (Z k)/\st.h 7=none/\st.h 13=some (.row 84 3 p 0)/\p.length=l.length/\p[i]?=some (nK (rZ v k).1 (rZ v k).2.1 (rZ v k).2.2)/\∀q,q≠i->p[q]?=R[q]?) ?_ ?_
  .refine⟨R,?_⟩
   simp[g3,g,j,m,F,n,f,L,K,rZ]
  clear g3 g j m F n f;rintro k st u ⟨p,g3,g4,g,j,m,x,r,n,f,c,d,A⟩;have s:=pt d
  have G:i<p.length:=by omega
  have b:∀y,(p.set i y)[i]?=some y:=λy=>by rw[Ub,T8 rfl,T8 G]
  have a:∀y q,q≠i->(p.set i y)[q]?=R[q]?:=λy q hq=>by rw[Ub,TQ (λe=>hq e.symm)];exact A q hq
  rcases eu u with rfl|rfl|rfl|rfl
  all_goals (simp[rZ]at d s r)
  .skip
   with_reducible repeat' (first|refine Sp.h ?_|((first|refine Wd ?_|refine Ss.h ?_|refine Sc.h (I1) ?_|(refine Sb.h ?_ ?_ ?_<;>(try intro hgd)<;>try exact Xy))<;>simp -implicitDefEqProofs (maxSteps:=2000000) [hP,hN,g3,g4,g,j,m,x,r,n,f,c,d,s,o,rZ,b]<;>try refine Ya ?_)|refine X2 ?_ ?_|(refine Xd ?_ ?_<;>intro hcd<;>try exact Xx))
   all_goals first|exact⟨_,rfl,by simp[c],b _,a _⟩|exact⟨by simp[c],b _,a _⟩|exact⟨b _,a _⟩|exact λq hq=>a _ q hq
  .skip
   with_reducible repeat' (first|refine Sp.h ?_|((first|refine Wd ?_|refine Ss.h ?_|refine Sc.h (I1) ?_|(refine Sb.h ?_ ?_ ?_<;>(try intro hgd)<;>try exact Xy))<;>simp -implicitDefEqProofs (maxSteps:=2000000) [hP,hN,g3,g4,g,j,m,x,r,n,f,c,d,s,o,rZ,b]<;>try refine Ya ?_)|refine X2 ?_ ?_|(refine Xd ?_ ?_<;>intro hcd<;>try exact Xx))
   all_goals first|exact⟨_,rfl,by simp[c],b _,a _⟩|exact⟨by simp[c],b _,a _⟩|exact⟨b _,a _⟩|exact λq hq=>a _ q hq
  .skip
   with_reducible repeat' (first|refine Sp.h ?_|((first|refine Wd ?_|refine Ss.h ?_|refine Sc.h (I1) ?_|(refine Sb.h ?_ ?_ ?_<;>(try intro hgd)<;>try exact Xy))<;>simp -implicitDefEqProofs (maxSteps:=2000000) [hP,hN,g3,g4,g,j,m,x,r,n,f,c,d,s,o,rZ,b]<;>try refine Ya ?_)|refine X2 ?_ ?_|(refine Xd ?_ ?_<;>intro hcd<;>try exact Xx))
   all_goals first|exact⟨_,rfl,by simp[c],b _,a _⟩|exact⟨by simp[c],b _,a _⟩|exact⟨b _,a _⟩|exact λq hq=>a _ q hq
  .have P:∀k,i+1<=k->k<l.length->p[k]?=some (nK 0 0 0):=λk T U=>by rw[A k (by omega)];exact E k (by omega) U
   have H:∀k,k<i+1->p[k]?=B[k]?:=λk T=>by
    by_cases e:k=i
    .subst e;rw[I,d];rfl
    .rw[A k e];exact S k (by omega)
   refine Gz ?_
   all_goals first|exact⟨_,rfl,c,P,H⟩|exact⟨c,P,H⟩|exact⟨P,H⟩|exact H
 .have N:i=l.length:=by omega
  subst N
  have J:R=B:=by
   apply UI;intro k;by_cases u:k<l.length
   .exact S k u
   .rw[Uc (by omega),Uc (by omega)]
  subst J;exact Gy
  all_goals (rw[<-z];simp)
set_option maxRecDepth 100000 in
@[simp] theorem Qc:ew prog 219:=by
 have hf:=func219;have nt:=ntmps219;have rs:=results219;exact xg
set_option maxRecDepth 100000 in
@[simp] theorem Qd:ew prog 324:=by
 have hf:=func324;have nt:=ntmps324;have rs:=results324;exact xg
def ax(l:List Vc):Nat->Vc
 |0=>(0,0,0)
 |i+1=>match l[i]? with
  |some p=>((ax l i).1+p.1,(ax l i).2.1+p.2.1,(ax l i).2.2+p.2.2)
  |none=>ax l i
theorem jF{l:List Vc}(d:l.all (av 268435456)=true):∀i:Nat,ff ((i:Int)*268435456) (ax l i)
 |0=>by simp[ax,ff]
 |i+1=>by
  obtain⟨e,f,i3⟩:=jF d i;simp only[ax];split
  .rename_i p hp
   obtain⟨a,b,c⟩:=eD (TP.1 d p (Is hp));exact⟨⟨by simp only;omega,by simp only;omega⟩,⟨by simp only;omega,by simp only;omega⟩,⟨by simp only;omega,by simp only;omega⟩⟩
  .exact⟨⟨by omega,by omega⟩,⟨by omega,by omega⟩,⟨by omega,by omega⟩⟩
def ua(s p:Vc)(j:Nat):List AV:=[.pv (Z (if 0<j then s.1+p.1 else s.1)),.pv (Z (if 1<j then s.2.1+p.2.1 else s.2.1)),.pv (Z (if 2<j then s.2.2+p.2.2 else s.2.2))]
theorem Mu(l:List Vc)(h8:l.length<=8)(q:l.all (av 268435456)=true):aR 325 (aG l) (am (ax l l.length)):=by
 refine Dp func325 λC hP hN=>?_;refine Gz ?_;refine WP.loopN [5] l.length (λi st=>st.t 2=.ptr 2 0/\st.h 2=some (.box [.pv (Z 0),.pv (Z 0),.pv (Z 0)] true false)/\st.t 3=.ptr 3 0/\st.h 3=some (.box [.pv (Z (ax l i).1),.pv (Z (ax l i).2.1),.pv (Z (ax l i).2.2)] true false)/\st.t 7=.pv (aG l)/\st.t 8=.pv (Z l.length)/\st.t 9=.pv (Z i)/\st.h 5=none) (by simp[ax]) ?_;rintro i st hi ⟨g2,b,g3,a,e,f,g,c⟩;by_cases m:i<l.length
 .have y:=aj m (by omega)
  generalize o:l[i]=p at *
  have r:l[i]?=some p:=by rw[an m,o]
  have z:=jF q (i+1);have hp:=eD (TP.1 q p (Is r))
  have hS:ax l (i+1)=((ax l i).1+p.1,(ax l i).2.1+p.2.1,(ax l i).2.2+p.2.2):=by simp only[ax,r]
  generalize ax l i=S at *;generalize ax l (i+1)=A at *;subst hS;obtain⟨s,u,v⟩:=z;simp only at s u v;have v1:i64.wrap (S.1+p.1)=S.1+p.1:=aa;have v2:i64.wrap (S.2.1+p.2.1)=S.2.1+p.2.1:=aa;have v3:i64.wrap (S.2.2+p.2.2)=S.2.2+p.2.2:=aa;clear s u v hp;have k:[AV.pv (Z S.1),AV.pv (Z S.2.1),AV.pv (Z S.2.2)]=ua S p 0:=rfl;rw[k]at a;refine Gz ?_;refine WP.loopN [] 3 (λj st=>st.t 2=.ptr 2 0/\st.h 2=some (.box [.pv (Z 0),.pv (Z 0),.pv (Z 0)] true false)/\st.t 3=.ptr 3 0/\st.h 3=some (.box (ua S p j) true false)/\st.t 5=.ptr 5 0/\st.h 5=some (.box [.pv (Z p.1),.pv (Z p.2.1),.pv (Z p.2.2)] true false)/\st.t 7=.pv (aG l)/\st.t 8=.pv (Z l.length)/\st.t 9=.pv (Z i)/\st.t 13=.pv (Z j)) (by simp[g2,b,g3,e,f,g,a,ua]) ?_;clear g2 b g3 e f g a c;rintro j st x ⟨g2,b,g3,a,g5,c,e,f,g,d⟩;rcases eu x with rfl|rfl|rfl|rfl
  all_goals (simp[ua]at a d)
  .skip
   with_reducible repeat' (first|refine Sp.h ?_|((first|refine Wd ?_|refine Ss.h ?_|(refine Sb.h ?_ ?_ ?_<;>(try intro hgd)<;>try exact Xy))<;>simp -implicitDefEqProofs (maxSteps:=2000000) [hP,hN,g2,b,g3,a,g5,c,e,f,g,d,v1,ua]<;>try refine Ya ?_)|refine X2 ?_ ?_|(refine Xd ?_ ?_<;>intro hcd<;>try exact Xx))
  .skip
   with_reducible repeat' (first|refine Sp.h ?_|((first|refine Wd ?_|refine Ss.h ?_|(refine Sb.h ?_ ?_ ?_<;>(try intro hgd)<;>try exact Xy))<;>simp -implicitDefEqProofs (maxSteps:=2000000) [hP,hN,g2,b,g3,a,g5,c,e,f,g,d,v2,ua]<;>try refine Ya ?_)|refine X2 ?_ ?_|(refine Xd ?_ ?_<;>intro hcd<;>try exact Xx))
  .skip
   with_reducible repeat' (first|refine Sp.h ?_|((first|refine Wd ?_|refine Ss.h ?_|(refine Sb.h ?_ ?_ ?_<;>(try intro hgd)<;>try exact Xy))<;>simp -implicitDefEqProofs (maxSteps:=2000000) [hP,hN,g2,b,g3,a,g5,c,e,f,g,d,v3,ua]<;>try refine Ya ?_)|refine X2 ?_ ?_|(refine Xd ?_ ?_<;>intro hcd<;>try exact Xx))
  .skip
   exact Gy
 .have n:i=l.length:=by omega
  subst n;exact Gy
abbrev ku:List Vc:=[(1,0,0),(-1,0,0),(0,1,0),(0,-1,0),(0,0,1),(0,0,-1)]
theorem Qe:BA 280 (aG ku):=by
 refine Dp func280 λC hP hN=>?_;exact Gy
theorem lw{l:List aq}:(aw l).all (av 268435456)=true:=by
 unfold aw;split
 .rename_i h
  have hp:=(bR h).1;rw[TP]at hp|-;intro x e;obtain⟨v,g,rfl⟩:=Ur.1 e;have f:=hp v g;rw[gh]at f;obtain⟨a,b,c⟩:=f
  have d:∀x:Iv,dH x=true->fU (mb x) 268435456=true:=λx e=>by
   rw[fP]at e;rw[aY];unfold mb;split<;>omega
  rw[bV];exact⟨d _ a,d _ b,d _ c⟩
 .rfl
theorem gg{l:List aq}(h:ao l=true):(aw l).length=l.length:=by simp[aw,h]
def kV(a b:List aq):Vc:=((ax (aw a) a.length).1*b.length-(ax (aw b) b.length).1*a.length,(ax (aw a) a.length).2.1*b.length-(ax (aw b) b.length).2.1*a.length,(ax (aw a) a.length).2.2*b.length-(ax (aw b) b.length).2.2*a.length)
def kv(a b:List aq):Vc:=if ao a&&ao b then bp (kV a b)else(0,0,0)
def lN(a b:List aq):Bool:=ao a&&ao b&&nz (bp (kV a b))
theorem FQ{l:List aq}(h:ao l=true):ff 2147483648 (ax (aw l) l.length):=by
 have a:=jF (lw (l:=l)) l.length;have b:=(bR h).2.1;exact jD a (by omega)
theorem EL{a b:List aq}(f:ao a=true)(g:ao b=true):ff 1099511627776 (kV a b):=by
 obtain⟨i,j,k⟩:=FQ f;obtain⟨l,m,t3⟩:=FQ g;have c:=(bR f).2.1;have d:=(bR g).2.1
 have e:∀x:Int,-2147483648<=x/\x<=2147483648->∀n:Nat,n<=8->-17179869184<=x*n/\x*n<=17179869184:=λx o n hn=>by
  have:=bF (a:=x) (b:=(n:Int)) 2147483648 8 (by omega) (by omega) (by omega) (by omega);omega
 have a1:=e _ i _ d;have a2:=e _ j _ d;have a3:=e _ k _ d;have b1:=e _ l _ c;have b2:=e _ m _ c;have b3:=e _ t3 _ c;unfold kV;exact⟨by simp only;omega,by simp only;omega,by simp only;omega⟩
def EM(v:Vc)(j:Nat):List AV:=[.pv (Z (if 0<j then v.1 else 0)),.pv (Z (if 1<j then v.2.1 else 0)),.pv (Z (if 2<j then v.2.2 else 0))]
theorem Qf(a b:List aq)(K:a.length<=9223372036854775807)(L:b.length<=9223372036854775807):aK 279 (aB a) (aB b) (.tup [am (kv a b),B (lN a b)]):=by
 have I:=uj a K;have J:=uj b L
 have hN:kv a b=if ao a&&ao b then bp (kV a b)else(0,0,0):=rfl
 have R:lN a b=(ao a&&ao b&&nz (bp (kV a b))):=rfl;rw[hN,R]
 cases c:ao a with
 |false=>
  rw[c]at I;refine Dp func279 λC hP hN=>?_;exact Gy
 |true=>
 rw[c]at I
 cases d:ao b with
 |false=>
  rw[d]at J;refine Dp func279 λC hP hN=>?_;exact Gy
 |true=>
 rw[d]at J;have c1:=Ax a K;have c2:=Ax b L;have P:=Mu (aw a) (by rw[gg c];exact(bR c).2.1) lw;have Q:=Mu (aw b) (by rw[gg d];exact(bR d).2.1) lw;rw[gg c]at P;rw[gg d]at Q;have v:=EL c d;have c5:=MM (kV a b) v;obtain⟨W,X,Y⟩:=FQ c;obtain⟨t1,t2,t3⟩:=FQ d;have s:=(bR c).2.1;have u:=(bR d).2.1;have i:kV a b=((ax (aw a) a.length).1*b.length-(ax (aw b) b.length).1*a.length,(ax (aw a) a.length).2.1*b.length-(ax (aw b) b.length).2.1*a.length,(ax (aw a) a.length).2.2*b.length-(ax (aw b) b.length).2.2*a.length):=rfl;simp only[Vl,Ul,Uq]
 have e:∀x:Int,-2147483648<=x/\x<=2147483648->∀n:Nat,n<=8->-17179869184<=x*n/\x*n<=17179869184:=λx hx n hn=>by
  have:=bF (a:=x) (b:=(n:Int)) 2147483648 8 (by omega) (by omega) (by omega) (by omega);omega
 generalize ax (aw a) a.length=S at *;generalize ax (aw b) b.length=T at *;generalize kV a b=V at *;have f1:=e _ W _ u;have f2:=e _ X _ u;have f3:=e _ Y _ u;have k1:=e _ t1 _ s;have k2:=e _ t2 _ s;have k3:=e _ t3 _ s;clear e
 have M:S.1*b.length-T.1*a.length=V.1:=by rw[i]
 have N:S.2.1*b.length-T.2.1*a.length=V.2.1:=by rw[i]
 have O:S.2.2*b.length-T.2.2*a.length=V.2.2:=by rw[i]
 clear i;have y:i64.wrap (S.1*b.length)=S.1*b.length:=aa;have z:i64.wrap (T.1*a.length)=T.1*a.length:=aa;have w0:i64.wrap (S.1*b.length-T.1*a.length)=V.1:=(aa (by omega) (by omega)).trans M;have A:i64.wrap (S.2.1*b.length)=S.2.1*b.length:=aa;have D:i64.wrap (T.2.1*a.length)=T.2.1*a.length:=aa;have w1:i64.wrap (S.2.1*b.length-T.2.1*a.length)=V.2.1:=(aa (by omega) (by omega)).trans N;have E:i64.wrap (S.2.2*b.length)=S.2.2*b.length:=aa;have F:i64.wrap (T.2.2*a.length)=T.2.2*a.length:=aa;have w2:i64.wrap (S.2.2*b.length-T.2.2*a.length)=V.2.2:=(aa (by omega) (by omega)).trans O;generalize bp V=n at *;have G:i64.wrap (a.length:Int)=(a.length:Int):=aa;have H:i64.wrap (b.length:Int)=(b.length:Int):=aa;refine Dp func279 λC hP hN=>?_;refine Gz ?_;refine WP.loopN [] 3 (λk st=>st.t 0=.pv (aB a)/\st.t 1=.pv (aB b)/\st.t 4=.ptr 4 0/\st.h 4=some (.box [.pv (Z 0),.pv (Z 0),.pv (Z 0)] true false)/\st.t 5=.ptr 5 0/\st.h 5=some (.box [.pv (B false)] true false)/\st.t 6=.ptr 6 0/\st.h 6=some (.box [.pv (Z S.1),.pv (Z S.2.1),.pv (Z S.2.2)] true false)/\st.t 7=.ptr 7 0/\st.h 7=some (.box [.pv (Z T.1),.pv (Z T.2.1),.pv (Z T.2.2)] true false)/\st.t 8=.ptr 8 0/\st.h 8=some (.box (EM V k) true false)/\st.t 26=.pv (Z k)) (by simp[EM]) ?_;rintro k st U ⟨g0,g1,g4,j,g5,l,p,m,q,o,r,g,f⟩;rcases eu U with rfl|rfl|rfl|rfl
 all_goals (simp[EM]at g f)
 .skip
  exact GS (zAa p m q o r g g0 g1 g4 g5 j l f y (go z w0 G H @EM.eq_1))
 .skip
  exact GS (zAa p m q o r g g0 g1 g4 g5 j l f A (go D w1 G H @EM.eq_1))
 .skip
  exact GS (zAa p m q o r g g0 g1 g4 g5 j l f E (go F w2 G H @EM.eq_1))
 .skip
  exact Gy
structure YEnv(P:Program) where
 N:Nat
 l:Nat
 xs:List PV
 J:Bool->Nat->(Nat->Nat->Prop)->World->Prop
 bd:∀s i M W,J s i M W->∀b o,M b o->b<W.heap.size
 gr:∀s i M W W',J s i M W->Ext (λ_=>False) W W'->J s i M W'
 yl:∀m i x M W v1,xs[i]?=some x->J false i M W->Rep W M x v1->YieldAt Fence.wide m P l #[v1] W λe W'=>∃(b:Bool)(M':Nat->Nat->Prop),e=.returned (.bool b)/\J (!b) (if b=true then i+1 else i) M' W'/\Pres W M W' M'
abbrev QY:=Exit->(Nat->AV)->Nat->Bool->Prop
def JI(E:YEnv P)(Q:QY):Exit->Act->World->Prop:=λe b f=>∃t' c d a,E.J d c a f/\eQ E.N a t' b f/\b.defers=[]/\Q e t' c d
def bM(E:YEnv P)(c:Code)(Q:QY)(t:Nat->AV)(i:Nat)(s:Bool):Prop:=
 ∀n a w M,E.J s i M w->eQ E.N M t a w->a.defers=[]->c.wpIn Fence.wide n P (JI E Q) a w
section
variable {P:Program} {E:YEnv P} {Q:QY} {t:Nat->AV} {i:Nat} {s:Bool}
theorem bM.walk(h:∀C:Cx,C.P=P->C.N=E.N->aE Fence.wide C c (λe b=>Q e (bC b.t) i s) ⟨t,λ_=>none⟩):bM E c Q t i s:=by
 intro n a w M g j hd;refine wpIn_mono (j.step (E.bd _ _ _ _ g) h) ?_;rintro e l m ⟨b,hq,d,k,f⟩;exact⟨_,i,s,M,E.gr _ _ _ _ _ g k,d,by rw[f];exact hd,hq⟩
theorem bM.mono{Q':QY}(h:bM E c Q t i s)(hq:∀e t i s,Q e t i s->Q' e t i s):bM E c Q' t i s:=
 λn a w M l k hd=>wpIn_mono (h n a w M l k hd) λ_ _ _ ⟨t',m,o,b,d,f,g,j⟩=>⟨t',m,o,b,d,f,g,hq _ _ _ _ j⟩
theorem bM.sub{t':Nat->AV}(h:bM E c Q t' i s)(e:∀m,t' m=.undef\/t' m=t m):bM E c Q t i s:=
 λn a w M d b hd=>h n a w M d (b.sub e) hd
def JJ{P:Program}(E:YEnv P)(y:Code)(Q:QY):QY
 |.normal,t,i,s=>bM E y Q t i s
 |e,t,i,s=>Q e t i s
theorem bM.seq{x:Code}(h:bM E x (JJ E y Q) t i s):bM E (.seq x y) Q t i s:=by
 intro n a w M l k hd;refine wpIn_seq (wpIn_mono (h n a w M l k hd) ?_);rintro e j p ⟨t',m,o,b,c,d,f,g⟩
 cases e with
 |normal=>exact g n j p b c d f
 |_=>exact⟨t',m,o,b,c,d,f,g⟩
theorem bM.skip(h:Q .normal t i s):bM E .skip Q t i s:=λ_ _ _ M b a hd=>wpIn_skip ⟨t,i,s,M,b,a,hd,h⟩
theorem bM.ret(h:Q .ret t i s):bM E .ret Q t i s:=λ_ _ _ M b a hd=>wpIn_ret ⟨t,i,s,M,b,a,hd,h⟩
theorem bM.exit(h:Q (.exit id) t i s):bM E (.exit id) Q t i s:=λ_ _ _ M b a hd=>wpIn_exit ⟨t,i,s,M,b,a,hd,h⟩
theorem bM.cond{m:Nat}{x:Code}{b:Bool}(g:t m=.pv (.val (.bool b)))(k:b=true->bM E x Q t i s)(hf:b=false->bM E y Q t i s):bM E (.cond (.tmp m) x y) Q t i s:=by
 intro n a w M f c hd
 have d:a.eval (.tmp m)=.bool b:=by
  rcases c.2 m with e|⟨p,e,j⟩
  .grind
  .rw[g]at e;injection e with e;subst e;exact aM j
 exact wpIn_cond_split d (λe=>k e n a w M f c hd) (λe=>hf e n a w M f c hd)
def yF(a:Nat)(Q:QY):QY
 |.exit j,t,i,s=>if j=a then Q .normal t i s else Q (.exit j) t i s
 |e,t,i,s=>Q e t i s
theorem bM.block(h:bM E c (yF id Q) t i s):bM E (.block id c) Q t i s:=by
 intro n a w M p o hd;refine wpIn_block (wpIn_mono (h n a w M p o hd) ?_);rintro e q r ⟨t',l,m,d,f,g,k,b⟩
 cases e with
 |exit j=>
  simp only[yF,Exit.inBlock]at b|-;split
  .rename_i e;rw[T8 e]at b;exact⟨t',l,m,d,f,g,k,b⟩
  .rename_i e;rw[TQ e]at b;exact⟨t',l,m,d,f,g,k,b⟩
 |_=>exact⟨t',l,m,d,f,g,k,b⟩
theorem bM.loopN(K:Nat)(I:Nat->(Nat->AV)->Nat->Bool->Prop)(S:I 0 t i s)
 (round:∀k t i s,k<=K->I k t i s->bM E c (λe t i s=>match e with|.normal=>k<K/\I (k+1) t i s|e=>Q e t i s) t i s):bM E (.loop c) Q t i s:=by
 classical
 intro n a w M P O hd
 let b:Nat->Act->World->Prop:=λk a w=>∃t i s M,I k t i s/\E.J s i M w/\eQ E.N M t a w/\a.defers=[]
 have f:∀a w,(∃k,k<=K/\b k a w)->∃k,k<=K/\b k a w/\∀j,j<=K->b j a w->j<=k:=by
  intro a w ⟨U,r,L⟩
  have:∀d k,K-k<=d->k<=K->b k a w->∃k,k<=K/\b k a w/\∀j,j<=K->b j a w->j<=k:=by
   intro d
   induction d with
   |zero=>intro k hd R m;exact⟨k,R,m,λj X _=>by omega⟩
   |succ d ih=>
    grind
  exact this K U (by omega) r L
 refine wpIn_loop (λa w=>∃k,k<=K/\b k a w) (λa w=>K-(if h:∃k,k<=K/\b k a w/\∀j,j<=K->b j a w->j<=k then h.choose else 0)) ⟨0,UR _,t,i,s,M,S,P,O,hd⟩ ?_;intro a1 F o;have u:=f a1 F o;have v:=u.choose_spec;obtain⟨W,T,V,H,g1,g2,g3,g4⟩:=v.2.1;refine wpIn_mono (round _ W T V v.1 g1 n a1 F H g2 g3 g4) ?_;rintro e a2 G ⟨D,x,C,q,y,z,A,B⟩
 cases e with
 |normal=>
  obtain⟨l,m⟩:=B;have g:b (u.choose+1) a2 G:=⟨D,x,C,q,m,y,z,A⟩;refine⟨⟨_,l,g⟩,?_⟩;have p:=f a2 G ⟨_,l,g⟩;have r:=p.choose_spec.2.2 _ l g
  grind
 |_=>exact⟨D,x,C,q,y,z,A,B⟩
end
theorem wV{l:Nat}{rest:List Oper}{c:Call}{f x:Operand}{Q:Exit->Act->World->Prop}{a:Act}{w:World}{R:Ending->World->Prop}(r:Region.wanted o (yielded ops a.tmps)=true)(q:o.op=.call c)(j:c.callee=.value f)(b:c.args=#[x])
 (hf:a.eval f=.func (.yield l) #[] #[])(s:YieldAt Fence.wide (n-1) P l #[a.eval x] w R)
 (i:∀e m,R e m->∃v,e=.returned v/\wpListIn Fence.wide n P ops Q rest (a.put o.dst v) m):wpListIn Fence.wide n P ops Q (o::rest) a w:=by
 obtain⟨fn,tmps,assign,body,k,d⟩:=s;unfold wpListIn;rw[T8 r];refine⟨λ_ _=>trivial,?_⟩;show o.uponIn Fence.wide n P a _ Q ((o.semAt none a.eval).run P w);rw[Oper.semAt_none]
 have g:(execOp a.eval o).run P w=.ok (.round l fn tmps assign body) w:=by
  generalize a.eval=ρ at hf k;unfold execOp;rw[q];obtain⟨p,u,at_⟩:=c;simp only at j b;subst j;subst b;simp[resolve,hf,invoke,go_sem,k]
 rw[g];refine⟨λh=>(by cases h),d.mono ?_⟩
 grind
section
variable {P:Program} {E:YEnv P} {Q:QY} {t:Nat->AV} {i:Nat}
theorem bM.yield{d f x:Nat}{c:Call}(s:ops.toList=pre++o::post)(O:qC ops=true)(ho:o.op=.call c)(hc:c.callee=.value (.tmp f))(u:c.args=#[.tmp x])(hd:o.dst=some d)(K:d<E.N)
 (B:dK P hn E.N ops (λg=>g.t f=.pv (.val (.func (.yield E.l) #[] #[]))/\fA ops (bC g.t) o.guard=some true/\∃q,g.t x=.pv q/\E.xs[i]?=some q/\
   ∀b,dK P hn E.N ops (λC=>Q .normal (bC C.t) (if b=true then i+1 else i) (!b)) post ⟨ae (bC g.t) d (.pv (.val (.bool b))),λ_=>none⟩) pre ⟨t,λ_=>none⟩):bM E (.region id ops false) Q t i false:=by
 intro n a w M W hH L;refine wpIn_region_list ?_;rw[s];refine dQ _ ?_;have r:∀y∈pre++o::post,∀c,y.op≠.defer c:=λy j=>lJ O (by rw[s];exact j);refine hH.list (E.bd _ _ _ _ W) (λy j=>r y (VT _ j)) B ?_;rintro g D X ⟨h1,h2,q,h3,h4,h5⟩ k hx v;have z:=E.gr _ _ _ _ _ W hx;have H:=E.bd _ _ _ _ z
 have Y:D.eval (.tmp f)=.func (.yield E.l) #[] #[]:=by
  rcases k.2 f with e|⟨p,e,T⟩
  .grind [bC]
  .simp only[bC,h1]at e;injection e with e;subst e;exact aM T
 have Z:Rep X M q (D.eval (.tmp x)):=by
  rcases k.2 x with e|⟨p,e,T⟩
  .grind [bC]
  .simp only[bC,h3]at e;injection e with e;subst e;exact T
 refine wV ?_ ho hc u Y (E.yl (n-1) i q M X _ h4 z Z) ?_
 .exact ey (k.sim (P:=P) H).2.2 h2
 rintro e w2 ⟨b,V,rfl,A,R⟩;refine⟨_,rfl,?_⟩
 have F:eQ E.N V (ae (bC g.t) d (.pv (.val (.bool b)))) (D.put o.dst (.bool b)) w2:=by
  have I:=k.mono R;rw[hd]
  have v:d<D.tmps.size:=by rw[I.1];exact K
  refine⟨by simpa[Act.put]using I.1,λm=>?_⟩;rw[qR v];simp only[ae];split
  .exact .inr ⟨_,rfl,.val _⟩
  .exact I.2 m
 refine F.list (E.bd _ _ _ _ A) (λy j=>r y (List.mem_append_right _ (Wv _ j))) (h5 b) ?_;intro ad a3 w3 S G U J;exact⟨_,_,_,V,E.gr _ _ _ _ _ A U,G,by rw[J,kj,v];exact L,S⟩
end
def tI(l:Nat)(caps:List PV):Nat->AV
 |0=>.pv (.val (.func (.yield l) #[] #[]))
 |k+1=>match caps[k]? with
  |some p=>.pv p
  |none=>.undef
theorem HO{gf:FuncId}{fn:Func}{caps xs:List PV}(hf:P.funcs[gf]?=some fn)(V:fn.body=some c)(q:da P gf=true)(v:fn.results=#[])(H:caps.length+1<=fn.ntmps)
 (h:∀E:YEnv P,E.N=fn.ntmps->E.xs=xs->bM E c (λe _ i s=>(e=.normal\/e=.ret)/\(if s=true then i<xs.length else i=xs.length)) (tI E.l caps) 0 false):BG P gf caps xs:=by
 refine⟨q,λn l a W M J g A T B U hY O f=>?_⟩
 have I:∀(s:Bool) i M W,(if s=true then g i M W else J i M W)->∀b o,M b o->b<W.heap.size:=by
  intro s i M W F
  cases s with
  |true=>exact B i M W F
  |false=>exact A i M W F
 have K:∀(s:Bool) i M W j,(if s=true then g i M W else J i M W)->Ext (λ_=>False) W j->(if s=true then g i M j else J i M j):=by
  grind
 have L:∀m i x M W v1,xs[i]?=some x->(if false=true then g i M W else J i M W)->Rep W M x v1->YieldAt Fence.wide m P l #[v1] W λe j=>∃(b:Bool)(d:Nat->Nat->Prop),e=.returned (.bool b)/\(if(!b)=true then g (if b=true then i+1 else i) d j else J (if b=true then i+1 else i) d j)/\Pres W M j d:=by
  grind
 let E:YEnv P:={N:=fn.ntmps,l:=l,xs:=xs,J:=λs i M W=>if s=true then g i M W else J i M W,bd:=I,gr:=K,yl:=L}
 have X:=f.1;refine(callsIn_of_wp_marks hf V trivial ?_ rfl)
 have S:eQ fn.ntmps M (tI l caps) {tmps:=((#[Value.func (.yield l) #[] #[]]:Array Value)++a.toArray)++Array.replicate (fn.ntmps-((#[Value.func (.yield l) #[] #[]]:Array Value)++a.toArray).size) undef,defers:=[]} W:=by
  refine⟨by simp;omega,λm=>?_⟩
  cases m with
  |zero=>
   have D:(((#[Value.func (.yield l) #[] #[]]:Array Value)++a.toArray)++Array.replicate (fn.ntmps-((#[Value.func (.yield l) #[] #[]]:Array Value)++a.toArray).size) undef).getD 0 undef=.func (.yield l) #[] #[]:=by
    rw[T9,UF (by simp),UF (by simp)];rfl
   refine .inr ⟨_,rfl,?_⟩;simp only[D];exact .val _
  |succ k=>
   simp only[tI]
   cases G:caps[k]? with
   |none=>exact .inl rfl
   |some p=>
    have u:k<a.length:=by rw[<-X];exact(th.1 G).1
    have hr:=f.2 k p a[k] G (an u);refine .inr ⟨p,rfl,?_⟩
    have D:(((#[Value.func (.yield l) #[] #[]]:Array Value)++a.toArray)++Array.replicate (fn.ntmps-((#[Value.func (.yield l) #[] #[]]:Array Value)++a.toArray).size) undef).getD (k+1) undef=a[k]:=by
     rw[T9,UF (by simp;omega),Array.getElem?_append_right (by simp)];simp[u]
    grind
 refine wpIn_mono (h E rfl rfl n _ W M O S rfl) ?_;rintro e z y ⟨t',i',s',d,Y,Z,Q,R,h5⟩
 have r:((∃d,J xs.length d y)\/∃i d,i<xs.length/\g i d y):=by
  grind
 have C:(results fn z.tmps).run P y=.ok (.tuple #[]) y:=by
  unfold results;rw[v];simp[go_sem]
 rcases R with rfl|rfl
 all_goals
  show LeavesInM Fence.wide n P fn z.tmps _ z.defers .returning y
  rw[Q];exact⟨_,C,⟨_,rfl⟩,r⟩
section
variable {P:Program} {E:YEnv P} {Q:QY} {C:Cx} {st:St} {i:Nat} {s:Bool}
def bW{P:Program}(E:YEnv P)(C:Cx)(c:Code)(Q:QY)(st:St)(i:Nat)(s:Bool):Prop:=
 C.P=P->C.N=E.N->(∀b,¬C.S b)->E.J s i C.M0 C.w0->∀n L a w,gM C L st a w->a.defers=[]->c.wpIn Fence.wide n P (JI E Q) a w
theorem JL{C:Cx}(h:∀b,¬C.S b){w c:World}(a:Ext C.S w c):Ext (λ_=>False) w c:=by
 have e:C.S=λ_=>False:=funext λb=>propext ⟨λd=>(h b d).elim,False.elim⟩;rw[e]at a;exact a
theorem bM.blocks{t:Nat->AV}(h:∀C:Cx,C.P=P->C.N=E.N->bW E C c Q ⟨t,λ_=>none⟩ i s):bM E c Q t i s:=by
 intro n a w M b d hd;exact h {P:=P,N:=E.N,M0:=M,S:=λ_=>False,pb:=λ_=>none,w0:=w} rfl rfl rfl rfl (λ_ h=>h) b n _ a w (d.sim (E.bd _ _ _ _ b)) hd
theorem bW.drop(h:bM E c Q (bC st.t) i s):bW E C c Q st i s:=by
 intro hP hN hS e n L a w d hd;have b:=qD d;rw[hN]at b;exact h n a w C.M0 (E.gr _ _ _ _ _ e (JL hS d.1.ext)) b hd
def NQ{P:Program}(E:YEnv P)(C:Cx)(y:Code)(Q:QY)(i:Nat)(s:Bool):Exit->St->Prop
 |.normal,st=>bW E C y Q st i s
 |e,st=>Q e (bC st.t) i s
theorem bW.seq{x:Code}(h:aE Fence.wide C x (NQ E C y Q i s) st):bW E C (.seq x y) Q st i s:=by
 intro hP hN hS j n L a w l hd;subst hP;refine wpIn_seq (wpIn_mono (h n L a w l) ?_);rintro e f o ⟨m,k,b,_,d,hq⟩
 have c:f.defers=[]:=by rw[d];exact hd
 have g:=qD b;rw[hN]at g
 cases e with
 |normal=>exact hq rfl hN hS j n k f o b c
 |_=>exact⟨_,i,s,C.M0,E.gr _ _ _ _ _ j (JL hS b.1.ext),g,c,hq⟩
theorem bW.walk(h:aE Fence.wide C c (λe d=>Q e (bC d.t) i s) st):bW E C c Q st i s:=by
 intro hP hN hS j n L a w k hd;subst hP;refine wpIn_mono (h n L a w k) ?_;rintro e m o ⟨d,l,b,_,f,hq⟩;have g:=qD b;rw[hN]at g;exact⟨_,i,s,C.M0,E.gr _ _ _ _ _ j (JL hS b.1.ext),g,by rw[f];exact hd,hq⟩
theorem bW.cond{m:Nat}{x:Code}{b:Bool}(g:st.t m=.pv (.val (.bool b)))(k:b=true->bW E C x Q st i s)(hf:b=false->bW E C y Q st i s):bW E C (.cond (.tmp m) x y) Q st i s:=by
 intro hP hN hS f n L a w d hd
 have c:a.eval (.tmp m)=.bool b:=by
  have h:=d.2.2 m;rw[g]at h
  cases h with
  |pv j=>exact aM j
 exact wpIn_cond_split c (λe=>k e hP hN hS f n L a w d hd) (λe=>hf e hP hN hS f n L a w d hd)
theorem bW.seqY{x:Code}(h:bW E C x (JJ E y Q) st i s):bW E C (.seq x y) Q st i s:=by
 intro hP hN hS k n L a w l hd;refine wpIn_seq (wpIn_mono (h hP hN hS k n L a w l hd) ?_);rintro e j p ⟨t',m,o,b,c,d,f,g⟩
 cases e with
 |normal=>exact g n j p b c d f
 |_=>exact⟨t',m,o,b,c,d,f,g⟩
theorem bW.block(h:bW E C c (yF id Q) st i s):bW E C (.block id c) Q st i s:=by
 intro hP hN hS o n L a w p hd;refine wpIn_block (wpIn_mono (h hP hN hS o n L a w p hd) ?_);rintro e q r ⟨t',l,m,d,f,g,k,b⟩
 cases e with
 |exit j=>
  simp only[yF]at b;show(if j=id then _ else _);split
  .rename_i e;rw[T8 e]at b;exact⟨t',l,m,d,f,g,k,b⟩
  .rename_i e;rw[TQ e]at b;exact⟨t',l,m,d,f,g,k,b⟩
 |_=>exact⟨t',l,m,d,f,g,k,b⟩
theorem bW.yield{d f x:Nat}{c:Call}(s:ops.toList=pre++o::post)(S:qC ops=true)(ho:o.op=.call c)(hc:c.callee=.value (.tmp f))(v:c.args=#[.tmp x])(hd:o.dst=some d)(O:d<E.N)
 (u:dK P hn E.N ops (λg=>g.t f=.pv (.val (.func (.yield E.l) #[] #[]))/\fA ops (bC g.t) o.guard=some true/\∃q,g.t x=.pv q/\E.xs[i]?=some q/\
   ∀b,dK P hn E.N ops (λF=>Q .normal (bC F.t) (if b=true then i+1 else i) (!b)) post ⟨ae (bC g.t) d (.pv (.val (.bool b))),λ_=>none⟩) pre st):bW E C (.region id ops false) Q st i false:=by
 intro hP hN hS hJ n L a w hs R;subst hP;rw[<-hN]at u;refine wpIn_region_list ?_;rw[s];refine dQ _ ?_;have r:∀z∈pre++o::post,∀c,z.op≠.defer c:=λz j=>lJ S (by rw[s];exact j);refine iK gC (λg L' G w' D _ y hq=>?_) (λz j=>r z (VT _ j)) hs (aI.refl hs.1) rfl u;obtain⟨Y,h2,q,Z,h4,h5⟩:=hq;have k:=qD D;have A:=E.gr _ _ _ _ _ hJ (JL hS D.1.ext);have J:=E.bd _ _ _ _ A
 have ef:G.eval (.tmp f)=.func (.yield E.l) #[] #[]:=by
  rcases k.2 f with e|⟨p,e,V⟩
  .simp only[bC,Y]at e;cases e
  .simp only[bC,Y]at e;injection e with e;subst e;exact aM V
 have ex:Rep w' C.M0 q (G.eval (.tmp x)):=by
  rcases k.2 x with e|⟨p,e,V⟩
  .simp only[bC,Z]at e;cases e
  .simp only[bC,Z]at e;injection e with e;subst e;exact V
 refine wV ?_ ho hc v ef (E.yl (n-1) i q C.M0 w' _ h4 A ex) ?_
 .exact ey (k.sim (P:=C.P) J).2.2 h2
 rintro e w2 ⟨b,X,rfl,B,T⟩;refine⟨_,rfl,?_⟩
 have H:eQ E.N X (ae (bC g.t) d (.pv (.val (.bool b)))) (G.put o.dst (.bool b)) w2:=by
  have K:=k.mono T;rw[hd]
  have y:d<G.tmps.size:=by rw[K.1,hN];exact O
  refine⟨by simpa[Act.put,hN]using K.1,λm=>?_⟩;rw[qR y];simp only[ae];split
  .exact .inr ⟨_,rfl,.val _⟩
  .exact K.2 m
 refine H.list (E.bd _ _ _ _ B) (λz j=>r z (List.mem_append_right _ (Wv _ j))) (by rw[hN]at h5;exact h5 b) ?_;intro ad a3 w3 U I W M;exact⟨_,_,_,X,E.gr _ _ _ _ _ B W,I,by rw[M,kj,y];exact R,U⟩
end
def uN(C:Cx)(ds:List Deferred)(st:St)(a:Act)(w:World):Prop:=∃L,MemL C L st.h w/\a.tmps.size=C.N/\a.defers=ds/\∀n,RepA w (ab C L st.h) L st.h (st.t n) (a.tmps.getD n undef)
theorem uN.put{C:Cx}{ds:List Deferred}{L:Nat->Loc}{st:St}{a:Act}{w:World}(j:MemL C L st.h w)(hN:a.tmps.size=C.N)(b:a.defers=ds)(k:∀n,RepA w (ab C L st.h) L st.h (st.t n) (a.tmps.getD n undef))
 {d:Option Nat}(hd:dm C.N d=true){v:AV}{W:List (Nat×Blk)}{u:Value}{c:World}{L':Nat->Loc}(i:aI C L st.h w L' (ai st.h W) c)(l:RepA c (ab C L' (ai st.h W)) L' (ai st.h W) v u):
 uN C ds (st.put d v W) (a.put d u) c:=by
 obtain⟨e,f,g⟩:=gM.put (a:=a) ⟨j,hN,k⟩ hd i l;exact⟨L',e,f,(kj _ _ _).trans b,g⟩
section
variable {C:Cx} {hn:List Nat} {ops:Array Oper} {fs:List Ef} {st:St} {ds:List Deferred}
theorem Gp(z:jY ops=true)(b3:fs.length=ops.size)(V:∀(i:Nat) o f,ops[i]?=some o->fs[i]?=some f->nE C.P hn C.N ops o (run (fs.take i) st) f)
 (R:jz (jX ops.toList []) (fs.map λf=>(f.W.map (·.1),f.K))=true){Q':Exit->Act->World->Prop}(hQ:∀a w,uN C ds (run fs st) a w->Q' .normal a w):
 ∀(fuel:Nat)(c:Array Bool)(a:Act)(w:World),c.size=ops.size->((List.range ops.size).filter λj=>!aJ c j).length<=fuel->(∀i j,nB ops i j->aJ c j=true->aJ c i=true)->
  uN C ds (fh fs ops.size st (aJ c)) a w->wpAny C.P .any ops Q' fuel c a w:=by
 have H:∀c:Array Bool,Region.ready .any ops c=[]->c.size=ops.size->∀j,j<ops.size->aJ c j=true:=by
  intro c X B j
  induction j using Nat.strongRecOn with
  |_ j ih=>
   intro l
   cases hl:aJ c j with
   |true=>rfl
   |false=>
    have:j∈Region.ready .any ops c:=lI.2 ⟨l,hl,λq hq=>by
     have cj:=qb z hq;have:=ih q cj (by omega);unfold aJ at this;rw[T9]at this|-;rw[UJ (by omega)]at this|-
     simpa using this⟩
    rw[X]at this;cases this
 have a1:∀(c:Array Bool) a w,Region.ready .any ops c=[]->c.size=ops.size->uN C ds (fh fs ops.size st (aJ c)) a w->Q' .normal a w:=by
  intro c a w X B D;apply hQ;have hl:=H c X B
  have:fh fs ops.size st (aJ c)=run fs st:=by
   have ht:run fs st=run (fs.take ops.size) st:=by rw[Us (by omega)]
   rw[ht]
   have F:(fh fs ops.size st (aJ c)).t=(run (fs.take ops.size) st).t:=by
    funext r;rw[nF fs st _ (by omega)];exact ej (λj l _=>hl j l)
   have G:(fh fs ops.size st (aJ c)).h=(run (fs.take ops.size) st).h:=by
    funext r;rw[nG fs st _ (by omega)];exact ej (λj l _=>hl j l)
   cases hA:fh fs ops.size st (aJ c);cases hB:run (fs.take ops.size) st;rw[hA,hB]at F G;simp at F G;rw[F,G]
  rw[<-this];exact D
 intro fuel
 induction fuel with
 |zero=>
  intro c a w B bs Y D
  have ar:Region.ready .any ops c=[]:=by
   cases X:Region.ready .any ops c with
   |nil=>rfl
   |cons i r=>
    have hi:i∈Region.ready .any ops c:=by rw[X];simp
    obtain⟨F,G,_⟩:=lI.1 hi;have:i∈(List.range ops.size).filter λj=>!aJ c j:=U3.2 ⟨UH.2 F,by simp[G]⟩;have b5:((List.range ops.size).filter λj=>!aJ c j)=[]:=Uy (by omega);rw[b5]at this;cases this
  exact⟨ar,a1 c a w ar B D⟩
 |succ fuel ih=>
  intro c a w B bs Y D;refine⟨λX=>a1 c a w X B D,λi hi=>?_⟩;obtain⟨O,S,b0⟩:=lI.1 hi;have ho:ops[i]?=some ops[i]:=UJ O;have hf:fs[i]?=some (fs[i]'(by omega)):=an _;generalize ops[i]=o at ho;generalize fs[i]'(by omega)=f at hf;obtain⟨J,b2,I⟩:=V i o f ho hf
  have y:∀q,Pre ops q i->aJ c q=true:=by
   intro q hq
   have hd:∀q,nB ops q i->aJ c q=true:=by
    intro q hq;have cp:=qb z hq;have:=b0 q hq;unfold aJ;rw[T9]at this|-;rw[UJ (by omega)]at this|-;simpa using this
   cases hq with
   |one h=>exact hd q h
   |step h h'=>exact qa Y h (hd _ h')
  have s:∀q,Pre ops i q->aJ c q=false:=by
   intro q hq
   cases ch:aJ c q with
   |false=>rfl
   |true=>rw[qa Y hq ch]at S;cases S
  have a6:∀j r,(rJ fs r j).isSome=true->∃oj A,ops[j]?=some oj/\fs[j]?=some A/\oj.dst=some r:=by
   intro j r l;unfold rJ at l;split at l
   .rename_i A p
    split at l
    .rename_i hd
     have cg:j<ops.size:=by rw[<-b3];exact(th.1 p).1
     have E:ops[j]?=some ops[j]:=UJ cg;obtain⟨_,G,_⟩:=V j _ A E p;exact⟨_,A,E,p,by rw[<-G];exact hd⟩
    .cases l
   .cases l
  have ba:∀j k,(rL fs k j).isSome=true->∃A,fs[j]?=some A/\k∈A.W.map (·.1):=by
   intro j k l;unfold rL at l;split at l
   .rename_i A p;exact⟨A,p,vd l⟩
   .cases l
  have g:∀(j:Nat)(A:Ef),fs[j]?=some A->(fs.map λf=>(f.W.map (·.1),f.K))[j]?=some (A.W.map (·.1),A.K):=λj A h=>by simp[h]
  have ad:∀r∈pd ops o,(fh fs ops.size st (aJ c)).t r=(run (fs.take i) st).t r:=by
   intro r X;rw[nF fs st i (by omega),<-pZ (n:=ops.size) (by omega)];refine ej (λj l hw=>?_);obtain⟨oj,A,E,p,hd⟩:=a6 j r hw;rcases VM j i with T|rfl|a7
   .rw[y j (lH z T E ho (by simp[lk,hd,X]))];simp[T]
   .rw[S];simp
   .rw[s j (lH z a7 ho E (by simp[lk,hd,X]))]
    have:¬j<i:=by omega
    simp[this]
  have bq:∀k∈f.K,(fh fs ops.size st (aJ c)).h k=(run (fs.take i) st).h k:=by
   intro k Q;rw[nG fs st i (by omega),<-pZ (n:=ops.size) (by omega)];refine ej (λj l hw=>?_);obtain⟨A,p,hd⟩:=ba j k hw;rcases VM j i with T|rfl|a7
   .rw[y j (mW R T (g j A p) (g i f hf) ⟨k,.inl ⟨hd,Q⟩⟩)];simp[T]
   .rw[S];simp
   .rw[s j (mW R a7 (g i f hf) (g j A p) ⟨k,.inr ⟨hd,Q⟩⟩)]
    have:¬j<i:=by omega
    simp[this]
  have ca:∀k,k∈f.W.map (·.1)->k∈f.K:=by
   intro k Q;obtain⟨kb,a9,rfl⟩:=Ur.1 Q;rcases I with⟨_,_,_,H⟩|⟨_,_,hW,_⟩
   .have:=TP.1 H kb a9;simpa using this
   .rw[hW]at a9;cases a9
  have lW:fh fs ops.size st (aJ (c.setIfInBounds i true))=(fh fs ops.size st (aJ c)).put f.d f.v f.W:=by
   have b4:∀j,j<ops.size->aJ (c.setIfInBounds i true) j=(aJ c j||j==i):=by
    intro j l;unfold aJ;by_cases e:j=i
    .subst e;simp[T9,B,l]
    .have F:(j==i)=false:=by simpa using e
     rw[F,Bool.or_false,T9,T9,UV (by omega)]
   have F:(fh fs ops.size st (aJ (c.setIfInBounds i true))).t=((fh fs ops.size st (aJ c)).put f.d f.v f.W).t:=by
    funext r
    show iJ ops.size (rJ fs r) (st.t r) (aJ (c.setIfInBounds i true))=_;rw[ej (λj l _=>b4 j l),oS O ?_]
    .have hw:rJ fs r i=if f.d=some r then some f.v else none:=by simp[rJ,hf]
     rw[hw]
     cases hd:f.d with
     |none=>simp[St.put,fh]
     |some d=>
      simp only[St.put,ae,T6];by_cases e:d=r
      .subst e;simp
      .rw[TQ e,TQ (λh=>e h.symm)];rfl
    .intro bb j a8 l bc
     obtain⟨oi,fi,Z,M,a5⟩:=a6 i r bb;obtain⟨oj,A,E,p,hd⟩:=a6 j r bc;rw[ho]at Z;injection Z with Z;subst Z;exact s j (lH z a8 ho E (by simp[lk,a5,hd]))
   have G:(fh fs ops.size st (aJ (c.setIfInBounds i true))).h=((fh fs ops.size st (aJ c)).put f.d f.v f.W).h:=by
    funext k
    show iJ ops.size (rL fs k) (st.h k) (aJ (c.setIfInBounds i true))=_;rw[ej (λj l _=>b4 j l),oS O ?_]
    .have hw:rL fs k i=jg f.W k:=by simp[rL,hf]
     rw[hw];simp only[St.put];exact(oT k f.W (fh fs ops.size st (aJ c)).h).symm
    .intro bb j a8 l bc
     obtain⟨fi,M,a5⟩:=ba i k bb;obtain⟨A,p,hd⟩:=ba j k bc;rw[hf]at M;injection M with M;subst M;exact s j (mW R a8 (g i f hf) (g j A p) ⟨k,.inr ⟨hd,ca k a5⟩⟩)
   cases hA:fh fs ops.size st (aJ (c.setIfInBounds i true));cases hB:(fh fs ops.size st (aJ c)).put f.d f.v f.W;rw[hA,hB]at F G;simp at F G;rw[F,G]
  have U:∀a' w',uN C ds ((fh fs ops.size st (aJ c)).put f.d f.v f.W) a' w'->wpAny C.P .any ops Q' fuel (c.setIfInBounds i true) a' w':=by
   intro a' w' ck;refine ih (c.setIfInBounds i true) a' w' (by simp[B]) ?_ ?_ (by rw[lW];exact ck)
   .have cn:((List.range ops.size).filter λj=>!aJ (c.setIfInBounds i true) j).length<((List.range ops.size).filter λj=>!aJ c j).length:=by
     have cd:((List.range ops.size).filter λj=>!aJ (c.setIfInBounds i true) j)=((List.range ops.size).filter λj=>!aJ c j).filter λj=>!(j==i):=by
      rw[List.filter_filter];refine List.filter_congr (λj l=>?_);have cf:=UH.1 l;unfold aJ;by_cases e:j=i
      .subst e;simp[T9,B,cf]
      .have F:(j==i)=false:=by simpa using e
       rw[F,T9,T9,UV (by omega)];simp
     rw[cd];refine List.length_filter_lt_length_iff_exists.2 ⟨i,U3.2 ⟨UH.2 O,by simp[S]⟩,by simp⟩
    omega
   .intro q j hd l
    have b9:∀m,aJ (c.setIfInBounds i true) m=true↔(aJ c m=true\/m=i):=by
     intro m;unfold aJ;by_cases e:m=i
     .subst e;simp[T9,B,O]
     .rw[T9,T9,UV (by omega)];simp[e]
    rw[b9]at l|-;rcases l with l|rfl
    .exact .inl (Y q j hd l)
    .exact .inl (y q (.one hd))
  obtain⟨L,hm,hN,bH,ht⟩:=D
  have hgd:fA ops (fh fs ops.size st (aJ c)).t o.guard=fA ops (run (fs.take i) st).t o.guard:=by
   unfold fA;split
   .rfl
   .rename_i j cm hg
    split
    .rename_i d hd
     rw[ad d (by simp[pd,hg,hd])]
    .rfl
  unfold wpOp;rw[ho];simp only;rcases I with⟨hg,hK,b1,cb⟩|⟨hg,hv,hW,_⟩
  .rw[ey ht (hgd.trans hg)]
   rw[T8 rfl];refine .inl ?_
   have b7:∀x∈o.op.operands,(run (fs.take i) st).ev x=(fh fs ops.size st (aJ c)).ev x:=by
    intro x hx
    cases x with
    |tmp t=>
     refine(ad t ?_).symm;simp only[pd,Cl,Ui,List.mem_filterMap];exact .inl ⟨.tmp t,by simpa using hx,rfl⟩
    |_=>rfl
   have b8:bQ f.K (run (fs.take i) st).h=bQ f.K (fh fs ops.size st (aJ c)).h:=by
    funext k
    unfold bQ;split
    .rename_i Q;exact(bq k (by simpa using Q)).symm
    .rfl
   rw[b8]at b1;refine lG.congr b7 b1 C L _ w a rfl hm ?_ ?_ (λx _=>db ht x) _ _ (λu w' L' hA hv=>?_)
   .intro k b Q;unfold bQ at Q;split at Q
    .exact Q
    .cases Q
   .intro d hd
    unfold bQ;rw[T8 (hK d hd)];refine⟨rfl,?_⟩;have a2:=J;rw[hd]at a2;simp only[dm,An,L4]at a2;exact a2.2
   .refine U _ _ ?_
    rw[b2];exact uN.put hm hN bH ht J hA hv
  .rw[ey ht (hgd.trans hg)]
   simp only[T5,Uf];refine U _ _ ?_;rw[b2,hv,hW];exact uN.put hm hN bH ht J (W:=[]) (aI.refl hm) (.pv (.val _))
variable {P:Program} {E:YEnv P} {Q:QY} {i:Nat} {s:Bool}
theorem bW.draw(q:P.follows .mixedOrders=true)(c:jY ops=true)
 (h:kS P hn E.N ops (λg st=>jz (jX ops.toList []) g=true/\bW E C y Q st i s) ops.toList [] st):bW E C (.seq (.region id ops true) y) Q st i s:=by
 intro hP hN hS F n L a w d hd;subst hP;rw[<-hN]at h;obtain⟨fs,z,A,B,D⟩:=sN h;refine wpIn_seq (wpIn_wide.2 ?_);refine wp_region_any q (Gp (ds:=[]) (fs:=fs) (st:=st) c (by rw[z];simp) (λi o f r hf=>A i o f (by simpa using r) hf) (by simpa using B) (λa w d=>?_) _ _ _ _ (by simp) ?_ ?_ ?_)
 .obtain⟨x,p,k,l,u⟩:=d
  exact D rfl hN hS F n x a w ⟨p,k,u⟩ l
 .refine VH (Ws _ _) (by simp)
 .intro i j hd b
  have m:j<ops.size:=by obtain⟨o,r,_⟩:=hd;exact(UA.1 r).1
  unfold aJ at b;rw[T9,VY,T8 m]at b;cases b
 .have:fh fs ops.size st (aJ (Array.replicate ops.size false))=st:=by
   have hf:∀j,j<ops.size->aJ (Array.replicate ops.size false) j=false:=by
    intro j b;unfold aJ;rw[T9,VY,T8 b];rfl
   have G:∀{V:Type}(wr:Nat->Option V)(e:V),iJ ops.size wr e (aJ (Array.replicate ops.size false))=e:=by
    intro V wr e;rw[ej (ls':=λ_=>false) (λj b _=>hf j b)]
    have:∀n,iJ n wr e (λ_=>false)=e:=by
     intro n;induction n with
     |zero=>rfl
     |succ n ih=>rw[kg];simp[ih]
    exact this _
   cases st;unfold fh;simp[G]
  rw[this];have v:=d.1.grow (Ext.drew (λ_=>False) w);exact⟨L,v.1,d.2.1,hd,λn=>(d.2.2 n).mono v.2 (KC.refl _ _)⟩
end
end Go.Ab
