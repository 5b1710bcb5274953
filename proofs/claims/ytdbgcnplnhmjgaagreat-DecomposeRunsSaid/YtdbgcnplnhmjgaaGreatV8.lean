/- The contracts and facts that the laws of this seat need, in one text (K2b, K3, K4, K5, K5b, K6, K7, K8, K9, K11, K10, K11b, K11c, K11d, K11e, K5c, K5d, K5e, K5f, K5g, K12, Ab28, Ab30, Ab31). -/
import Derived.Test.YtdbgcnplnhmjgaaGreatV7
set_option linter.all false
set_option maxRecDepth 10000
set_option maxHeartbeats 16000000
namespace Go.Ab
open IntKind (i64)
open Go.Proofs.Tryz
open Go.Proofs
variable {P:Program}{a a0 a1 a10 a11 a12 a13 a14 a15 a16 a17 a18 a19 a2 a20 a21 a22 a23 a3 a4 a5 a6 a7 a8 a9 b b0 b1 b2 b3 b4 b5 d m t v0 v1 v2 v3 v4 v5 x:Int}{aft:Array Edge}{bet:Int->Int->Bool}{c y:Code}{dst:Option Nat}{f:Nat->Int}{g:Option (Nat×Bool)}{hn:List Nat}{i id k n q:Nat}{js:List J}{o:Oper}{ops:Array Oper}{post pre:List Oper}{w:List Int}{α:Type}{ρ:Operand->AV}{p:α->Bool}{xs:List α}
def mS(i:Nat):Int:=if i%2=0 then 1 else -1
def oF(xs:List Int):Nat->Int
 |0=>0
 |i+1=>oF xs i+mS i*(xs[i]?).getD 0
def fG(xs:List Int):Int:=oF xs xs.length
theorem FR(i:Nat)(x:Int):(mS i*x=x\/mS i*x=-x):=by unfold mS;split<;>simp
theorem D9(i:Nat):mS (i+1)=-mS i:=by unfold mS;split<;>split<;>omega
theorem vu{xs:List Int}(a:∀x∈xs,-1099511627776<=x/\x<=1099511627776):∀i:Nat,-((i:Int)*1099511627776)<=oF xs i/\oF xs i<=(i:Int)*1099511627776
 |0=>by simp[oF]
 |i+1=>by
  have h:=vu a i
  have c:-1099511627776<=(xs[i]?).getD 0/\(xs[i]?).getD 0<=1099511627776:=by
   cases b:xs[i]? with
   |none=>simp
   |some y=>exact a y (Is b)
  have d:=FR i ((xs[i]?).getD 0);simp only[oF];omega
theorem G0(xs:List Int)(k:xs.length<=1000)(c:∀x∈xs,-1099511627776<=x/\x<=1099511627776):bh 344 (zs xs) (Z (fG xs)):=by
 refine Dp func344 λC hP hN=>?_;refine Gz ?_;refine WP.loopN [] xs.length (λi st=>st.t 3=.pv (Z (oF xs i))/\st.t 4=.pv (Z (mS i))/\st.t 7=.pv (zs xs)/\st.t 8=.pv (Z xs.length)/\st.t 9=.pv (Z i)) (by simp[oF,mS]) ?_;rintro i st hi ⟨g3,g4,d,e,f⟩;by_cases a:i<xs.length
 .have m:=aj a (by omega)
  have b:xs[i]?=some xs[i]:=an a;have l:=c xs[i] (Wb a);have j:=vu c i;have g:=FR i xs[i];have n:i64.wrap (mS i*xs[i])=mS i*xs[i]:=aa;have o:i64.wrap (oF xs i+mS i*xs[i])=oF xs (i+1):=(aa (by omega) (by omega)).trans (by simp[oF,b])
  have p:i64.wrap (-mS i)=mS (i+1):=by
   rw[D9];unfold mS;split<;>decide
  have q:i64.wrap (0-mS i)=mS (i+1):=by
   rw[D9];unfold mS;split<;>decide
  exact Gy
 .skip
  refine Gz ?_
  all_goals (have:i=xs.length:=by omega
             subst this;rfl)
def bg(n d:Int):Int:=(n+d-1)/d
theorem vw(n d:Int)(hn:0<=n)(b:n<=1099511627776)(hd:1<=d)(a:d<=1099511627776):aH 345 (Z n) (Z d) (Z (bg n d)):=by
 have g:i64.wrap (n+d)=n+d:=aa;have i:i64.wrap (n+d-1)=n+d-1:=aa;have hq:(n+d-1).tdiv d=(n+d-1)/d:=Wa (by omega);have e:0<=(n+d-1)/d:=X3 (by omega) (by omega);have f:(n+d-1)/d<=n+d-1:=YG _ (by omega);have j:i64.wrap ((n+d-1)/d)=(n+d-1)/d:=aa
 have c:d≠0:=by omega
 refine Dp func345 λC hP hN=>?_;refine Gz ?_
 all_goals rfl
def tM(lo hi:Int):Iv:=(max 0 (lo/16384),min 65536 (dK hi 16384))
theorem N8(lo hi:Int)(h1:-4611686018427387904<=hi)(a:hi<=4611686018427387904):aH 346 (Z lo) (Z hi) (aN (tM lo hi)):=by
 refine Dp func346 λC hP hN=>?_;have b:=@Rl;have c:=Rk _ h1 a;refine GT trivial ?_
 all_goals simp[tM]
def oG(f g:Nat->Int):List Int:=[f 1,bg (g 3) 6,f 5/120,bg (g 7) 5040]
def mm(f g:Nat->Int):List Int:=[g 1,f 3/6,bg (g 5) 120,f 7/5040,bg (g 9) 362880]
def sh(f g:Nat->Int):List Int:=[1073741824,bg (g 2) 2,f 4/24,bg (g 6) 720,f 8/40320,bg (g 10) 3628800]
def pB(f g:Nat->Int):List Int:=[1073741824,f 2/2,bg (g 4) 24,f 6/720,bg (g 8) 40320]
def vA(x:Int):Iv:=tM (fG (oG (fv x) (fw x))) (fG (mm (fv x) (fw x)))
def zp(x:Int):Iv:=tM (fG (sh (fv x) (fw x))) (fG (pB (fv x) (fw x)))
theorem fp{n:Int}(e:0<=n)(h1:n<=1073741824)(hd:1<=d)(a:d<=4000000):0<=bg n d/\bg n d<=1099511627776:=by
 unfold bg;have b:0<=(n+d-1)/d:=X3 (by omega) (by omega);have c:(n+d-1)/d<=n+d-1:=YG _ (by omega);omega
theorem Ea(hf:∀j,0<=f j/\f j<=1073741824)(j:Nat)(d:Int):(f j).tdiv d=f j/d:=Wa (hf j).1
theorem si(hf:∀j,0<=f j/\f j<=1073741824)(j:Nat)(hd:0<d):0<=f j/d/\f j/d<=1073741824:=by
 have h:=hf j;have a:0<=f j/d:=X3 (by omega) (by omega);have b:f j/d<=f j:=YG _ (by omega);omega
theorem Eb(hf:∀j,0<=f j/\f j<=1073741824)(j:Nat)(hd:0<d):i64.wrap (f j/d)=f j/d:=by
 have:=si hf j hd;exact aa (by omega) (by omega)
theorem RL(x:Int)(c:0<=x)(h1:x<=8192):bh 341 (Z x) (aN (vA x)):=by
 have q:=N7 x c h1;have hf:=pt c h1;have a:=pu c h1;show aQ _ _ _ _ _ (.pv (aN (tM (fG (oG (fv x) (fw x))) (fG (mm (fv x) (fw x))))));generalize fv x=f at *;generalize fw x=g at *
 have i:∀y∈oG f g,-1099511627776<=y/\y<=1099511627776:=by
  intro y b;have a1:=hf 1;have a2:=fp (d:=6) (a 3).1 (a 3).2 (by decide) (by decide);have a3:=si hf 5 (d:=120) (by decide);have a4:=fp (d:=5040) (a 7).1 (a 7).2 (by decide) (by decide);simp only[oG,Wj,Wr,WR]at b;rcases b with rfl|rfl|rfl|rfl<;>omega
 have e:∀y∈mm f g,-1099511627776<=y/\y<=1099511627776:=by
  intro y b;have a1:=a 1;have a2:=fp (d:=120) (a 5).1 (a 5).2 (by decide) (by decide);have a3:=si hf 3 (d:=6) (by decide);have a4:=fp (d:=362880) (a 9).1 (a 9).2 (by decide) (by decide);have a5:=si hf 7 (d:=5040) (by decide);simp only[mm,Wj,Wr,WR]at b;rcases b with rfl|rfl|rfl|rfl|rfl<;>omega
 have b2:=vu e 5;have b3:-(((5:Nat):Int)*1099511627776)<=fG (mm f g)/\fG (mm f g)<=((5:Nat):Int)*1099511627776:=b2;have n:aQ prog 344 [.pv (.sl [Z (f 1),Z (bg (g 3) 6),Z (f 5/120),Z (bg (g 7) 5040)])] [] [] (.pv (Z (fG (oG f g)))):=G0 (oG f g) (by simp[oG]) i;have o:aQ prog 344 [.pv (.sl [Z (g 1),Z (f 3/6),Z (bg (g 5) 120),Z (f 7/5040),Z (bg (g 9) 362880)])] [] [] (.pv (Z (fG (mm f g)))):=G0 (mm f g) (by simp[mm]) e;have j:=vw (g 3) 6 (a 3).1 (by have:=a 3;omega) (by decide) (by decide);have l:=vw (g 7) 5040 (a 7).1 (by have:=a 7;omega) (by decide) (by decide);have k:=vw (g 5) 120 (a 5).1 (by have:=a 5;omega) (by decide) (by decide);have m:=vw (g 9) 362880 (a 9).1 (by have:=a 9;omega) (by decide) (by decide);have p:=N8 (fG (oG f g)) (fG (mm f g)) (by omega) (by omega);generalize fG (oG f g)=lo at *;generalize fG (mm f g)=hi at *;have t1:=Ea hf 5 120;have t2:=Ea hf 3 6;have t3:=Ea hf 7 5040;have r:=Eb hf 5 (d:=120) (by decide);have s:=Eb hf 3 (d:=6) (by decide);have u:=Eb hf 7 (d:=5040) (by decide);refine Dp func341 λC hP hN=>?_;exact Gy
theorem RM(x:Int)(c:0<=x)(h1:x<=8192):bh 342 (Z x) (aN (zp x)):=by
 have q:=N7 x c h1;have hf:=pt c h1;have a:=pu c h1;show aQ _ _ _ _ _ (.pv (aN (tM (fG (sh (fv x) (fw x))) (fG (pB (fv x) (fw x))))));generalize fv x=f at *;generalize fw x=g at *
 have j:∀y∈sh f g,-1099511627776<=y/\y<=1099511627776:=by
  intro y b;have a2:=fp (d:=2) (a 2).1 (a 2).2 (by decide) (by decide);have a3:=si hf 4 (d:=24) (by decide);have a4:=fp (d:=720) (a 6).1 (a 6).2 (by decide) (by decide);have a5:=si hf 8 (d:=40320) (by decide);have a6:=fp (d:=3628800) (a 10).1 (a 10).2 (by decide) (by decide);simp only[sh,Wj,Wr,WR]at b;rcases b with rfl|rfl|rfl|rfl|rfl|rfl<;>omega
 have e:∀y∈pB f g,-1099511627776<=y/\y<=1099511627776:=by
  intro y b;have a2:=fp (d:=24) (a 4).1 (a 4).2 (by decide) (by decide);have a3:=si hf 2 (d:=2) (by decide);have a4:=fp (d:=40320) (a 8).1 (a 8).2 (by decide) (by decide);have a5:=si hf 6 (d:=720) (by decide);simp only[pB,Wj,Wr,WR]at b;rcases b with rfl|rfl|rfl|rfl|rfl<;>omega
 have b2:=vu e 5;have b3:-(((5:Nat):Int)*1099511627776)<=fG (pB f g)/\fG (pB f g)<=((5:Nat):Int)*1099511627776:=b2;have n:aQ prog 344 [.pv (.sl [Z 1073741824,Z (bg (g 2) 2),Z (f 4/24),Z (bg (g 6) 720),Z (f 8/40320),Z (bg (g 10) 3628800)])] [] [] (.pv (Z (fG (sh f g)))):=G0 (sh f g) (by simp[sh]) j;have o:aQ prog 344 [.pv (.sl [Z 1073741824,Z (f 2/2),Z (bg (g 4) 24),Z (f 6/720),Z (bg (g 8) 40320)])] [] [] (.pv (Z (fG (pB f g)))):=G0 (pB f g) (by simp[pB]) e;have k:=vw (g 2) 2 (a 2).1 (by have:=a 2;omega) (by decide) (by decide);have c6:=vw (g 6) 720 (a 6).1 (by have:=a 6;omega) (by decide) (by decide);have i:=vw (g 10) 3628800 (a 10).1 (by have:=a 10;omega) (by decide) (by decide);have l:=vw (g 4) 24 (a 4).1 (by have:=a 4;omega) (by decide) (by decide);have m:=vw (g 8) 40320 (a 8).1 (by have:=a 8;omega) (by decide) (by decide);have p:=N8 (fG (sh f g)) (fG (pB f g)) (by omega) (by omega);generalize fG (sh f g)=lo at *;generalize fG (pB f g)=hi at *;have t1:=Ea hf 4 24;have t2:=Ea hf 8 40320;have t3:=Ea hf 2 2;have t4:=Ea hf 6 720;have r:=Eb hf 4 (d:=24) (by decide);have s:=Eb hf 8 (d:=40320) (by decide);have u:=Eb hf 2 (d:=2) (by decide);have v:=Eb hf 6 (d:=720) (by decide);refine Dp func342 λC hP hN=>?_;exact Gy
def fx(r:Int):Iv:=if r<=8192 then vA r else zp (16384-r)
theorem N9(r:Int)(b:0<=r)(h1:r<=16384):bh 338 (Z r) (aN (fx r)):=by
 have c:i64.wrap (16384-r)=16384-r:=aa;by_cases h:r<=8192
 .have hf:fx r=vA r:=by simp[fx,h]
  have a:=RL r b h;rw[hf];generalize vA r=y at *;refine Dp func338 λC hP hN=>?_;exact Gy
 .have hf:fx r=zp (16384-r):=by simp[fx,h]
  have a:=RM (16384-r) (by omega) (by omega);rw[hf];generalize zp (16384-r)=y at *;refine Dp func338 λC hP hN=>?_;exact Gy
theorem PI(a:Int):tC .and .i64 a 65535=a%65536:=by
 unfold tC
 have d:(BitVec.ofInt 64 a &&& BitVec.ofInt 64 65535).toNat=(a%65536).toNat:=by
  rw[BitVec.toNat_and,BitVec.toNat_ofInt,BitVec.toNat_ofInt]
  have c:((65535:Int)%((2^64:Nat):Int)).toNat=2^16-1:=by decide
  rw[c,Nat.and_two_pow_sub_one_eq_mod];have e:0<=a%((2^64:Nat):Int):=W6 _ (by decide);have f:(a%((2^64:Nat):Int))%65536=a%65536:=Int.emod_emod_of_dvd a (by decide);omega
 show i64.wrap ((BitVec.ofInt 64 a &&& BitVec.ofInt 64 65535).toNat:Int)=_;rw[d,IntKind.wrap_i64];have:=W6 a (b:=65536) (by decide);have:=W8 a (b:=65536) (by decide);omega
theorem Kg(a:Int):bh 337 (Z a) (Z (a%65536)):=by
 refine Dp func337 λC hP hN=>?_;exact GS @PI
def qG(m:Int):Iv:=if m/16384=0 then fx (m%16384)else if m/16384=1 then fx (16384-m%16384)else if m/16384=2 then iR (fx (m%16384))else iR (fx (16384-m%16384))
def pC(a:Int):Iv:=qG (a%65536)
theorem Oa(a:Int):bh 332 (Z a) (aN (pC a)):=by
 have l:=Kg a;show aQ _ _ _ _ _ (.pv (aN (qG (a%65536))));have d:=W6 a (b:=65536) (by decide);have n:=W8 a (b:=65536) (by decide);generalize a%65536=m at *;have t1:m.tmod 16384=m%16384:=Yw d;have t2:m.tdiv 16384=m/16384:=Wa d;have e:i64.wrap (m/16384)=m/16384:=aa;have f:i64.wrap (m%16384)=m%16384:=aa;have g:i64.wrap (16384-m%16384)=16384-m%16384:=aa;have j:=N9 (m%16384) (by omega) (by omega);have k:=N9 (16384-m%16384) (by omega) (by omega)
 have key:m/16384=0\/m/16384=1\/m/16384=2\/m/16384=3:=by omega
 rcases key with c|c|c|c
 .have hf:qG m=fx (m%16384):=by simp[qG,c]
  rw[hf];generalize fx (m%16384)=y at *;refine Dp func332 λC hP hN=>?_;exact Gy
 .have hf:qG m=fx (16384-m%16384):=by simp[qG,c]
  rw[hf];generalize fx (16384-m%16384)=y at *;refine Dp func332 λC hP hN=>?_;exact Gy
 .have hf:qG m=iR (fx (m%16384)):=by simp[qG,c]
  rw[hf];generalize fx (m%16384)=y at *;refine Dp func332 λC hP hN=>?_;have i:=@J4;exact GS (go t1 t2 e f g c)
 .have hf:qG m=iR (fx (16384-m%16384)):=by simp[qG,c]
  rw[hf];generalize fx (16384-m%16384)=y at *;refine Dp func332 λC hP hN=>?_;have i:=@J4;exact GS (go t1 t2 e f g c)
def vB(a:Int):Iv:=pC (a%65536+16384)
theorem RN(a:Int):bh 331 (Z a) (aN (vB a)):=by
 have c:=Kg a;show aQ _ _ _ _ _ (.pv (aN (pC (a%65536+16384))));have e:=W6 a (b:=65536) (by decide);have f:=W8 a (b:=65536) (by decide);generalize a%65536=m at *;have g:i64.wrap (m+16384)=m+16384:=aa;have d:=Oa (m+16384);generalize pC (m+16384)=y at *;refine Dp func331 λC hP hN=>?_;exact Gy
def mT(a:Iv)(t:Int):Bool:=aw a.1 a.2&&decide (a.1<=a.1+(t-a.1)%65536)&&decide (a.1+(t-a.1)%65536<=a.2)
theorem Ob(t:Int)(h1:-2147483648<=a)(f:a<=2147483648)(g:-2147483648<=t)(i:t<=2147483648):aH 336 (I a b) (Z t) (B (mT (a,b) t)):=by
 have c:i64.wrap (t-a)=t-a:=aa;have k:=W6 (t-a) (b:=65536) (by decide);have l:=W8 (t-a) (b:=65536) (by decide);have d:i64.wrap (a+(t-a)%65536)=a+(t-a)%65536:=aa;have e:=Kg (t-a);refine Dp func336 λC hP hN=>?_;have j:=@Nj;refine GT (gA c d) ?_
 all_goals (try simp[mT])
def jE(a:Iv)(v:Int->Iv)(t b:Int):Iv:=if aw a.1 a.2=false then(0,0)else if 65536<=a.2-a.1 then(-65536,65536)else
 let h:=gZ (v a.1) (v a.2)
 let c:=if mT a t then gZ h (qh 65536)else h
 if mT a b then gZ c (qh (-65536))else c
theorem Oc(f:FuncId)(v:Int->Iv)(t u:Int)(hf:∀x,aQ prog f [.pv (Z x)] [] [] (.pv (aN (v x))))(s:-2147483648<=t)(j:t<=2147483648)(y:-2147483648<=u)(k:u<=2147483648):EG 330 (I a b) (Fv f) (Z t) (Z u) (aN (jE (a,b) v t u)):=by
 cases c:aw a b with
 |false=>
  have d:jE (a,b) v t u=(0,0):=by simp[jE,c]
  rw[d];refine Dp func330 λC hP hN=>?_;have m:=@j7;exact GS c
 |true=>
  have z:=ew.1 c;have n:i64.wrap (b-a)=b-a:=aa;have o:=Ob (a:=a) (b:=b) t (by omega) (by omega) s j;have p:=Ob (a:=a) (b:=b) u (by omega) (by omega) y k;have B:aQ prog 275 [.pv (Z 65536)] [] [] (.pv (I 65536 65536)):=Be 65536;have D:aQ prog 275 [.pv (Z (-65536))] [] [] (.pv (I (-65536) (-65536))):=Be (-65536);by_cases e:65536<=b-a
  .have d:jE (a,b) v t u=(-65536,65536):=by simp[jE,c,e]
   rw[d];refine Dp func330 λC hP hN=>?_;have m:=@j7;have A:=@wG;exact GS (be c n e)
  .have d:jE (a,b) v t u=(let h:=gZ (v a) (v b);let l:=if mT (a,b) t then gZ h (65536,65536)else h;if mT (a,b) u then gZ l (-65536,-65536)else l):=by
    have q:qh 65536=(65536,65536):=by decide
    have r:qh (-65536)=(-65536,-65536):=by decide
    simp[jE,c,e,q,r]
   rw[d];cases g:mT (a,b) t<;>cases i:mT (a,b) u<;>rw[g]at o<;>rw[i]at p
   all_goals
    refine Dp func330 λC hP hN=>?_;have m:=@j7;have A:=@wG;have E:=@hf;have F:=@Gs;exact GS (be c n e)
    all_goals (try simp)
def sj(a:Iv):Iv:=jE a pC 16384 49152
def sm(a:Iv):Iv:=jE a vB 0 32768
theorem RO:bh 324 (I a b) (aN (sj (a,b))):=by
 have c:=Oc (a:=a) (b:=b) 332 pC 16384 49152 Oa (by decide) (by decide) (by decide) (by decide);refine Dp func324 λC hP hN=>?_;refine Gz ?_
 all_goals exact⟨rfl,rfl⟩
theorem RP:bh 323 (I a b) (aN (sm (a,b))):=by
 have c:=Oc (a:=a) (b:=b) 331 vB 0 32768 RN (by decide) (by decide) (by decide) (by decide);refine Dp func323 λC hP hN=>?_;refine Gz ?_
 all_goals exact⟨rfl,rfl⟩
abbrev aq:=Iv×Iv×Iv
abbrev oH:=aq×aq×aq
abbrev oI:=oH×aq
abbrev V6(x0 x1 x2 x3 x4 x5:Int):PV:=.val (.agg #[.int .i64 x0,.int .i64 x1,.int .i64 x2,.int .i64 x3,.int .i64 x4,.int .i64 x5])
abbrev Ec(x0 x1 x2 x3 x4 x5 j k l m a b c d e f g i:Int):PV:=.val (.agg #[.int .i64 x0,.int .i64 x1,.int .i64 x2,.int .i64 x3,.int .i64 x4,.int .i64 x5,.int .i64 j,.int .i64 k,.int .i64 l,.int .i64 m,.int .i64 a,.int .i64 b,.int .i64 c,.int .i64 d,.int .i64 e,.int .i64 f,.int .i64 g,.int .i64 i])
abbrev yI(x0 x1 x2 x3 x4 x5 p q r s a b c d e f g i j k l m n o:Int):PV:=.val (.agg #[.int .i64 x0,.int .i64 x1,.int .i64 x2,.int .i64 x3,.int .i64 x4,.int .i64 x5,.int .i64 p,.int .i64 q,.int .i64 r,.int .i64 s,.int .i64 a,.int .i64 b,.int .i64 c,.int .i64 d,.int .i64 e,.int .i64 f,.int .i64 g,.int .i64 i,.int .i64 j,.int .i64 k,.int .i64 l,.int .i64 m,.int .i64 n,.int .i64 o])
abbrev bR(v:aq):PV:=V6 v.1.1 v.1.2 v.2.1.1 v.2.1.2 v.2.2.1 v.2.2.2
abbrev yb(m:oH):PV:=Ec m.1.1.1 m.1.1.2 m.1.2.1.1 m.1.2.1.2 m.1.2.2.1 m.1.2.2.2 m.2.1.1.1 m.2.1.1.2 m.2.1.2.1.1 m.2.1.2.1.2 m.2.1.2.2.1 m.2.1.2.2.2 m.2.2.1.1 m.2.2.1.2 m.2.2.2.1.1 m.2.2.2.1.2 m.2.2.2.2.1 m.2.2.2.2.2
abbrev cK(p:oI):PV:=yI p.1.1.1.1 p.1.1.1.2 p.1.1.2.1.1 p.1.1.2.1.2 p.1.1.2.2.1 p.1.1.2.2.2 p.1.2.1.1.1 p.1.2.1.1.2 p.1.2.1.2.1.1 p.1.2.1.2.1.2 p.1.2.1.2.2.1 p.1.2.1.2.2.2 p.1.2.2.1.1 p.1.2.2.1.2 p.1.2.2.2.1.1 p.1.2.2.2.1.2 p.1.2.2.2.2.1 p.1.2.2.2.2.2 p.2.1.1 p.2.1.2 p.2.2.1.1 p.2.2.1.2 p.2.2.2.1 p.2.2.2.2
def g3(v:α×α×α):Nat->α
 |0=>v.1
 |1=>v.2.1
 |_=>v.2.2
@[simp] theorem XB(v:α×α×α):g3 v 0=v.1:=rfl
@[simp] theorem XC(v:α×α×α):g3 v 1=v.2.1:=rfl
@[simp] theorem XD(v:α×α×α):g3 v 2=v.2.2:=rfl
def kj(m v:aq):Nat->Iv
 |0=>(0,0)
 |n+1=>gg (kj m v n) (fB (g3 m n) (g3 v n))
def sq(a b:aq):aq:=(gg a.1 b.1,gg a.2.1 b.2.1,gg a.2.2 b.2.2)
def uk(m:oH)(v:aq):aq:=(kj m.1 v 3,kj m.2.1 v 3,kj m.2.2 v 3)
def wY(x:Int):Int:=min (max x (-65536)) 65536
def G1(x:Iv):Iv:=(wY x.1,wY x.2)
def fX(b:oH)(c:Nat):aq:=(g3 b.1 c,g3 b.2.1 c,g3 b.2.2 c)
def um(a b:oH)(r c:Nat):Iv:=G1 (kj (g3 a r) (fX b c) 3)
def AI(a b:oH):oH:=((um a b 0 0,um a b 0 1,um a b 0 2),(um a b 1 0,um a b 1 1,um a b 1 2),(um a b 2 0,um a b 2 1,um a b 2 2))
def dZ(v:Int×Int×Int):aq:=(qh v.1,qh v.2.1,qh v.2.2)
def mU:oH:=(((65536,65536),(0,0),(0,0)),((0,0),(65536,65536),(0,0)),((0,0),(0,0),(65536,65536)))
def bB:aq:=((0,0),(0,0),(0,0))
def fN(b:Int)(a:Iv):oH:=if aw a.1 a.2 then
 (if b=0 then(((65536,65536),(0,0),(0,0)),((0,0),sm a,iR (sj a)),((0,0),sj a,sm a))
  else if b=1 then((sm a,(0,0),sj a),((0,0),(65536,65536),(0,0)),(iR (sj a),(0,0),sm a))
  else if b=2 then((sm a,iR (sj a),(0,0)),(sj a,sm a,(0,0)),((0,0),(0,0),(65536,65536)))
  else(bB,bB,bB))else(bB,bB,bB)
def ed(v:aq):oI:=(mU,v)
def iu(b:Int)(a:Iv):oI:=(fN b a,bB)
def oJ(a b:oI):oI:=(AI a.1 b.1,sq a.2 (uk a.1 b.2))
def iW(p:oI)(v:aq):aq:=sq p.2 (uk p.1 v)
theorem eJ(h:i<=3):i=0\/i=1\/i=2\/i=3:=by omega
def pick(b:Bool)(x:Iv):Iv:=if b then x else(0,0)
@[simp] theorem UN(x:Iv):pick true x=x:=rfl
@[simp] theorem UO(x:Iv):pick false x=(0,0):=rfl
def c6(v:aq)(i:Nat):List AV:=[.pv (Z (pick (decide (0<i)) (g3 v 0)).1),.pv (Z (pick (decide (0<i)) (g3 v 0)).2),.pv (Z (pick (decide (1<i)) (g3 v 1)).1),.pv (Z (pick (decide (1<i)) (g3 v 1)).2),.pv (Z (pick (decide (2<i)) (g3 v 2)).1),.pv (Z (pick (decide (2<i)) (g3 v 2)).2)]
theorem Kh(x y z:Int):bh 250 (ow x y z) (bR (dZ (x,y,z))):=by
 have f:=λa=>Be a;refine Dp func250 λC hP hN=>?_;refine Gz ?_;refine WP.loopN [] 3 (λi st=>st.t 1=.ptr 1 0/\st.t 2=.ptr 2 0/\st.t 3=.ptr 3 0/\st.t 5=.pv (Z i)/\st.h 1=some (.box [.pv (Z x),.pv (Z y),.pv (Z z)] true false)/\st.h 2=some (.box (c6 (dZ (x,y,z)) 0) true false)/\st.h 3=some (.box (c6 (dZ (x,y,z)) i) true false)) (by simp[c6]) ?_;rintro i st hi ⟨g1,g2,e,g5,b,c,d⟩;rcases eJ hi with rfl|rfl|rfl|rfl
 all_goals (simp[c6,dZ,qh]at g5 b c d)
 all_goals
  have g:=@f;exact GS (s5 g1 g2 e g5 b c d @c6.eq_1 @dZ.eq_1 @qh.eq_1)
theorem RQ:aH 293 (V6 a0 a1 a2 a3 a4 a5) (V6 b0 b1 b2 b3 b4 b5) (bR (sq ((a0,a1),(a2,a3),(a4,a5)) ((b0,b1),(b2,b3),(b4,b5)))):=by
 refine Dp func293 λC hP hN=>?_;refine Gz ?_;refine WP.loopN [] 3 (λi st=>st.t 2=.ptr 2 0/\st.t 3=.ptr 3 0/\st.t 4=.ptr 4 0/\st.t 5=.ptr 5 0/\st.t 7=.pv (Z i)/\st.h 2=some (.box [.pv (Z a0),.pv (Z a1),.pv (Z a2),.pv (Z a3),.pv (Z a4),.pv (Z a5)] true false)/\st.h 3=some (.box [.pv (Z b0),.pv (Z b1),.pv (Z b2),.pv (Z b3),.pv (Z b4),.pv (Z b5)] true false)/\st.h 4=some (.box (c6 bB 0) true false)/\st.h 5=some (.box (c6 (sq ((a0,a1),(a2,a3),(a4,a5)) ((b0,b1),(b2,b3),(b4,b5))) i) true false)) (by simp[c6]) ?_;rintro i st hi ⟨g2,e,g4,g5,f,a,b,c,d⟩;rcases eJ hi with rfl|rfl|rfl|rfl
 all_goals (simp[c6,sq]at f a b c d)
 all_goals
  have g:=@Bf;exact GS (s5 g2 e g4 g5 f a b c d (gA @c6.eq_1 @sq.eq_1))
def cI(i:Nat):List AV:=[.pv (Z (if 0<i then 65536 else 0)),.pv (Z (if 0<i then 65536 else 0)),.pv (Z 0),.pv (Z 0),.pv (Z 0),.pv (Z 0),.pv (Z 0),.pv (Z 0),.pv (Z (if 1<i then 65536 else 0)),.pv (Z (if 1<i then 65536 else 0)),.pv (Z 0),.pv (Z 0),.pv (Z 0),.pv (Z 0),.pv (Z 0),.pv (Z 0),.pv (Z (if 2<i then 65536 else 0)),.pv (Z (if 2<i then 65536 else 0))]
theorem RS:Cn 274 (yb mU):=by
 have d:aQ prog 275 [.pv (Z 65536)] [] [] (.pv (I 65536 65536)):=Be 65536;refine Dp func274 λC hP hN=>?_;refine Gz ?_;refine WP.loopN [] 3 (λi st=>st.t 0=.ptr 0 0/\st.t 1=.ptr 1 0/\st.t 3=.pv (Z i)/\st.h 0=some (.box (cI 0) true false)/\st.h 1=some (.box (cI i) true false)) (by simp[cI]) ?_;rintro i st hi ⟨g0,g1,a,b,c⟩;rcases eJ hi with rfl|rfl|rfl|rfl
 all_goals (simp[cI]at a b c)
 all_goals
  exact GS (it g0 g1 a b c @cI.eq_1 @mU.eq_1)
def sr(m:oH)(v:aq)(i k r:Nat):Iv:=if r<i then kj (g3 m r) v 3 else if r=i then kj (g3 m r) v k else(0,0)
def cA(m:oH)(v:aq)(i k:Nat):List AV:=[.pv (Z (sr m v i k 0).1),.pv (Z (sr m v i k 0).2),.pv (Z (sr m v i k 1).1),.pv (Z (sr m v i k 1).2),.pv (Z (sr m v i k 2).1),.pv (Z (sr m v i k 2).2)]
theorem RT:aH 294 (Ec a0 a1 a2 a3 a4 a5 a6 a7 a8 a9 a10 a11 a12 a13 a14 a15 a16 a17) (V6 v0 v1 v2 v3 v4 v5) (bR (uk (((a0,a1),(a2,a3),(a4,a5)),((a6,a7),(a8,a9),(a10,a11)),((a12,a13),(a14,a15),(a16,a17))) ((v0,v1),(v2,v3),(v4,v5)))):=by
 obtain⟨A,o⟩:∃A:oH,A=(((a0,a1),(a2,a3),(a4,a5)),((a6,a7),(a8,a9),(a10,a11)),((a12,a13),(a14,a15),(a16,a17))):=⟨_,rfl⟩;obtain⟨D,p⟩:∃D:aq,D=((v0,v1),(v2,v3),(v4,v5)):=⟨_,rfl⟩;obtain⟨r,e⟩:∃l:List AV,l=[a0,a1,a2,a3,a4,a5,a6,a7,a8,a9,a10,a11,a12,a13,a14,a15,a16,a17].map λx=>.pv (Z x):=⟨_,rfl⟩;simp only[W5,Yu]at e;rw[<-o,<-p];refine Dp func294 λC hP hN=>?_
 with_reducible repeat' (first|refine Sp.h ?_|((first|refine Wd ?_|refine Ss.h ?_|(refine Sb.h ?_ ?_ ?_<;>(try intro hgd)<;>try exact Xy))<;>simp -implicitDefEqProofs (maxSteps:=2000000) [hP,hN,e]<;>try refine Ya ?_)|refine X2 ?_ ?_|(refine Xd ?_ ?_<;>intro hcd<;>try exact Xx))
 refine WP.loopN [] 3 (λi st=>st.t 2=.ptr 2 0/\st.t 3=.ptr 3 0/\st.t 4=.ptr 4 0/\st.t 5=.ptr 5 0/\st.h 2=some (.box r true false)/\st.h 3=some (.box [.pv (Z v0),.pv (Z v1),.pv (Z v2),.pv (Z v3),.pv (Z v4),.pv (Z v5)] true false)/\st.h 4=some (.box (cA A D 0 0) true false)/\st.t 8=.pv (Z i)/\st.h 5=some (.box (cA A D i 0) true false)) (by simp[cA,sr,kj,e]) ?_;rintro i st hi ⟨g2,f,g4,g5,a,g,b,m,c⟩;rw[e]at a;by_cases q:i=3
 .simp[cA,sr,q]at m b c
  with_reducible repeat' (first|refine Sp.h ?_|((first|refine Wd ?_|refine Ss.h ?_|(refine Sb.h ?_ ?_ ?_<;>(try intro hgd)<;>try exact Xy))<;>simp -implicitDefEqProofs (maxSteps:=2000000) [hP,hN,g2,f,g4,g5,m,a,g,b,c,uk,q]<;>try refine Ya ?_)|refine X2 ?_ ?_|(refine Xd ?_ ?_<;>intro hcd<;>try exact Xx))
 have d:i=0\/i=1\/i=2:=by omega
 rcases d with d|d|d
 all_goals
  with_reducible repeat' (first|refine Sp.h ?_|((first|refine Wd ?_|refine Ss.h ?_|(refine Sb.h ?_ ?_ ?_<;>(try intro hgd)<;>try exact Xy))<;>simp -implicitDefEqProofs (maxSteps:=2000000) [hP,hN,g2,f,g4,g5,m,a,g,b,c,d]<;>try refine Ya ?_)|refine X2 ?_ ?_|(refine Xd ?_ ?_<;>intro hcd<;>try exact Xx))
  refine WP.loopN [] 3 (λk st=>st.t 2=.ptr 2 0/\st.t 3=.ptr 3 0/\st.t 4=.ptr 4 0/\st.t 5=.ptr 5 0/\st.h 2=some (.box r true false)/\st.h 3=some (.box [.pv (Z v0),.pv (Z v1),.pv (Z v2),.pv (Z v3),.pv (Z v4),.pv (Z v5)] true false)/\st.h 4=some (.box (cA A D 0 0) true false)/\st.t 8=.pv (Z i)/\st.t 6=.pv (Z i)/\st.t 11=.pv (Z k)/\st.h 5=some (.box (cA A D i k) true false)) (by simp[cA,sr,kj,e,g2,f,g4,g5,m,a,g,b,c,d]) ?_;clear g2 f g4 g5 m a g b c;rintro k st u ⟨g2,f,g4,g5,a,g,b,m,s,n,c⟩;rw[e]at a;rcases eJ u with j|j|j|j
  all_goals
   simp[cA,sr,kj,o,p,d,j]at n b c
   with_reducible repeat' (first|refine Sp.h ?_|((first|refine Wd ?_|refine Ss.h ?_|refine Sc.h (NV) ?_|refine Sc.h (Bf) ?_|(refine Sb.h ?_ ?_ ?_<;>(try intro hgd)<;>try exact Xy))<;>simp -implicitDefEqProofs (maxSteps:=2000000) [hP,hN,g2,f,g4,g5,s,m,n,a,g,b,c,e,cA,sr,kj,o,p,d,j]<;>try refine Ya ?_)|refine X2 ?_ ?_|(refine Xd ?_ ?_<;>intro hcd<;>try exact Xx))
theorem RU(x:Int):bh 297 (Z x) (Z (wY x)):=by
 refine Dp func297 λC hP hN=>?_
 with_reducible repeat' (first|refine Sp.h ?_|((first|refine Ss.h ?_|(refine Sb.h ?_ ?_ ?_<;>(try intro hgd)<;>try exact Xy))<;>simp -implicitDefEqProofs (maxSteps:=2000000) [hP,hN])|refine X2 ?_ ?_|(refine Xd ?_ ?_<;>intro hcd<;>try exact Xx))
 all_goals (try simp[wY])
def jk(a b:oH)(i k r c:Nat):Iv:=if r<i\/(r=i/\c<k)then um a b r c else(0,0)
def cC(a b:oH)(i k:Nat):List AV:=[.pv (Z (jk a b i k 0 0).1),.pv (Z (jk a b i k 0 0).2),.pv (Z (jk a b i k 0 1).1),.pv (Z (jk a b i k 0 1).2),.pv (Z (jk a b i k 0 2).1),.pv (Z (jk a b i k 0 2).2),.pv (Z (jk a b i k 1 0).1),.pv (Z (jk a b i k 1 0).2),.pv (Z (jk a b i k 1 1).1),.pv (Z (jk a b i k 1 1).2),.pv (Z (jk a b i k 1 2).1),.pv (Z (jk a b i k 1 2).2),.pv (Z (jk a b i k 2 0).1),.pv (Z (jk a b i k 2 0).2),.pv (Z (jk a b i k 2 1).1),.pv (Z (jk a b i k 2 1).2),.pv (Z (jk a b i k 2 2).1),.pv (Z (jk a b i k 2 2).2)]
def tg(a b:List AV)(A B:oH)(st:St):Prop:=st.t 2=.ptr 2 0/\st.t 3=.ptr 3 0/\st.t 4=.ptr 4 0/\st.t 5=.ptr 5 0/\st.h 2=some (.box a true false)/\st.h 3=some (.box b true false)/\st.h 4=some (.box (cC A B 0 0) true false)
theorem RW{b6 L M N z D E F G H I J:Int}:aH 273 (Ec a0 a1 a2 a3 a4 a5 a6 a7 a8 a9 a10 a11 a12 a13 a14 a15 a16 a17) (Ec b0 b1 b2 b3 b4 b5 b6 L M N z D E F G H I J) (yb (AI (((a0,a1),(a2,a3),(a4,a5)),((a6,a7),(a8,a9),(a10,a11)),((a12,a13),(a14,a15),(a16,a17))) (((b0,b1),(b2,b3),(b4,b5)),((b6,L),(M,N),(z,D)),((E,F),(G,H),(I,J))))):=by
 obtain⟨A,U⟩:∃A:oH,A=(((a0,a1),(a2,a3),(a4,a5)),((a6,a7),(a8,a9),(a10,a11)),((a12,a13),(a14,a15),(a16,a17))):=⟨_,rfl⟩;obtain⟨B,V⟩:∃B:oH,B=(((b0,b1),(b2,b3),(b4,b5)),((b6,L),(M,N),(z,D)),((E,F),(G,H),(I,J))):=⟨_,rfl⟩;rw[<-U,<-V];obtain⟨P,p⟩:∃l:List AV,l=[a0,a1,a2,a3,a4,a5,a6,a7,a8,a9,a10,a11,a12,a13,a14,a15,a16,a17].map λx=>.pv (Z x):=⟨_,rfl⟩;obtain⟨Q,q⟩:∃l:List AV,l=[b0,b1,b2,b3,b4,b5,b6,L,M,N,z,D,E,F,G,H,I,J].map λx=>.pv (Z x):=⟨_,rfl⟩;simp only[W5,Yu]at p q;have hx:∀i k,G1 (kj (g3 A i) (fX B k) 3)=um A B i k:=λ_ _=>rfl;have d1:∀m v n,kj m v (n+1)=gg (kj m v n) (fB (g3 m n) (g3 v n)):=λ_ _ _=>rfl
 have Y:g3 (g3 A 0) 0=(a0,a1)/\g3 (g3 A 0) 1=(a2,a3)/\g3 (g3 A 0) 2=(a4,a5)/\g3 (g3 A 1) 0=(a6,a7)/\g3 (g3 A 1) 1=(a8,a9)/\g3 (g3 A 1) 2=(a10,a11)/\g3 (g3 A 2) 0=(a12,a13)/\g3 (g3 A 2) 1=(a14,a15)/\g3 (g3 A 2) 2=(a16,a17)/\g3 (fX B 0) 0=(b0,b1)/\g3 (fX B 1) 0=(b2,b3)/\g3 (fX B 2) 0=(b4,b5)/\g3 (fX B 0) 1=(b6,L)/\g3 (fX B 1) 1=(M,N)/\g3 (fX B 2) 1=(z,D)/\g3 (fX B 0) 2=(E,F)/\g3 (fX B 1) 2=(G,H)/\g3 (fX B 2) 2=(I,J):=by
  rw[U,V]
  repeat' (first|rfl|constructor)
 refine Dp func273 λC hP hN=>?_
 with_reducible repeat' (first|refine Sp.h ?_|((first|refine Wd ?_|refine Ss.h ?_|(refine Sb.h ?_ ?_ ?_<;>(try intro hgd)<;>try exact Xy))<;>simp -implicitDefEqProofs (maxSteps:=2000000) [hP,hN,p,q]<;>try refine Ya ?_)|refine X2 ?_ ?_|(refine Xd ?_ ?_<;>intro hcd<;>try exact Xx))
 refine WP.loopN [8] 3 (λi st=>tg P Q A B st/\st.t 10=.pv (Z i)/\st.h 5=some (.box (cC A B i 0) true false)/\st.h 8=none) (by simp[tg,cC,jk,p,q]) ?_;rintro i st hi ⟨⟨g2,o,g4,g5,a,b,c⟩,g,d,r⟩;rw[p]at a;rw[q]at b;by_cases T:i=3
 .simp[cC,jk,T]at g c d
  with_reducible repeat' (first|refine Sp.h ?_|((first|refine Wd ?_|refine Ss.h ?_|(refine Sb.h ?_ ?_ ?_<;>(try intro hgd)<;>try exact Xy))<;>simp -implicitDefEqProofs (maxSteps:=2000000) [hP,hN,g2,o,g4,g5,g,a,b,c,d,r,AI,T]<;>try refine Ya ?_)|refine X2 ?_ ?_|(refine Xd ?_ ?_<;>intro hcd<;>try exact Xx))
 have f:i=0\/i=1\/i=2:=by omega
 rcases f with f|f|f
 all_goals
  with_reducible repeat' (first|refine Sp.h ?_|((first|refine Wd ?_|refine Ss.h ?_|(refine Sb.h ?_ ?_ ?_<;>(try intro hgd)<;>try exact Xy))<;>simp -implicitDefEqProofs (maxSteps:=2000000) [hP,hN,g2,o,g4,g5,g,a,b,c,d,r,f]<;>try refine Ya ?_)|refine X2 ?_ ?_|(refine Xd ?_ ?_<;>intro hcd<;>try exact Xx))
  refine WP.loopN [8] 3 (λk st=>tg P Q A B st/\st.t 10=.pv (Z i)/\st.t 6=.pv (Z i)/\st.t 13=.pv (Z k)/\st.h 5=some (.box (cC A B i k) true false)/\st.h 8=none) (by simp[tg,cC,jk,p,q,g2,o,g4,g5,g,a,b,c,d,f]) ?_;clear g2 o g4 g5 g a b c d r;rintro k st hk ⟨⟨g2,o,g4,g5,a,b,c⟩,g,K,u,d,r⟩;rw[p]at a;rw[q]at b;by_cases W:k=3
  .simp[cC,jk,f,W]at u c d
   with_reducible repeat' (first|refine Sp.h ?_|((first|refine Wd ?_|refine Ss.h ?_|(refine Sb.h ?_ ?_ ?_<;>(try intro hgd)<;>try exact Xy))<;>simp -implicitDefEqProofs (maxSteps:=2000000) [hP,hN,g2,o,g4,g5,K,g,u,a,b,c,d,r,tg,p,q,cC,jk,f,W]<;>try refine Ya ?_)|refine X2 ?_ ?_|(refine Xd ?_ ?_<;>intro hcd<;>try exact Xx))
  have s:k=0\/k=1\/k=2:=by omega
  rcases s with s|s|s
  all_goals
   with_reducible repeat' (first|refine Sp.h ?_|((first|refine Wd ?_|refine Ss.h ?_|(refine Sb.h ?_ ?_ ?_<;>(try intro hgd)<;>try exact Xy))<;>simp -implicitDefEqProofs (maxSteps:=2000000) [hP,hN,g2,o,g4,g5,K,g,u,a,b,c,d,r,f,s]<;>try refine Ya ?_)|refine X2 ?_ ?_|(refine Xd ?_ ?_<;>intro hcd<;>try exact Xx))
   refine WP.loopN [] 3 (λj st=>tg P Q A B st/\st.t 10=.pv (Z i)/\st.t 6=.pv (Z i)/\st.t 13=.pv (Z k)/\st.t 7=.pv (Z k)/\st.t 16=.pv (Z j)/\st.h 5=some (.box (cC A B i k) true false)/\st.t 8=.ptr 8 0/\st.h 8=some (.box [.pv (Z (kj (g3 A i) (fX B k) j).1),.pv (Z (kj (g3 A i) (fX B k) j).2)] true false)) (by simp[tg,cC,jk,kj,p,q,g2,o,g4,g5,K,g,u,a,b,c,d,f,s]) ?_;clear g2 o g4 g5 K g u a b c d r;rintro j st hj ⟨⟨g2,o,g4,g5,a,b,c⟩,g,K,u,R,O,d,S,r⟩;rw[p]at a;rw[q]at b;by_cases j3:j=3
   .subst j3
    have e:=hx i k;generalize kj (g3 A i) (fX B k) 3=X at *;simp[cC,jk,f,s]at c d e
    with_reducible repeat' (first|refine Sp.h ?_|((first|refine Wd ?_|refine Ss.h ?_|refine Sc.h (RU _) ?_|(refine Sb.h ?_ ?_ ?_<;>(try intro hgd)<;>try exact Xy))<;>simp -implicitDefEqProofs (maxSteps:=2000000) [hP,hN,g2,o,g4,g5,K,R,S,g,u,O,a,b,c,d,r,tg,p,q,cC,jk,<-e,G1,f,s]<;>try refine Ya ?_)|refine X2 ?_ ?_|(refine Xd ?_ ?_<;>intro hcd<;>try exact Xx))
   have y:j=0\/j=1\/j=2:=by omega
   have e:=d1 (g3 A i) (fX B k) j;generalize kj (g3 A i) (fX B k) (j+1)=nx at *;generalize kj (g3 A i) (fX B k) j=X at *;rcases y with y|y|y
   all_goals
    simp only[f,s,y,Y]at e
    with_reducible repeat' (first|refine Sp.h ?_|((first|refine Wd ?_|refine Ss.h ?_|refine Sc.h (NV) ?_|refine Sc.h (Bf) ?_|(refine Sb.h ?_ ?_ ?_<;>(try intro hgd)<;>try exact Xy))<;>simp -implicitDefEqProofs (maxSteps:=2000000) [hP,hN,g2,o,g4,g5,K,R,S,g,u,O,a,b,c,d,r,e,f,s,y,tg,p,q,cC,jk]<;>try refine Ya ?_)|refine X2 ?_ ?_|(refine Xd ?_ ?_<;>intro hcd<;>try exact Xx))
@[simp] theorem VG:i64.wrap 0=0:=by decide
theorem RX(x:Int):aH 319 (Z x) (I a b) (yb (fN x (a,b))):=by
 have m:aQ prog 275 [.pv (Z 65536)] [] [] (.pv (I 65536 65536)):=Be 65536;have n:aQ prog 275 [.pv (Z 0)] [] [] (.pv (I 0 0)):=Be 0
 cases c:aw a b with
 |false=>
  have d:fN x (a,b)=(bB,bB,bB):=by simp[fN,c]
  rw[d];refine Dp func319 λC hP hN=>?_
  with_reducible repeat' (first|refine Sp.h ?_|((first|refine Ss.h ?_|refine Sc.h (j7 _ _) ?_)<;>simp -implicitDefEqProofs [hP,hN,c,bB]))
 |true=>
  have l:=RO (a:=a) (b:=b);have cc:=RP (a:=a) (b:=b);generalize hS:sj (a,b)=S at *;generalize e:sm (a,b)=Q at *;have k:=J4 (a:=S.1) (b:=S.2);by_cases f:x=0
  .have d:fN x (a,b)=(((65536,65536),(0,0),(0,0)),((0,0),Q,iR S),((0,0),S,Q)):=by simp[fN,c,f,hS,e]
   rw[d];subst f;refine Dp func319 λC hP hN=>?_;have j:=@j7;exact GS c
  by_cases g:x=1
  .have d:fN x (a,b)=((Q,(0,0),S),((0,0),(65536,65536),(0,0)),(iR S,(0,0),Q)):=by simp[fN,c,g,hS,e]
   rw[d];subst g;refine Dp func319 λC hP hN=>?_;have j:=@j7;exact GS c
  by_cases i:x=2
  .have d:fN x (a,b)=((Q,iR S,(0,0)),(S,Q,(0,0)),((0,0),(0,0),(65536,65536))):=by simp[fN,c,i,hS,e]
   rw[d];subst i;refine Dp func319 λC hP hN=>?_;have j:=@j7;exact GS c
  .have d:fN x (a,b)=(bB,bB,bB):=by simp[fN,c,f,g,i]
   rw[d];refine Dp func319 λC hP hN=>?_
   with_reducible repeat' (first|refine Sp.h ?_|((first|refine Wd ?_|refine Ss.h ?_|refine Sc.h (j7 _ _) ?_|refine Sc.h (l) ?_|refine Sc.h (cc) ?_|refine Sc.h (k) ?_|refine Sc.h (m) ?_|refine Sc.h (n) ?_|(refine Sb.h ?_ ?_ ?_<;>(try intro hgd)<;>try exact Xy))<;>simp -implicitDefEqProofs [hP,hN,c,f,g,i,bB]<;>try refine Ya ?_)|refine X2 ?_ ?_|(refine Xd ?_ ?_<;>intro hcd<;>try exact Xx))
theorem Od:Cn 247 (bR bB):=by
 have a:aQ prog 250 [.pv (ow 0 0 0)] [] [] (.pv (bR bB)):=Kh 0 0 0;refine Dp func247 λC hP hN=>?_;exact Gy
theorem Ed:bh 246 (V6 v0 v1 v2 v3 v4 v5) (cK (ed ((v0,v1),(v2,v3),(v4,v5)))):=by
 refine Dp func246 λC hP hN=>?_;have a:=@RS;refine GT trivial ?_
 all_goals (try simp[ed])
def ig:oI:=(mU,bB)
theorem Ki:Cn 194 (cK ig):=by
 have a:aQ prog 246 [.pv (bR bB)] [] [] (.pv (cK ig)):=Ed;refine Dp func194 λC hP hN=>?_;have b:=@Od;exact GS trivial
theorem RY(x:Int):aH 307 (Z x) (I a b) (cK (iu x (a,b))):=by
 have d:=RX (a:=a) (b:=b) x;have c:iu x (a,b)=(fN x (a,b),bB):=rfl;rw[c];generalize fN x (a,b)=m at *;refine Dp func307 λC hP hN=>?_;have e:=@Od;exact GS trivial
abbrev RZ(p:PV):PV:=.fn (.func 292) [] [.rptr p 0]
theorem Oe:bh 272 (yI a0 a1 a2 a3 a4 a5 a6 a7 a8 a9 a10 a11 a12 a13 a14 a15 a16 a17 a18 a19 a20 a21 a22 a23) (RZ (yI a0 a1 a2 a3 a4 a5 a6 a7 a8 a9 a10 a11 a12 a13 a14 a15 a16 a17 a18 a19 a20 a21 a22 a23)):=by
 refine Dp func272 λC hP hN=>?_;exact Gy
theorem Of:aH 292 (V6 v0 v1 v2 v3 v4 v5) (.rptr (yI a0 a1 a2 a3 a4 a5 a6 a7 a8 a9 a10 a11 a12 a13 a14 a15 a16 a17 a18 a19 a20 a21 a22 a23) 0) (bR (iW ((((a0,a1),(a2,a3),(a4,a5)),((a6,a7),(a8,a9),(a10,a11)),((a12,a13),(a14,a15),(a16,a17))),((a18,a19),(a20,a21),(a22,a23))) ((v0,v1),(v2,v3),(v4,v5)))):=by
 refine Dp func292 λC hP hN=>?_;have a:=@RT;have b:=@RQ;refine GT trivial ?_
 all_goals (try simp[iW])
theorem R0:aH 249 (yI a0 a1 a2 a3 a4 a5 a6 a7 a8 a9 a10 a11 a12 a13 a14 a15 a16 a17 a18 a19 a20 a21 a22 a23) (V6 v0 v1 v2 v3 v4 v5) (bR (iW ((((a0,a1),(a2,a3),(a4,a5)),((a6,a7),(a8,a9),(a10,a11)),((a12,a13),(a14,a15),(a16,a17))),((a18,a19),(a20,a21),(a22,a23))) ((v0,v1),(v2,v3),(v4,v5)))):=by
 refine Dp func249 λC hP hN=>?_;have a:=@Oe;have b:=@Of;exact GS trivial
theorem wZ{b6 p q r a b c d e f g i j k l m n o:Int}:aH 245 (yI a0 a1 a2 a3 a4 a5 a6 a7 a8 a9 a10 a11 a12 a13 a14 a15 a16 a17 a18 a19 a20 a21 a22 a23) (yI b0 b1 b2 b3 b4 b5 b6 p q r a b c d e f g i j k l m n o) (cK (oJ ((((a0,a1),(a2,a3),(a4,a5)),((a6,a7),(a8,a9),(a10,a11)),((a12,a13),(a14,a15),(a16,a17))),((a18,a19),(a20,a21),(a22,a23))) ((((b0,b1),(b2,b3),(b4,b5)),((b6,p),(q,r),(a,b)),((c,d),(e,f),(g,i))),((j,k),(l,m),(n,o))))):=by
 refine Dp func245 λC hP hN=>?_;have s:=@Oe;have u:=@Of;have v:=@RW;refine GT trivial ?_
 all_goals (try simp[oJ,iW])
theorem Kj(x:Int):aH 289 (Z x) (I a b) (cK (iu x (a,b))):=by
 have c:=RY (a:=a) (b:=b) x;generalize iu x (a,b)=m at *;refine Dp func289 λC hP hN=>?_;exact Gy
theorem R3(x:Int):aH 291 (Z x) (I a b) (cK ig):=by
 refine Dp func291 λC hP hN=>?_;have c:=@Ki;exact GS trivial
theorem R4:aH 290 (Z 0) (I a b) (cK (ed ((a,b),(0,0),(0,0)))):=by
 have c:=Ed (v0:=((a,b),(0,0),(0,0)).1.1) (v1:=((a,b),(0,0),(0,0)).1.2) (v2:=((a,b),(0,0),(0,0)).2.1.1) (v3:=((a,b),(0,0),(0,0)).2.1.2) (v4:=((a,b),(0,0),(0,0)).2.2.1) (v5:=((a,b),(0,0),(0,0)).2.2.2);refine Dp func290 λC hP hN=>?_;exact Gy
theorem R5:aH 290 (Z 1) (I a b) (cK (ed ((0,0),(a,b),(0,0)))):=by
 have c:=Ed (v0:=((0,0),(a,b),(0,0)).1.1) (v1:=((0,0),(a,b),(0,0)).1.2) (v2:=((0,0),(a,b),(0,0)).2.1.1) (v3:=((0,0),(a,b),(0,0)).2.1.2) (v4:=((0,0),(a,b),(0,0)).2.2.1) (v5:=((0,0),(a,b),(0,0)).2.2.2);refine Dp func290 λC hP hN=>?_;exact Gy
theorem R6:aH 290 (Z 2) (I a b) (cK (ed ((0,0),(0,0),(a,b)))):=by
 have c:=Ed (v0:=((0,0),(0,0),(a,b)).1.1) (v1:=((0,0),(0,0),(a,b)).1.2) (v2:=((0,0),(0,0),(a,b)).2.1.1) (v3:=((0,0),(0,0),(a,b)).2.1.2) (v4:=((0,0),(0,0),(a,b)).2.2.1) (v5:=((0,0),(0,0),(a,b)).2.2.2);refine Dp func290 λC hP hN=>?_;exact Gy
abbrev Ee(f:FuncId)(k:Int):Value:=.func (.func f) #[.int .i64 k] #[]
@[simp] theorem R7:tU prog 299 0=some (false,0,1):=by kernel_rfl
theorem R8:bh 271 (Z 0) (.val (.agg #[Ee 291 0])):=by
 refine Dp func271 λC hP hN=>?_;exact Gy
theorem R9:bh 271 (Z 1) (.val (.agg #[Ee 289 0])):=by
 refine Dp func271 λC hP hN=>?_;exact Gy
theorem Sa:bh 271 (Z 2) (.val (.agg #[Ee 289 1])):=by
 refine Dp func271 λC hP hN=>?_;exact Gy
theorem Sd:bh 271 (Z 3) (.val (.agg #[Ee 289 2])):=by
 refine Dp func271 λC hP hN=>?_;exact Gy
theorem Se:bh 271 (Z 4) (.val (.agg #[Ee 290 0])):=by
 refine Dp func271 λC hP hN=>?_;exact Gy
theorem Sf:bh 271 (Z 5) (.val (.agg #[Ee 290 1])):=by
 refine Dp func271 λC hP hN=>?_;exact Gy
theorem Sg:bh 271 (Z 6) (.val (.agg #[Ee 290 2])):=by
 refine Dp func271 λC hP hN=>?_;exact Gy
def gk(k:Int)(v:Iv):oI:=if k=1 then iu 0 v else if k=2 then iu 1 v else if k=3 then iu 2 v else if k=4 then ed (v,(0,0),(0,0))else if k=5 then ed ((0,0),v,(0,0))else if k=6 then ed ((0,0),(0,0),v)else ig
def mV(j:J)(v:Iv):oI:=oJ (ed (dZ (j.ox,j.oy,j.oz))) (gk j.kind v)
theorem Si(j:J)(m:0<=j.kind)(h6:j.kind<=6):aH 244 (bu j) (I a b) (cK (mV j (a,b))):=by
 have l:=Kh j.ox j.oy j.oz;have k:mV j (a,b)=oJ (ed (dZ (j.ox,j.oy,j.oz))) (gk j.kind (a,b)):=rfl;rw[k];generalize dZ (j.ox,j.oy,j.oz)=pv at *;have i:=Ed (v0:=pv.1.1) (v1:=pv.1.2) (v2:=pv.2.1.1) (v3:=pv.2.1.2) (v4:=pv.2.2.1) (v5:=pv.2.2.2);have i:aQ prog 246 [.pv (bR pv)] [] [] (.pv (cK (ed pv))):=i;generalize ed pv=sp at *
 have key:j.kind=0\/j.kind=1\/j.kind=2\/j.kind=3\/j.kind=4\/j.kind=5\/j.kind=6:=by omega
 rcases key with c|c|c|c|c|c|c
 .have d:gk j.kind (a,b)=ig:=by simp[gk,c]
  have e:=R3 (a:=a) (b:=b) 0;have f:=R8;rw[d];generalize ig=mp at *;refine Dp func244 λC hP hN=>?_;have g:=@wZ;exact GS c
 .have d:gk j.kind (a,b)=iu 0 (a,b):=by simp[gk,c]
  have e:=Kj (a:=a) (b:=b) 0;have f:=R9;rw[d];generalize iu 0 (a,b)=mp at *;refine Dp func244 λC hP hN=>?_;have g:=@wZ;exact GS c
 .have d:gk j.kind (a,b)=iu 1 (a,b):=by simp[gk,c]
  have e:=Kj (a:=a) (b:=b) 1;have f:=Sa;rw[d];generalize iu 1 (a,b)=mp at *;refine Dp func244 λC hP hN=>?_;have g:=@wZ;exact GS c
 .have d:gk j.kind (a,b)=iu 2 (a,b):=by simp[gk,c]
  have e:=Kj (a:=a) (b:=b) 2;have f:=Sd;rw[d];generalize iu 2 (a,b)=mp at *;refine Dp func244 λC hP hN=>?_;have g:=@wZ;exact GS c
 .have d:gk j.kind (a,b)=ed ((a,b),(0,0),(0,0)):=by simp[gk,c]
  have e:=R4 (a:=a) (b:=b);have f:=Se;rw[d];generalize ed ((a,b),(0,0),(0,0))=mp at *;refine Dp func244 λC hP hN=>?_;have g:=@wZ;exact GS c
 .have d:gk j.kind (a,b)=ed ((0,0),(a,b),(0,0)):=by simp[gk,c]
  have e:=R5 (a:=a) (b:=b);have f:=Sf;rw[d];generalize ed ((0,0),(a,b),(0,0))=mp at *;refine Dp func244 λC hP hN=>?_;have g:=@wZ;exact GS c
 .have d:gk j.kind (a,b)=ed ((0,0),(0,0),(a,b)):=by simp[gk,c]
  have e:=R6 (a:=a) (b:=b);have f:=Sg;rw[d];generalize ed ((0,0),(0,0),(a,b))=mp at *;refine Dp func244 λC hP hN=>?_;have g:=@wZ;exact GS c
abbrev Vc:=Int×Int×Int
structure Sh where
 link:Int
 rad:Int
 pts:List Vc
structure Sce where
 js:List J
 ms:List Ms
 shs:List Sh
 sks:List (Int×Int)
variable {A B' l:List Vc}{shs:List Sh}{v:Vc}
abbrev cD(s:Sh):PV:=.agg [Z s.link,Z s.rad,aP s.pts]
abbrev eK(s:Sce):PV:=.agg [.sl (s.js.map bu),.sl (s.ms.map cE),.sl (s.shs.map cD),.sl (s.sks.map aN)]
def aB(m:Int)(v:Vc):Bool:=gC v.1 m&&gC v.2.1 m&&gC v.2.2 m
theorem cT:aB m v=true↔gC v.1 m=true/\gC v.2.1 m=true/\gC v.2.2 m=true:=by
 simp only[aB,An];constructor
 .rintro⟨⟨a,b⟩,c⟩;exact⟨a,b,c⟩
 .rintro⟨a,b,c⟩;exact⟨⟨a,b⟩,c⟩
theorem bp:gC x m=true↔¬x< -m/\¬m<x:=by
 simp only[gC,An,L4];omega
theorem pD(hq:∀k x,k<i->xs[k]?=some x->p x=true)(h:¬i<xs.length):xs.all p=true:=by
 rw[VL];intro x b;obtain⟨k,a⟩:=Wt b;exact hq k x (by have:=(th.1 a).1;omega) a
theorem nE{v:α}(b:xs[i]?=some v)(hq:∀k x,k<i->xs[k]?=some x->p x=true)(hp:p v=true):∀k x,k<i+1->xs[k]?=some x->p x=true:=by
 intro k x c a;by_cases e:k=i
 .subst e;rw[b]at a;injection a with a;subst a;exact hp
 .exact hq k x (by omega) a
def gM(s:Sh):Bool:=decide (1<=s.rad)&&decide (s.rad<=1048576)&&decide (1<=s.pts.length)&&decide (s.pts.length<=8)&&s.pts.all (aB 4194304)
theorem Sj(s:Sh)(U:s.pts.length<=9223372036854775807):bh 248 (cD s) (B (gM s)):=by
 by_cases T:s.rad<1\/1048576<s.rad\/s.pts.length<1\/8<s.pts.length
 .have hf:gM s=false:=by
   cases q:gM s with
   |false=>rfl
   |true=>
    exfalso;unfold gM at q;simp only[An,L4]at q;obtain⟨⟨⟨⟨b1,b2⟩,b3⟩,b4⟩,_⟩:=q;omega
  rw[hf]
  have r:s.rad<1\/1048576<s.rad\/(s.pts.length:Int)<1\/(8:Int)<s.pts.length:=by omega
  rcases r with h|h|h|h
  all_goals
   refine Dp func248 λC hP hN=>?_;exact Gy
 have P:¬s.rad<1:=by omega
 have Q:¬1048576<s.rad:=by omega
 have R:¬(s.pts.length:Int)<1:=by omega
 have S:¬(8:Int)<s.pts.length:=by omega
 have L:¬s.pts.length<1:=by omega
 have M:¬8<s.pts.length:=by omega
 have hf:gM s=s.pts.all (aB 4194304):=by
  have H:decide (1<=s.rad)=true:=by simp;omega
  have I:decide (s.rad<=1048576)=true:=by simp;omega
  have J:decide (1<=s.pts.length)=true:=by simp;omega
  have K:decide (s.pts.length<=8)=true:=by simp;omega
  simp only[gM,H,I,J,K,We]
 rw[hf];refine Dp func248 λC hP hN=>?_
 cases e:s.pts.all (aB 4194304)with
 |true=>
  refine Gz ?_;refine WP.loopN [4] s.pts.length (λi st=>True/\st.t 28=.pv (aP s.pts)/\st.t 29=.pv (Z s.pts.length)/\st.t 30=.pv (Z i)/\st.h 4=none) (by simp) ?_;rintro i st hi ⟨g1,g,j,f,l⟩;by_cases d:i<s.pts.length
  .have o:=aj d (by omega)
   have N:=cT.1 (VL.1 e _ (Wb d));obtain⟨z,A,D⟩:=N;rw[bp]at z A D;generalize m:s.pts[i]=v at *
   have F:s.pts[i]?=some v:=by rw[an d,m]
   refine Gz ?_;refine WP.loopN [] 3 (λk st=>True/\st.t 28=.pv (aP s.pts)/\st.t 29=.pv (Z s.pts.length)/\st.t 30=.pv (Z i)/\st.t 34=.pv (ao v)/\st.t 35=.pv (Z k)) (by simp[g1,g,j,f]) ?_;clear g1 g j f l;rintro k st u ⟨g1,g,j,f,gA,gK⟩;rcases eJ u with rfl|rfl|rfl|rfl
   all_goals
    exact Gy
  .skip
   exact Gy
 |false=>
  refine Gz ?_;refine WP.loopN [4] s.pts.length (λi st=>True/\st.t 28=.pv (aP s.pts)/\st.t 29=.pv (Z s.pts.length)/\st.t 30=.pv (Z i)/\st.h 4=none/\∀k x,k<i->s.pts[k]?=some x->aB 4194304 x=true) (by simp) ?_;rintro i st hi ⟨g1,g,j,f,l,hq⟩;by_cases d:i<s.pts.length
  .have o:=aj d (by omega)
   generalize m:s.pts[i]=v at *
   have F:s.pts[i]?=some v:=by rw[an d,m]
   have y:=nE (p:=aB 4194304) F hq;refine Gz ?_;refine WP.loopN [] 3 (λk st=>True/\st.t 28=.pv (aP s.pts)/\st.t 29=.pv (Z s.pts.length)/\st.t 30=.pv (Z i)/\st.t 34=.pv (ao v)/\st.t 35=.pv (Z k)/\(0<k->gC v.1 4194304=true)/\(1<k->gC v.2.1 4194304=true)/\(2<k->gC v.2.2 4194304=true)) (by simp[g1,g,j,f]) ?_;clear g1 g j f l hq;rintro k st u ⟨g1,g,j,f,gA,gK,E,G,O⟩;rcases eJ u with rfl|rfl|rfl|rfl
   .skip
    with_reducible repeat' (first|refine Sp.h ?_|((first|refine Ss.h ?_|(refine Sb.h ?_ ?_ ?_<;>(try intro hgd)<;>try exact Xy))<;>simp -implicitDefEqProofs (maxSteps:=2000000) [hP,hN,g1,g,j,f,gA,gK,o])|refine X2 ?_ ?_|(refine Xd ?_ ?_<;>intro hcd<;>try exact Xx))
    all_goals (try (rw[bp];simp only[VY,L4]at hgd hcd;omega))
   .skip
    with_reducible repeat' (first|refine Sp.h ?_|((first|refine Ss.h ?_|(refine Sb.h ?_ ?_ ?_<;>(try intro hgd)<;>try exact Xy))<;>simp -implicitDefEqProofs (maxSteps:=2000000) [hP,hN,g1,g,j,f,gA,gK,o])|refine X2 ?_ ?_|(refine Xd ?_ ?_<;>intro hcd<;>try exact Xx))
    all_goals (try (exact⟨E (by omega),by rw[bp];simp only[VY,L4]at hgd hcd;omega⟩))
   .skip
    with_reducible repeat' (first|refine Sp.h ?_|((first|refine Ss.h ?_|(refine Sb.h ?_ ?_ ?_<;>(try intro hgd)<;>try exact Xy))<;>simp -implicitDefEqProofs (maxSteps:=2000000) [hP,hN,g1,g,j,f,gA,gK,o])|refine X2 ?_ ?_|(refine Xd ?_ ?_<;>intro hcd<;>try exact Xx))
    all_goals (try (exact⟨E (by omega),G (by omega),by rw[bp];simp only[VY,L4]at hgd hcd;omega⟩))
   .have hn:aB 4194304 v=true:=cT.2 ⟨E (by omega),G (by omega),O (by omega)⟩
    have n:=y hn;refine Gz ?_
    all_goals (try exact λk a b c=>n k (a,b,c))
  .have:=pD hq d
   rw[this]at e;cases e
abbrev aF(l:List aq):PV:=.sl (l.map bR)
def dM(x:Iv):Bool:=!(decide (x.1< -268435456)||decide (x.2<x.1)||decide (268435456<x.2))
def dk(v:aq):Bool:=dM v.1&&dM v.2.1&&dM v.2.2
def ay(l:List aq):Bool:=decide (1<=l.length)&&decide (l.length<=8)&&l.all dk
theorem gh{x:Iv}:dM x=true↔¬x.1< -268435456/\¬x.2<x.1/\¬268435456<x.2:=by
 simp only[dM,Wy,Xa,VY];constructor
 .rintro⟨⟨a,b⟩,c⟩;exact⟨a,b,c⟩
 .rintro⟨a,b,c⟩;exact⟨⟨a,b⟩,c⟩
theorem gE{v:aq}:dk v=true↔dM v.1=true/\dM v.2.1=true/\dM v.2.2=true:=by
 simp only[dk,An];constructor
 .rintro⟨⟨a,b⟩,c⟩;exact⟨a,b,c⟩
 .rintro⟨a,b,c⟩;exact⟨⟨a,b⟩,c⟩
theorem vD(xs:List aq)(T:xs.length<=9223372036854775807):bh 152 (aF xs) (B (ay xs)):=by
 by_cases S:xs.length<1\/8<xs.length
 .have hf:ay xs=false:=by
   cases y:ay xs with
   |false=>rfl
   |true=>
    exfalso;unfold ay at y;simp only[An,L4]at y;obtain⟨⟨b1,b2⟩,_⟩:=y;omega
  rw[hf]
  have z:(xs.length:Int)<1\/(8:Int)<xs.length:=by omega
  rcases z with h|h
  all_goals
   refine Dp func152 λC hP hN=>?_;exact Gy
 .have Q:¬(xs.length:Int)<1:=by omega
  have R:¬(8:Int)<xs.length:=by omega
  have M:¬xs.length<1:=by omega
  have N:¬8<xs.length:=by omega
  have hf:ay xs=xs.all dk:=by
   have K:decide (1<=xs.length)=true:=by simp;omega
   have L:decide (xs.length<=8)=true:=by simp;omega
   simp only[ay,K,L,We]
  rw[hf];refine Dp func152 λC hP hN=>?_
  cases l:xs.all dk with
  |true=>
   refine Gz ?_;refine WP.loopN [4,6] xs.length (λi st=>st.t 15=.pv (aF xs)/\st.t 16=.pv (Z xs.length)/\st.t 17=.pv (Z i)/\st.h 4=none/\st.h 6=none) (by simp) ?_;rintro i st hi ⟨n,o,m,q,g⟩;by_cases j:i<xs.length
   .have u:=aj j (by omega)
    have O:=gE.1 (VL.1 l _ (Wb j));obtain⟨E,F,G⟩:=O;rw[gh]at E F G;generalize r:xs[i]=v at *
    have I:xs[i]?=some v:=by rw[an j,r]
    refine Gz ?_;refine WP.loopN [6] 3 (λk st=>st.t 15=.pv (aF xs)/\st.t 16=.pv (Z xs.length)/\st.t 17=.pv (Z i)/\st.t 21=.pv (bR v)/\st.t 22=.pv (Z k)/\st.h 6=none) (by simp[n,o,m,g]) ?_;clear n o m q g;rintro k st A ⟨n,o,m,gA,gK,g⟩;rcases eJ A with rfl|rfl|rfl|rfl
    all_goals
     exact Gy
   .skip
    exact Gy
  |false=>
   refine Gz ?_;refine WP.loopN [4,6] xs.length (λi st=>st.t 15=.pv (aF xs)/\st.t 16=.pv (Z xs.length)/\st.t 17=.pv (Z i)/\st.h 4=none/\st.h 6=none/\∀k x,k<i->xs[k]?=some x->dk x=true) (by simp) ?_;rintro i st hi ⟨n,o,m,q,g,hq⟩;by_cases j:i<xs.length
   .have u:=aj j (by omega)
    generalize r:xs[i]=v at *
    have I:xs[i]?=some v:=by rw[an j,r]
    have D:=nE (p:=dk) I hq;refine Gz ?_;refine WP.loopN [6] 3 (λk st=>st.t 15=.pv (aF xs)/\st.t 16=.pv (Z xs.length)/\st.t 17=.pv (Z i)/\st.t 21=.pv (bR v)/\st.t 22=.pv (Z k)/\st.h 6=none/\(0<k->dM v.1=true)/\(1<k->dM v.2.1=true)/\(2<k->dM v.2.2=true)) (by simp[n,o,m,g]) ?_;clear n o m q hq g;rintro k st A ⟨n,o,m,gA,gK,g,H,J,P⟩;rcases eJ A with rfl|rfl|rfl|rfl
    .skip
     with_reducible repeat' (first|refine Sp.h ?_|((first|refine Ss.h ?_|(refine Sb.h ?_ ?_ ?_<;>(try intro hgd)<;>try exact Xy))<;>simp -implicitDefEqProofs (maxSteps:=2000000) [hP,hN,n,o,m,gA,gK,g,u])|refine X2 ?_ ?_|(refine Xd ?_ ?_<;>intro hcd<;>try exact Xx))
     all_goals (try (rw[gh];simp only[VY,L4]at *;omega))
    .skip
     with_reducible repeat' (first|refine Sp.h ?_|((first|refine Ss.h ?_|(refine Sb.h ?_ ?_ ?_<;>(try intro hgd)<;>try exact Xy))<;>simp -implicitDefEqProofs (maxSteps:=2000000) [hP,hN,n,o,m,gA,gK,g,u])|refine X2 ?_ ?_|(refine Xd ?_ ?_<;>intro hcd<;>try exact Xx))
     all_goals (try (exact⟨H (by omega),by rw[gh];simp only[VY,L4]at *;omega⟩))
    .skip
     with_reducible repeat' (first|refine Sp.h ?_|((first|refine Ss.h ?_|(refine Sb.h ?_ ?_ ?_<;>(try intro hgd)<;>try exact Xy))<;>simp -implicitDefEqProofs (maxSteps:=2000000) [hP,hN,n,o,m,gA,gK,g,u])|refine X2 ?_ ?_|(refine Xd ?_ ?_<;>intro hcd<;>try exact Xx))
     all_goals (try (exact⟨H (by omega),J (by omega),by rw[gh];simp only[VY,L4]at *;omega⟩))
    .have hn:dk v=true:=gE.2 ⟨H (by omega),J (by omega),P (by omega)⟩
     have s:=D hn;refine Gz ?_
     all_goals (try exact λk a b c d e f=>s k ((a,b),(c,d),(e,f)))
   .have:=pD hq j
    rw[this]at l;cases l
theorem Og(r:Int):bh 214 (Z r) (B (bt r 0 1048576)):=by
 refine Dp func214 λC hP hN=>?_
 with_reducible repeat' (first|refine Sp.h ?_|((first|refine Ss.h ?_|(refine Sb.h ?_ ?_ ?_<;>(try intro hgd)<;>try exact Xy))<;>simp -implicitDefEqProofs (maxSteps:=2000000) [hP,hN])|refine X2 ?_ ?_|(refine Xd ?_ ?_<;>intro hcd<;>try exact Xx))
 all_goals (first|(simp_all[bt];done)|((try simp_all[bt])<;>(try omega)<;>grind))
theorem Oh(r:Int):bh 197 (Z r) (B (bt r 0 1048576)):=by
 refine Dp func197 λC hP hN=>?_
 with_reducible repeat' (first|refine Sp.h ?_|((first|refine Ss.h ?_|(refine Sb.h ?_ ?_ ?_<;>(try intro hgd)<;>try exact Xy))<;>simp -implicitDefEqProofs (maxSteps:=2000000) [hP,hN])|refine X2 ?_ ?_|(refine Xd ?_ ?_<;>intro hcd<;>try exact Xx))
 all_goals (first|(simp_all[bt];done)|((try simp_all[bt])<;>(try omega)<;>grind))
def mG(x:Iv):Int:=if aw x.1 x.2 then(x.1+x.2)/2 else 0
theorem Kk:bh 137 (I a b) (Z (mG (a,b))):=by
 have h:=Ni a b
 have e:(if aw a b=true then(wr (a+b)).fdiv 2 else 0)=mG (a,b):=by
  unfold mG;split
  .rename_i c
   have c:=ew.1 c;rw[aa (by omega) (by omega)];exact IB (a+b) 2
  .rfl
 rw[e]at h;exact h
def jK(v:aq):Vc:=(mG v.1,mG v.2.1,mG v.2.2)
def aA(l:List aq):List Vc:=if ay l then l.map jK else[]
def cX(n:Nat):Nat:=if n=0 then 0 else Nat.log2 n+1
theorem pE(h:2^k<=n):cX n=k+cX (n/2^k):=by
 have a:0<2^k:=Nat.two_pow_pos k
 have hn:n≠0:=by omega
 have hd:n/2^k≠0:=by
  have:1<=n/2^k:=(Yi a).2 (by omega);omega
 unfold cX;rw[VM hn,VM hd];have b:=(Nat.log2_eq_iff hd (k:=Nat.log2 (n/2^k))).1 rfl
 have c:Nat.log2 n=Nat.log2 (n/2^k)+k:=by
  rw[Nat.log2_eq_iff hn];refine⟨?_,?_⟩
  .rw[Nat.pow_add];exact(Yi a).1 b.1
  .have:=(Nat.div_lt_iff_lt_mul a).1 b.2
   rw[show Nat.log2 (n/2^k)+k+1=(Nat.log2 (n/2^k)+1)+k from by omega,Nat.pow_add];exact this
 omega
theorem Oi(n:Nat):n<2^cX n:=by
 unfold cX;split
 .rename_i h;subst h;decide
 .rename_i h;exact((Nat.log2_eq_iff h (k:=Nat.log2 n)).1 rfl).2
theorem oK(h:n<2^k):cX n<=k:=by
 unfold cX;split
 .omega
 .rename_i a
  have:=((Nat.log2_eq_iff a (k:=Nat.log2 n)).1 rfl).1;have b:2^Nat.log2 n<2^k:=Nat.lt_of_le_of_lt this h;have:=(Nat.pow_lt_pow_iff_right (by decide:1<2)).1 b;omega
abbrev U6(n:Int):PV:=.val (.int .u64 n)
def Ko:ByteArray:=⟨((List.range 256).map λi=>(cX i).toUInt8).toArray⟩
theorem Ei:∀i,i<256->Ko[i]?=some (cX i).toUInt8/\(cX i).toUInt8.toNat=cX i:=by decide +kernel
theorem nV(h:i<256):Ko[i]?=some (cX i).toUInt8:=(Ei i h).1
theorem lV(h:i<256):(cX i).toUInt8.toNat=cX i:=(Ei i h).2
@[simp] theorem UQ:i64.wrap 16=16:=by decide
@[simp] theorem UR:i64.wrap 24=24:=by decide
@[simp] theorem US:i64.wrap 32=32:=by decide
@[simp] theorem UT:i64.wrap 40=40:=by decide
@[simp] theorem UU:i64.wrap 48=48:=by decide
@[simp] theorem UV:i64.wrap 8=8:=by decide
@[simp] theorem UW:i64.wrap 56=56:=by decide
@[simp] theorem VJ:IntKind.u64.bits=64:=rfl
theorem zq{m:Nat}(B:Nat)(h:n/B=m):(n:Int).fdiv (B:Int)=(m:Int):=by
 rw[IB,<-h];exact(Int.natCast_ediv n B).symm
theorem B8(h:n<256):IntKind.u8.wrap (n:Int)=n:=by
 have e:(n:Int)%256=n:=by omega
 unfold IntKind.wrap;simp[IntKind.signed,IntKind.bits,e]
set_option maxRecDepth 100000 in
theorem Sx(n:Nat)(hn:n<18446744073709551616):bh 302 (U6 n) (Z (cX n)):=by
 refine Dp func302 λC hP hN=>?_
 conv in (ByteArray.mk _)=>change Ko
 by_cases a7:4294967296<=n
 .have ar:cX n=32+cX (n/4294967296):=pE (n:=n) (k:=32) (by omega)
  have Y:n/4294967296<4294967296:=by omega
  have a2:(n:Int).fdiv 4294967296=((n/4294967296:Nat):Int):=zq 4294967296 rfl;generalize U:n/4294967296=b at *
  have D:(4294967296:Int)<=(n:Int):=by omega
  by_cases L:65536<=b
  .have H:cX b=16+cX (b/65536):=pE (n:=b) (k:=16) (by omega)
   have G:b/65536<65536:=by omega
   have I:(b:Int).fdiv 65536=((b/65536:Nat):Int):=zq 65536 rfl;generalize E:b/65536=a at *
   have o:(65536:Int)<=(b:Int):=by omega
   by_cases F:256<=a
   .have z:cX a=8+cX (a/256):=pE (n:=a) (k:=8) (by omega)
    have y:a/256<256:=by omega
    have A:(a:Int).fdiv 256=((a/256:Nat):Int):=zq 256 rfl;generalize x:a/256=c at *
    have m:(256:Int)<=(a:Int):=by omega
    have s:=nV (i:=c) (by omega);have u:=B8 (n:=c) (by omega);have g:=lV (i:=c) (by omega);have j:cX c<=8:=oK (by omega);have v:i64.wrap ((56:Int)+(cX c:Int))=56+(cX c:Int):=aa;have l:i64.wrap (cX c:Int)=(cX c:Int):=aa;refine Gz ?_
    all_goals (first|omega|(simp;done)|(simp;omega)|trace_state)
   .have m:¬(256:Int)<=(a:Int):=by omega
    have s:=nV (i:=a) (by omega);have u:=B8 (n:=a) (by omega);have g:=lV (i:=a) (by omega);have j:cX a<=8:=oK (by omega);have v:i64.wrap ((48:Int)+(cX a:Int))=48+(cX a:Int):=aa;have l:i64.wrap (cX a:Int)=(cX a:Int):=aa;refine Gz ?_
    all_goals (first|omega|(simp;done)|(simp;omega)|trace_state)
  .have o:¬(65536:Int)<=(b:Int):=by omega
   by_cases W:256<=b
   .have P:cX b=8+cX (b/256):=pE (n:=b) (k:=8) (by omega)
    have N:b/256<256:=by omega
    have R:(b:Int).fdiv 256=((b/256:Nat):Int):=zq 256 rfl;generalize K:b/256=f at *
    have r:(256:Int)<=(b:Int):=by omega
    have s:=nV (i:=f) (by omega);have u:=B8 (n:=f) (by omega);have g:=lV (i:=f) (by omega);have j:cX f<=8:=oK (by omega);have v:i64.wrap ((40:Int)+(cX f:Int))=40+(cX f:Int):=aa;have l:i64.wrap (cX f:Int)=(cX f:Int):=aa;refine Gz ?_
    all_goals (first|omega|(simp;done)|(simp;omega)|trace_state)
   .have r:¬(256:Int)<=(b:Int):=by omega
    have s:=nV (i:=b) (by omega);have u:=B8 (n:=b) (by omega);have g:=lV (i:=b) (by omega);have j:cX b<=8:=oK (by omega);have v:i64.wrap ((32:Int)+(cX b:Int))=32+(cX b:Int):=aa;have l:i64.wrap (cX b:Int)=(cX b:Int):=aa;exact Gy
    all_goals (first|omega|(simp;done)|(simp;omega)|trace_state)
 .have D:¬(4294967296:Int)<=(n:Int):=by omega
  by_cases a6:65536<=n
  .have ad:cX n=16+cX (n/65536):=pE (n:=n) (k:=16) (by omega)
   have X:n/65536<65536:=by omega
   have a1:(n:Int).fdiv 65536=((n/65536:Nat):Int):=zq 65536 rfl;generalize T:n/65536=d at *
   have B:(65536:Int)<=(n:Int):=by omega
   by_cases V:256<=d
   .have O:cX d=8+cX (d/256):=pE (n:=d) (k:=8) (by omega)
    have M:d/256<256:=by omega
    have Q:(d:Int).fdiv 256=((d/256:Nat):Int):=zq 256 rfl;generalize J:d/256=e at *
    have q:(256:Int)<=(d:Int):=by omega
    have s:=nV (i:=e) (by omega);have u:=B8 (n:=e) (by omega);have g:=lV (i:=e) (by omega);have j:cX e<=8:=oK (by omega);have v:i64.wrap ((24:Int)+(cX e:Int))=24+(cX e:Int):=aa;have l:i64.wrap (cX e:Int)=(cX e:Int):=aa;refine Gz ?_
    all_goals (first|omega|(simp;done)|(simp;omega)|trace_state)
   .have q:¬(256:Int)<=(d:Int):=by omega
    have s:=nV (i:=d) (by omega);have u:=B8 (n:=d) (by omega);have g:=lV (i:=d) (by omega);have j:cX d<=8:=oK (by omega);have v:i64.wrap ((16:Int)+(cX d:Int))=16+(cX d:Int):=aa;have l:i64.wrap (cX d:Int)=(cX d:Int):=aa;exact Gy
    all_goals (first|omega|(simp;done)|(simp;omega)|trace_state)
  .have B:¬(65536:Int)<=(n:Int):=by omega
   by_cases g:256<=n
   .have ba:cX n=8+cX (n/256):=pE (n:=n) (k:=8) (by omega)
    have a8:n/256<256:=by omega
    have bb:(n:Int).fdiv 256=((n/256:Nat):Int):=zq 256 rfl;generalize a5:n/256=p at *
    have S:(256:Int)<=(n:Int):=by omega
    have s:=nV (i:=p) (by omega);have u:=B8 (n:=p) (by omega);have g:=lV (i:=p) (by omega);have j:cX p<=8:=oK (by omega);have v:i64.wrap ((8:Int)+(cX p:Int))=8+(cX p:Int):=aa;have l:i64.wrap (cX p:Int)=(cX p:Int):=aa;exact Gy
    all_goals (first|omega|(simp;done)|(simp;omega)|trace_state)
   .have S:¬(256:Int)<=(n:Int):=by omega
    have s:=nV (i:=n) (by omega);have u:=B8 (n:=n) (by omega);have g:=lV (i:=n) (by omega);have j:cX n<=8:=oK (by omega);have v:i64.wrap ((0:Int)+(cX n:Int))=0+(cX n:Int):=aa;have l:i64.wrap (cX n:Int)=(cX n:Int):=aa;exact Gy
    all_goals (first|omega|(simp;done)|(simp;omega)|trace_state)
def ng(n:Nat):Nat->Nat->Nat
 |0,r=>r
 |k+1,r=>ng n k (if(r+2^k)*(r+2^k)<=n then r+2^k else r)
theorem vG{n:Nat}:∀(k r:Nat),r*r<=n->n<(r+2^k)*(r+2^k)->ng n k r*ng n k r<=n/\n<(ng n k r+1)*(ng n k r+1)
 |0,r,a,b=>⟨a,by simpa[ng]using b⟩
 |k+1,r,a,b=>by
  simp only[ng];split
  .rename_i h
   refine vG k _ h ?_;rw[Xu,<-Nat.two_mul,<-Nat.pow_succ'];exact b
  .rename_i h
   exact vG k r a (by omega)
def dI(n:Nat):Nat:=ng n 32 0
theorem sA(h:n<18446744073709551616):dI n*dI n<=n/\n<(dI n+1)*(dI n+1):=vG 32 0 (WJ _) (by simpa using h)
theorem B9{a b:Nat}(h1:a*a<=n)(c:n<(a+1)*(a+1))(d:b*b<=n)(e:n<(b+1)*(b+1)):a=b:=by
 rcases XL a b with h|h|h
 .have:=Xg (show a+1<=b from h) (show a+1<=b from h);omega
 .exact h
 .have:=Xg (show b+1<=a from h) (show b+1<=a from h);omega
theorem Mz(h:n<18446744073709551616)(c:n<2^k*2^k):ng n k 0=dI n:=by
 have a:=vG (n:=n) k 0 (WJ _) (by simpa using c);have b:=sA h;exact B9 a.1 a.2 b.1 b.2
theorem tN(hn:n<4611686018427387904):dI n<2147483648:=by
 have h:=(sA (n:=n) (by omega)).1;rcases Nat.lt_or_ge (dI n) 2147483648 with a|a
 .exact a
 .have:=Xg a a;omega
def jb(n w:Nat):Nat->Nat
 |0=>0
 |i+1=>if(jb n w i+2^(w-i-1))*(jb n w i+2^(w-i-1))<=n then jb n w i+2^(w-i-1)else jb n w i
theorem FU{n w:Nat}:∀i,i<=w->ng n (w-i) (jb n w i)=ng n w 0
 |0,_=>rfl
 |i+1,h=>by
  rw[<-FU i (by omega)];obtain⟨m,c⟩:∃m,w-i=m+1:=⟨w-i-1,by omega⟩
  have a:w-(i+1)=m:=by omega
  have b:w-i-1=m:=by omega
  rw[c,a];simp only[jb,ng,b]
theorem zt{n w:Nat}:∀i,i<=w->jb n w i+2^(w-i)<=2^w
 |0,_=>by simp[jb]
 |i+1,h=>by
  have ih:=zt (n:=n) (w:=w) i (by omega);obtain⟨m,c⟩:∃m,w-i=m+1:=⟨w-i-1,by omega⟩
  have a:w-(i+1)=m:=by omega
  have b:w-i-1=m:=by omega
  rw[c,Yt]at ih;simp only[jb,a,b];split<;>omega
theorem IM(h:n<18446744073709551616):IntKind.u64.wrap (n:Int)=n:=by
 have e:(n:Int)%18446744073709551616=n:=by omega
 unfold IntKind.wrap;simp[IntKind.signed,IntKind.bits,e]
theorem Sy(n:Nat)(hn:n<4611686018427387904):bh 279 (Z n) (Z (dI n)):=by
 by_cases J:n=0
 .subst J
  have hf:dI 0=0:=by decide +kernel
  rw[hf];refine Dp func279 λC hP hN=>?_;exact Gy
 have cl:=Sx n (by omega);have x:=Oi n;have L:cX n<=62:=oK hn
 have o:¬(n:Int)<=0:=by omega
 have B:IntKind.u64.wrap (n:Int)=n:=IM (by omega);obtain⟨w,U⟩:∃w,w=(cX n+1)/2:=⟨_,rfl⟩
 have s:w<=31:=by omega
 have P:cX n<=2*w:=by omega
 have y:n<2^w*2^w:=by
  rw[<-Nat.pow_add];exact WM x (Nat.pow_le_pow_right (by decide) (by omega))
 have z:=Mz (n:=n) (k:=w) (by omega) y
 have A:((cX n:Int)+1).tdiv 2=(w:Int):=by
  rw[Wa (by omega)];omega
 have Q:i64.wrap ((cX n:Int)+1)=(cX n:Int)+1:=aa;have R:i64.wrap (w:Int)=w:=aa;have F:2^w<=2^31:=Nat.pow_le_pow_right (by decide) s
 have S:IntKind.u64.wrap (2^min w 64)=((2^w:Nat):Int):=by
  rw[Nat.min_eq_left (by omega)];have e:((2^w:Nat):Int)=(2:Int)^w:=Int.natCast_pow 2 w;rw[<-e];exact IM (by omega)
 refine Dp func279 λC hP hN=>?_;refine GT (go o B Q R A S) ?_;refine WP.loopN [] w (λi st=>st.t 0=.pv (Z n)/\st.t 16=.pv (Z w)/\st.t 17=.pv (Z i)/\st.t 4=.pv (U6 (jb n w i))/\st.t 5=.pv (U6 ((2^(w-i):Nat):Int))) (by simp[jb]) ?_;rintro i st hi ⟨g0,f,g,g4,g5⟩;by_cases l:i<w
 .have c:(i:Int)<(w:Int):=by omega
  have d:i64.wrap ((i:Int)+1)=(i:Int)+1:=aa;obtain⟨m,M⟩:∃m,w-i=m+1:=⟨w-i-1,by omega⟩
  have D:w-(i+1)=m:=by omega
  have K:w-i-1=m:=by omega
  have b:=zt (n:=n) (w:=w) i hi;rw[M]at g5 b;rw[Yt]at b
  have d1:((2^(m+1):Nat):Int).tdiv 2=((2^m:Nat):Int):=by
   rw[Wa (by omega),Yt];omega
  have u:jb n w (i+1)=if(jb n w i+2^m)*(jb n w i+2^m)<=n then jb n w i+2^m else jb n w i:=by simp only[jb,K]
  generalize jb n w i=r at *;generalize hq:2^m=q at *;generalize 2^(m+1)=V at *
  have p:r+q<=2^31:=by omega
  have O:(r+q)*(r+q)<=2^31*2^31:=Xg p p;have G:IntKind.u64.wrap (q:Int)=q:=IM (by omega)
  have H:IntKind.u64.wrap ((r:Int)+(q:Int))=(r:Int)+(q:Int):=by have:=IM (n:=r+q) (by omega);simpa using this
  have I:IntKind.u64.wrap (((r:Int)+(q:Int))*((r:Int)+(q:Int)))=((r:Int)+(q:Int))*((r:Int)+(q:Int)):=by
   have:=IM (n:=(r+q)*(r+q)) (by omega);simpa using this
  have E:(((r:Int)+(q:Int))*((r:Int)+(q:Int))<=(n:Int))↔(r+q)*(r+q)<=n:=by
   have e:((r:Int)+(q:Int))*((r:Int)+(q:Int))=(((r+q)*(r+q):Nat):Int):=by simp
   rw[e];omega
  by_cases a:(r+q)*(r+q)<=n
  .have j:=E.2 a
   rw[VS a]at u;refine GT (s6 g0 f g g4 g5 c d d1 G H I (be j B l)) ?_
   all_goals (simp[u,D,hq];rw[<-hq];exact Int.natCast_pow 2 m)
  .have j:¬((r:Int)+(q:Int))*((r:Int)+(q:Int))<=(n:Int):=λh=>a (E.1 h)
   rw[VM a]at u;refine GT (s6 g0 f g g4 g5 c d d1 G H I (be j B l)) ?_
   all_goals (simp[u,D,hq];rw[<-hq];exact Int.natCast_pow 2 m)
 .have v:i=w:=by omega
  subst v
  have hf:jb n i i=dI n:=by
   have:=FU (n:=n) (w:=i) i (VU _);rw[XU]at this;rw[<-z,<-this];rfl
  have b:=zt (n:=n) (w:=i) i (VU _);rw[hf]at g4 b;have N:=tN hn;have T:i64.wrap (dI n:Int)=dI n:=aa;exact GS (go g0 f g g4 g5 T)
def tp(n:Nat):Nat:=if dI n*dI n<n then dI n+1 else dI n
theorem Sz(n:Nat)(hn:n<4611686018427387904):bh 257 (Z n) (Z (tp n)):=by
 have g:=Sy n hn;have i:=tN hn
 have d:tp n=if dI n*dI n<n then dI n+1 else dI n:=rfl
 rw[d];generalize dI n=r at *;have f:r*r<=2147483648*2147483648:=Xg (by omega) (by omega)
 have b:i64.wrap ((r:Int)*(r:Int))=((r*r:Nat):Int):=by
  have e:((r:Int)*(r:Int))=((r*r:Nat):Int):=by simp
  rw[e];exact aa (by omega) (by omega)
 have c:i64.wrap ((r:Int)+1)=(r:Int)+1:=aa;by_cases h:r*r<n
 .have a:((r*r:Nat):Int)<(n:Int):=by omega
  rw[VS h];refine Dp func257 λC hP hN=>?_;exact Gy
  all_goals (first|done|(simp[b,c,a]at *;done)|(exfalso;simp at *;omega))
 .have a:¬((r*r:Nat):Int)<(n:Int):=by omega
  rw[VM h];refine Dp func257 λC hP hN=>?_;exact Gy
  all_goals (first|done|(simp[b,c,a]at *;done)|(exfalso;simp at *;omega))
theorem Oj(v:Vc):bh 251 (ao v) (B (aB 16384 v)):=by
 cases a:aB 16384 v with
 |true=>
  have j:=cT.1 a;obtain⟨d,e,f⟩:=j;rw[bp]at d e f;refine Dp func251 λC hP hN=>?_;refine Gz ?_;refine WP.loopN [] 3 (λk st=>st.t 5=.pv (ao v)/\st.t 6=.pv (Z k)) (by simp) ?_;rintro k st c ⟨g5,b⟩;rcases eJ c with rfl|rfl|rfl|rfl
  all_goals
   exact Gy
 |false=>
  refine Dp func251 λC hP hN=>?_;refine Gz ?_;refine WP.loopN [] 3 (λk st=>st.t 5=.pv (ao v)/\st.t 6=.pv (Z k)/\(0<k->gC v.1 16384=true)/\(1<k->gC v.2.1 16384=true)/\(2<k->gC v.2.2 16384=true)) (by simp) ?_;rintro k st c ⟨g5,b,g,i,l⟩;rcases eJ c with rfl|rfl|rfl|rfl
  .skip
   with_reducible repeat' (first|refine Sp.h ?_|((first|refine Ss.h ?_|(refine Sb.h ?_ ?_ ?_<;>(try intro hgd)<;>try exact Xy))<;>simp -implicitDefEqProofs (maxSteps:=2000000) [hP,hN,g5,b])|refine X2 ?_ ?_|(refine Xd ?_ ?_<;>intro hcd<;>try exact Xx))
   all_goals (try (rw[bp];simp only[VY,L4]at hgd hcd;omega))
  .skip
   with_reducible repeat' (first|refine Sp.h ?_|((first|refine Ss.h ?_|(refine Sb.h ?_ ?_ ?_<;>(try intro hgd)<;>try exact Xy))<;>simp -implicitDefEqProofs (maxSteps:=2000000) [hP,hN,g5,b])|refine X2 ?_ ?_|(refine Xd ?_ ?_<;>intro hcd<;>try exact Xx))
   all_goals (try (exact⟨g (by omega),by rw[bp];simp only[VY,L4]at hgd hcd;omega⟩))
  .skip
   with_reducible repeat' (first|refine Sp.h ?_|((first|refine Ss.h ?_|(refine Sb.h ?_ ?_ ?_<;>(try intro hgd)<;>try exact Xy))<;>simp -implicitDefEqProofs (maxSteps:=2000000) [hP,hN,g5,b])|refine X2 ?_ ?_|(refine Xd ?_ ?_<;>intro hcd<;>try exact Xx))
   all_goals (try (exact⟨g (by omega),i (by omega),by rw[bp];simp only[VY,L4]at hgd hcd;omega⟩))
  .have hn:aB 16384 v=true:=cT.2 ⟨g (by omega),i (by omega),l (by omega)⟩
   rw[hn]at a;cases a
def nz(v:Vc):Bool:=!(v.1==0&&v.2.1==0&&v.2.2==0)
def aR(v:Vc):Bool:=aB 16384 v&&nz v
theorem Ej(v:Vc):bh 198 (ao v) (B (aR v)):=by
 have c:=Oj v;have a:aR v=(aB 16384 v&& !(v.1==0&&v.2.1==0&&v.2.2==0)):=rfl;rw[a];generalize aB 16384 v=b at *;refine Dp func198 λC hP hN=>?_;cases b
 all_goals
  exact Gy
def mo(v:Vc):Vc:=(v.1.tdiv 2,v.2.1.tdiv 2,v.2.2.tdiv 2)
def k9:Nat->Vc->Vc
 |0,v=>v
 |n+1,v=>if aB 16384 v then v else k9 n (mo v)
def bF(v:Vc):Vc:=k9 64 v
def fy(b:Int)(v:Vc):Prop:=(-b<=v.1/\v.1<=b)/\(-b<=v.2.1/\v.2.1<=b)/\(-b<=v.2.2/\v.2.2<=b)
theorem G5(h:-(2*b)<=x/\x<=2*b):-b<=x.tdiv 2/\x.tdiv 2<=b:=by
 have c:0<=b:=by omega
 rcases Yf 0 x with a|a
 .rw[Wa a];omega
 .have e:x.tdiv 2=-((-x).tdiv 2):=by rw[Int.neg_tdiv,Int.neg_neg]
  rw[e,Wa (by omega)];omega
theorem Ek(h:fy (2*b) v):fy b (mo v):=⟨G5 h.1,G5 h.2.1,G5 h.2.2⟩
theorem Ok(v:Vc)(h:fy 1099511627776 v):bh 206 (ao v) (.tup [ao (bF v),B (nz (bF v))]):=by
 have l:nz (bF v)=!((bF v).1==0&&(bF v).2.1==0&&(bF v).2.2==0):=rfl;rw[l];refine Dp func206 λC hP hN=>?_;refine Gz ?_;refine WP.loopN [] 41 (λi st=>∃w:Vc,st.t 1=.ptr 1 0/\st.t 2=.ptr 2 0/\st.h 1=some (.box [.pv (Z w.1),.pv (Z w.2.1),.pv (Z w.2.2)] true false)/\st.h 2=some (.box [.pv (Z 0),.pv (Z 0),.pv (Z 0)] true false)/\k9 (64-i) w=bF v/\fy ((2^(40-i):Nat):Int) w) (by simp;exact⟨v.1,v.2.1,v.2.2,⟨rfl,rfl,rfl⟩,rfl,h⟩) ?_;rintro i st hi ⟨w,g1,g2,a,c,hn,g⟩;have o:=Oj w;obtain⟨m,A⟩:∃m,64-i=m+1:=⟨64-i-1,by omega⟩;rw[A]at hn;simp only[k9]at hn
 cases d:aB 16384 w with
 |true=>
  rw[d]at o;rw[VS d]at hn;subst hn;exact Gy
 |false=>
  rw[d]at o;rw[VM (by rw[d];simp)]at hn
  have r:i<40:=by
   rcases Nat.lt_or_ge i 40 with p|p
   .exact p
   .have e:40-i=0:=by omega
    rw[e]at g
    have:aB 16384 w=true:=by
     obtain⟨⟨a1,a2⟩,⟨a3,a4⟩,a5,a6⟩:=g;rw[cT,bp,bp,bp];omega
    rw[this]at d;cases d
  have b:fy ((2^(40-(i+1)):Nat):Int) (mo w):=by
   obtain⟨q,hq⟩:∃q,40-i=q+1:=⟨40-i-1,by omega⟩
   have s:40-(i+1)=q:=by omega
   rw[hq,Yt]at g;rw[s];refine Ek ?_
   have u:((2^q*2:Nat):Int)=2*((2^q:Nat):Int):=by omega
   rw[<-u];exact g
  have j:k9 (63-i) (mo w)=bF v:=by rw[show 63-i=m by omega];exact hn
  have f:fy ((2:Int)^(39-i)) (mo w):=by
   have e:((2^(40-(i+1)):Nat):Int)=(2:Int)^(39-i):=by rw[show 40-(i+1)=39-i by omega];exact Int.natCast_pow 2 (39-i)
   rw[<-e];exact b
  have z:((2^(40-(i+1)):Nat):Int)<=1099511627776:=by
   have:=Nat.pow_le_pow_right (n:=2) (by decide) (show 40-(i+1)<=40 by omega);omega
  have D:i64.wrap (w.1.tdiv 2)=w.1.tdiv 2:=by have:=b.1;simp only[mo]at this;exact aa (by omega) (by omega)
  have E:i64.wrap (w.2.1.tdiv 2)=w.2.1.tdiv 2:=by have:=b.2.1;simp only[mo]at this;exact aa (by omega) (by omega)
  have F:i64.wrap (w.2.2.tdiv 2)=w.2.2.tdiv 2:=by have:=b.2.2;simp only[mo]at this;exact aa (by omega) (by omega)
  refine Gz ?_;refine WP.loopN [] 3 (λk st=>st.t 1=.ptr 1 0/\st.t 2=.ptr 2 0/\st.h 2=some (.box [.pv (Z 0),.pv (Z 0),.pv (Z 0)] true false)/\st.t 8=.pv (Z k)/\st.h 1=some (.box [.pv (Z (if 0<k then w.1.tdiv 2 else w.1)),.pv (Z (if 1<k then w.2.1.tdiv 2 else w.2.1)),.pv (Z (if 2<k then w.2.2.tdiv 2 else w.2.2))] true false)) (by simp[g1,g2,a,c]) ?_;clear g1 g2 a c;rintro k st y ⟨g1,g2,c,x,a⟩;rcases eJ y with rfl|rfl|rfl|rfl
  all_goals (simp at x a)
  .skip
   exact Gy
  .skip
   exact Gy
  .skip
   exact Gy
  .skip
   refine Gz ?_
   all_goals (refine⟨by omega,_,_,_,⟨rfl,rfl,rfl⟩,?_,?_⟩<;>first|exact j|exact f)
def xe(v:Vc):Nat:=(v.1*v.1+v.2.1*v.2.1+v.2.2*v.2.2).toNat
def gb(v:Vc):Int:=if aR v then(tp (xe v):Int)else 0
theorem Ol(v:Vc):bh 209 (ao v) (Z (gb v)):=by
 have f:=Ej v
 cases c:aR v with
 |false=>
  have d:gb v=0:=by simp[gb,c]
  rw[d];rw[c]at f;refine Dp func209 λC hP hN=>?_;exact Gy
 |true=>
  have d:gb v=(tp (xe v):Int):=by simp[gb,c]
  rw[d];rw[c]at f
  have g:aB 16384 v=true:=by simp only[aR,An]at c;exact c.1
  rw[cT,bp,bp,bp]at g;obtain⟨v1,v2,v3⟩:=v;simp only at g;have m1:=bS (a:=v1) (b:=v1) 16384 16384 (by omega) (by omega) (by omega) (by omega);have m2:=bS (a:=v2) (b:=v2) 16384 16384 (by omega) (by omega) (by omega) (by omega);have j:=bS (a:=v3) (b:=v3) 16384 16384 (by omega) (by omega) (by omega) (by omega)
  have k:0<=v1*v1:=by rcases Yf 0 v1 with h|h;exact WV h h;exact X5 h h
  have l:0<=v2*v2:=by rcases Yf 0 v2 with h|h;exact WV h h;exact X5 h h
  have m:0<=v3*v3:=by rcases Yf 0 v3 with h|h;exact WV h h;exact X5 h h
  have e:xe (v1,v2,v3)=(v1*v1+v2*v2+v3*v3).toNat:=rfl;rw[e];have n:i64.wrap (v1*v1)=v1*v1:=aa;have o:i64.wrap (v2*v2)=v2*v2:=aa;have p:i64.wrap (v3*v3)=v3*v3:=aa;have r:i64.wrap (v1*v1+v2*v2)=v1*v1+v2*v2:=aa;have s:i64.wrap (v1*v1+v2*v2+v3*v3)=v1*v1+v2*v2+v3*v3:=aa;have i:=Sz (v1*v1+v2*v2+v3*v3).toNat (by omega);rw[Int.toNat_of_nonneg (by omega)]at i;generalize(v1*v1+v2*v2+v3*v3).toNat=q at *;refine Dp func209 λC hP hN=>?_;exact Gy
def qO(n:Int)(x:Iv):Int:=min (n*x.1) (n*x.2)
def qP(n:Int)(x:Iv):Int:=max (n*x.1) (n*x.2)
def gP(n:Vc)(v:aq):Int:=qO n.1 v.1+qO n.2.1 v.2.1+qO n.2.2 v.2.2
def gQ(n:Vc)(v:aq):Int:=qP n.1 v.1+qP n.2.1 v.2.1+qP n.2.2 v.2.2
theorem G6{x:Iv}(h:dM x=true):(-268435456<=x.1/\x.1<=268435456)/\(-268435456<=x.2/\x.2<=268435456):=by
 rw[gh]at h;omega
theorem ye(h:gC x 16384=true):-16384<=x/\x<=16384:=by rw[bp]at h;omega
theorem oL{n:Int}{x:Iv}(hn:gC n 16384=true)(c:dM x=true):(-4398046511104<=n*x.1/\n*x.1<=4398046511104)/\(-4398046511104<=n*x.2/\n*x.2<=4398046511104)/\(-4398046511104<=qO n x/\qO n x<=4398046511104)/\(-4398046511104<=qP n x/\qP n x<=4398046511104):=by
 have d:=ye hn;have e:=G6 c;have m1:=bS (a:=n) (b:=x.1) 16384 268435456 (by omega) (by omega) (by omega) (by omega);have m2:=bS (a:=n) (b:=x.2) 16384 268435456 (by omega) (by omega) (by omega) (by omega);unfold qO qP;omega
theorem Om(n:Vc)(v:aq)(hn:aB 16384 n=true)(g:dk v=true):aH 311 (ao n) (bR v) (.tup [Z (gP n v),Z (gQ n v)]):=by
 rw[cT]at hn;rw[gE]at g;obtain⟨D,E,F⟩:=hn;obtain⟨v1,v2,v3⟩:=g;have a1:=oL D v1;have a2:=oL E v2;have a3:=oL F v3;have i:gP n v=qO n.1 v.1+qO n.2.1 v.2.1+qO n.2.2 v.2.2:=rfl;have j:gQ n v=qP n.1 v.1+qP n.2.1 v.2.1+qP n.2.2 v.2.2:=rfl;rw[i,j];have M:i64.wrap (n.1*v.1.1)=n.1*v.1.1:=aa;have N:i64.wrap (n.1*v.1.2)=n.1*v.1.2:=aa;have O:i64.wrap (n.2.1*v.2.1.1)=n.2.1*v.2.1.1:=aa;have P:i64.wrap (n.2.1*v.2.1.2)=n.2.1*v.2.1.2:=aa;have Q:i64.wrap (n.2.2*v.2.2.1)=n.2.2*v.2.2.1:=aa;have R:i64.wrap (n.2.2*v.2.2.2)=n.2.2*v.2.2.2:=aa;have f1:min (n.1*v.1.1) (n.1*v.1.2)=qO n.1 v.1:=rfl;have f2:min (n.2.1*v.2.1.1) (n.2.1*v.2.1.2)=qO n.2.1 v.2.1:=rfl;have f3:min (n.2.2*v.2.2.1) (n.2.2*v.2.2.2)=qO n.2.2 v.2.2:=rfl;have f4:max (n.1*v.1.1) (n.1*v.1.2)=qP n.1 v.1:=rfl;have f5:max (n.2.1*v.2.1.1) (n.2.1*v.2.1.2)=qP n.2.1 v.2.1:=rfl;have f6:max (n.2.2*v.2.2.1) (n.2.2*v.2.2.2)=qP n.2.2 v.2.2:=rfl;generalize u:qO n.1 v.1=a at *;generalize x:qO n.2.1 v.2.1=c at *;generalize y:qO n.2.2 v.2.2=e at *;generalize z:qP n.1 v.1=b at *;generalize A:qP n.2.1 v.2.1=d at *;generalize B:qP n.2.2 v.2.2=f at *;have G:i64.wrap a=a:=aa;have H:i64.wrap (a+c)=a+c:=aa;have I:i64.wrap (a+c+e)=a+c+e:=aa;have J:i64.wrap b=b:=aa;have K:i64.wrap (b+d)=b+d:=aa;have L:i64.wrap (b+d+f)=b+d+f:=aa;refine Dp func311 λC hP hN=>?_;refine Gz ?_;refine WP.loopN [9] 3 (λk st=>st.t 2=.ptr 2 0/\st.h 2=some (.box [.pv (Z n.1),.pv (Z n.2.1),.pv (Z n.2.2)] true false)/\st.t 12=.pv (bR v)/\st.t 13=.pv (Z k)/\st.h 9=none/\st.t 6=.pv (Z (if k=0 then 0 else if k=1 then a else if k=2 then a+c else a+c+e))/\st.t 7=.pv (Z (if k=0 then 0 else if k=1 then b else if k=2 then b+d else b+d+f))) (by simp) ?_;rintro k st s ⟨g2,q,l,m,r,o,p⟩;rcases eJ s with rfl|rfl|rfl|rfl
 all_goals (simp at o p)
 all_goals
  exact Gy
abbrev zu(n:Vc):PV:=.rptr (ao n) 0
abbrev SA(n:Vc):PV:=.agg [.fn (.func 310) [] [zu n],.val (.func (.func 312) #[] #[])]
abbrev SC(n:Vc):PV:=.agg [.fn (.func 313) [] [zu n],.val (.func (.func 314) #[] #[])]
theorem SD(n:Vc):bh 299 (ao n) (SA n):=by
 refine Dp func299 λC hP hN=>?_;exact Gy
theorem SE(n:Vc):bh 301 (ao n) (SC n):=by
 refine Dp func301 λC hP hN=>?_;exact Gy
theorem SF(x y:Int):aH 312 (Z x) (Z y) (B (decide (x<y))):=by
 refine Dp func312 λC hP hN=>?_;exact Gy
theorem SG(x y:Int):aH 314 (Z x) (Z y) (B (decide (y<x))):=by
 refine Dp func314 λC hP hN=>?_;exact Gy
theorem SI(n:Vc)(v:aq)(hn:aB 16384 n=true)(c:dk v=true):aH 310 (bR v) (zu n) (Z (gP n v)):=by
 have d:=Om n v hn c;generalize gP n v=a at *;generalize gQ n v=b at *;refine Dp func310 λC hP hN=>?_;exact Gy
theorem SJ(n:Vc)(v:aq)(hn:aB 16384 n=true)(c:dk v=true):aH 313 (bR v) (zu n) (Z (gQ n v)):=by
 have d:=Om n v hn c;generalize gP n v=a at *;generalize gQ n v=b at *;refine Dp func313 λC hP hN=>?_;exact Gy
def ik(val:aq->Int)(bet:Int->Int->Bool)(xs:List aq):Nat->Int×Nat
 |0=>(0,0)
 |i+1=>match xs[i]? with
  |some v=>if i=0\/bet (val v) (ik val bet xs i).1=true then(val v,i)else ik val bet xs i
  |none=>ik val bet xs i
def Bp(val:aq->Int)(bet:Int->Int->Bool)(xs:List aq):Int×Nat:=ik val bet xs xs.length
theorem xf{val:aq->Int}{xs:List aq}{v:aq}(h:xs[i]?=some v):ik val bet xs (i+1)=if i=0\/bet (val v) (ik val bet xs i).1=true then(val v,i)else ik val bet xs i:=by simp only[ik,h]
theorem On(n:Vc)(f g:FuncId)(val:aq->Int)(bet:Int->Int->Bool)(xs:List aq)(E:xs.length<=1000)(hf:∀v,dk v=true->aQ prog f [.pv (bR v),.pv (zu n)] [] [] (.pv (Z (val v))))(z:∀x y,aQ prog g [.pv (Z x),.pv (Z y)] [] [] (.pv (B (bet x y))))(hp:xs.all dk=true):aH 300 (.agg [.fn (.func f) [] [zu n],.val (.func (.func g) #[] #[])]) (aF xs) (.tup [Z (Bp val bet xs).1,Z (Bp val bet xs).2]):=by
 refine Dp func300 λC hP hN=>?_;refine Gz ?_;refine WP.loopN [9] xs.length (λi st=>st.t 2=.ptr 2 0/\st.h 2=some (.box [.pv (.fn (.func f) [] [zu n]),.pv (.val (.func (.func g) #[] #[]))] true false)/\st.t 11=.pv (aF xs)/\st.t 12=.pv (Z xs.length)/\st.t 13=.pv (Z i)/\st.h 9=none/\st.t 6=.pv (Z (ik val bet xs i).1)/\st.t 7=.pv (Z (ik val bet xs i).2)) (by simp[ik]) ?_;rintro i st hi ⟨g2,r,m,o,p,u,A,D⟩;by_cases c:i<xs.length
 .have F:=aj c (by omega)
  generalize e:xs[i]=v at *
  have l:xs[i]?=some v:=by rw[an c,e]
  have cv:=hf v (VL.1 hp v (Is l));have b:=xf (val:=val) (bet:=bet) l;generalize ik val bet xs i=s at *;generalize ik val bet xs (i+1)=G at *;have j:=z (val v) s.1;generalize val v=y at *;by_cases k:i=0
  .subst k
   rw[VS (.inl rfl)]at b;subst b;exact Gy
  .have q:((i:Int)==0)=false:=by simp;omega
   cases a:bet y s.1 with
   |true=>
    rw[a]at j;rw[VS (.inr a)]at b;subst b;exact Gy
   |false=>
    rw[a]at j;rw[VM (by rintro(h|h);exact k h;rw[a]at h;cases h)]at b;subst b;exact Gy
 .have d:i=xs.length:=by omega
  subst d;refine Gz ?_
  all_goals exact⟨rfl,rfl⟩
def fe(x y:Int):Bool:=decide (x<y)
def ff(x y:Int):Bool:=decide (y<x)
def gR(n:Vc)(xs:List aq):Int×Nat:=Bp (gP n) fe xs
def gS(n:Vc)(xs:List aq):Int×Nat:=Bp (gQ n) ff xs
theorem bZ{xs:List aq}(h:ay xs=true):xs.all dk=true/\xs.length<=8/\1<=xs.length:=by
 simp only[ay,An,L4]at h;exact⟨h.2,h.1.2,h.1.1⟩
theorem SK(n:Vc)(xs:List aq)(g:xs.length<=9223372036854775807):aH 277 (ao n) (aF xs) (.tup (if aR n&&ay xs then[Z (gR n xs).1,Z (gR n xs).2,B true]else[Z 0,Z 0,B false])):=by
 have d:=Ej n;have c:=vD xs g
 cases b:aR n with
 |false=>
  rw[b]at d;refine Dp func277 λC hP hN=>?_;exact Gy
 |true=>
  rw[b]at d
  cases a:ay xs with
  |false=>
   rw[a]at c;refine Dp func277 λC hP hN=>?_;exact Gy
  |true=>
   rw[a]at c
   have hn:aB 16384 n=true:=by simp only[aR,An]at b;exact b.1
   obtain⟨f,j,_⟩:=bZ a;have e:=On n 310 312 (gP n) fe xs (by omega) (λv i=>SI n v hn i) SF f;have hL:Bp (gP n) fe xs=gR n xs:=rfl;rw[hL]at e;generalize gR n xs=r at *;refine Dp func277 λC hP hN=>?_;have k:=SD n;exact GS trivial
theorem SL(n:Vc)(xs:List aq)(g:xs.length<=9223372036854775807):aH 278 (ao n) (aF xs) (.tup (if aR n&&ay xs then[Z (gS n xs).1,Z (gS n xs).2,B true]else[Z 0,Z 0,B false])):=by
 have d:=Ej n;have c:=vD xs g
 cases b:aR n with
 |false=>
  rw[b]at d;refine Dp func278 λC hP hN=>?_;exact Gy
 |true=>
  rw[b]at d
  cases a:ay xs with
  |false=>
   rw[a]at c;refine Dp func278 λC hP hN=>?_;exact Gy
  |true=>
   rw[a]at c
   have hn:aB 16384 n=true:=by simp only[aR,An]at b;exact b.1
   obtain⟨f,j,_⟩:=bZ a;have e:=On n 313 314 (gQ n) ff xs (by omega) (λv i=>SJ n v hn i) SG f;have hL:Bp (gQ n) ff xs=gS n xs:=rfl;rw[hL]at e;generalize gS n xs=r at *;refine Dp func278 λC hP hN=>?_;have k:=SE n;exact GS trivial
abbrev zv(a:List aq)(c:Int)(b:List aq)(d:Int):PV:=.agg [aF a,Z c,aF b,Z d]
def pU(a:List aq)(r:Int):Bool:=ay a&&decide (0<=r)&&decide (r<=1048576)
theorem Oo(a:List aq)(r:Int)(b:a.length<=9223372036854775807):bh 276 (.agg [aF a,Z r]) (B (pU a r)):=by
 have d:=vD a b;have c:pU a r=(ay a&&decide (0<=r)&&decide (r<=1048576)):=rfl;rw[c];generalize ay a=p at *;cases p
 all_goals
  refine Dp func276 λC hP hN=>?_;exact Gy
  all_goals (try (simp only[L4,VY]at hgd;intros;omega))
theorem SM(a:List aq)(c:Int)(b:List aq)(d:Int):EG 202 (aF a) (Z c) (aF b) (Z d) (zv a c b d):=by
 refine Dp func202 λC hP hN=>?_;exact Gy
theorem zw{val:aq->Int}{bet:Int->Int->Bool}{xs:List aq}{m:Int}(a:0<=m)(h:∀v∈xs,-m<=val v/\val v<=m):∀i,-m<=(ik val bet xs i).1/\(ik val bet xs i).1<=m
 |0=>by simp[ik];omega
 |i+1=>by
  have ih:=zw (val:=val) (bet:=bet) a h i;simp only[ik];split
  .rename_i v b
   split
   .exact h v (Is b)
   .exact ih
  .exact ih
theorem FV{n:Vc}{v:aq}(hn:aB 16384 n=true)(a:dk v=true):(-13194139533312<=gP n v/\gP n v<=13194139533312)/\(-13194139533312<=gQ n v/\gQ n v<=13194139533312):=by
 rw[cT]at hn;rw[gE]at a;obtain⟨b,c,d⟩:=hn;obtain⟨v1,v2,v3⟩:=a;have a1:=oL b v1;have a2:=oL c v2;have a3:=oL d v3;unfold gP gQ;omega
theorem Ca{n:Vc}{xs:List aq}(hn:aB 16384 n=true)(b:xs.all dk=true):-13194139533312<=(gR n xs).1/\(gR n xs).1<=13194139533312:=
 zw (by decide) (λv a=>(FV hn (VL.1 b v a)).1) _
theorem Cb{n:Vc}{xs:List aq}(hn:aB 16384 n=true)(b:xs.all dk=true):-13194139533312<=(gS n xs).1/\(gS n xs).1<=13194139533312:=
 zw (by decide) (λv a=>(FV hn (VL.1 b v a)).2) _
theorem IN(c:aB 16384 v=true):xe v<=805306368:=by
 rw[cT,bp,bp,bp]at c;obtain⟨v1,v2,v3⟩:=v;simp only at c;have m1:=bS (a:=v1) (b:=v1) 16384 16384 (by omega) (by omega) (by omega) (by omega);have m2:=bS (a:=v2) (b:=v2) 16384 16384 (by omega) (by omega) (by omega) (by omega);have d:=bS (a:=v3) (b:=v3) 16384 16384 (by omega) (by omega) (by omega) (by omega);show(v1*v1+v2*v2+v3*v3).toNat<=_;omega
theorem vH(v:Vc):0<=gb v/\gb v<=32768:=by
 unfold gb;split
 .rename_i a
  have b:aB 16384 v=true:=by simp only[aR,An]at a;exact a.1
  have c:=IN b;have d:=(sA (n:=xe v) (by omega)).1
  have e:dI (xe v)<32768:=by
   rcases Nat.lt_or_ge (dI (xe v)) 32768 with h|h
   .exact h
   .have:=Xg h h;omega
  unfold tp;split<;>omega
 .omega
def mq(n:Vc)(a:List aq)(c:Int)(b:List aq)(d:Int):Int:=(gR n a).1-(gS n b).1-gb n*(c+d)
def lp(n:Vc)(a:List aq)(c:Int)(b:List aq)(d:Int):Bool:=pU a c&&pU b d&&aR n
theorem SN(n:Vc)(a:List aq)(c:Int)(b:List aq)(d:Int)(s:a.length<=9223372036854775807)(i:b.length<=9223372036854775807):aH 254 (zv a c b d) (ao n) (.tup (if lp n a c b d then[Z (mq n a c b d),B true]else[Z 0,B false])):=by
 have p:=Oo a c s;have r:=Oo b d i;have A:lp n a c b d=(pU a c&&pU b d&&aR n):=rfl;rw[A]
 cases j:pU a c with
 |false=>
  rw[j]at p;refine Dp func254 λC hP hN=>?_;exact Gy
 |true=>
  rw[j]at p
  cases k:pU b d with
  |false=>
   rw[k]at r;refine Dp func254 λC hP hN=>?_;exact Gy
  |true=>
   rw[k]at r;simp only[pU,An,L4]at j k;obtain⟨⟨e,v⟩,x⟩:=j;obtain⟨⟨f,y⟩,z⟩:=k;have cl:=SK n a s;have o:=SL n b i;rw[e,Xw]at cl;rw[f,Xw]at o
   cases m:aR n with
   |false=>
    rw[m]at cl;simp at cl;refine Dp func254 λC hP hN=>?_;exact Gy
   |true=>
    rw[m]at cl o;simp at cl o
    have hn:aB 16384 n=true:=by simp only[aR,An]at m;exact m.1
    have E:=Ca hn (bZ e).1;have F:=Cb hn (bZ f).1;have G:=vH n;have D:=Ol n;have u:mq n a c b d=(gR n a).1-(gS n b).1-gb n*(c+d):=rfl;rw[u];generalize gR n a=l at *;generalize gS n b=g at *;generalize gb n=q at *;have m1:=bS (a:=q) (b:=c+d) 32768 2097152 (by omega) (by omega) (by omega) (by omega);have H:i64.wrap (c+d)=c+d:=aa;have I:i64.wrap (q*(c+d))=q*(c+d):=aa;have J:i64.wrap (l.1-g.1)=l.1-g.1:=aa;have K:i64.wrap (l.1-g.1-q*(c+d))=l.1-g.1-q*(c+d):=aa;refine Dp func254 λC hP hN=>?_;exact Gy
def jH(n:Vc)(a:List aq)(c:Int)(b:List aq)(d:Int):Bool:=lp n a c b d&&decide (0<mq n a c b d)
theorem SO(n:Vc)(a:List aq)(c:Int)(b:List aq)(d:Int)(i:a.length<=9223372036854775807)(e:b.length<=9223372036854775807):aH 201 (zv a c b d) (ao n) (B (jH n a c b d)):=by
 have f:=SN n a c b d i e;have j:jH n a c b d=(lp n a c b d&&decide (0<mq n a c b d)):=rfl;rw[j];generalize mq n a c b d=m at *;cases g:lp n a c b d<;>rw[g]at f<;>simp at f
 all_goals
  refine Dp func201 λC hP hN=>?_;exact Gy
theorem SP(n:Vc)(a:List aq)(c:Int)(b:List aq)(d:Int)(f:a.length<=9223372036854775807)(e:b.length<=9223372036854775807):uw 148 (ao n) (aF a) (Z c) (aF b) (Z d) (B (jH n a c b d)):=by
 have g:=SO n a c b d f e;generalize jH n a c b d=s at *;refine Dp func148 λC hP hN=>?_;have i:=SM a c b d;exact GS trivial
def dC(w:Int)(s x:Iv):Iv:=(s.1+w*x.1,s.2+w*x.2)
def rj(w:Int)(s x:aq):aq:=(dC w s.1 x.1,dC w s.2.1 x.2.1,dC w s.2.2 x.2.2)
def dH(l:List aq)(ws:List Int):Nat->aq
 |0=>bB
 |i+1=>match l[i]?,ws[i]? with
  |some x,some w=>rj w (dH l ws i) x
  |_,_=>dH l ws i
def bi(ws:List Int):Nat->Int
 |0=>0
 |i+1=>bi ws i+(ws[i]?).getD 0
def wB(w:Int):Bool:=!(decide (w<0)||decide (65536<w))
def eh(l:List aq)(ws:List Int):Bool:=ay l&&decide (ws.length=l.length)&&ws.all wB&& !(decide (bi ws ws.length<1)||decide (65536<bi ws ws.length))
abbrev gc(l:List aq)(ws:List Int):PV:=.tup (if eh l ws then[bR (dH l ws ws.length),Z (bi ws ws.length),B true]else[bR bB,Z 0,B false])
theorem iS{w:Int}{s x:Iv}{m:Nat}(d:0<=w/\w<=65536)(c:dM x=true)(hs:(-((m:Int)*17592186044416)<=s.1/\s.1<=(m:Int)*17592186044416)/\(-((m:Int)*17592186044416)<=s.2/\s.2<=(m:Int)*17592186044416)):
 ((-17592186044416<=w*x.1/\w*x.1<=17592186044416)/\(-17592186044416<=w*x.2/\w*x.2<=17592186044416))/\(-(((m+1:Nat):Int)*17592186044416)<=(dC w s x).1/\(dC w s x).1<=((m+1:Nat):Int)*17592186044416)/\(-(((m+1:Nat):Int)*17592186044416)<=(dC w s x).2/\(dC w s x).2<=((m+1:Nat):Int)*17592186044416):=by
 rw[gh]at c;have m1:=bS (a:=w) (b:=x.1) 65536 268435456 (by omega) (by omega) (by omega) (by omega);have m2:=bS (a:=w) (b:=x.2) 65536 268435456 (by omega) (by omega) (by omega) (by omega);simp only[dC];omega
def Bq(m:Nat)(s:Iv):Prop:=(-((m:Int)*17592186044416)<=s.1/\s.1<=(m:Int)*17592186044416)/\(-((m:Int)*17592186044416)<=s.2/\s.2<=(m:Int)*17592186044416)
def sB(m:Nat)(s:aq):Prop:=Bq m s.1/\Bq m s.2.1/\Bq m s.2.2
theorem zx{l:List aq}{ws:List Int}(b:∀v∈l,dk v=true)(h:∀w∈ws,wB w=true):∀i:Nat,sB i (dH l ws i)
 |0=>by simp[dH,sB,Bq,bB]
 |i+1=>by
  have ih:=zx b h i;simp only[dH];split
  .rename_i x w e d
   have a:=b x (Is e);have c:=h w (Is d);rw[gE]at a;simp only[wB,Wy,Xa,VY]at c;exact⟨(iS ⟨by omega,by omega⟩ a.1 ih.1).2,(iS ⟨by omega,by omega⟩ a.2.1 ih.2.1).2,(iS ⟨by omega,by omega⟩ a.2.2 ih.2.2).2⟩
  .obtain⟨⟨⟨a1,a2⟩,a3,a4⟩,⟨⟨b1,b2⟩,b3,b4⟩,⟨f,g⟩,j,k⟩:=ih
   refine⟨⟨⟨?_,?_⟩,?_,?_⟩,⟨⟨?_,?_⟩,?_,?_⟩,⟨?_,?_⟩,?_,?_⟩<;>omega
def lC(s x:aq)(w:Int)(k:Nat):List AV:=[.pv (Z (if 0<k then(dC w s.1 x.1).1 else s.1.1)),.pv (Z (if 0<k then(dC w s.1 x.1).2 else s.1.2)),.pv (Z (if 1<k then(dC w s.2.1 x.2.1).1 else s.2.1.1)),.pv (Z (if 1<k then(dC w s.2.1 x.2.1).2 else s.2.1.2)),.pv (Z (if 2<k then(dC w s.2.2 x.2.2).1 else s.2.2.1)),.pv (Z (if 2<k then(dC w s.2.2 x.2.2).2 else s.2.2.2))]
abbrev b6(s:aq):List AV:=[.pv (Z s.1.1),.pv (Z s.1.2),.pv (Z s.2.1.1),.pv (Z s.2.1.2),.pv (Z s.2.2.1),.pv (Z s.2.2.2)]
set_option maxRecDepth 4000 in
theorem Oq(l:List aq)(ws:List Int)(hl:l.length<=9223372036854775807)(V:ws.length<=9223372036854775807):aH 213 (aF l) (zs ws) (gc l ws):=by
 have cp:=vD l hl;have hc:eh l ws=(ay l&&decide (ws.length=l.length)&&ws.all wB&& !(decide (bi ws ws.length<1)||decide (65536<bi ws ws.length))):=rfl;have z6:bR bB=V6 0 0 0 0 0 0:=rfl
 cases hp:ay l with
 |false=>
  have hf:eh l ws=false:=by rw[hc,hp];simp
  rw[hp]at cp
  have H:gc l ws=.tup [V6 0 0 0 0 0 0,Z 0,B false]:=by unfold gc;rw[hf];rfl
  rw[H];refine Dp func213 λC hP hN=>?_;exact Gy
 |true=>
 rw[hp]at cp;by_cases J:ws.length=l.length
 case neg=>
  have hf:eh l ws=false:=by rw[hc];simp[J]
  have E:((ws.length:Int)!=(l.length:Int))=true:=by simp;omega
  have bc:¬(ws.length:Int)=(l.length:Int):=by omega
  have H:gc l ws=.tup [V6 0 0 0 0 0 0,Z 0,B false]:=by unfold gc;rw[hf];rfl
  rw[H];refine Dp func213 λC hP hN=>?_;exact Gy
 have E:((ws.length:Int)!=(l.length:Int))=false:=by simp[J]
 simp only[ay,An,L4]at hp;obtain⟨⟨a6,a7⟩,Q⟩:=hp;have R:=VL.1 Q
 have P:eh l ws=(ws.all wB&& !(decide (bi ws ws.length<1)||decide (65536<bi ws ws.length))):=by
  have e1:ay l=true:=by simp only[ay,An,L4];exact⟨⟨a6,a7⟩,Q⟩
  rw[hc,e1,Wv J];simp
 clear hc
 cases s:ws.all wB with
 |false=>
  have hf:eh l ws=false:=by rw[P,s];rfl
  have H:gc l ws=.tup [V6 0 0 0 0 0 0,Z 0,B false]:=by unfold gc;rw[hf];rfl
  rw[H];refine Dp func213 λC hP hN=>?_;refine GT E ?_;refine WP.loopN [12] ws.length (λi st=>st.t 0=.pv (aF l)/\st.t 4=.ptr 4 0/\st.h 4=some (.box (b6 bB) true false)/\st.t 7=.ptr 7 0/\st.h 7=some (.box (b6 (dH l ws i)) true false)/\st.t 8=.pv (Z (bi ws i))/\st.t 24=.pv (zs ws)/\st.t 25=.pv (Z ws.length)/\st.t 26=.pv (Z i)/\st.h 12=none/\(∀k x,k<i->ws[k]?=some x->wB x=true)/\sB i (dH l ws i)/\0<=bi ws i/\bi ws i<=(i:Int)*65536) (by simp[dH,bi,bB,sB,Bq]) ?_;rintro i st hi ⟨g0,g4,f,m,b,n,c,d,e,a,hq,L,ba,bb⟩;by_cases g:i<ws.length
  .have hw:=aj g V
   generalize z:ws[i]=w at *
   have F:ws[i]?=some w:=by rw[an g,z]
   have u:i<l.length:=by omega
   generalize G:l[i]=x at *
   have M:l[i]?=some x:=by rw[an u,G]
   have a8:=nE (p:=wB) F hq
   cases v:wB w with
   |false=>
    have y:w<0\/65536<w:=by
     simp only[wB,Bool.not_eq_false',WL,L4]at v;exact v
    rcases y with I|I
    .skip
     exact GS (s6 g0 g4 f m b n c d e a g (be F z I))
    .have h10:¬w<0:=by omega
     exact GS (s7 g0 g4 f m b n c d e a g F z I h10)
   |true=>
    have U:=a8 v
    have y:¬w<0/\¬65536<w:=by
     simp only[wB,Wy,Xa,VY]at v;exact v
    obtain⟨I,h10⟩:=y;have r:=R x (Is M);rw[gE]at r
    have hS:dH l ws (i+1)=rj w (dH l ws i) x:=by simp only[dH,F,M]
    have N:bi ws (i+1)=bi ws i+w:=by simp only[bi,F,V5]
    obtain⟨W,X,Y⟩:=L;have a1:=iS (w:=w) (x:=x.1) ⟨by omega,by omega⟩ r.1 W;have a2:=iS (w:=w) (x:=x.2.1) ⟨by omega,by omega⟩ r.2.1 X;have a3:=iS (w:=w) (x:=x.2.2) ⟨by omega,by omega⟩ r.2.2 Y;have K:sB (i+1) (rj w (dH l ws i) x):=⟨a1.2,a2.2,a3.2⟩;generalize dH l ws i=S at *;generalize dH l ws (i+1)=S' at *;generalize bi ws i=T at *;generalize bi ws (i+1)=T' at *;subst hS;subst N;have wT:i64.wrap (T+w)=T+w:=aa;have d1:(dC w S.1 x.1).1=S.1.1+w*x.1.1:=rfl;have d2:(dC w S.1 x.1).2=S.1.2+w*x.1.2:=rfl;have d3:(dC w S.2.1 x.2.1).1=S.2.1.1+w*x.2.1.1:=rfl;have d4:(dC w S.2.1 x.2.1).2=S.2.1.2+w*x.2.1.2:=rfl;have d5:(dC w S.2.2 x.2.2).1=S.2.2.1+w*x.2.2.1:=rfl;have d6:(dC w S.2.2 x.2.2).2=S.2.2.2+w*x.2.2.2:=rfl;have u1:i64.wrap (w*x.1.1)=w*x.1.1:=aa;have u2:i64.wrap (w*x.1.2)=w*x.1.2:=aa;have u3:i64.wrap (w*x.2.1.1)=w*x.2.1.1:=aa;have u4:i64.wrap (w*x.2.1.2)=w*x.2.1.2:=aa;have u5:i64.wrap (w*x.2.2.1)=w*x.2.2.1:=aa;have u6:i64.wrap (w*x.2.2.2)=w*x.2.2.2:=aa;have v1:i64.wrap (S.1.1+w*x.1.1)=(dC w S.1 x.1).1:=(aa (by rw[<-d1];omega) (by rw[<-d1];omega)).trans d1.symm;have v2:i64.wrap (S.1.2+w*x.1.2)=(dC w S.1 x.1).2:=(aa (by rw[<-d2];omega) (by rw[<-d2];omega)).trans d2.symm;have v3:i64.wrap (S.2.1.1+w*x.2.1.1)=(dC w S.2.1 x.2.1).1:=(aa (by rw[<-d3];omega) (by rw[<-d3];omega)).trans d3.symm;have v4:i64.wrap (S.2.1.2+w*x.2.1.2)=(dC w S.2.1 x.2.1).2:=(aa (by rw[<-d4];omega) (by rw[<-d4];omega)).trans d4.symm;have v5:i64.wrap (S.2.2.1+w*x.2.2.1)=(dC w S.2.2 x.2.2).1:=(aa (by rw[<-d5];omega) (by rw[<-d5];omega)).trans d5.symm;have v6:i64.wrap (S.2.2.2+w*x.2.2.2)=(dC w S.2.2 x.2.2).2:=(aa (by rw[<-d6];omega) (by rw[<-d6];omega)).trans d6.symm;have D:b6 (rj w S x)=lC S x w 3:=rfl;have A:b6 S=lC S x w 0:=rfl;rw[A]at b;rw[D];refine GT (s7 g0 g4 f m n c d e a g u F z M (f8 G I h10 wT b)) ?_;refine WP.loopN [12] 3 (λk st=>st.t 0=.pv (aF l)/\st.t 4=.ptr 4 0/\st.h 4=some (.box (b6 bB) true false)/\st.t 7=.ptr 7 0/\st.h 7=some (.box (lC S x w k) true false)/\st.t 8=.pv (Z (T+w))/\st.t 10=.pv (Z w)/\st.t 24=.pv (zs ws)/\st.t 25=.pv (Z ws.length)/\st.t 26=.pv (Z i)/\st.h 12=none/\st.t 44=.pv (bR x)/\st.t 45=.pv (Z k)) (by simp[g0,g4,f,m,n,c,d,e,a,b,lC]) ?_;clear g0 g4 f m b n c d e a hq;rintro k st hk ⟨g0,g4,f,m,b,n,o,c,d,e,a,q,j⟩;clear d1 d2 d3 d4 d5 d6 a1 a2 a3 W X Y;rcases eJ hk with rfl|rfl|rfl|rfl
    all_goals (simp[lC]at b j)
    .skip
     exact GS (s7 g0 g4 f m n o c d e a q j b u1 (f7 u2 v1 v2 @lC.eq_1))
    .skip
     exact GS (s7 g0 g4 f m n o c d e a q j b u3 (f7 u4 v3 v4 @lC.eq_1))
    .skip
     exact GS (s7 g0 g4 f m n o c d e a q j b u5 (f7 u6 v5 v6 @lC.eq_1))
    .skip
     refine GT (s7 g0 g4 f m n o c d e a q j b hw (gA g @lC.eq_1)) ?_
     all_goals exact⟨U,K,by omega,by omega⟩
  .have:=pD hq g
   rw[this]at s;cases s
 |true=>
  refine Dp func213 λC hP hN=>?_;refine GT E ?_;refine WP.loopN [12] ws.length (λi st=>st.t 0=.pv (aF l)/\st.t 4=.ptr 4 0/\st.h 4=some (.box (b6 bB) true false)/\st.t 7=.ptr 7 0/\st.h 7=some (.box (b6 (dH l ws i)) true false)/\st.t 8=.pv (Z (bi ws i))/\st.t 24=.pv (zs ws)/\st.t 25=.pv (Z ws.length)/\st.t 26=.pv (Z i)/\st.h 12=none/\sB i (dH l ws i)/\0<=bi ws i/\bi ws i<=(i:Int)*65536) (by simp[dH,bi,bB,sB,Bq]) ?_;rintro i st hi ⟨g0,g4,f,m,b,n,c,d,e,a,L,ba,bb⟩;by_cases g:i<ws.length
  .have hw:=aj g V
   generalize z:ws[i]=w at *
   have F:ws[i]?=some w:=by rw[an g,z]
   have u:i<l.length:=by omega
   generalize G:l[i]=x at *
   have M:l[i]?=some x:=by rw[an u,G]
   have v:=VL.1 s w (Is F)
   have y:¬w<0/\¬65536<w:=by
    simp only[wB,Wy,Xa,VY]at v;exact v
   obtain⟨I,h10⟩:=y;have r:=R x (Is M);rw[gE]at r
   have hS:dH l ws (i+1)=rj w (dH l ws i) x:=by simp only[dH,F,M]
   have N:bi ws (i+1)=bi ws i+w:=by simp only[bi,F,V5]
   obtain⟨W,X,Y⟩:=L;have a1:=iS (w:=w) (x:=x.1) ⟨by omega,by omega⟩ r.1 W;have a2:=iS (w:=w) (x:=x.2.1) ⟨by omega,by omega⟩ r.2.1 X;have a3:=iS (w:=w) (x:=x.2.2) ⟨by omega,by omega⟩ r.2.2 Y;have K:sB (i+1) (rj w (dH l ws i) x):=⟨a1.2,a2.2,a3.2⟩;generalize dH l ws i=S at *;generalize dH l ws (i+1)=S' at *;generalize bi ws i=T at *;generalize bi ws (i+1)=T' at *;subst hS;subst N;have wT:i64.wrap (T+w)=T+w:=aa;have d1:(dC w S.1 x.1).1=S.1.1+w*x.1.1:=rfl;have d2:(dC w S.1 x.1).2=S.1.2+w*x.1.2:=rfl;have d3:(dC w S.2.1 x.2.1).1=S.2.1.1+w*x.2.1.1:=rfl;have d4:(dC w S.2.1 x.2.1).2=S.2.1.2+w*x.2.1.2:=rfl;have d5:(dC w S.2.2 x.2.2).1=S.2.2.1+w*x.2.2.1:=rfl;have d6:(dC w S.2.2 x.2.2).2=S.2.2.2+w*x.2.2.2:=rfl;have u1:i64.wrap (w*x.1.1)=w*x.1.1:=aa;have u2:i64.wrap (w*x.1.2)=w*x.1.2:=aa;have u3:i64.wrap (w*x.2.1.1)=w*x.2.1.1:=aa;have u4:i64.wrap (w*x.2.1.2)=w*x.2.1.2:=aa;have u5:i64.wrap (w*x.2.2.1)=w*x.2.2.1:=aa;have u6:i64.wrap (w*x.2.2.2)=w*x.2.2.2:=aa;have v1:i64.wrap (S.1.1+w*x.1.1)=(dC w S.1 x.1).1:=(aa (by rw[<-d1];omega) (by rw[<-d1];omega)).trans d1.symm;have v2:i64.wrap (S.1.2+w*x.1.2)=(dC w S.1 x.1).2:=(aa (by rw[<-d2];omega) (by rw[<-d2];omega)).trans d2.symm;have v3:i64.wrap (S.2.1.1+w*x.2.1.1)=(dC w S.2.1 x.2.1).1:=(aa (by rw[<-d3];omega) (by rw[<-d3];omega)).trans d3.symm;have v4:i64.wrap (S.2.1.2+w*x.2.1.2)=(dC w S.2.1 x.2.1).2:=(aa (by rw[<-d4];omega) (by rw[<-d4];omega)).trans d4.symm;have v5:i64.wrap (S.2.2.1+w*x.2.2.1)=(dC w S.2.2 x.2.2).1:=(aa (by rw[<-d5];omega) (by rw[<-d5];omega)).trans d5.symm;have v6:i64.wrap (S.2.2.2+w*x.2.2.2)=(dC w S.2.2 x.2.2).2:=(aa (by rw[<-d6];omega) (by rw[<-d6];omega)).trans d6.symm;have D:b6 (rj w S x)=lC S x w 3:=rfl;have A:b6 S=lC S x w 0:=rfl;rw[A]at b;rw[D];refine GT (s7 g0 g4 f m n c d e a g u F z M (f8 G I h10 wT b)) ?_;refine WP.loopN [12] 3 (λk st=>st.t 0=.pv (aF l)/\st.t 4=.ptr 4 0/\st.h 4=some (.box (b6 bB) true false)/\st.t 7=.ptr 7 0/\st.h 7=some (.box (lC S x w k) true false)/\st.t 8=.pv (Z (T+w))/\st.t 10=.pv (Z w)/\st.t 24=.pv (zs ws)/\st.t 25=.pv (Z ws.length)/\st.t 26=.pv (Z i)/\st.h 12=none/\st.t 44=.pv (bR x)/\st.t 45=.pv (Z k)) (by simp[g0,g4,f,m,n,c,d,e,a,b,lC]) ?_;clear g0 g4 f m b n c d e a;rintro k st hk ⟨g0,g4,f,m,b,n,o,c,d,e,a,q,j⟩;clear d1 d2 d3 d4 d5 d6 a1 a2 a3 W X Y;rcases eJ hk with rfl|rfl|rfl|rfl
   all_goals (simp[lC]at b j)
   .skip
    exact GS (s7 g0 g4 f m n o c d e a q j b u1 (f7 u2 v1 v2 @lC.eq_1))
   .skip
    exact GS (s7 g0 g4 f m n o c d e a q j b u3 (f7 u4 v3 v4 @lC.eq_1))
   .skip
    exact GS (s7 g0 g4 f m n o c d e a q j b u5 (f7 u6 v5 v6 @lC.eq_1))
   .skip
    refine GT (s7 g0 g4 f m n o c d e a q j b hw (gA g @lC.eq_1)) ?_
    all_goals exact⟨K,by omega,by omega⟩
  .have a5:i=ws.length:=by omega
   subst a5
   have O:eh l ws=!(decide (bi ws ws.length<1)||decide (65536<bi ws ws.length)):=by rw[P,s];simp
   generalize ar:bi ws ws.length=T at *;generalize ad:dH l ws ws.length=S at *;by_cases N:T<1\/65536<T
   .have hf:eh l ws=false:=by
     rw[O];rcases N with h|h
     all_goals simp[h]
    have H:gc l ws=.tup [V6 0 0 0 0 0 0,Z 0,B false]:=by unfold gc;rw[hf];rfl
    rw[H];rcases N with h|h
    .skip
     exact GS (s5 g0 g4 f m b n c d e (gA a h))
    .have h2:¬T<1:=by omega
     exact GS (s6 g0 g4 f m b n c d e a h h2)
   .have h1:¬T<1:=by omega
    have h2:¬65536<T:=by omega
    have hf:eh l ws=true:=by rw[O];simp[h1,h2]
    have H:gc l ws=.tup [bR S,Z T,B true]:=by unfold gc;rw[hf,ad,ar];rfl
    rw[H];exact GS (s6 g0 g4 f m b n c d e a h1 h2)
def fL(l:List Vc):Bool:=decide (1<=l.length)&&decide (l.length<=8)&&l.all (aB 268435456)
theorem NW(l:List Vc)(P:l.length<=9223372036854775807):bh 149 (aP l) (B (fL l)):=by
 by_cases O:l.length<1\/8<l.length
 .have hf:fL l=false:=by
   cases u:fL l with
   |false=>rfl
   |true=>
    exfalso;unfold fL at u;simp only[An,L4]at u;obtain⟨⟨b3,b4⟩,_⟩:=u;omega
  rw[hf]
  have y:(l.length:Int)<1\/(8:Int)<l.length:=by omega
  rcases y with h|h
  all_goals
   refine Dp func149 λC hP hN=>?_;exact Gy
 have M:¬(l.length:Int)<1:=by omega
 have N:¬(8:Int)<l.length:=by omega
 have r:1<=l.length:=by omega
 have s:l.length<=8:=by omega
 have J:fL l=l.all (aB 268435456):=by
  unfold fL;rw[Wv r,Wv s];simp
 rw[J];refine Dp func149 λC hP hN=>?_
 cases e:l.all (aB 268435456)with
 |true=>
  refine Gz ?_;refine WP.loopN [4] l.length (λi st=>True/\st.t 15=.pv (aP l)/\st.t 16=.pv (Z l.length)/\st.t 17=.pv (Z i)/\st.h 4=none) (by simp) ?_;rintro i st hi ⟨g1,g,j,f,m⟩;by_cases d:i<l.length
  .have q:=aj d (by omega)
   have K:=cT.1 (VL.1 e _ (Wb d));obtain⟨D,E,F⟩:=K;rw[bp]at D E F;generalize n:l[i]=v at *
   have H:l[i]?=some v:=by rw[an d,n]
   refine Gz ?_;refine WP.loopN [] 3 (λk st=>True/\st.t 15=.pv (aP l)/\st.t 16=.pv (Z l.length)/\st.t 17=.pv (Z i)/\st.t 21=.pv (ao v)/\st.t 22=.pv (Z k)) (by simp[g1,g,j,f]) ?_;clear g1 g j f m;rintro k st z ⟨g1,g,j,f,gA,gK⟩;rcases eJ z with rfl|rfl|rfl|rfl
   all_goals
    exact Gy
  .skip
   exact Gy
 |false=>
  refine Gz ?_;refine WP.loopN [4] l.length (λi st=>True/\st.t 15=.pv (aP l)/\st.t 16=.pv (Z l.length)/\st.t 17=.pv (Z i)/\st.h 4=none/\∀k x,k<i->l[k]?=some x->aB 268435456 x=true) (by simp) ?_;rintro i st hi ⟨g1,g,j,f,m,hq⟩;by_cases d:i<l.length
  .have q:=aj d (by omega)
   generalize n:l[i]=v at *
   have H:l[i]?=some v:=by rw[an d,n]
   have A:=nE (p:=aB 268435456) H hq;refine Gz ?_;refine WP.loopN [] 3 (λk st=>True/\st.t 15=.pv (aP l)/\st.t 16=.pv (Z l.length)/\st.t 17=.pv (Z i)/\st.t 21=.pv (ao v)/\st.t 22=.pv (Z k)/\(0<k->gC v.1 268435456=true)/\(1<k->gC v.2.1 268435456=true)/\(2<k->gC v.2.2 268435456=true)) (by simp[g1,g,j,f]) ?_;clear g1 g j f m hq;rintro k st z ⟨g1,g,j,f,gA,gK,G,I,L⟩;rcases eJ z with rfl|rfl|rfl|rfl
   .skip
    with_reducible repeat' (first|refine Sp.h ?_|((first|refine Ss.h ?_|(refine Sb.h ?_ ?_ ?_<;>(try intro hgd)<;>try exact Xy))<;>simp -implicitDefEqProofs (maxSteps:=2000000) [hP,hN,g1,g,j,f,gA,gK,q])|refine X2 ?_ ?_|(refine Xd ?_ ?_<;>intro hcd<;>try exact Xx))
    all_goals (try (rw[bp];simp only[VY,L4]at hgd hcd;omega))
   .skip
    with_reducible repeat' (first|refine Sp.h ?_|((first|refine Ss.h ?_|(refine Sb.h ?_ ?_ ?_<;>(try intro hgd)<;>try exact Xy))<;>simp -implicitDefEqProofs (maxSteps:=2000000) [hP,hN,g1,g,j,f,gA,gK,q])|refine X2 ?_ ?_|(refine Xd ?_ ?_<;>intro hcd<;>try exact Xx))
    all_goals (try (exact⟨G (by omega),by rw[bp];simp only[VY,L4]at hgd hcd;omega⟩))
   .skip
    with_reducible repeat' (first|refine Sp.h ?_|((first|refine Ss.h ?_|(refine Sb.h ?_ ?_ ?_<;>(try intro hgd)<;>try exact Xy))<;>simp -implicitDefEqProofs (maxSteps:=2000000) [hP,hN,g1,g,j,f,gA,gK,q])|refine X2 ?_ ?_|(refine Xd ?_ ?_<;>intro hcd<;>try exact Xx))
    all_goals (try (exact⟨G (by omega),I (by omega),by rw[bp];simp only[VY,L4]at hgd hcd;omega⟩))
   .have hn:aB 268435456 v=true:=cT.2 ⟨G (by omega),I (by omega),L (by omega)⟩
    have o:=A hn;refine Gz ?_
    all_goals (try exact λk a b c=>o k (a,b,c))
  .have:=pD hq d
   rw[this]at e;cases e
def bf(v w:Vc):Vc:=(v.1-w.1,v.2.1-w.2.1,v.2.2-w.2.2)
def bM(v w:Vc):Int:=v.1*w.1+v.2.1*w.2.1+v.2.2*w.2.2
theorem J6(v w:Vc)(b:fy 1152921504606846976 v)(c:fy 1152921504606846976 w):aH 203 (ao v) (ao w) (ao (bf v w)):=by
 obtain⟨v1,v2,v3⟩:=b;obtain⟨g,i,j⟩:=c;have d:i64.wrap (v.1-w.1)=v.1-w.1:=aa;have e:i64.wrap (v.2.1-w.2.1)=v.2.1-w.2.1:=aa;have f:i64.wrap (v.2.2-w.2.2)=v.2.2-w.2.2:=aa;have a:bf v w=(v.1-w.1,v.2.1-w.2.1,v.2.2-w.2.2):=rfl;rw[a];refine Dp func203 λC hP hN=>?_;exact Gy
theorem lS{w:Vc}{m:Nat}(a:fy m v)(b:fy n w):(-((m*n:Nat):Int)<=v.1*w.1/\v.1*w.1<=((m*n:Nat):Int))/\(-((m*n:Nat):Int)<=v.2.1*w.2.1/\v.2.1*w.2.1<=((m*n:Nat):Int))/\(-((m*n:Nat):Int)<=v.2.2*w.2.2/\v.2.2*w.2.2<=((m*n:Nat):Int)):=
 ⟨bS m n a.1.1 a.1.2 b.1.1 b.1.2,bS m n a.2.1.1 a.2.1.2 b.2.1.1 b.2.1.2,bS m n a.2.2.1 a.2.2.2 b.2.2.1 b.2.2.2⟩
theorem Bg(v w:Vc)(m n:Nat)(c:fy m v)(d:fy n w)(a:3*(m*n)<=9223372036854775807):aH 256 (ao v) (ao w) (Z (bM v w)):=by
 obtain⟨l,o,p⟩:=lS c d;have b:bM v w=v.1*w.1+v.2.1*w.2.1+v.2.2*w.2.2:=rfl;rw[b];generalize m*n=k at *;have e:i64.wrap (v.1*w.1)=v.1*w.1:=aa;have f:i64.wrap (v.2.1*w.2.1)=v.2.1*w.2.1:=aa;have g:i64.wrap (v.2.2*w.2.2)=v.2.2*w.2.2:=aa;have i:i64.wrap (v.1*w.1+v.2.1*w.2.1)=v.1*w.1+v.2.1*w.2.1:=aa;have j:i64.wrap (v.1*w.1+v.2.1*w.2.1+v.2.2*w.2.2)=v.1*w.1+v.2.1*w.2.1+v.2.2*w.2.2:=aa;refine Dp func256 λC hP hN=>?_;exact Gy
abbrev GN(l:List Vc)(w:List Int):PV:=.agg [aP l,zs w]
theorem Lq(l:List Vc)(h1:1<=l.length)(a:l.length<=8):aQ prog 150 [.pv (aP l)] [] [] (.srow [aP l] 2 1 (((List.replicate l.length 0).set 0 65536).map Z)):=by
 refine Dp func150 λC hP hN=>?_;exact GS (f7 (show(0:Int)<l.length by omega) (show 0<l.length by omega) (show(8:Int)*(l.length:Int)<=281474976710656 by omega) (show(l.length:Int)<=9223372036854775807 by omega))
def dr(l:List Vc)(w:List Int):Nat->Vc
 |0=>(0,0,0)
 |i+1=>match l[i]?,w[i]? with
  |some p,some k=>((dr l w i).1+k*p.1,(dr l w i).2.1+k*p.2.1,(dr l w i).2.2+k*p.2.2)
  |_,_=>dr l w i
structure WgOk(w:List Int):Prop where
 pos:∀k∈w,0<=k
 tot:bi w w.length<=65536
theorem nD{k:Int}(h:w[i]?=some k):bi w (i+1)=bi w i+k:=by simp[bi,h]
theorem iF(h:∀k∈w,0<=k){j:Nat}(a:i<=j):bi w i<=bi w j:=by
 induction a with
 |refl=>exact Yp _
 |step c ih=>
  rename_i m
  cases b:w[m]? with
  |none=>simp only[bi,b,Option.getD_none];omega
  |some k=>
   have:=h k (Is b);rw[nD b];omega
theorem r7(h:∀k∈w,0<=k)(i:Nat):0<=bi w i:=iF h (WJ i)
theorem wR{k:Int}(a:0<=k)(b:-m<=x/\x<=m):-(k*m)<=k*x/\k*x<=k*m:=by
 refine⟨?_,W4 b.2 a⟩;have:=W4 b.1 a;rw[Int.mul_neg]at this;exact this
theorem eQ(h:aB 268435456 v=true):fy 268435456 v:=by
 rw[cT,bp,bp,bp]at h;exact⟨⟨by omega,by omega⟩,⟨by omega,by omega⟩,⟨by omega,by omega⟩⟩
theorem B1{l:List Vc}{w:List Int}(g:l.all (aB 268435456)=true)(e:∀k∈w,0<=k):∀i:Nat,fy (bi w i*268435456) (dr l w i)
 |0=>by simp[dr,bi,fy]
 |i+1=>by
  have ih:=B1 g e i;have m:=iF e (Nat.le_succ i);simp only[dr];split
  .rename_i p k hp f
   have j:=eQ (VL.1 g p (Is hp));have d:=e k (Is f);rw[nD f];obtain⟨a,b,c⟩:=j;have r:=wR d a;have s:=wR d b;have u:=wR d c;obtain⟨o,q,i3⟩:=ih;exact⟨⟨by simp only;omega,by simp only;omega⟩,⟨by simp only;omega,by simp only;omega⟩,⟨by simp only;omega,by simp only;omega⟩⟩
  .obtain⟨o,q,i3⟩:=ih
   have n:bi w i<=bi w (i+1):=m;exact⟨⟨by omega,by omega⟩,⟨by omega,by omega⟩,⟨by omega,by omega⟩⟩
theorem kh(c:l.all (aB 268435456)=true)(a:WgOk w)(i:Nat)(hi:i<=w.length):fy 17592186044416 (dr l w i):=by
 have b:=B1 c a.pos i;have d:=iF a.pos hi;have e:=a.tot;obtain⟨f,g,i3⟩:=b;exact⟨⟨by omega,by omega⟩,⟨by omega,by omega⟩,⟨by omega,by omega⟩⟩
def lz(s p:Vc)(k:Int)(j:Nat):List AV:=[.pv (Z (if 0<j then s.1+k*p.1 else s.1)),.pv (Z (if 1<j then s.2.1+k*p.2.1 else s.2.1)),.pv (Z (if 2<j then s.2.2+k*p.2.2 else s.2.2))]
theorem NY(l:List Vc)(ws:List Int)(h8:l.length<=8)(K:ws.length=l.length)(A:l.all (aB 268435456)=true)(u:WgOk ws):bh 204 (GN l ws) (ao (dr l ws l.length)):=by
 refine Dp func204 λC hP hN=>?_;refine Gz ?_;refine WP.loopN [5] l.length (λi st=>st.t 1=.ptr 1 0/\st.h 1=some (.box [.pv (aP l),.pv (zs ws)] true false)/\st.t 2=.ptr 2 0/\st.h 2=some (.box [.pv (Z 0),.pv (Z 0),.pv (Z 0)] true false)/\st.t 3=.ptr 3 0/\st.h 3=some (.box [.pv (Z (dr l ws i).1),.pv (Z (dr l ws i).2.1),.pv (Z (dr l ws i).2.2)] true false)/\st.t 9=.pv (aP l)/\st.t 10=.pv (Z l.length)/\st.t 11=.pv (Z i)/\st.h 5=none) (by simp[dr]) ?_;rintro i st hi ⟨g1,g,g2,m,g3,c,s,e,f,y⟩;by_cases n:i<l.length
 .have L:=aj n (by omega)
  have d:i<ws.length:=by omega
  generalize B:l[i]=p at *
  have D:l[i]?=some p:=by rw[an n,B]
  generalize q:ws[i]=k at *
  have v:ws[i]?=some k:=by rw[an d,q]
  have N:=kh A u i (by omega);have O:=kh A u (i+1) (by omega);have I:=u.pos k (Is v)
  have J:k<=65536:=by
   have a1:=nD v;have a2:=r7 u.pos i;have a3:=iF u.pos (show i+1<=ws.length by omega);have a4:=u.tot;omega
  have hp:=eQ (VL.1 A p (Is D))
  have hS:dr l ws (i+1)=((dr l ws i).1+k*p.1,(dr l ws i).2.1+k*p.2.1,(dr l ws i).2.2+k*p.2.2):=by simp only[dr,D,v]
  have m1:=bS (a:=k) (b:=p.1) 65536 268435456 (by omega) (by omega) hp.1.1 hp.1.2;have m2:=bS (a:=k) (b:=p.2.1) 65536 268435456 (by omega) (by omega) hp.2.1.1 hp.2.1.2;have M:=bS (a:=k) (b:=p.2.2) 65536 268435456 (by omega) (by omega) hp.2.2.1 hp.2.2.2;generalize dr l ws i=S at *;generalize dr l ws (i+1)=T at *;subst hS;obtain⟨E,F,G⟩:=O;simp only at E F G;have P:i64.wrap (k*p.1)=k*p.1:=aa;have Q:i64.wrap (k*p.2.1)=k*p.2.1:=aa;have R:i64.wrap (k*p.2.2)=k*p.2.2:=aa;have v1:i64.wrap (S.1+k*p.1)=S.1+k*p.1:=aa;have v2:i64.wrap (S.2.1+k*p.2.1)=S.2.1+k*p.2.1:=aa;have v3:i64.wrap (S.2.2+k*p.2.2)=S.2.2+k*p.2.2:=aa;clear N E F G m1 m2 M hp;have x:[AV.pv (Z S.1),AV.pv (Z S.2.1),AV.pv (Z S.2.2)]=lz S p k 0:=rfl;rw[x]at c;refine Gz ?_;refine WP.loopN [] 3 (λj st=>st.t 1=.ptr 1 0/\st.h 1=some (.box [.pv (aP l),.pv (zs ws)] true false)/\st.t 2=.ptr 2 0/\st.h 2=some (.box [.pv (Z 0),.pv (Z 0),.pv (Z 0)] true false)/\st.t 3=.ptr 3 0/\st.h 3=some (.box (lz S p k j) true false)/\st.t 4=.pv (Z i)/\st.t 9=.pv (aP l)/\st.t 10=.pv (Z l.length)/\st.t 11=.pv (Z i)/\st.t 16=.pv (ao p)/\st.t 17=.pv (Z j)) (by simp[g1,g,g2,m,g3,s,e,f,c,lz]) ?_;clear g1 g g2 m g3 s e f c y;rintro j st H ⟨g1,g,g2,m,g3,c,g4,s,e,f,r,o⟩;rcases eJ H with rfl|rfl|rfl|rfl
  all_goals (simp[lz]at c o)
  .skip
   with_reducible repeat' (first|refine Sp.h ?_|((first|refine Wd ?_|refine Ss.h ?_|(refine Sb.h ?_ ?_ ?_<;>(try intro hgd)<;>try exact Xy))<;>simp -implicitDefEqProofs (maxSteps:=2000000) [hP,hN,g1,g,g2,m,g3,c,g4,s,e,f,r,o,n,d,v,q,P,v1,lz]<;>try refine Ya ?_)|refine X2 ?_ ?_|(refine Xd ?_ ?_<;>intro hcd<;>try exact Xx))
  .skip
   with_reducible repeat' (first|refine Sp.h ?_|((first|refine Wd ?_|refine Ss.h ?_|(refine Sb.h ?_ ?_ ?_<;>(try intro hgd)<;>try exact Xy))<;>simp -implicitDefEqProofs (maxSteps:=2000000) [hP,hN,g1,g,g2,m,g3,c,g4,s,e,f,r,o,n,d,v,q,Q,v2,lz]<;>try refine Ya ?_)|refine X2 ?_ ?_|(refine Xd ?_ ?_<;>intro hcd<;>try exact Xx))
  .skip
   with_reducible repeat' (first|refine Sp.h ?_|((first|refine Wd ?_|refine Ss.h ?_|(refine Sb.h ?_ ?_ ?_<;>(try intro hgd)<;>try exact Xy))<;>simp -implicitDefEqProofs (maxSteps:=2000000) [hP,hN,g1,g,g2,m,g3,c,g4,s,e,f,r,o,n,d,v,q,R,v3,lz]<;>try refine Ya ?_)|refine X2 ?_ ?_|(refine Xd ?_ ?_<;>intro hcd<;>try exact Xx))
  .skip
   exact Gy
 .have z:i=l.length:=by omega
  subst z;exact Gy
def dF(bet:Int->Int->Bool)(n p0:Vc)(l:List Vc):Nat->Int×Nat
 |0=>(bM n p0,0)
 |i+1=>match l[i]? with
  |some v=>if bet (bM n v) (dF bet n p0 l i).1=true then(bM n v,i)else dF bet n p0 l i
  |none=>dF bet n p0 l i
theorem oD{n p0:Vc}(h:l[i]?=some v):dF bet n p0 l (i+1)=if bet (bM n v) (dF bet n p0 l i).1=true then(bM n v,i)else dF bet n p0 l i:=by simp only[dF,h]
theorem vj{bet:Int->Int->Bool}{n p0:Vc}{l:List Vc}(a:0<l.length):∀i,(dF bet n p0 l i).2<l.length
 |0=>a
 |i+1=>by
  have:=vj (bet:=bet) (n:=n) (p0:=p0) a i;simp only[dF];split
  .rename_i v b
   obtain⟨h,_⟩:=th.1 b;split
   .exact h
   .exact this
  .exact this
def dp(bet:Int->Int->Bool)(n:Vc)(l:List Vc):Int×Nat:=dF bet n ((l[0]?).getD (0,0,0)) l l.length
theorem Rt(n:Vc)(l:List Vc)(ws:List Int)(hn:aB 16384 n=true)(h1:1<=l.length)(h8:l.length<=8)(p:l.all (aB 268435456)=true):aH 207 (GN l ws) (ao n) (.tup [Z (dp fe n l).1,Z (dp fe n l).2]):=by
 have e:fy ((16384:Nat):Int) n:=by
  rw[cT,bp,bp,bp]at hn;exact⟨⟨by omega,by omega⟩,⟨by omega,by omega⟩,⟨by omega,by omega⟩⟩
 have c:0<l.length:=by omega
 generalize g:l[0]=p0 at *
 have f:l[0]?=some p0:=by rw[an c,g]
 have r:=Bg n p0 16384 268435456 e (eQ (VL.1 p p0 (Is f))) (by decide)
 have z:dp fe n l=dF fe n p0 l l.length:=by simp only[dp,f,V5]
 rw[z];have o:dF fe n p0 l 0=(bM n p0,0):=rfl;generalize D:bM n p0=d0 at *;refine Dp func207 λC hP hN=>?_;refine Gz ?_;refine WP.loopN [9] l.length (λi st=>st.t 3=.ptr 3 0/\st.h 3=some (.box [.pv (Z n.1),.pv (Z n.2.1),.pv (Z n.2.2)] true false)/\st.t 20=.pv (aP l)/\st.t 21=.pv (Z l.length)/\st.t 22=.pv (Z i)/\st.h 9=none/\st.t 6=.pv (Z (dF fe n p0 l i).1)/\st.t 7=.pv (Z (dF fe n p0 l i).2)) (by simp[o]) ?_;rintro i st hi ⟨g3,A,u,x,y,B,F,G⟩;by_cases b:i<l.length
 .have H:=aj b (by omega)
  generalize m:l[i]=v at *
  have q:l[i]?=some v:=by rw[an b,m]
  have E:=Bg n v 16384 268435456 e (eQ (VL.1 p v (Is q))) (by decide);have j:=oD (bet:=fe) (n:=n) (p0:=p0) q;generalize dF fe n p0 l i=s at *;generalize dF fe n p0 l (i+1)=I at *;generalize bM n v=d at *;by_cases a:fe d s.1=true
  .rw[VS a]at j
   subst j;simp only[fe,L4]at a;exact Gy
  .rw[VM a]at j
   subst j;simp only[fe,L4]at a;exact Gy
 .have k:i=l.length:=by omega
  subst k;exact Gy
  all_goals exact⟨rfl,rfl⟩
theorem Ru(n:Vc)(l:List Vc)(ws:List Int)(hn:aB 16384 n=true)(h1:1<=l.length)(h8:l.length<=8)(p:l.all (aB 268435456)=true):aH 208 (GN l ws) (ao n) (.tup [Z (dp ff n l).1,Z (dp ff n l).2]):=by
 have e:fy ((16384:Nat):Int) n:=by
  rw[cT,bp,bp,bp]at hn;exact⟨⟨by omega,by omega⟩,⟨by omega,by omega⟩,⟨by omega,by omega⟩⟩
 have c:0<l.length:=by omega
 generalize g:l[0]=p0 at *
 have f:l[0]?=some p0:=by rw[an c,g]
 have r:=Bg n p0 16384 268435456 e (eQ (VL.1 p p0 (Is f))) (by decide)
 have z:dp ff n l=dF ff n p0 l l.length:=by simp only[dp,f,V5]
 rw[z];have o:dF ff n p0 l 0=(bM n p0,0):=rfl;generalize D:bM n p0=d0 at *;refine Dp func208 λC hP hN=>?_;refine Gz ?_;refine WP.loopN [9] l.length (λi st=>st.t 3=.ptr 3 0/\st.h 3=some (.box [.pv (Z n.1),.pv (Z n.2.1),.pv (Z n.2.2)] true false)/\st.t 20=.pv (aP l)/\st.t 21=.pv (Z l.length)/\st.t 22=.pv (Z i)/\st.h 9=none/\st.t 6=.pv (Z (dF ff n p0 l i).1)/\st.t 7=.pv (Z (dF ff n p0 l i).2)) (by simp[o]) ?_;rintro i st hi ⟨g3,A,u,x,y,B,F,G⟩;by_cases b:i<l.length
 .have H:=aj b (by omega)
  generalize m:l[i]=v at *
  have q:l[i]?=some v:=by rw[an b,m]
  have E:=Bg n v 16384 268435456 e (eQ (VL.1 p v (Is q))) (by decide);have j:=oD (bet:=ff) (n:=n) (p0:=p0) q;generalize dF ff n p0 l i=s at *;generalize dF ff n p0 l (i+1)=I at *;generalize bM n v=d at *;by_cases a:ff d s.1=true
  .rw[VS a]at j
   subst j;simp only[ff,L4]at a;exact Gy
  .rw[VM a]at j
   subst j;simp only[ff,L4]at a;exact Gy
 .have k:i=l.length:=by omega
  subst k;exact Gy
  all_goals exact⟨rfl,rfl⟩
def GM(x y z:AV)(fb:Option db):Option db:=match x,y,z with
 |.pv (.val (.int .i64 a)),.pv (.val (.int .i64 b)),.pv (.val (.int .i64 c))=>some (.pv (Z (max a (max b c))),[])
 |_,_,_=>fb
@[simp] theorem Pz(a b c:Int)(fb:Option db):GM (.pv (.val (.int .i64 a))) (.pv (.val (.int .i64 b))) (.pv (.val (.int .i64 c))) fb=some (.pv (Z (max a (max b c))),[]):=rfl
@[simp] theorem UF{ty:TypeId}{i:Array TypeId}{pos:String}(x y z:Operand):
 bL prog ⟨dst,.call ⟨.builtin .max,#[x,y,z],i⟩,ty,pos,aft,g⟩ ρ=GM (ρ x) (ρ y) (ρ z) (jI prog ⟨dst,.call ⟨.builtin .max,#[x,y,z],i⟩,ty,pos,aft,g⟩ ρ):=by
 unfold GM;split
 .rename_i a b c d e f
  refine eo (by simp[Op.operands,Call.operands,d,e,f,fu]) ?_;unfold execOp;simp[resolve,invoke,builtin,Builtin.max_,d,e,f,qS,fu,Builtin.max2,ai,dW]
  try omega
 .rfl
def mF(x y:Int):Int:=max (max (max (max 0 x) (-x)) y) (-y)
theorem J5(x y:Int)(o:-4611686018427387904<=x/\x<=4611686018427387904)(p:-4611686018427387904<=y/\y<=4611686018427387904):bh 215 (.sl [Z x,Z y]) (Z (mF x y)):=by
 have g:i64.wrap (-x)=-x:=aa;have j:i64.wrap (-y)=-y:=aa;have k:i64.wrap (0-x)=-x:=(aa (n:=0-x) (by omega) (by omega)).trans (by omega);have l:i64.wrap (0-y)=-y:=(aa (n:=0-y) (by omega) (by omega)).trans (by omega)
 have f0:∀a b c:Int,max a (max b c)=max (max a b) c:=λ_ _ _=>by omega
 have f2:mF x y=max 0 (max x (max (-x) (max y (-y)))):=by unfold mF;omega
 rw[f2];refine Dp func215 λC hP hN=>?_;refine GT trivial ?_;refine WP.loopN [] 2 (λi st=>st.t 6=.pv (.sl [Z x,Z y])/\st.t 7=.pv (Z 2)/\st.t 8=.pv (Z i)/\st.t 3=.pv (Z (if i=0 then 0 else if i=1 then max 0 (max x (-x))else max 0 (max x (max (-x) (max y (-y))))))) (by simp) ?_;rintro i st hi ⟨e,f,d,g3⟩
 have m:i=0\/i=1\/i=2:=by omega
 rcases m with rfl|rfl|rfl
 all_goals (simp at g3 d)
 .skip
  with_reducible repeat' (first|refine Sp.h ?_|((first|refine Ss.h ?_|(refine Sb.h ?_ ?_ ?_<;>(try intro hgd)<;>try exact Xy))<;>simp -implicitDefEqProofs (maxSteps:=2000000) [hP,hN,e,f,d,g3,g,j,k,l])|refine X2 ?_ ?_|(refine Xd ?_ ?_<;>intro hcd<;>try exact Xx))
  all_goals (try (first|omega|(simp;omega)))
 .skip
  with_reducible repeat' (first|refine Sp.h ?_|((first|refine Ss.h ?_|(refine Sb.h ?_ ?_ ?_<;>(try intro hgd)<;>try exact Xy))<;>simp -implicitDefEqProofs (maxSteps:=2000000) [hP,hN,e,f,d,g3,g,j,k,l])|refine X2 ?_ ?_|(refine Xd ?_ ?_<;>intro hcd<;>try exact Xx))
  all_goals (try (first|omega|(simp;omega)))
 .skip
  with_reducible repeat' (first|refine Sp.h ?_|((first|refine Ss.h ?_|(refine Sb.h ?_ ?_ ?_<;>(try intro hgd)<;>try exact Xy))<;>simp -implicitDefEqProofs (maxSteps:=2000000) [hP,hN,e,f,d,g3])|refine X2 ?_ ?_|(refine Xd ?_ ?_<;>intro hcd<;>try exact Xx))
set_option maxRecDepth 100000 in
@[simp] theorem Rq:fC prog 212:=by
 have hf:=func212;have nt:=ntmps212;have rs:=results212;exact BL
set_option maxRecDepth 100000 in
@[simp] theorem Rr:fC prog 153:=by
 have hf:=func153;have nt:=ntmps153;have rs:=results153;exact Lg
def dw(u v:Iv)(tot:Int):Int:=(mF (u.1-v.2) (u.2-v.1)+tot-1)/tot
def jx(m:List Int)(reach:Int):Nat->Int
 |0=>reach*reach
 |k+1=>jx m reach k-(m[k]?).getD 0*(m[k]?).getD 0
def fa(U V:aq)(tot:Int):List Int:=[dw U.1 V.1 tot,dw U.2.1 V.2.1 tot,dw U.2.2 V.2.2 tot]
def pg(m:List Int)(reach:Int):Int:=if m.all (λx=>decide (x<=reach))then jx m reach 3 else -1
def oC(left right:List Int)(a:List aq)(c:Int)(b:List aq)(d:Int):Bool:=
 eh a left&&eh b right&&decide (bi left left.length=bi right right.length)&&bt c 0 1048576&&bt d 0 1048576
def lR(left right:List Int)(a:List aq)(c:Int)(b:List aq)(d:Int):Int:=
 if oC left right a c b d then pg (fa (dH a left left.length) (dH b right right.length) (bi left left.length)) (c+d)else 0
theorem vg{a:List aq}(h:eh a w=true):sB 8 (dH a w w.length):=by
 simp only[eh,ay,An,L4,VL]at h;obtain⟨⟨⟨⟨⟨g,i⟩,b⟩,j⟩,h5⟩,h6⟩:=h;obtain⟨⟨⟨a1,a2⟩,a3,a4⟩,⟨⟨b1,b2⟩,b3,b4⟩,⟨c,d⟩,e,f⟩:=zx b h5 w.length;refine⟨⟨⟨?_,?_⟩,?_,?_⟩,⟨⟨?_,?_⟩,?_,?_⟩,⟨?_,?_⟩,?_,?_⟩<;>omega
theorem DT{a:List aq}(h:eh a w=true):1<=bi w w.length/\bi w w.length<=65536:=by
 simp only[eh,An,Wy,Xa,VY]at h;omega
theorem vh{y:Int}(a:-m<=x/\x<=m)(b:-m<=y/\y<=m):0<=mF x y/\mF x y<=m:=by
 unfold mF;omega
theorem xY{h:Int}(a:0<=h)(h1:h<=4503599627370496)(t1:1<=t)(t2:t<=65536):0<=(h+t-1)/t/\(h+t-1)/t<=4503599627370496:=by
 refine⟨X3 (by omega) (by omega),?_⟩
 have:(h+t-1)/t<4503599627370496+1:=Int.ediv_lt_of_lt_mul (by omega) (by
  have b:(4503599627370496+1)*1<=(4503599627370496+1)*t:=by omega
  omega)
 omega
theorem mQ(a:0<=x)(h1:x<=m):0<=x*x/\x*x<=m*m:=⟨WV a a,Yx h1 h1 a (by omega)⟩
set_option maxRecDepth 4000 in
theorem Rs(left right:List Int)(a:List aq)(I:Int)(b:List aq)(J:Int)(h1:left.length<=9223372036854775807)(h2:right.length<=9223372036854775807)(h3:a.length<=9223372036854775807)(h4:b.length<=9223372036854775807):LO 154 (zs left) (zs right) (aF a) (Z I) (aF b) (Z J) (.tup [Z (lR left right a I b J),B (oC left right a I b J)]):=by
 have ca:=Oq a left h3 h1;have cb:=Oq b right h4 h2;have M:=Og I;have ar:=Og J;have z6:bR bB=V6 0 0 0 0 0 0:=rfl;have e:oC left right a I b J=(eh a left&&eh b right&&decide (bi left left.length=bi right right.length)&&bt I 0 1048576&&bt J 0 1048576):=rfl
 have i:lR left right a I b J=if oC left right a I b J then pg (fa (dH a left left.length) (dH b right right.length) (bi left left.length)) (I+J)else 0:=rfl
 cases Y:eh a left with
 |false=>
  rw[Y]at e;simp only[Ww]at e;rw[e]at i;simp only[VP,VZ]at i;rw[e,i];simp only[gc,Y,VP,VZ,z6]at ca;cases hB:eh b right
  all_goals (simp only[gc,hB,VP,VZ,V8,z6]at cb)
  .skip
   refine Dp func154 λC hP hN=>?_;exact Gy
  .skip
   generalize dH b right right.length=V at *;generalize bi right right.length=T2 at *;refine Dp func154 λC hP hN=>?_;exact Gy
 |true=>
 simp only[gc,Y,V8]at ca;generalize hU:dH a left left.length=U at *;generalize hT:bi left left.length=T at *
 cases hB:eh b right with
 |false=>
  rw[Y,hB]at e;simp only[Ww,Xi]at e;rw[e]at i;simp only[VP,VZ]at i;rw[e,i];simp only[gc,hB,VP,VZ,z6]at cb;refine Dp func154 λC hP hN=>?_;exact Gy
 |true=>
 simp only[gc,hB,V8]at cb;rw[Y,hB]at e;simp only[We]at e;generalize hV:dH b right right.length=V at *;generalize a7:bi right right.length=T2 at *;by_cases q:T=T2
 case neg=>
  have e1:(T !=T2)=true:=by simp[q]
  simp only[q,decide_false,Ww]at e;rw[e]at i;simp only[VP,VZ]at i;rw[e,i];refine Dp func154 λC hP hN=>?_;exact Gy
 have e0:(T !=T2)=false:=by simp[q]
 simp only[q,XP,We]at e
 cases L:bt I 0 1048576 with
 |false=>
  rw[L]at M e;simp only[Ww]at e;rw[e]at i;simp only[VP,VZ]at i;rw[e,i];refine Dp func154 λC hP hN=>?_;exact Gy
 |true=>
 cases ad:bt J 0 1048576 with
 |false=>
  rw[L]at M e;rw[ad]at ar e;simp only[Xi]at e;rw[e]at i;simp only[VP,VZ]at i;rw[e,i];refine Dp func154 λC hP hN=>?_;exact Gy
 |true=>
 rw[L]at M e;rw[ad]at ar e;simp only[Xf]at e;rw[e]at i;simp only[V8]at i;rw[e]
 have a8:sB 8 U:=by rw[<-hU];exact vg Y
 have ba:sB 8 V:=by rw[<-hV];exact vg hB
 have o:=DT Y;rw[hT]at o;subst q;clear hT a7;simp only[bt,An,L4]at L ad;generalize bq:I+J=c at *;have b0:i64.wrap c=c:=aa;have bs:=mQ (x:=c) (m:=2097152) (by omega) (by omega);have bH:i64.wrap (c*c)=c*c:=aa;rw[i];refine Dp func154 λC hP hN=>?_;refine Gz ?_;refine WP.loopN [] 3 (λk st=>st.t 14=.ptr 14 0/\st.h 14=some (.box (b6 U) true false)/\st.t 17=.ptr 17 0/\st.h 17=some (.box (b6 V) true false)/\st.t 18=.pv (Z T)/\st.t 15=.pv (Z T)/\st.t 20=.pv (Z c)/\st.t 12=.ptr 12 0/\st.h 12=some (.box [.pv (Z (jx (fa U V T) c k))] true false)/\st.t 13=.ptr 13 0/\st.h 13=some (.box [.pv (B false)] true false)/\st.t 66=.pv (Z k)/\(-(k*4398046511104:Int)<=jx (fa U V T) c k/\jx (fa U V T) c k<=4398046511104)/\∀j<k,∀x,(fa U V T)[j]?=some x->0<=x/\x<=c) ?_ ?_
 .simp[jx]
  omega
 rintro k st hk ⟨P,u,R,v,S,Q,W,N,r,O,s,X,bc,hpr⟩;obtain⟨⟨⟨a1,a2⟩,a3,a4⟩,⟨⟨b1,b2⟩,b3,b4⟩,⟨c1,c2⟩,c3,c4⟩:=a8;obtain⟨⟨⟨d1,d2⟩,d3,d4⟩,⟨⟨e1,e2⟩,e3,e4⟩,⟨f1,f2⟩,f3,f4⟩:=ba;rcases eJ hk with rfl|rfl|rfl|rfl
 .have D:-281474976710656<=U.1.1-V.1.2/\U.1.1-V.1.2<=281474976710656:=by omega
  have z:-281474976710656<=U.1.2-V.1.1/\U.1.2-V.1.1<=281474976710656:=by omega
  have cf:=J5 (U.1.1-V.1.2) (U.1.2-V.1.1) (by omega) (by omega);have y:=vh D z;have a5:=xY y.1 (by omega) o.1 o.2;have hgd:dw U.1 V.1 T=(mF (U.1.1-V.1.2) (U.1.2-V.1.1)+T-1)/T:=rfl;have w1:i64.wrap (U.1.1-V.1.2)=U.1.1-V.1.2:=aa;have w2:i64.wrap (U.1.2-V.1.1)=U.1.2-V.1.1:=aa;generalize mF (U.1.1-V.1.2) (U.1.2-V.1.1)=f at *;have w3:i64.wrap (f+T)=f+T:=aa;have w4:i64.wrap (f+T-1)=f+T-1:=aa;have w5:(f+T-1).tdiv T=(f+T-1)/T:=Wa (by omega);have w6:i64.wrap ((f+T-1)/T)=(f+T-1)/T:=aa
  have w7:¬T=0:=by omega
  have w8:(T==0)=false:=by simp;omega
  by_cases F:c<dw U.1 V.1 T
  .have H:pg (fa U V T) c=-1:=by
    have G:¬dw U.1 V.1 T<=c:=by omega
    unfold pg fa;simp[G]
   rw[H];rw[hgd]at F;exact Gy
  .have n:=mQ (x:=dw U.1 V.1 T) (m:=c) (by omega) (by omega)
   have p:jx (fa U V T) c (0+1)=jx (fa U V T) c 0-dw U.1 V.1 T*dw U.1 V.1 T:=by simp[jx,fa]
   have d:∀j<0+1,∀x,(fa U V T)[j]?=some x->0<=x/\x<=c:=λj hj x l=>by
    by_cases A:j<0
    .exact hpr j A x l
    .have:j=0:=by omega
     subst this
     have:x=dw U.1 V.1 T:=by simpa[fa]using l.symm
     omega
   generalize jx (fa U V T) c (0+1)=E' at *;generalize jx (fa U V T) c 0=E at *;subst p;rw[hgd]at F n;have w9:i64.wrap ((f+T-1)/T*((f+T-1)/T))=(f+T-1)/T*((f+T-1)/T):=aa;have K:i64.wrap (E-(f+T-1)/T*((f+T-1)/T))=E-dw U.1 V.1 T*dw U.1 V.1 T:=(aa (by omega) (by omega)).trans (by rw[hgd]);rw[<-hgd]at n
   have g:-(0+1:Nat)*4398046511104<=E-dw U.1 V.1 T*dw U.1 V.1 T/\E-dw U.1 V.1 T*dw U.1 V.1 T<=4398046511104:=by omega
   refine GT (s7 P u R v S Q W N r O s X w1 w2 (so w3 w4 w5 w6 w7 w8 w9 (gA K F))) ?_
   all_goals first|exact⟨g,d⟩|exact⟨g.1,g.2,d⟩|exact⟨by omega,λx l=>d 0 (by omega) x l⟩
 .have D:-281474976710656<=U.2.1.1-V.2.1.2/\U.2.1.1-V.2.1.2<=281474976710656:=by omega
  have z:-281474976710656<=U.2.1.2-V.2.1.1/\U.2.1.2-V.2.1.1<=281474976710656:=by omega
  have cf:=J5 (U.2.1.1-V.2.1.2) (U.2.1.2-V.2.1.1) (by omega) (by omega);have y:=vh D z;have a5:=xY y.1 (by omega) o.1 o.2;have hgd:dw U.2.1 V.2.1 T=(mF (U.2.1.1-V.2.1.2) (U.2.1.2-V.2.1.1)+T-1)/T:=rfl;have w1:i64.wrap (U.2.1.1-V.2.1.2)=U.2.1.1-V.2.1.2:=aa;have w2:i64.wrap (U.2.1.2-V.2.1.1)=U.2.1.2-V.2.1.1:=aa;generalize mF (U.2.1.1-V.2.1.2) (U.2.1.2-V.2.1.1)=f at *;have w3:i64.wrap (f+T)=f+T:=aa;have w4:i64.wrap (f+T-1)=f+T-1:=aa;have w5:(f+T-1).tdiv T=(f+T-1)/T:=Wa (by omega);have w6:i64.wrap ((f+T-1)/T)=(f+T-1)/T:=aa
  have w7:¬T=0:=by omega
  have w8:(T==0)=false:=by simp;omega
  by_cases F:c<dw U.2.1 V.2.1 T
  .have H:pg (fa U V T) c=-1:=by
    have G:¬dw U.2.1 V.2.1 T<=c:=by omega
    unfold pg fa;simp[G]
   rw[H];rw[hgd]at F;exact Gy
  .have n:=mQ (x:=dw U.2.1 V.2.1 T) (m:=c) (by omega) (by omega)
   have p:jx (fa U V T) c (1+1)=jx (fa U V T) c 1-dw U.2.1 V.2.1 T*dw U.2.1 V.2.1 T:=by simp[jx,fa]
   have d:∀j<1+1,∀x,(fa U V T)[j]?=some x->0<=x/\x<=c:=λj hj x l=>by
    by_cases A:j<1
    .exact hpr j A x l
    .have:j=1:=by omega
     subst this
     have:x=dw U.2.1 V.2.1 T:=by simpa[fa]using l.symm
     omega
   generalize jx (fa U V T) c (1+1)=E' at *;generalize jx (fa U V T) c 1=E at *;subst p;rw[hgd]at F n;have w9:i64.wrap ((f+T-1)/T*((f+T-1)/T))=(f+T-1)/T*((f+T-1)/T):=aa;have K:i64.wrap (E-(f+T-1)/T*((f+T-1)/T))=E-dw U.2.1 V.2.1 T*dw U.2.1 V.2.1 T:=(aa (by omega) (by omega)).trans (by rw[hgd]);rw[<-hgd]at n
   have g:-(1+1:Nat)*4398046511104<=E-dw U.2.1 V.2.1 T*dw U.2.1 V.2.1 T/\E-dw U.2.1 V.2.1 T*dw U.2.1 V.2.1 T<=4398046511104:=by omega
   refine GT (s7 P u R v S Q W N r O s X w1 w2 (so w3 w4 w5 w6 w7 w8 w9 (gA K F))) ?_
   all_goals first|exact⟨g,d⟩|exact⟨g.1,g.2,d⟩|exact⟨by omega,λx l=>d 0 (by omega) x l⟩
 .have D:-281474976710656<=U.2.2.1-V.2.2.2/\U.2.2.1-V.2.2.2<=281474976710656:=by omega
  have z:-281474976710656<=U.2.2.2-V.2.2.1/\U.2.2.2-V.2.2.1<=281474976710656:=by omega
  have cf:=J5 (U.2.2.1-V.2.2.2) (U.2.2.2-V.2.2.1) (by omega) (by omega);have y:=vh D z;have a5:=xY y.1 (by omega) o.1 o.2;have hgd:dw U.2.2 V.2.2 T=(mF (U.2.2.1-V.2.2.2) (U.2.2.2-V.2.2.1)+T-1)/T:=rfl;have w1:i64.wrap (U.2.2.1-V.2.2.2)=U.2.2.1-V.2.2.2:=aa;have w2:i64.wrap (U.2.2.2-V.2.2.1)=U.2.2.2-V.2.2.1:=aa;generalize mF (U.2.2.1-V.2.2.2) (U.2.2.2-V.2.2.1)=f at *;have w3:i64.wrap (f+T)=f+T:=aa;have w4:i64.wrap (f+T-1)=f+T-1:=aa;have w5:(f+T-1).tdiv T=(f+T-1)/T:=Wa (by omega);have w6:i64.wrap ((f+T-1)/T)=(f+T-1)/T:=aa
  have w7:¬T=0:=by omega
  have w8:(T==0)=false:=by simp;omega
  by_cases F:c<dw U.2.2 V.2.2 T
  .have H:pg (fa U V T) c=-1:=by
    have G:¬dw U.2.2 V.2.2 T<=c:=by omega
    unfold pg fa;simp[G]
   rw[H];rw[hgd]at F;exact Gy
  .have n:=mQ (x:=dw U.2.2 V.2.2 T) (m:=c) (by omega) (by omega)
   have p:jx (fa U V T) c (2+1)=jx (fa U V T) c 2-dw U.2.2 V.2.2 T*dw U.2.2 V.2.2 T:=by simp[jx,fa]
   have d:∀j<2+1,∀x,(fa U V T)[j]?=some x->0<=x/\x<=c:=λj hj x l=>by
    by_cases A:j<2
    .exact hpr j A x l
    .have:j=2:=by omega
     subst this
     have:x=dw U.2.2 V.2.2 T:=by simpa[fa]using l.symm
     omega
   generalize jx (fa U V T) c (2+1)=E' at *;generalize jx (fa U V T) c 2=E at *;subst p;rw[hgd]at F n;have w9:i64.wrap ((f+T-1)/T*((f+T-1)/T))=(f+T-1)/T*((f+T-1)/T):=aa;have K:i64.wrap (E-(f+T-1)/T*((f+T-1)/T))=E-dw U.2.2 V.2.2 T*dw U.2.2 V.2.2 T:=(aa (by omega) (by omega)).trans (by rw[hgd]);rw[<-hgd]at n
   have g:-(2+1:Nat)*4398046511104<=E-dw U.2.2 V.2.2 T*dw U.2.2 V.2.2 T/\E-dw U.2.2 V.2.2 T*dw U.2.2 V.2.2 T<=4398046511104:=by omega
   refine GT (s7 P u R v S Q W N r O s X w1 w2 (so w3 w4 w5 w6 w7 w8 w9 (gA K F))) ?_
   all_goals first|exact⟨g,d⟩|exact⟨g.1,g.2,d⟩|exact⟨by omega,λx l=>d 0 (by omega) x l⟩
 .have a6:pg (fa U V T) c=jx (fa U V T) c 3:=by
   have:(fa U V T).all (λx=>decide (x<=c))=true:=by
    rw[VL];intro x l;obtain⟨j,hj,l⟩:=Xh.1 l
    have bb:j<3:=by simpa[fa]using hj
    have:=hpr j bb x (by rw[an hj,l]);simp;omega
   unfold pg;rw[this];rfl
  rw[a6];exact Gy
theorem UG(left right:List Int)(a:List aq)(c:Int)(b:List aq)(d:Int)(h1:left.length<=9223372036854775807)(f:right.length<=9223372036854775807)(g:a.length<=9223372036854775807)(i:b.length<=9223372036854775807):LO 98 (zs left) (zs right) (aF a) (Z c) (aF b) (Z d) (B (oC left right a c b d&&decide (0<=lR left right a c b d))):=by
 have j:=Rs left right a c b d h1 f g i;generalize oC left right a c b d=k at *;generalize lR left right a c b d=e at *;cases k
 all_goals (by_cases h:0<=e)
 all_goals
  refine Dp func98 λC hP hN=>?_;exact Gy
def mR(x:Int):Int:=dK (max x (-x)) 65536*dK (max x (-x)) 65536
def ph(v:Vc)(rho:Int):Bool:=decide (mR v.1+mR v.2.1+mR v.2.2<=rho*rho)
theorem rE(h:-35184372088832<=x/\x<=35184372088832):(0<=dK (max x (-x)) 65536/\dK (max x (-x)) 65536<=536870912)/\0<=mR x/\mR x<=288230376151711744:=by
 have a:0<=dK (max x (-x)) 65536/\dK (max x (-x)) 65536<=536870912:=by unfold dK;omega
 have b:=mQ a.1 a.2;exact⟨a,b.1,by unfold mR;omega⟩
theorem Rv(v:Vc)(rho:Int)(j:fy 35184372088832 v)(e:0<=rho/\rho<=2097152):aH 205 (ao v) (Z rho) (B (ph v rho)):=by
 obtain⟨v1,v2,v3⟩:=j;have s:=DS (max v.1 (-v.1)) (by omega) (by omega);have u:=DS (max v.2.1 (-v.2.1)) (by omega) (by omega);have x:=DS (max v.2.2 (-v.2.2)) (by omega) (by omega);have p:=rE v1;have q:=rE v2;have r:=rE v3;have E:=mQ e.1 e.2;have z:i64.wrap (0-v.1)=-v.1:=(aa (n:=0-v.1) (by omega) (by omega)).trans (by omega);have A:i64.wrap (0-v.2.1)=-v.2.1:=(aa (n:=0-v.2.1) (by omega) (by omega)).trans (by omega);have D:i64.wrap (0-v.2.2)=-v.2.2:=(aa (n:=0-v.2.2) (by omega) (by omega)).trans (by omega);have l:i64.wrap (-v.1)=-v.1:=(aa (n:=-v.1) (by omega) (by omega));have m:i64.wrap (-v.2.1)=-v.2.1:=(aa (n:=-v.2.1) (by omega) (by omega));have o:i64.wrap (-v.2.2)=-v.2.2:=(aa (n:=-v.2.2) (by omega) (by omega));have hd:ph v rho=decide (mR v.1+mR v.2.1+mR v.2.2<=rho*rho):=rfl;rw[hd];have d1:mR v.1=dK (max v.1 (-v.1)) 65536*dK (max v.1 (-v.1)) 65536:=rfl;have d2:mR v.2.1=dK (max v.2.1 (-v.2.1)) 65536*dK (max v.2.1 (-v.2.1)) 65536:=rfl;have d3:mR v.2.2=dK (max v.2.2 (-v.2.2)) 65536*dK (max v.2.2 (-v.2.2)) 65536:=rfl;generalize mR v.1=a at *;generalize mR v.2.1=b at *;generalize mR v.2.2=c at *;generalize dK (max v.1 (-v.1)) 65536=t1 at *;generalize dK (max v.2.1 (-v.2.1)) 65536=t2 at *;generalize dK (max v.2.2 (-v.2.2)) 65536=t3 at *;generalize i:rho*rho=f at *;have F:i64.wrap (t1*t1)=a:=(aa (by rw[<-d1];omega) (by rw[<-d1];omega)).trans d1.symm;have G:i64.wrap (t2*t2)=b:=(aa (by rw[<-d2];omega) (by rw[<-d2];omega)).trans d2.symm;have H:i64.wrap (t3*t3)=c:=(aa (by rw[<-d3];omega) (by rw[<-d3];omega)).trans d3.symm;have I:i64.wrap f=f:=aa;have J:i64.wrap a=a:=aa;have K:i64.wrap (a+b)=a+b:=aa;have L:i64.wrap (a+b+c)=a+b+c:=aa;clear d1 d2 d3 p q r;refine Dp func205 λC hP hN=>?_;refine Gz ?_;refine WP.loopN [] 3 (λk st=>st.t 9=.pv (ao v)/\st.t 10=.pv (Z k)/\st.t 1=.pv (Z rho)/\st.t 5=.pv (Z (if k=0 then 0 else if k=1 then a else if k=2 then a+b else a+b+c))) (by simp) ?_;rintro k st g ⟨y,d,g1,g5⟩;rcases eJ g with rfl|rfl|rfl|rfl
 all_goals (simp at g5 d)
 all_goals
  exact Gy
def lT(x s:Vc):Int:=if bM x (bf x s)<=0 then 0 else min 256 (bM x (bf x s)/max 1 (bM (bf x s) (bf x s)/256))
theorem sd{w:Vc}(c:fy a v)(d:fy b w):fy (a+b) (bf v w):=by
 obtain⟨v1,v2,v3⟩:=c;obtain⟨e,f,g⟩:=d;refine⟨?_,?_,?_⟩<;>(simp only[bf];omega)
theorem mi(x s:Vc):0<=lT x s/\lT x s<=256:=by
 unfold lT;split
 .omega
 .rename_i h
  have a:0<=bM x (bf x s)/max 1 (bM (bf x s) (bf x s)/256):=X3 (by omega) (by omega);omega
theorem jV(h:fy a v)(c:a<=b):fy b v:=by
 obtain⟨v1,v2,v3⟩:=h;exact⟨by omega,by omega,by omega⟩
theorem AE(v:Vc):0<=bM v v:=by
 have h:∀x:Int,0<=x*x:=λx=>by
  rcases Yf 0 x with h|h
  .exact WV h h
  .have:=WV (show 0<=-x by omega) (show 0<=-x by omega)
   rw[Int.neg_mul_neg]at this;exact this
 have a:=h v.1;have b:=h v.2.1;have c:=h v.2.2;unfold bM;omega
theorem Rw(x s:Vc)(b:fy 536870912 x)(hs:fy 536870912 s):aH 210 (ao x) (ao s) (Z (lT x s)):=by
 have a:=sd b hs;have o:=J6 x s (jV b (by decide)) (jV hs (by decide));have k:=Bg x (bf x s) 536870912 1073741824 b a (by decide);have l:=Bg (bf x s) (bf x s) 1073741824 1073741824 a a (by decide);obtain⟨g,i,j⟩:=lS (m:=536870912) (n:=1073741824) b a;obtain⟨t1,t2,t3⟩:=lS (m:=1073741824) (n:=1073741824) a a
 have r:-1729382256910270464<=bM x (bf x s)/\bM x (bf x s)<=1729382256910270464:=by unfold bM;omega
 have y:bM (bf x s) (bf x s)<=3458764513820540928:=by unfold bM;omega
 have c:=AE (bf x s)
 have hp:lT x s=if bM x (bf x s)<=0 then 0 else min 256 (bM x (bf x s)/max 1 (bM (bf x s) (bf x s)/256)):=rfl
 rw[hp];clear g i j t1 t2 t3 a;generalize bM x (bf x s)=u at *;generalize bM (bf x s) (bf x s)=v at *;generalize bf x s=e at *;by_cases d:u<=0
 .rw[VS d]
  refine Dp func210 λC hP hN=>?_;exact Gy
 .rw[VM d]
  have a1:v.tdiv 256=v/256:=Wa c;have a2:i64.wrap (v/256)=v/256:=aa
  have q:1<=max 1 (v/256):=by omega
  generalize f:max 1 (v/256)=m at *;have a3:u.tdiv m=u/m:=Wa (by omega);have p:u/m<=u:=YG m (by omega);have h5:0<=u/m:=X3 (by omega) (by omega);have a4:i64.wrap (u/m)=u/m:=aa
  have a5:¬m=0:=by omega
  have a6:(m==0)=false:=by simp;omega
  refine Dp func210 λC hP hN=>?_;exact Gy
def eG(w:List Int)(t:Int)(i:Nat):List Int:=w.mapIdx λj k=>if j<i then k-k*t/256 else k
def eH(w:List Int)(t:Int):Nat->Int
 |0=>0
 |i+1=>eH w t i+(w[i]?).getD 0*t/256
def kx(w:List Int)(q:Nat)(t:Int):List Int:=(eG w t w.length).set q (((eG w t w.length)[q]?).getD 0+eH w t w.length)
theorem nR(w:List Int)(t:Int)(i:Nat):(eG w t i).length=w.length:=by simp[eG]
theorem jW(w:List Int)(t:Int)(i j:Nat):(eG w t i)[j]?=(w[j]?).map λk=>if j<i then k-k*t/256 else k:=by simp[eG,List.getElem?_mapIdx]
theorem vk(w:List Int)(t:Int):eG w t 0=w:=by
 apply WA;intro j;rw[jW];cases w[j]?<;>simp
theorem vm{k:Int}(a:w[i]?=some k):eG w t (i+1)=(eG w t i).set i (k-k*t/256):=by
 apply WA;intro j;rw[VV,jW,jW,nR];by_cases e:i=j
 .subst e
  obtain⟨h,_⟩:=th.1 a;rw[a];simp[h]
 .rw[VM e]
  cases w[j]? with
  |none=>rfl
  |some x=>
   simp only[WG]
   congr 1
   by_cases h:j<i
   .rw[VS h,VS (by omega)]
   .rw[VM h,VM (by omega)]
theorem zl(w:List Int):∀i,bi w i=(w.take i).sum
 |0=>by simp[bi]
 |i+1=>by
  rw[List.take_succ]
  cases h:w[i]? with
  |none=>simp[bi,h,zl w i]
  |some k=>simp[bi,h,zl w i]
theorem zm(w:List Int):bi w w.length=w.sum:=by rw[zl,XW]
theorem Bh{y:Int}(h:w[q]?=some y):(w.set q x).sum=w.sum-y+x:=by
 induction w generalizing q with
 |nil=>simp at h
 |cons a r ih=>
  cases q with
  |zero=>simp at h;subst h;simp;omega
  |succ q=>simp at h;simp only[List.set_cons_succ,List.sum_cons,ih h];omega
theorem DU(w:List Int)(t:Int):∀i,i<=w.length->(eG w t i).sum=w.sum-eH w t i
 |0,_=>by simp[vk,eH]
 |i+1,h=>by
  have a:w[i]?=some w[i]:=an (by omega)
  have b:(eG w t i)[i]?=some w[i]:=by rw[jW,a];simp
  rw[vm a,Bh b,DU w t i (by omega)];simp only[eH,a,V5];omega
theorem Mu(hq:q<w.length):(kx w q t).sum=w.sum:=by
 have b:=nR w t w.length;have a:(eG w t w.length)[q]?=some ((eG w t w.length)[q]'(by omega)):=an (by omega);unfold kx;rw[Bh a,DU w t _ (VU _),a];simp only[V5];omega
theorem pi{k:Int}(b:0<=k)(c:0<=t)(a:t<=256):0<=k*t/\k*t<=k*256/\0<=k*t/256/\k*t/256<=k:=by
 have d:0<=k*t:=WV b c;have e:k*t<=k*256:=W4 a b;omega
theorem pj{w:List Int}{t:Int}(c:∀k∈w,0<=k)(b:0<=t)(a:t<=256):∀i,0<=eH w t i/\eH w t i<=bi w i
 |0=>by simp[eH,bi]
 |i+1=>by
  have ih:=pj c b a i
  cases h:w[i]? with
  |none=>simp[eH,bi,h];omega
  |some k=>
   have:=pi (c k (Is h)) b a;simp only[eH,bi,h,V5];omega
theorem rF(w:List Int)(q:Nat)(t:Int):(kx w q t).length=w.length:=by simp[kx,nR]
theorem DV(g:WgOk w)(hq:q<w.length)(m:0<=t)(d:t<=256):WgOk (kx w q t):=by
 constructor
 .intro k l
  obtain⟨j,f,rfl⟩:=Xh.1 l
  have a:j<w.length:=by rw[rF]at f;exact f
  have i:w[j]?=some w[j]:=an a;have hp:=pi (g.pos _ (Wb a)) m d
  have c:(eG w t w.length)[j]?=some (w[j]-w[j]*t/256):=by rw[jW,i];simp[a]
  have o:=pj g.pos m d w.length;generalize n:(kx w q t)[j]=x
  have b:(kx w q t)[j]?=some x:=by rw[an f,n]
  clear n l;unfold kx at b;rw[VV]at b;by_cases e:q=j
  .subst e
   rw[VS rfl,VS (by rw[nR];exact a),c]at b;simp only[V5,VQ]at b;omega
  .rw[VM e,c]at b
   simp only[VQ]at b;omega
 .rw[zm,Mu hq,<-zm];exact g.tot
theorem NZ(l:List Vc)(w:List Int)(q:Nat)(t:Int)(h8:w.length<=8)(c:WgOk w)(hq:q<w.length)(n:0<=t)(a:t<=256):F5 prog 211 [.agg [.pv (aP l),.arr 2000000 w.length],.pv (Z q),.pv (Z t)] [(2000000,.row 2 1 (w.map Z) 0)] [(2000000,.row 2 1 ((kx w q t).map Z) 0)] (.tup []):=by
 refine E3 func211 rfl (by kernel_rfl) (by simp[f211]) ?_ ?_
 .constructor
  .rfl
  .simp
  .intro k b h;simp at h;obtain⟨rfl,rfl⟩:=h;rfl
  .intro k b h;simp at h;obtain⟨rfl,rfl⟩:=h;rfl
  .intro k b b' h O
   have L:=fF h;have M:=fF O;simp at L M;obtain⟨rfl,rfl⟩:=L;obtain⟨_,rfl⟩:=M;simp[uz,rF]
 intro C hP hN;simp only[f211]at hN|-;refine GT (be @KX.eq_1 @bV.eq_1 @bV.eq_2) ?_;refine WP.loopN [] w.length (λi st=>st.t 3=.ptr 3 0/\st.h 3=some (.box [.pv (aP l),.arr 2000000 w.length] true false)/\st.t 11=.arr 2000000 w.length/\st.t 12=.pv (Z w.length)/\st.t 13=.pv (Z i)/\st.t 6=.pv (Z (eH w t i))/\st.t 1=.pv (Z q)/\st.t 2=.pv (Z t)/\st.h 2000000=some (.row 2 1 ((eG w t i).map Z) 0)) (by simp[vk,eH]) ?_;rintro i st hi ⟨g3,v,r,s,u,N,g1,g2,x⟩;have f:=nR w t i;by_cases j:i<w.length
 .have H:=aj j (by omega)
  generalize I:w[i]=k at *
  have D:w[i]?=some k:=by rw[an j,I]
  have g:(eG w t i)[i]?=some k:=by rw[jW,D];simp
  have z:=c.pos k (Is D);have hp:=pi z n a;have G:=pj c.pos n a (i+1);have S:=pj c.pos n a i;have hm:=iF c.pos (show i+1<=w.length by omega);have A:=c.tot;have F:=vm (t:=t) D
  have y:eH w t (i+1)=eH w t i+k*t/256:=by simp only[eH,D,V5]
  have P:k<=65536:=by
   have a1:=nD D;have a2:=r7 c.pos i;omega
  rw[y]at G;generalize eH w t (i+1)=L' at *;generalize eH w t i=o at *;generalize eG w t (i+1)=R' at *;generalize eG w t i=R at *;subst y;subst F;have X:i64.wrap (k*t)=k*t:=aa;have Y:(k*t).tdiv 256=k*t/256:=Wa (by omega);generalize k*t/256=p at *;have u3:i64.wrap p=p:=aa;have u4:i64.wrap (k-p)=k-p:=aa;have K:i64.wrap (o+p)=o+p:=aa
  have d:i<R.length:=by omega
  have m:∀h,R[i]'h=k:=λh=>by rw[an h]at g;exact WE g
  with_reducible repeat' (first|refine Sp.h ?_|((first|refine Ss.h ?_|(refine Sb.h ?_ ?_ ?_<;>(try intro hgd)<;>try exact Xy))<;>simp -implicitDefEqProofs (maxSteps:=2000000) [hP,hN,g3,v,r,s,u,N,g1,g2,x,f,j,d,g,m,X,Y,u3,u4,K,H])|refine X2 ?_ ?_|(refine Xd ?_ ?_<;>intro hcd<;>try exact Xx))
 .have E:i=w.length:=by omega
  subst E;have T:=pj c.pos n a w.length;have U:=DV c hq n a;have hgd:kx w q t=(eG w t w.length).set q (((eG w t w.length)[q]?).getD 0+eH w t w.length):=rfl;have B:w[q]?=some w[q]:=an hq;have V:=pi (c.pos _ (Wb hq)) n a
  have e:(eG w t w.length)[q]?=some (w[q]-w[q]*t/256):=by rw[jW,B];simp[hq]
  have W:w[q]<=65536:=by
   have a1:=nD B;have a2:=r7 c.pos q;have a3:=iF c.pos (show q+1<=w.length by omega);have a4:=c.tot;omega
  have A:=c.tot;rw[e]at hgd;simp only[V5]at hgd
  have Q:0<=w[q]-w[q]*t/256/\w[q]-w[q]*t/256<=65536:=by omega
  generalize w[q]-w[q]*t/256=J at *;rw[hgd];generalize eG w t w.length=R at *;generalize eH w t w.length=o at *
  have d:q<R.length:=by omega
  have m:∀h,R[q]'h=J:=λh=>by rw[an h]at e;exact WE e
  have K:i64.wrap (J+o)=J+o:=aa
  with_reducible repeat' (first|refine Sp.h ?_|((first|refine Ss.h ?_|(refine Sb.h ?_ ?_ ?_<;>(try intro hgd)<;>try exact Xy))<;>simp -implicitDefEqProofs (maxSteps:=2000000) [hP,hN,g3,v,r,s,u,N,g1,g2,x,f,hq,d,e,m,K])|refine X2 ?_ ?_|(refine Xd ?_ ?_<;>intro hcd<;>try exact Xx))
  all_goals exact⟨rfl,⟨_,rfl,_,rfl⟩,by intro kb h;simp at h;subst h;simp⟩
def eI(A:List Vc)(w:List Int)(a:List Vc)(v:List Int):Vc:=bf (dr A w A.length) (dr a v a.length)
def jy(t:Vc):Vc:=(t.1.tdiv 65536,t.2.1.tdiv 65536,t.2.2.tdiv 65536)
structure NSt where
 w:List Int
 v:List Int
 n:Vc
 r:Nat
inductive NEnd where
 |stop(kind:Int)(s:NSt)
 |step(s:NSt)
variable {s:NSt}
def pm(A a:List Vc)(rho:Int)(steps:Nat)(s:NSt):NEnd:=
 if ph (eI A s.w a s.v) rho=true then .stop 2 s
 else if nz (bF (jy (eI A s.w a s.v)))=false then .stop 0 ⟨s.w,s.v,bF (jy (eI A s.w a s.v)),s.r⟩
 else if gb (bF (jy (eI A s.w a s.v)))*rho<(dp fe (bF (jy (eI A s.w a s.v))) A).1-(dp ff (bF (jy (eI A s.w a s.v))) a).1 then .stop 1 ⟨s.w,s.v,bF (jy (eI A s.w a s.v)),s.r⟩
 else if s.r=steps then .stop 0 ⟨s.w,s.v,bF (jy (eI A s.w a s.v)),s.r⟩
 else if lT (jy (eI A s.w a s.v)) (bf ((A[(dp fe (bF (jy (eI A s.w a s.v))) A).2]?).getD (0,0,0)) ((a[(dp ff (bF (jy (eI A s.w a s.v))) a).2]?).getD (0,0,0)))=0 then .stop 0 ⟨s.w,s.v,bF (jy (eI A s.w a s.v)),s.r⟩
 else .step ⟨kx s.w (dp fe (bF (jy (eI A s.w a s.v))) A).2 (lT (jy (eI A s.w a s.v)) (bf ((A[(dp fe (bF (jy (eI A s.w a s.v))) A).2]?).getD (0,0,0)) ((a[(dp ff (bF (jy (eI A s.w a s.v))) a).2]?).getD (0,0,0)))),kx s.v (dp ff (bF (jy (eI A s.w a s.v))) a).2 (lT (jy (eI A s.w a s.v)) (bf ((A[(dp fe (bF (jy (eI A s.w a s.v))) A).2]?).getD (0,0,0)) ((a[(dp ff (bF (jy (eI A s.w a s.v))) a).2]?).getD (0,0,0)))),bF (jy (eI A s.w a s.v)),s.r+1⟩
def kT(A b:List Vc)(rho:Int)(steps:Nat):Nat->NSt->Int×NSt
 |0,s=>(0,s)
 |f+1,s=>match pm A b rho steps s with
  |.stop k a=>(k,a)
  |.step a=>kT A b rho steps f a
theorem IC{t:Vc}(h:fy 35184372088832 t):fy 536870912 (jy t):=by
 have a:∀x:Int,-35184372088832<=x/\x<=35184372088832->-536870912<=x.tdiv 65536/\x.tdiv 65536<=536870912:=λx c=>by
  rcases Yf 0 x with b|b
  .rw[Wa b];omega
  .have e:x.tdiv 65536=-((-x).tdiv 65536):=by rw[Int.neg_tdiv,Int.neg_neg]
   rw[e,Wa (by omega)];omega
 exact⟨a _ h.1,a _ h.2.1,a _ h.2.2⟩
structure NsOk(A B':List Vc)(s:NSt):Prop where
 w:WgOk s.w
 v:WgOk s.v
 wl:s.w.length=A.length
 vl:s.v.length=B'.length
theorem ki:fL l=true↔1<=l.length/\l.length<=8/\l.all (aB 268435456)=true:=by
 simp only[fL,An,L4,and_assoc]
theorem DW(a:fL A=true)(b:fL B'=true)(hs:NsOk A B' s):fy 35184372088832 (eI A s.w B' s.v):=by
 rw[ki]at a b;have c:=kh a.2.2 hs.w A.length (by rw[hs.wl];exact VU _);have d:=kh b.2.2 hs.v B'.length (by rw[hs.vl];exact VU _);exact sd c d
theorem nT{n:Vc}(a:1<=l.length):(dp bet n l).2<l.length:=vj a _
abbrev Qj(A:List Vc)(c:Nat)(a:List Vc)(b:Nat)(n:Vc)(r:Nat):List AV:=[.pv (aP A),.arr 2000000 c,.pv (aP a),.arr 2000001 b,.pv (Z n.1),.pv (Z n.2.1),.pv (Z n.2.2),.pv (Z r)]
abbrev Lr(A a:List Vc)(s:NSt):List (Nat×Blk):=[(1000000,.box (Qj A s.w.length a s.v.length s.n s.r) false false),(2000000,.row 2 1 (s.w.map Z) 0),(2000001,.row 2 1 (s.v.map Z) 0)]
theorem AF:∀(k:Nat)(v:Vc),fy (16384*((2^k:Nat):Int)) v->aB 16384 (k9 k v)=true
 |0,v,h=>by
  obtain⟨a,b,c⟩:=h;simp only[k9];rw[cT,bp,bp,bp];simp only[Nat.pow_zero]at a b c;exact⟨by omega,by omega,by omega⟩
 |k+1,v,h=>by
  simp only[k9];split
  .assumption
  .refine AF k _ (Ek ?_)
   have e:2*(16384*((2^k:Nat):Int))=16384*((2^(k+1):Nat):Int):=by rw[Yt];omega
   rw[e];exact h
theorem B2(v:Vc)(h:fy 1099511627776 v):aB 16384 (bF v)=true:=AF 64 v (jV h (by decide))
theorem vn{rho:Int}{steps:Nat}(b:fL A=true)(c:fL B'=true)(hs:NsOk A B' s):(∀k a,pm A B' rho steps s=.stop k a->NsOk A B' a)/\∀a,pm A B' rho steps s=.step a->NsOk A B' a:=by
 rw[ki]at b c;unfold pm;refine⟨λk a h=>?_,λa h=>?_⟩
 .repeat' split at h
  all_goals first
   |(injection h with _ h;subst h;exact hs)
   |(injection h with _ h;subst h;exact⟨hs.w,hs.v,hs.wl,hs.vl⟩)
   |cases h
 .repeat' split at h
  all_goals first
   |cases h;done
   |(injection h with h
     subst h
     exact⟨DV hs.w (by rw[hs.wl];exact nT b.1) (mi _ _).1 (mi _ _).2,DV hs.v (by rw[hs.vl];exact nT c.1) (mi _ _).1 (mi _ _).2,by rw[rF];exact hs.wl,by rw[rF];exact hs.vl⟩)
theorem vo{A a:List Vc}{rho:Int}{steps:Nat}(c:fL A=true)(d:fL a=true):∀(f:Nat)(s:NSt),NsOk A a s->NsOk A a (kT A a rho steps f s).2
 |0,s,b=>b
 |f+1,s,b=>by
  have h:=vn (rho:=rho) (steps:=steps) c d b;simp only[kT];split
  .rename_i k g e;exact h.1 _ _ e
  .rename_i g e;exact vo c d f g (h.2 _ e)
theorem tc{n p:Vc}(hn:fy 16384 n)(hp:fy 268435456 p):-13194139533312<=bM n p/\bM n p<=13194139533312:=by
 obtain⟨a,b,c⟩:=lS (m:=16384) (n:=268435456) hn hp;unfold bM;omega
theorem B3{bet:Int->Int->Bool}{n p0:Vc}{l:List Vc}(hn:fy 16384 n)(hp:fy 268435456 p0)(a:l.all (aB 268435456)=true):∀i,-13194139533312<=(dF bet n p0 l i).1/\(dF bet n p0 l i).1<=13194139533312
 |0=>tc hn hp
 |i+1=>by
  have ih:=B3 (bet:=bet) hn hp a i;simp only[dF];split
  .rename_i v b
   have:=tc hn (eQ (VL.1 a v (Is b)));split
   .exact this
   .exact ih
  .exact ih
theorem wU(h:aB 16384 v=true):fy 16384 v:=by
 rw[cT,bp,bp,bp]at h;exact⟨⟨by omega,by omega⟩,⟨by omega,by omega⟩,⟨by omega,by omega⟩⟩
theorem rf{n:Vc}(hn:aB 16384 n=true)(a:l.all (aB 268435456)=true):-13194139533312<=(dp bet n l).1/\(dp bet n l).1<=13194139533312:=by
 refine B3 (wU hn) ?_ a _
 cases h:l[0]? with
 |none=>simp[fy]
 |some p=>exact eQ (VL.1 a p (Is h))
theorem N0{s':NSt}(hs:NsOk A B' s)(a:NsOk A B' s'):OkG (Lr A B' s) (Lr A B' s'):=by
 constructor
 .rfl
 .simp
 .intro k b h
  simp only[Wj,V0,Wr,WR]at h;rcases h with⟨rfl,rfl⟩|⟨rfl,rfl⟩|⟨rfl,rfl⟩
  all_goals (simp[kn,ni])
 .intro k b h
  simp only[Wj,V0,Wr,WR]at h;rcases h with⟨rfl,rfl⟩|⟨rfl,rfl⟩|⟨rfl,rfl⟩
  all_goals (simp[kn,ni])
 .intro k b g h f
  have d:=fF h;have c:=fF f;simp only[Wj,V0,Wr,WR]at d c;rcases d with⟨rfl,rfl⟩|⟨rfl,rfl⟩|⟨rfl,rfl⟩
  .rcases c with⟨_,rfl⟩|⟨e,_⟩|⟨e,_⟩
   .rfl
   .exact absurd e (by decide)
   .exact absurd e (by decide)
  .rcases c with⟨e,_⟩|⟨_,rfl⟩|⟨e,_⟩
   .exact absurd e (by decide)
   .simp[uz,hs.wl,a.wl]
   .exact absurd e (by decide)
  .rcases c with⟨e,_⟩|⟨e,_⟩|⟨_,rfl⟩
   .exact absurd e (by decide)
   .exact absurd e (by decide)
   .simp[uz,hs.vl,a.vl]
set_option maxRecDepth 4000 in
theorem Rx(A l:List Vc)(rho:Int)(steps:Nat)(s0:NSt)(hA:fL A=true)(hB:fL l=true)(hr:0<=rho/\rho<=2097152)(b1:steps<=64)(hs:NsOk A l s0)(h0:s0.r=0):F5 prog 151 [.ptr 1000000 0,.pv (Z rho),.pv (Z steps)] (Lr A l s0) (Lr A l (kT A l rho steps (steps+1) s0).2) (Z (kT A l rho steps (steps+1) s0).1):=by
 have a1:=vo (rho:=rho) (steps:=steps) hA hB (steps+1) s0 hs;generalize a2:kT A l rho steps (steps+1) s0=RR at *;have m:=ki.1 hA;have o:=ki.1 hB;refine E3 func151 rfl (by kernel_rfl) (by simp[f151]) (N0 hs a1) ?_;intro C hP hN;simp only[f151]at hN|-;refine GT (be @KX.eq_1 @bV.eq_1 @bV.eq_2) ?_;refine WP.loopN [7,8,9] steps (λi st=>∃s:NSt,NsOk A l s/\s.r=i/\kT A l rho steps (steps+1-i) s=RR/\st.t 0=.ptr 1000000 0/\st.t 1=.pv (Z rho)/\st.t 2=.pv (Z steps)/\st.h 7=none/\st.h 8=none/\st.h 9=none/\st.h 1000000=some (.box (Qj A s.w.length l s.v.length s.n s.r) false false)/\st.h 2000000=some (.row 2 1 (s.w.map Z) 0)/\st.h 2000001=some (.row 2 1 (s.v.map Z) 0)) (by refine⟨s0,hs,h0,a2,?_⟩;simp) ?_;rintro i st hi ⟨s,hs,b0,c,g0,g1,g2,p,u,y,j,e,f⟩;have ar:=DW hA hB hs;have J:=IC ar;have V:=jV J (show(536870912:Int)<=1099511627776 by decide);have P:=B2 _ V;rw[show steps+1-i=(steps-i)+1 by omega]at c;simp only[kT]at c;have d:pm A l rho steps s=_:=rfl
 conv at d=>rhs;unfold pm
 have c1:=NY A s.w m.2.1 hs.wl m.2.2 hs.w;have c2:=NY l s.v o.2.1 hs.vl o.2.2 hs.v;have a6:=kh m.2.2 hs.w A.length (by rw[hs.wl];exact VU _);have a7:=kh o.2.2 hs.v l.length (by rw[hs.vl];exact VU _);have c3:=J6 _ _ (jV a6 (by decide)) (jV a7 (by decide));have a8:bf (dr A s.w A.length) (dr l s.v l.length)=eI A s.w l s.v:=rfl;rw[a8]at c3;have c4:=Rv _ rho ar hr;have a5:=vn (rho:=rho) (steps:=steps) hA hB hs;generalize eI A s.w l s.v=T at *;have c5:=Ok _ V;have I:jy T=(T.1.tdiv 65536,T.2.1.tdiv 65536,T.2.2.tdiv 65536):=rfl
 cases O:ph T rho with
 |true=>
  rw[O]at c4;rw[VS O]at d;rw[d]at c;simp only at c;subst c;refine GT (so g0 g1 g2 p u y j (gA e f)) ?_
  all_goals exact⟨rfl,⟨_,rfl,_,rfl⟩,by intro kb h;simp only[Wj,Wr,WR]at h;rcases h with rfl|rfl|rfl<;>simp[j,e,f]⟩
 |false=>
  rw[O]at c4;rw[VM (by rw[O];simp)]at d
  have L:i64.wrap (T.1.tdiv 65536)=T.1.tdiv 65536:=by have:=J.1;rw[I]at this;simp only at this;exact aa (by omega) (by omega)
  have M:i64.wrap (T.2.1.tdiv 65536)=T.2.1.tdiv 65536:=by have:=J.2.1;rw[I]at this;simp only at this;exact aa (by omega) (by omega)
  have N:i64.wrap (T.2.2.tdiv 65536)=T.2.2.tdiv 65536:=by have:=J.2.2;rw[I]at this;simp only at this;exact aa (by omega) (by omega)
  generalize bF (jy T)=n at *
  cases Q:nz n with
  |false=>
   rw[VS Q]at d;rw[d]at c;simp only at c;subst c;rw[Q,I]at c5;refine GT (s6 g0 g1 g2 p u y j e f L M N) ?_
   all_goals exact⟨rfl,⟨_,rfl,_,rfl⟩,by intro kb h;simp only[Wj,Wr,WR]at h;rcases h with rfl|rfl|rfl<;>simp[j,e,f]⟩
  |true=>
   rw[VM (by rw[Q];simp)]at d;have c6:=Rt n A s.w P m.1 m.2.1 m.2.2;have c7:=Ru n l s.v P o.1 o.2.1 o.2.2;have c8:=Ol n;have hq:=vH n;have l1:=rf (bet:=fe) P m.2.2;have l2:=rf (bet:=ff) P o.2.2;have X:=nT (bet:=fe) (n:=n) m.1;have Y:=nT (bet:=ff) (n:=n) o.1;generalize dp fe n A=lo at *;generalize dp ff n l=F at *;generalize gb n=q at *;have bH:=bS (a:=q) (b:=rho) 32768 2097152 (by omega) (by omega) (by omega) (by omega);have S:i64.wrap (lo.1-F.1)=lo.1-F.1:=aa;have U:i64.wrap (q*rho)=q*rho:=aa;generalize D:q*rho=qr at *;obtain⟨pa,z⟩:∃x,A[lo.2]?=some x:=⟨_,an X⟩;obtain⟨pb,B⟩:∃x,l[F.2]?=some x:=⟨_,an Y⟩
   have G:∀h,A[lo.2]'h=pa:=λh=>by rw[an h]at z;exact WE z
   have H:∀h,l[F.2]'h=pb:=λh=>by rw[an h]at B;exact WE B
   have sa:=eQ (VL.1 m.2.2 pa (Is z));have sb:=eQ (VL.1 o.2.2 pb (Is B));have c9:=J6 pa pb (jV sa (by decide)) (jV sb (by decide));have bs:=sd sa sb;have ad:=Rw (jy T) (bf pa pb) J bs;have R:=mi (jy T) (bf pa pb);rw[z,B]at d;simp only[V5]at d;generalize lT (jy T) (bf pa pb)=t at *;generalize bf pa pb=b2 at *;rw[I]at c5 ad;rw[Q]at c5;by_cases g:qr<lo.1-F.1
   .rw[VS g]at d
    rw[d]at c;simp only at c;subst c;refine GT (s7 g0 g1 g2 p u y j e f L M N S U (gA D g)) ?_
    all_goals exact⟨rfl,⟨_,rfl,_,rfl⟩,by intro kb h;simp only[Wj,Wr,WR]at h;rcases h with rfl|rfl|rfl<;>simp[j,e,f]⟩
   rw[VM g]at d;by_cases W:s.r=steps
   .rw[VS W]at d
    rw[d]at c;simp only at c;subst c
    have k:((s.r:Int)==(steps:Int))=true:=by simp;omega
    refine GT (s7 g0 g1 g2 p u y j e f L M N S U (be D g k)) ?_
    all_goals exact⟨rfl,⟨_,rfl,_,rfl⟩,by intro kb h;simp only[Wj,Wr,WR]at h;rcases h with rfl|rfl|rfl<;>simp[j,e,f]⟩
   rw[VM W]at d
   have k:((s.r:Int)==(steps:Int))=false:=by simp;omega
   by_cases E:t=0
   .rw[VS E]at d
    rw[d]at c;simp only at c;subst c;refine GT (s7 g0 g1 g2 p u y j e f L M N S U (s5 D g k z B G H X Y E)) ?_
    all_goals exact⟨rfl,⟨_,rfl,_,rfl⟩,by intro kb h;simp only[Wj,Wr,WR]at h;rcases h with rfl|rfl|rfl<;>simp[j,e,f]⟩
   rw[VM E]at d;have bc:=a5.2 _ d;rw[d]at c;simp only at c
   have K:(t==0)=false:=by simp;omega
   have ba:=NZ A s.w lo.2 t (by rw[hs.wl];exact m.2.1) hs.w (by rw[hs.wl];exact X) R.1 R.2;have bb:=NZ l s.v F.2 t (by rw[hs.vl];exact o.2.1) hs.v (by rw[hs.vl];exact Y) R.1 R.2
   with_reducible repeat' (first|refine Sp.h ?_|((refine WP.share (hn:=[]) (pre:=[_,_,_,_,_,_,_]) (post:=[]) rfl rfl rfl ?_);simp -implicitDefEqProofs (maxSteps:=2000000) [hP,hN,g0,g1,g2,p,u,y,j,e,f,L,M,N,S,U,D,g,k,z,B,G,H,X,Y,E,K])|((first|refine Wd ?_|refine Ss.h ?_|refine Sc.h (c1) ?_|refine Sc.h (c2) ?_|refine Sc.h (c3) ?_|refine Sc.h (c4) ?_|refine Sc.h (c5) ?_|refine Sc.h (c6) ?_|refine Sc.h (c7) ?_|refine Sc.h (c8) ?_|refine Sc.h (c9) ?_|refine Sc.h (ad) ?_|(refine Sb.h ?_ ?_ ?_<;>(try intro hgd)<;>try exact Xy))<;>simp -implicitDefEqProofs (maxSteps:=2000000) [hP,hN,g0,g1,g2,p,u,y,j,e,f,L,M,N,S,U,D,g,k,z,B,G,H,X,Y,E,K]<;>try refine Ya ?_)|refine X2 ?_ ?_|(refine Xd ?_ ?_<;>intro hcd<;>try exact Xx))
   simp only[zJ,hP];refine⟨_,_,_,_,_,λ_=>2000000,rfl,ba,rfl,?_⟩;refine⟨by simp[AO,lY],by simp[E2,ni],by simp,by intro kb h;simp only[Wj,Wr,WR]at h;subst h;simp[e,iY],by rw[hN];rfl,?_⟩;simp -implicitDefEqProofs (maxSteps:=2000000) [hP,hN,iU,iY,dP,e]
   with_reducible repeat' (first|refine Sp.h ?_|((refine WP.share (hn:=[]) (pre:=[_,_,_,_,_,_,_]) (post:=[]) rfl rfl rfl ?_);simp -implicitDefEqProofs (maxSteps:=2000000) [hP,hN,g0,g1,g2,p,u,y,j,e,f,iU,iY,L,M,N,S,U,D,g,k,z,B,G,H,X,Y,E,K])|((first|refine Wd ?_|refine Ss.h ?_|refine Sc.h (c1) ?_|refine Sc.h (c2) ?_|refine Sc.h (c3) ?_|refine Sc.h (c4) ?_|refine Sc.h (c5) ?_|refine Sc.h (c6) ?_|refine Sc.h (c7) ?_|refine Sc.h (c8) ?_|refine Sc.h (c9) ?_|refine Sc.h (ad) ?_|(refine Sb.h ?_ ?_ ?_<;>(try intro hgd)<;>try exact Xy))<;>simp -implicitDefEqProofs (maxSteps:=2000000) [hP,hN,g0,g1,g2,p,u,y,j,e,f,iU,iY,L,M,N,S,U,D,g,k,z,B,G,H,X,Y,E,K]<;>try refine Ya ?_)|refine X2 ?_ ?_|(refine Xd ?_ ?_<;>intro hcd<;>try exact Xx))
   simp only[zJ,hP];refine⟨_,_,_,_,_,λ_=>2000001,rfl,bb,rfl,?_⟩;refine⟨by simp[AO,lY],by simp[E2,ni],by simp,by intro kb h;simp only[Wj,Wr,WR]at h;subst h;simp[f,iY],by rw[hN];rfl,?_⟩;simp -implicitDefEqProofs (maxSteps:=2000000) [hP,hN,iU,iY,dP,e,f];have bq:i64.wrap ((s.r:Int)+1)=(s.r:Int)+1:=aa;refine GT (s7 g0 g1 g2 p u y j e f bq @iU.eq_1 @iY.eq_1 @iY.eq_2 L (s7 M N S U D g k z B G H X Y E K)) ?_;refine⟨by omega,⟨kx s.w lo.2 t,kx s.v F.2 t,n,s.r+1⟩,bc,by simp only;omega,c,⟨(rF _ _ _).symm,(rF _ _ _).symm,rfl,rfl,rfl,by simp only;omega⟩,rfl,rfl⟩
def td(a b:List Vc):NSt:=⟨(List.replicate a.length 0).set 0 65536,(List.replicate b.length 0).set 0 65536,(0,0,0),0⟩
theorem Ls(h:1<=n):WgOk ((List.replicate n 0).set 0 65536):=by
 constructor
 .intro k a
  rcases WH a with h|rfl
  .have:=List.eq_of_mem_replicate h;omega
  .decide
 .rw[zm,Bh (y:=0) (by rw[Wn,VS (by omega)])]
  have:(List.replicate n (0:Int)).sum=0:=by simp
  omega
theorem DX{a b:List Vc}(c:1<=a.length)(d:1<=b.length):NsOk a b (td a b):=⟨Ls c,Ls d,by simp[td],by simp[td]⟩
def rh(a b:List Vc)(rho steps:Int):Bool:=fL a&&fL b&&bt rho 0 2097152&&bt steps 0 64
def jD(a b:List Vc)(rho steps:Int):Int×NSt:=if rh a b rho steps then kT a b rho steps.toNat (steps.toNat+1) (td a b)else(0,⟨[],[],(0,0,0),0⟩)
abbrev Lt(x:Int×NSt):PV:=.agg [Z x.1,Z x.2.n.1,Z x.2.n.2.1,Z x.2.n.2.2,zs x.2.w,zs x.2.v,Z x.2.r]
theorem Qk(a b:List Vc)(rho steps:Int)(y:a.length<=9223372036854775807)(z:b.length<=9223372036854775807):EG 96 (aP a) (aP b) (Z rho) (Z steps) (Lt (jD a b rho steps)):=by
 have g:=NW a y;have j:=NW b z;have c:rh a b rho steps=(fL a&&fL b&&bt rho 0 2097152&&bt steps 0 64):=rfl
 have d:jD a b rho steps=if rh a b rho steps then kT a b rho steps.toNat (steps.toNat+1) (td a b)else(0,⟨[],[],(0,0,0),0⟩):=rfl
 cases e:fL a with
 |false=>
  rw[e]at g c;simp only[Ww]at c;rw[c]at d;simp only[VP,VZ]at d;rw[d];refine Dp func96 λC hP hN=>?_;exact Gy
 |true=>
 cases f:fL b with
 |false=>
  rw[e]at g c;rw[f]at j c;simp only[Xi,Ww]at c;rw[c]at d;simp only[VP,VZ]at d;rw[d];refine Dp func96 λC hP hN=>?_;exact Gy
 |true=>
 rw[e]at g c;rw[f]at j c;simp only[Xf,We]at c;by_cases u:rho<0\/2097152<rho\/steps<0\/64<steps
 .have hf:(bt rho 0 2097152&&bt steps 0 64)=false:=by
   simp only[bt];rcases u with h|h|h|h
   .rw[WW (show¬0<=rho by omega)];simp
   .rw[WW (show¬rho<=2097152 by omega)];simp
   .rw[WW (show¬0<=steps by omega)];simp
   .rw[WW (show¬steps<=64 by omega)];simp
  rw[hf]at c;rw[c]at d;simp only[VP,VZ]at d;rw[d];rcases u with h|h|h|h
  all_goals
   refine Dp func96 λC hP hN=>?_;exact Gy
 have hf:(bt rho 0 2097152&&bt steps 0 64)=true:=by
  simp only[bt,An,L4];omega
 rw[hf]at c;rw[c]at d;simp only[V8]at d;obtain⟨m,A⟩:∃m:Nat,steps=m:=⟨steps.toNat,by omega⟩;subst A;simp only[V7]at d;have n:=ki.1 e;have o:=ki.1 f;have v:=Lq a n.1 n.2.1;have x:=Lq b o.1 o.2.1;have k:=DX n.1 o.1;have i:=vo (rho:=rho) (steps:=m) e f (m+1) (td a b) k;have l:=Rx a b rho m (td a b) e f (by omega) (by omega) k rfl;generalize kT a b rho m (m+1) (td a b)=E at *;rw[d]
 have p:¬rho<0:=by omega
 have r:¬2097152<rho:=by omega
 have F:¬(m:Int)<0:=by omega
 have s:¬64<(m:Int):=by omega
 refine Dp func96 λC hP hN=>?_
 with_reducible repeat' (first|refine Sp.h ?_|((refine WP.share (hn:=[]) (pre:=[_,_]) (post:=[_]) rfl rfl rfl ?_);simp -implicitDefEqProofs (maxSteps:=2000000) [hP,hN,p,r,s])|((first|refine Ss.h ?_|refine Sc.h (g) ?_|refine Sc.h (j) ?_|refine Sc.h (v) ?_|refine Sc.h (x) ?_|(refine Sb.h ?_ ?_ ?_<;>(try intro hgd)<;>try exact Xy))<;>simp -implicitDefEqProofs (maxSteps:=2000000) [hP,hN,p,r,s])|refine X2 ?_ ?_|(refine Xd ?_ ?_<;>intro hcd<;>try exact Xx))
 simp only[zJ,hP];refine⟨_,_,_,_,_,λq=>if q=1000000 then 9 else if q=2000000 then 37 else 40,rfl,l,rfl,?_⟩;refine⟨by simp[AO,lY],by simp[E2,ni],by simp,by intro G h;simp only[Wj,Wr,WR]at h;rcases h with rfl|rfl|rfl<;>simp[iY,lY,mY,td],by rw[hN];rfl,?_⟩;simp -implicitDefEqProofs (maxSteps:=2000000) [hP,hN,iU,iY,lY,mY];have D:=i.wl;have B:=i.vl;exact Gy
def eL(n:Nat)(l:Int):Bool:=decide (-1<=l)&&decide (l<n)
theorem IK(s:Sce)(l:Int)(a:s.js.length<=9223372036854775807):aH 64 (eK s) (Z l) (B (eL s.js.length l)):=by
 refine Dp func64 λC hP hN=>?_
 with_reducible repeat' (first|refine Sp.h ?_|((first|refine Ss.h ?_|(refine Sb.h ?_ ?_ ?_<;>(try intro hgd)<;>try exact Xy))<;>simp -implicitDefEqProofs (maxSteps:=2000000) [hP,hN])|refine X2 ?_ ?_|(refine Xd ?_ ?_<;>intro hcd<;>try exact Xx))
 all_goals (simp only[eL,L4,VY]at *;first|done|(simp;intros;omega)|(simp;omega)|omega)
def dQ(n:Nat)(h:Sh):Int:=if(eL n h.link&&decide (1<=h.rad)&&decide (h.rad<=1048576)&&decide (1<=h.pts.length)&&decide (h.pts.length<=8))=true then(if h.pts.all (aB 4194304)=true then 0 else 805)else 902
theorem UP(s:Sce)(h:Sh)(J:s.js.length<=9223372036854775807)(K:h.pts.length<=9223372036854775807):aH 63 (eK s) (cD h) (Z (dQ s.js.length h)):=by
 have D:=IK s h.link J
 cases l:eL s.js.length h.link with
 |false=>
  have hf:dQ s.js.length h=902:=by simp[dQ,l]
  rw[hf];rw[l]at D;refine Dp func63 λC hP hN=>?_;exact Gy
 |true=>
 rw[l]at D;by_cases I:h.rad<1\/1048576<h.rad\/(h.pts.length:Int)<1\/(8:Int)<h.pts.length
 .have hf:dQ s.js.length h=902:=by
   unfold dQ;rw[VM];simp only[An,L4];rintro⟨⟨⟨⟨b0,b1⟩,b2⟩,b3⟩,b4⟩;omega
  rw[hf];rcases I with q|q|q|q
  all_goals
   refine Dp func63 λC hP hN=>?_;exact Gy
 have q:¬h.rad<1:=by omega
 have N:¬1048576<h.rad:=by omega
 have O:¬(h.pts.length:Int)<1:=by omega
 have P:¬(8:Int)<h.pts.length:=by omega
 have G:¬h.pts.length<1:=by omega
 have H:¬8<h.pts.length:=by omega
 have hf:dQ s.js.length h=if h.pts.all (aB 4194304)=true then 0 else 805:=by
  unfold dQ;rw[VS];simp only[An,L4];exact⟨⟨⟨⟨l,by omega⟩,by omega⟩,by omega⟩,by omega⟩
 rw[hf];refine Dp func63 λC hP hN=>?_
 cases e:h.pts.all (aB 4194304)with
 |true=>
  refine Gz ?_;refine WP.loopN [7] h.pts.length (λi st=>True/\st.t 37=.pv (aP h.pts)/\st.t 38=.pv (Z h.pts.length)/\st.t 39=.pv (Z i)/\st.h 7=none) (by simp) ?_;rintro i st hi ⟨g1,g,j,f,m⟩;by_cases d:i<h.pts.length
  .have r:=aj d (by omega)
   have L:=cT.1 (VL.1 e _ (Wb d));obtain⟨y,z,A⟩:=L;rw[bp]at y z A;generalize n:h.pts[i]=v at *
   have E:h.pts[i]?=some v:=by rw[an d,n]
   refine Gz ?_;refine WP.loopN [] 3 (λk st=>True/\st.t 37=.pv (aP h.pts)/\st.t 38=.pv (Z h.pts.length)/\st.t 39=.pv (Z i)/\st.t 43=.pv (ao v)/\st.t 44=.pv (Z k)) (by simp[g1,g,j,f]) ?_;clear g1 g j f m;rintro k st l ⟨g1,g,j,f,gA,gK⟩;rcases eJ l with rfl|rfl|rfl|rfl
   all_goals
    exact Gy
  .skip
   exact Gy
 |false=>
  refine Gz ?_;refine WP.loopN [7] h.pts.length (λi st=>True/\st.t 37=.pv (aP h.pts)/\st.t 38=.pv (Z h.pts.length)/\st.t 39=.pv (Z i)/\st.h 7=none/\∀k x,k<i->h.pts[k]?=some x->aB 4194304 x=true) (by simp) ?_;rintro i st hi ⟨g1,g,j,f,m,hq⟩;by_cases d:i<h.pts.length
  .have r:=aj d (by omega)
   generalize n:h.pts[i]=v at *
   have E:h.pts[i]?=some v:=by rw[an d,n]
   have u:=nE (p:=aB 4194304) E hq;refine Gz ?_;refine WP.loopN [] 3 (λk st=>True/\st.t 37=.pv (aP h.pts)/\st.t 38=.pv (Z h.pts.length)/\st.t 39=.pv (Z i)/\st.t 43=.pv (ao v)/\st.t 44=.pv (Z k)/\(0<k->gC v.1 4194304=true)/\(1<k->gC v.2.1 4194304=true)/\(2<k->gC v.2.2 4194304=true)) (by simp[g1,g,j,f]) ?_;clear g1 g j f m hq;rintro k st l ⟨g1,g,j,f,gA,gK,B,F,M⟩;rcases eJ l with rfl|rfl|rfl|rfl
   .skip
    with_reducible repeat' (first|refine Sp.h ?_|((first|refine Ss.h ?_|(refine Sb.h ?_ ?_ ?_<;>(try intro hgd)<;>try exact Xy))<;>simp -implicitDefEqProofs (maxSteps:=2000000) [hP,hN,g1,g,j,f,gA,gK,r])|refine X2 ?_ ?_|(refine Xd ?_ ?_<;>intro hcd<;>try exact Xx))
    all_goals (try (rw[bp];simp only[VY,L4]at hgd hcd;omega))
   .skip
    with_reducible repeat' (first|refine Sp.h ?_|((first|refine Ss.h ?_|(refine Sb.h ?_ ?_ ?_<;>(try intro hgd)<;>try exact Xy))<;>simp -implicitDefEqProofs (maxSteps:=2000000) [hP,hN,g1,g,j,f,gA,gK,r])|refine X2 ?_ ?_|(refine Xd ?_ ?_<;>intro hcd<;>try exact Xx))
    all_goals (try (exact⟨B (by omega),by rw[bp];simp only[VY,L4]at hgd hcd;omega⟩))
   .skip
    with_reducible repeat' (first|refine Sp.h ?_|((first|refine Ss.h ?_|(refine Sb.h ?_ ?_ ?_<;>(try intro hgd)<;>try exact Xy))<;>simp -implicitDefEqProofs (maxSteps:=2000000) [hP,hN,g1,g,j,f,gA,gK,r])|refine X2 ?_ ?_|(refine Xd ?_ ?_<;>intro hcd<;>try exact Xx))
    all_goals (try (exact⟨B (by omega),F (by omega),by rw[bp];simp only[VY,L4]at hgd hcd;omega⟩))
   .have hn:aB 4194304 v=true:=cT.2 ⟨B (by omega),F (by omega),M (by omega)⟩
    have o:=u hn;refine Gz ?_
    all_goals (try exact λk a b c=>o k (a,b,c))
  .have:=pD hq d
   rw[this]at e;cases e
def iO(n:Nat)(shs:List Sh):Int:=match(shs.map (dQ n)).find? (λe=>e !=0)with
 |some e=>e
 |none=>0
theorem wc(b:i<shs.length)(hq:∀k x,k<i->shs[k]?=some x->dQ n x=0)(c:dQ n shs[i]≠0):iO n shs=dQ n shs[i]:=by
 have:(shs.map (dQ n)).find? (λe=>e !=0)=some (dQ n shs[i]):=by
  rw[Yl];refine⟨by simpa using c,i,by simpa using b,by simp,λk d=>?_⟩
  have a:k<shs.length:=by omega
  simp[hq k shs[k] d (an a)]
 rw[iO,this]
theorem xc(hq:∀(k:Nat) x,shs[k]?=some x->dQ n x=0):iO n shs=0:=by
 have:(shs.map (dQ n)).find? (λe=>e !=0)=none:=by
  rw[W7];intro e a;simp only[Wf]at a;obtain⟨x,c,rfl⟩:=a;obtain⟨k,b⟩:=Wt c;simp[hq k x b]
 rw[iO,this]
def kY(n:Nat)(p:Int×Int):Bool:=eL n p.1&&eL n p.2
def aY(s:Sce):Int:=if aO s.js s.ms≠0 then aO s.js s.ms else if 24<s.shs.length then 901 else if iO s.js.length s.shs≠0 then iO s.js.length s.shs else if 64<s.sks.length then 903 else if s.sks.all (kY s.js.length)=true then 0 else 903
structure ScL(s:Sce):Prop where
 js:s.js.length<=9223372036854775807
 ms:s.ms.length<=9223372036854775807
 shs:s.shs.length<=9223372036854775807
 sks:s.sks.length<=9223372036854775807
 pts:∀h∈s.shs,h.pts.length<=9223372036854775807
theorem Eg(s:Sce)(hs:ScL s):bh 29 (eK s) (Z (aY s)):=by
 have U:=yD s.js s.ms hs.js hs.ms;obtain⟨G,l2,l3,T,l5⟩:=hs;by_cases A:aO s.js s.ms=0
 case neg=>
  have hf:aY s=aO s.js s.ms:=by simp[aY,A]
  have V:(aO s.js s.ms !=0)=true:=by simp[A]
  rw[hf];generalize aO s.js s.ms=r at *;refine Dp func29 λC hP hN=>?_;exact Gy
 rw[A]at U;by_cases R:24<s.shs.length
 .have hf:aY s=901:=by simp[aY,A,R]
  have M:(24:Int)<s.shs.length:=by omega
  rw[hf];refine Dp func29 λC hP hN=>?_;exact Gy
 have M:¬(24:Int)<s.shs.length:=by omega
 have hf:aY s=if iO s.js.length s.shs≠0 then iO s.js.length s.shs else if 64<s.sks.length then 903 else if s.sks.all (kY s.js.length)=true then 0 else 903:=by simp only[aY,A,R,VZ,ne_eq,Xp]
 rw[hf];refine Dp func29 λC hP hN=>?_;refine Gz ?_;refine WP.loopN [5] s.shs.length (λi st=>st.t 1=.ptr 1 0/\st.h 1=some (.box [.pv (.sl (s.js.map bu)),.pv (.sl (s.ms.map cE)),.pv (.sl (s.shs.map cD)),.pv (.sl (s.sks.map aN))] true false)/\st.t 20=.pv (.sl (s.shs.map cD))/\st.t 21=.pv (Z s.shs.length)/\st.t 22=.pv (Z i)/\st.h 5=none/\st.h 8=none/\∀k x,k<i->s.shs[k]?=some x->dQ s.js.length x=0) (by simp) ?_;rintro i st hi ⟨g1,d,u,y,z,D,f,hq⟩;by_cases c:i<s.shs.length
 .have S:=aj c l3
  have N:=wc (n:=s.js.length) c hq;have o:=λq=>nE (p:=λx=>dQ s.js.length x==0) (an c) (λk x P j=>by simp[hq k x P j]) q;generalize l:s.shs[i]=v at *
  have j:s.shs[i]?=some v:=by rw[an c,l]
  have cc:=UP s v G (l5 v (Is j));generalize dQ s.js.length v=e at *;by_cases q:e=0
  .subst q
   have F:∀k x,k<i+1->s.shs[k]?=some x->dQ s.js.length x=0:=λk x P j=>by simpa using o rfl k x P j
   refine Gz ?_
   all_goals exact F
  .have X:(e !=0)=true:=by simp[q]
   have O:=N q;exact Gy
   all_goals simp[O,q]
 .have Y:iO s.js.length s.shs=0:=xc (λk x j=>hq k x (by have:=(th.1 j).1;omega) j)
  rw[Y];by_cases W:64<s.sks.length
  .have B:(64:Int)<s.sks.length:=by omega
   exact Gy
  .have B:¬(64:Int)<s.sks.length:=by omega
   cases g:s.sks.all (kY s.js.length)with
   |true=>
    refine Gz ?_;refine WP.loopN [8] s.sks.length (λi st=>st.t 1=.ptr 1 0/\st.h 1=some (.box [.pv (.sl (s.js.map bu)),.pv (.sl (s.ms.map cE)),.pv (.sl (s.shs.map cD)),.pv (.sl (s.sks.map aN))] true false)/\st.t 38=.pv (.sl (s.sks.map aN))/\st.t 39=.pv (Z s.sks.length)/\st.t 40=.pv (Z i)/\st.h 8=none) (by simp[g1,d,f]) ?_;clear g1 d u y z D f hq c;rintro i st hi ⟨g1,d,J,K,L,f⟩;by_cases c:i<s.sks.length
    .have S:=aj c T
     have Q:=VL.1 g _ (Wb c);generalize l:s.sks[i]=v at *
     have j:s.sks[i]?=some v:=by rw[an c,l]
     simp only[kY,An]at Q;have H:=IK s v.1 G;have I:=IK s v.2 G;rw[Q.1]at H;rw[Q.2]at I;exact Gy
    .skip
     exact Gy
   |false=>
    refine Gz ?_;refine WP.loopN [8] s.sks.length (λi st=>st.t 1=.ptr 1 0/\st.h 1=some (.box [.pv (.sl (s.js.map bu)),.pv (.sl (s.ms.map cE)),.pv (.sl (s.shs.map cD)),.pv (.sl (s.sks.map aN))] true false)/\st.t 38=.pv (.sl (s.sks.map aN))/\st.t 39=.pv (Z s.sks.length)/\st.t 40=.pv (Z i)/\st.h 8=none/\∀k x,k<i->s.sks[k]?=some x->kY s.js.length x=true) (by simp[g1,d,f]) ?_;clear g1 d u y z D f hq c;rintro i st hi ⟨g1,d,J,K,L,f,hq⟩;by_cases c:i<s.sks.length
    .have S:=aj c T
     generalize l:s.sks[i]=v at *
     have j:s.sks[i]?=some v:=by rw[an c,l]
     have o:=nE (p:=kY s.js.length) j hq;have H:=IK s v.1 G;have I:=IK s v.2 G;have m:kY s.js.length v=(eL s.js.length v.1&&eL s.js.length v.2):=rfl
     cases b1:eL s.js.length v.1 with
     |false=>
      rw[b1]at H;exact Gy
     |true=>
      rw[b1]at H m
      cases b2:eL s.js.length v.2 with
      |false=>
       rw[b2]at I;exact Gy
      |true=>
       rw[b2]at I m;have E:=o m;refine Gz ?_
       all_goals exact λk a b=>E k (a,b)
    .have:=pD hq c
     rw[this]at g;cases g
def Bm(i:Nat)(j:J):Prop:=(0<=j.kind/\j.kind<=6)/\-1<=j.parent/\j.parent<(i:Int)
def ss(js:List J):Prop:=∀i j,js[i]?=some j->Bm i j
theorem IL{j:J}(h:cZ js i j=0):Bm i j:=by
 unfold cZ at h
 repeat' split at h
 all_goals (try (cases h;done))
 all_goals (try omega)
 refine⟨by omega,by omega,by omega⟩
theorem tj{ms:List Ms}(h:aO js ms=0):ss js/\js.length<=10/\1<=js.length:=by
 unfold aO at h;split at h
 .cases h
 .rename_i n
  split at h
  .rename_i c;exact absurd h c
  .rename_i k
   refine⟨λi j b=>?_,by omega,by omega⟩;have l:=(th.1 b).1
   have a:jT js=0:=by simpa using k
   rw[qc]at a;by_cases d:cZ js i j=0
   .exact IL d
   .exfalso
    cases hf:(js.mapIdx (cZ js)).find? (λe=>e !=0)with
    |none=>
     rw[W7]at hf
     have m:cZ js i j∈js.mapIdx (cZ js):=by
      rw[List.mem_mapIdx];obtain⟨f,g⟩:=th.1 b;exact⟨i,f,by rw[g]⟩
     exact hf _ m (by simpa using d)
    |some e=>
     rw[hf]at a;have:=XK hf;simp only at a;rw[a]at this;simp at this
theorem nU{s:Sce}(h:aY s=0):ss s.js/\s.js.length<=10/\1<=s.js.length/\s.shs.length<=24/\s.sks.length<=64/\(∀x∈s.shs,eL s.js.length x.link=true/\gM x=true)/\∀p∈s.sks,kY s.js.length p=true:=by
 unfold aY at h;split at h
 .rename_i b;exact absurd h b
 .rename_i d
  have d:aO s.js s.ms=0:=by simpa using d
  split at h
  .cases h
  .rename_i o
   split at h
   .rename_i b;exact absurd h b
   .rename_i c
    have c:iO s.js.length s.shs=0:=by simpa using c
    split at h
    .cases h
    .rename_i q
     split at h
     .rename_i m
      obtain⟨a1,a2,a3⟩:=tj d;refine⟨a1,a2,a3,by omega,by omega,λx n=>?_,λp hp=>VL.1 m p hp⟩
      have a:dQ s.js.length x=0:=by
       by_cases a:dQ s.js.length x=0
       .exact a
       .exfalso
        unfold iO at c
        cases hf:(s.shs.map (dQ s.js.length)).find? (λe=>e !=0)with
        |none=>
         rw[W7]at hf;exact hf _ (Wf.2 ⟨x,n,rfl⟩) (by simpa using a)
        |some e=>
         rw[hf]at c;have:=XK hf;simp only at c;rw[c]at this;simp at this
      unfold dQ at a;split at a
      .rename_i f
       split at a
       .rename_i hn
        simp only[An,L4]at f;obtain⟨⟨⟨⟨g,i⟩,j⟩,k⟩,l⟩:=f;refine⟨g,?_⟩;simp only[gM,An,L4];exact⟨⟨⟨⟨i,j⟩,k⟩,l⟩,hn⟩
       .cases a
      .cases a
     .cases h
theorem Sk(a b c d:Int):am prog (Op.equal 78 (.agg #[.int .i64 a,.int .i64 b]) (.agg #[.int .i64 c,.int .i64 d]))=some (a==c&&b==d):=by
 have hf:(prog.fieldsOf 78).toList=[(prog.fieldsOf 78)[0]!,(prog.fieldsOf 78)[1]!]:=by kernel_rfl
 show am prog (Op.equalIn (9999+1) 78 _ _)=_;rw[BK 9999 78 _ _ (by kernel_rfl) (by kernel_rfl),hf]
 have h:=xM (P:=prog) (d:=9999) (xs:=#[.int .i64 a,.int .i64 b]) (ys:=#[.int .i64 c,.int .i64 d]) (f:=(prog.fieldsOf 78)[0]!) (fs:=[(prog.fieldsOf 78)[1]!]) (a:=.int .i64 a) (b:=.int .i64 c) (by decide +kernel) (by kernel_rfl) (by kernel_rfl) (wF 9998 _ .i64 .i64 a c (by kernel_rfl))
  (xM (by decide +kernel) (a:=.int .i64 b) (b:=.int .i64 d) (by kernel_rfl) (by kernel_rfl) (wF 9998 _ .i64 .i64 b d (by kernel_rfl)) HN)
 rw[h];simp
def G2(x y:AV)(fb:Option db):Option db:=match xR x,xR y with
 |some (a,b),some (c,d)=>some (.pv (.val (.bool (a==c&&b==d))),[])
 |_,_=>fb
@[simp] theorem PJ(a b c d:Int)(fb:Option db):G2 (.pv (.val (.agg #[.int .i64 a,.int .i64 b]))) (.pv (.val (.agg #[.int .i64 c,.int .i64 d]))) fb=some (.pv (.val (.bool (a==c&&b==d))),[]):=rfl
@[simp] theorem VH{ty:TypeId}{pos:String}(x y:Operand):
 bL prog ⟨dst,.binOp .eql 78 x y 78,ty,pos,aft,g⟩ ρ=G2 (ρ x) (ρ y) (jI prog ⟨dst,.binOp .eql 78 x y 78,ty,pos,aft,g⟩ ρ):=by
 unfold G2;split
 .rename_i a b c d e f
  exact Al rfl (qZ e) (qZ f) (by kernel_rfl) (Sk a b c d)
 .rfl
def xd(a b:Int)(p:Int×Int):Bool:=(p.1==a&&p.2==b)||(p.1==b&&p.2==a)
def kz(s:Sce)(a b:Int):Bool:=s.sks.any (xd a b)
theorem Kl{v:α}(h:xs[i]?=some v)(hp:p v=true):xs.any p=true:=XX.2 ⟨v,Is h,hp⟩
theorem Km(hq:∀k x,k<i->xs[k]?=some x->p x=false)(h:¬i<xs.length):xs.any p=false:=by
 rw[XN];intro x b;obtain⟨k,a⟩:=Wt b;simp[hq k x (by have:=(th.1 a).1;omega) a]
theorem G3{v:α}(b:xs[i]?=some v)(hq:∀k x,k<i->xs[k]?=some x->p x=false)(hp:p v=false):∀k x,k<i+1->xs[k]?=some x->p x=false:=by
 intro k x c a;by_cases e:k=i
 .subst e;rw[b]at a;injection a with a;subst a;exact hp
 .exact hq k x (by omega) a
theorem Sl(s:Sce)(a b:Int)(y:s.sks.length<=9223372036854775807):mW 191 (eK s) (Z a) (Z b) (B (kz s a b)):=by
 have e:kz s a b=s.sks.any (xd a b):=rfl;rw[e];refine Dp func191 λC hP hN=>?_;refine Gz ?_;refine WP.loopN [8] s.sks.length (λi st=>st.t 1=.pv (Z a)/\st.t 2=.pv (Z b)/\st.t 10=.pv (.sl (s.sks.map aN))/\st.t 11=.pv (Z s.sks.length)/\st.t 12=.pv (Z i)/\st.h 8=none/\∀k x,k<i->s.sks[k]?=some x->xd a b x=false) (by simp) ?_;rintro i st hi ⟨g1,g2,o,q,r,u,hq⟩;by_cases c:i<s.sks.length
 .have A:=aj c y
  generalize g:s.sks[i]=v at *
  have n:s.sks[i]?=some v:=by rw[an c,g]
  have f:=G3 (p:=xd a b) n hq;have m:=Kl (p:=xd a b) n;have hp:xd a b v=((v.1==a&&v.2==b)||(v.1==b&&v.2==a)):=rfl
  cases j:(v.1==a&&v.2==b)with
  |true=>
   rw[j,Bool.true_or]at hp;have z:=m hp;exact Gy
  |false=>
   rw[j,Bool.false_or]at hp
   cases l:(v.1==b&&v.2==a)with
   |true=>
    rw[l]at hp;have z:=m hp;exact Gy
   |false=>
    rw[l]at hp;have d:=f hp;refine Gz ?_
    all_goals exact λk a b=>d k (a,b)
 .have hn:=Km hq c
  exact Gy
def Sm(L:List Int)(i:Nat)(j:J):Int:=if j.lo=j.hi then(L[(j.parent+1).toNat]?).getD 0 else(i:Int)
def qH(js:List J):Nat->List Int
 |0=>[-1]
 |i+1=>match js[i]? with
  |some j=>qH js i++[Sm (qH js i) i j]
  |none=>qH js i
def kZ(js:List J):List Int:=qH js js.length
theorem su{js:List J}:∀i,i<=js.length->(qH js i).length=i+1
 |0,_=>rfl
 |i+1,h=>by
  have a:i<js.length:=by omega
  have ih:=su (js:=js) i (by omega);simp only[qH,an a,V9,ih,WT]
theorem sx{js:List J}{k:Nat}:∀i,k<=i->i<=js.length->∀q,q<=k->(qH js i)[q]?=(qH js k)[q]?
 |0,b,c,q,hq=>by have:k=0:=by omega
                 subst this;rfl
 |i+1,b,c,q,hq=>by
  by_cases e:k=i+1
  .subst e;rfl
  .have a:i<js.length:=by omega
   rw[<-sx i (by omega) (by omega) q hq];simp only[qH,an a];rw[VO (by rw[su i (by omega)];omega)]
theorem FS{j:J}(b:js[i]?=some j)(e:Bm i j):(kZ js)[i+1]?=some (if j.lo=j.hi then((kZ js)[(j.parent+1).toNat]?).getD 0 else(i:Int)):=by
 have f:=(th.1 b).1;obtain⟨_,g,l⟩:=e;have c:(kZ js)[i+1]?=(qH js (i+1))[i+1]?:=sx js.length (k:=i+1) (by omega) (VU _) _ (VU _);have d:(kZ js)[(j.parent+1).toNat]?=(qH js i)[(j.parent+1).toNat]?:=sx js.length (k:=i) (by omega) (VU _) _ (by omega);rw[c,d];have a:=su (js:=js) i (by omega);simp only[qH,b];rw[VR (by omega),a,XU];rfl
theorem Sn(js:List J)(ms:List Ms)(P:ss js)(Y:js.length<=10):bh 190 (gB js ms) (zs (kZ js)):=by
 have S:(kZ js).length=js.length+1:=su _ (VU _);have v:(kZ js)[0]?=some (-1):=sx js.length (k:=0) (by omega) (VU _) 0 (VU _);have B:=λi j(h:js[i]?=some j)=>FS h (P i j h);generalize kZ js=g at *;have W:i64.wrap ((js.length:Int)+1)=((js.length+1:Nat):Int):=(aa (by omega) (by omega)).trans (by omega);refine Dp func190 λC hP hN=>?_;refine GT (f7 W (show(8:Int)*((js.length:Int)+1)<=281474976710656 by omega) (show(js.length:Int)+1<=9223372036854775807 by omega) (show(0:Int)<=(js.length:Int)+1 by omega)) ?_;refine WP.loopN [5] js.length (λi st=>∃R:List Int,st.t 3=.arr 10 (js.length+1)/\st.t 14=.pv (.sl (js.map bu))/\st.t 15=.pv (Z js.length)/\st.t 16=.pv (Z i)/\st.h 5=none/\st.h 10=some (.row 3 1 (R.map Z) 0)/\R.length=js.length+1/\∀k,k<=i->R[k]?=g[k]?) ?_ ?_
 .refine⟨(List.replicate (js.length+1) 0).set 0 (-1),?_⟩
  simp[v,Xs,List.map_replicate]
 rintro i st hi ⟨R,g3,r,s,u,D,l,a,y⟩;by_cases d:i<js.length
 .have V:=aj d (by omega)
  generalize q:js[i]=j at *
  have M:js[i]?=some j:=by rw[an d,q]
  have f:=B i j M;obtain⟨_,T,U⟩:=P i j M;obtain⟨p,hp⟩:∃p:Nat,j.parent+1=p:=⟨(j.parent+1).toNat,by omega⟩;have X:i64.wrap (j.parent+1)=(p:Int):=(aa (by omega) (by omega)).trans hp
  have n:p<=i:=by omega
  have I:p<R.length:=by omega
  have c:i+1<R.length:=by omega
  have b:R[p]?=some R[p]:=an I;have A:R[i+1]?=some R[i+1]:=an c
  have L:((i:Int)+1).toNat=i+1:=by omega
  have F:(0:Int)<=(i:Int)+1:=by omega
  rw[hp]at f
  have K:g[p]?=some R[p]:=by rw[<-y p n];exact b
  rw[V7,K,V5]at f;generalize R[p]=O at *
  have key:∀x,g[i+1]?=some x->∀k,k<=i+1->(R.set (i+1) x)[k]?=g[k]?:=by
   intro x N k Q;rw[VV];by_cases e:i+1=k
   .subst e;rw[VS rfl,VS c,N]
   .rw[VM e];exact y k (by omega)
  have o:((R.map Z).set (i+1) (Z (i:Int)))[p]?=some (Z O):=by rw[VV,VM (by omega),VN,b];rfl
  have G:∀h,((R.map Z).set (i+1) (Z (i:Int)))[p]'h=Z O:=λh=>by
   have:=an h;rw[o]at this;injection this with this;exact this.symm
  by_cases m:j.lo=j.hi
  .rw[VS m]at f
   have E:(j.lo==j.hi)=true:=by simp[m]
   with_reducible repeat' (first|refine Sp.h ?_|((first|refine Ss.h ?_|(refine Sb.h ?_ ?_ ?_<;>(try intro hgd)<;>try exact Xy))<;>simp -implicitDefEqProofs (maxSteps:=2000000) [hP,hN,g3,r,s,u,D,l,d,V,M,q,a,c,n,X,m,A,L,F,b,o,G,show p<js.length+1 by omega])|refine X2 ?_ ?_|(refine Xd ?_ ?_<;>intro hcd<;>try exact Xx))
   all_goals exact⟨R.set (i+1) O,by simp[Xs],by simp[a],key _ f⟩
  .rw[VM m]at f
   have E:(j.lo==j.hi)=false:=by simp[m]
   refine Gz ?_
   all_goals exact⟨R.set (i+1) (i:Int),by simp[Xs],by simp[a],key _ f⟩
 .have H:i=js.length:=by omega
  subst H
  have z:R=g:=by
   apply WA;intro k;by_cases Q:k<=js.length
   .exact y k Q
   .rw[VW (by omega),VW (by omega)]
  subst z;exact Gy
def un(h:Sh):Nat:=(h.link+1).toNat
def Bn(c:List Int)(a b:Sh):Bool:=(c[un a]?).getD 0==(c[un b]?).getD 0
def CE(s:Sce)(a b:Sh):Bool:=!Bn (kZ s.js) a b&& !kz s a.link b.link
def gO(s:Sce)(i q:Nat):Bool:=match s.shs[i]?,s.shs[q]? with
 |some a,some b=>CE s a b
 |_,_=>false
def lB(s:Sce)(i:Nat):Nat->List (Nat×Nat)
 |0=>[]
 |k+1=>lB s i k++(if i<k/\gO s i k=true then[(i,k)]else[])
def jY(s:Sce):Nat->List (Nat×Nat)
 |0=>[]
 |i+1=>jY s i++lB s i s.shs.length
def dD(s:Sce):List (Nat×Nat):=if aY s=0 then jY s s.shs.length else[]
abbrev ri(p:Nat×Nat):PV:=.val (.agg #[.int .i64 (p.1:Int),.int .i64 (p.2:Int)])
theorem Bo(s:Sce)(i:Nat):∀k,k<=i+1->lB s i k=[]
 |0,_=>rfl
 |k+1,h=>by
  have:¬i<k:=by omega
  simp[lB,Bo s i k (by omega),this]
theorem yc(s:Sce)(i:Nat):∀k,(lB s i k).length<=k
 |0=>VU _
 |k+1=>by
  have:=yc s i k;simp only[lB,V9];split<;>simp<;>omega
theorem yd(s:Sce):∀i,(jY s i).length<=i*s.shs.length
 |0=>by simp[jY]
 |i+1=>by
  have:=yd s i;have:=yc s i s.shs.length;simp only[jY,V9,WC];omega
theorem Kn{s:Sce}{h:Sh}(b:eL s.js.length h.link=true):∃x,(kZ s.js)[un h]?=some x/\un h<(kZ s.js).length/\h.link+1=(un h:Int)/\h.link<s.js.length:=by
 simp only[eL,An,L4]at b;have c:(kZ s.js).length=s.js.length+1:=su _ (VU _)
 have a:un h<(kZ s.js).length:=by unfold un;omega
 exact⟨_,an a,a,by unfold un;omega,b.2⟩
theorem So(s:Sce)(hs:ScL s):bh 144 (eK s) (.sl ((dD s).map ri)):=by
 have cc:=Eg s hs;by_cases L:aY s=0
 case neg=>
  have hf:dD s=[]:=by simp[dD,L]
  have a8:(aY s !=0)=true:=by simp[L]
  rw[hf];generalize aY s=r at *;refine Dp func144 λC hP hN=>?_;exact Gy
 have hf:dD s=jY s s.shs.length:=by simp[dD,L]
 rw[hf];rw[L]at cc;obtain⟨v1,v2,v3,v4,v5,v6,v7⟩:=nU L;have cr:=Sn s.js s.ms v1 v2;have T:=λa b=>Sl s a b hs.sks;have N:=λh(hh:h∈s.shs)=>Kn (s:=s) (v6 h hh).1;have a2:∀a b:Sh,CE s a b=(!Bn (kZ s.js) a b&& !kz s a.link b.link):=λ_ _=>rfl;generalize kZ s.js=K at *;have nL:=yd s;have iL:=yc s;refine Dp func144 λC hP hN=>?_;refine sN [4] trivial ?_;refine WP.loopN [6,8] s.shs.length (λi st=>st.t 1=.ptr 1 0/\st.h 1=some (.box [.pv (.sl (s.js.map bu)),.pv (.sl (s.ms.map cE)),.pv (.sl (s.shs.map cD)),.pv (.sl (s.sks.map aN))] true false)/\st.t 3=.pv (zs K)/\st.t 17=.pv (.sl (s.shs.map cD))/\st.t 18=.pv (Z s.shs.length)/\st.t 19=.pv (Z i)/\st.h 6=none/\st.h 8=none/\st.t 4=.arr 4 (jY s i).length/\st.h 4=some (.row 200 2 ((jY s i).map ri) 0)) (by simp[jY]) ?_;rintro i st hi ⟨g1,l,g3,f,g,j,m,n,g4,c⟩;by_cases O:i<s.shs.length
 .have hw:=aj O (by omega)
  generalize a6:s.shs[i]=a at *
  have hx:s.shs[i]?=some a:=by rw[an O,a6]
  obtain⟨xa,p,A,M,ba⟩:=N a (Is hx)
  have D:∀h,K[un a]'h=xa:=λh=>by have:=an h;rw[p]at this;injection this with this;exact this.symm
  have G:jY s (i+1)=jY s i++lB s i s.shs.length:=rfl;have bH:=nL i;have bs:i*s.shs.length<=24*24:=Xg (by omega) (by omega);have H:i64.wrap (a.link+1)=(un a:Int):=(aa (by omega) (by omega)).trans M;have bb:a.link+1=(un a:Int):=M;refine Gz ?_;refine WP.loopN [8] (s.shs.length-(i+1)) (λq st=>st.t 1=.ptr 1 0/\st.h 1=some (.box [.pv (.sl (s.js.map bu)),.pv (.sl (s.ms.map cE)),.pv (.sl (s.shs.map cD)),.pv (.sl (s.sks.map aN))] true false)/\st.t 3=.pv (zs K)/\st.t 17=.pv (.sl (s.shs.map cD))/\st.t 18=.pv (Z s.shs.length)/\st.t 19=.pv (Z i)/\st.t 5=.pv (Z i)/\st.t 6=.ptr 6 0/\st.h 6=some (.box [.pv (Z a.link),.pv (Z a.rad),.pv (aP a.pts)] true false)/\st.h 8=none/\st.t 7=.pv (Z ((i+1+q:Nat):Int))/\st.t 4=.arr 4 (jY s i++lB s i (i+1+q)).length/\st.h 4=some (.row 200 2 ((jY s i++lB s i (i+1+q)).map ri) 0)) (by simp[g1,l,g3,f,g,j,m,n,g4,c,Bo]) ?_;clear g1 l g3 f g j m n g4 c;rintro q st hq ⟨g1,l,g3,f,g,j,g5,U,m,n,R,g4,c⟩;obtain⟨k,hk⟩:∃k,k=i+1+q:=⟨_,rfl⟩
  have ar:i+1+(q+1)=k+1:=by omega
  rw[<-hk]at R g4 c;rw[ar];have V:lB s i (k+1)=lB s i k++(if i<k/\gO s i k=true then[(i,k)]else[]):=rfl;have bq:=iL i k;by_cases x:k<s.shs.length
  .have e:(k:Int)<(s.shs.length:Int):=by omega
   have J:i64.wrap ((k:Int)+1)=(k:Int)+1:=aa;generalize y:s.shs[k]=b at *
   have Q:s.shs[k]?=some b:=by rw[an x,y]
   obtain⟨xb,u,B,X,bc⟩:=N b (Is Q)
   have E:∀h,K[un b]'h=xb:=λh=>by have:=an h;rw[u]at this;injection this with this;exact this.symm
   have I:i64.wrap (b.link+1)=(un b:Int):=(aa (by omega) (by omega)).trans X
   have o:gO s i k=(!Bn K a b&& !kz s a.link b.link):=by simp only[gO,hx,Q,a2]
   have a5:Bn K a b=(xa==xb):=by simp only[Bn,p,u,V5]
   rw[a5]at o;have S:=T a.link b.link
   have Y:i<k:=by omega
   have a7:(jY s i++lB s i k).length<=1000:=by simp only[V9];omega
   generalize z:jY s i++lB s i k=P at *
   have F:q<s.shs.length-(i+1):=by omega
   have W:jY s i++lB s i (k+1)=P++(if gO s i k=true then[(i,k)]else[]):=by
    rw[V,<-W3,z];simp[Y]
   rw[W];generalize kz s a.link b.link=sk at *
   cases v:(xa==xb)with
   |true=>
    rw[v]at o
    have d:gO s i k=false:=by rw[o];rfl
    rw[d]
    with_reducible repeat' (first|refine Sp.h ?_|((first|refine Wd ?_|refine Ss.h ?_|refine Sc.h (S) ?_|(refine Sb.h ?_ ?_ ?_<;>(try intro hgd)<;>try exact Xy))<;>simp -implicitDefEqProofs (maxSteps:=2000000) [hP,hN,g1,l,g3,f,g,j,g5,U,m,n,R,g4,c,x,e,J,Q,y,H,I,p,A,u,B,D,E,v,F]<;>try refine Ya ?_)|refine X2 ?_ ?_|(refine Xd ?_ ?_<;>intro hcd<;>try exact Xx))
   |false=>
    rw[v]at o
    cases sk with
    |true=>
     have d:gO s i k=false:=by rw[o];rfl
     rw[d]
     with_reducible repeat' (first|refine Sp.h ?_|((first|refine Wd ?_|refine Ss.h ?_|refine Sc.h (S) ?_|(refine Sb.h ?_ ?_ ?_<;>(try intro hgd)<;>try exact Xy))<;>simp -implicitDefEqProofs (maxSteps:=2000000) [hP,hN,g1,l,g3,f,g,j,g5,U,m,n,R,g4,c,x,e,J,Q,y,H,I,p,A,u,B,D,E,v,F]<;>try refine Ya ?_)|refine X2 ?_ ?_|(refine Xd ?_ ?_<;>intro hcd<;>try exact Xx))
    |false=>
     have d:gO s i k=true:=by rw[o];rfl
     rw[d]
     with_reducible repeat' (first|refine Sp.h ?_|((first|refine Wd ?_|refine Ss.h ?_|refine Sc.h (S) ?_|(refine Sb.h ?_ ?_ ?_<;>(try intro hgd)<;>try exact Xy))<;>simp -implicitDefEqProofs (maxSteps:=2000000) [hP,hN,g1,l,g3,f,g,j,g5,U,m,n,R,g4,c,x,e,J,Q,y,H,I,p,A,u,B,D,E,v,F,show(P.length+1)*16<=140737488355328 by omega,show P.length<=9223372036854775806 by omega]<;>try refine Ya ?_)|refine X2 ?_ ?_|(refine Xd ?_ ?_<;>intro hcd<;>try exact Xx))
  .have a1:k=s.shs.length:=by omega
   have e:¬(k:Int)<(s.shs.length:Int):=by omega
   rw[a1,<-G]at g4 c;exact Gy
 .have ad:i=s.shs.length:=by omega
  subst ad;exact Gy
theorem Sq(x:Int×Int):bh 243 (aN x) (B (!aw x.1 x.2)):=by
 refine Dp func243 λC hP hN=>?_;have a:=@j7;exact GS trivial
 all_goals (first|(simp_all;done)|((try simp_all)<;>(try omega)<;>grind))
def kA(js:List J)(bx:List Iv):Bool:=decide (bx.length=js.length)&&bj vI bx
theorem Sr(js:List J)(ms:List Ms)(bx:List Iv)(e:js.length<=9223372036854775807)(a:bx.length<=9223372036854775807):aH 192 (gB js ms) (iv bx) (B (kA js bx)):=by
 have cc:=Nl 243 (λx=>!aw x.1 x.2) bx a Sq;have d:(bx.any λx=>!aw x.1 x.2)=!bj vI bx:=Fi vI bx;rw[d]at cc;have hd:kA js bx=(decide (bx.length=js.length)&&bj vI bx):=rfl;rw[hd];generalize bj vI bx=c at *;by_cases h:bx.length=js.length
 .have b:((bx.length:Int)==(js.length:Int))=true:=by simp[h]
  cases c
  all_goals
   refine Dp func192 λC hP hN=>?_;exact Gy
 .have b:((bx.length:Int)==(js.length:Int))=false:=by simp;omega
  refine Dp func192 λC hP hN=>?_;exact Gy
def zP:oI:=((((0,0),(0,0),(0,0)),((0,0),(0,0),(0,0)),((0,0),(0,0),(0,0))),((0,0),(0,0),(0,0)))
def G4(L:List oI)(j:J)(v:Iv):oI:=if j.parent=-1 then mV j v else oJ ((L[j.parent.toNat]?).getD zP) (mV j v)
def kB(js:List J)(bx:List Iv):Nat->List oI
 |0=>[]
 |i+1=>match js[i]?,bx[i]? with
  |some j,some v=>kB js bx i++[G4 (kB js bx i) j v]
  |_,_=>kB js bx i
def iG(js:List J)(bx:List Iv):List oI:=kB js bx js.length
theorem k8{js:List J}{bx:List Iv}(c:bx.length=js.length):∀i,i<=js.length->(kB js bx i).length=i
 |0,_=>rfl
 |i+1,h=>by
  have b:i<js.length:=by omega
  have a:i<bx.length:=by omega
  have ih:=k8 c i (by omega);simp only[kB,an b,an a,V9,ih,WT]
theorem vE{js:List J}{bx:List Iv}(c:bx.length=js.length){k:Nat}:∀i,k<=i->i<=js.length->∀q,q<k->(kB js bx i)[q]?=(kB js bx k)[q]?
 |0,d,f,q,hq=>by omega
 |i+1,d,f,q,hq=>by
  by_cases e:k=i+1
  .subst e;rfl
  .have b:i<js.length:=by omega
   have a:i<bx.length:=by omega
   rw[<-vE c i (by omega) (by omega) q hq];simp only[kB,an b,an a];rw[VO (by rw[k8 c i (by omega)];omega)]
theorem Eh{bx:List Iv}(c:bx.length=js.length){j:J}{v:Iv}(d:js[i]?=some j)(o:bx[i]?=some v)(g:Bm i j):(iG js bx)[i]?=some (if j.parent=-1 then mV j v else oJ (((iG js bx)[j.parent.toNat]?).getD zP) (mV j v)):=by
 have l:=(th.1 d).1;obtain⟨_,m,n⟩:=g;have e:(iG js bx)[i]?=(kB js bx (i+1))[i]?:=vE c js.length (k:=i+1) (by omega) (VU _) _ (by omega);rw[e];have a:=k8 c i (by omega);simp only[kB,d,o];rw[VR (by omega),a,XU];show some (G4 (kB js bx i) j v)=_;unfold G4;by_cases b:j.parent=-1
 .rw[VS b,VS b]
 .rw[VM b,VM b]
  have f:(iG js bx)[j.parent.toNat]?=(kB js bx i)[j.parent.toNat]?:=vE c js.length (k:=i) (by omega) (VU _) _ (by omega);rw[f]
theorem Mx:cK zP=.val (.agg #[.int .i64 0,.int .i64 0,.int .i64 0,.int .i64 0,.int .i64 0,.int .i64 0,.int .i64 0,.int .i64 0,.int .i64 0,.int .i64 0,.int .i64 0,.int .i64 0,.int .i64 0,.int .i64 0,.int .i64 0,.int .i64 0,.int .i64 0,.int .i64 0,.int .i64 0,.int .i64 0,.int .i64 0,.int .i64 0,.int .i64 0,.int .i64 0]):=rfl
theorem My:bR bB=.val (.agg #[.int .i64 0,.int .i64 0,.int .i64 0,.int .i64 0,.int .i64 0,.int .i64 0]):=rfl
theorem qj{R:List PV}{x:PV}(h:R[k]?=some x):∀a,R[k]'a=x:=λa=>by
 have:=an a;rw[h]at this;injection this with this;exact this.symm
set_option maxRecDepth 4000 in
theorem Su(js:List J)(ms:List Ms)(bx:List Iv)(hj:ss js)(hl:js.length<=10)(hb:bx.length=js.length):aH 193 (gB js ms) (iv bx) (.sl ((iG js bx).map cK)):=by
 have X:(iG js bx).length=js.length:=k8 hb _ (VU _);have a1:=λi j v(T:js[i]?=some j)(W:bx[i]?=some v)=>Eh hb T W (hj i j T);generalize iG js bx=m at *;generalize G:m.map cK=B at *
 have b0:B.length=js.length:=by rw[<-G];simpa using X
 have I:∀k p,m[k]?=some p->B[k]?=some (cK p):=λk p h=>by rw[<-G,VN,h];rfl
 refine Dp func193 λC hP hN=>?_;refine GT (gA (show(192:Int)*(js.length:Int)<=281474976710656 by omega) (show(js.length:Int)<=9223372036854775807 by omega)) ?_;refine WP.loopN [7] js.length (λi st=>∃R:List PV,st.t 1=.pv (iv bx)/\st.t 5=.arr 11 js.length/\st.t 13=.pv (.sl (js.map bu))/\st.t 14=.pv (Z js.length)/\st.t 15=.pv (Z i)/\st.h 7=none/\st.h 11=some (.row 247 24 R 0)/\R.length=js.length/\(∀k,i<=k->k<js.length->R[k]?=some (cK zP))/\∀k,k<i->R[k]?=B[k]?) ?_ ?_
 .refine⟨List.replicate js.length (cK zP),?_⟩
  rw[Mx];simp
  try (intro k U;first|exact U|simp[Wn,U])
 rintro i st hi ⟨R,g1,g5,D,E,F,M,l,c,K,Y⟩;by_cases d:i<js.length
 .have hw:=aj d (by omega)
  generalize u:js[i]=j at *
  have V:js[i]?=some j:=by rw[an d,u]
  have f:i<bx.length:=by omega
  generalize s:bx[i]=v at *
  have hv:bx[i]?=some v:=by rw[an f,s]
  obtain⟨⟨a5,a6⟩,b1,b2⟩:=hj i j V;have cj:=Si (a:=v.1) (b:=v.2) j a5 a6;have L:=a1 i j v V hv;have n:=K i (VU _) d;have N:=qj n
  have O:i<R.length:=by omega
  generalize hq:mV j (v.1,v.2)=q at *
  have key:∀x,m[i]?=some x->(∀k,i+1<=k->k<js.length->(R.set i (cK x))[k]?=some (cK zP))/\∀k,k<i+1->(R.set i (cK x))[k]?=B[k]?:=by
   intro x bH;refine⟨λk T W=>?_,λk T=>?_⟩
   .rw[VV,VM (by omega)];exact K k (by omega) W
   .rw[VV]
    by_cases e:i=k
    .subst e;rw[VS rfl,VS O,I i x bH]
    .rw[VM e];exact Y k (by omega)
  have Q:(R.set i (cK q))[i]?=some (cK q):=by rw[VV,VS rfl,VS O]
  have bc:=qj Q;have bq:∀y,(R.set i (cK q)).set i y=R.set i y:=λy=>List.set_set ..;by_cases A:j.parent=-1
  .rw[VS A]at L
   obtain⟨z,g⟩:=key q L
   have o:(j.parent==-1)=true:=by simp[A]
   have r:(j.parent != -1)=false:=by simp[A]
   refine GT (s7 g1 g5 D E F M l c d f hw V u hv (f8 s n N o r)) ?_
   all_goals first|exact⟨_,rfl,by simp[c],z,g⟩|exact⟨z,g⟩|exact⟨by simp[c],z,g⟩|exact g
  .rw[VM A]at L
   obtain⟨p,hp⟩:∃p:Nat,j.parent=p:=⟨j.parent.toNat,by omega⟩
   have o:(j.parent==-1)=false:=by simp[A]
   have r:(j.parent != -1)=true:=by simp[A]
   have a7:(0:Int)<=j.parent:=by omega
   have P:j.parent.toNat=p:=by omega
   have a8:p<i:=by omega
   have bb:p<m.length:=by omega
   have H:m[p]?=some m[p]:=an bb;rw[P,H,V5]at L;have ar:=(Y p a8).trans (I p _ H);generalize m[p]=pp at *;obtain⟨z,g⟩:=key _ L
   have S:(R.set i (cK q))[p]?=some (cK pp):=by rw[VV,VM (by omega)];exact ar
   have bs:=qj S
   have ba:p<js.length:=by omega
   have q1:=@wZ;refine GT (s7 g1 g5 D E F M l c d f hw V u hv (s6 s n N a7 P o r Q bc bq S (gA bs ba))) ?_
   all_goals first|exact⟨_,rfl,by simp[c],z,g⟩|exact⟨z,g⟩|exact⟨by simp[c],z,g⟩|exact g
 .have a2:i=js.length:=by omega
  subst a2
  have ad:R=B:=by
   apply WA;intro k;by_cases U:k<js.length
   .exact Y k U
   .rw[VW (by omega),VW (by omega)]
  subst ad;exact Gy
def eR(h:Sh)(p:oI):List aq:=h.pts.map λq=>iW p (dZ q)
set_option maxRecDepth 4000 in
theorem Sv(h:Sh)(p:oI)(hs:gM h=true):aH 195 (cD h) (cK p) (aF (eR h p)):=by
 have J:1<=h.pts.length/\h.pts.length<=8:=by
  simp only[gM,An,L4]at hs;obtain⟨⟨⟨_,b3⟩,b4⟩,_⟩:=hs;exact⟨b3,b4⟩
 have cc:=Sj h (by omega);rw[hs]at cc;have E:eR h p=h.pts.map λq=>iW p (dZ q):=rfl;rw[E];generalize a:(h.pts.map λq=>iW p (dZ q)).map bR=f
 have N:f.length=h.pts.length:=by rw[<-a];simp
 have g:∀k q,h.pts[k]?=some q->f[k]?=some (bR (iW p (dZ q))):=λk q d=>by rw[<-a,VN,VN,d];rfl
 refine Dp func195 λC hP hN=>?_;refine GT (gA (show(48:Int)*(h.pts.length:Int)<=281474976710656 by omega) (show(h.pts.length:Int)<=9223372036854775807 by omega)) ?_;refine WP.loopN [7] h.pts.length (λi st=>∃R:List PV,st.t 3=.ptr 3 0/\st.h 3=some (.box [.pv (Z p.1.1.1.1),.pv (Z p.1.1.1.2),.pv (Z p.1.1.2.1.1),.pv (Z p.1.1.2.1.2),.pv (Z p.1.1.2.2.1),.pv (Z p.1.1.2.2.2),.pv (Z p.1.2.1.1.1),.pv (Z p.1.2.1.1.2),.pv (Z p.1.2.1.2.1.1),.pv (Z p.1.2.1.2.1.2),.pv (Z p.1.2.1.2.2.1),.pv (Z p.1.2.1.2.2.2),.pv (Z p.1.2.2.1.1),.pv (Z p.1.2.2.1.2),.pv (Z p.1.2.2.2.1.1),.pv (Z p.1.2.2.2.1.2),.pv (Z p.1.2.2.2.2.1),.pv (Z p.1.2.2.2.2.2),.pv (Z p.2.1.1),.pv (Z p.2.1.2),.pv (Z p.2.2.1.1),.pv (Z p.2.2.1.2),.pv (Z p.2.2.2.1),.pv (Z p.2.2.2.2)] true false)/\st.t 5=.arr 14 h.pts.length/\st.t 16=.pv (aP h.pts)/\st.t 17=.pv (Z h.pts.length)/\st.t 18=.pv (Z i)/\st.h 7=none/\st.h 14=some (.row 216 6 R 0)/\R.length=h.pts.length/\(∀k,i<=k->k<h.pts.length->R[k]?=some (bR bB))/\∀k,k<i->R[k]?=f[k]?) ?_ ?_
 .refine⟨List.replicate h.pts.length (bR bB),?_⟩
  rw[My];simp
  try (intro k d;first|exact d|simp[Wn,d])
 rintro i st hi ⟨R,g3,x,g5,r,s,u,z,m,c,l,I⟩;by_cases b:i<h.pts.length
 .have O:=aj b (by omega)
  generalize n:h.pts[i]=q at *
  have K:h.pts[i]?=some q:=by rw[an b,n]
  have j:=l i (VU _) b;have A:=qj j
  have B:i<R.length:=by omega
  have H:=Kh q.1 q.2.1 q.2.2;have F:dZ (q.1,q.2.1,q.2.2)=dZ q:=rfl;rw[F]at H
  have G:∀y k,i+1<=k->k<h.pts.length->(R.set i y)[k]?=some (bR bB):=λy k L M=>by
   rw[VV,VM (by omega)];exact l k (by omega) M
  have o:∀k,k<i+1->(R.set i (bR (iW p (dZ q))))[k]?=f[k]?:=λk L=>by
   rw[VV];by_cases e:i=k
   .subst e;rw[VS rfl,VS B,g i q K]
   .rw[VM e];exact I k (by omega)
  clear g a;generalize dZ q=P at *
  with_reducible repeat' (first|refine Sp.h ?_|((first|refine Wd ?_|refine Ss.h ?_|refine Sc.h (H) ?_|refine Sc.h (R0) ?_|(refine Sb.h ?_ ?_ ?_<;>(try intro hgd)<;>try exact Xy))<;>simp -implicitDefEqProofs (maxSteps:=2000000) [hP,hN,g3,x,g5,r,s,u,z,m,c,b,O,K,n,j,A]<;>try refine Ya ?_)|refine X2 ?_ ?_|(refine Xd ?_ ?_<;>intro hcd<;>try exact Xx))
  all_goals first|exact⟨_,rfl,by simp[c],G _,o⟩|exact⟨G _,o⟩|exact⟨by simp[c],G _,o⟩|exact o
 .have D:i=h.pts.length:=by omega
  subst D
  have v:R=f:=by
   apply WA;intro k;by_cases d:k<h.pts.length
   .exact I k d
   .rw[VW (by omega),VW (by omega)]
  subst v;exact Gy
  all_goals (rw[<-a];simp)
def iH(a:List oI)(h:Sh):oI:=if h.link=-1 then ig else(a[h.link.toNat]?).getD zP
def fO(s:Sce)(bx:List Iv):List (List aq):=s.shs.map λh=>eR h (iH (iG s.js bx) h)
theorem vF{bx:List Iv}:kA js bx=true↔bx.length=js.length/\bj vI bx=true:=by simp[kA]
set_option maxRecDepth 4000 in
theorem Sw(s:Sce)(bx:List Iv)(hs:ScL s)(h0:aY s=0)(J:kA s.js bx=true):aH 145 (eK s) (iv bx) (.sl ((fO s bx).map aF)):=by
 have cc:=Eg s hs;rw[h0]at cc;obtain⟨v1,v2,v3,v4,v5,v6,v7⟩:=nU h0;have I:=(vF.1 J).1;have cb:=Sr s.js s.ms bx hs.js (by omega);rw[J]at cb;have cl:=Su s.js s.ms bx v1 v2 I;have ad:(iG s.js bx).length=s.js.length:=k8 I _ (VU _);have L:fO s bx=s.shs.map λh=>eR h (iH (iG s.js bx) h):=rfl;rw[L];generalize iG s.js bx=a at *;generalize f:(s.shs.map λh=>eR h (iH a h)).map aF=x
 have ar:x.length=s.shs.length:=by rw[<-f];simp
 have E:∀k h,s.shs[k]?=some h->x[k]?=some (aF (eR h (iH a h))):=λk q u=>by rw[<-f,VN,VN,u];rfl
 refine Dp func145 λC hP hN=>?_;refine GT (gA (show(24:Int)*(s.shs.length:Int)<=281474976710656 by omega) (show(s.shs.length:Int)<=9223372036854775807 by omega)) ?_;refine WP.loopN [8,9] s.shs.length (λi st=>∃R:List PV,st.t 5=.pv (.sl (a.map cK))/\st.t 6=.arr 27 s.shs.length/\st.t 29=.pv (.sl (s.shs.map cD))/\st.t 30=.pv (Z s.shs.length)/\st.t 31=.pv (Z i)/\st.h 8=none/\st.h 9=none/\st.h 27=some (.row 153 1 R 0)/\R.length=s.shs.length/\(∀k,i<=k->k<s.shs.length->R[k]?=some (.val (.slice none 0 0)))/\∀k,k<i->R[k]?=x[k]?) ?_ ?_
 .refine⟨List.replicate s.shs.length (.val (.slice none 0 0)),?_⟩
  simp
  try (intro k u;first|exact u|simp[Wn,u])
 rintro i st hi ⟨R,g5,Y,z,A,B,G,H,g,b,F,hR⟩;by_cases c:i<s.shs.length
 .have hw:=aj c (by omega)
  generalize o:s.shs[i]=h at *
  have N:s.shs[i]?=some h:=by rw[an c,o]
  have hm:=Is N;obtain⟨T,W⟩:=v6 h hm;simp only[eL,An,L4]at T;have j:=F i (VU _) c;have K:=qj j
  have Q:i<R.length:=by omega
  have X:=λp=>Sv h p W
  have v:∀y k,i+1<=k->k<s.shs.length->(R.set i y)[k]?=some (.val (.slice none 0 0)):=λy k h1 h2=>by
   rw[VV,VM (by omega)];exact F k (by omega) h2
  have d:∀k,k<i+1->(R.set i (aF (eR h (iH a h))))[k]?=x[k]?:=λk h1=>by
   rw[VV];by_cases e:i=k
   .subst e;rw[VS rfl,VS Q,E i h N]
   .rw[VM e];exact hR k (by omega)
  clear E f L;by_cases r:h.link=-1
  .have l:(h.link==-1)=true:=by simp[r]
   have m:(h.link != -1)=false:=by simp[r]
   have n:iH a h=ig:=by simp[iH,r]
   rw[n]at d;have O:=X ig;generalize eR h ig=pl at *;have q1:=@Ki;refine GT (s7 g5 Y z A B G H g b c hw N o j (be K l m)) ?_
   all_goals first|exact⟨_,rfl,by simp[b],v _,d⟩|exact⟨v _,d⟩|exact⟨by simp[b],v _,d⟩|exact d
  .have l:(h.link==-1)=false:=by simp[r]
   have m:(h.link != -1)=true:=by simp[r]
   have U:(0:Int)<=h.link:=by omega
   obtain⟨p,hp⟩:∃p:Nat,h.link.toNat=p:=⟨_,rfl⟩
   have M:p<a.length:=by omega
   have D:a[p]?=some a[p]:=an M
   have n:iH a h=a[p]:=by simp only[iH,VM r,hp,D,V5]
   have a1:∀hh,a[p]'hh=a[p]:=λ_=>rfl;rw[n]at d;generalize V:a[p]=pp at *;have O:=X pp;generalize eR h pp=pl at *;have q1:=@Ki;refine GT (s7 g5 Y z A B G H g b c hw N o j (so K l m U hp M D V)) ?_
   all_goals first|exact⟨_,rfl,by simp[b],v _,d⟩|exact⟨v _,d⟩|exact⟨by simp[b],v _,d⟩|exact d
 .have S:i=s.shs.length:=by omega
  subst S
  have P:R=x:=by
   apply WA;intro k;by_cases u:k<s.shs.length
   .exact hR k u
   .rw[VW (by omega),VW (by omega)]
  subst P;exact Gy
  all_goals (rw[<-f];simp)
def tn(v:aq)(k:Nat):Vc:=(if 0<k then mG v.1 else 0,if 1<k then mG v.2.1 else 0,if 2<k then mG v.2.2 else 0)
theorem FT(l:List aq)(W:l.length<=9223372036854775807):bh 97 (aF l) (aP (aA l)):=by
 have Q:=vD l W
 cases hp:ay l with
 |false=>
  have M:aA l=[]:=by simp[aA,hp]
  rw[M];rw[hp]at Q;refine Dp func97 λC hP hN=>?_;exact Gy
 |true=>
 have M:aA l=l.map jK:=by simp[aA,hp]
 rw[M];rw[hp]at Q;simp only[ay,An,L4]at hp;obtain⟨⟨X,Y⟩,ad⟩:=hp;generalize z:(l.map jK).map ao=B
 have V:B.length=l.length:=by rw[<-z];simp
 have D:∀k h,l[k]?=some h->B[k]?=some (ao (jK h)):=λk q u=>by rw[<-z,VN,VN,u];rfl
 refine Dp func97 λC hP hN=>?_;refine GT (gA (show(24:Int)*(l.length:Int)<=281474976710656 by omega) (show(l.length:Int)<=9223372036854775807 by omega)) ?_;refine WP.loopN [5,7] l.length (λi st=>∃R:List PV,st.t 3=.arr 13 l.length/\st.t 14=.pv (aF l)/\st.t 15=.pv (Z l.length)/\st.t 16=.pv (Z i)/\st.h 5=none/\st.h 7=none/\st.h 13=some (.row 68 3 R 0)/\R.length=l.length/\(∀k,i<=k->k<l.length->R[k]?=some (ow 0 0 0))/\∀k,k<i->R[k]?=B[k]?) ?_ ?_
 .refine⟨List.replicate l.length (ow 0 0 0),?_⟩
  simp
  try (intro k u;first|exact u|simp[Wn,u])
 rintro i st hi ⟨R,g3,g,j,m,F,n,f,L,E,S⟩;by_cases o:i<l.length
 .have hw:=aj o (by omega)
  generalize O:l[i]=v at *
  have hx:l[i]?=some v:=by rw[an o,O]
  have K:=E i (VU _) o;have I:=D i v hx;clear D;refine Gz ?_;refine WP.loopN [7] 3 (λk st=>∃p:List PV,st.t 3=.arr 13 l.length/\st.t 4=.pv (Z i)/\st.t 14=.pv (aF l)/\st.t 15=.pv (Z l.length)/\st.t 16=.pv (Z i)/\st.t 21=.pv (bR v)/\st.t 22=.pv (Z k)/\st.h 7=none/\st.h 13=some (.row 68 3 p 0)/\p.length=l.length/\p[i]?=some (ow (tn v k).1 (tn v k).2.1 (tn v k).2.2)/\∀q,q≠i->p[q]?=R[q]?) ?_ ?_
  .refine⟨R,?_⟩
   simp[g3,g,j,m,F,n,f,L,K,tn]
  clear g3 g j m F n f;rintro k st u ⟨p,g3,g4,g,j,m,x,r,n,f,c,d,A⟩;have s:=qj d
  have G:i<p.length:=by omega
  have b:∀y,(p.set i y)[i]?=some y:=λy=>by rw[VV,VS rfl,VS G]
  have a:∀y q,q≠i->(p.set i y)[q]?=R[q]?:=λy q hq=>by rw[VV,VM (λe=>hq e.symm)];exact A q hq
  rcases eJ u with rfl|rfl|rfl|rfl
  all_goals (simp[tn]at d s r)
  .skip
   with_reducible repeat' (first|refine Sp.h ?_|((first|refine Wd ?_|refine Ss.h ?_|refine Sc.h (Kk) ?_|(refine Sb.h ?_ ?_ ?_<;>(try intro hgd)<;>try exact Xy))<;>simp -implicitDefEqProofs (maxSteps:=2000000) [hP,hN,g3,g4,g,j,m,x,r,n,f,c,d,s,o,tn,b]<;>try refine Ya ?_)|refine X2 ?_ ?_|(refine Xd ?_ ?_<;>intro hcd<;>try exact Xx))
   all_goals first|exact⟨_,rfl,by simp[c],b _,a _⟩|exact⟨by simp[c],b _,a _⟩|exact⟨b _,a _⟩|exact λq hq=>a _ q hq
  .skip
   with_reducible repeat' (first|refine Sp.h ?_|((first|refine Wd ?_|refine Ss.h ?_|refine Sc.h (Kk) ?_|(refine Sb.h ?_ ?_ ?_<;>(try intro hgd)<;>try exact Xy))<;>simp -implicitDefEqProofs (maxSteps:=2000000) [hP,hN,g3,g4,g,j,m,x,r,n,f,c,d,s,o,tn,b]<;>try refine Ya ?_)|refine X2 ?_ ?_|(refine Xd ?_ ?_<;>intro hcd<;>try exact Xx))
   all_goals first|exact⟨_,rfl,by simp[c],b _,a _⟩|exact⟨by simp[c],b _,a _⟩|exact⟨b _,a _⟩|exact λq hq=>a _ q hq
  .skip
   with_reducible repeat' (first|refine Sp.h ?_|((first|refine Wd ?_|refine Ss.h ?_|refine Sc.h (Kk) ?_|(refine Sb.h ?_ ?_ ?_<;>(try intro hgd)<;>try exact Xy))<;>simp -implicitDefEqProofs (maxSteps:=2000000) [hP,hN,g3,g4,g,j,m,x,r,n,f,c,d,s,o,tn,b]<;>try refine Ya ?_)|refine X2 ?_ ?_|(refine Xd ?_ ?_<;>intro hcd<;>try exact Xx))
   all_goals first|exact⟨_,rfl,by simp[c],b _,a _⟩|exact⟨by simp[c],b _,a _⟩|exact⟨b _,a _⟩|exact λq hq=>a _ q hq
  .have P:∀k,i+1<=k->k<l.length->p[k]?=some (ow 0 0 0):=λk T U=>by rw[A k (by omega)];exact E k (by omega) U
   have H:∀k,k<i+1->p[k]?=B[k]?:=λk T=>by
    by_cases e:k=i
    .subst e;rw[I,d];rfl
    .rw[A k e];exact S k (by omega)
   refine Gz ?_
   all_goals first|exact⟨_,rfl,c,P,H⟩|exact⟨c,P,H⟩|exact⟨P,H⟩|exact H
 .have N:i=l.length:=by omega
  subst N
  have J:R=B:=by
   apply WA;intro k;by_cases u:k<l.length
   .exact S k u
   .rw[VW (by omega),VW (by omega)]
  subst J;exact Gy
  all_goals (rw[<-z];simp)
set_option maxRecDepth 100000 in
@[simp] theorem Ry:fC prog 146:=by
 have hf:=func146;have nt:=ntmps146;have rs:=results146;exact BL
set_option maxRecDepth 100000 in
@[simp] theorem Rz:fC prog 252:=by
 have hf:=func252;have nt:=ntmps252;have rs:=results252;exact BL
def aC(l:List Vc):Nat->Vc
 |0=>(0,0,0)
 |i+1=>match l[i]? with
  |some p=>((aC l i).1+p.1,(aC l i).2.1+p.2.1,(aC l i).2.2+p.2.2)
  |none=>aC l i
theorem jX{l:List Vc}(d:l.all (aB 268435456)=true):∀i:Nat,fy ((i:Int)*268435456) (aC l i)
 |0=>by simp[aC,fy]
 |i+1=>by
  obtain⟨e,f,i3⟩:=jX d i;simp only[aC];split
  .rename_i p hp
   obtain⟨a,b,c⟩:=eQ (VL.1 d p (Is hp));exact⟨⟨by simp only;omega,by simp only;omega⟩,⟨by simp only;omega,by simp only;omega⟩,⟨by simp only;omega,by simp only;omega⟩⟩
  .exact⟨⟨by omega,by omega⟩,⟨by omega,by omega⟩,⟨by omega,by omega⟩⟩
def vp(s p:Vc)(j:Nat):List AV:=[.pv (Z (if 0<j then s.1+p.1 else s.1)),.pv (Z (if 1<j then s.2.1+p.2.1 else s.2.1)),.pv (Z (if 2<j then s.2.2+p.2.2 else s.2.2))]
theorem N1(l:List Vc)(h8:l.length<=8)(q:l.all (aB 268435456)=true):bh 253 (aP l) (ao (aC l l.length)):=by
 refine Dp func253 λC hP hN=>?_;refine Gz ?_;refine WP.loopN [5] l.length (λi st=>st.t 2=.ptr 2 0/\st.h 2=some (.box [.pv (Z 0),.pv (Z 0),.pv (Z 0)] true false)/\st.t 3=.ptr 3 0/\st.h 3=some (.box [.pv (Z (aC l i).1),.pv (Z (aC l i).2.1),.pv (Z (aC l i).2.2)] true false)/\st.t 7=.pv (aP l)/\st.t 8=.pv (Z l.length)/\st.t 9=.pv (Z i)/\st.h 5=none) (by simp[aC]) ?_;rintro i st hi ⟨g2,b,g3,a,e,f,g,c⟩;by_cases m:i<l.length
 .have y:=aj m (by omega)
  generalize o:l[i]=p at *
  have r:l[i]?=some p:=by rw[an m,o]
  have z:=jX q (i+1);have hp:=eQ (VL.1 q p (Is r))
  have hS:aC l (i+1)=((aC l i).1+p.1,(aC l i).2.1+p.2.1,(aC l i).2.2+p.2.2):=by simp only[aC,r]
  generalize aC l i=S at *;generalize aC l (i+1)=A at *;subst hS;obtain⟨s,u,v⟩:=z;simp only at s u v;have v1:i64.wrap (S.1+p.1)=S.1+p.1:=aa;have v2:i64.wrap (S.2.1+p.2.1)=S.2.1+p.2.1:=aa;have v3:i64.wrap (S.2.2+p.2.2)=S.2.2+p.2.2:=aa;clear s u v hp;have k:[AV.pv (Z S.1),AV.pv (Z S.2.1),AV.pv (Z S.2.2)]=vp S p 0:=rfl;rw[k]at a;refine Gz ?_;refine WP.loopN [] 3 (λj st=>st.t 2=.ptr 2 0/\st.h 2=some (.box [.pv (Z 0),.pv (Z 0),.pv (Z 0)] true false)/\st.t 3=.ptr 3 0/\st.h 3=some (.box (vp S p j) true false)/\st.t 5=.ptr 5 0/\st.h 5=some (.box [.pv (Z p.1),.pv (Z p.2.1),.pv (Z p.2.2)] true false)/\st.t 7=.pv (aP l)/\st.t 8=.pv (Z l.length)/\st.t 9=.pv (Z i)/\st.t 13=.pv (Z j)) (by simp[g2,b,g3,e,f,g,a,vp]) ?_;clear g2 b g3 e f g a c;rintro j st x ⟨g2,b,g3,a,g5,c,e,f,g,d⟩;rcases eJ x with rfl|rfl|rfl|rfl
  all_goals (simp[vp]at a d)
  .skip
   with_reducible repeat' (first|refine Sp.h ?_|((first|refine Wd ?_|refine Ss.h ?_|(refine Sb.h ?_ ?_ ?_<;>(try intro hgd)<;>try exact Xy))<;>simp -implicitDefEqProofs (maxSteps:=2000000) [hP,hN,g2,b,g3,a,g5,c,e,f,g,d,v1,vp]<;>try refine Ya ?_)|refine X2 ?_ ?_|(refine Xd ?_ ?_<;>intro hcd<;>try exact Xx))
  .skip
   with_reducible repeat' (first|refine Sp.h ?_|((first|refine Wd ?_|refine Ss.h ?_|(refine Sb.h ?_ ?_ ?_<;>(try intro hgd)<;>try exact Xy))<;>simp -implicitDefEqProofs (maxSteps:=2000000) [hP,hN,g2,b,g3,a,g5,c,e,f,g,d,v2,vp]<;>try refine Ya ?_)|refine X2 ?_ ?_|(refine Xd ?_ ?_<;>intro hcd<;>try exact Xx))
  .skip
   with_reducible repeat' (first|refine Sp.h ?_|((first|refine Wd ?_|refine Ss.h ?_|(refine Sb.h ?_ ?_ ?_<;>(try intro hgd)<;>try exact Xy))<;>simp -implicitDefEqProofs (maxSteps:=2000000) [hP,hN,g2,b,g3,a,g5,c,e,f,g,d,v3,vp]<;>try refine Ya ?_)|refine X2 ?_ ?_|(refine Xd ?_ ?_<;>intro hcd<;>try exact Xx))
  .skip
   exact Gy
 .have n:i=l.length:=by omega
  subst n;exact Gy
abbrev kU:List Vc:=[(1,0,0),(-1,0,0),(0,1,0),(0,-1,0),(0,0,1),(0,0,-1)]
theorem RC:Cn 200 (aP kU):=by
 refine Dp func200 λC hP hN=>?_;exact Gy
theorem lU{l:List aq}:(aA l).all (aB 268435456)=true:=by
 unfold aA;split
 .rename_i h
  have hp:=(bZ h).1;rw[VL]at hp|-;intro x e;obtain⟨v,g,rfl⟩:=Wf.1 e;have f:=hp v g;rw[gE]at f;obtain⟨a,b,c⟩:=f
  have d:∀x:Iv,dM x=true->gC (mG x) 268435456=true:=λx e=>by
   rw[gh]at e;rw[bp];unfold mG;split<;>omega
  rw[cT];exact⟨d _ a,d _ b,d _ c⟩
 .rfl
theorem gD{l:List aq}(h:ay l=true):(aA l).length=l.length:=by simp[aA,h]
def lA(a b:List aq):Vc:=((aC (aA a) a.length).1*b.length-(aC (aA b) b.length).1*a.length,(aC (aA a) a.length).2.1*b.length-(aC (aA b) b.length).2.1*a.length,(aC (aA a) a.length).2.2*b.length-(aC (aA b) b.length).2.2*a.length)
def kV(a b:List aq):Vc:=if ay a&&ay b then bF (lA a b)else(0,0,0)
def mj(a b:List aq):Bool:=ay a&&ay b&&nz (bF (lA a b))
theorem GO{l:List aq}(h:ay l=true):fy 2147483648 (aC (aA l) l.length):=by
 have a:=jX (lU (l:=l)) l.length;have b:=(bZ h).2.1;exact jV a (by omega)
theorem FG{a b:List aq}(f:ay a=true)(g:ay b=true):fy 1099511627776 (lA a b):=by
 obtain⟨i,j,k⟩:=GO f;obtain⟨t1,t2,t3⟩:=GO g;have c:=(bZ f).2.1;have d:=(bZ g).2.1
 have e:∀x:Int,-2147483648<=x/\x<=2147483648->∀n:Nat,n<=8->-17179869184<=x*n/\x*n<=17179869184:=λx l n hn=>by
  have:=bS (a:=x) (b:=(n:Int)) 2147483648 8 (by omega) (by omega) (by omega) (by omega);omega
 have a1:=e _ i _ d;have a2:=e _ j _ d;have a3:=e _ k _ d;have b1:=e _ t1 _ c;have b2:=e _ t2 _ c;have b3:=e _ t3 _ c;unfold lA;exact⟨by simp only;omega,by simp only;omega,by simp only;omega⟩
def FH(v:Vc)(j:Nat):List AV:=[.pv (Z (if 0<j then v.1 else 0)),.pv (Z (if 1<j then v.2.1 else 0)),.pv (Z (if 2<j then v.2.2 else 0))]
theorem RD(a b:List aq)(K:a.length<=9223372036854775807)(L:b.length<=9223372036854775807):aH 199 (aF a) (aF b) (.tup [ao (kV a b),B (mj a b)]):=by
 have I:=vD a K;have J:=vD b L
 have hN:kV a b=if ay a&&ay b then bF (lA a b)else(0,0,0):=rfl
 have R:mj a b=(ay a&&ay b&&nz (bF (lA a b))):=rfl;rw[hN,R]
 cases c:ay a with
 |false=>
  rw[c]at I;refine Dp func199 λC hP hN=>?_;exact Gy
 |true=>
 rw[c]at I
 cases d:ay b with
 |false=>
  rw[d]at J;refine Dp func199 λC hP hN=>?_;exact Gy
 |true=>
 rw[d]at J;have c1:=FT a K;have c2:=FT b L;have P:=N1 (aA a) (by rw[gD c];exact(bZ c).2.1) lU;have Q:=N1 (aA b) (by rw[gD d];exact(bZ d).2.1) lU;rw[gD c]at P;rw[gD d]at Q;have v:=FG c d;have c5:=Ok (lA a b) v;obtain⟨W,X,Y⟩:=GO c;obtain⟨t1,t2,t3⟩:=GO d;have s:=(bZ c).2.1;have u:=(bZ d).2.1;have i:lA a b=((aC (aA a) a.length).1*b.length-(aC (aA b) b.length).1*a.length,(aC (aA a) a.length).2.1*b.length-(aC (aA b) b.length).2.1*a.length,(aC (aA a) a.length).2.2*b.length-(aC (aA b) b.length).2.2*a.length):=rfl;simp only[Xf,V8,We]
 have e:∀x:Int,-2147483648<=x/\x<=2147483648->∀n:Nat,n<=8->-17179869184<=x*n/\x*n<=17179869184:=λx hx n hn=>by
  have:=bS (a:=x) (b:=(n:Int)) 2147483648 8 (by omega) (by omega) (by omega) (by omega);omega
 generalize aC (aA a) a.length=S at *;generalize aC (aA b) b.length=T at *;generalize lA a b=V at *;have f1:=e _ W _ u;have f2:=e _ X _ u;have f3:=e _ Y _ u;have k1:=e _ t1 _ s;have k2:=e _ t2 _ s;have k3:=e _ t3 _ s;clear e
 have M:S.1*b.length-T.1*a.length=V.1:=by rw[i]
 have N:S.2.1*b.length-T.2.1*a.length=V.2.1:=by rw[i]
 have O:S.2.2*b.length-T.2.2*a.length=V.2.2:=by rw[i]
 clear i;have y:i64.wrap (S.1*b.length)=S.1*b.length:=aa;have z:i64.wrap (T.1*a.length)=T.1*a.length:=aa;have w0:i64.wrap (S.1*b.length-T.1*a.length)=V.1:=(aa (by omega) (by omega)).trans M;have A:i64.wrap (S.2.1*b.length)=S.2.1*b.length:=aa;have D:i64.wrap (T.2.1*a.length)=T.2.1*a.length:=aa;have w1:i64.wrap (S.2.1*b.length-T.2.1*a.length)=V.2.1:=(aa (by omega) (by omega)).trans N;have E:i64.wrap (S.2.2*b.length)=S.2.2*b.length:=aa;have F:i64.wrap (T.2.2*a.length)=T.2.2*a.length:=aa;have w2:i64.wrap (S.2.2*b.length-T.2.2*a.length)=V.2.2:=(aa (by omega) (by omega)).trans O;generalize bF V=n at *;have G:i64.wrap (a.length:Int)=(a.length:Int):=aa;have H:i64.wrap (b.length:Int)=(b.length:Int):=aa;refine Dp func199 λC hP hN=>?_;refine Gz ?_;refine WP.loopN [] 3 (λk st=>st.t 0=.pv (aF a)/\st.t 1=.pv (aF b)/\st.t 4=.ptr 4 0/\st.h 4=some (.box [.pv (Z 0),.pv (Z 0),.pv (Z 0)] true false)/\st.t 5=.ptr 5 0/\st.h 5=some (.box [.pv (B false)] true false)/\st.t 6=.ptr 6 0/\st.h 6=some (.box [.pv (Z S.1),.pv (Z S.2.1),.pv (Z S.2.2)] true false)/\st.t 7=.ptr 7 0/\st.h 7=some (.box [.pv (Z T.1),.pv (Z T.2.1),.pv (Z T.2.2)] true false)/\st.t 8=.ptr 8 0/\st.h 8=some (.box (FH V k) true false)/\st.t 26=.pv (Z k)) (by simp[FH]) ?_;rintro k st U ⟨g0,g1,g4,j,g5,l,p,m,q,o,r,g,f⟩;rcases eJ U with rfl|rfl|rfl|rfl
 all_goals (simp[FH]at g f)
 .skip
  exact GS (s7 p m q o r g g0 g1 g4 g5 j l f y (f8 z w0 G H @FH.eq_1))
 .skip
  exact GS (s7 p m q o r g g0 g1 g4 g5 j l f A (f8 D w1 G H @FH.eq_1))
 .skip
  exact GS (s7 p m q o r g g0 g1 g4 g5 j l f E (f8 F w2 G H @FH.eq_1))
 .skip
  exact Gy
structure YEnv(P:Program) where
 N:Nat
 l:Nat
 xs:List PV
 J:Bool->Nat->(Nat->Nat->Prop)->World->Prop
 bd:∀s i M W,J s i M W->∀b o,M b o->b<W.heap.size
 gr:∀s i M W W',J s i M W->Ext (λ_=>False) W W'->J s i M W'
 yl:∀m i x M W v1,xs[i]?=some x->J false i M W->Rep W M x v1->YieldAt Fence.wide m P l #[v1] W λe W'=>∃(b:Bool)(M':Nat->Nat->Prop),e=.returned (.bool b)/\J (!b) (if b=true then i+1 else i) M' W'/\Pres W M W' M'
abbrev QY:=Exit->(Nat->AV)->Nat->Bool->Prop
def KV(E:YEnv P)(Q:QY):Exit->Act->World->Prop:=λe b f=>∃t' c d a,E.J d c a f/\fh E.N a t' b f/\b.defers=[]/\Q e t' c d
def bU(E:YEnv P)(c:Code)(Q:QY)(t:Nat->AV)(i:Nat)(s:Bool):Prop:=
 ∀n a w M,E.J s i M w->fh E.N M t a w->a.defers=[]->c.wpIn Fence.wide n P (KV E Q) a w
section
variable {P:Program} {E:YEnv P} {Q:QY} {t:Nat->AV} {i:Nat} {s:Bool}
theorem bU.walk(h:∀C:Cx,C.P=P->C.N=E.N->aI Fence.wide C c (λe b=>Q e (bO b.t) i s) ⟨t,λ_=>none⟩):bU E c Q t i s:=by
 intro n a w M g j hd;refine wpIn_mono (j.step (E.bd _ _ _ _ g) h) ?_;rintro e l m ⟨b,hq,d,k,f⟩;exact⟨_,i,s,M,E.gr _ _ _ _ _ g k,d,by rw[f];exact hd,hq⟩
theorem bU.mono{Q':QY}(h:bU E c Q t i s)(hq:∀e t i s,Q e t i s->Q' e t i s):bU E c Q' t i s:=
 λn a w M l k hd=>wpIn_mono (h n a w M l k hd) λ_ _ _ ⟨t',m,o,b,d,f,g,j⟩=>⟨t',m,o,b,d,f,g,hq _ _ _ _ j⟩
theorem bU.sub{t':Nat->AV}(h:bU E c Q t' i s)(e:∀m,t' m=.undef\/t' m=t m):bU E c Q t i s:=
 λn a w M d b hd=>h n a w M d (b.sub e) hd
def KW{P:Program}(E:YEnv P)(y:Code)(Q:QY):QY
 |.normal,t,i,s=>bU E y Q t i s
 |e,t,i,s=>Q e t i s
theorem bU.seq{x:Code}(h:bU E x (KW E y Q) t i s):bU E (.seq x y) Q t i s:=by
 intro n a w M l k hd;refine wpIn_seq (wpIn_mono (h n a w M l k hd) ?_);rintro e j p ⟨t',m,o,b,c,d,f,g⟩
 cases e with
 |normal=>exact g n j p b c d f
 |_=>exact⟨t',m,o,b,c,d,f,g⟩
theorem bU.skip(h:Q .normal t i s):bU E .skip Q t i s:=λ_ _ _ M b a hd=>wpIn_skip ⟨t,i,s,M,b,a,hd,h⟩
theorem bU.ret(h:Q .ret t i s):bU E .ret Q t i s:=λ_ _ _ M b a hd=>wpIn_ret ⟨t,i,s,M,b,a,hd,h⟩
theorem bU.exit(h:Q (.exit id) t i s):bU E (.exit id) Q t i s:=λ_ _ _ M b a hd=>wpIn_exit ⟨t,i,s,M,b,a,hd,h⟩
theorem bU.cond{m:Nat}{x:Code}{b:Bool}(g:t m=.pv (.val (.bool b)))(k:b=true->bU E x Q t i s)(hf:b=false->bU E y Q t i s):bU E (.cond (.tmp m) x y) Q t i s:=by
 intro n a w M f c hd
 have d:a.eval (.tmp m)=.bool b:=by
  rcases c.2 m with e|⟨p,e,j⟩
  .grind
  .rw[g]at e;injection e with e;subst e;exact aU j
 exact wpIn_cond_split d (λe=>k e n a w M f c hd) (λe=>hf e n a w M f c hd)
def zH(id:Nat)(Q:QY):QY
 |.exit j,t,i,s=>if j=id then Q .normal t i s else Q (.exit j) t i s
 |e,t,i,s=>Q e t i s
theorem bU.block(h:bU E c (zH id Q) t i s):bU E (.block id c) Q t i s:=by
 intro n a w M p o hd;refine wpIn_block (wpIn_mono (h n a w M p o hd) ?_);rintro e q r ⟨t',l,m,d,f,g,k,b⟩
 cases e with
 |exit j=>
  simp only[zH,Exit.inBlock]at b|-;split
  .rename_i e;rw[VS e]at b;exact⟨t',l,m,d,f,g,k,b⟩
  .rename_i e;rw[VM e]at b;exact⟨t',l,m,d,f,g,k,b⟩
 |_=>exact⟨t',l,m,d,f,g,k,b⟩
theorem bU.loopN(K:Nat)(I:Nat->(Nat->AV)->Nat->Bool->Prop)(R:I 0 t i s)
 (round:∀k t i s,k<=K->I k t i s->bU E c (λe t i s=>match e with|.normal=>k<K/\I (k+1) t i s|e=>Q e t i s) t i s):bU E (.loop c) Q t i s:=by
 classical
 intro n a w M O L hd
 let b:Nat->Act->World->Prop:=λk a w=>∃t i s M,I k t i s/\E.J s i M w/\fh E.N M t a w/\a.defers=[]
 have f:∀a w,(∃k,k<=K/\b k a w)->∃k,k<=K/\b k a w/\∀j,j<=K->b j a w->j<=k:=by
  intro a w ⟨T,r,H⟩
  have:∀d k,K-k<=d->k<=K->b k a w->∃k,k<=K/\b k a w/\∀j,j<=K->b j a w->j<=k:=by
   intro d
   induction d with
   |zero=>intro k hd P m;exact⟨k,P,m,λj V _=>by omega⟩
   |succ d ih=>
    grind
  exact this K T (by omega) r H
 refine wpIn_loop (λa w=>∃k,k<=K/\b k a w) (λa w=>K-(if h:∃k,k<=K/\b k a w/\∀j,j<=K->b j a w->j<=k then h.choose else 0)) ⟨0,WJ _,t,i,s,M,R,O,L,hd⟩ ?_;intro a1 D o;have u:=f a1 D o;have v:=u.choose_spec;obtain⟨t1,S,U,G,g1,g2,g3,g4⟩:=v.2.1;refine wpIn_mono (round _ t1 S U v.1 g1 n a1 D G g2 g3 g4) ?_;rintro e a2 F ⟨t2,x,C,q,y,z,A,B⟩
 cases e with
 |normal=>
  obtain⟨l,m⟩:=B;have g:b (u.choose+1) a2 F:=⟨t2,x,C,q,m,y,z,A⟩;refine⟨⟨_,l,g⟩,?_⟩;have p:=f a2 F ⟨_,l,g⟩;have r:=p.choose_spec.2.2 _ l g
  grind
 |_=>exact⟨t2,x,C,q,y,z,A,B⟩
end
theorem ym{l:Nat}{rest:List Oper}{c:Call}{f x:Operand}{Q:Exit->Act->World->Prop}{a:Act}{w:World}{R:Ending->World->Prop}(r:Region.wanted o (yielded ops a.tmps)=true)(q:o.op=.call c)(j:c.callee=.value f)(b:c.args=#[x])
 (hf:a.eval f=.func (.yield l) #[] #[])(s:YieldAt Fence.wide (n-1) P l #[a.eval x] w R)
 (i:∀e m,R e m->∃v,e=.returned v/\wpListIn Fence.wide n P ops Q rest (a.put o.dst v) m):wpListIn Fence.wide n P ops Q (o::rest) a w:=by
 obtain⟨fn,tmps,assign,body,k,d⟩:=s;unfold wpListIn;rw[VS r];refine⟨λ_ _=>trivial,?_⟩;show o.uponIn Fence.wide n P a _ Q ((o.semAt none a.eval).run P w);rw[Oper.semAt_none]
 have g:(execOp a.eval o).run P w=.ok (.round l fn tmps assign body) w:=by
  generalize a.eval=ρ at hf k;unfold execOp;rw[q];obtain⟨p,u,at_⟩:=c;simp only at j b;subst j;subst b;simp[resolve,hf,invoke,go_sem,k]
 rw[g];refine⟨λh=>(by cases h),d.mono ?_⟩
 grind
section
variable {P:Program} {E:YEnv P} {Q:QY} {t:Nat->AV} {i:Nat}
theorem bU.yield{d f x:Nat}{c:Call}(s:ops.toList=pre++o::post)(O:rz ops=true)(ho:o.op=.call c)(hc:c.callee=.value (.tmp f))(u:c.args=#[.tmp x])(hd:o.dst=some d)(K:d<E.N)
 (B:dP P hn E.N ops (λg=>g.t f=.pv (.val (.func (.yield E.l) #[] #[]))/\fU ops (bO g.t) o.guard=some true/\∃q,g.t x=.pv q/\E.xs[i]?=some q/\
   ∀b,dP P hn E.N ops (λC=>Q .normal (bO C.t) (if b=true then i+1 else i) (!b)) post ⟨ag (bO g.t) d (.pv (.val (.bool b))),λ_=>none⟩) pre ⟨t,λ_=>none⟩):bU E (.region id ops false) Q t i false:=by
 intro n a w M W hH L;refine wpIn_region_list ?_;rw[s];refine dX _ ?_;have r:∀y∈pre++o::post,∀c,y.op≠.defer c:=λy j=>me O (by rw[s];exact j);refine hH.list (E.bd _ _ _ _ W) (λy j=>r y (XS _ j)) B ?_;rintro g D X ⟨Z,h2,q,h3,h4,h5⟩ k hx v;have z:=E.gr _ _ _ _ _ W hx;have H:=E.bd _ _ _ _ z
 have Y:D.eval (.tmp f)=.func (.yield E.l) #[] #[]:=by
  rcases k.2 f with e|⟨p,e,T⟩
  .grind [bO]
  .simp only[bO,Z]at e;injection e with e;subst e;exact aU T
 have ex:Rep X M q (D.eval (.tmp x)):=by
  rcases k.2 x with e|⟨p,e,T⟩
  .grind [bO]
  .simp only[bO,h3]at e;injection e with e;subst e;exact T
 refine ym ?_ ho hc u Y (E.yl (n-1) i q M X _ h4 z ex) ?_
 .exact eN (k.sim (P:=P) H).2.2 h2
 rintro e w2 ⟨b,V,rfl,A,R⟩;refine⟨_,rfl,?_⟩
 have F:fh E.N V (ag (bO g.t) d (.pv (.val (.bool b)))) (D.put o.dst (.bool b)) w2:=by
  have I:=k.mono R;rw[hd]
  have v:d<D.tmps.size:=by rw[I.1];exact K
  refine⟨by simpa[Act.put]using I.1,λm=>?_⟩;rw[rT v];simp only[ag];split
  .exact .inr ⟨_,rfl,.val _⟩
  .exact I.2 m
 refine F.list (E.bd _ _ _ _ A) (λy j=>r y (List.mem_append_right _ (Ym _ j))) (h5 b) ?_;intro ad a3 w3 S G U J;exact⟨_,_,_,V,E.gr _ _ _ _ _ A U,G,by rw[J,kM,v];exact L,S⟩
end
def tI(l:Nat)(caps:List PV):Nat->AV
 |0=>.pv (.val (.func (.yield l) #[] #[]))
 |k+1=>match caps[k]? with
  |some p=>.pv p
  |none=>.undef
theorem Jb{gf:FuncId}{fn:Func}{caps xs:List PV}(hf:P.funcs[gf]?=some fn)(V:fn.body=some c)(q:dm P gf=true)(v:fn.results=#[])(H:caps.length+1<=fn.ntmps)
 (h:∀E:YEnv P,E.N=fn.ntmps->E.xs=xs->bU E c (λe _ i s=>(e=.normal\/e=.ret)/\(if s=true then i<xs.length else i=xs.length)) (tI E.l caps) 0 false):Cs P gf caps xs:=by
 refine⟨q,λn l a W M J g A T B U hY O f=>?_⟩
 have I:∀(s:Bool) i M W,(if s=true then g i M W else J i M W)->∀b o,M b o->b<W.heap.size:=by
  intro s i M W F
  cases s with
  |true=>exact B i M W F
  |false=>exact A i M W F
 have K:∀(s:Bool) i M W j,(if s=true then g i M W else J i M W)->Ext (λ_=>False) W j->(if s=true then g i M j else J i M j):=by
  grind
 have L:∀m i x M W v1,xs[i]?=some x->(if false=true then g i M W else J i M W)->Rep W M x v1->YieldAt Fence.wide m P l #[v1] W λe j=>∃(b:Bool)(d:Nat->Nat->Prop),e=.returned (.bool b)/\(if(!b)=true then g (if b=true then i+1 else i) d j else J (if b=true then i+1 else i) d j)/\Pres W M j d:=by
  grind
 let E:YEnv P:={N:=fn.ntmps,l:=l,xs:=xs,J:=λs i M W=>if s=true then g i M W else J i M W,bd:=I,gr:=K,yl:=L}
 have X:=f.1;refine(callsIn_of_wp_marks hf V trivial ?_ rfl)
 have S:fh fn.ntmps M (tI l caps) {tmps:=((#[Value.func (.yield l) #[] #[]]:Array Value)++a.toArray)++Array.replicate (fn.ntmps-((#[Value.func (.yield l) #[] #[]]:Array Value)++a.toArray).size) undef,defers:=[]} W:=by
  refine⟨by simp;omega,λm=>?_⟩
  cases m with
  |zero=>
   have D:(((#[Value.func (.yield l) #[] #[]]:Array Value)++a.toArray)++Array.replicate (fn.ntmps-((#[Value.func (.yield l) #[] #[]]:Array Value)++a.toArray).size) undef).getD 0 undef=.func (.yield l) #[] #[]:=by
    rw[VT,Wx (by simp),Wx (by simp)];rfl
   refine .inr ⟨_,rfl,?_⟩;simp only[D];exact .val _
  |succ k=>
   simp only[tI]
   cases G:caps[k]? with
   |none=>exact .inl rfl
   |some p=>
    have u:k<a.length:=by rw[<-X];exact(th.1 G).1
    have hr:=f.2 k p a[k] G (an u);refine .inr ⟨p,rfl,?_⟩
    have D:(((#[Value.func (.yield l) #[] #[]]:Array Value)++a.toArray)++Array.replicate (fn.ntmps-((#[Value.func (.yield l) #[] #[]]:Array Value)++a.toArray).size) undef).getD (k+1) undef=a[k]:=by
     rw[VT,Wx (by simp;omega),Array.getElem?_append_right (by simp)];simp[u]
    grind
 refine wpIn_mono (h E rfl rfl n _ W M O S rfl) ?_;rintro e z y ⟨t',i',s',d,Y,Z,Q,R,h5⟩
 have r:((∃d,J xs.length d y)\/∃i d,i<xs.length/\g i d y):=by
  grind
 have C:(results fn z.tmps).run P y=.ok (.tuple #[]) y:=by
  unfold results;rw[v];simp[go_sem]
 rcases R with rfl|rfl
 all_goals
  show LeavesInM Fence.wide n P fn z.tmps _ z.defers .returning y
  rw[Q];exact⟨_,C,⟨_,rfl⟩,r⟩
section
variable {P:Program} {E:YEnv P} {Q:QY} {C:Cx} {st:St} {i:Nat} {s:Bool}
def cG{P:Program}(E:YEnv P)(C:Cx)(c:Code)(Q:QY)(st:St)(i:Nat)(s:Bool):Prop:=
 C.P=P->C.N=E.N->(∀b,¬C.S b)->E.J s i C.M0 C.w0->∀n L a w,ij C L st a w->a.defers=[]->c.wpIn Fence.wide n P (KV E Q) a w
theorem KY{C:Cx}(h:∀b,¬C.S b){w c:World}(a:Ext C.S w c):Ext (λ_=>False) w c:=by
 have e:C.S=λ_=>False:=funext λb=>propext ⟨λd=>(h b d).elim,False.elim⟩;rw[e]at a;exact a
theorem bU.blocks{t:Nat->AV}(h:∀C:Cx,C.P=P->C.N=E.N->cG E C c Q ⟨t,λ_=>none⟩ i s):bU E c Q t i s:=by
 intro n a w M b d hd;exact h {P:=P,N:=E.N,M0:=M,S:=λ_=>False,pb:=λ_=>none,w0:=w} rfl rfl rfl rfl (λ_ h=>h) b n _ a w (d.sim (E.bd _ _ _ _ b)) hd
theorem cG.drop(h:bU E c Q (bO st.t) i s):cG E C c Q st i s:=by
 intro hP hN hS e n L a w d hd;have b:=rA d;rw[hN]at b;exact h n a w C.M0 (E.gr _ _ _ _ _ e (KY hS d.1.ext)) b hd
def Pg{P:Program}(E:YEnv P)(C:Cx)(y:Code)(Q:QY)(i:Nat)(s:Bool):Exit->St->Prop
 |.normal,st=>cG E C y Q st i s
 |e,st=>Q e (bO st.t) i s
theorem cG.seq{x:Code}(h:aI Fence.wide C x (Pg E C y Q i s) st):cG E C (.seq x y) Q st i s:=by
 intro hP hN hS j n L a w l hd;subst hP;refine wpIn_seq (wpIn_mono (h n L a w l) ?_);rintro e f o ⟨m,k,b,_,d,hq⟩
 have c:f.defers=[]:=by rw[d];exact hd
 have g:=rA b;rw[hN]at g
 cases e with
 |normal=>exact hq rfl hN hS j n k f o b c
 |_=>exact⟨_,i,s,C.M0,E.gr _ _ _ _ _ j (KY hS b.1.ext),g,c,hq⟩
theorem cG.walk(h:aI Fence.wide C c (λe d=>Q e (bO d.t) i s) st):cG E C c Q st i s:=by
 intro hP hN hS j n L a w k hd;subst hP;refine wpIn_mono (h n L a w k) ?_;rintro e m o ⟨d,l,b,_,f,hq⟩;have g:=rA b;rw[hN]at g;exact⟨_,i,s,C.M0,E.gr _ _ _ _ _ j (KY hS b.1.ext),g,by rw[f];exact hd,hq⟩
theorem cG.cond{m:Nat}{x:Code}{b:Bool}(g:st.t m=.pv (.val (.bool b)))(k:b=true->cG E C x Q st i s)(hf:b=false->cG E C y Q st i s):cG E C (.cond (.tmp m) x y) Q st i s:=by
 intro hP hN hS f n L a w d hd
 have c:a.eval (.tmp m)=.bool b:=by
  have h:=d.2.2 m;rw[g]at h
  cases h with
  |pv j=>exact aU j
 exact wpIn_cond_split c (λe=>k e hP hN hS f n L a w d hd) (λe=>hf e hP hN hS f n L a w d hd)
theorem cG.seqY{x:Code}(h:cG E C x (KW E y Q) st i s):cG E C (.seq x y) Q st i s:=by
 intro hP hN hS k n L a w l hd;refine wpIn_seq (wpIn_mono (h hP hN hS k n L a w l hd) ?_);rintro e j p ⟨t',m,o,b,c,d,f,g⟩
 cases e with
 |normal=>exact g n j p b c d f
 |_=>exact⟨t',m,o,b,c,d,f,g⟩
theorem cG.block(h:cG E C c (zH id Q) st i s):cG E C (.block id c) Q st i s:=by
 intro hP hN hS o n L a w p hd;refine wpIn_block (wpIn_mono (h hP hN hS o n L a w p hd) ?_);rintro e q r ⟨t',l,m,d,f,g,k,b⟩
 cases e with
 |exit j=>
  simp only[zH]at b;show(if j=id then _ else _);split
  .rename_i e;rw[VS e]at b;exact⟨t',l,m,d,f,g,k,b⟩
  .rename_i e;rw[VM e]at b;exact⟨t',l,m,d,f,g,k,b⟩
 |_=>exact⟨t',l,m,d,f,g,k,b⟩
theorem cG.yield{d f x:Nat}{c:Call}(s:ops.toList=pre++o::post)(S:rz ops=true)(ho:o.op=.call c)(hc:c.callee=.value (.tmp f))(v:c.args=#[.tmp x])(hd:o.dst=some d)(O:d<E.N)
 (u:dP P hn E.N ops (λg=>g.t f=.pv (.val (.func (.yield E.l) #[] #[]))/\fU ops (bO g.t) o.guard=some true/\∃q,g.t x=.pv q/\E.xs[i]?=some q/\
   ∀b,dP P hn E.N ops (λF=>Q .normal (bO F.t) (if b=true then i+1 else i) (!b)) post ⟨ag (bO g.t) d (.pv (.val (.bool b))),λ_=>none⟩) pre st):cG E C (.region id ops false) Q st i false:=by
 intro hP hN hS hJ n L a w hs R;subst hP;rw[<-hN]at u;refine wpIn_region_list ?_;rw[s];refine dX _ ?_;have r:∀z∈pre++o::post,∀c,z.op≠.defer c:=λz j=>me S (by rw[s];exact j);refine i8 gV (λg L' G w' D _ y hq=>?_) (λz j=>r z (XS _ j)) hs (aL.refl hs.1) rfl u;obtain⟨Y,h2,q,Z,h4,h5⟩:=hq;have k:=rA D;have A:=E.gr _ _ _ _ _ hJ (KY hS D.1.ext);have J:=E.bd _ _ _ _ A
 have ef:G.eval (.tmp f)=.func (.yield E.l) #[] #[]:=by
  rcases k.2 f with e|⟨p,e,V⟩
  .simp only[bO,Y]at e;cases e
  .simp only[bO,Y]at e;injection e with e;subst e;exact aU V
 have ex:Rep w' C.M0 q (G.eval (.tmp x)):=by
  rcases k.2 x with e|⟨p,e,V⟩
  .simp only[bO,Z]at e;cases e
  .simp only[bO,Z]at e;injection e with e;subst e;exact V
 refine ym ?_ ho hc v ef (E.yl (n-1) i q C.M0 w' _ h4 A ex) ?_
 .exact eN (k.sim (P:=C.P) J).2.2 h2
 rintro e w2 ⟨b,X,rfl,B,T⟩;refine⟨_,rfl,?_⟩
 have H:fh E.N X (ag (bO g.t) d (.pv (.val (.bool b)))) (G.put o.dst (.bool b)) w2:=by
  have K:=k.mono T;rw[hd]
  have y:d<G.tmps.size:=by rw[K.1,hN];exact O
  refine⟨by simpa[Act.put,hN]using K.1,λm=>?_⟩;rw[rT y];simp only[ag];split
  .exact .inr ⟨_,rfl,.val _⟩
  .exact K.2 m
 refine H.list (E.bd _ _ _ _ B) (λz j=>r z (List.mem_append_right _ (Ym _ j))) (by rw[hN]at h5;exact h5 b) ?_;intro ad a3 w3 U I W M;exact⟨_,_,_,X,E.gr _ _ _ _ _ B W,I,by rw[M,kM,y];exact R,U⟩
end
def we(C:Cx)(ds:List Deferred)(st:St)(a:Act)(w:World):Prop:=∃L,MemL C L st.h w/\a.tmps.size=C.N/\a.defers=ds/\∀n,RepA w (ae C L st.h) L st.h (st.t n) (a.tmps.getD n undef)
theorem we.put{C:Cx}{ds:List Deferred}{L:Nat->Loc}{st:St}{a:Act}{w:World}(j:MemL C L st.h w)(hN:a.tmps.size=C.N)(b:a.defers=ds)(k:∀n,RepA w (ae C L st.h) L st.h (st.t n) (a.tmps.getD n undef))
 {d:Option Nat}(hd:dv C.N d=true){v:AV}{W:List (Nat×Blk)}{u:Value}{c:World}{L':Nat->Loc}(i:aL C L st.h w L' (ak st.h W) c)(l:RepA c (ae C L' (ak st.h W)) L' (ak st.h W) v u):
 we C ds (st.put d v W) (a.put d u) c:=by
 obtain⟨e,f,g⟩:=ij.put (a:=a) ⟨j,hN,k⟩ hd i l;exact⟨L',e,f,(kM _ _ _).trans b,g⟩
section
variable {C:Cx} {hn:List Nat} {ops:Array Oper} {fs:List Ef} {st:St} {ds:List Deferred}
theorem Hq(z:kw ops=true)(b4:fs.length=ops.size)(V:∀(i:Nat) o f,ops[i]?=some o->fs[i]?=some f->oh C.P hn C.N ops o (run (fs.take i) st) f)
 (R:jP (kv ops.toList []) (fs.map λf=>(f.W.map (·.1),f.K))=true){Q':Exit->Act->World->Prop}(hQ:∀a w,we C ds (run fs st) a w->Q' .normal a w):
 ∀(fuel:Nat)(c:Array Bool)(a:Act)(w:World),c.size=ops.size->((List.range ops.size).filter λj=>!aM c j).length<=fuel->(∀i j,oe ops i j->aM c j=true->aM c i=true)->
  we C ds (fD fs ops.size st (aM c)) a w->wpAny C.P .any ops Q' fuel c a w:=by
 have H:∀c:Array Bool,Region.ready .any ops c=[]->c.size=ops.size->∀j,j<ops.size->aM c j=true:=by
  intro c X B j
  induction j using Nat.strongRecOn with
  |_ j ih=>
   intro l
   cases hl:aM c j with
   |true=>rfl
   |false=>
    have:j∈Region.ready .any ops c:=md.2 ⟨l,hl,λq hq=>by
     have ck:=qX z hq;have:=ih q ck (by omega);unfold aM at this;rw[VT]at this|-;rw[WB (by omega)]at this|-
     simpa using this⟩
    rw[X]at this;cases this
 have a1:∀(c:Array Bool) a w,Region.ready .any ops c=[]->c.size=ops.size->we C ds (fD fs ops.size st (aM c)) a w->Q' .normal a w:=by
  intro c a w X B D;apply hQ;have hl:=H c X B
  have:fD fs ops.size st (aM c)=run fs st:=by
   have ht:run fs st=run (fs.take ops.size) st:=by rw[Wg (by omega)]
   rw[ht]
   have F:(fD fs ops.size st (aM c)).t=(run (fs.take ops.size) st).t:=by
    funext r;rw[ol fs st _ (by omega)];exact eE (λj l _=>hl j l)
   have G:(fD fs ops.size st (aM c)).h=(run (fs.take ops.size) st).h:=by
    funext r;rw[om fs st _ (by omega)];exact eE (λj l _=>hl j l)
   cases hA:fD fs ops.size st (aM c);cases hB:run (fs.take ops.size) st;rw[hA,hB]at F G;simp at F G;rw[F,G]
  rw[<-this];exact D
 intro fuel
 induction fuel with
 |zero=>
  intro c a w B bH Y D
  have ar:Region.ready .any ops c=[]:=by
   cases X:Region.ready .any ops c with
   |nil=>rfl
   |cons i r=>
    have hi:i∈Region.ready .any ops c:=by rw[X];simp
    obtain⟨F,G,_⟩:=md.1 hi;have:i∈(List.range ops.size).filter λj=>!aM c j:=WX.2 ⟨Wz.2 F,by simp[G]⟩;have b7:((List.range ops.size).filter λj=>!aM c j)=[]:=Wq (by omega);rw[b7]at this;cases this
  exact⟨ar,a1 c a w ar B D⟩
 |succ fuel ih=>
  intro c a w B bH Y D;refine⟨λX=>a1 c a w X B D,λi hi=>?_⟩;obtain⟨O,S,b1⟩:=md.1 hi;have ho:ops[i]?=some ops[i]:=WB O;have hf:fs[i]?=some (fs[i]'(by omega)):=an _;generalize ops[i]=o at ho;generalize fs[i]'(by omega)=f at hf;obtain⟨J,b3,I⟩:=V i o f ho hf
  have y:∀q,Pre ops q i->aM c q=true:=by
   intro q hq
   have hd:∀q,oe ops q i->aM c q=true:=by
    intro q hq;have cp:=qX z hq;have:=b1 q hq;unfold aM;rw[VT]at this|-;rw[WB (by omega)]at this|-;simpa using this
   cases hq with
   |one h=>exact hd q h
   |step h h'=>exact qW Y h (hd _ h')
  have s:∀q,Pre ops i q->aM c q=false:=by
   intro q hq
   cases cj:aM c q with
   |false=>rfl
   |true=>rw[qW Y hq cj]at S;cases S
  have a6:∀j r,(sK fs r j).isSome=true->∃oj A,ops[j]?=some oj/\fs[j]?=some A/\oj.dst=some r:=by
   intro j r l;unfold sK at l;split at l
   .rename_i A p
    split at l
    .rename_i hd
     have ch:j<ops.size:=by rw[<-b4];exact(th.1 p).1
     have E:ops[j]?=some ops[j]:=WB ch;obtain⟨_,G,_⟩:=V j _ A E p;exact⟨_,A,E,p,by rw[<-G];exact hd⟩
    .cases l
   .cases l
  have bb:∀j k,(sL fs k j).isSome=true->∃A,fs[j]?=some A/\k∈A.W.map (·.1):=by
   intro j k l;unfold sL at l;split at l
   .rename_i A p;exact⟨A,p,wE l⟩
   .cases l
  have g:∀(j:Nat)(A:Ef),fs[j]?=some A->(fs.map λf=>(f.W.map (·.1),f.K))[j]?=some (A.W.map (·.1),A.K):=λj A h=>by simp[h]
  have ad:∀r∈pZ ops o,(fD fs ops.size st (aM c)).t r=(run (fs.take i) st).t r:=by
   intro r X;rw[ol fs st i (by omega),<-qU (n:=ops.size) (by omega)];refine eE (λj l hw=>?_);obtain⟨oj,A,E,p,hd⟩:=a6 j r hw;rcases XL j i with T|rfl|a7
   .rw[y j (mc z T E ho (by simp[lM,hd,X]))];simp[T]
   .rw[S];simp
   .rw[s j (mc z a7 ho E (by simp[lM,hd,X]))]
    have:¬j<i:=by omega
    simp[this]
  have bs:∀k∈f.K,(fD fs ops.size st (aM c)).h k=(run (fs.take i) st).h k:=by
   intro k Q;rw[om fs st i (by omega),<-qU (n:=ops.size) (by omega)];refine eE (λj l hw=>?_);obtain⟨A,p,hd⟩:=bb j k hw;rcases XL j i with T|rfl|a7
   .rw[y j (nJ R T (g j A p) (g i f hf) ⟨k,.inl ⟨hd,Q⟩⟩)];simp[T]
   .rw[S];simp
   .rw[s j (nJ R a7 (g i f hf) (g j A p) ⟨k,.inr ⟨hd,Q⟩⟩)]
    have:¬j<i:=by omega
    simp[this]
  have cb:∀k,k∈f.W.map (·.1)->k∈f.K:=by
   intro k Q;obtain⟨kb,ba,rfl⟩:=Wf.1 Q;rcases I with⟨_,_,_,H⟩|⟨_,_,hW,_⟩
   .have:=VL.1 H kb ba;simpa using this
   .rw[hW]at ba;cases ba
  have mC:fD fs ops.size st (aM (c.setIfInBounds i true))=(fD fs ops.size st (aM c)).put f.d f.v f.W:=by
   have b5:∀j,j<ops.size->aM (c.setIfInBounds i true) j=(aM c j||j==i):=by
    intro j l;unfold aM;by_cases e:j=i
    .subst e;simp[VT,B,l]
    .have F:(j==i)=false:=by simpa using e
     rw[F,Bool.or_false,VT,VT,WN (by omega)]
   have F:(fD fs ops.size st (aM (c.setIfInBounds i true))).t=((fD fs ops.size st (aM c)).put f.d f.v f.W).t:=by
    funext r
    show i7 ops.size (sK fs r) (st.t r) (aM (c.setIfInBounds i true))=_;rw[eE (λj l _=>b5 j l),pP O ?_]
    .have hw:sK fs r i=if f.d=some r then some f.v else none:=by simp[sK,hf]
     rw[hw]
     cases hd:f.d with
     |none=>simp[St.put,fD]
     |some d=>
      simp only[St.put,ag,VQ];by_cases e:d=r
      .subst e;simp
      .rw[VM e,VM (λh=>e h.symm)];rfl
    .intro bc j a8 l bq
     obtain⟨oi,fi,Z,M,a5⟩:=a6 i r bc;obtain⟨oj,A,E,p,hd⟩:=a6 j r bq;rw[ho]at Z;injection Z with Z;subst Z;exact s j (mc z a8 ho E (by simp[lM,a5,hd]))
   have G:(fD fs ops.size st (aM (c.setIfInBounds i true))).h=((fD fs ops.size st (aM c)).put f.d f.v f.W).h:=by
    funext k
    show i7 ops.size (sL fs k) (st.h k) (aM (c.setIfInBounds i true))=_;rw[eE (λj l _=>b5 j l),pP O ?_]
    .have hw:sL fs k i=jB f.W k:=by simp[sL,hf]
     rw[hw];simp only[St.put];exact(pQ k f.W (fD fs ops.size st (aM c)).h).symm
    .intro bc j a8 l bq
     obtain⟨fi,M,a5⟩:=bb i k bc;obtain⟨A,p,hd⟩:=bb j k bq;rw[hf]at M;injection M with M;subst M;exact s j (nJ R a8 (g i f hf) (g j A p) ⟨k,.inr ⟨hd,cb k a5⟩⟩)
   cases hA:fD fs ops.size st (aM (c.setIfInBounds i true));cases hB:(fD fs ops.size st (aM c)).put f.d f.v f.W;rw[hA,hB]at F G;simp at F G;rw[F,G]
  have U:∀a' w',we C ds ((fD fs ops.size st (aM c)).put f.d f.v f.W) a' w'->wpAny C.P .any ops Q' fuel (c.setIfInBounds i true) a' w':=by
   intro a' w' cm;refine ih (c.setIfInBounds i true) a' w' (by simp[B]) ?_ ?_ (by rw[mC];exact cm)
   .have cn:((List.range ops.size).filter λj=>!aM (c.setIfInBounds i true) j).length<((List.range ops.size).filter λj=>!aM c j).length:=by
     have cf:((List.range ops.size).filter λj=>!aM (c.setIfInBounds i true) j)=((List.range ops.size).filter λj=>!aM c j).filter λj=>!(j==i):=by
      rw[List.filter_filter];refine List.filter_congr (λj l=>?_);have cg:=Wz.1 l;unfold aM;by_cases e:j=i
      .subst e;simp[VT,B,cg]
      .have F:(j==i)=false:=by simpa using e
       rw[F,VT,VT,WN (by omega)];simp
     rw[cf];refine List.length_filter_lt_length_iff_exists.2 ⟨i,WX.2 ⟨Wz.2 O,by simp[S]⟩,by simp⟩
    omega
   .intro q j hd l
    have ca:∀m,aM (c.setIfInBounds i true) m=true↔(aM c m=true\/m=i):=by
     intro m;unfold aM;by_cases e:m=i
     .subst e;simp[VT,B,O]
     .rw[VT,VT,WN (by omega)];simp[e]
    rw[ca]at l|-;rcases l with l|rfl
    .exact .inl (Y q j hd l)
    .exact .inl (y q (.one hd))
  obtain⟨L,hm,hN,b0,ht⟩:=D
  have hgd:fU ops (fD fs ops.size st (aM c)).t o.guard=fU ops (run (fs.take i) st).t o.guard:=by
   unfold fU;split
   .rfl
   .rename_i j want hg
    split
    .rename_i d hd
     rw[ad d (by simp[pZ,hg,hd])]
    .rfl
  unfold wpOp;rw[ho];simp only;rcases I with⟨hg,hK,b2,cd⟩|⟨hg,hv,hW,_⟩
  .rw[eN ht (hgd.trans hg)]
   rw[VS rfl];refine .inl ?_
   have b8:∀x∈o.op.operands,(run (fs.take i) st).ev x=(fD fs ops.size st (aM c)).ev x:=by
    intro x hx
    cases x with
    |tmp t=>
     refine(ad t ?_).symm;simp only[pZ,Dd,V4,List.mem_filterMap];exact .inl ⟨.tmp t,by simpa using hx,rfl⟩
    |_=>rfl
   have b9:bY f.K (run (fs.take i) st).h=bY f.K (fD fs ops.size st (aM c)).h:=by
    funext k
    unfold bY;split
    .rename_i Q;exact(bs k (by simpa using Q)).symm
    .rfl
   rw[b9]at b2;refine mb.congr b8 b2 C L _ w a rfl hm ?_ ?_ (λx _=>dn ht x) _ _ (λu w' L' hA hv=>?_)
   .intro k b Q;unfold bY at Q;split at Q
    .exact Q
    .cases Q
   .intro d hd
    unfold bY;rw[VS (hK d hd)];refine⟨rfl,?_⟩;have a2:=J;rw[hd]at a2;simp only[dv,An,L4]at a2;exact a2.2
   .refine U _ _ ?_
    rw[b3];exact we.put hm hN b0 ht J hA hv
  .rw[eN ht (hgd.trans hg)]
   simp only[VP,VZ];refine U _ _ ?_;rw[b3,hv,hW];exact we.put hm hN b0 ht J (W:=[]) (aL.refl hm) (.pv (.val _))
variable {P:Program} {E:YEnv P} {Q:QY} {i:Nat} {s:Bool}
theorem cG.draw(q:P.follows .mixedOrders=true)(c:kw ops=true)
 (h:lw P hn E.N ops (λg st=>jP (kv ops.toList []) g=true/\cG E C y Q st i s) ops.toList [] st):cG E C (.seq (.region id ops true) y) Q st i s:=by
 intro hP hN hS F n L a w d hd;subst hP;rw[<-hN]at h;obtain⟨fs,z,A,B,D⟩:=tZ h;refine wpIn_seq (wpIn_wide.2 ?_);refine wp_region_any q (Hq (ds:=[]) (fs:=fs) (st:=st) c (by rw[z];simp) (λi o f r hf=>A i o f (by simpa using r) hf) (by simpa using B) (λa w d=>?_) _ _ _ _ (by simp) ?_ ?_ ?_)
 .obtain⟨x,p,k,l,u⟩:=d
  exact D rfl hN hS F n x a w ⟨p,k,u⟩ l
 .refine XH (Yj _ _) (by simp)
 .intro i j hd b
  have m:j<ops.size:=by obtain⟨o,r,_⟩:=hd;exact(Ws.1 r).1
  unfold aM at b;rw[VT,XY,VS m]at b;cases b
 .have:fD fs ops.size st (aM (Array.replicate ops.size false))=st:=by
   have hf:∀j,j<ops.size->aM (Array.replicate ops.size false) j=false:=by
    intro j b;unfold aM;rw[VT,XY,VS b];rfl
   have G:∀{V:Type}(wr:Nat->Option V)(e:V),i7 ops.size wr e (aM (Array.replicate ops.size false))=e:=by
    intro V wr e;rw[eE (ls':=λ_=>false) (λj b _=>hf j b)]
    have:∀n,i7 n wr e (λ_=>false)=e:=by
     intro n;induction n with
     |zero=>rfl
     |succ n ih=>rw[kF];simp[ih]
    exact this _
   cases st;unfold fD;simp[G]
  rw[this];have v:=d.1.grow (Ext.drew (λ_=>False) w);exact⟨L,v.1,d.2.1,hd,λn=>(d.2.2 n).mono v.2 (KC.refl _ _)⟩
end
end Go.Ab
