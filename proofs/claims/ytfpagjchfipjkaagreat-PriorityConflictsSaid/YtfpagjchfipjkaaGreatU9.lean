/- The contracts and facts that the laws of this seat need, in one text (K8, K9, K11, K10, K11b, K11c, K11d, K11e, K5c, K5d, K5e, K5f, K5g, K12, Ab28, Ab30, Ab31, K12b, K12c, K13, K13b, K13c, K13d, K13e, K14, K14b, Ck0, K15, K15b, K16, KM1, KM2, KM3, KM4, K17, KM5, XpA). -/
import Derived.Test.YtfpagjchfipjkaaGreatU8
set_option linter.all false
set_option maxRecDepth 10000
set_option maxHeartbeats 16000000
namespace Go.Ab
open IntKind (i64)
open Go.Proofs.Tryz
open Go.Proofs
variable {A B' l ns:List Vc}{D i id m q:Nat}{P:Program}{PR:List (Nat×Nat)}{PT:List (List aq)}{SH shs:List Sh}{a b xs:List aq}{aft:Array Edge}{bet:Int->Int->Bool}{bx:List Iv}{c y:Code}{dst:Option Nat}{g:Option (Nat×Bool)}{hn:List Nat}{js:List J}{k ra rb t x:Int}{n v:Vc}{o:Oper}{ops:Array Oper}{post pre:List Oper}{s:Sce}{w:List Int}{α:Type}{ρ:Operand->AV}{p:α->Bool}
def qI(n:Int)(x:Iv):Int:=min (n*x.1) (n*x.2)
def qJ(n:Int)(x:Iv):Int:=max (n*x.1) (n*x.2)
def fL(n:Vc)(v:aq):Int:=qI n.1 v.1+qI n.2.1 v.2.1+qI n.2.2 v.2.2
def fN(n:Vc)(v:aq):Int:=qJ n.1 v.1+qJ n.2.1 v.2.1+qJ n.2.2 v.2.2
theorem IN{x:Iv}(h:db x=true):(-268435456<=x.1/\x.1<=268435456)/\(-268435456<=x.2/\x.2<=268435456):=by
 rw[fg]at h;omega
theorem yJ(h:fA x 16384=true):-16384<=x/\x<=16384:=by rw[aV]at h;omega
theorem oJ{n:Int}{x:Iv}(hn:fA n 16384=true)(c:db x=true):(-4398046511104<=n*x.1/\n*x.1<=4398046511104)/\(-4398046511104<=n*x.2/\n*x.2<=4398046511104)/\(-4398046511104<=qI n x/\qI n x<=4398046511104)/\(-4398046511104<=qJ n x/\qJ n x<=4398046511104):=by
 have h1:=yJ hn;have d:=IN c;have m1:=bj (a:=n) (b:=x.1) 16384 268435456 (by omega) (by omega) (by omega) (by omega);have m2:=bj (a:=n) (b:=x.2) 16384 268435456 (by omega) (by omega) (by omega) (by omega);unfold qI qJ;omega
theorem Q0(n:Vc)(v:aq)(hn:ay 16384 n=true)(g:bL v=true):aF 327 (al n) (bi v) (.tup [Z (fL n v),Z (fN n v)]):=by
 rw[bu]at hn;rw[fC]at g;obtain⟨n1,n2,D⟩:=hn;obtain⟨E,F,G⟩:=g;have a1:=oJ n1 E;have H:=oJ n2 F;have I:=oJ D G;have i:fL n v=qI n.1 v.1+qI n.2.1 v.2.1+qI n.2.2 v.2.2:=rfl;have j:fN n v=qJ n.1 v.1+qJ n.2.1 v.2.1+qJ n.2.2 v.2.2:=rfl;rw[i,j];have w1:i64.wrap (n.1*v.1.1)=n.1*v.1.1:=aa;have w2:i64.wrap (n.1*v.1.2)=n.1*v.1.2:=aa;have P:i64.wrap (n.2.1*v.2.1.1)=n.2.1*v.2.1.1:=aa;have Q:i64.wrap (n.2.1*v.2.1.2)=n.2.1*v.2.1.2:=aa;have R:i64.wrap (n.2.2*v.2.2.1)=n.2.2*v.2.2.1:=aa;have S:i64.wrap (n.2.2*v.2.2.2)=n.2.2*v.2.2.2:=aa;have f1:min (n.1*v.1.1) (n.1*v.1.2)=qI n.1 v.1:=rfl;have f2:min (n.2.1*v.2.1.1) (n.2.1*v.2.1.2)=qI n.2.1 v.2.1:=rfl;have f3:min (n.2.2*v.2.2.1) (n.2.2*v.2.2.2)=qI n.2.2 v.2.2:=rfl;have f4:max (n.1*v.1.1) (n.1*v.1.2)=qJ n.1 v.1:=rfl;have f5:max (n.2.1*v.2.1.1) (n.2.1*v.2.1.2)=qJ n.2.1 v.2.1:=rfl;have f6:max (n.2.2*v.2.2.1) (n.2.2*v.2.2.2)=qJ n.2.2 v.2.2:=rfl;generalize u:qI n.1 v.1=a at *;generalize x:qI n.2.1 v.2.1=c at *;generalize y:qI n.2.2 v.2.2=e at *;generalize z:qJ n.1 v.1=b at *;generalize A:qJ n.2.1 v.2.1=d at *;generalize B:qJ n.2.2 v.2.2=f at *;have J:i64.wrap a=a:=aa;have K:i64.wrap (a+c)=a+c:=aa;have L:i64.wrap (a+c+e)=a+c+e:=aa;have M:i64.wrap b=b:=aa;have N:i64.wrap (b+d)=b+d:=aa;have O:i64.wrap (b+d+f)=b+d+f:=aa;refine Dp func327 λC hP hN=>?_;refine Gz ?_;refine WP.loopN [9] 3 (λk st=>st.t 2=.ptr 2 0/\st.h 2=some (.box [.pv (Z n.1),.pv (Z n.2.1),.pv (Z n.2.2)] true false)/\st.t 12=.pv (bi v)/\st.t 13=.pv (Z k)/\st.h 9=none/\st.t 6=.pv (Z (if k=0 then 0 else if k=1 then a else if k=2 then a+c else a+c+e))/\st.t 7=.pv (Z (if k=0 then 0 else if k=1 then b else if k=2 then b+d else b+d+f))) (by simp) ?_;rintro k st s ⟨g2,q,l,m,r,o,p⟩;rcases dA s with rfl|rfl|rfl|rfl
 all_goals (simp at o p)
 all_goals
  exact Gy
abbrev z7(n:Vc):PV:=.rptr (al n) 0
abbrev VP(n:Vc):PV:=.agg [.fn (.func 326) [] [z7 n],.val (.func (.func 328) #[] #[])]
abbrev VQ(n:Vc):PV:=.agg [.fn (.func 329) [] [z7 n],.val (.func (.func 330) #[] #[])]
theorem VR(n:Vc):aR 316 (al n) (VP n):=by
 refine Dp func316 λC hP hN=>?_;exact Gy
theorem VT(n:Vc):aR 318 (al n) (VQ n):=by
 refine Dp func318 λC hP hN=>?_;exact Gy
theorem VU(x y:Int):aF 328 (Z x) (Z y) (B (decide (x<y))):=by
 refine Dp func328 λC hP hN=>?_;exact Gy
theorem VV(x y:Int):aF 330 (Z x) (Z y) (B (decide (y<x))):=by
 refine Dp func330 λC hP hN=>?_;exact Gy
theorem VW(n:Vc)(v:aq)(hn:ay 16384 n=true)(c:bL v=true):aF 326 (bi v) (z7 n) (Z (fL n v)):=by
 have d:=Q0 n v hn c;generalize fL n v=a at *;generalize fN n v=b at *;refine Dp func326 λC hP hN=>?_;exact Gy
theorem VX(n:Vc)(v:aq)(hn:ay 16384 n=true)(c:bL v=true):aF 329 (bi v) (z7 n) (Z (fN n v)):=by
 have d:=Q0 n v hn c;generalize fL n v=a at *;generalize fN n v=b at *;refine Dp func329 λC hP hN=>?_;exact Gy
def gn(val:aq->Int)(bet:Int->Int->Bool)(xs:List aq):Nat->Int×Nat
 |0=>(0,0)
 |i+1=>match xs[i]? with
  |some v=>if i=0\/bet (val v) (gn val bet xs i).1=true then(val v,i)else gn val bet xs i
  |none=>gn val bet xs i
def Co(val:aq->Int)(bet:Int->Int->Bool)(xs:List aq):Int×Nat:=gn val bet xs xs.length
theorem xy{val:aq->Int}{v:aq}(h:xs[i]?=some v):gn val bet xs (i+1)=if i=0\/bet (val v) (gn val bet xs i).1=true then(val v,i)else gn val bet xs i:=by simp only[gn,h]
theorem Q1(n:Vc)(f g:FuncId)(val:aq->Int)(bet:Int->Int->Bool)(xs:List aq)(E:xs.length<=1000)(hf:∀v,bL v=true->aW prog f [.pv (bi v),.pv (z7 n)] [] [] (.pv (Z (val v))))(u:∀x y,aW prog g [.pv (Z x),.pv (Z y)] [] [] (.pv (B (bet x y))))(hp:xs.all bL=true):aF 317 (.agg [.fn (.func f) [] [z7 n],.val (.func (.func g) #[] #[])]) (aE xs) (.tup [Z (Co val bet xs).1,Z (Co val bet xs).2]):=by
 refine Dp func317 λC hP hN=>?_;refine Gz ?_;refine WP.loopN [9] xs.length (λi st=>st.t 2=.ptr 2 0/\st.h 2=some (.box [.pv (.fn (.func f) [] [z7 n]),.pv (.val (.func (.func g) #[] #[]))] true false)/\st.t 11=.pv (aE xs)/\st.t 12=.pv (Z xs.length)/\st.t 13=.pv (Z i)/\st.h 9=none/\st.t 6=.pv (Z (gn val bet xs i).1)/\st.t 7=.pv (Z (gn val bet xs i).2)) (by simp[gn]) ?_;rintro i st hi ⟨g2,q,l,m,o,r,A,D⟩;by_cases b:i<xs.length
 .have F:=ab b (by omega)
  generalize d:xs[i]=v at *
  have k:xs[i]?=some v:=by rw[an b,d]
  have z:=hf v (L4.1 hp v (An k));have hs:=xy (val:=val) (bet:=bet) k;generalize gn val bet xs i=s at *;generalize gn val bet xs (i+1)=G at *;have e:=u (val v) s.1;generalize val v=y at *;by_cases j:i=0
  .subst j
   rw[Zd (.inl rfl)]at hs;subst hs;exact Gy
  .have p:((i:Int)==0)=false:=by simp;omega
   cases a:bet y s.1 with
   |true=>
    rw[a]at e;rw[Zd (.inr a)]at hs;subst hs;exact Gy
   |false=>
    rw[a]at e;rw[Y6 (by rintro(h|h);exact j h;rw[a]at h;cases h)]at hs;subst hs;exact Gy
 .have c:i=xs.length:=by omega
  subst c;refine Gz ?_
  all_goals exact⟨rfl,rfl⟩
def dN(x y:Int):Bool:=decide (x<y)
def dO(x y:Int):Bool:=decide (y<x)
def fO(n:Vc)(xs:List aq):Int×Nat:=Co (fL n) dN xs
def fP(n:Vc)(xs:List aq):Int×Nat:=Co (fN n) dO xs
theorem bo(h:au xs=true):xs.all bL=true/\xs.length<=8/\1<=xs.length:=by
 simp only[au,up,Is]at h;exact⟨h.2,h.1.2,h.1.1⟩
theorem VY(n:Vc)(xs:List aq)(f:xs.length<=9223372036854775807):aF 299 (al n) (aE xs) (.tup (if aI n&&au xs then[Z (fO n xs).1,Z (fO n xs).2,B true]else[Z 0,Z 0,B false])):=by
 have d:=FI n;have c:=vD xs f
 cases b:aI n with
 |false=>
  rw[b]at d;refine Dp func299 λC hP hN=>?_;exact Gy
 |true=>
  rw[b]at d
  cases a:au xs with
  |false=>
   rw[a]at c;refine Dp func299 λC hP hN=>?_;exact Gy
  |true=>
   rw[a]at c
   have hn:ay 16384 n=true:=by simp only[aI,up]at b;exact b.1
   obtain⟨h1,i,_⟩:=bo a;have e:=Q1 n 326 328 (fL n) dN xs (by omega) (λv g=>VW n v hn g) VU h1;have hL:Co (fL n) dN xs=fO n xs:=rfl;rw[hL]at e;generalize fO n xs=r at *;refine Dp func299 λC hP hN=>?_;have j:=VR n;exact GS trivial
theorem VZ(n:Vc)(xs:List aq)(f:xs.length<=9223372036854775807):aF 300 (al n) (aE xs) (.tup (if aI n&&au xs then[Z (fP n xs).1,Z (fP n xs).2,B true]else[Z 0,Z 0,B false])):=by
 have d:=FI n;have c:=vD xs f
 cases b:aI n with
 |false=>
  rw[b]at d;refine Dp func300 λC hP hN=>?_;exact Gy
 |true=>
  rw[b]at d
  cases a:au xs with
  |false=>
   rw[a]at c;refine Dp func300 λC hP hN=>?_;exact Gy
  |true=>
   rw[a]at c
   have hn:ay 16384 n=true:=by simp only[aI,up]at b;exact b.1
   obtain⟨h1,i,_⟩:=bo a;have e:=Q1 n 329 330 (fN n) dO xs (by omega) (λv g=>VX n v hn g) VV h1;have hL:Co (fN n) dO xs=fP n xs:=rfl;rw[hL]at e;generalize fP n xs=r at *;refine Dp func300 λC hP hN=>?_;have j:=VT n;exact GS trivial
abbrev z8(a:List aq)(c:Int)(b:List aq)(d:Int):PV:=.agg [aE a,Z c,aE b,Z d]
def pQ(a:List aq)(r:Int):Bool:=au a&&decide (0<=r)&&decide (r<=1048576)
theorem Q2(a:List aq)(r:Int)(b:a.length<=9223372036854775807):aR 298 (.agg [aE a,Z r]) (B (pQ a r)):=by
 have c:=vD a b;have hs:pQ a r=(au a&&decide (0<=r)&&decide (r<=1048576)):=rfl;rw[hs];generalize au a=p at *;cases p
 all_goals
  refine Dp func298 λC hP hN=>?_;exact Gy
  all_goals (try (simp only[Is,Zj]at hgd;intros;omega))
theorem V0(a:List aq)(c:Int)(b:List aq)(d:Int):lR 245 (aE a) (Z c) (aE b) (Z d) (z8 a c b d):=by
 refine Dp func245 λC hP hN=>?_;exact Gy
theorem Aa{val:aq->Int}{bet:Int->Int->Bool}{xs:List aq}{m:Int}(a:0<=m)(h:∀v∈xs,-m<=val v/\val v<=m):∀i,-m<=(gn val bet xs i).1/\(gn val bet xs i).1<=m
 |0=>by simp[gn];omega
 |i+1=>by
  have ih:=Aa (val:=val) (bet:=bet) a h i;simp only[gn];split
  .rename_i v b
   split
   .exact h v (An b)
   .exact ih
  .exact ih
theorem Hx{v:aq}(hn:ay 16384 n=true)(a:bL v=true):(-13194139533312<=fL n v/\fL n v<=13194139533312)/\(-13194139533312<=fN n v/\fN n v<=13194139533312):=by
 rw[bu]at hn;rw[fC]at a;obtain⟨n1,n2,b⟩:=hn;obtain⟨c,d,e⟩:=a;have a1:=oJ n1 c;have f:=oJ n2 d;have g:=oJ b e;unfold fL fN;omega
theorem Dn(hn:ay 16384 n=true)(b:xs.all bL=true):-13194139533312<=(fO n xs).1/\(fO n xs).1<=13194139533312:=
 Aa (by decide) (λv a=>(Hx hn (L4.1 b v a)).1) _
theorem Do(hn:ay 16384 n=true)(b:xs.all bL=true):-13194139533312<=(fP n xs).1/\(fP n xs).1<=13194139533312:=
 Aa (by decide) (λv a=>(Hx hn (L4.1 b v a)).2) _
theorem Kg(f:ay 16384 v=true):xx v<=805306368:=by
 rw[bu,aV,aV,aV]at f;obtain⟨c,d,e⟩:=v;simp only at f;have m1:=bj (a:=c) (b:=c) 16384 16384 (by omega) (by omega) (by omega) (by omega);have m2:=bj (a:=d) (b:=d) 16384 16384 (by omega) (by omega) (by omega) (by omega);have g:=bj (a:=e) (b:=e) 16384 16384 (by omega) (by omega) (by omega) (by omega);show(c*c+d*d+e*e).toNat<=_;omega
theorem vH(v:Vc):0<=eV v/\eV v<=32768:=by
 unfold eV;split
 .rename_i a
  have b:ay 16384 v=true:=by simp only[aI,up]at a;exact a.1
  have h1:=Kg b;have c:=(sB (n:=xx v) (by omega)).1
  have d:cY (xx v)<32768:=by
   rcases Nat.lt_or_ge (cY (xx v)) 32768 with h|h
   .exact h
   .have:=yAp h h;omega
  unfold tu;split<;>omega
 .omega
def lJ(n:Vc)(a:List aq)(c:Int)(b:List aq)(d:Int):Int:=(fO n a).1-(fP n b).1-eV n*(c+d)
def kr(n:Vc)(a:List aq)(c:Int)(b:List aq)(d:Int):Bool:=pQ a c&&pQ b d&&aI n
theorem V4(n:Vc)(a:List aq)(c:Int)(b:List aq)(d:Int)(s:a.length<=9223372036854775807)(i:b.length<=9223372036854775807):aF 283 (z8 a c b d) (al n) (.tup (if kr n a c b d then[Z (lJ n a c b d),B true]else[Z 0,B false])):=by
 have p:=Q2 a c s;have r:=Q2 b d i;have A:kr n a c b d=(pQ a c&&pQ b d&&aI n):=rfl;rw[A]
 cases j:pQ a c with
 |false=>
  rw[j]at p;refine Dp func283 λC hP hN=>?_;exact Gy
 |true=>
  rw[j]at p
  cases k:pQ b d with
  |false=>
   rw[k]at r;refine Dp func283 λC hP hN=>?_;exact Gy
  |true=>
   rw[k]at r;simp only[pQ,up,Is]at j k;obtain⟨⟨e,v⟩,x⟩:=j;obtain⟨⟨f,y⟩,z⟩:=k;have cl:=VY n a s;have o:=VZ n b i;rw[e,yAD]at cl;rw[f,yAD]at o
   cases m:aI n with
   |false=>
    rw[m]at cl;simp at cl;refine Dp func283 λC hP hN=>?_;exact Gy
   |true=>
    rw[m]at cl o;simp at cl o
    have hn:ay 16384 n=true:=by simp only[aI,up]at m;exact m.1
    have E:=Dn hn (bo e).1;have F:=Do hn (bo f).1;have G:=vH n;have D:=QZ n;have u:lJ n a c b d=(fO n a).1-(fP n b).1-eV n*(c+d):=rfl;rw[u];generalize fO n a=l at *;generalize fP n b=g at *;generalize eV n=q at *;have m1:=bj (a:=q) (b:=c+d) 32768 2097152 (by omega) (by omega) (by omega) (by omega);have w1:i64.wrap (c+d)=c+d:=aa;have w2:i64.wrap (q*(c+d))=q*(c+d):=aa;have H:i64.wrap (l.1-g.1)=l.1-g.1:=aa;have I:i64.wrap (l.1-g.1-q*(c+d))=l.1-g.1-q*(c+d):=aa;refine Dp func283 λC hP hN=>?_;exact Gy
def iU(n:Vc)(a:List aq)(c:Int)(b:List aq)(d:Int):Bool:=kr n a c b d&&decide (0<lJ n a c b d)
theorem V5(n:Vc)(a:List aq)(c:Int)(b:List aq)(d:Int)(i:a.length<=9223372036854775807)(e:b.length<=9223372036854775807):aF 244 (z8 a c b d) (al n) (B (iU n a c b d)):=by
 have f:=V4 n a c b d i e;have hs:iU n a c b d=(kr n a c b d&&decide (0<lJ n a c b d)):=rfl;rw[hs];generalize lJ n a c b d=m at *;cases g:kr n a c b d<;>rw[g]at f<;>simp at f
 all_goals
  refine Dp func244 λC hP hN=>?_;exact Gy
theorem V7(n:Vc)(a:List aq)(c:Int)(b:List aq)(d:Int)(f:a.length<=9223372036854775807)(e:b.length<=9223372036854775807):wo 210 (al n) (aE a) (Z c) (aE b) (Z d) (B (iU n a c b d)):=by
 have g:=V5 n a c b d f e;generalize iU n a c b d=s at *;refine Dp func210 λC hP hN=>?_;have i:=V0 a c b d;exact GS trivial
def bX(w:Int)(s x:Iv):Iv:=(s.1+w*x.1,s.2+w*x.2)
def qY(w:Int)(s x:aq):aq:=(bX w s.1 x.1,bX w s.2.1 x.2.1,bX w s.2.2 x.2.2)
def cL(l:List aq)(ws:List Int):Nat->aq
 |0=>ba
 |i+1=>match l[i]?,ws[i]? with
  |some x,some w=>qY w (cL l ws i) x
  |_,_=>cL l ws i
def aQ(ws:List Int):Nat->Int
 |0=>0
 |i+1=>aQ ws i+(ws[i]?).getD 0
def wB(w:Int):Bool:=!(decide (w<0)||decide (65536<w))
def dt(l:List aq)(ws:List Int):Bool:=au l&&decide (ws.length=l.length)&&ws.all wB&& !(decide (aQ ws ws.length<1)||decide (65536<aQ ws ws.length))
abbrev eX(l:List aq)(ws:List Int):PV:=.tup (if dt l ws then[bi (cL l ws ws.length),Z (aQ ws ws.length),B true]else[bi ba,Z 0,B false])
theorem gY{w:Int}{s x:Iv}{m:Nat}(d:0<=w/\w<=65536)(c:db x=true)(hs:(-((m:Int)*17592186044416)<=s.1/\s.1<=(m:Int)*17592186044416)/\(-((m:Int)*17592186044416)<=s.2/\s.2<=(m:Int)*17592186044416)):
 ((-17592186044416<=w*x.1/\w*x.1<=17592186044416)/\(-17592186044416<=w*x.2/\w*x.2<=17592186044416))/\(-(((m+1:Nat):Int)*17592186044416)<=(bX w s x).1/\(bX w s x).1<=((m+1:Nat):Int)*17592186044416)/\(-(((m+1:Nat):Int)*17592186044416)<=(bX w s x).2/\(bX w s x).2<=((m+1:Nat):Int)*17592186044416):=by
 rw[fg]at c;have m1:=bj (a:=w) (b:=x.1) 65536 268435456 (by omega) (by omega) (by omega) (by omega);have m2:=bj (a:=w) (b:=x.2) 65536 268435456 (by omega) (by omega) (by omega) (by omega);simp only[bX];omega
def Cp(m:Nat)(s:Iv):Prop:=(-((m:Int)*17592186044416)<=s.1/\s.1<=(m:Int)*17592186044416)/\(-((m:Int)*17592186044416)<=s.2/\s.2<=(m:Int)*17592186044416)
def sC(m:Nat)(s:aq):Prop:=Cp m s.1/\Cp m s.2.1/\Cp m s.2.2
theorem Ac{l:List aq}{ws:List Int}(a:∀v∈l,bL v=true)(h:∀w∈ws,wB w=true):∀i:Nat,sC i (cL l ws i)
 |0=>by simp[cL,sC,Cp,ba]
 |i+1=>by
  have ih:=Ac a h i;simp only[cL];split
  .rename_i x w d c
   have h1:=a x (An d);have b:=h w (An c);rw[fC]at h1;simp only[wB,ZK,yAk,Zj]at b;exact⟨(gY ⟨by omega,by omega⟩ h1.1 ih.1).2,(gY ⟨by omega,by omega⟩ h1.2.1 ih.2.1).2,(gY ⟨by omega,by omega⟩ h1.2.2 ih.2.2).2⟩
  .obtain⟨⟨⟨a1,e⟩,f,g⟩,⟨⟨b1,j⟩,k,m⟩,⟨c1,n⟩,o,p⟩:=ih
   refine⟨⟨⟨?_,?_⟩,?_,?_⟩,⟨⟨?_,?_⟩,?_,?_⟩,⟨?_,?_⟩,?_,?_⟩<;>omega
def kz(s x:aq)(w:Int)(k:Nat):List AV:=[.pv (Z (if 0<k then(bX w s.1 x.1).1 else s.1.1)),.pv (Z (if 0<k then(bX w s.1 x.1).2 else s.1.2)),.pv (Z (if 1<k then(bX w s.2.1 x.2.1).1 else s.2.1.1)),.pv (Z (if 1<k then(bX w s.2.1 x.2.1).2 else s.2.1.2)),.pv (Z (if 2<k then(bX w s.2.2 x.2.2).1 else s.2.2.1)),.pv (Z (if 2<k then(bX w s.2.2 x.2.2).2 else s.2.2.2))]
abbrev b6(s:aq):List AV:=[.pv (Z s.1.1),.pv (Z s.1.2),.pv (Z s.2.1.1),.pv (Z s.2.1.2),.pv (Z s.2.2.1),.pv (Z s.2.2.2)]
set_option maxRecDepth 4000 in
theorem Q3(l:List aq)(ws:List Int)(hl:l.length<=9223372036854775807)(X:ws.length<=9223372036854775807):aF 257 (aE l) (zs ws) (eX l ws):=by
 have cp:=vD l hl;have hc:dt l ws=(au l&&decide (ws.length=l.length)&&ws.all wB&& !(decide (aQ ws ws.length<1)||decide (65536<aQ ws ws.length))):=rfl;have z6:bi ba=V6 0 0 0 0 0 0:=rfl
 cases hp:au l with
 |false=>
  have hf:dt l ws=false:=by rw[hc,hp];simp
  rw[hp]at cp
  have H:eX l ws=.tup [V6 0 0 0 0 0 0,Z 0,B false]:=by unfold eX;rw[hf];rfl
  rw[H];refine Dp func257 λC hP hN=>?_;exact Gy
 |true=>
 rw[hp]at cp;by_cases J:ws.length=l.length
 case neg=>
  have hf:dt l ws=false:=by rw[hc];simp[J]
  have E:((ws.length:Int)!=(l.length:Int))=true:=by simp;omega
  have bq:¬(ws.length:Int)=(l.length:Int):=by omega
  have H:eX l ws=.tup [V6 0 0 0 0 0 0,Z 0,B false]:=by unfold eX;rw[hf];rfl
  rw[H];refine Dp func257 λC hP hN=>?_;exact Gy
 have E:((ws.length:Int)!=(l.length:Int))=false:=by simp[J]
 simp only[au,up,Is]at hp;obtain⟨⟨ak,ar⟩,U⟩:=hp;have V:=L4.1 U
 have R:dt l ws=(ws.all wB&& !(decide (aQ ws ws.length<1)||decide (65536<aQ ws ws.length))):=by
  have e1:au l=true:=by simp only[au,up,Is];exact⟨⟨ak,ar⟩,U⟩
  rw[hc,e1,ZH J];simp
 clear hc
 cases s:ws.all wB with
 |false=>
  have hf:dt l ws=false:=by rw[R,s];rfl
  have H:eX l ws=.tup [V6 0 0 0 0 0 0,Z 0,B false]:=by unfold eX;rw[hf];rfl
  rw[H];refine Dp func257 λC hP hN=>?_;refine GT E ?_;refine WP.loopN [12] ws.length (λi st=>st.t 0=.pv (aE l)/\st.t 4=.ptr 4 0/\st.h 4=some (.box (b6 ba) true false)/\st.t 7=.ptr 7 0/\st.h 7=some (.box (b6 (cL l ws i)) true false)/\st.t 8=.pv (Z (aQ ws i))/\st.t 24=.pv (zs ws)/\st.t 25=.pv (Z ws.length)/\st.t 26=.pv (Z i)/\st.h 12=none/\(∀k x,k<i->ws[k]?=some x->wB x=true)/\sC i (cL l ws i)/\0<=aQ ws i/\aQ ws i<=(i:Int)*65536) (by simp[cL,aQ,ba,sC,Cp]) ?_;rintro i st hi ⟨g0,g4,f,m,b,n,c,d,e,a,hq,L,a7,a8⟩;by_cases g:i<ws.length
  .have hw:=ab g X
   generalize z:ws[i]=w at *
   have F:ws[i]?=some w:=by rw[an g,z]
   have u:i<l.length:=by omega
   generalize G:l[i]=x at *
   have M:l[i]?=some x:=by rw[an u,G]
   have a6:=mY (p:=wB) F hq
   cases v:wB w with
   |false=>
    have y:w<0\/65536<w:=by
     simp only[wB,Bool.not_eq_false',ZX,Is]at v;exact v
    rcases y with I|I
    .skip
     exact GS (zAd g0 g4 f m b n c d e a g (be F z I))
    .have h10:¬w<0:=by omega
     exact GS (zAe g0 g4 f m b n c d e a g F z I h10)
   |true=>
    have W:=a6 v
    have y:¬w<0/\¬65536<w:=by
     simp only[wB,ZK,yAk,Zj]at v;exact v
    obtain⟨I,h10⟩:=y;have r:=V x (An M);rw[fC]at r
    have hS:cL l ws (i+1)=qY w (cL l ws i) x:=by simp only[cL,F,M]
    have N:aQ ws (i+1)=aQ ws i+w:=by simp only[aQ,F,Zn]
    obtain⟨Y,r2,r3⟩:=L;have a1:=gY (w:=w) (x:=x.1) ⟨by omega,by omega⟩ r.1 Y;have O:=gY (w:=w) (x:=x.2.1) ⟨by omega,by omega⟩ r.2.1 r2;have P:=gY (w:=w) (x:=x.2.2) ⟨by omega,by omega⟩ r.2.2 r3;have K:sC (i+1) (qY w (cL l ws i) x):=⟨a1.2,O.2,P.2⟩;generalize cL l ws i=S at *;generalize cL l ws (i+1)=S' at *;generalize aQ ws i=T at *;generalize aQ ws (i+1)=T' at *;subst hS;subst N;have wT:i64.wrap (T+w)=T+w:=aa;have d1:(bX w S.1 x.1).1=S.1.1+w*x.1.1:=rfl;have d2:(bX w S.1 x.1).2=S.1.2+w*x.1.2:=rfl;have d3:(bX w S.2.1 x.2.1).1=S.2.1.1+w*x.2.1.1:=rfl;have d4:(bX w S.2.1 x.2.1).2=S.2.1.2+w*x.2.1.2:=rfl;have d5:(bX w S.2.2 x.2.2).1=S.2.2.1+w*x.2.2.1:=rfl;have d6:(bX w S.2.2 x.2.2).2=S.2.2.2+w*x.2.2.2:=rfl;have u1:i64.wrap (w*x.1.1)=w*x.1.1:=aa;have u2:i64.wrap (w*x.1.2)=w*x.1.2:=aa;have u3:i64.wrap (w*x.2.1.1)=w*x.2.1.1:=aa;have u4:i64.wrap (w*x.2.1.2)=w*x.2.1.2:=aa;have u5:i64.wrap (w*x.2.2.1)=w*x.2.2.1:=aa;have u6:i64.wrap (w*x.2.2.2)=w*x.2.2.2:=aa;have v1:i64.wrap (S.1.1+w*x.1.1)=(bX w S.1 x.1).1:=(aa (by rw[<-d1];omega) (by rw[<-d1];omega)).trans d1.symm;have v2:i64.wrap (S.1.2+w*x.1.2)=(bX w S.1 x.1).2:=(aa (by rw[<-d2];omega) (by rw[<-d2];omega)).trans d2.symm;have v3:i64.wrap (S.2.1.1+w*x.2.1.1)=(bX w S.2.1 x.2.1).1:=(aa (by rw[<-d3];omega) (by rw[<-d3];omega)).trans d3.symm;have v4:i64.wrap (S.2.1.2+w*x.2.1.2)=(bX w S.2.1 x.2.1).2:=(aa (by rw[<-d4];omega) (by rw[<-d4];omega)).trans d4.symm;have v5:i64.wrap (S.2.2.1+w*x.2.2.1)=(bX w S.2.2 x.2.2).1:=(aa (by rw[<-d5];omega) (by rw[<-d5];omega)).trans d5.symm;have v6:i64.wrap (S.2.2.2+w*x.2.2.2)=(bX w S.2.2 x.2.2).2:=(aa (by rw[<-d6];omega) (by rw[<-d6];omega)).trans d6.symm;have D:b6 (qY w S x)=kz S x w 3:=rfl;have A:b6 S=kz S x w 0:=rfl;rw[A]at b;rw[D];refine GT (zAe g0 g4 f m n c d e a g u F z M (it G I h10 wT b)) ?_;refine WP.loopN [12] 3 (λk st=>st.t 0=.pv (aE l)/\st.t 4=.ptr 4 0/\st.h 4=some (.box (b6 ba) true false)/\st.t 7=.ptr 7 0/\st.h 7=some (.box (kz S x w k) true false)/\st.t 8=.pv (Z (T+w))/\st.t 10=.pv (Z w)/\st.t 24=.pv (zs ws)/\st.t 25=.pv (Z ws.length)/\st.t 26=.pv (Z i)/\st.h 12=none/\st.t 44=.pv (bi x)/\st.t 45=.pv (Z k)) (by simp[g0,g4,f,m,n,c,d,e,a,b,kz]) ?_;clear g0 g4 f m b n c d e a hq;rintro k st hk ⟨g0,g4,f,m,b,n,o,c,d,e,a,q,j⟩;clear d1 d2 d3 d4 d5 d6 a1 O P Y r2 r3;rcases dA hk with rfl|rfl|rfl|rfl
    all_goals (simp[kz]at b j)
    .skip
     exact GS (zAe g0 g4 f m n o c d e a q j b u1 (go u2 v1 v2 @kz.eq_1))
    .skip
     exact GS (zAe g0 g4 f m n o c d e a q j b u3 (go u4 v3 v4 @kz.eq_1))
    .skip
     exact GS (zAe g0 g4 f m n o c d e a q j b u5 (go u6 v5 v6 @kz.eq_1))
    .skip
     refine GT (zAe g0 g4 f m n o c d e a q j b hw (gA g @kz.eq_1)) ?_
     all_goals exact⟨W,K,by omega,by omega⟩
  .have:=pD hq g
   rw[this]at s;cases s
 |true=>
  refine Dp func257 λC hP hN=>?_;refine GT E ?_;refine WP.loopN [12] ws.length (λi st=>st.t 0=.pv (aE l)/\st.t 4=.ptr 4 0/\st.h 4=some (.box (b6 ba) true false)/\st.t 7=.ptr 7 0/\st.h 7=some (.box (b6 (cL l ws i)) true false)/\st.t 8=.pv (Z (aQ ws i))/\st.t 24=.pv (zs ws)/\st.t 25=.pv (Z ws.length)/\st.t 26=.pv (Z i)/\st.h 12=none/\sC i (cL l ws i)/\0<=aQ ws i/\aQ ws i<=(i:Int)*65536) (by simp[cL,aQ,ba,sC,Cp]) ?_;rintro i st hi ⟨g0,g4,f,m,b,n,c,d,e,a,L,a7,a8⟩;by_cases g:i<ws.length
  .have hw:=ab g X
   generalize z:ws[i]=w at *
   have F:ws[i]?=some w:=by rw[an g,z]
   have u:i<l.length:=by omega
   generalize G:l[i]=x at *
   have M:l[i]?=some x:=by rw[an u,G]
   have v:=L4.1 s w (An F)
   have y:¬w<0/\¬65536<w:=by
    simp only[wB,ZK,yAk,Zj]at v;exact v
   obtain⟨I,h10⟩:=y;have r:=V x (An M);rw[fC]at r
   have hS:cL l ws (i+1)=qY w (cL l ws i) x:=by simp only[cL,F,M]
   have N:aQ ws (i+1)=aQ ws i+w:=by simp only[aQ,F,Zn]
   obtain⟨Y,r2,r3⟩:=L;have a1:=gY (w:=w) (x:=x.1) ⟨by omega,by omega⟩ r.1 Y;have O:=gY (w:=w) (x:=x.2.1) ⟨by omega,by omega⟩ r.2.1 r2;have P:=gY (w:=w) (x:=x.2.2) ⟨by omega,by omega⟩ r.2.2 r3;have K:sC (i+1) (qY w (cL l ws i) x):=⟨a1.2,O.2,P.2⟩;generalize cL l ws i=S at *;generalize cL l ws (i+1)=S' at *;generalize aQ ws i=T at *;generalize aQ ws (i+1)=T' at *;subst hS;subst N;have wT:i64.wrap (T+w)=T+w:=aa;have d1:(bX w S.1 x.1).1=S.1.1+w*x.1.1:=rfl;have d2:(bX w S.1 x.1).2=S.1.2+w*x.1.2:=rfl;have d3:(bX w S.2.1 x.2.1).1=S.2.1.1+w*x.2.1.1:=rfl;have d4:(bX w S.2.1 x.2.1).2=S.2.1.2+w*x.2.1.2:=rfl;have d5:(bX w S.2.2 x.2.2).1=S.2.2.1+w*x.2.2.1:=rfl;have d6:(bX w S.2.2 x.2.2).2=S.2.2.2+w*x.2.2.2:=rfl;have u1:i64.wrap (w*x.1.1)=w*x.1.1:=aa;have u2:i64.wrap (w*x.1.2)=w*x.1.2:=aa;have u3:i64.wrap (w*x.2.1.1)=w*x.2.1.1:=aa;have u4:i64.wrap (w*x.2.1.2)=w*x.2.1.2:=aa;have u5:i64.wrap (w*x.2.2.1)=w*x.2.2.1:=aa;have u6:i64.wrap (w*x.2.2.2)=w*x.2.2.2:=aa;have v1:i64.wrap (S.1.1+w*x.1.1)=(bX w S.1 x.1).1:=(aa (by rw[<-d1];omega) (by rw[<-d1];omega)).trans d1.symm;have v2:i64.wrap (S.1.2+w*x.1.2)=(bX w S.1 x.1).2:=(aa (by rw[<-d2];omega) (by rw[<-d2];omega)).trans d2.symm;have v3:i64.wrap (S.2.1.1+w*x.2.1.1)=(bX w S.2.1 x.2.1).1:=(aa (by rw[<-d3];omega) (by rw[<-d3];omega)).trans d3.symm;have v4:i64.wrap (S.2.1.2+w*x.2.1.2)=(bX w S.2.1 x.2.1).2:=(aa (by rw[<-d4];omega) (by rw[<-d4];omega)).trans d4.symm;have v5:i64.wrap (S.2.2.1+w*x.2.2.1)=(bX w S.2.2 x.2.2).1:=(aa (by rw[<-d5];omega) (by rw[<-d5];omega)).trans d5.symm;have v6:i64.wrap (S.2.2.2+w*x.2.2.2)=(bX w S.2.2 x.2.2).2:=(aa (by rw[<-d6];omega) (by rw[<-d6];omega)).trans d6.symm;have D:b6 (qY w S x)=kz S x w 3:=rfl;have A:b6 S=kz S x w 0:=rfl;rw[A]at b;rw[D];refine GT (zAe g0 g4 f m n c d e a g u F z M (it G I h10 wT b)) ?_;refine WP.loopN [12] 3 (λk st=>st.t 0=.pv (aE l)/\st.t 4=.ptr 4 0/\st.h 4=some (.box (b6 ba) true false)/\st.t 7=.ptr 7 0/\st.h 7=some (.box (kz S x w k) true false)/\st.t 8=.pv (Z (T+w))/\st.t 10=.pv (Z w)/\st.t 24=.pv (zs ws)/\st.t 25=.pv (Z ws.length)/\st.t 26=.pv (Z i)/\st.h 12=none/\st.t 44=.pv (bi x)/\st.t 45=.pv (Z k)) (by simp[g0,g4,f,m,n,c,d,e,a,b,kz]) ?_;clear g0 g4 f m b n c d e a;rintro k st hk ⟨g0,g4,f,m,b,n,o,c,d,e,a,q,j⟩;clear d1 d2 d3 d4 d5 d6 a1 O P Y r2 r3;rcases dA hk with rfl|rfl|rfl|rfl
   all_goals (simp[kz]at b j)
   .skip
    exact GS (zAe g0 g4 f m n o c d e a q j b u1 (go u2 v1 v2 @kz.eq_1))
   .skip
    exact GS (zAe g0 g4 f m n o c d e a q j b u3 (go u4 v3 v4 @kz.eq_1))
   .skip
    exact GS (zAe g0 g4 f m n o c d e a q j b u5 (go u6 v5 v6 @kz.eq_1))
   .skip
    refine GT (zAe g0 g4 f m n o c d e a q j b hw (gA g @kz.eq_1)) ?_
    all_goals exact⟨K,by omega,by omega⟩
  .have aj:i=ws.length:=by omega
   subst aj
   have Q:dt l ws=!(decide (aQ ws ws.length<1)||decide (65536<aQ ws ws.length)):=by rw[R,s];simp
   generalize ah:aQ ws ws.length=T at *;generalize ad:cL l ws ws.length=S at *;by_cases N:T<1\/65536<T
   .have hf:dt l ws=false:=by
     rw[Q];rcases N with h|h
     all_goals simp[h]
    have H:eX l ws=.tup [V6 0 0 0 0 0 0,Z 0,B false]:=by unfold eX;rw[hf];rfl
    rw[H];rcases N with h|h
    .skip
     exact GS (zAc g0 g4 f m b n c d e (gA a h))
    .have h2:¬T<1:=by omega
     exact GS (zAd g0 g4 f m b n c d e a h h2)
   .have h1:¬T<1:=by omega
    have h2:¬65536<T:=by omega
    have hf:dt l ws=true:=by rw[Q];simp[h1,h2]
    have H:eX l ws=.tup [bi S,Z T,B true]:=by unfold eX;rw[hf,ad,ah];rfl
    rw[H];exact GS (zAd g0 g4 f m b n c d e a h1 h2)
def eN(l:List Vc):Bool:=decide (1<=l.length)&&decide (l.length<=8)&&l.all (ay 268435456)
theorem QB(l:List Vc)(S:l.length<=9223372036854775807):aR 211 (aw l) (B (eN l)):=by
 by_cases R:l.length<1\/8<l.length
 .have hf:eN l=false:=by
   cases y:eN l with
   |false=>rfl
   |true=>
    exfalso;unfold eN at y;simp only[up,Is]at y;obtain⟨⟨N,O⟩,_⟩:=y;omega
  rw[hf]
  have z:(l.length:Int)<1\/(8:Int)<l.length:=by omega
  rcases z with h|h
  all_goals
   refine Dp func211 λC hP hN=>?_;exact Gy
 have P:¬(l.length:Int)<1:=by omega
 have Q:¬(8:Int)<l.length:=by omega
 have s:1<=l.length:=by omega
 have u:l.length<=8:=by omega
 have K:eN l=l.all (ay 268435456):=by
  unfold eN;rw[ZH s,ZH u];simp
 rw[K];refine Dp func211 λC hP hN=>?_
 cases e:l.all (ay 268435456)with
 |true=>
  refine Gz ?_;refine WP.loopN [4] l.length (λi st=>True/\st.t 15=.pv (aw l)/\st.t 16=.pv (Z l.length)/\st.t 17=.pv (Z i)/\st.h 4=none) (by simp) ?_;rintro i st hi ⟨g1,g,j,f,m⟩;by_cases d:i<l.length
  .have r:=ab d (by omega)
   have L:=bu.1 (L4.1 e _ (Zs d));obtain⟨E,F,G⟩:=L;rw[aV]at E F G;generalize n:l[i]=v at *
   have I:l[i]?=some v:=by rw[an d,n]
   refine Gz ?_;refine WP.loopN [] 3 (λk st=>True/\st.t 15=.pv (aw l)/\st.t 16=.pv (Z l.length)/\st.t 17=.pv (Z i)/\st.t 21=.pv (al v)/\st.t 22=.pv (Z k)) (by simp[g1,g,j,f]) ?_;clear g1 g j f m;rintro k st A ⟨g1,g,j,f,gA,q⟩;rcases dA A with rfl|rfl|rfl|rfl
   all_goals
    exact Gy
  .skip
   exact Gy
 |false=>
  refine Gz ?_;refine WP.loopN [4] l.length (λi st=>True/\st.t 15=.pv (aw l)/\st.t 16=.pv (Z l.length)/\st.t 17=.pv (Z i)/\st.h 4=none/\∀k x,k<i->l[k]?=some x->ay 268435456 x=true) (by simp) ?_;rintro i st hi ⟨g1,g,j,f,m,hq⟩;by_cases d:i<l.length
  .have r:=ab d (by omega)
   generalize n:l[i]=v at *
   have I:l[i]?=some v:=by rw[an d,n]
   have D:=mY (p:=ay 268435456) I hq;refine Gz ?_;refine WP.loopN [] 3 (λk st=>True/\st.t 15=.pv (aw l)/\st.t 16=.pv (Z l.length)/\st.t 17=.pv (Z i)/\st.t 21=.pv (al v)/\st.t 22=.pv (Z k)/\(0<k->fA v.1 268435456=true)/\(1<k->fA v.2.1 268435456=true)/\(2<k->fA v.2.2 268435456=true)) (by simp[g1,g,j,f]) ?_;clear g1 g j f m hq;rintro k st A ⟨g1,g,j,f,gA,q,H,J,M⟩;rcases dA A with rfl|rfl|rfl|rfl
   .skip
    with_reducible repeat' (first|refine Sp.h ?_|((first|refine Ss.h ?_|(refine Sb.h ?_ ?_ ?_<;>(try intro hgd)<;>try exact Xy))<;>simp -implicitDefEqProofs (maxSteps:=2000000) [hP,hN,g1,g,j,f,gA,q,r])|refine X2 ?_ ?_|(refine Xd ?_ ?_<;>intro hcd<;>try exact Xx))
    all_goals (try (rw[aV];simp only[Zj,Is]at hgd hcd;omega))
   .skip
    with_reducible repeat' (first|refine Sp.h ?_|((first|refine Ss.h ?_|(refine Sb.h ?_ ?_ ?_<;>(try intro hgd)<;>try exact Xy))<;>simp -implicitDefEqProofs (maxSteps:=2000000) [hP,hN,g1,g,j,f,gA,q,r])|refine X2 ?_ ?_|(refine Xd ?_ ?_<;>intro hcd<;>try exact Xx))
    all_goals (try (exact⟨H (by omega),by rw[aV];simp only[Zj,Is]at hgd hcd;omega⟩))
   .skip
    with_reducible repeat' (first|refine Sp.h ?_|((first|refine Ss.h ?_|(refine Sb.h ?_ ?_ ?_<;>(try intro hgd)<;>try exact Xy))<;>simp -implicitDefEqProofs (maxSteps:=2000000) [hP,hN,g1,g,j,f,gA,q,r])|refine X2 ?_ ?_|(refine Xd ?_ ?_<;>intro hcd<;>try exact Xx))
    all_goals (try (exact⟨H (by omega),J (by omega),by rw[aV];simp only[Zj,Is]at hgd hcd;omega⟩))
   .have hn:ay 268435456 v=true:=bu.2 ⟨H (by omega),J (by omega),M (by omega)⟩
    have o:=D hn;refine Gz ?_
    all_goals (try exact λk a b c=>o k (a,b,c))
  .have:=pD hq d
   rw[this]at e;cases e
def aL(v w:Vc):Vc:=(v.1-w.1,v.2.1-w.2.1,v.2.2-w.2.2)
def bg(v w:Vc):Int:=v.1*w.1+v.2.1*w.2.1+v.2.2*w.2.2
theorem LK(v w:Vc)(b:em 1152921504606846976 v)(c:em 1152921504606846976 w):aF 246 (al v) (al w) (al (aL v w)):=by
 obtain⟨g,i,j⟩:=b;obtain⟨w1,w2,k⟩:=c;have d:i64.wrap (v.1-w.1)=v.1-w.1:=aa;have e:i64.wrap (v.2.1-w.2.1)=v.2.1-w.2.1:=aa;have f:i64.wrap (v.2.2-w.2.2)=v.2.2-w.2.2:=aa;have a:aL v w=(v.1-w.1,v.2.1-w.2.1,v.2.2-w.2.2):=rfl;rw[a];refine Dp func246 λC hP hN=>?_;exact Gy
theorem kX{w:Vc}{n:Nat}(a:em m v)(b:em n w):(-((m*n:Nat):Int)<=v.1*w.1/\v.1*w.1<=((m*n:Nat):Int))/\(-((m*n:Nat):Int)<=v.2.1*w.2.1/\v.2.1*w.2.1<=((m*n:Nat):Int))/\(-((m*n:Nat):Int)<=v.2.2*w.2.2/\v.2.2*w.2.2<=((m*n:Nat):Int)):=
 ⟨bj m n a.1.1 a.1.2 b.1.1 b.1.2,bj m n a.2.1.1 a.2.1.2 b.2.1.1 b.2.1.2,bj m n a.2.2.1 a.2.2.2 b.2.2.1 b.2.2.2⟩
theorem Ce(v w:Vc)(m n:Nat)(c:em m v)(d:em n w)(a:3*(m*n)<=9223372036854775807):aF 285 (al v) (al w) (Z (bg v w)):=by
 obtain⟨l,o,p⟩:=kX c d;have b:bg v w=v.1*w.1+v.2.1*w.2.1+v.2.2*w.2.2:=rfl;rw[b];generalize m*n=k at *;have e:i64.wrap (v.1*w.1)=v.1*w.1:=aa;have f:i64.wrap (v.2.1*w.2.1)=v.2.1*w.2.1:=aa;have g:i64.wrap (v.2.2*w.2.2)=v.2.2*w.2.2:=aa;have i:i64.wrap (v.1*w.1+v.2.1*w.2.1)=v.1*w.1+v.2.1*w.2.1:=aa;have j:i64.wrap (v.1*w.1+v.2.1*w.2.1+v.2.2*w.2.2)=v.1*w.1+v.2.1*w.2.1+v.2.2*w.2.2:=aa;refine Dp func285 λC hP hN=>?_;exact Gy
abbrev Iu(l:List Vc)(w:List Int):PV:=.agg [aw l,zs w]
theorem NB(l:List Vc)(h1:1<=l.length)(a:l.length<=8):aW prog 212 [.pv (aw l)] [] [] (.srow [aw l] 2 1 (((List.replicate l.length 0).set 0 65536).map Z)):=by
 refine Dp func212 λC hP hN=>?_;exact GS (go (show(0:Int)<l.length by omega) (show 0<l.length by omega) (show(8:Int)*(l.length:Int)<=281474976710656 by omega) (show(l.length:Int)<=9223372036854775807 by omega))
def bO(l:List Vc)(w:List Int):Nat->Vc
 |0=>(0,0,0)
 |i+1=>match l[i]?,w[i]? with
  |some p,some k=>((bO l w i).1+k*p.1,(bO l w i).2.1+k*p.2.1,(bO l w i).2.2+k*p.2.2)
  |_,_=>bO l w i
structure WgOk(w:List Int):Prop where
 pos:∀k∈w,0<=k
 tot:aQ w w.length<=65536
theorem mX(h:w[i]?=some k):aQ w (i+1)=aQ w i+k:=by simp[aQ,h]
theorem gM(h:∀k∈w,0<=k){j:Nat}(a:i<=j):aQ w i<=aQ w j:=by
 induction a with
 |refl=>exact Int.le_refl _
 |step h1 ih=>
  rename_i m
  cases b:w[m]? with
  |none=>simp only[aQ,b,Option.getD_none];omega
  |some k=>
   have:=h k (An b);rw[mX b];omega
theorem r7(h:∀k∈w,0<=k)(i:Nat):0<=aQ w i:=gM h (ZV i)
theorem xj{m:Int}(a:0<=k)(b:-m<=x/\x<=m):-(k*m)<=k*x/\k*x<=k*m:=by
 refine⟨?_,yAe b.2 a⟩;have:=yAe b.1 a;rw[Int.mul_neg]at this;exact this
theorem dC(h:ay 268435456 v=true):em 268435456 v:=by
 rw[bu,aV,aV,aV]at h;exact⟨⟨by omega,by omega⟩,⟨by omega,by omega⟩,⟨by omega,by omega⟩⟩
theorem Dg{l:List Vc}{w:List Int}(g:l.all (ay 268435456)=true)(e:∀k∈w,0<=k):∀i:Nat,em (aQ w i*268435456) (bO l w i)
 |0=>by simp[bO,aQ,em]
 |i+1=>by
  have ih:=Dg g e i;have j:=gM e (Nat.le_succ i);simp only[bO];split
  .rename_i p k hp f
   have h1:=dC (L4.1 g p (An hp));have d:=e k (An f);rw[mX f];obtain⟨a,b,c⟩:=h1;have r:=xj d a;have s:=xj d b;have u:=xj d c;obtain⟨n,o,q⟩:=ih;exact⟨⟨by simp only;omega,by simp only;omega⟩,⟨by simp only;omega,by simp only;omega⟩,⟨by simp only;omega,by simp only;omega⟩⟩
  .obtain⟨n,o,q⟩:=ih
   have m:aQ w i<=aQ w (i+1):=j;exact⟨⟨by omega,by omega⟩,⟨by omega,by omega⟩,⟨by omega,by omega⟩⟩
theorem jn(b:l.all (ay 268435456)=true)(a:WgOk w)(i:Nat)(hi:i<=w.length):em 17592186044416 (bO l w i):=by
 have h1:=Dg b a.pos i;have c:=gM a.pos hi;have d:=a.tot;obtain⟨e,f,g⟩:=h1;exact⟨⟨by omega,by omega⟩,⟨by omega,by omega⟩,⟨by omega,by omega⟩⟩
def kw(s p:Vc)(k:Int)(j:Nat):List AV:=[.pv (Z (if 0<j then s.1+k*p.1 else s.1)),.pv (Z (if 1<j then s.2.1+k*p.2.1 else s.2.1)),.pv (Z (if 2<j then s.2.2+k*p.2.2 else s.2.2))]
theorem QC(l:List Vc)(ws:List Int)(h8:l.length<=8)(K:ws.length=l.length)(A:l.all (ay 268435456)=true)(u:WgOk ws):aR 247 (Iu l ws) (al (bO l ws l.length)):=by
 refine Dp func247 λC hP hN=>?_;refine Gz ?_;refine WP.loopN [5] l.length (λi st=>st.t 1=.ptr 1 0/\st.h 1=some (.box [.pv (aw l),.pv (zs ws)] true false)/\st.t 2=.ptr 2 0/\st.h 2=some (.box [.pv (Z 0),.pv (Z 0),.pv (Z 0)] true false)/\st.t 3=.ptr 3 0/\st.h 3=some (.box [.pv (Z (bO l ws i).1),.pv (Z (bO l ws i).2.1),.pv (Z (bO l ws i).2.2)] true false)/\st.t 9=.pv (aw l)/\st.t 10=.pv (Z l.length)/\st.t 11=.pv (Z i)/\st.h 5=none) (by simp[bO]) ?_;rintro i st hi ⟨g1,g,g2,m,g3,c,s,e,f,y⟩;by_cases n:i<l.length
 .have L:=ab n (by omega)
  have d:i<ws.length:=by omega
  generalize B:l[i]=p at *
  have D:l[i]?=some p:=by rw[an n,B]
  generalize q:ws[i]=k at *
  have v:ws[i]?=some k:=by rw[an d,q]
  have N:=jn A u i (by omega);have O:=jn A u (i+1) (by omega);have I:=u.pos k (An v)
  have J:k<=65536:=by
   have a1:=mX v;have X:=r7 u.pos i;have Y:=gM u.pos (show i+1<=ws.length by omega);have a4:=u.tot;omega
  have hp:=dC (L4.1 A p (An D))
  have hS:bO l ws (i+1)=((bO l ws i).1+k*p.1,(bO l ws i).2.1+k*p.2.1,(bO l ws i).2.2+k*p.2.2):=by simp only[bO,D,v]
  have m1:=bj (a:=k) (b:=p.1) 65536 268435456 (by omega) (by omega) hp.1.1 hp.1.2;have m2:=bj (a:=k) (b:=p.2.1) 65536 268435456 (by omega) (by omega) hp.2.1.1 hp.2.1.2;have M:=bj (a:=k) (b:=p.2.2) 65536 268435456 (by omega) (by omega) hp.2.2.1 hp.2.2.2;generalize bO l ws i=S at *;generalize bO l ws (i+1)=W at *;subst hS;obtain⟨E,F,G⟩:=O;simp only at E F G;have P:i64.wrap (k*p.1)=k*p.1:=aa;have Q:i64.wrap (k*p.2.1)=k*p.2.1:=aa;have R:i64.wrap (k*p.2.2)=k*p.2.2:=aa;have T:i64.wrap (S.1+k*p.1)=S.1+k*p.1:=aa;have U:i64.wrap (S.2.1+k*p.2.1)=S.2.1+k*p.2.1:=aa;have V:i64.wrap (S.2.2+k*p.2.2)=S.2.2+k*p.2.2:=aa;clear N E F G m1 m2 M hp;have x:[AV.pv (Z S.1),AV.pv (Z S.2.1),AV.pv (Z S.2.2)]=kw S p k 0:=rfl;rw[x]at c;refine Gz ?_;refine WP.loopN [] 3 (λj st=>st.t 1=.ptr 1 0/\st.h 1=some (.box [.pv (aw l),.pv (zs ws)] true false)/\st.t 2=.ptr 2 0/\st.h 2=some (.box [.pv (Z 0),.pv (Z 0),.pv (Z 0)] true false)/\st.t 3=.ptr 3 0/\st.h 3=some (.box (kw S p k j) true false)/\st.t 4=.pv (Z i)/\st.t 9=.pv (aw l)/\st.t 10=.pv (Z l.length)/\st.t 11=.pv (Z i)/\st.t 16=.pv (al p)/\st.t 17=.pv (Z j)) (by simp[g1,g,g2,m,g3,s,e,f,c,kw]) ?_;clear g1 g g2 m g3 s e f c y;rintro j st H ⟨g1,g,g2,m,g3,c,g4,s,e,f,r,o⟩;rcases dA H with rfl|rfl|rfl|rfl
  all_goals (simp[kw]at c o)
  .skip
   with_reducible repeat' (first|refine Sp.h ?_|((first|refine Wd ?_|refine Ss.h ?_|(refine Sb.h ?_ ?_ ?_<;>(try intro hgd)<;>try exact Xy))<;>simp -implicitDefEqProofs (maxSteps:=2000000) [hP,hN,g1,g,g2,m,g3,c,g4,s,e,f,r,o,n,d,v,q,P,T,kw]<;>try refine Ya ?_)|refine X2 ?_ ?_|(refine Xd ?_ ?_<;>intro hcd<;>try exact Xx))
  .skip
   with_reducible repeat' (first|refine Sp.h ?_|((first|refine Wd ?_|refine Ss.h ?_|(refine Sb.h ?_ ?_ ?_<;>(try intro hgd)<;>try exact Xy))<;>simp -implicitDefEqProofs (maxSteps:=2000000) [hP,hN,g1,g,g2,m,g3,c,g4,s,e,f,r,o,n,d,v,q,Q,U,kw]<;>try refine Ya ?_)|refine X2 ?_ ?_|(refine Xd ?_ ?_<;>intro hcd<;>try exact Xx))
  .skip
   with_reducible repeat' (first|refine Sp.h ?_|((first|refine Wd ?_|refine Ss.h ?_|(refine Sb.h ?_ ?_ ?_<;>(try intro hgd)<;>try exact Xy))<;>simp -implicitDefEqProofs (maxSteps:=2000000) [hP,hN,g1,g,g2,m,g3,c,g4,s,e,f,r,o,n,d,v,q,R,V,kw]<;>try refine Ya ?_)|refine X2 ?_ ?_|(refine Xd ?_ ?_<;>intro hcd<;>try exact Xx))
  .skip
   exact Gy
 .have z:i=l.length:=by omega
  subst z;exact Gy
def cG(bet:Int->Int->Bool)(n p0:Vc)(l:List Vc):Nat->Int×Nat
 |0=>(bg n p0,0)
 |i+1=>match l[i]? with
  |some v=>if bet (bg n v) (cG bet n p0 l i).1=true then(bg n v,i)else cG bet n p0 l i
  |none=>cG bet n p0 l i
theorem oB{p0:Vc}(h:l[i]?=some v):cG bet n p0 l (i+1)=if bet (bg n v) (cG bet n p0 l i).1=true then(bg n v,i)else cG bet n p0 l i:=by simp only[cG,h]
theorem vk{bet:Int->Int->Bool}{n p0:Vc}{l:List Vc}(a:0<l.length):∀i,(cG bet n p0 l i).2<l.length
 |0=>a
 |i+1=>by
  have:=vk (bet:=bet) (n:=n) (p0:=p0) a i;simp only[cG];split
  .rename_i v b
   obtain⟨h,_⟩:=th.1 b;split
   .exact h
   .exact this
  .exact this
def bN(bet:Int->Int->Bool)(n:Vc)(l:List Vc):Int×Nat:=cG bet n ((l[0]?).getD (0,0,0)) l l.length
theorem UM(n:Vc)(l:List Vc)(ws:List Int)(hn:ay 16384 n=true)(h1:1<=l.length)(h8:l.length<=8)(o:l.all (ay 268435456)=true):aF 250 (Iu l ws) (al n) (.tup [Z (bN dN n l).1,Z (bN dN n l).2]):=by
 have e:em ((16384:Nat):Int) n:=by
  rw[bu,aV,aV,aV]at hn;exact⟨⟨by omega,by omega⟩,⟨by omega,by omega⟩,⟨by omega,by omega⟩⟩
 have c:0<l.length:=by omega
 generalize g:l[0]=p0 at *
 have f:l[0]?=some p0:=by rw[an c,g]
 have q:=Ce n p0 16384 268435456 e (dC (L4.1 o p0 (An f))) (by decide)
 have y:bN dN n l=cG dN n p0 l l.length:=by simp only[bN,f,Zn]
 rw[y];have m:cG dN n p0 l 0=(bg n p0,0):=rfl;generalize B:bg n p0=d0 at *;refine Dp func250 λC hP hN=>?_;refine Gz ?_;refine WP.loopN [9] l.length (λi st=>st.t 3=.ptr 3 0/\st.h 3=some (.box [.pv (Z n.1),.pv (Z n.2.1),.pv (Z n.2.2)] true false)/\st.t 20=.pv (aw l)/\st.t 21=.pv (Z l.length)/\st.t 22=.pv (Z i)/\st.h 9=none/\st.t 6=.pv (Z (cG dN n p0 l i).1)/\st.t 7=.pv (Z (cG dN n p0 l i).2)) (by simp[m]) ?_;rintro i st hi ⟨g3,z,r,u,x,A,E,F⟩;by_cases b:i<l.length
 .have G:=ab b (by omega)
  generalize k:l[i]=v at *
  have p:l[i]?=some v:=by rw[an b,k]
  have D:=Ce n v 16384 268435456 e (dC (L4.1 o v (An p))) (by decide);have hs:=oB (bet:=dN) (n:=n) (p0:=p0) p;generalize cG dN n p0 l i=s at *;generalize cG dN n p0 l (i+1)=H at *;generalize bg n v=d at *;by_cases a:dN d s.1=true
  .rw[Zd a]at hs
   subst hs;simp only[dN,Is]at a;exact Gy
  .rw[Y6 a]at hs
   subst hs;simp only[dN,Is]at a;exact Gy
 .have j:i=l.length:=by omega
  subst j;exact Gy
  all_goals exact⟨rfl,rfl⟩
theorem UN(n:Vc)(l:List Vc)(ws:List Int)(hn:ay 16384 n=true)(h1:1<=l.length)(h8:l.length<=8)(o:l.all (ay 268435456)=true):aF 251 (Iu l ws) (al n) (.tup [Z (bN dO n l).1,Z (bN dO n l).2]):=by
 have e:em ((16384:Nat):Int) n:=by
  rw[bu,aV,aV,aV]at hn;exact⟨⟨by omega,by omega⟩,⟨by omega,by omega⟩,⟨by omega,by omega⟩⟩
 have c:0<l.length:=by omega
 generalize g:l[0]=p0 at *
 have f:l[0]?=some p0:=by rw[an c,g]
 have q:=Ce n p0 16384 268435456 e (dC (L4.1 o p0 (An f))) (by decide)
 have y:bN dO n l=cG dO n p0 l l.length:=by simp only[bN,f,Zn]
 rw[y];have m:cG dO n p0 l 0=(bg n p0,0):=rfl;generalize B:bg n p0=d0 at *;refine Dp func251 λC hP hN=>?_;refine Gz ?_;refine WP.loopN [9] l.length (λi st=>st.t 3=.ptr 3 0/\st.h 3=some (.box [.pv (Z n.1),.pv (Z n.2.1),.pv (Z n.2.2)] true false)/\st.t 20=.pv (aw l)/\st.t 21=.pv (Z l.length)/\st.t 22=.pv (Z i)/\st.h 9=none/\st.t 6=.pv (Z (cG dO n p0 l i).1)/\st.t 7=.pv (Z (cG dO n p0 l i).2)) (by simp[m]) ?_;rintro i st hi ⟨g3,z,r,u,x,A,E,F⟩;by_cases b:i<l.length
 .have G:=ab b (by omega)
  generalize k:l[i]=v at *
  have p:l[i]?=some v:=by rw[an b,k]
  have D:=Ce n v 16384 268435456 e (dC (L4.1 o v (An p))) (by decide);have hs:=oB (bet:=dO) (n:=n) (p0:=p0) p;generalize cG dO n p0 l i=s at *;generalize cG dO n p0 l (i+1)=H at *;generalize bg n v=d at *;by_cases a:dO d s.1=true
  .rw[Zd a]at hs
   subst hs;simp only[dO,Is]at a;exact Gy
  .rw[Y6 a]at hs
   subst hs;simp only[dO,Is]at a;exact Gy
 .have j:i=l.length:=by omega
  subst j;exact Gy
  all_goals exact⟨rfl,rfl⟩
def It(x y z:AV)(fb:Option bG):Option bG:=match x,y,z with
 |.pv (.val (.int .i64 a)),.pv (.val (.int .i64 b)),.pv (.val (.int .i64 c))=>some (.pv (Z (max a (max b c))),[])
 |_,_,_=>fb
@[simp] theorem Sw(a b c:Int)(fb:Option bG):It (.pv (.val (.int .i64 a))) (.pv (.val (.int .i64 b))) (.pv (.val (.int .i64 c))) fb=some (.pv (Z (max a (max b c))),[]):=rfl
@[simp] theorem XB{ty:TypeId}{i:Array TypeId}{pos:String}(x y z:Operand):
 aU prog ⟨dst,.call ⟨.builtin .max,#[x,y,z],i⟩,ty,pos,aft,g⟩ ρ=It (ρ x) (ρ y) (ρ z) (jH prog ⟨dst,.call ⟨.builtin .max,#[x,y,z],i⟩,ty,pos,aft,g⟩ ρ):=by
 unfold It;split
 .rename_i a b c d e f
  refine dF (by simp[Op.operands,Call.operands,d,e,f,er]) ?_;unfold execOp;simp[resolve,invoke,builtin,Builtin.max_,d,e,f,qM,er,Builtin.max2,af,cH]
  try omega
 .rfl
def lY(x y:Int):Int:=max (max (max (max 0 x) (-x)) y) (-y)
theorem LJ(x y:Int)(l:-4611686018427387904<=x/\x<=4611686018427387904)(m:-4611686018427387904<=y/\y<=4611686018427387904):aR 259 (.sl [Z x,Z y]) (Z (lY x y)):=by
 have w1:i64.wrap (-x)=-x:=aa;have w2:i64.wrap (-y)=-y:=aa;have g:i64.wrap (0-x)=-x:=(aa (n:=0-x) (by omega) (by omega)).trans (by omega);have j:i64.wrap (0-y)=-y:=(aa (n:=0-y) (by omega) (by omega)).trans (by omega)
 have f0:∀a b c:Int,max a (max b c)=max (max a b) c:=λ_ _ _=>by omega
 have f2:lY x y=max 0 (max x (max (-x) (max y (-y)))):=by unfold lY;omega
 rw[f2];refine Dp func259 λC hP hN=>?_;refine GT trivial ?_;refine WP.loopN [] 2 (λi st=>st.t 6=.pv (.sl [Z x,Z y])/\st.t 7=.pv (Z 2)/\st.t 8=.pv (Z i)/\st.t 3=.pv (Z (if i=0 then 0 else if i=1 then max 0 (max x (-x))else max 0 (max x (max (-x) (max y (-y))))))) (by simp) ?_;rintro i st hi ⟨e,f,d,g3⟩
 have k:i=0\/i=1\/i=2:=by omega
 rcases k with rfl|rfl|rfl
 all_goals (simp at g3 d)
 .skip
  with_reducible repeat' (first|refine Sp.h ?_|((first|refine Ss.h ?_|(refine Sb.h ?_ ?_ ?_<;>(try intro hgd)<;>try exact Xy))<;>simp -implicitDefEqProofs (maxSteps:=2000000) [hP,hN,e,f,d,g3,w1,w2,g,j])|refine X2 ?_ ?_|(refine Xd ?_ ?_<;>intro hcd<;>try exact Xx))
  all_goals (try (first|omega|(simp;omega)))
 .skip
  with_reducible repeat' (first|refine Sp.h ?_|((first|refine Ss.h ?_|(refine Sb.h ?_ ?_ ?_<;>(try intro hgd)<;>try exact Xy))<;>simp -implicitDefEqProofs (maxSteps:=2000000) [hP,hN,e,f,d,g3,w1,w2,g,j])|refine X2 ?_ ?_|(refine Xd ?_ ?_<;>intro hcd<;>try exact Xx))
  all_goals (try (first|omega|(simp;omega)))
 .skip
  with_reducible repeat' (first|refine Sp.h ?_|((first|refine Ss.h ?_|(refine Sb.h ?_ ?_ ?_<;>(try intro hgd)<;>try exact Xy))<;>simp -implicitDefEqProofs (maxSteps:=2000000) [hP,hN,e,f,d,g3])|refine X2 ?_ ?_|(refine Xd ?_ ?_<;>intro hcd<;>try exact Xx))
set_option maxRecDepth 100000 in
@[simp] theorem UI:gR prog 256:=by
 have hf:=func256;have nt:=ntmps256;have rs:=results256;exact PX
set_option maxRecDepth 100000 in
@[simp] theorem UJ:gR prog 216:=by
 have hf:=func216;have nt:=ntmps216;have rs:=results216;exact PW
def bU(u v:Iv)(tot:Int):Int:=(lY (u.1-v.2) (u.2-v.1)+tot-1)/tot
def iG(m:List Int)(reach:Int):Nat->Int
 |0=>reach*reach
 |k+1=>iG m reach k-(m[k]?).getD 0*(m[k]?).getD 0
def dL(U V:aq)(tot:Int):List Int:=[bU U.1 V.1 tot,bU U.2.1 V.2.1 tot,bU U.2.2 V.2.2 tot]
def pc(m:List Int)(reach:Int):Int:=if m.all (λx=>decide (x<=reach))then iG m reach 3 else -1
def ow(left right:List Int)(a:List aq)(c:Int)(b:List aq)(d:Int):Bool:=
 dt a left&&dt b right&&decide (aQ left left.length=aQ right right.length)&&aT c 0 1048576&&aT d 0 1048576
def kW(left right:List Int)(a:List aq)(c:Int)(b:List aq)(d:Int):Int:=
 if ow left right a c b d then pc (dL (cL a left left.length) (cL b right right.length) (aQ left left.length)) (c+d)else 0
theorem vi(h:dt a w=true):sC 8 (cL a w w.length):=by
 simp only[dt,au,up,Is,L4]at h;obtain⟨⟨⟨⟨⟨h1,m⟩,b⟩,n⟩,h5⟩,h6⟩:=h;obtain⟨⟨⟨a1,c⟩,d,e⟩,⟨⟨b1,f⟩,g,i⟩,⟨c1,j⟩,k,l⟩:=Ac b h5 w.length;refine⟨⟨⟨?_,?_⟩,?_,?_⟩,⟨⟨?_,?_⟩,?_,?_⟩,⟨?_,?_⟩,?_,?_⟩<;>omega
theorem Fl(h:dt a w=true):1<=aQ w w.length/\aQ w w.length<=65536:=by
 simp only[dt,up,ZK,yAk,Zj]at h;omega
theorem vj{y:Int}{m:Int}(a:-m<=x/\x<=m)(b:-m<=y/\y<=m):0<=lY x y/\lY x y<=m:=by
 unfold lY;omega
theorem yA{h:Int}(a:0<=h)(h1:h<=4503599627370496)(t1:1<=t)(t2:t<=65536):0<=(h+t-1)/t/\(h+t-1)/t<=4503599627370496:=by
 refine⟨yAY (by omega) (by omega),?_⟩
 have:(h+t-1)/t<4503599627370496+1:=Int.ediv_lt_of_lt_mul (by omega) (by
  have b:(4503599627370496+1)*1<=(4503599627370496+1)*t:=by omega
  omega)
 omega
theorem mo{m:Int}(a:0<=x)(h1:x<=m):0<=x*x/\x*x<=m*m:=⟨Z8 a a,yBn h1 h1 a (by omega)⟩
set_option maxRecDepth 4000 in
theorem UK(left right:List Int)(a:List aq)(I:Int)(b:List aq)(J:Int)(h1:left.length<=9223372036854775807)(h2:right.length<=9223372036854775807)(h3:a.length<=9223372036854775807)(h4:b.length<=9223372036854775807):NV 217 (zs left) (zs right) (aE a) (Z I) (aE b) (Z J) (.tup [Z (kW left right a I b J),B (ow left right a I b J)]):=by
 have ca:=Q3 a left h3 h1;have cb:=Q3 b right h4 h2;have M:=QT I;have ah:=QT J;have z6:bi ba=V6 0 0 0 0 0 0:=rfl;have e:ow left right a I b J=(dt a left&&dt b right&&decide (aQ left left.length=aQ right right.length)&&aT I 0 1048576&&aT J 0 1048576):=rfl
 have i:kW left right a I b J=if ow left right a I b J then pc (dL (cL a left left.length) (cL b right right.length) (aQ left left.length)) (I+J)else 0:=rfl
 cases Y:dt a left with
 |false=>
  rw[Y]at e;simp only[ZI]at e;rw[e]at i;simp only[Y9,Zk]at i;rw[e,i];simp only[eX,Y,Y9,Zk,z6]at ca;cases hB:dt b right
  all_goals (simp only[eX,hB,Y9,Zk,Zp,z6]at cb)
  .skip
   refine Dp func217 λC hP hN=>?_;exact Gy
  .skip
   generalize cL b right right.length=V at *;generalize aQ right right.length=T2 at *;refine Dp func217 λC hP hN=>?_;exact Gy
 |true=>
 simp only[eX,Y,Zp]at ca;generalize hU:cL a left left.length=U at *;generalize hT:aQ left left.length=T at *
 cases hB:dt b right with
 |false=>
  rw[Y,hB]at e;simp only[ZI,yAr]at e;rw[e]at i;simp only[Y9,Zk]at i;rw[e,i];simp only[eX,hB,Y9,Zk,z6]at cb;refine Dp func217 λC hP hN=>?_;exact Gy
 |true=>
 simp only[eX,hB,Zp]at cb;rw[Y,hB]at e;simp only[Zu]at e;generalize hV:cL b right right.length=V at *;generalize ar:aQ right right.length=T2 at *;by_cases q:T=T2
 case neg=>
  have e1:(T !=T2)=true:=by simp[q]
  simp only[q,decide_false,ZI]at e;rw[e]at i;simp only[Y9,Zk]at i;rw[e,i];refine Dp func217 λC hP hN=>?_;exact Gy
 have e0:(T !=T2)=false:=by simp[q]
 simp only[q,yAN,Zu]at e
 cases L:aT I 0 1048576 with
 |false=>
  rw[L]at M e;simp only[ZI]at e;rw[e]at i;simp only[Y9,Zk]at i;rw[e,i];refine Dp func217 λC hP hN=>?_;exact Gy
 |true=>
 cases ad:aT J 0 1048576 with
 |false=>
  rw[L]at M e;rw[ad]at ah e;simp only[yAr]at e;rw[e]at i;simp only[Y9,Zk]at i;rw[e,i];refine Dp func217 λC hP hN=>?_;exact Gy
 |true=>
 rw[L]at M e;rw[ad]at ah e;simp only[yAo]at e;rw[e]at i;simp only[Zp]at i;rw[e]
 have a6:sC 8 U:=by rw[<-hU];exact vi Y
 have a7:sC 8 V:=by rw[<-hV];exact vi hB
 have o:=Fl Y;rw[hT]at o;subst q;clear hT ar;simp only[aT,up,Is]at L ad;generalize b5:I+J=c at *;have b9:i64.wrap c=c:=aa;have b7:=mo (x:=c) (m:=2097152) (by omega) (by omega);have b8:i64.wrap (c*c)=c*c:=aa;rw[i];refine Dp func217 λC hP hN=>?_;refine Gz ?_;refine WP.loopN [] 3 (λk st=>st.t 14=.ptr 14 0/\st.h 14=some (.box (b6 U) true false)/\st.t 17=.ptr 17 0/\st.h 17=some (.box (b6 V) true false)/\st.t 18=.pv (Z T)/\st.t 15=.pv (Z T)/\st.t 20=.pv (Z c)/\st.t 12=.ptr 12 0/\st.h 12=some (.box [.pv (Z (iG (dL U V T) c k))] true false)/\st.t 13=.ptr 13 0/\st.h 13=some (.box [.pv (B false)] true false)/\st.t 66=.pv (Z k)/\(-(k*4398046511104:Int)<=iG (dL U V T) c k/\iG (dL U V T) c k<=4398046511104)/\∀j<k,∀x,(dL U V T)[j]?=some x->0<=x/\x<=c) ?_ ?_
 .simp[iG]
  omega
 rintro k st hk ⟨P,u,R,v,S,Q,W,N,r,O,s,X,bq,hpr⟩;obtain⟨⟨⟨a1,a2⟩,a3,a4⟩,⟨⟨b1,b2⟩,b3,b4⟩,⟨c1,c2⟩,c3,c4⟩:=a6;obtain⟨⟨⟨d1,d2⟩,d3,d4⟩,⟨⟨e1,e2⟩,e3,e4⟩,⟨f1,f2⟩,f3,f4⟩:=a7;rcases dA hk with rfl|rfl|rfl|rfl
 .have D:-281474976710656<=U.1.1-V.1.2/\U.1.1-V.1.2<=281474976710656:=by omega
  have z:-281474976710656<=U.1.2-V.1.1/\U.1.2-V.1.1<=281474976710656:=by omega
  have cf:=LJ (U.1.1-V.1.2) (U.1.2-V.1.1) (by omega) (by omega);have y:=vj D z;have aj:=yA y.1 (by omega) o.1 o.2;have hgd:bU U.1 V.1 T=(lY (U.1.1-V.1.2) (U.1.2-V.1.1)+T-1)/T:=rfl;have w1:i64.wrap (U.1.1-V.1.2)=U.1.1-V.1.2:=aa;have w2:i64.wrap (U.1.2-V.1.1)=U.1.2-V.1.1:=aa;generalize lY (U.1.1-V.1.2) (U.1.2-V.1.1)=f at *;have w3:i64.wrap (f+T)=f+T:=aa;have w4:i64.wrap (f+T-1)=f+T-1:=aa;have w5:(f+T-1).tdiv T=(f+T-1)/T:=Zr (by omega);have w6:i64.wrap ((f+T-1)/T)=(f+T-1)/T:=aa
  have w7:¬T=0:=by omega
  have w8:(T==0)=false:=by simp;omega
  by_cases F:c<bU U.1 V.1 T
  .have H:pc (dL U V T) c=-1:=by
    have G:¬bU U.1 V.1 T<=c:=by omega
    unfold pc dL;simp[G]
   rw[H];rw[hgd]at F;exact Gy
  .have n:=mo (x:=bU U.1 V.1 T) (m:=c) (by omega) (by omega)
   have p:iG (dL U V T) c (0+1)=iG (dL U V T) c 0-bU U.1 V.1 T*bU U.1 V.1 T:=by simp[iG,dL]
   have d:∀j<0+1,∀x,(dL U V T)[j]?=some x->0<=x/\x<=c:=λj hj x l=>by
    by_cases A:j<0
    .exact hpr j A x l
    .have:j=0:=by omega
     subst this
     have:x=bU U.1 V.1 T:=by simpa[dL]using l.symm
     omega
   generalize iG (dL U V T) c (0+1)=E' at *;generalize iG (dL U V T) c 0=E at *;subst p;rw[hgd]at F n;have w9:i64.wrap ((f+T-1)/T*((f+T-1)/T))=(f+T-1)/T*((f+T-1)/T):=aa;have K:i64.wrap (E-(f+T-1)/T*((f+T-1)/T))=E-bU U.1 V.1 T*bU U.1 V.1 T:=(aa (by omega) (by omega)).trans (by rw[hgd]);rw[<-hgd]at n
   have g:-(0+1:Nat)*4398046511104<=E-bU U.1 V.1 T*bU U.1 V.1 T/\E-bU U.1 V.1 T*bU U.1 V.1 T<=4398046511104:=by omega
   refine GT (zAe P u R v S Q W N r O s X w1 w2 (zAb w3 w4 w5 w6 w7 w8 w9 (gA K F))) ?_
   all_goals first|exact⟨g,d⟩|exact⟨g.1,g.2,d⟩|exact⟨by omega,λx l=>d 0 (by omega) x l⟩
 .have D:-281474976710656<=U.2.1.1-V.2.1.2/\U.2.1.1-V.2.1.2<=281474976710656:=by omega
  have z:-281474976710656<=U.2.1.2-V.2.1.1/\U.2.1.2-V.2.1.1<=281474976710656:=by omega
  have cf:=LJ (U.2.1.1-V.2.1.2) (U.2.1.2-V.2.1.1) (by omega) (by omega);have y:=vj D z;have aj:=yA y.1 (by omega) o.1 o.2;have hgd:bU U.2.1 V.2.1 T=(lY (U.2.1.1-V.2.1.2) (U.2.1.2-V.2.1.1)+T-1)/T:=rfl;have w1:i64.wrap (U.2.1.1-V.2.1.2)=U.2.1.1-V.2.1.2:=aa;have w2:i64.wrap (U.2.1.2-V.2.1.1)=U.2.1.2-V.2.1.1:=aa;generalize lY (U.2.1.1-V.2.1.2) (U.2.1.2-V.2.1.1)=f at *;have w3:i64.wrap (f+T)=f+T:=aa;have w4:i64.wrap (f+T-1)=f+T-1:=aa;have w5:(f+T-1).tdiv T=(f+T-1)/T:=Zr (by omega);have w6:i64.wrap ((f+T-1)/T)=(f+T-1)/T:=aa
  have w7:¬T=0:=by omega
  have w8:(T==0)=false:=by simp;omega
  by_cases F:c<bU U.2.1 V.2.1 T
  .have H:pc (dL U V T) c=-1:=by
    have G:¬bU U.2.1 V.2.1 T<=c:=by omega
    unfold pc dL;simp[G]
   rw[H];rw[hgd]at F;exact Gy
  .have n:=mo (x:=bU U.2.1 V.2.1 T) (m:=c) (by omega) (by omega)
   have p:iG (dL U V T) c (1+1)=iG (dL U V T) c 1-bU U.2.1 V.2.1 T*bU U.2.1 V.2.1 T:=by simp[iG,dL]
   have d:∀j<1+1,∀x,(dL U V T)[j]?=some x->0<=x/\x<=c:=λj hj x l=>by
    by_cases A:j<1
    .exact hpr j A x l
    .have:j=1:=by omega
     subst this
     have:x=bU U.2.1 V.2.1 T:=by simpa[dL]using l.symm
     omega
   generalize iG (dL U V T) c (1+1)=E' at *;generalize iG (dL U V T) c 1=E at *;subst p;rw[hgd]at F n;have w9:i64.wrap ((f+T-1)/T*((f+T-1)/T))=(f+T-1)/T*((f+T-1)/T):=aa;have K:i64.wrap (E-(f+T-1)/T*((f+T-1)/T))=E-bU U.2.1 V.2.1 T*bU U.2.1 V.2.1 T:=(aa (by omega) (by omega)).trans (by rw[hgd]);rw[<-hgd]at n
   have g:-(1+1:Nat)*4398046511104<=E-bU U.2.1 V.2.1 T*bU U.2.1 V.2.1 T/\E-bU U.2.1 V.2.1 T*bU U.2.1 V.2.1 T<=4398046511104:=by omega
   refine GT (zAe P u R v S Q W N r O s X w1 w2 (zAb w3 w4 w5 w6 w7 w8 w9 (gA K F))) ?_
   all_goals first|exact⟨g,d⟩|exact⟨g.1,g.2,d⟩|exact⟨by omega,λx l=>d 0 (by omega) x l⟩
 .have D:-281474976710656<=U.2.2.1-V.2.2.2/\U.2.2.1-V.2.2.2<=281474976710656:=by omega
  have z:-281474976710656<=U.2.2.2-V.2.2.1/\U.2.2.2-V.2.2.1<=281474976710656:=by omega
  have cf:=LJ (U.2.2.1-V.2.2.2) (U.2.2.2-V.2.2.1) (by omega) (by omega);have y:=vj D z;have aj:=yA y.1 (by omega) o.1 o.2;have hgd:bU U.2.2 V.2.2 T=(lY (U.2.2.1-V.2.2.2) (U.2.2.2-V.2.2.1)+T-1)/T:=rfl;have w1:i64.wrap (U.2.2.1-V.2.2.2)=U.2.2.1-V.2.2.2:=aa;have w2:i64.wrap (U.2.2.2-V.2.2.1)=U.2.2.2-V.2.2.1:=aa;generalize lY (U.2.2.1-V.2.2.2) (U.2.2.2-V.2.2.1)=f at *;have w3:i64.wrap (f+T)=f+T:=aa;have w4:i64.wrap (f+T-1)=f+T-1:=aa;have w5:(f+T-1).tdiv T=(f+T-1)/T:=Zr (by omega);have w6:i64.wrap ((f+T-1)/T)=(f+T-1)/T:=aa
  have w7:¬T=0:=by omega
  have w8:(T==0)=false:=by simp;omega
  by_cases F:c<bU U.2.2 V.2.2 T
  .have H:pc (dL U V T) c=-1:=by
    have G:¬bU U.2.2 V.2.2 T<=c:=by omega
    unfold pc dL;simp[G]
   rw[H];rw[hgd]at F;exact Gy
  .have n:=mo (x:=bU U.2.2 V.2.2 T) (m:=c) (by omega) (by omega)
   have p:iG (dL U V T) c (2+1)=iG (dL U V T) c 2-bU U.2.2 V.2.2 T*bU U.2.2 V.2.2 T:=by simp[iG,dL]
   have d:∀j<2+1,∀x,(dL U V T)[j]?=some x->0<=x/\x<=c:=λj hj x l=>by
    by_cases A:j<2
    .exact hpr j A x l
    .have:j=2:=by omega
     subst this
     have:x=bU U.2.2 V.2.2 T:=by simpa[dL]using l.symm
     omega
   generalize iG (dL U V T) c (2+1)=E' at *;generalize iG (dL U V T) c 2=E at *;subst p;rw[hgd]at F n;have w9:i64.wrap ((f+T-1)/T*((f+T-1)/T))=(f+T-1)/T*((f+T-1)/T):=aa;have K:i64.wrap (E-(f+T-1)/T*((f+T-1)/T))=E-bU U.2.2 V.2.2 T*bU U.2.2 V.2.2 T:=(aa (by omega) (by omega)).trans (by rw[hgd]);rw[<-hgd]at n
   have g:-(2+1:Nat)*4398046511104<=E-bU U.2.2 V.2.2 T*bU U.2.2 V.2.2 T/\E-bU U.2.2 V.2.2 T*bU U.2.2 V.2.2 T<=4398046511104:=by omega
   refine GT (zAe P u R v S Q W N r O s X w1 w2 (zAb w3 w4 w5 w6 w7 w8 w9 (gA K F))) ?_
   all_goals first|exact⟨g,d⟩|exact⟨g.1,g.2,d⟩|exact⟨by omega,λx l=>d 0 (by omega) x l⟩
 .have ak:pc (dL U V T) c=iG (dL U V T) c 3:=by
   have:(dL U V T).all (λx=>decide (x<=c))=true:=by
    rw[L4];intro x l;obtain⟨j,hj,l⟩:=yAq.1 l
    have a8:j<3:=by simpa[dL]using hj
    have:=hpr j a8 x (by rw[an hj,l]);simp;omega
   unfold pc;rw[this];rfl
  rw[ak];exact Gy
theorem UL(left right:List Int)(a:List aq)(c:Int)(b:List aq)(d:Int)(h1:left.length<=9223372036854775807)(f:right.length<=9223372036854775807)(g:a.length<=9223372036854775807)(i:b.length<=9223372036854775807):NV 171 (zs left) (zs right) (aE a) (Z c) (aE b) (Z d) (B (ow left right a c b d&&decide (0<=kW left right a c b d))):=by
 have j:=UK left right a c b d h1 f g i;generalize ow left right a c b d=k at *;generalize kW left right a c b d=e at *;cases k
 all_goals (by_cases h:0<=e)
 all_goals
  refine Dp func171 λC hP hN=>?_;exact Gy
def mq(x:Int):Int:=cZ (max x (-x)) 65536*cZ (max x (-x)) 65536
def pd(v:Vc)(rho:Int):Bool:=decide (mq v.1+mq v.2.1+mq v.2.2<=rho*rho)
theorem ry(h:-35184372088832<=x/\x<=35184372088832):(0<=cZ (max x (-x)) 65536/\cZ (max x (-x)) 65536<=536870912)/\0<=mq x/\mq x<=288230376151711744:=by
 have h1:0<=cZ (max x (-x)) 65536/\cZ (max x (-x)) 65536<=536870912:=by unfold cZ;omega
 have a:=mo h1.1 h1.2;exact⟨h1,a.1,by unfold mq;omega⟩
theorem UO(v:Vc)(rho:Int)(g:em 35184372088832 v)(c:0<=rho/\rho<=2097152):aF 248 (al v) (Z rho) (B (pd v rho)):=by
 obtain⟨q,r,s⟩:=g;have c1:=Fk (max v.1 (-v.1)) (by omega) (by omega);have u:=Fk (max v.2.1 (-v.2.1)) (by omega) (by omega);have x:=Fk (max v.2.2 (-v.2.2)) (by omega) (by omega);have m:=ry q;have o:=ry r;have p:=ry s;have A:=mo c.1 c.2;have n1:i64.wrap (0-v.1)=-v.1:=(aa (n:=0-v.1) (by omega) (by omega)).trans (by omega);have n2:i64.wrap (0-v.2.1)=-v.2.1:=(aa (n:=0-v.2.1) (by omega) (by omega)).trans (by omega);have z:i64.wrap (0-v.2.2)=-v.2.2:=(aa (n:=0-v.2.2) (by omega) (by omega)).trans (by omega);have i:i64.wrap (-v.1)=-v.1:=(aa (n:=-v.1) (by omega) (by omega));have j:i64.wrap (-v.2.1)=-v.2.1:=(aa (n:=-v.2.1) (by omega) (by omega));have l:i64.wrap (-v.2.2)=-v.2.2:=(aa (n:=-v.2.2) (by omega) (by omega));have hd:pd v rho=decide (mq v.1+mq v.2.1+mq v.2.2<=rho*rho):=rfl;rw[hd];have d1:mq v.1=cZ (max v.1 (-v.1)) 65536*cZ (max v.1 (-v.1)) 65536:=rfl;have d2:mq v.2.1=cZ (max v.2.1 (-v.2.1)) 65536*cZ (max v.2.1 (-v.2.1)) 65536:=rfl;have d3:mq v.2.2=cZ (max v.2.2 (-v.2.2)) 65536*cZ (max v.2.2 (-v.2.2)) 65536:=rfl;generalize mq v.1=s1 at *;generalize mq v.2.1=s2 at *;generalize mq v.2.2=a at *;generalize cZ (max v.1 (-v.1)) 65536=t1 at *;generalize cZ (max v.2.1 (-v.2.1)) 65536=t2 at *;generalize cZ (max v.2.2 (-v.2.2)) 65536=t3 at *;generalize f:rho*rho=d at *;have D:i64.wrap (t1*t1)=s1:=(aa (by rw[<-d1];omega) (by rw[<-d1];omega)).trans d1.symm;have E:i64.wrap (t2*t2)=s2:=(aa (by rw[<-d2];omega) (by rw[<-d2];omega)).trans d2.symm;have F:i64.wrap (t3*t3)=a:=(aa (by rw[<-d3];omega) (by rw[<-d3];omega)).trans d3.symm;have G:i64.wrap d=d:=aa;have H:i64.wrap s1=s1:=aa;have I:i64.wrap (s1+s2)=s1+s2:=aa;have J:i64.wrap (s1+s2+a)=s1+s2+a:=aa;clear d1 d2 d3 m o p;refine Dp func248 λC hP hN=>?_;refine Gz ?_;refine WP.loopN [] 3 (λk st=>st.t 9=.pv (al v)/\st.t 10=.pv (Z k)/\st.t 1=.pv (Z rho)/\st.t 5=.pv (Z (if k=0 then 0 else if k=1 then s1 else if k=2 then s1+s2 else s1+s2+a))) (by simp) ?_;rintro k st e ⟨y,b,g1,g5⟩;rcases dA e with rfl|rfl|rfl|rfl
 all_goals (simp at g5 b)
 all_goals
  exact Gy
def kY(x s:Vc):Int:=if bg x (aL x s)<=0 then 0 else min 256 (bg x (aL x s)/max 1 (bg (aL x s) (aL x s)/256))
theorem r8{w:Vc}{a b:Int}(c:em a v)(d:em b w):em (a+b) (aL v w):=by
 obtain⟨e,f,g⟩:=c;obtain⟨w1,w2,i⟩:=d;refine⟨?_,?_,?_⟩<;>(simp only[aL];omega)
theorem lF(x s:Vc):0<=kY x s/\kY x s<=256:=by
 unfold kY;split
 .omega
 .rename_i h
  have h1:0<=bg x (aL x s)/max 1 (bg (aL x s) (aL x s)/256):=yAY (by omega) (by omega);omega
theorem jc{a b:Int}(h:em a v)(c:a<=b):em b v:=by
 obtain⟨d,e,f⟩:=h;exact⟨by omega,by omega,by omega⟩
theorem Bf(v:Vc):0<=bg v v:=by
 have h:∀x:Int,0<=x*x:=λx=>by
  rcases yA7 0 x with h|h
  .exact Z8 h h
  .have:=Z8 (show 0<=-x by omega) (show 0<=-x by omega)
   rw[Int.neg_mul_neg]at this;exact this
 have h1:=h v.1;have a:=h v.2.1;have b:=h v.2.2;unfold bg;omega
theorem UP(x s:Vc)(b:em 536870912 x)(hs:em 536870912 s):aF 253 (al x) (al s) (Z (kY x s)):=by
 have a:=r8 b hs;have z:=LK x s (jc b (by decide)) (jc hs (by decide));have r:=Ce x (aL x s) 536870912 1073741824 b a (by decide);have y:=Ce (aL x s) (aL x s) 1073741824 1073741824 a a (by decide);obtain⟨g,i,j⟩:=kX (m:=536870912) (n:=1073741824) b a;obtain⟨t1,t2,t3⟩:=kX (m:=1073741824) (n:=1073741824) a a
 have D:-1729382256910270464<=bg x (aL x s)/\bg x (aL x s)<=1729382256910270464:=by unfold bg;omega
 have E:bg (aL x s) (aL x s)<=3458764513820540928:=by unfold bg;omega
 have c:=Bf (aL x s)
 have hp:kY x s=if bg x (aL x s)<=0 then 0 else min 256 (bg x (aL x s)/max 1 (bg (aL x s) (aL x s)/256)):=rfl
 rw[hp];clear g i j t1 t2 t3 a;generalize bg x (aL x s)=u at *;generalize bg (aL x s) (aL x s)=v at *;generalize aL x s=e at *;by_cases d:u<=0
 .rw[Zd d]
  refine Dp func253 λC hP hN=>?_;exact Gy
 .rw[Y6 d]
  have a1:v.tdiv 256=v/256:=Zr c;have k:i64.wrap (v/256)=v/256:=aa
  have B:1<=max 1 (v/256):=by omega
  generalize f:max 1 (v/256)=m at *;have l:u.tdiv m=u/m:=Zr (by omega);have A:u/m<=u:=yBq m (by omega);have h5:0<=u/m:=yAY (by omega) (by omega);have o:i64.wrap (u/m)=u/m:=aa
  have p:¬m=0:=by omega
  have q:(m==0)=false:=by simp;omega
  refine Dp func253 λC hP hN=>?_;exact Gy
def dx(w:List Int)(t:Int)(i:Nat):List Int:=w.mapIdx λj k=>if j<i then k-k*t/256 else k
def dy(w:List Int)(t:Int):Nat->Int
 |0=>0
 |i+1=>dy w t i+(w[i]?).getD 0*t/256
def jK(w:List Int)(q:Nat)(t:Int):List Int:=(dx w t w.length).set q (((dx w t w.length)[q]?).getD 0+dy w t w.length)
theorem nj(w:List Int)(t:Int)(i:Nat):(dx w t i).length=w.length:=by simp[dx]
theorem jd(w:List Int)(t:Int)(i j:Nat):(dx w t i)[j]?=(w[j]?).map λk=>if j<i then k-k*t/256 else k:=by simp[dx,List.getElem?_mapIdx]
theorem vm(w:List Int)(t:Int):dx w t 0=w:=by
 apply ZM;intro j;rw[jd];cases w[j]?<;>simp
theorem vn(a:w[i]?=some k):dx w t (i+1)=(dx w t i).set i (k-k*t/256):=by
 apply ZM;intro j;rw[Zg,jd,jd,nj];by_cases e:i=j
 .subst e
  obtain⟨h,_⟩:=th.1 a;rw[a];simp[h]
 .rw[Y6 e]
  cases w[j]? with
  |none=>rfl
  |some x=>
   simp only[ZS]
   congr 1
   by_cases h:j<i
   .rw[Zd h,Zd (by omega)]
   .rw[Y6 h,Y6 (by omega)]
theorem zS(w:List Int):∀i,aQ w i=(w.take i).sum
 |0=>by simp[aQ]
 |i+1=>by
  rw[List.take_succ]
  cases h:w[i]? with
  |none=>simp[aQ,h,zS w i]
  |some k=>simp[aQ,h,zS w i]
theorem zT(w:List Int):aQ w w.length=w.sum:=by rw[zS,yAS]
theorem Cg{y:Int}(h:w[q]?=some y):(w.set q x).sum=w.sum-y+x:=by
 induction w generalizing q with
 |nil=>simp at h
 |cons a r ih=>
  cases q with
  |zero=>simp at h;subst h;simp;omega
  |succ q=>simp at h;simp only[List.set_cons_succ,List.sum_cons,ih h];omega
theorem Fm(w:List Int)(t:Int):∀i,i<=w.length->(dx w t i).sum=w.sum-dy w t i
 |0,_=>by simp[vm,dy]
 |i+1,h=>by
  have a:w[i]?=some w[i]:=an (by omega)
  have b:(dx w t i)[i]?=some w[i]:=by rw[jd,a];simp
  rw[vn a,Cg b,Fm w t i (by omega)];simp only[dy,a,Zn];omega
theorem OF(hq:q<w.length):(jK w q t).sum=w.sum:=by
 have b:=nj w t w.length;have a:(dx w t w.length)[q]?=some ((dx w t w.length)[q]'(by omega)):=an (by omega);unfold jK;rw[Cg a,Fm w t _ (Zf _),a];simp only[Zn];omega
theorem pf(b:0<=k)(c:0<=t)(a:t<=256):0<=k*t/\k*t<=k*256/\0<=k*t/256/\k*t/256<=k:=by
 have h1:0<=k*t:=Z8 b c;have d:k*t<=k*256:=yAe a b;omega
theorem pg{w:List Int}{t:Int}(c:∀k∈w,0<=k)(b:0<=t)(a:t<=256):∀i,0<=dy w t i/\dy w t i<=aQ w i
 |0=>by simp[dy,aQ]
 |i+1=>by
  have ih:=pg c b a i
  cases h:w[i]? with
  |none=>simp[dy,aQ,h];omega
  |some k=>
   have:=pf (c k (An h)) b a;simp only[dy,aQ,h,Zn];omega
theorem rz(w:List Int)(q:Nat)(t:Int):(jK w q t).length=w.length:=by simp[jK,nj]
theorem Fo(g:WgOk w)(hq:q<w.length)(m:0<=t)(d:t<=256):WgOk (jK w q t):=by
 constructor
 .intro k l
  obtain⟨j,f,rfl⟩:=yAq.1 l
  have a:j<w.length:=by rw[rz]at f;exact f
  have i:w[j]?=some w[j]:=an a;have hp:=pf (g.pos _ (Zs a)) m d
  have c:(dx w t w.length)[j]?=some (w[j]-w[j]*t/256):=by rw[jd,i];simp[a]
  have o:=pg g.pos m d w.length;generalize n:(jK w q t)[j]=x
  have b:(jK w q t)[j]?=some x:=by rw[an f,n]
  clear n l;unfold jK at b;rw[Zg]at b;by_cases e:q=j
  .subst e
   rw[Zd rfl,Zd (by rw[nj];exact a),c]at b;simp only[Zn,Za]at b;omega
  .rw[Y6 e,c]at b
   simp only[Za]at b;omega
 .rw[zT,OF hq,<-zT];exact g.tot
theorem QD(l:List Vc)(w:List Int)(q:Nat)(t:Int)(h8:w.length<=8)(c:WgOk w)(hq:q<w.length)(n:0<=t)(a:t<=256):HX prog 254 [.agg [.pv (aw l),.arr 2000000 w.length],.pv (Z q),.pv (Z t)] [(2000000,.row 2 1 (w.map Z) 0)] [(2000000,.row 2 1 ((jK w q t).map Z) 0)] (.tup []):=by
 refine GM func254 rfl (by kernel_rfl) (by simp[f254]) ?_ ?_
 .constructor
  .rfl
  .simp
  .intro k b h;simp at h;obtain⟨rfl,rfl⟩:=h;rfl
  .intro k b h;simp at h;obtain⟨rfl,rfl⟩:=h;rfl
  .intro k b b' h P
   have L:=ey h;have M:=ey P;simp at L M;obtain⟨rfl,rfl⟩:=L;obtain⟨_,rfl⟩:=M;simp[uE,rz]
 intro C hP hN;simp only[f254]at hN|-;refine GT (be @M7.eq_1 @bm.eq_1 @bm.eq_2) ?_;refine WP.loopN [] w.length (λi st=>st.t 3=.ptr 3 0/\st.h 3=some (.box [.pv (aw l),.arr 2000000 w.length] true false)/\st.t 11=.arr 2000000 w.length/\st.t 12=.pv (Z w.length)/\st.t 13=.pv (Z i)/\st.t 6=.pv (Z (dy w t i))/\st.t 1=.pv (Z q)/\st.t 2=.pv (Z t)/\st.h 2000000=some (.row 2 1 ((dx w t i).map Z) 0)) (by simp[vm,dy]) ?_;rintro i st hi ⟨g3,v,r,s,u,N,g1,g2,x⟩;have f:=nj w t i;by_cases j:i<w.length
 .have H:=ab j (by omega)
  generalize I:w[i]=k at *
  have D:w[i]?=some k:=by rw[an j,I]
  have g:(dx w t i)[i]?=some k:=by rw[jd,D];simp
  have z:=c.pos k (An D);have hp:=pf z n a;have G:=pg c.pos n a (i+1);have T:=pg c.pos n a i;have hm:=gM c.pos (show i+1<=w.length by omega);have A:=c.tot;have F:=vn (t:=t) D
  have y:dy w t (i+1)=dy w t i+k*t/256:=by simp only[dy,D,Zn]
  have Q:k<=65536:=by
   have a1:=mX D;have O:=r7 c.pos i;omega
  rw[y]at G;generalize dy w t (i+1)=L' at *;generalize dy w t i=o at *;generalize dx w t (i+1)=R' at *;generalize dx w t i=R at *;subst y;subst F;have Y:i64.wrap (k*t)=k*t:=aa;have u2:(k*t).tdiv 256=k*t/256:=Zr (by omega);generalize k*t/256=p at *;have u3:i64.wrap p=p:=aa;have u4:i64.wrap (k-p)=k-p:=aa;have K:i64.wrap (o+p)=o+p:=aa
  have d:i<R.length:=by omega
  have m:∀h,R[i]'h=k:=λh=>by rw[an h]at g;exact ZQ g
  with_reducible repeat' (first|refine Sp.h ?_|((first|refine Ss.h ?_|(refine Sb.h ?_ ?_ ?_<;>(try intro hgd)<;>try exact Xy))<;>simp -implicitDefEqProofs (maxSteps:=2000000) [hP,hN,g3,v,r,s,u,N,g1,g2,x,f,j,d,g,m,Y,u2,u3,u4,K,H])|refine X2 ?_ ?_|(refine Xd ?_ ?_<;>intro hcd<;>try exact Xx))
 .have E:i=w.length:=by omega
  subst E;have U:=pg c.pos n a w.length;have V:=Fo c hq n a;have hgd:jK w q t=(dx w t w.length).set q (((dx w t w.length)[q]?).getD 0+dy w t w.length):=rfl;have B:w[q]?=some w[q]:=an hq;have W:=pf (c.pos _ (Zs hq)) n a
  have e:(dx w t w.length)[q]?=some (w[q]-w[q]*t/256):=by rw[jd,B];simp[hq]
  have X:w[q]<=65536:=by
   have a1:=mX B;have O:=r7 c.pos q;have a3:=gM c.pos (show q+1<=w.length by omega);have a4:=c.tot;omega
  have A:=c.tot;rw[e]at hgd;simp only[Zn]at hgd
  have S:0<=w[q]-w[q]*t/256/\w[q]-w[q]*t/256<=65536:=by omega
  generalize w[q]-w[q]*t/256=J at *;rw[hgd];generalize dx w t w.length=R at *;generalize dy w t w.length=o at *
  have d:q<R.length:=by omega
  have m:∀h,R[q]'h=J:=λh=>by rw[an h]at e;exact ZQ e
  have K:i64.wrap (J+o)=J+o:=aa
  with_reducible repeat' (first|refine Sp.h ?_|((first|refine Ss.h ?_|(refine Sb.h ?_ ?_ ?_<;>(try intro hgd)<;>try exact Xy))<;>simp -implicitDefEqProofs (maxSteps:=2000000) [hP,hN,g3,v,r,s,u,N,g1,g2,x,f,hq,d,e,m,K])|refine X2 ?_ ?_|(refine Xd ?_ ?_<;>intro hcd<;>try exact Xx))
  all_goals exact⟨rfl,⟨_,rfl,_,rfl⟩,by intro kb h;simp at h;subst h;simp⟩
def dz(A:List Vc)(w:List Int)(a:List Vc)(v:List Int):Vc:=aL (bO A w A.length) (bO a v a.length)
def iH(t:Vc):Vc:=(t.1.tdiv 65536,t.2.1.tdiv 65536,t.2.2.tdiv 65536)
structure NSt where
 w:List Int
 v:List Int
 n:Vc
 r:Nat
inductive NEnd where
 |stop(kind:Int)(s:NSt)
 |step(s:NSt)
def ph(A a:List Vc)(rho:Int)(steps:Nat)(s:NSt):NEnd:=
 if pd (dz A s.w a s.v) rho=true then .stop 2 s
 else if nz (bb (iH (dz A s.w a s.v)))=false then .stop 0 ⟨s.w,s.v,bb (iH (dz A s.w a s.v)),s.r⟩
 else if eV (bb (iH (dz A s.w a s.v)))*rho<(bN dN (bb (iH (dz A s.w a s.v))) A).1-(bN dO (bb (iH (dz A s.w a s.v))) a).1 then .stop 1 ⟨s.w,s.v,bb (iH (dz A s.w a s.v)),s.r⟩
 else if s.r=steps then .stop 0 ⟨s.w,s.v,bb (iH (dz A s.w a s.v)),s.r⟩
 else if kY (iH (dz A s.w a s.v)) (aL ((A[(bN dN (bb (iH (dz A s.w a s.v))) A).2]?).getD (0,0,0)) ((a[(bN dO (bb (iH (dz A s.w a s.v))) a).2]?).getD (0,0,0)))=0 then .stop 0 ⟨s.w,s.v,bb (iH (dz A s.w a s.v)),s.r⟩
 else .step ⟨jK s.w (bN dN (bb (iH (dz A s.w a s.v))) A).2 (kY (iH (dz A s.w a s.v)) (aL ((A[(bN dN (bb (iH (dz A s.w a s.v))) A).2]?).getD (0,0,0)) ((a[(bN dO (bb (iH (dz A s.w a s.v))) a).2]?).getD (0,0,0)))),jK s.v (bN dO (bb (iH (dz A s.w a s.v))) a).2 (kY (iH (dz A s.w a s.v)) (aL ((A[(bN dN (bb (iH (dz A s.w a s.v))) A).2]?).getD (0,0,0)) ((a[(bN dO (bb (iH (dz A s.w a s.v))) a).2]?).getD (0,0,0)))),bb (iH (dz A s.w a s.v)),s.r+1⟩
def j6(A b:List Vc)(rho:Int)(steps:Nat):Nat->NSt->Int×NSt
 |0,s=>(0,s)
 |f+1,s=>match ph A b rho steps s with
  |.stop k a=>(k,a)
  |.step a=>j6 A b rho steps f a
theorem J8{t:Vc}(h:em 35184372088832 t):em 536870912 (iH t):=by
 have h1:∀x:Int,-35184372088832<=x/\x<=35184372088832->-536870912<=x.tdiv 65536/\x.tdiv 65536<=536870912:=λx b=>by
  rcases yA7 0 x with a|a
  .rw[Zr a];omega
  .have e:x.tdiv 65536=-((-x).tdiv 65536):=by rw[Int.neg_tdiv,Int.neg_neg]
   rw[e,Zr (by omega)];omega
 exact⟨h1 _ h.1,h1 _ h.2.1,h1 _ h.2.2⟩
structure NsOk(A B':List Vc)(s:NSt):Prop where
 w:WgOk s.w
 v:WgOk s.v
 wl:s.w.length=A.length
 vl:s.v.length=B'.length
theorem jo:eN l=true↔1<=l.length/\l.length<=8/\l.all (ay 268435456)=true:=by
 simp only[eN,up,Is,and_assoc]
theorem Fp{s:NSt}(a:eN A=true)(b:eN B'=true)(hs:NsOk A B' s):em 35184372088832 (dz A s.w B' s.v):=by
 rw[jo]at a b;have h1:=jn a.2.2 hs.w A.length (by rw[hs.wl];exact Zf _);have c:=jn b.2.2 hs.v B'.length (by rw[hs.vl];exact Zf _);exact r8 h1 c
theorem nk(a:1<=l.length):(bN bet n l).2<l.length:=vk a _
abbrev Tp(A:List Vc)(c:Nat)(a:List Vc)(b:Nat)(n:Vc)(r:Nat):List AV:=[.pv (aw A),.arr 2000000 c,.pv (aw a),.arr 2000001 b,.pv (Z n.1),.pv (Z n.2.1),.pv (Z n.2.2),.pv (Z r)]
abbrev NC(A a:List Vc)(s:NSt):List (Nat×Blk):=[(1000000,.box (Tp A s.w.length a s.v.length s.n s.r) false false),(2000000,.row 2 1 (s.w.map Z) 0),(2000001,.row 2 1 (s.v.map Z) 0)]
theorem Bg:∀(k:Nat)(v:Vc),em (16384*((2^k:Nat):Int)) v->ay 16384 (kg k v)=true
 |0,v,h=>by
  obtain⟨h1,a,b⟩:=h;simp only[kg];rw[bu,aV,aV,aV];simp only[Nat.pow_zero]at h1 a b;exact⟨by omega,by omega,by omega⟩
 |k+1,v,h=>by
  simp only[kg];split
  .assumption
  .refine Bg k _ (FJ ?_)
   have e:2*(16384*((2^k:Nat):Int))=16384*((2^(k+1):Nat):Int):=by rw[yBj];omega
   rw[e];exact h
theorem Dh(v:Vc)(h:em 1099511627776 v):ay 16384 (bb v)=true:=Bg 64 v (jc h (by decide))
theorem vo{rho:Int}{steps:Nat}{s:NSt}(b:eN A=true)(c:eN B'=true)(hs:NsOk A B' s):(∀k a,ph A B' rho steps s=.stop k a->NsOk A B' a)/\∀a,ph A B' rho steps s=.step a->NsOk A B' a:=by
 rw[jo]at b c;unfold ph;refine⟨λk a h=>?_,λa h=>?_⟩
 .repeat' split at h
  all_goals first
   |(injection h with _ h;subst h;exact hs)
   |(injection h with _ h;subst h;exact⟨hs.w,hs.v,hs.wl,hs.vl⟩)
   |cases h
 .repeat' split at h
  all_goals first
   |cases h;done
   |(injection h with h
     subst h
     exact⟨Fo hs.w (by rw[hs.wl];exact nk b.1) (lF _ _).1 (lF _ _).2,Fo hs.v (by rw[hs.vl];exact nk c.1) (lF _ _).1 (lF _ _).2,by rw[rz];exact hs.wl,by rw[rz];exact hs.vl⟩)
theorem vp{A a:List Vc}{rho:Int}{steps:Nat}(b:eN A=true)(c:eN a=true):∀(f:Nat)(s:NSt),NsOk A a s->NsOk A a (j6 A a rho steps f s).2
 |0,s,hs=>hs
 |f+1,s,hs=>by
  have h:=vo (rho:=rho) (steps:=steps) b c hs;simp only[j6];split
  .rename_i k d e;exact h.1 _ _ e
  .rename_i d e;exact vp b c f d (h.2 _ e)
theorem tj{p:Vc}(hn:em 16384 n)(hp:em 268435456 p):-13194139533312<=bg n p/\bg n p<=13194139533312:=by
 obtain⟨a,b,c⟩:=kX (m:=16384) (n:=268435456) hn hp;unfold bg;omega
theorem Di{bet:Int->Int->Bool}{n p0:Vc}{l:List Vc}(hn:em 16384 n)(hp:em 268435456 p0)(a:l.all (ay 268435456)=true):∀i,-13194139533312<=(cG bet n p0 l i).1/\(cG bet n p0 l i).1<=13194139533312
 |0=>tj hn hp
 |i+1=>by
  have ih:=Di (bet:=bet) hn hp a i;simp only[cG];split
  .rename_i v b
   have:=tj hn (dC (L4.1 a v (An b)));split
   .exact this
   .exact ih
  .exact ih
theorem xk(h:ay 16384 v=true):em 16384 v:=by
 rw[bu,aV,aV,aV]at h;exact⟨⟨by omega,by omega⟩,⟨by omega,by omega⟩,⟨by omega,by omega⟩⟩
theorem qV(hn:ay 16384 n=true)(a:l.all (ay 268435456)=true):-13194139533312<=(bN bet n l).1/\(bN bet n l).1<=13194139533312:=by
 refine Di (xk hn) ?_ a _
 cases h:l[0]? with
 |none=>simp[em]
 |some p=>exact dC (L4.1 a p (An h))
theorem QE{s f:NSt}(hs:NsOk A B' s)(a:NsOk A B' f):OkG (NC A B' s) (NC A B' f):=by
 constructor
 .rfl
 .simp
 .intro k b h
  simp only[Zx,Zl,ZD,Z4]at h;rcases h with⟨rfl,rfl⟩|⟨rfl,rfl⟩|⟨rfl,rfl⟩
  all_goals (simp[jA,mP])
 .intro k b h
  simp only[Zx,Zl,ZD,Z4]at h;rcases h with⟨rfl,rfl⟩|⟨rfl,rfl⟩|⟨rfl,rfl⟩
  all_goals (simp[jA,mP])
 .intro k b i h g
  have d:=ey h;have c:=ey g;simp only[Zx,Zl,ZD,Z4]at d c;rcases d with⟨rfl,rfl⟩|⟨rfl,rfl⟩|⟨rfl,rfl⟩
  .rcases c with⟨_,rfl⟩|⟨e,_⟩|⟨e,_⟩
   .rfl
   .exact absurd e (by decide)
   .exact absurd e (by decide)
  .rcases c with⟨e,_⟩|⟨_,rfl⟩|⟨e,_⟩
   .exact absurd e (by decide)
   .simp[uE,hs.wl,a.wl]
   .exact absurd e (by decide)
  .rcases c with⟨e,_⟩|⟨e,_⟩|⟨_,rfl⟩
   .exact absurd e (by decide)
   .exact absurd e (by decide)
   .simp[uE,hs.vl,a.vl]
set_option maxRecDepth 4000 in
theorem UQ(A l:List Vc)(rho:Int)(steps:Nat)(s0:NSt)(hA:eN A=true)(hB:eN l=true)(hr:0<=rho/\rho<=2097152)(b9:steps<=64)(hs:NsOk A l s0)(h0:s0.r=0):HX prog 213 [.ptr 1000000 0,.pv (Z rho),.pv (Z steps)] (NC A l s0) (NC A l (j6 A l rho steps (steps+1) s0).2) (Z (j6 A l rho steps (steps+1) s0).1):=by
 have aj:=vp (rho:=rho) (steps:=steps) hA hB (steps+1) s0 hs;generalize ak:j6 A l rho steps (steps+1) s0=RR at *;have m:=jo.1 hA;have o:=jo.1 hB;refine GM func213 rfl (by kernel_rfl) (by simp[f213]) (QE hs aj) ?_;intro C hP hN;simp only[f213]at hN|-;refine GT (be @M7.eq_1 @bm.eq_1 @bm.eq_2) ?_;refine WP.loopN [7,8,9] steps (λi st=>∃s:NSt,NsOk A l s/\s.r=i/\j6 A l rho steps (steps+1-i) s=RR/\st.t 0=.ptr 1000000 0/\st.t 1=.pv (Z rho)/\st.t 2=.pv (Z steps)/\st.h 7=none/\st.h 8=none/\st.h 9=none/\st.h 1000000=some (.box (Tp A s.w.length l s.v.length s.n s.r) false false)/\st.h 2000000=some (.row 2 1 (s.w.map Z) 0)/\st.h 2000001=some (.row 2 1 (s.v.map Z) 0)) (by refine⟨s0,hs,h0,ak,?_⟩;simp) ?_;rintro i st hi ⟨s,hs,b8,c,g0,g1,g2,p,u,y,j,e,f⟩;have ah:=Fp hA hB hs;have J:=J8 ah;have V:=jc J (show(536870912:Int)<=1099511627776 by decide);have P:=Dh _ V;rw[show steps+1-i=(steps-i)+1 by omega]at c;simp only[j6]at c;have d:ph A l rho steps s=_:=rfl
 conv at d=>rhs;unfold ph
 have c1:=QC A s.w m.2.1 hs.wl m.2.2 hs.w;have c2:=QC l s.v o.2.1 hs.vl o.2.2 hs.v;have a6:=jn m.2.2 hs.w A.length (by rw[hs.wl];exact Zf _);have a7:=jn o.2.2 hs.v l.length (by rw[hs.vl];exact Zf _);have c3:=LK _ _ (jc a6 (by decide)) (jc a7 (by decide));have a8:aL (bO A s.w A.length) (bO l s.v l.length)=dz A s.w l s.v:=rfl;rw[a8]at c3;have c4:=UO _ rho ah hr;have ar:=vo (rho:=rho) (steps:=steps) hA hB hs;generalize dz A s.w l s.v=T at *;have c5:=QX _ V;have I:iH T=(T.1.tdiv 65536,T.2.1.tdiv 65536,T.2.2.tdiv 65536):=rfl
 cases O:pd T rho with
 |true=>
  rw[O]at c4;rw[Zd O]at d;rw[d]at c;simp only at c;subst c;refine GT (zAb g0 g1 g2 p u y j (gA e f)) ?_
  all_goals exact⟨rfl,⟨_,rfl,_,rfl⟩,by intro kb h;simp only[Zx,ZD,Z4]at h;rcases h with rfl|rfl|rfl<;>simp[j,e,f]⟩
 |false=>
  rw[O]at c4;rw[Y6 (by rw[O];simp)]at d
  have L:i64.wrap (T.1.tdiv 65536)=T.1.tdiv 65536:=by have:=J.1;rw[I]at this;simp only at this;exact aa (by omega) (by omega)
  have M:i64.wrap (T.2.1.tdiv 65536)=T.2.1.tdiv 65536:=by have:=J.2.1;rw[I]at this;simp only at this;exact aa (by omega) (by omega)
  have N:i64.wrap (T.2.2.tdiv 65536)=T.2.2.tdiv 65536:=by have:=J.2.2;rw[I]at this;simp only at this;exact aa (by omega) (by omega)
  generalize bb (iH T)=n at *
  cases Q:nz n with
  |false=>
   rw[Zd Q]at d;rw[d]at c;simp only at c;subst c;rw[Q,I]at c5;refine GT (zAd g0 g1 g2 p u y j e f L M N) ?_
   all_goals exact⟨rfl,⟨_,rfl,_,rfl⟩,by intro kb h;simp only[Zx,ZD,Z4]at h;rcases h with rfl|rfl|rfl<;>simp[j,e,f]⟩
  |true=>
   rw[Y6 (by rw[Q];simp)]at d;have c6:=UM n A s.w P m.1 m.2.1 m.2.2;have c7:=UN n l s.v P o.1 o.2.1 o.2.2;have c8:=QZ n;have hq:=vH n;have l1:=qV (bet:=dN) P m.2.2;have l2:=qV (bet:=dO) P o.2.2;have X:=nk (bet:=dN) (n:=n) m.1;have Y:=nk (bet:=dO) (n:=n) o.1;generalize bN dN n A=lo at *;generalize bN dO n l=F at *;generalize eV n=q at *;have b7:=bj (a:=q) (b:=rho) 32768 2097152 (by omega) (by omega) (by omega) (by omega);have S:i64.wrap (lo.1-F.1)=lo.1-F.1:=aa;have U:i64.wrap (q*rho)=q*rho:=aa;generalize D:q*rho=qr at *;obtain⟨pa,z⟩:∃x,A[lo.2]?=some x:=⟨_,an X⟩;obtain⟨pb,B⟩:∃x,l[F.2]?=some x:=⟨_,an Y⟩
   have G:∀h,A[lo.2]'h=pa:=λh=>by rw[an h]at z;exact ZQ z
   have H:∀h,l[F.2]'h=pb:=λh=>by rw[an h]at B;exact ZQ B
   have sa:=dC (L4.1 m.2.2 pa (An z));have sb:=dC (L4.1 o.2.2 pb (An B));have c9:=LK pa pb (jc sa (by decide)) (jc sb (by decide));have b5:=r8 sa sb;have ad:=UP (iH T) (aL pa pb) J b5;have R:=lF (iH T) (aL pa pb);rw[z,B]at d;simp only[Zn]at d;generalize kY (iH T) (aL pa pb)=t at *;generalize aL pa pb=ca at *;rw[I]at c5 ad;rw[Q]at c5;by_cases g:qr<lo.1-F.1
   .rw[Zd g]at d
    rw[d]at c;simp only at c;subst c;refine GT (zAe g0 g1 g2 p u y j e f L M N S U (gA D g)) ?_
    all_goals exact⟨rfl,⟨_,rfl,_,rfl⟩,by intro kb h;simp only[Zx,ZD,Z4]at h;rcases h with rfl|rfl|rfl<;>simp[j,e,f]⟩
   rw[Y6 g]at d;by_cases W:s.r=steps
   .rw[Zd W]at d
    rw[d]at c;simp only at c;subst c
    have k:((s.r:Int)==(steps:Int))=true:=by simp;omega
    refine GT (zAe g0 g1 g2 p u y j e f L M N S U (be D g k)) ?_
    all_goals exact⟨rfl,⟨_,rfl,_,rfl⟩,by intro kb h;simp only[Zx,ZD,Z4]at h;rcases h with rfl|rfl|rfl<;>simp[j,e,f]⟩
   rw[Y6 W]at d
   have k:((s.r:Int)==(steps:Int))=false:=by simp;omega
   by_cases E:t=0
   .rw[Zd E]at d
    rw[d]at c;simp only at c;subst c;refine GT (zAe g0 g1 g2 p u y j e f L M N S U (zAc D g k z B G H X Y E)) ?_
    all_goals exact⟨rfl,⟨_,rfl,_,rfl⟩,by intro kb h;simp only[Zx,ZD,Z4]at h;rcases h with rfl|rfl|rfl<;>simp[j,e,f]⟩
   rw[Y6 E]at d;have b3:=ar.2 _ d;rw[d]at c;simp only at c
   have K:(t==0)=false:=by simp;omega
   have bq:=QD A s.w lo.2 t (by rw[hs.wl];exact m.2.1) hs.w (by rw[hs.wl];exact X) R.1 R.2;have b2:=QD l s.v F.2 t (by rw[hs.vl];exact o.2.1) hs.v (by rw[hs.vl];exact Y) R.1 R.2
   with_reducible repeat' (first|refine Sp.h ?_|((refine WP.share (hn:=[]) (pre:=[_,_,_,_,_,_,_]) (post:=[]) rfl rfl rfl ?_);simp -implicitDefEqProofs (maxSteps:=2000000) [hP,hN,g0,g1,g2,p,u,y,j,e,f,L,M,N,S,U,D,g,k,z,B,G,H,X,Y,E,K])|((first|refine Wd ?_|refine Ss.h ?_|refine Sc.h (c1) ?_|refine Sc.h (c2) ?_|refine Sc.h (c3) ?_|refine Sc.h (c4) ?_|refine Sc.h (c5) ?_|refine Sc.h (c6) ?_|refine Sc.h (c7) ?_|refine Sc.h (c8) ?_|refine Sc.h (c9) ?_|refine Sc.h (ad) ?_|(refine Sb.h ?_ ?_ ?_<;>(try intro hgd)<;>try exact Xy))<;>simp -implicitDefEqProofs (maxSteps:=2000000) [hP,hN,g0,g1,g2,p,u,y,j,e,f,L,M,N,S,U,D,g,k,z,B,G,H,X,Y,E,K]<;>try refine Ya ?_)|refine X2 ?_ ?_|(refine Xd ?_ ?_<;>intro hcd<;>try exact Xx))
   simp only[Ao,hP];refine⟨_,_,_,_,_,λ_=>2000000,rfl,bq,rfl,?_⟩;refine⟨by simp[BE,lr],by simp[GL,mP],by simp,by intro kb h;simp only[Zx,ZD,Z4]at h;subst h;simp[e,ii],by rw[hN];rfl,?_⟩;simp -implicitDefEqProofs (maxSteps:=2000000) [hP,hN,gZ,ii,bZ,e]
   with_reducible repeat' (first|refine Sp.h ?_|((refine WP.share (hn:=[]) (pre:=[_,_,_,_,_,_,_]) (post:=[]) rfl rfl rfl ?_);simp -implicitDefEqProofs (maxSteps:=2000000) [hP,hN,g0,g1,g2,p,u,y,j,e,f,gZ,ii,L,M,N,S,U,D,g,k,z,B,G,H,X,Y,E,K])|((first|refine Wd ?_|refine Ss.h ?_|refine Sc.h (c1) ?_|refine Sc.h (c2) ?_|refine Sc.h (c3) ?_|refine Sc.h (c4) ?_|refine Sc.h (c5) ?_|refine Sc.h (c6) ?_|refine Sc.h (c7) ?_|refine Sc.h (c8) ?_|refine Sc.h (c9) ?_|refine Sc.h (ad) ?_|(refine Sb.h ?_ ?_ ?_<;>(try intro hgd)<;>try exact Xy))<;>simp -implicitDefEqProofs (maxSteps:=2000000) [hP,hN,g0,g1,g2,p,u,y,j,e,f,gZ,ii,L,M,N,S,U,D,g,k,z,B,G,H,X,Y,E,K]<;>try refine Ya ?_)|refine X2 ?_ ?_|(refine Xd ?_ ?_<;>intro hcd<;>try exact Xx))
   simp only[Ao,hP];refine⟨_,_,_,_,_,λ_=>2000001,rfl,b2,rfl,?_⟩;refine⟨by simp[BE,lr],by simp[GL,mP],by simp,by intro kb h;simp only[Zx,ZD,Z4]at h;subst h;simp[f,ii],by rw[hN];rfl,?_⟩;simp -implicitDefEqProofs (maxSteps:=2000000) [hP,hN,gZ,ii,bZ,e,f];have b4:i64.wrap ((s.r:Int)+1)=(s.r:Int)+1:=aa;refine GT (zAe g0 g1 g2 p u y j e f b4 @gZ.eq_1 @ii.eq_1 @ii.eq_2 L (zAe M N S U D g k z B G H X Y E K)) ?_;refine⟨by omega,⟨jK s.w lo.2 t,jK s.v F.2 t,n,s.r+1⟩,b3,by simp only;omega,c,⟨(rz _ _ _).symm,(rz _ _ _).symm,rfl,rfl,rfl,by simp only;omega⟩,rfl,rfl⟩
def tl(a b:List Vc):NSt:=⟨(List.replicate a.length 0).set 0 65536,(List.replicate b.length 0).set 0 65536,(0,0,0),0⟩
theorem ND{n:Nat}(h:1<=n):WgOk ((List.replicate n 0).set 0 65536):=by
 constructor
 .intro k a
  rcases ZT a with h|rfl
  .have:=List.eq_of_mem_replicate h;omega
  .decide
 .rw[zT,Cg (y:=0) (by rw[Zz,Zd (by omega)])]
  have:(List.replicate n (0:Int)).sum=0:=by simp
  omega
theorem Fq{a b:List Vc}(c:1<=a.length)(d:1<=b.length):NsOk a b (tl a b):=⟨ND c,ND d,by simp[tl],by simp[tl]⟩
def qW(a b:List Vc)(rho steps:Int):Bool:=eN a&&eN b&&aT rho 0 2097152&&aT steps 0 64
def iP(a b:List Vc)(rho steps:Int):Int×NSt:=if qW a b rho steps then j6 a b rho steps.toNat (steps.toNat+1) (tl a b)else(0,⟨[],[],(0,0,0),0⟩)
abbrev NE(x:Int×NSt):PV:=.agg [Z x.1,Z x.2.n.1,Z x.2.n.2.1,Z x.2.n.2.2,zs x.2.w,zs x.2.v,Z x.2.r]
theorem QF(a b:List Vc)(rho steps:Int)(v:a.length<=9223372036854775807)(x:b.length<=9223372036854775807):lR 169 (aw a) (aw b) (Z rho) (Z steps) (NE (iP a b rho steps)):=by
 have g:=QB a v;have j:=QB b x;have c:qW a b rho steps=(eN a&&eN b&&aT rho 0 2097152&&aT steps 0 64):=rfl
 have d:iP a b rho steps=if qW a b rho steps then j6 a b rho steps.toNat (steps.toNat+1) (tl a b)else(0,⟨[],[],(0,0,0),0⟩):=rfl
 cases e:eN a with
 |false=>
  rw[e]at g c;simp only[ZI]at c;rw[c]at d;simp only[Y9,Zk]at d;rw[d];refine Dp func169 λC hP hN=>?_;exact Gy
 |true=>
 cases f:eN b with
 |false=>
  rw[e]at g c;rw[f]at j c;simp only[yAr,ZI]at c;rw[c]at d;simp only[Y9,Zk]at d;rw[d];refine Dp func169 λC hP hN=>?_;exact Gy
 |true=>
 rw[e]at g c;rw[f]at j c;simp only[yAo,Zu]at c;by_cases s:rho<0\/2097152<rho\/steps<0\/64<steps
 .have hf:(aT rho 0 2097152&&aT steps 0 64)=false:=by
   simp only[aT];rcases s with h|h|h|h
   .rw[Z9 (show¬0<=rho by omega)];simp
   .rw[Z9 (show¬rho<=2097152 by omega)];simp
   .rw[Z9 (show¬0<=steps by omega)];simp
   .rw[Z9 (show¬steps<=64 by omega)];simp
  rw[hf]at c;rw[c]at d;simp only[Y9,Zk]at d;rw[d];rcases s with h|h|h|h
  all_goals
   refine Dp func169 λC hP hN=>?_;exact Gy
 have hf:(aT rho 0 2097152&&aT steps 0 64)=true:=by
  simp only[aT,up,Is];omega
 rw[hf]at c;rw[c]at d;simp only[Zp]at d;obtain⟨m,y⟩:∃m:Nat,steps=m:=⟨steps.toNat,by omega⟩;subst y;simp only[Zo]at d;have n:=jo.1 e;have o:=jo.1 f;have c1:=NB a n.1 n.2.1;have u:=NB b o.1 o.2.1;have k:=Fq n.1 o.1;have i:=vp (rho:=rho) (steps:=m) e f (m+1) (tl a b) k;have l:=UQ a b rho m (tl a b) e f (by omega) (by omega) k rfl;generalize j6 a b rho m (m+1) (tl a b)=B at *;rw[d]
 have h1:¬rho<0:=by omega
 have p:¬2097152<rho:=by omega
 have D:¬(m:Int)<0:=by omega
 have r:¬64<(m:Int):=by omega
 refine Dp func169 λC hP hN=>?_
 with_reducible repeat' (first|refine Sp.h ?_|((refine WP.share (hn:=[]) (pre:=[_,_]) (post:=[_]) rfl rfl rfl ?_);simp -implicitDefEqProofs (maxSteps:=2000000) [hP,hN,h1,p,r])|((first|refine Ss.h ?_|refine Sc.h (g) ?_|refine Sc.h (j) ?_|refine Sc.h (c1) ?_|refine Sc.h (u) ?_|(refine Sb.h ?_ ?_ ?_<;>(try intro hgd)<;>try exact Xy))<;>simp -implicitDefEqProofs (maxSteps:=2000000) [hP,hN,h1,p,r])|refine X2 ?_ ?_|(refine Xd ?_ ?_<;>intro hcd<;>try exact Xx))
 simp only[Ao,hP];refine⟨_,_,_,_,_,λq=>if q=1000000 then 9 else if q=2000000 then 37 else 40,rfl,l,rfl,?_⟩;refine⟨by simp[BE,lr],by simp[GL,mP],by simp,by intro E h;simp only[Zx,ZD,Z4]at h;rcases h with rfl|rfl|rfl<;>simp[ii,lr,mD,tl],by rw[hN];rfl,?_⟩;simp -implicitDefEqProofs (maxSteps:=2000000) [hP,hN,gZ,ii,lr,mD];have A:=i.wl;have z:=i.vl;exact Gy
def bK(n:Nat)(l:Int):Bool:=decide (-1<=l)&&decide (l<n)
theorem FF(s:Sce)(l:Int)(a:s.js.length<=9223372036854775807):aF 102 (aN s) (Z l) (B (bK s.js.length l)):=by
 refine Dp func102 λC hP hN=>?_
 with_reducible repeat' (first|refine Sp.h ?_|((first|refine Ss.h ?_|(refine Sb.h ?_ ?_ ?_<;>(try intro hgd)<;>try exact Xy))<;>simp -implicitDefEqProofs (maxSteps:=2000000) [hP,hN])|refine X2 ?_ ?_|(refine Xd ?_ ?_<;>intro hcd<;>try exact Xx))
 all_goals (simp only[bK,Is,Zj]at *;first|done|(simp;intros;omega)|(simp;omega)|omega)
def bB(n:Nat)(h:Sh):Int:=if(bK n h.link&&decide (1<=h.rad)&&decide (h.rad<=1048576)&&decide (1<=h.pts.length)&&decide (h.pts.length<=8))=true then(if h.pts.all (ay 4194304)=true then 0 else 805)else 902
theorem VB(s:Sce)(h:Sh)(J:s.js.length<=9223372036854775807)(K:h.pts.length<=9223372036854775807):aF 101 (aN s) (aZ h) (Z (bB s.js.length h)):=by
 have D:=FF s h.link J
 cases l:bK s.js.length h.link with
 |false=>
  have hf:bB s.js.length h=902:=by simp[bB,l]
  rw[hf];rw[l]at D;refine Dp func101 λC hP hN=>?_;exact Gy
 |true=>
 rw[l]at D;by_cases I:h.rad<1\/1048576<h.rad\/(h.pts.length:Int)<1\/(8:Int)<h.pts.length
 .have hf:bB s.js.length h=902:=by
   unfold bB;rw[Y6];simp only[up,Is];rintro⟨⟨⟨⟨b0,b1⟩,N⟩,O⟩,P⟩;omega
  rw[hf];rcases I with h1|h1|h1|h1
  all_goals
   refine Dp func101 λC hP hN=>?_;exact Gy
 have h1:¬h.rad<1:=by omega
 have Q:¬1048576<h.rad:=by omega
 have R:¬(h.pts.length:Int)<1:=by omega
 have S:¬(8:Int)<h.pts.length:=by omega
 have G:¬h.pts.length<1:=by omega
 have H:¬8<h.pts.length:=by omega
 have hf:bB s.js.length h=if h.pts.all (ay 4194304)=true then 0 else 805:=by
  unfold bB;rw[Zd];simp only[up,Is];exact⟨⟨⟨⟨l,by omega⟩,by omega⟩,by omega⟩,by omega⟩
 rw[hf];refine Dp func101 λC hP hN=>?_
 cases e:h.pts.all (ay 4194304)with
 |true=>
  refine Gz ?_;refine WP.loopN [7] h.pts.length (λi st=>True/\st.t 37=.pv (aw h.pts)/\st.t 38=.pv (Z h.pts.length)/\st.t 39=.pv (Z i)/\st.h 7=none) (by simp) ?_;rintro i st hi ⟨g1,g,j,f,m⟩;by_cases d:i<h.pts.length
  .have r:=ab d (by omega)
   have L:=bu.1 (L4.1 e _ (Zs d));obtain⟨y,z,A⟩:=L;rw[aV]at y z A;generalize n:h.pts[i]=v at *
   have E:h.pts[i]?=some v:=by rw[an d,n]
   refine Gz ?_;refine WP.loopN [] 3 (λk st=>True/\st.t 37=.pv (aw h.pts)/\st.t 38=.pv (Z h.pts.length)/\st.t 39=.pv (Z i)/\st.t 43=.pv (al v)/\st.t 44=.pv (Z k)) (by simp[g1,g,j,f]) ?_;clear g1 g j f m;rintro k st l ⟨g1,g,j,f,gA,q⟩;rcases dA l with rfl|rfl|rfl|rfl
   all_goals
    exact Gy
  .skip
   exact Gy
 |false=>
  refine Gz ?_;refine WP.loopN [7] h.pts.length (λi st=>True/\st.t 37=.pv (aw h.pts)/\st.t 38=.pv (Z h.pts.length)/\st.t 39=.pv (Z i)/\st.h 7=none/\∀k x,k<i->h.pts[k]?=some x->ay 4194304 x=true) (by simp) ?_;rintro i st hi ⟨g1,g,j,f,m,hq⟩;by_cases d:i<h.pts.length
  .have r:=ab d (by omega)
   generalize n:h.pts[i]=v at *
   have E:h.pts[i]?=some v:=by rw[an d,n]
   have u:=mY (p:=ay 4194304) E hq;refine Gz ?_;refine WP.loopN [] 3 (λk st=>True/\st.t 37=.pv (aw h.pts)/\st.t 38=.pv (Z h.pts.length)/\st.t 39=.pv (Z i)/\st.t 43=.pv (al v)/\st.t 44=.pv (Z k)/\(0<k->fA v.1 4194304=true)/\(1<k->fA v.2.1 4194304=true)/\(2<k->fA v.2.2 4194304=true)) (by simp[g1,g,j,f]) ?_;clear g1 g j f m hq;rintro k st l ⟨g1,g,j,f,gA,q,B,F,M⟩;rcases dA l with rfl|rfl|rfl|rfl
   .skip
    with_reducible repeat' (first|refine Sp.h ?_|((first|refine Ss.h ?_|(refine Sb.h ?_ ?_ ?_<;>(try intro hgd)<;>try exact Xy))<;>simp -implicitDefEqProofs (maxSteps:=2000000) [hP,hN,g1,g,j,f,gA,q,r])|refine X2 ?_ ?_|(refine Xd ?_ ?_<;>intro hcd<;>try exact Xx))
    all_goals (try (rw[aV];simp only[Zj,Is]at hgd hcd;omega))
   .skip
    with_reducible repeat' (first|refine Sp.h ?_|((first|refine Ss.h ?_|(refine Sb.h ?_ ?_ ?_<;>(try intro hgd)<;>try exact Xy))<;>simp -implicitDefEqProofs (maxSteps:=2000000) [hP,hN,g1,g,j,f,gA,q,r])|refine X2 ?_ ?_|(refine Xd ?_ ?_<;>intro hcd<;>try exact Xx))
    all_goals (try (exact⟨B (by omega),by rw[aV];simp only[Zj,Is]at hgd hcd;omega⟩))
   .skip
    with_reducible repeat' (first|refine Sp.h ?_|((first|refine Ss.h ?_|(refine Sb.h ?_ ?_ ?_<;>(try intro hgd)<;>try exact Xy))<;>simp -implicitDefEqProofs (maxSteps:=2000000) [hP,hN,g1,g,j,f,gA,q,r])|refine X2 ?_ ?_|(refine Xd ?_ ?_<;>intro hcd<;>try exact Xx))
    all_goals (try (exact⟨B (by omega),F (by omega),by rw[aV];simp only[Zj,Is]at hgd hcd;omega⟩))
   .have hn:ay 4194304 v=true:=bu.2 ⟨B (by omega),F (by omega),M (by omega)⟩
    have o:=u hn;refine Gz ?_
    all_goals (try exact λk a b c=>o k (a,b,c))
  .have:=pD hq d
   rw[this]at e;cases e
def gm(n:Nat)(shs:List Sh):Int:=match(shs.map (bB n)).find? (λe=>e !=0)with
 |some e=>e
 |none=>0
theorem wi{n:Nat}(b:i<shs.length)(hq:∀k x,k<i->shs[k]?=some x->bB n x=0)(c:bB n shs[i]≠0):gm n shs=bB n shs[i]:=by
 have:(shs.map (bB n)).find? (λe=>e !=0)=some (bB n shs[i]):=by
  rw[yBd];refine⟨by simpa using c,i,by simpa using b,by simp,λk d=>?_⟩
  have a:k<shs.length:=by omega
  simp[hq k shs[k] d (an a)]
 rw[gm,this]
theorem ss{n:Nat}(hq:∀(k:Nat) x,shs[k]?=some x->bB n x=0):gm n shs=0:=by
 have:(shs.map (bB n)).find? (λe=>e !=0)=none:=by
  rw[yAh];intro e a;simp only[Zv]at a;obtain⟨x,c,rfl⟩:=a;obtain⟨k,b⟩:=ZF c;simp[hq k x b]
 rw[gm,this]
def gB(n:Nat)(p:Int×Int):Bool:=bK n p.1&&bK n p.2
def ao(s:Sce):Int:=if aP s.js s.ms≠0 then aP s.js s.ms else if 24<s.shs.length then 901 else if gm s.js.length s.shs≠0 then gm s.js.length s.shs else if 64<s.sks.length then 903 else if s.sks.all (gB s.js.length)=true then 0 else 903
structure ScL(s:Sce):Prop where
 js:s.js.length<=9223372036854775807
 ms:s.ms.length<=9223372036854775807
 shs:s.shs.length<=9223372036854775807
 sks:s.sks.length<=9223372036854775807
 pts:∀h∈s.shs,h.pts.length<=9223372036854775807
theorem Ht(s:Sce)(hs:ScL s):aR 61 (aN s) (Z (ao s)):=by
 have T:=C7 s.js s.ms hs.js hs.ms;obtain⟨G,l2,Y,S,l5⟩:=hs;by_cases A:aP s.js s.ms=0
 case neg=>
  have hf:ao s=aP s.js s.ms:=by simp[ao,A]
  have U:(aP s.js s.ms !=0)=true:=by simp[A]
  rw[hf];generalize aP s.js s.ms=r at *;refine Dp func61 λC hP hN=>?_;exact Gy
 rw[A]at T;by_cases h1:24<s.shs.length
 .have hf:ao s=901:=by simp[ao,A,h1]
  have L:(24:Int)<s.shs.length:=by omega
  rw[hf];refine Dp func61 λC hP hN=>?_;exact Gy
 have L:¬(24:Int)<s.shs.length:=by omega
 have hf:ao s=if gm s.js.length s.shs≠0 then gm s.js.length s.shs else if 64<s.sks.length then 903 else if s.sks.all (gB s.js.length)=true then 0 else 903:=by simp only[ao,A,h1,Zk,ne_eq,yAw]
 rw[hf];refine Dp func61 λC hP hN=>?_;refine Gz ?_;refine WP.loopN [5] s.shs.length (λi st=>st.t 1=.ptr 1 0/\st.h 1=some (.box [.pv (.sl (s.js.map aO)),.pv (.sl (s.ms.map aX)),.pv (.sl (s.shs.map aZ)),.pv (.sl (s.sks.map aJ))] true false)/\st.t 20=.pv (.sl (s.shs.map aZ))/\st.t 21=.pv (Z s.shs.length)/\st.t 22=.pv (Z i)/\st.h 5=none/\st.h 8=none/\∀k x,k<i->s.shs[k]?=some x->bB s.js.length x=0) (by simp) ?_;rintro i st hi ⟨g1,d,u,y,z,D,f,hq⟩;by_cases c:i<s.shs.length
 .have R:=ab c Y
  have M:=wi (n:=s.js.length) c hq;have o:=λq=>mY (p:=λx=>bB s.js.length x==0) (an c) (λk x O j=>by simp[hq k x O j]) q;generalize l:s.shs[i]=v at *
  have j:s.shs[i]?=some v:=by rw[an c,l]
  have cc:=VB s v G (l5 v (An j));generalize bB s.js.length v=e at *;by_cases q:e=0
  .subst q
   have F:∀k x,k<i+1->s.shs[k]?=some x->bB s.js.length x=0:=λk x O j=>by simpa using o rfl k x O j
   refine Gz ?_
   all_goals exact F
  .have W:(e !=0)=true:=by simp[q]
   have N:=M q;exact Gy
   all_goals simp[N,q]
 .have X:gm s.js.length s.shs=0:=ss (λk x j=>hq k x (by have:=(th.1 j).1;omega) j)
  rw[X];by_cases V:64<s.sks.length
  .have B:(64:Int)<s.sks.length:=by omega
   exact Gy
  .have B:¬(64:Int)<s.sks.length:=by omega
   cases g:s.sks.all (gB s.js.length)with
   |true=>
    refine Gz ?_;refine WP.loopN [8] s.sks.length (λi st=>st.t 1=.ptr 1 0/\st.h 1=some (.box [.pv (.sl (s.js.map aO)),.pv (.sl (s.ms.map aX)),.pv (.sl (s.shs.map aZ)),.pv (.sl (s.sks.map aJ))] true false)/\st.t 38=.pv (.sl (s.sks.map aJ))/\st.t 39=.pv (Z s.sks.length)/\st.t 40=.pv (Z i)/\st.h 8=none) (by simp[g1,d,f]) ?_;clear g1 d u y z D f hq c;rintro i st hi ⟨g1,d,I,J,K,f⟩;by_cases c:i<s.sks.length
    .have R:=ab c S
     have P:=L4.1 g _ (Zs c);generalize l:s.sks[i]=v at *
     have j:s.sks[i]?=some v:=by rw[an c,l]
     simp only[gB,up]at P;have c1:=FF s v.1 G;have H:=FF s v.2 G;rw[P.1]at c1;rw[P.2]at H;exact Gy
    .skip
     exact Gy
   |false=>
    refine Gz ?_;refine WP.loopN [8] s.sks.length (λi st=>st.t 1=.ptr 1 0/\st.h 1=some (.box [.pv (.sl (s.js.map aO)),.pv (.sl (s.ms.map aX)),.pv (.sl (s.shs.map aZ)),.pv (.sl (s.sks.map aJ))] true false)/\st.t 38=.pv (.sl (s.sks.map aJ))/\st.t 39=.pv (Z s.sks.length)/\st.t 40=.pv (Z i)/\st.h 8=none/\∀k x,k<i->s.sks[k]?=some x->gB s.js.length x=true) (by simp[g1,d,f]) ?_;clear g1 d u y z D f hq c;rintro i st hi ⟨g1,d,I,J,K,f,hq⟩;by_cases c:i<s.sks.length
    .have R:=ab c S
     generalize l:s.sks[i]=v at *
     have j:s.sks[i]?=some v:=by rw[an c,l]
     have o:=mY (p:=gB s.js.length) j hq;have c1:=FF s v.1 G;have H:=FF s v.2 G;have m:gB s.js.length v=(bK s.js.length v.1&&bK s.js.length v.2):=rfl
     cases b1:bK s.js.length v.1 with
     |false=>
      rw[b1]at c1;exact Gy
     |true=>
      rw[b1]at c1 m
      cases Q:bK s.js.length v.2 with
      |false=>
       rw[Q]at H;exact Gy
      |true=>
       rw[Q]at H m;have E:=o m;refine Gz ?_
       all_goals exact λk a b=>E k (a,b)
    .have:=pD hq c
     rw[this]at g;cases g
def Ck(i:Nat)(j:J):Prop:=(0<=j.kind/\j.kind<=6)/\-1<=j.parent/\j.parent<(i:Int)
def sx(js:List J):Prop:=∀i j,js[i]?=some j->Ck i j
theorem Ke{j:J}(h:bJ js i j=0):Ck i j:=by
 unfold bJ at h
 repeat' split at h
 all_goals (try (cases h;done))
 all_goals (try omega)
 refine⟨by omega,by omega,by omega⟩
theorem tp{ms:List Ms}(h:aP js ms=0):sx js/\js.length<=10/\1<=js.length:=by
 unfold aP at h;split at h
 .cases h
 .rename_i m
  split at h
  .rename_i c;exact absurd h c
  .rename_i g
   refine⟨λi j b=>?_,by omega,by omega⟩;have k:=(th.1 b).1
   have a:jb js=0:=by simpa using g
   rw[sW]at a;by_cases d:bJ js i j=0
   .exact Ke d
   .exfalso
    cases hf:(js.mapIdx (bJ js)).find? (λe=>e !=0)with
    |none=>
     rw[yAh]at hf
     have l:bJ js i j∈js.mapIdx (bJ js):=by
      rw[List.mem_mapIdx];obtain⟨h1,f⟩:=th.1 b;exact⟨i,h1,by rw[f]⟩
     exact hf _ l (by simpa using d)
    |some e=>
     rw[hf]at a;have:=yAJ hf;simp only at a;rw[a]at this;simp at this
theorem nq(h:ao s=0):sx s.js/\s.js.length<=10/\1<=s.js.length/\s.shs.length<=24/\s.sks.length<=64/\(∀x∈s.shs,bK s.js.length x.link=true/\fJ x=true)/\∀p∈s.sks,gB s.js.length p=true:=by
 unfold ao at h;split at h
 .rename_i b;exact absurd h b
 .rename_i d
  have d:aP s.js s.ms=0:=by simpa using d
  split at h
  .cases h
  .rename_i h1
   split at h
   .rename_i b;exact absurd h b
   .rename_i c
    have c:gm s.js.length s.shs=0:=by simpa using c
    split at h
    .cases h
    .rename_i q
     split at h
     .rename_i n
      obtain⟨a1,g,i⟩:=tp d;refine⟨a1,g,i,by omega,by omega,λx o=>?_,λp hp=>L4.1 n p hp⟩
      have a:bB s.js.length x=0:=by
       by_cases a:bB s.js.length x=0
       .exact a
       .exfalso
        unfold gm at c
        cases hf:(s.shs.map (bB s.js.length)).find? (λe=>e !=0)with
        |none=>
         rw[yAh]at hf;exact hf _ (Zv.2 ⟨x,o,rfl⟩) (by simpa using a)
        |some e=>
         rw[hf]at c;have:=yAJ hf;simp only at c;rw[c]at this;simp at this
      unfold bB at a;split at a
      .rename_i f
       split at a
       .rename_i hn
        simp only[up,Is]at f;obtain⟨⟨⟨⟨j,c1⟩,k⟩,l⟩,m⟩:=f;refine⟨j,?_⟩;simp only[fJ,up,Is];exact⟨⟨⟨⟨c1,k⟩,l⟩,m⟩,hn⟩
       .cases a
      .cases a
     .cases h
theorem VC(a b c d:Int):ag prog (Op.equal 113 (.agg #[.int .i64 a,.int .i64 b]) (.agg #[.int .i64 c,.int .i64 d]))=some (a==c&&b==d):=by
 have hf:(prog.fieldsOf 113).toList=[(prog.fieldsOf 113)[0]!,(prog.fieldsOf 113)[1]!]:=by kernel_rfl
 show ag prog (Op.equalIn (9999+1) 113 _ _)=_;rw[p9 9999 113 _ _ (by kernel_rfl) (by kernel_rfl),hf]
 have h:=iX (P:=prog) (d:=9999) (xs:=#[.int .i64 a,.int .i64 b]) (ys:=#[.int .i64 c,.int .i64 d]) (f:=(prog.fieldsOf 113)[0]!) (fs:=[(prog.fieldsOf 113)[1]!]) (a:=.int .i64 a) (b:=.int .i64 c) (by decide +kernel) (by kernel_rfl) (by kernel_rfl) (kQ 9998 _ .i64 .i64 a c (by kernel_rfl))
  (iX (by decide +kernel) (a:=.int .i64 b) (b:=.int .i64 d) (by kernel_rfl) (by kernel_rfl) (kQ 9998 _ .i64 .i64 b d (by kernel_rfl)) wR)
 rw[h];simp
def IJ(x y:AV)(fb:Option bG):Option bG:=match yq x,yq y with
 |some (a,b),some (c,d)=>some (.pv (.val (.bool (a==c&&b==d))),[])
 |_,_=>fb
@[simp] theorem SI(a b c d:Int)(fb:Option bG):IJ (.pv (.val (.agg #[.int .i64 a,.int .i64 b]))) (.pv (.val (.agg #[.int .i64 c,.int .i64 d]))) fb=some (.pv (.val (.bool (a==c&&b==d))),[]):=rfl
@[simp] theorem Y3{ty:TypeId}{pos:String}(x y:Operand):
 aU prog ⟨dst,.binOp .eql 113 x y 113,ty,pos,aft,g⟩ ρ=IJ (ρ x) (ρ y) (jH prog ⟨dst,.binOp .eql 113 x y 113,ty,pos,aft,g⟩ ρ):=by
 unfold IJ;split
 .rename_i a b c d e f
  exact uZ rfl (AP e) (AP f) (by kernel_rfl) (VC a b c d)
 .rfl
def xv(a b:Int)(p:Int×Int):Bool:=(p.1==a&&p.2==b)||(p.1==b&&p.2==a)
def jM(s:Sce)(a b:Int):Bool:=s.sks.any (xv a b)
theorem L5{xs:List α}{v:α}(h:xs[i]?=some v)(hp:p v=true):xs.any p=true:=yAT.2 ⟨v,An h,hp⟩
theorem L6{xs:List α}(hq:∀k x,k<i->xs[k]?=some x->p x=false)(h:¬i<xs.length):xs.any p=false:=by
 rw[yAL];intro x b;obtain⟨k,a⟩:=ZF b;simp[hq k x (by have:=(th.1 a).1;omega) a]
theorem IK{xs:List α}{v:α}(b:xs[i]?=some v)(hq:∀k x,k<i->xs[k]?=some x->p x=false)(hp:p v=false):∀k x,k<i+1->xs[k]?=some x->p x=false:=by
 intro k x c a;by_cases e:k=i
 .subst e;rw[b]at a;injection a with a;subst a;exact hp
 .exact hq k x (by omega) a
theorem VD(s:Sce)(a b:Int)(u:s.sks.length<=9223372036854775807):gu 234 (aN s) (Z a) (Z b) (B (jM s a b)):=by
 have e:jM s a b=s.sks.any (xv a b):=rfl;rw[e];refine Dp func234 λC hP hN=>?_;refine Gz ?_;refine WP.loopN [8] s.sks.length (λi st=>st.t 1=.pv (Z a)/\st.t 2=.pv (Z b)/\st.t 10=.pv (.sl (s.sks.map aJ))/\st.t 11=.pv (Z s.sks.length)/\st.t 12=.pv (Z i)/\st.h 8=none/\∀k x,k<i->s.sks[k]?=some x->xv a b x=false) (by simp) ?_;rintro i st hi ⟨g1,g2,n,o,q,r,hq⟩;by_cases c:i<s.sks.length
 .have z:=ab c u
  generalize g:s.sks[i]=v at *
  have m:s.sks[i]?=some v:=by rw[an c,g]
  have f:=IK (p:=xv a b) m hq;have l:=L5 (p:=xv a b) m;have hp:xv a b v=((v.1==a&&v.2==b)||(v.1==b&&v.2==a)):=rfl
  cases c1:(v.1==a&&v.2==b)with
  |true=>
   rw[c1,Bool.true_or]at hp;have y:=l hp;exact Gy
  |false=>
   rw[c1,Bool.false_or]at hp
   cases j:(v.1==b&&v.2==a)with
   |true=>
    rw[j]at hp;have y:=l hp;exact Gy
   |false=>
    rw[j]at hp;have d:=f hp;refine Gz ?_
    all_goals exact λk a b=>d k (a,b)
 .have hn:=L6 hq c
  exact Gy
def VE(L:List Int)(i:Nat)(j:J):Int:=if j.lo=j.hi then(L[(j.parent+1).toNat]?).getD 0 else(i:Int)
def qD(js:List J):Nat->List Int
 |0=>[-1]
 |i+1=>match js[i]? with
  |some j=>qD js i++[VE (qD js i) i j]
  |none=>qD js i
def ke(js:List J):List Int:=qD js js.length
theorem sy{js:List J}:∀i,i<=js.length->(qD js i).length=i+1
 |0,_=>rfl
 |i+1,h=>by
  have a:i<js.length:=by omega
  have ih:=sy (js:=js) i (by omega);simp only[qD,an a,Zq,ih,Z6]
theorem sA{js:List J}{k:Nat}:∀i,k<=i->i<=js.length->∀q,q<=k->(qD js i)[q]?=(qD js k)[q]?
 |0,h1,b,q,hq=>by have:k=0:=by omega
                  subst this;rfl
 |i+1,h1,b,q,hq=>by
  by_cases e:k=i+1
  .subst e;rfl
  .have a:i<js.length:=by omega
   rw[<-sA i (by omega) (by omega) q hq];simp only[qD,an a];rw[Y8 (by rw[sy i (by omega)];omega)]
theorem Hu{j:J}(b:js[i]?=some j)(e:Ck i j):(ke js)[i+1]?=some (if j.lo=j.hi then((ke js)[(j.parent+1).toNat]?).getD 0 else(i:Int)):=by
 have f:=(th.1 b).1;obtain⟨_,g,l⟩:=e;have c:(ke js)[i+1]?=(qD js (i+1))[i+1]?:=sA js.length (k:=i+1) (by omega) (Zf _) _ (Zf _);have d:(ke js)[(j.parent+1).toNat]?=(qD js i)[(j.parent+1).toNat]?:=sA js.length (k:=i) (by omega) (Zf _) _ (by omega);rw[c,d];have a:=sy (js:=js) i (by omega);simp only[qD,b];rw[Zc (by omega),a,yAR];rfl
theorem VF(js:List J)(ms:List Ms)(P:sx js)(X:js.length<=10):aR 233 (eK js ms) (zs (ke js)):=by
 have S:(ke js).length=js.length+1:=sy _ (Zf _);have v:(ke js)[0]?=some (-1):=sA js.length (k:=0) (by omega) (Zf _) 0 (Zf _);have B:=λi j(h:js[i]?=some j)=>Hu h (P i j h);generalize ke js=g at *;have w1:i64.wrap ((js.length:Int)+1)=((js.length+1:Nat):Int):=(aa (by omega) (by omega)).trans (by omega);refine Dp func233 λC hP hN=>?_;refine GT (go w1 (show(8:Int)*((js.length:Int)+1)<=281474976710656 by omega) (show(js.length:Int)+1<=9223372036854775807 by omega) (show(0:Int)<=(js.length:Int)+1 by omega)) ?_;refine WP.loopN [5] js.length (λi st=>∃R:List Int,st.t 3=.arr 10 (js.length+1)/\st.t 14=.pv (.sl (js.map aO))/\st.t 15=.pv (Z js.length)/\st.t 16=.pv (Z i)/\st.h 5=none/\st.h 10=some (.row 3 1 (R.map Z) 0)/\R.length=js.length+1/\∀k,k<=i->R[k]?=g[k]?) ?_ ?_
 .refine⟨(List.replicate (js.length+1) 0).set 0 (-1),?_⟩
  simp[v,yAz,List.map_replicate]
 rintro i st hi ⟨R,g3,r,s,u,D,l,a,y⟩;by_cases d:i<js.length
 .have V:=ab d (by omega)
  generalize q:js[i]=j at *
  have M:js[i]?=some j:=by rw[an d,q]
  have f:=B i j M;obtain⟨_,T,U⟩:=P i j M;obtain⟨p,hp⟩:∃p:Nat,j.parent+1=p:=⟨(j.parent+1).toNat,by omega⟩;have W:i64.wrap (j.parent+1)=(p:Int):=(aa (by omega) (by omega)).trans hp
  have n:p<=i:=by omega
  have I:p<R.length:=by omega
  have c:i+1<R.length:=by omega
  have b:R[p]?=some R[p]:=an I;have A:R[i+1]?=some R[i+1]:=an c
  have L:((i:Int)+1).toNat=i+1:=by omega
  have F:(0:Int)<=(i:Int)+1:=by omega
  rw[hp]at f
  have K:g[p]?=some R[p]:=by rw[<-y p n];exact b
  rw[Zo,K,Zn]at f;generalize R[p]=O at *
  have key:∀x,g[i+1]?=some x->∀k,k<=i+1->(R.set (i+1) x)[k]?=g[k]?:=by
   intro x N k Q;rw[Zg];by_cases e:i+1=k
   .subst e;rw[Zd rfl,Zd c,N]
   .rw[Y6 e];exact y k (by omega)
  have o:((R.map Z).set (i+1) (Z (i:Int)))[p]?=some (Z O):=by rw[Zg,Y6 (by omega),Y7,b];rfl
  have G:∀h,((R.map Z).set (i+1) (Z (i:Int)))[p]'h=Z O:=λh=>by
   have:=an h;rw[o]at this;injection this with this;exact this.symm
  by_cases m:j.lo=j.hi
  .rw[Zd m]at f
   have E:(j.lo==j.hi)=true:=by simp[m]
   with_reducible repeat' (first|refine Sp.h ?_|((first|refine Ss.h ?_|(refine Sb.h ?_ ?_ ?_<;>(try intro hgd)<;>try exact Xy))<;>simp -implicitDefEqProofs (maxSteps:=2000000) [hP,hN,g3,r,s,u,D,l,d,V,M,q,a,c,n,W,m,A,L,F,b,o,G,show p<js.length+1 by omega])|refine X2 ?_ ?_|(refine Xd ?_ ?_<;>intro hcd<;>try exact Xx))
   all_goals exact⟨R.set (i+1) O,by simp[yAz],by simp[a],key _ f⟩
  .rw[Y6 m]at f
   have E:(j.lo==j.hi)=false:=by simp[m]
   refine Gz ?_
   all_goals exact⟨R.set (i+1) (i:Int),by simp[yAz],by simp[a],key _ f⟩
 .have H:i=js.length:=by omega
  subst H
  have z:R=g:=by
   apply ZM;intro k;by_cases Q:k<=js.length
   .exact y k Q
   .rw[Zh (by omega),Zh (by omega)]
  subst z;exact Gy
def uq(h:Sh):Nat:=(h.link+1).toNat
def Cl(c:List Int)(a b:Sh):Bool:=(c[uq a]?).getD 0==(c[uq b]?).getD 0
def DW(s:Sce)(a b:Sh):Bool:=!Cl (ke s.js) a b&& !jM s a.link b.link
def fK(s:Sce)(i q:Nat):Bool:=match s.shs[i]?,s.shs[q]? with
 |some a,some b=>DW s a b
 |_,_=>false
def ky(s:Sce)(i:Nat):Nat->List (Nat×Nat)
 |0=>[]
 |k+1=>ky s i k++(if i<k/\fK s i k=true then[(i,k)]else[])
def jf(s:Sce):Nat->List (Nat×Nat)
 |0=>[]
 |i+1=>jf s i++ky s i s.shs.length
def bY(s:Sce):List (Nat×Nat):=if ao s=0 then jf s s.shs.length else[]
abbrev qX(p:Nat×Nat):PV:=.val (.agg #[.int .i64 (p.1:Int),.int .i64 (p.2:Int)])
theorem Cm(s:Sce)(i:Nat):∀k,k<=i+1->ky s i k=[]
 |0,_=>rfl
 |k+1,h=>by
  have:¬i<k:=by omega
  simp[ky,Cm s i k (by omega),this]
theorem yH(s:Sce)(i:Nat):∀k,(ky s i k).length<=k
 |0=>Zf _
 |k+1=>by
  have:=yH s i k;simp only[ky,Zq];split<;>simp<;>omega
theorem yI(s:Sce):∀i,(jf s i).length<=i*s.shs.length
 |0=>by simp[jf]
 |i+1=>by
  have:=yI s i;have:=yH s i s.shs.length;simp only[jf,Zq,ZO];omega
theorem L7{h:Sh}(b:bK s.js.length h.link=true):∃x,(ke s.js)[uq h]?=some x/\uq h<(ke s.js).length/\h.link+1=(uq h:Int)/\h.link<s.js.length:=by
 simp only[bK,up,Is]at b;have c:(ke s.js).length=s.js.length+1:=sy _ (Zf _)
 have a:uq h<(ke s.js).length:=by unfold uq;omega
 exact⟨_,an a,a,by unfold uq;omega,b.2⟩
theorem VG(s:Sce)(hs:ScL s):aR 206 (aN s) (.sl ((bY s).map qX)):=by
 have cc:=Ht s hs;by_cases L:ao s=0
 case neg=>
  have hf:bY s=[]:=by simp[bY,L]
  have a8:(ao s !=0)=true:=by simp[L]
  rw[hf];generalize ao s=r at *;refine Dp func206 λC hP hN=>?_;exact Gy
 have hf:bY s=jf s s.shs.length:=by simp[bY,L]
 rw[hf];rw[L]at cc;obtain⟨v1,v2,v3,v4,v5,v6,v7⟩:=nq L;have cr:=VF s.js s.ms v1 v2;have T:=λa b=>VD s a b hs.sks;have N:=λh(hh:h∈s.shs)=>L7 (s:=s) (v6 h hh).1;have ak:∀a b:Sh,DW s a b=(!Cl (ke s.js) a b&& !jM s a.link b.link):=λ_ _=>rfl;generalize ke s.js=K at *;have nL:=yI s;have iL:=yH s;refine Dp func206 λC hP hN=>?_;refine ki [4] trivial ?_;refine WP.loopN [6,8] s.shs.length (λi st=>st.t 1=.ptr 1 0/\st.h 1=some (.box [.pv (.sl (s.js.map aO)),.pv (.sl (s.ms.map aX)),.pv (.sl (s.shs.map aZ)),.pv (.sl (s.sks.map aJ))] true false)/\st.t 3=.pv (zs K)/\st.t 17=.pv (.sl (s.shs.map aZ))/\st.t 18=.pv (Z s.shs.length)/\st.t 19=.pv (Z i)/\st.h 6=none/\st.h 8=none/\st.t 4=.arr 4 (jf s i).length/\st.h 4=some (.row 215 2 ((jf s i).map qX) 0)) (by simp[jf]) ?_;rintro i st hi ⟨g1,l,g3,f,g,j,m,n,g4,c⟩;by_cases O:i<s.shs.length
 .have hw:=ab O (by omega)
  generalize a6:s.shs[i]=a at *
  have hx:s.shs[i]?=some a:=by rw[an O,a6]
  obtain⟨xa,p,A,M,bq⟩:=N a (An hx)
  have D:∀h,K[uq a]'h=xa:=λh=>by have:=an h;rw[p]at this;injection this with this;exact this.symm
  have G:jf s (i+1)=jf s i++ky s i s.shs.length:=rfl;have b7:=nL i;have b5:i*s.shs.length<=24*24:=yAp (by omega) (by omega);have H:i64.wrap (a.link+1)=(uq a:Int):=(aa (by omega) (by omega)).trans M;have b2:a.link+1=(uq a:Int):=M;refine Gz ?_;refine WP.loopN [8] (s.shs.length-(i+1)) (λq st=>st.t 1=.ptr 1 0/\st.h 1=some (.box [.pv (.sl (s.js.map aO)),.pv (.sl (s.ms.map aX)),.pv (.sl (s.shs.map aZ)),.pv (.sl (s.sks.map aJ))] true false)/\st.t 3=.pv (zs K)/\st.t 17=.pv (.sl (s.shs.map aZ))/\st.t 18=.pv (Z s.shs.length)/\st.t 19=.pv (Z i)/\st.t 5=.pv (Z i)/\st.t 6=.ptr 6 0/\st.h 6=some (.box [.pv (Z a.link),.pv (Z a.rad),.pv (aw a.pts)] true false)/\st.h 8=none/\st.t 7=.pv (Z ((i+1+q:Nat):Int))/\st.t 4=.arr 4 (jf s i++ky s i (i+1+q)).length/\st.h 4=some (.row 215 2 ((jf s i++ky s i (i+1+q)).map qX) 0)) (by simp[g1,l,g3,f,g,j,m,n,g4,c,Cm]) ?_;clear g1 l g3 f g j m n g4 c;rintro q st hq ⟨g1,l,g3,f,g,j,g5,U,m,n,R,g4,c⟩;obtain⟨k,hk⟩:∃k,k=i+1+q:=⟨_,rfl⟩
  have ah:i+1+(q+1)=k+1:=by omega
  rw[<-hk]at R g4 c;rw[ah];have V:ky s i (k+1)=ky s i k++(if i<k/\fK s i k=true then[(i,k)]else[]):=rfl;have b4:=iL i k;by_cases x:k<s.shs.length
  .have e:(k:Int)<(s.shs.length:Int):=by omega
   have J:i64.wrap ((k:Int)+1)=(k:Int)+1:=aa;generalize y:s.shs[k]=b at *
   have Q:s.shs[k]?=some b:=by rw[an x,y]
   obtain⟨xb,u,B,X,b3⟩:=N b (An Q)
   have E:∀h,K[uq b]'h=xb:=λh=>by have:=an h;rw[u]at this;injection this with this;exact this.symm
   have I:i64.wrap (b.link+1)=(uq b:Int):=(aa (by omega) (by omega)).trans X
   have o:fK s i k=(!Cl K a b&& !jM s a.link b.link):=by simp only[fK,hx,Q,ak]
   have ar:Cl K a b=(xa==xb):=by simp only[Cl,p,u,Zn]
   rw[ar]at o;have S:=T a.link b.link
   have Y:i<k:=by omega
   have a7:(jf s i++ky s i k).length<=1000:=by simp only[Zq];omega
   generalize z:jf s i++ky s i k=P at *
   have F:q<s.shs.length-(i+1):=by omega
   have W:jf s i++ky s i (k+1)=P++(if fK s i k=true then[(i,k)]else[]):=by
    rw[V,<-List.append_assoc,z];simp[Y]
   rw[W];generalize jM s a.link b.link=sk at *
   cases v:(xa==xb)with
   |true=>
    rw[v]at o
    have d:fK s i k=false:=by rw[o];rfl
    rw[d]
    with_reducible repeat' (first|refine Sp.h ?_|((first|refine Wd ?_|refine Ss.h ?_|refine Sc.h (S) ?_|(refine Sb.h ?_ ?_ ?_<;>(try intro hgd)<;>try exact Xy))<;>simp -implicitDefEqProofs (maxSteps:=2000000) [hP,hN,g1,l,g3,f,g,j,g5,U,m,n,R,g4,c,x,e,J,Q,y,H,I,p,A,u,B,D,E,v,F]<;>try refine Ya ?_)|refine X2 ?_ ?_|(refine Xd ?_ ?_<;>intro hcd<;>try exact Xx))
   |false=>
    rw[v]at o
    cases sk with
    |true=>
     have d:fK s i k=false:=by rw[o];rfl
     rw[d]
     with_reducible repeat' (first|refine Sp.h ?_|((first|refine Wd ?_|refine Ss.h ?_|refine Sc.h (S) ?_|(refine Sb.h ?_ ?_ ?_<;>(try intro hgd)<;>try exact Xy))<;>simp -implicitDefEqProofs (maxSteps:=2000000) [hP,hN,g1,l,g3,f,g,j,g5,U,m,n,R,g4,c,x,e,J,Q,y,H,I,p,A,u,B,D,E,v,F]<;>try refine Ya ?_)|refine X2 ?_ ?_|(refine Xd ?_ ?_<;>intro hcd<;>try exact Xx))
    |false=>
     have d:fK s i k=true:=by rw[o];rfl
     rw[d]
     with_reducible repeat' (first|refine Sp.h ?_|((first|refine Wd ?_|refine Ss.h ?_|refine Sc.h (S) ?_|(refine Sb.h ?_ ?_ ?_<;>(try intro hgd)<;>try exact Xy))<;>simp -implicitDefEqProofs (maxSteps:=2000000) [hP,hN,g1,l,g3,f,g,j,g5,U,m,n,R,g4,c,x,e,J,Q,y,H,I,p,A,u,B,D,E,v,F,show(P.length+1)*16<=140737488355328 by omega,show P.length<=9223372036854775806 by omega]<;>try refine Ya ?_)|refine X2 ?_ ?_|(refine Xd ?_ ?_<;>intro hcd<;>try exact Xx))
  .have aj:k=s.shs.length:=by omega
   have e:¬(k:Int)<(s.shs.length:Int):=by omega
   rw[aj,<-G]at g4 c;exact Gy
 .have ad:i=s.shs.length:=by omega
  subst ad;exact Gy
theorem VH(x:Int×Int):aR 272 (aJ x) (B (!aS x.1 x.2)):=by
 refine Dp func272 λC hP hN=>?_;have a:=@jY;exact GS trivial
 all_goals (first|(simp_all;done)|((try simp_all)<;>(try omega)<;>grind))
def jN(js:List J)(bx:List Iv):Bool:=decide (bx.length=js.length)&&bF vI bx
theorem VI(js:List J)(ms:List Ms)(bx:List Iv)(f:js.length<=9223372036854775807)(a:bx.length<=9223372036854775807):aF 235 (eK js ms) (iv bx) (B (jN js bx)):=by
 have b:=T7 272 (λx=>!aS x.1 x.2) bx a VH;have e:(bx.any λx=>!aS x.1 x.2)=!bF vI bx:=G5 vI bx;rw[e]at b;have hd:jN js bx=(decide (bx.length=js.length)&&bF vI bx):=rfl;rw[hd];generalize bF vI bx=c at *;by_cases h:bx.length=js.length
 .have d:((bx.length:Int)==(js.length:Int))=true:=by simp[h]
  cases c
  all_goals
   refine Dp func235 λC hP hN=>?_;exact Gy
 .have d:((bx.length:Int)==(js.length:Int))=false:=by simp;omega
  refine Dp func235 λC hP hN=>?_;exact Gy
def zP:oG:=((((0,0),(0,0),(0,0)),((0,0),(0,0),(0,0)),((0,0),(0,0),(0,0))),((0,0),(0,0),(0,0)))
def IL(L:List oG)(j:J)(v:Iv):oG:=if j.parent=-1 then mv j v else oH ((L[j.parent.toNat]?).getD zP) (mv j v)
def jO(js:List J)(bx:List Iv):Nat->List oG
 |0=>[]
 |i+1=>match js[i]?,bx[i]? with
  |some j,some v=>jO js bx i++[IL (jO js bx i) j v]
  |_,_=>jO js bx i
def gO(js:List J)(bx:List Iv):List oG:=jO js bx js.length
theorem kf{js:List J}{bx:List Iv}(c:bx.length=js.length):∀i,i<=js.length->(jO js bx i).length=i
 |0,_=>rfl
 |i+1,h=>by
  have b:i<js.length:=by omega
  have a:i<bx.length:=by omega
  have ih:=kf c i (by omega);simp only[jO,an b,an a,Zq,ih,Z6]
theorem vE{js:List J}{bx:List Iv}(c:bx.length=js.length){k:Nat}:∀i,k<=i->i<=js.length->∀q,q<k->(jO js bx i)[q]?=(jO js bx k)[q]?
 |0,h1,d,q,hq=>by omega
 |i+1,h1,d,q,hq=>by
  by_cases e:k=i+1
  .subst e;rfl
  .have b:i<js.length:=by omega
   have a:i<bx.length:=by omega
   rw[<-vE c i (by omega) (by omega) q hq];simp only[jO,an b,an a];rw[Y8 (by rw[kf c i (by omega)];omega)]
theorem FG(c:bx.length=js.length){j:J}{v:Iv}(d:js[i]?=some j)(o:bx[i]?=some v)(g:Ck i j):(gO js bx)[i]?=some (if j.parent=-1 then mv j v else oH (((gO js bx)[j.parent.toNat]?).getD zP) (mv j v)):=by
 have l:=(th.1 d).1;obtain⟨_,m,n⟩:=g;have e:(gO js bx)[i]?=(jO js bx (i+1))[i]?:=vE c js.length (k:=i+1) (by omega) (Zf _) _ (by omega);rw[e];have a:=kf c i (by omega);simp only[jO,d,o];rw[Zc (by omega),a,yAR];show some (IL (jO js bx i) j v)=_;unfold IL;by_cases b:j.parent=-1
 .rw[Zd b,Zd b]
 .rw[Y6 b,Y6 b]
  have f:(gO js bx)[j.parent.toNat]?=(jO js bx i)[j.parent.toNat]?:=vE c js.length (k:=i) (by omega) (Zf _) _ (by omega);rw[f]
theorem OH:bA zP=.val (.agg #[.int .i64 0,.int .i64 0,.int .i64 0,.int .i64 0,.int .i64 0,.int .i64 0,.int .i64 0,.int .i64 0,.int .i64 0,.int .i64 0,.int .i64 0,.int .i64 0,.int .i64 0,.int .i64 0,.int .i64 0,.int .i64 0,.int .i64 0,.int .i64 0,.int .i64 0,.int .i64 0,.int .i64 0,.int .i64 0,.int .i64 0,.int .i64 0]):=rfl
theorem OI:bi ba=.val (.agg #[.int .i64 0,.int .i64 0,.int .i64 0,.int .i64 0,.int .i64 0,.int .i64 0]):=rfl
theorem qh{R:List PV}{k:Nat}{x:PV}(h:R[k]?=some x):∀a,R[k]'a=x:=λa=>by
 have:=an a;rw[h]at this;injection this with this;exact this.symm
set_option maxRecDepth 4000 in
theorem VJ(js:List J)(ms:List Ms)(bx:List Iv)(hj:sx js)(hl:js.length<=10)(hb:bx.length=js.length):aF 236 (eK js ms) (iv bx) (.sl ((gO js bx).map bA)):=by
 have U:(gO js bx).length=js.length:=kf hb _ (Zf _);have Y:=λi j v(h1:js[i]?=some j)(T:bx[i]?=some v)=>FG hb h1 T (hj i j h1);generalize gO js bx=l at *;generalize E:l.map bA=z at *
 have b4:z.length=js.length:=by rw[<-E];simpa using U
 have G:∀k p,l[k]?=some p->z[k]?=some (bA p):=λk p h=>by rw[<-E,Y7,h];rfl
 refine Dp func236 λC hP hN=>?_;refine GT (gA (show(192:Int)*(js.length:Int)<=281474976710656 by omega) (show(js.length:Int)<=9223372036854775807 by omega)) ?_;refine WP.loopN [7] js.length (λi st=>∃R:List PV,st.t 1=.pv (iv bx)/\st.t 5=.arr 11 js.length/\st.t 13=.pv (.sl (js.map aO))/\st.t 14=.pv (Z js.length)/\st.t 15=.pv (Z i)/\st.h 7=none/\st.h 11=some (.row 277 24 R 0)/\R.length=js.length/\(∀k,i<=k->k<js.length->R[k]?=some (bA zP))/\∀k,k<i->R[k]?=z[k]?) ?_ ?_
 .refine⟨List.replicate js.length (bA zP),?_⟩
  rw[OH];simp
  try (intro k Q;first|exact Q|simp[Zz,Q])
 rintro i st hi ⟨R,g1,g5,A,B,D,K,g,c,H,V⟩;by_cases d:i<js.length
 .have hw:=ab d (by omega)
  generalize s:js[i]=j at *
  have S:js[i]?=some j:=by rw[an d,s]
  have f:i<bx.length:=by omega
  generalize r:bx[i]=v at *
  have hv:bx[i]?=some v:=by rw[an f,r]
  obtain⟨⟨ah,aj⟩,b5,b7⟩:=hj i j S;have cj:=Vz (a:=v.1) (b:=v.2) j ah aj;have I:=Y i j v S hv;have m:=H i (Zf _) d;have L:=qh m
  have M:i<R.length:=by omega
  generalize hq:mv j (v.1,v.2)=q at *
  have key:∀x,l[i]?=some x->(∀k,i+1<=k->k<js.length->(R.set i (bA x))[k]?=some (bA zP))/\∀k,k<i+1->(R.set i (bA x))[k]?=z[k]?:=by
   intro x b3;refine⟨λk h1 T=>?_,λk h1=>?_⟩
   .rw[Zg,Y6 (by omega)];exact H k (by omega) T
   .rw[Zg]
    by_cases e:i=k
    .subst e;rw[Zd rfl,Zd M,G i x b3]
    .rw[Y6 e];exact V k (by omega)
  have O:(R.set i (bA q))[i]?=some (bA q):=by rw[Zg,Zd rfl,Zd M]
  have a8:=qh O;have bq:∀y,(R.set i (bA q)).set i y=R.set i y:=λy=>List.set_set ..;by_cases u:j.parent=-1
  .rw[Zd u]at I
   obtain⟨k1,k2⟩:=key q I
   have n:(j.parent==-1)=true:=by simp[u]
   have o:(j.parent != -1)=false:=by simp[u]
   refine GT (zAe g1 g5 A B D K g c d f hw S s hv (it r m L n o)) ?_
   all_goals first|exact⟨_,rfl,by simp[c],k1,k2⟩|exact⟨k1,k2⟩|exact⟨by simp[c],k1,k2⟩|exact k2
  .rw[Y6 u]at I
   obtain⟨p,hp⟩:∃p:Nat,j.parent=p:=⟨j.parent.toNat,by omega⟩
   have n:(j.parent==-1)=false:=by simp[u]
   have o:(j.parent != -1)=true:=by simp[u]
   have ak:(0:Int)<=j.parent:=by omega
   have N:j.parent.toNat=p:=by omega
   have ar:p<i:=by omega
   have a7:p<l.length:=by omega
   have F:l[p]?=some l[p]:=an a7;rw[N,F,Zn]at I;have X:=(V p ar).trans (G p _ F);generalize l[p]=pp at *;obtain⟨k1,k2⟩:=key _ I
   have P:(R.set i (bA q))[p]?=some (bA pp):=by rw[Zg,Y6 (by omega)];exact X
   have b2:=qh P
   have a6:p<js.length:=by omega
   have q1:=@xu;refine GT (zAe g1 g5 A B D K g c d f hw S s hv (zAd r m L ak N n o O a8 bq P (gA b2 a6))) ?_
   all_goals first|exact⟨_,rfl,by simp[c],k1,k2⟩|exact⟨k1,k2⟩|exact⟨by simp[c],k1,k2⟩|exact k2
 .have ad:i=js.length:=by omega
  subst ad
  have W:R=z:=by
   apply ZM;intro k;by_cases Q:k<js.length
   .exact V k Q
   .rw[Zh (by omega),Zh (by omega)]
  subst W;exact Gy
def dD(h:Sh)(p:oG):List aq:=h.pts.map λq=>ie p (dq q)
set_option maxRecDepth 4000 in
theorem VK(h:Sh)(p:oG)(hs:fJ h=true):aF 238 (aZ h) (bA p) (aE (dD h p)):=by
 have H:1<=h.pts.length/\h.pts.length<=8:=by
  simp only[fJ,up,Is]at hs;obtain⟨⟨⟨_,J⟩,K⟩,_⟩:=hs;exact⟨J,K⟩
 have L:=VA h (by omega);rw[hs]at L;have D:dD h p=h.pts.map λq=>ie p (dq q):=rfl;rw[D];generalize a:(h.pts.map λq=>ie p (dq q)).map bi=f
 have N:f.length=h.pts.length:=by rw[<-a];simp
 have g:∀k q,h.pts[k]?=some q->f[k]?=some (bi (ie p (dq q))):=λk q d=>by rw[<-a,Y7,Y7,d];rfl
 refine Dp func238 λC hP hN=>?_;refine GT (gA (show(48:Int)*(h.pts.length:Int)<=281474976710656 by omega) (show(h.pts.length:Int)<=9223372036854775807 by omega)) ?_;refine WP.loopN [7] h.pts.length (λi st=>∃R:List PV,st.t 3=.ptr 3 0/\st.h 3=some (.box [.pv (Z p.1.1.1.1),.pv (Z p.1.1.1.2),.pv (Z p.1.1.2.1.1),.pv (Z p.1.1.2.1.2),.pv (Z p.1.1.2.2.1),.pv (Z p.1.1.2.2.2),.pv (Z p.1.2.1.1.1),.pv (Z p.1.2.1.1.2),.pv (Z p.1.2.1.2.1.1),.pv (Z p.1.2.1.2.1.2),.pv (Z p.1.2.1.2.2.1),.pv (Z p.1.2.1.2.2.2),.pv (Z p.1.2.2.1.1),.pv (Z p.1.2.2.1.2),.pv (Z p.1.2.2.2.1.1),.pv (Z p.1.2.2.2.1.2),.pv (Z p.1.2.2.2.2.1),.pv (Z p.1.2.2.2.2.2),.pv (Z p.2.1.1),.pv (Z p.2.1.2),.pv (Z p.2.2.1.1),.pv (Z p.2.2.1.2),.pv (Z p.2.2.2.1),.pv (Z p.2.2.2.2)] true false)/\st.t 5=.arr 14 h.pts.length/\st.t 16=.pv (aw h.pts)/\st.t 17=.pv (Z h.pts.length)/\st.t 18=.pv (Z i)/\st.h 7=none/\st.h 14=some (.row 230 6 R 0)/\R.length=h.pts.length/\(∀k,i<=k->k<h.pts.length->R[k]?=some (bi ba))/\∀k,k<i->R[k]?=f[k]?) ?_ ?_
 .refine⟨List.replicate h.pts.length (bi ba),?_⟩
  rw[OI];simp
  try (intro k d;first|exact d|simp[Zz,d])
 rintro i st hi ⟨R,g3,v,g5,o,r,s,x,m,c,l,G⟩;by_cases b:i<h.pts.length
 .have O:=ab b (by omega)
  generalize n:h.pts[i]=q at *
  have I:h.pts[i]?=some q:=by rw[an b,n]
  have j:=l i (Zf _) b;have z:=qh j
  have A:i<R.length:=by omega
  have F:=LW q.1 q.2.1 q.2.2;have E:dq (q.1,q.2.1,q.2.2)=dq q:=rfl;rw[E]at F
  have k1:∀y k,i+1<=k->k<h.pts.length->(R.set i y)[k]?=some (bi ba):=λy k h1 M=>by
   rw[Zg,Y6 (by omega)];exact l k (by omega) M
  have k2:∀k,k<i+1->(R.set i (bi (ie p (dq q))))[k]?=f[k]?:=λk h1=>by
   rw[Zg];by_cases e:i=k
   .subst e;rw[Zd rfl,Zd A,g i q I]
   .rw[Y6 e];exact G k (by omega)
  clear g a;generalize dq q=P at *
  with_reducible repeat' (first|refine Sp.h ?_|((first|refine Wd ?_|refine Ss.h ?_|refine Sc.h (F) ?_|refine Sc.h (Vm) ?_|(refine Sb.h ?_ ?_ ?_<;>(try intro hgd)<;>try exact Xy))<;>simp -implicitDefEqProofs (maxSteps:=2000000) [hP,hN,g3,v,g5,o,r,s,x,m,c,b,O,I,n,j,z]<;>try refine Ya ?_)|refine X2 ?_ ?_|(refine Xd ?_ ?_<;>intro hcd<;>try exact Xx))
  all_goals first|exact⟨_,rfl,by simp[c],k1 _,k2⟩|exact⟨k1 _,k2⟩|exact⟨by simp[c],k1 _,k2⟩|exact k2
 .have B:i=h.pts.length:=by omega
  subst B
  have u:R=f:=by
   apply ZM;intro k;by_cases d:k<h.pts.length
   .exact G k d
   .rw[Zh (by omega),Zh (by omega)]
  subst u;exact Gy
  all_goals (rw[<-a];simp)
def gP(a:List oG)(h:Sh):oG:=if h.link=-1 then gh else(a[h.link.toNat]?).getD zP
def eP(s:Sce)(bx:List Iv):List (List aq):=s.shs.map λh=>dD h (gP (gO s.js bx) h)
theorem vF:jN js bx=true↔bx.length=js.length/\bF vI bx=true:=by simp[jN]
set_option maxRecDepth 4000 in
theorem VL(s:Sce)(bx:List Iv)(hs:ScL s)(X:ao s=0)(H:jN s.js bx=true):aF 207 (aN s) (iv bx) (.sl ((eP s bx).map aE)):=by
 have cc:=Ht s hs;rw[X]at cc;obtain⟨v1,v2,v3,v4,v5,v6,v7⟩:=nq X;have G:=(vF.1 H).1;have cb:=VI s.js s.ms bx hs.js (by omega);rw[H]at cb;have cl:=VJ s.js s.ms bx v1 v2 G;have ad:(gO s.js bx).length=s.js.length:=kf G _ (Zf _);have J:eP s bx=s.shs.map λh=>dD h (gP (gO s.js bx) h):=rfl;rw[J];generalize gO s.js bx=a at *;generalize d:(s.shs.map λh=>dD h (gP a h)).map aE=u
 have ah:u.length=s.shs.length:=by rw[<-d];simp
 have B:∀k h,s.shs[k]?=some h->u[k]?=some (aE (dD h (gP a h))):=λk q r=>by rw[<-d,Y7,Y7,r];rfl
 refine Dp func207 λC hP hN=>?_;refine GT (gA (show(24:Int)*(s.shs.length:Int)<=281474976710656 by omega) (show(s.shs.length:Int)<=9223372036854775807 by omega)) ?_;refine WP.loopN [8,9] s.shs.length (λi st=>∃R:List PV,st.t 5=.pv (.sl (a.map bA))/\st.t 6=.arr 27 s.shs.length/\st.t 29=.pv (.sl (s.shs.map aZ))/\st.t 30=.pv (Z s.shs.length)/\st.t 31=.pv (Z i)/\st.h 8=none/\st.h 9=none/\st.h 27=some (.row 176 1 R 0)/\R.length=s.shs.length/\(∀k,i<=k->k<s.shs.length->R[k]?=some (.val (.slice none 0 0)))/\∀k,k<i->R[k]?=u[k]?) ?_ ?_
 .refine⟨List.replicate s.shs.length (.val (.slice none 0 0)),?_⟩
  simp
  try (intro k r;first|exact r|simp[Zz,r])
 rintro i st hi ⟨R,g5,W,v,x,z,E,F,f,b,D,Y⟩;by_cases c:i<s.shs.length
 .have hw:=ab c (by omega)
  generalize n:s.shs[i]=h at *
  have L:s.shs[i]?=some h:=by rw[an c,n]
  have hm:=An L;obtain⟨Q,U⟩:=v6 h hm;simp only[bK,up,Is]at Q;have g:=D i (Zf _) c;have I:=qh g
  have O:i<R.length:=by omega
  have V:=λp=>VK h p U
  have k1:∀y k,i+1<=k->k<s.shs.length->(R.set i y)[k]?=some (.val (.slice none 0 0)):=λy k h1 h2=>by
   rw[Zg,Y6 (by omega)];exact D k (by omega) h2
  have k2:∀k,k<i+1->(R.set i (aE (dD h (gP a h))))[k]?=u[k]?:=λk h1=>by
   rw[Zg];by_cases e:i=k
   .subst e;rw[Zd rfl,Zd O,B i h L]
   .rw[Y6 e];exact Y k (by omega)
  clear B d J;by_cases o:h.link=-1
  .have j:(h.link==-1)=true:=by simp[o]
   have l:(h.link != -1)=false:=by simp[o]
   have m:gP a h=gh:=by simp[gP,o]
   rw[m]at k2;have M:=V gh;generalize dD h gh=pl at *;have q1:=@LX;refine GT (zAe g5 W v x z E F f b c hw L n g (be I j l)) ?_
   all_goals first|exact⟨_,rfl,by simp[b],k1 _,k2⟩|exact⟨k1 _,k2⟩|exact⟨by simp[b],k1 _,k2⟩|exact k2
  .have j:(h.link==-1)=false:=by simp[o]
   have l:(h.link != -1)=true:=by simp[o]
   have S:(0:Int)<=h.link:=by omega
   obtain⟨p,hp⟩:∃p:Nat,h.link.toNat=p:=⟨_,rfl⟩
   have K:p<a.length:=by omega
   have A:a[p]?=some a[p]:=an K
   have m:gP a h=a[p]:=by simp only[gP,Y6 o,hp,A,Zn]
   have aj:∀hh,a[p]'hh=a[p]:=λ_=>rfl;rw[m]at k2;generalize T:a[p]=pp at *;have M:=V pp;generalize dD h pp=pl at *;have q1:=@LX;refine GT (zAe g5 W v x z E F f b c hw L n g (zAb I j l S hp K A T)) ?_
   all_goals first|exact⟨_,rfl,by simp[b],k1 _,k2⟩|exact⟨k1 _,k2⟩|exact⟨by simp[b],k1 _,k2⟩|exact k2
 .have P:i=s.shs.length:=by omega
  subst P
  have N:R=u:=by
   apply ZM;intro k;by_cases r:k<s.shs.length
   .exact Y k r
   .rw[Zh (by omega),Zh (by omega)]
  subst N;exact Gy
  all_goals (rw[<-d];simp)
def tr(v:aq)(k:Nat):Vc:=(if 0<k then lZ v.1 else 0,if 1<k then lZ v.2.1 else 0,if 2<k then lZ v.2.2 else 0)
theorem Cn(l:List aq)(T:l.length<=9223372036854775807):aR 170 (aE l) (aw (ax l)):=by
 have O:=vD l T
 cases hp:au l with
 |false=>
  have L:ax l=[]:=by simp[ax,hp]
  rw[L];rw[hp]at O;refine Dp func170 λC hP hN=>?_;exact Gy
 |true=>
 have L:ax l=l.map i4:=by simp[ax,hp]
 rw[L];rw[hp]at O;simp only[au,up,Is]at hp;obtain⟨⟨U,V⟩,W⟩:=hp;generalize z:(l.map i4).map al=B
 have S:B.length=l.length:=by rw[<-z];simp
 have D:∀k h,l[k]?=some h->B[k]?=some (al (i4 h)):=λk q u=>by rw[<-z,Y7,Y7,u];rfl
 refine Dp func170 λC hP hN=>?_;refine GT (gA (show(24:Int)*(l.length:Int)<=281474976710656 by omega) (show(l.length:Int)<=9223372036854775807 by omega)) ?_;refine WP.loopN [5,7] l.length (λi st=>∃R:List PV,st.t 3=.arr 13 l.length/\st.t 14=.pv (aE l)/\st.t 15=.pv (Z l.length)/\st.t 16=.pv (Z i)/\st.h 5=none/\st.h 7=none/\st.h 13=some (.row 60 3 R 0)/\R.length=l.length/\(∀k,i<=k->k<l.length->R[k]?=some (oa 0 0 0))/\∀k,k<i->R[k]?=B[k]?) ?_ ?_
 .refine⟨List.replicate l.length (oa 0 0 0),?_⟩
  simp
  try (intro k u;first|exact u|simp[Zz,u])
 rintro i st hi ⟨R,g3,g,j,m,F,n,f,K,E,P⟩;by_cases o:i<l.length
 .have Y:=ab o (by omega)
  generalize N:l[i]=v at *
  have X:l[i]?=some v:=by rw[an o,N]
  have J:=E i (Zf _) o;have H:=D i v X;clear D;refine Gz ?_;refine WP.loopN [7] 3 (λk st=>∃p:List PV,st.t 3=.arr 13 l.length/\st.t 4=.pv (Z i)/\st.t 14=.pv (aE l)/\st.t 15=.pv (Z l.length)/\st.t 16=.pv (Z i)/\st.t 21=.pv (bi v)/\st.t 22=.pv (Z k)/\st.h 7=none/\st.h 13=some (.row 60 3 p 0)/\p.length=l.length/\p[i]?=some (oa (tr v k).1 (tr v k).2.1 (tr v k).2.2)/\∀q,q≠i->p[q]?=R[q]?) ?_ ?_
  .refine⟨R,?_⟩
   simp[g3,g,j,m,F,n,f,K,J,tr]
  clear g3 g j m F n f;rintro k st u ⟨p,g3,g4,g,j,m,x,r,n,f,c,d,A⟩;have s:=qh d
  have G:i<p.length:=by omega
  have b:∀y,(p.set i y)[i]?=some y:=λy=>by rw[Zg,Zd rfl,Zd G]
  have a:∀y q,q≠i->(p.set i y)[q]?=R[q]?:=λy q hq=>by rw[Zg,Y6 (λe=>hq e.symm)];exact A q hq
  rcases dA u with rfl|rfl|rfl|rfl
  all_goals (simp[tr]at d s r)
  .skip
   with_reducible repeat' (first|refine Sp.h ?_|((first|refine Wd ?_|refine Ss.h ?_|refine Sc.h (LZ) ?_|(refine Sb.h ?_ ?_ ?_<;>(try intro hgd)<;>try exact Xy))<;>simp -implicitDefEqProofs (maxSteps:=2000000) [hP,hN,g3,g4,g,j,m,x,r,n,f,c,d,s,o,tr,b]<;>try refine Ya ?_)|refine X2 ?_ ?_|(refine Xd ?_ ?_<;>intro hcd<;>try exact Xx))
   all_goals first|exact⟨_,rfl,by simp[c],b _,a _⟩|exact⟨by simp[c],b _,a _⟩|exact⟨b _,a _⟩|exact λq hq=>a _ q hq
  .skip
   with_reducible repeat' (first|refine Sp.h ?_|((first|refine Wd ?_|refine Ss.h ?_|refine Sc.h (LZ) ?_|(refine Sb.h ?_ ?_ ?_<;>(try intro hgd)<;>try exact Xy))<;>simp -implicitDefEqProofs (maxSteps:=2000000) [hP,hN,g3,g4,g,j,m,x,r,n,f,c,d,s,o,tr,b]<;>try refine Ya ?_)|refine X2 ?_ ?_|(refine Xd ?_ ?_<;>intro hcd<;>try exact Xx))
   all_goals first|exact⟨_,rfl,by simp[c],b _,a _⟩|exact⟨by simp[c],b _,a _⟩|exact⟨b _,a _⟩|exact λq hq=>a _ q hq
  .skip
   with_reducible repeat' (first|refine Sp.h ?_|((first|refine Wd ?_|refine Ss.h ?_|refine Sc.h (LZ) ?_|(refine Sb.h ?_ ?_ ?_<;>(try intro hgd)<;>try exact Xy))<;>simp -implicitDefEqProofs (maxSteps:=2000000) [hP,hN,g3,g4,g,j,m,x,r,n,f,c,d,s,o,tr,b]<;>try refine Ya ?_)|refine X2 ?_ ?_|(refine Xd ?_ ?_<;>intro hcd<;>try exact Xx))
   all_goals first|exact⟨_,rfl,by simp[c],b _,a _⟩|exact⟨by simp[c],b _,a _⟩|exact⟨b _,a _⟩|exact λq hq=>a _ q hq
  .have k1:∀k,i+1<=k->k<l.length->p[k]?=some (oa 0 0 0):=λk h1 Q=>by rw[A k (by omega)];exact E k (by omega) Q
   have k2:∀k,k<i+1->p[k]?=B[k]?:=λk h1=>by
    by_cases e:k=i
    .subst e;rw[H,d];rfl
    .rw[A k e];exact P k (by omega)
   refine Gz ?_
   all_goals first|exact⟨_,rfl,c,k1,k2⟩|exact⟨c,k1,k2⟩|exact⟨k1,k2⟩|exact k2
 .have M:i=l.length:=by omega
  subst M
  have I:R=B:=by
   apply ZM;intro k;by_cases u:k<l.length
   .exact P k u
   .rw[Zh (by omega),Zh (by omega)]
  subst I;exact Gy
  all_goals (rw[<-z];simp)
set_option maxRecDepth 100000 in
@[simp] theorem UR:gR prog 281:=by
 have hf:=func281;have nt:=ntmps281;have rs:=results281;exact PX
def az(l:List Vc):Nat->Vc
 |0=>(0,0,0)
 |i+1=>match l[i]? with
  |some p=>((az l i).1+p.1,(az l i).2.1+p.2.1,(az l i).2.2+p.2.2)
  |none=>az l i
theorem je{l:List Vc}(d:l.all (ay 268435456)=true):∀i:Nat,em ((i:Int)*268435456) (az l i)
 |0=>by simp[az,em]
 |i+1=>by
  obtain⟨e,f,g⟩:=je d i;simp only[az];split
  .rename_i p hp
   obtain⟨a,b,c⟩:=dC (L4.1 d p (An hp));exact⟨⟨by simp only;omega,by simp only;omega⟩,⟨by simp only;omega,by simp only;omega⟩,⟨by simp only;omega,by simp only;omega⟩⟩
  .exact⟨⟨by omega,by omega⟩,⟨by omega,by omega⟩,⟨by omega,by omega⟩⟩
def vq(s p:Vc)(j:Nat):List AV:=[.pv (Z (if 0<j then s.1+p.1 else s.1)),.pv (Z (if 1<j then s.2.1+p.2.1 else s.2.1)),.pv (Z (if 2<j then s.2.2+p.2.2 else s.2.2))]
theorem QG(l:List Vc)(h8:l.length<=8)(q:l.all (ay 268435456)=true):aR 282 (aw l) (al (az l l.length)):=by
 refine Dp func282 λC hP hN=>?_;refine Gz ?_;refine WP.loopN [5] l.length (λi st=>st.t 2=.ptr 2 0/\st.h 2=some (.box [.pv (Z 0),.pv (Z 0),.pv (Z 0)] true false)/\st.t 3=.ptr 3 0/\st.h 3=some (.box [.pv (Z (az l i).1),.pv (Z (az l i).2.1),.pv (Z (az l i).2.2)] true false)/\st.t 7=.pv (aw l)/\st.t 8=.pv (Z l.length)/\st.t 9=.pv (Z i)/\st.h 5=none) (by simp[az]) ?_;rintro i st hi ⟨g2,b,g3,a,e,f,g,c⟩;by_cases m:i<l.length
 .have y:=ab m (by omega)
  generalize o:l[i]=p at *
  have r:l[i]?=some p:=by rw[an m,o]
  have z:=je q (i+1);have hp:=dC (L4.1 q p (An r))
  have hS:az l (i+1)=((az l i).1+p.1,(az l i).2.1+p.2.1,(az l i).2.2+p.2.2):=by simp only[az,r]
  generalize az l i=S at *;generalize az l (i+1)=E at *;subst hS;obtain⟨s,u,v⟩:=z;simp only at s u v;have A:i64.wrap (S.1+p.1)=S.1+p.1:=aa;have B:i64.wrap (S.2.1+p.2.1)=S.2.1+p.2.1:=aa;have D:i64.wrap (S.2.2+p.2.2)=S.2.2+p.2.2:=aa;clear s u v hp;have k:[AV.pv (Z S.1),AV.pv (Z S.2.1),AV.pv (Z S.2.2)]=vq S p 0:=rfl;rw[k]at a;refine Gz ?_;refine WP.loopN [] 3 (λj st=>st.t 2=.ptr 2 0/\st.h 2=some (.box [.pv (Z 0),.pv (Z 0),.pv (Z 0)] true false)/\st.t 3=.ptr 3 0/\st.h 3=some (.box (vq S p j) true false)/\st.t 5=.ptr 5 0/\st.h 5=some (.box [.pv (Z p.1),.pv (Z p.2.1),.pv (Z p.2.2)] true false)/\st.t 7=.pv (aw l)/\st.t 8=.pv (Z l.length)/\st.t 9=.pv (Z i)/\st.t 13=.pv (Z j)) (by simp[g2,b,g3,e,f,g,a,vq]) ?_;clear g2 b g3 e f g a c;rintro j st x ⟨g2,b,g3,a,g5,c,e,f,g,d⟩;rcases dA x with rfl|rfl|rfl|rfl
  all_goals (simp[vq]at a d)
  .skip
   with_reducible repeat' (first|refine Sp.h ?_|((first|refine Wd ?_|refine Ss.h ?_|(refine Sb.h ?_ ?_ ?_<;>(try intro hgd)<;>try exact Xy))<;>simp -implicitDefEqProofs (maxSteps:=2000000) [hP,hN,g2,b,g3,a,g5,c,e,f,g,d,A,vq]<;>try refine Ya ?_)|refine X2 ?_ ?_|(refine Xd ?_ ?_<;>intro hcd<;>try exact Xx))
  .skip
   with_reducible repeat' (first|refine Sp.h ?_|((first|refine Wd ?_|refine Ss.h ?_|(refine Sb.h ?_ ?_ ?_<;>(try intro hgd)<;>try exact Xy))<;>simp -implicitDefEqProofs (maxSteps:=2000000) [hP,hN,g2,b,g3,a,g5,c,e,f,g,d,B,vq]<;>try refine Ya ?_)|refine X2 ?_ ?_|(refine Xd ?_ ?_<;>intro hcd<;>try exact Xx))
  .skip
   with_reducible repeat' (first|refine Sp.h ?_|((first|refine Wd ?_|refine Ss.h ?_|(refine Sb.h ?_ ?_ ?_<;>(try intro hgd)<;>try exact Xy))<;>simp -implicitDefEqProofs (maxSteps:=2000000) [hP,hN,g2,b,g3,a,g5,c,e,f,g,d,D,vq]<;>try refine Ya ?_)|refine X2 ?_ ?_|(refine Xd ?_ ?_<;>intro hcd<;>try exact Xx))
  .skip
   exact Gy
 .have n:i=l.length:=by omega
  subst n;exact Gy
abbrev j7:List Vc:=[(1,0,0),(-1,0,0),(0,1,0),(0,-1,0),(0,0,1),(0,0,-1)]
theorem US:BC 243 (aw j7):=by
 refine Dp func243 λC hP hN=>?_;exact Gy
theorem kZ{l:List aq}:(ax l).all (ay 268435456)=true:=by
 unfold ax;split
 .rename_i h
  have hp:=(bo h).1;rw[L4]at hp|-;intro x e;obtain⟨v,f,rfl⟩:=Zv.1 e;have h1:=hp v f;rw[fC]at h1;obtain⟨a,b,c⟩:=h1
  have d:∀x:Iv,db x=true->fA (lZ x) 268435456=true:=λx e=>by
   rw[fg]at e;rw[aV];unfold lZ;split<;>omega
  rw[bu];exact⟨d _ a,d _ b,d _ c⟩
 .rfl
theorem fB{l:List aq}(h:au l=true):(ax l).length=l.length:=by simp[ax,h]
def kx(a b:List aq):Vc:=((az (ax a) a.length).1*b.length-(az (ax b) b.length).1*a.length,(az (ax a) a.length).2.1*b.length-(az (ax b) b.length).2.1*a.length,(az (ax a) a.length).2.2*b.length-(az (ax b) b.length).2.2*a.length)
def j8(a b:List aq):Vc:=if au a&&au b then bb (kx a b)else(0,0,0)
def lG(a b:List aq):Bool:=au a&&au b&&nz (bb (kx a b))
theorem Iw{l:List aq}(h:au l=true):em 2147483648 (az (ax l) l.length):=by
 have h1:=je (kZ (l:=l)) l.length;have a:=(bo h).2.1;exact jc h1 (by omega)
theorem Hl(f:au a=true)(g:au b=true):em 1099511627776 (kx a b):=by
 obtain⟨s1,s2,i⟩:=Iw f;obtain⟨t1,t2,t3⟩:=Iw g;have c:=(bo f).2.1;have d:=(bo g).2.1
 have e:∀x:Int,-2147483648<=x/\x<=2147483648->∀n:Nat,n<=8->-17179869184<=x*n/\x*n<=17179869184:=λx o n hn=>by
  have:=bj (a:=x) (b:=(n:Int)) 2147483648 8 (by omega) (by omega) (by omega) (by omega);omega
 have a1:=e _ s1 _ d;have j:=e _ s2 _ d;have k:=e _ i _ d;have b1:=e _ t1 _ c;have l:=e _ t2 _ c;have m:=e _ t3 _ c;unfold kx;exact⟨by simp only;omega,by simp only;omega,by simp only;omega⟩
def Hm(v:Vc)(j:Nat):List AV:=[.pv (Z (if 0<j then v.1 else 0)),.pv (Z (if 1<j then v.2.1 else 0)),.pv (Z (if 2<j then v.2.2 else 0))]
theorem UT(a b:List aq)(K:a.length<=9223372036854775807)(L:b.length<=9223372036854775807):aF 242 (aE a) (aE b) (.tup [al (j8 a b),B (lG a b)]):=by
 have I:=vD a K;have J:=vD b L
 have hN:j8 a b=if au a&&au b then bb (kx a b)else(0,0,0):=rfl
 have R:lG a b=(au a&&au b&&nz (bb (kx a b))):=rfl;rw[hN,R]
 cases c:au a with
 |false=>
  rw[c]at I;refine Dp func242 λC hP hN=>?_;exact Gy
 |true=>
 rw[c]at I
 cases d:au b with
 |false=>
  rw[d]at J;refine Dp func242 λC hP hN=>?_;exact Gy
 |true=>
 rw[d]at J;have c1:=Cn a K;have X:=Cn b L;have P:=QG (ax a) (by rw[fB c];exact(bo c).2.1) kZ;have Q:=QG (ax b) (by rw[fB d];exact(bo d).2.1) kZ;rw[fB c]at P;rw[fB d]at Q;have v:=Hl c d;have Y:=QX (kx a b) v;obtain⟨s1,s2,W⟩:=Iw c;obtain⟨t1,t2,t3⟩:=Iw d;have s:=(bo c).2.1;have u:=(bo d).2.1;have i:kx a b=((az (ax a) a.length).1*b.length-(az (ax b) b.length).1*a.length,(az (ax a) a.length).2.1*b.length-(az (ax b) b.length).2.1*a.length,(az (ax a) a.length).2.2*b.length-(az (ax b) b.length).2.2*a.length):=rfl;simp only[yAo,Zp,Zu]
 have e:∀x:Int,-2147483648<=x/\x<=2147483648->∀n:Nat,n<=8->-17179869184<=x*n/\x*n<=17179869184:=λx hx n hn=>by
  have:=bj (a:=x) (b:=(n:Int)) 2147483648 8 (by omega) (by omega) (by omega) (by omega);omega
 generalize az (ax a) a.length=S at *;generalize az (ax b) b.length=T at *;generalize kx a b=V at *;have f1:=e _ s1 _ u;have f2:=e _ s2 _ u;have f3:=e _ W _ u;have k1:=e _ t1 _ s;have k2:=e _ t2 _ s;have k3:=e _ t3 _ s;clear e
 have M:S.1*b.length-T.1*a.length=V.1:=by rw[i]
 have N:S.2.1*b.length-T.2.1*a.length=V.2.1:=by rw[i]
 have O:S.2.2*b.length-T.2.2*a.length=V.2.2:=by rw[i]
 clear i;have y:i64.wrap (S.1*b.length)=S.1*b.length:=aa;have z:i64.wrap (T.1*a.length)=T.1*a.length:=aa;have w0:i64.wrap (S.1*b.length-T.1*a.length)=V.1:=(aa (by omega) (by omega)).trans M;have A:i64.wrap (S.2.1*b.length)=S.2.1*b.length:=aa;have D:i64.wrap (T.2.1*a.length)=T.2.1*a.length:=aa;have w1:i64.wrap (S.2.1*b.length-T.2.1*a.length)=V.2.1:=(aa (by omega) (by omega)).trans N;have E:i64.wrap (S.2.2*b.length)=S.2.2*b.length:=aa;have F:i64.wrap (T.2.2*a.length)=T.2.2*a.length:=aa;have w2:i64.wrap (S.2.2*b.length-T.2.2*a.length)=V.2.2:=(aa (by omega) (by omega)).trans O;generalize bb V=n at *;have G:i64.wrap (a.length:Int)=(a.length:Int):=aa;have H:i64.wrap (b.length:Int)=(b.length:Int):=aa;refine Dp func242 λC hP hN=>?_;refine Gz ?_;refine WP.loopN [] 3 (λk st=>st.t 0=.pv (aE a)/\st.t 1=.pv (aE b)/\st.t 4=.ptr 4 0/\st.h 4=some (.box [.pv (Z 0),.pv (Z 0),.pv (Z 0)] true false)/\st.t 5=.ptr 5 0/\st.h 5=some (.box [.pv (B false)] true false)/\st.t 6=.ptr 6 0/\st.h 6=some (.box [.pv (Z S.1),.pv (Z S.2.1),.pv (Z S.2.2)] true false)/\st.t 7=.ptr 7 0/\st.h 7=some (.box [.pv (Z T.1),.pv (Z T.2.1),.pv (Z T.2.2)] true false)/\st.t 8=.ptr 8 0/\st.h 8=some (.box (Hm V k) true false)/\st.t 26=.pv (Z k)) (by simp[Hm]) ?_;rintro k st U ⟨g0,g1,g4,j,g5,l,p,m,q,o,r,g,f⟩;rcases dA U with rfl|rfl|rfl|rfl
 all_goals (simp[Hm]at g f)
 .skip
  exact GS (zAe p m q o r g g0 g1 g4 g5 j l f y (it z w0 G H @Hm.eq_1))
 .skip
  exact GS (zAe p m q o r g g0 g1 g4 g5 j l f A (it D w1 G H @Hm.eq_1))
 .skip
  exact GS (zAe p m q o r g g0 g1 g4 g5 j l f E (it F w2 G H @Hm.eq_1))
 .skip
  exact Gy
structure YEnv(P:Program) where
 N:Nat
 l:Nat
 xs:List PV
 J:Bool->Nat->(Nat->Nat->Prop)->World->Prop
 bd:∀s i M W,J s i M W->∀b o,M b o->b<W.heap.size
 gr:∀s i M W W',J s i M W->Ext (λ_=>False) W W'->J s i M W'
 yl:∀m i x M W v1,xs[i]?=some x->J false i M W->Rep W M x v1->YieldAt Fence.wide m P l #[v1] W λe W'=>∃(b:Bool)(M':Nat->Nat->Prop),e=.returned (.bool b)/\J (!b) (if b=true then i+1 else i) M' W'/\Pres W M W' M'
abbrev QY:=Exit->(Nat->AV)->Nat->Bool->Prop
def M5(E:YEnv P)(Q:QY):Exit->Act->World->Prop:=λe b f=>∃t' c d a,E.J d c a f/\jm E.N a t' b f/\b.defers=[]/\Q e t' c d
def bk(E:YEnv P)(c:Code)(Q:QY)(t:Nat->AV)(i:Nat)(s:Bool):Prop:=
 ∀n a w M,E.J s i M w->jm E.N M t a w->a.defers=[]->c.wpIn Fence.wide n P (M5 E Q) a w
section
variable {P:Program} {E:YEnv P} {Q:QY} {t:Nat->AV} {i:Nat} {s:Bool}
theorem bk.walk(h:∀C:Cx,C.P=P->C.N=E.N->bh Fence.wide C c (λe b=>Q e (cy b.t) i s) ⟨t,λ_=>none⟩):bk E c Q t i s:=by
 intro n a w M g j hd;refine wpIn_mono (j.step (E.bd _ _ _ _ g) h) ?_;rintro e l m ⟨b,hq,d,k,f⟩;exact⟨_,i,s,M,E.gr _ _ _ _ _ g k,d,by rw[f];exact hd,hq⟩
theorem bk.mono{Q':QY}(h:bk E c Q t i s)(hq:∀e t i s,Q e t i s->Q' e t i s):bk E c Q' t i s:=
 λn a w M k j hd=>wpIn_mono (h n a w M k j hd) λ_ _ _ ⟨t',l,m,b,h1,d,f,g⟩=>⟨t',l,m,b,h1,d,f,hq _ _ _ _ g⟩
theorem bk.sub{t':Nat->AV}(h:bk E c Q t' i s)(e:∀m,t' m=.undef\/t' m=t m):bk E c Q t i s:=
 λn a w M d b hd=>h n a w M d (b.sub e) hd
def M6{P:Program}(E:YEnv P)(y:Code)(Q:QY):QY
 |.normal,t,i,s=>bk E y Q t i s
 |e,t,i,s=>Q e t i s
theorem bk.seq{x:Code}(h:bk E x (M6 E y Q) t i s):bk E (.seq x y) Q t i s:=by
 intro n a w M k j hd;refine wpIn_seq (wpIn_mono (h n a w M k j hd) ?_);rintro e g o ⟨t',l,m,b,h1,c,d,f⟩
 cases e with
 |normal=>exact f n g o b h1 c d
 |_=>exact⟨t',l,m,b,h1,c,d,f⟩
theorem bk.skip(h:Q .normal t i s):bk E .skip Q t i s:=λ_ _ _ M b a hd=>wpIn_skip ⟨t,i,s,M,b,a,hd,h⟩
theorem bk.ret(h:Q .ret t i s):bk E .ret Q t i s:=λ_ _ _ M b a hd=>wpIn_ret ⟨t,i,s,M,b,a,hd,h⟩
theorem bk.exit(h:Q (.exit id) t i s):bk E (.exit id) Q t i s:=λ_ _ _ M b a hd=>wpIn_exit ⟨t,i,s,M,b,a,hd,h⟩
theorem bk.cond{x:Code}{b:Bool}(g:t m=.pv (.val (.bool b)))(k:b=true->bk E x Q t i s)(hf:b=false->bk E y Q t i s):bk E (.cond (.tmp m) x y) Q t i s:=by
 intro n a w M f c hd
 have d:a.eval (.tmp m)=.bool b:=by
  rcases c.2 m with e|⟨p,e,j⟩
  .grind
  .rw[g]at e;injection e with e;subst e;exact aK j
 exact wpIn_cond_split d (λe=>k e n a w M f c hd) (λe=>hf e n a w M f c hd)
def Al(id:Nat)(Q:QY):QY
 |.exit j,t,i,s=>if j=id then Q .normal t i s else Q (.exit j) t i s
 |e,t,i,s=>Q e t i s
theorem bk.block(h:bk E c (Al id Q) t i s):bk E (.block id c) Q t i s:=by
 intro n a w M o m hd;refine wpIn_block (wpIn_mono (h n a w M o m hd) ?_);rintro e p q ⟨t',k,l,d,h1,f,g,b⟩
 cases e with
 |exit j=>
  simp only[Al,Exit.inBlock]at b|-;split
  .rename_i e;rw[Zd e]at b;exact⟨t',k,l,d,h1,f,g,b⟩
  .rename_i e;rw[Y6 e]at b;exact⟨t',k,l,d,h1,f,g,b⟩
 |_=>exact⟨t',k,l,d,h1,f,g,b⟩
theorem bk.loopN(K:Nat)(I:Nat->(Nat->AV)->Nat->Bool->Prop)(H:I 0 t i s)
 (round:∀k t i s,k<=K->I k t i s->bk E c (λe t i s=>match e with|.normal=>k<K/\I (k+1) t i s|e=>Q e t i s) t i s):bk E (.loop c) Q t i s:=by
 classical
 intro n a w M F D hd
 let b:Nat->Act->World->Prop:=λk a w=>∃t i s M,I k t i s/\E.J s i M w/\jm E.N M t a w/\a.defers=[]
 have f:∀a w,(∃k,k<=K/\b k a w)->∃k,k<=K/\b k a w/\∀j,j<=K->b j a w->j<=k:=by
  intro a w ⟨O,h1,C⟩
  have:∀d k,K-k<=d->k<=K->b k a w->∃k,k<=K/\b k a w/\∀j,j<=K->b j a w->j<=k:=by
   intro d
   induction d with
   |zero=>intro k hd G m;exact⟨k,G,m,λj P _=>by omega⟩
   |succ d ih=>
    grind
  exact this K O (by omega) h1 C
 refine wpIn_loop (λa w=>∃k,k<=K/\b k a w) (λa w=>K-(if h:∃k,k<=K/\b k a w/\∀j,j<=K->b j a w->j<=k then h.choose else 0)) ⟨0,ZV _,t,i,s,M,H,F,D,hd⟩ ?_;intro a1 w1 o;have u:=f a1 w1 o;have hs:=u.choose_spec;obtain⟨t1,L,s1,B,g1,g2,g3,g4⟩:=hs.2.1;refine wpIn_mono (round _ t1 L s1 hs.1 g1 n a1 w1 B g2 g3 g4) ?_;rintro e r w2 ⟨t2,v,s2,q,x,y,z,A⟩
 cases e with
 |normal=>
  obtain⟨l,m⟩:=A;have g:b (u.choose+1) r w2:=⟨t2,v,s2,q,m,x,y,z⟩;refine⟨⟨_,l,g⟩,?_⟩;have p:=f r w2 ⟨_,l,g⟩;have h1:=p.choose_spec.2.2 _ l g
  grind
 |_=>exact⟨t2,v,s2,q,x,y,z,A⟩
end
theorem y6{n l:Nat}{rest:List Oper}{c:Call}{f x:Operand}{Q:Exit->Act->World->Prop}{a:Act}{w:World}{R:Ending->World->Prop}(r:Region.wanted o (yielded ops a.tmps)=true)(q:o.op=.call c)(j:c.callee=.value f)(b:c.args=#[x])
 (hf:a.eval f=.func (.yield l) #[] #[])(s:YieldAt Fence.wide (n-1) P l #[a.eval x] w R)
 (i:∀e m,R e m->∃v,e=.returned v/\wpListIn Fence.wide n P ops Q rest (a.put o.dst v) m):wpListIn Fence.wide n P ops Q (o::rest) a w:=by
 obtain⟨fn,tmps,assign,body,k,d⟩:=s;unfold wpListIn;rw[Zd r];refine⟨λ_ _=>trivial,?_⟩;show o.uponIn Fence.wide n P a _ Q ((o.semAt none a.eval).run P w);rw[Oper.semAt_none]
 have g:(execOp a.eval o).run P w=.ok (.round l fn tmps assign body) w:=by
  generalize a.eval=ρ at hf k;unfold execOp;rw[q];obtain⟨p,u,at_⟩:=c;simp only at j b;subst j;subst b;simp[resolve,hf,invoke,go_sem,k]
 rw[g];refine⟨λh=>(by cases h),d.mono ?_⟩
 grind
section
variable {P:Program} {E:YEnv P} {Q:QY} {t:Nat->AV} {i:Nat}
theorem bk.yield{d f x:Nat}{c:Call}(s:ops.toList=pre++o::post)(O:rq ops=true)(ho:o.op=.call c)(hc:c.callee=.value (.tmp f))(u:c.args=#[.tmp x])(hd:o.dst=some d)(K:d<E.N)
 (B:bZ P hn E.N ops (λg=>g.t f=.pv (.val (.func (.yield E.l) #[] #[]))/\eC ops (cy g.t) o.guard=some true/\∃q,g.t x=.pv q/\E.xs[i]?=some q/\
   ∀b,bZ P hn E.N ops (λC=>Q .normal (cy C.t) (if b=true then i+1 else i) (!b)) post ⟨av (cy g.t) d (.pv (.val (.bool b))),λ_=>none⟩) pre ⟨t,λ_=>none⟩):bk E (.region id ops false) Q t i false:=by
 intro n a w M W hH L;refine wpIn_region_list ?_;rw[s];refine dE _ ?_;have r:∀y∈pre++o::post,∀c,y.op≠.defer c:=λy j=>nU O (by rw[s];exact j);refine hH.list (E.bd _ _ _ _ W) (λy j=>r y (yAP _ j)) B ?_;rintro g D X ⟨h1,h2,q,h3,h4,h5⟩ k hx v;have z:=E.gr _ _ _ _ _ W hx;have H:=E.bd _ _ _ _ z
 have Y:D.eval (.tmp f)=.func (.yield E.l) #[] #[]:=by
  rcases k.2 f with e|⟨p,e,T⟩
  .grind [cy]
  .simp only[cy,h1]at e;injection e with e;subst e;exact aK T
 have Z:Rep X M q (D.eval (.tmp x)):=by
  rcases k.2 x with e|⟨p,e,T⟩
  .grind [cy]
  .simp only[cy,h3]at e;injection e with e;subst e;exact T
 refine y6 ?_ ho hc u Y (E.yl (n-1) i q M X _ h4 z Z) ?_
 .exact dB (k.sim (P:=P) H).2.2 h2
 rintro e w2 ⟨b,V,rfl,A,R⟩;refine⟨_,rfl,?_⟩
 have F:jm E.N V (av (cy g.t) d (.pv (.val (.bool b)))) (D.put o.dst (.bool b)) w2:=by
  have I:=k.mono R;rw[hd]
  have v:d<D.tmps.size:=by rw[I.1];exact K
  refine⟨by simpa[Act.put]using I.1,λm=>?_⟩;rw[gW v];simp only[av];split
  .exact .inr ⟨_,rfl,.val _⟩
  .exact I.2 m
 refine F.list (E.bd _ _ _ _ A) (λy j=>r y (List.mem_append_right _ (yBe _ j))) (h5 b) ?_;intro ad a3 w3 S G U J;exact⟨_,_,_,V,E.gr _ _ _ _ _ A U,G,by rw[J,lA,v];exact L,S⟩
end
def tI(l:Nat)(caps:List PV):Nat->AV
 |0=>.pv (.val (.func (.yield l) #[] #[]))
 |k+1=>match caps[k]? with
  |some p=>.pv p
  |none=>.undef
theorem KZ{gf:FuncId}{fn:Func}{caps xs:List PV}(hf:P.funcs[gf]?=some fn)(X:fn.body=some c)(q:bS P gf=true)(v:fn.results=#[])(H:caps.length+1<=fn.ntmps)
 (h:∀E:YEnv P,E.N=fn.ntmps->E.xs=xs->bk E c (λe _ i s=>(e=.normal\/e=.ret)/\(if s=true then i<xs.length else i=xs.length)) (tI E.l caps) 0 false):DK P gf caps xs:=by
 refine⟨q,λn l a W M J g A U B V hY Q f=>?_⟩
 have K:∀(s:Bool) i M W,(if s=true then g i M W else J i M W)->∀b o,M b o->b<W.heap.size:=by
  intro s i M W F
  cases s with
  |true=>exact B i M W F
  |false=>exact A i M W F
 have L:∀(s:Bool) i M W j,(if s=true then g i M W else J i M W)->Ext (λ_=>False) W j->(if s=true then g i M j else J i M j):=by
  grind
 have O:∀m i x M W I,xs[i]?=some x->(if false=true then g i M W else J i M W)->Rep W M x I->YieldAt Fence.wide m P l #[I] W λe j=>∃(b:Bool)(d:Nat->Nat->Prop),e=.returned (.bool b)/\(if(!b)=true then g (if b=true then i+1 else i) d j else J (if b=true then i+1 else i) d j)/\Pres W M j d:=by
  grind
 let E:YEnv P:={N:=fn.ntmps,l:=l,xs:=xs,J:=λs i M W=>if s=true then g i M W else J i M W,bd:=K,gr:=L,yl:=O}
 have Y:=f.1;refine(callsIn_of_wp_marks hf X trivial ?_ rfl)
 have T:jm fn.ntmps M (tI l caps) {tmps:=((#[Value.func (.yield l) #[] #[]]:Array Value)++a.toArray)++Array.replicate (fn.ntmps-((#[Value.func (.yield l) #[] #[]]:Array Value)++a.toArray).size) undef,defers:=[]} W:=by
  refine⟨by simp;omega,λm=>?_⟩
  cases m with
  |zero=>
   have D:(((#[Value.func (.yield l) #[] #[]]:Array Value)++a.toArray)++Array.replicate (fn.ntmps-((#[Value.func (.yield l) #[] #[]]:Array Value)++a.toArray).size) undef).getD 0 undef=.func (.yield l) #[] #[]:=by
    rw[Ze,ZJ (by simp),ZJ (by simp)];rfl
   refine .inr ⟨_,rfl,?_⟩;simp only[D];exact .val _
  |succ k=>
   simp only[tI]
   cases G:caps[k]? with
   |none=>exact .inl rfl
   |some p=>
    have u:k<a.length:=by rw[<-Y];exact(th.1 G).1
    have hr:=f.2 k p a[k] G (an u);refine .inr ⟨p,rfl,?_⟩
    have D:(((#[Value.func (.yield l) #[] #[]]:Array Value)++a.toArray)++Array.replicate (fn.ntmps-((#[Value.func (.yield l) #[] #[]]:Array Value)++a.toArray).size) undef).getD (k+1) undef=a[k]:=by
     rw[Ze,ZJ (by simp;omega),Array.getElem?_append_right (by simp)];simp[u]
    grind
 refine wpIn_mono (h E rfl rfl n _ W M Q T rfl) ?_;rintro e z y ⟨t',i',s',d,h1,Z,R,S,h5⟩
 have r:((∃d,J xs.length d y)\/∃i d,i<xs.length/\g i d y):=by
  grind
 have C:(results fn z.tmps).run P y=.ok (.tuple #[]) y:=by
  unfold results;rw[v];simp[go_sem]
 rcases S with rfl|rfl
 all_goals
  show LeavesInM Fence.wide n P fn z.tmps _ z.defers .returning y
  rw[R];exact⟨_,C,⟨_,rfl⟩,r⟩
section
variable {P:Program} {E:YEnv P} {Q:QY} {C:Cx} {st:St} {i:Nat} {s:Bool}
def bw{P:Program}(E:YEnv P)(C:Cx)(c:Code)(Q:QY)(st:St)(i:Nat)(s:Bool):Prop:=
 C.P=P->C.N=E.N->(∀b,¬C.S b)->E.J s i C.M0 C.w0->∀n L a w,gk C L st a w->a.defers=[]->c.wpIn Fence.wide n P (M5 E Q) a w
theorem M8{C:Cx}(h:∀b,¬C.S b){w w':World}(a:Ext C.S w w'):Ext (λ_=>False) w w':=by
 have e:C.S=λ_=>False:=funext λb=>propext ⟨λc=>(h b c).elim,False.elim⟩;rw[e]at a;exact a
theorem bk.blocks{t:Nat->AV}(h:∀C:Cx,C.P=P->C.N=E.N->bw E C c Q ⟨t,λ_=>none⟩ i s):bk E c Q t i s:=by
 intro n a w M b d hd;exact h {P:=P,N:=E.N,M0:=M,S:=λ_=>False,pb:=λ_=>none,w0:=w} rfl rfl rfl rfl (λ_ h=>h) b n _ a w (d.sim (E.bd _ _ _ _ b)) hd
theorem bw.drop(h:bk E c Q (cy st.t) i s):bw E C c Q st i s:=by
 intro hP hN hS d n L a w hs hd;have b:=rt hs;rw[hN]at b;exact h n a w C.M0 (E.gr _ _ _ _ _ d (M8 hS hs.1.ext)) b hd
def RY{P:Program}(E:YEnv P)(C:Cx)(y:Code)(Q:QY)(i:Nat)(s:Bool):Exit->St->Prop
 |.normal,st=>bw E C y Q st i s
 |e,st=>Q e (cy st.t) i s
theorem bw.seq{x:Code}(h:bh Fence.wide C x (RY E C y Q i s) st):bw E C (.seq x y) Q st i s:=by
 intro hP hN hS j n L a w hs hd;subst hP;refine wpIn_seq (wpIn_mono (h n L a w hs) ?_);rintro e f m ⟨l,k,b,_,d,hq⟩
 have c:f.defers=[]:=by rw[d];exact hd
 have g:=rt b;rw[hN]at g
 cases e with
 |normal=>exact hq rfl hN hS j n k f m b c
 |_=>exact⟨_,i,s,C.M0,E.gr _ _ _ _ _ j (M8 hS b.1.ext),g,c,hq⟩
theorem bw.walk(h:bh Fence.wide C c (λe d=>Q e (cy d.t) i s) st):bw E C c Q st i s:=by
 intro hP hN hS j n L a w hs hd;subst hP;refine wpIn_mono (h n L a w hs) ?_;rintro e l m ⟨d,k,b,_,f,hq⟩;have g:=rt b;rw[hN]at g;exact⟨_,i,s,C.M0,E.gr _ _ _ _ _ j (M8 hS b.1.ext),g,by rw[f];exact hd,hq⟩
theorem bw.cond{x:Code}{b:Bool}(f:st.t m=.pv (.val (.bool b)))(j:b=true->bw E C x Q st i s)(hf:b=false->bw E C y Q st i s):bw E C (.cond (.tmp m) x y) Q st i s:=by
 intro hP hN hS d n L a w hs hd
 have c:a.eval (.tmp m)=.bool b:=by
  have h:=hs.2.2 m;rw[f]at h
  cases h with
  |pv g=>exact aK g
 exact wpIn_cond_split c (λe=>j e hP hN hS d n L a w hs hd) (λe=>hf e hP hN hS d n L a w hs hd)
theorem bw.seqY{x:Code}(h:bw E C x (M6 E y Q) st i s):bw E C (.seq x y) Q st i s:=by
 intro hP hN hS j n L a w hs hd;refine wpIn_seq (wpIn_mono (h hP hN hS j n L a w hs hd) ?_);rintro e g m ⟨t',k,l,b,h1,c,d,f⟩
 cases e with
 |normal=>exact f n g m b h1 c d
 |_=>exact⟨t',k,l,b,h1,c,d,f⟩
theorem bw.block(h:bw E C c (Al id Q) st i s):bw E C (.block id c) Q st i s:=by
 intro hP hN hS m n L a w hs hd;refine wpIn_block (wpIn_mono (h hP hN hS m n L a w hs hd) ?_);rintro e o p ⟨t',k,l,d,h1,f,g,b⟩
 cases e with
 |exit j=>
  simp only[Al]at b;show(if j=id then _ else _);split
  .rename_i e;rw[Zd e]at b;exact⟨t',k,l,d,h1,f,g,b⟩
  .rename_i e;rw[Y6 e]at b;exact⟨t',k,l,d,h1,f,g,b⟩
 |_=>exact⟨t',k,l,d,h1,f,g,b⟩
theorem bw.yield{d f x:Nat}{c:Call}(s:ops.toList=pre++o::post)(S:rq ops=true)(ho:o.op=.call c)(hc:c.callee=.value (.tmp f))(v:c.args=#[.tmp x])(hd:o.dst=some d)(O:d<E.N)
 (u:bZ P hn E.N ops (λg=>g.t f=.pv (.val (.func (.yield E.l) #[] #[]))/\eC ops (cy g.t) o.guard=some true/\∃q,g.t x=.pv q/\E.xs[i]?=some q/\
   ∀b,bZ P hn E.N ops (λF=>Q .normal (cy F.t) (if b=true then i+1 else i) (!b)) post ⟨av (cy g.t) d (.pv (.val (.bool b))),λ_=>none⟩) pre st):bw E C (.region id ops false) Q st i false:=by
 intro hP hN hS hJ n L a w hs R;subst hP;rw[<-hN]at u;refine wpIn_region_list ?_;rw[s];refine dE _ ?_;have r:∀z∈pre++o::post,∀c,z.op≠.defer c:=λz j=>nU S (by rw[s];exact j);refine im iw (λg L' G Z D _ y hq=>?_) (λz j=>r z (yAP _ j)) hs (aH.refl hs.1) rfl u;obtain⟨h1,h2,q,Y,h4,h5⟩:=hq;have k:=rt D;have A:=E.gr _ _ _ _ _ hJ (M8 hS D.1.ext);have J:=E.bd _ _ _ _ A
 have ef:G.eval (.tmp f)=.func (.yield E.l) #[] #[]:=by
  rcases k.2 f with e|⟨p,e,V⟩
  .simp only[cy,h1]at e;cases e
  .simp only[cy,h1]at e;injection e with e;subst e;exact aK V
 have ex:Rep Z C.M0 q (G.eval (.tmp x)):=by
  rcases k.2 x with e|⟨p,e,V⟩
  .simp only[cy,Y]at e;cases e
  .simp only[cy,Y]at e;injection e with e;subst e;exact V
 refine y6 ?_ ho hc v ef (E.yl (n-1) i q C.M0 Z _ h4 A ex) ?_
 .exact dB (k.sim (P:=C.P) J).2.2 h2
 rintro e w2 ⟨b,X,rfl,B,T⟩;refine⟨_,rfl,?_⟩
 have H:jm E.N X (av (cy g.t) d (.pv (.val (.bool b)))) (G.put o.dst (.bool b)) w2:=by
  have K:=k.mono T;rw[hd]
  have y:d<G.tmps.size:=by rw[K.1,hN];exact O
  refine⟨by simpa[Act.put,hN]using K.1,λm=>?_⟩;rw[gW y];simp only[av];split
  .exact .inr ⟨_,rfl,.val _⟩
  .exact K.2 m
 refine H.list (E.bd _ _ _ _ B) (λz j=>r z (List.mem_append_right _ (yBe _ j))) (by rw[hN]at h5;exact h5 b) ?_;intro ad a3 w3 U I W M;exact⟨_,_,_,X,E.gr _ _ _ _ _ B W,I,by rw[M,lA,y];exact R,U⟩
end
def wq(C:Cx)(ds:List Deferred)(st:St)(a:Act)(w:World):Prop:=∃L,MemL C L st.h w/\a.tmps.size=C.N/\a.defers=ds/\∀n,RepA w (ae C L st.h) L st.h (st.t n) (a.tmps.getD n undef)
theorem wq.put{C:Cx}{ds:List Deferred}{L:Nat->Loc}{st:St}{a:Act}{w:World}(g:MemL C L st.h w)(hN:a.tmps.size=C.N)(b:a.defers=ds)(i:∀n,RepA w (ae C L st.h) L st.h (st.t n) (a.tmps.getD n undef))
 {d:Option Nat}(hd:dI C.N d=true){v:AV}{W:List (Nat×Blk)}{u:Value}{w':World}{L':Nat->Loc}(f:aH C L st.h w L' (ai st.h W) w')(j:RepA w' (ae C L' (ai st.h W)) L' (ai st.h W) v u):
 wq C ds (st.put d v W) (a.put d u) w':=by
 obtain⟨h1,c,e⟩:=gk.put (a:=a) ⟨g,hN,i⟩ hd f j;exact⟨L',h1,c,(lA _ _ _).trans b,e⟩
section
variable {C:Cx} {hn:List Nat} {ops:Array Oper} {fs:List Ef} {st:St} {ds:List Deferred}
theorem Jj(z:fG ops=true)(cb:fs.length=ops.size)(U:∀(i:Nat) o f,ops[i]?=some o->fs[i]?=some f->pZ C.P hn C.N ops o (run (fs.take i) st) f)
 (Q:gS (gG ops.toList []) (fs.map λf=>(f.W.map (·.1),f.K))=true){Q':Exit->Act->World->Prop}(hQ:∀a w,wq C ds (run fs st) a w->Q' .normal a w):
 ∀(fuel:Nat)(c:Array Bool)(a:Act)(w:World),c.size=ops.size->((List.range ops.size).filter λj=>!aC c j).length<=fuel->(∀i j,iE ops i j->aC c j=true->aC c i=true)->
  wq C ds (dU fs ops.size st (aC c)) a w->wpAny C.P .any ops Q' fuel c a w:=by
 have G:∀c:Array Bool,Region.ready .any ops c=[]->c.size=ops.size->∀j,j<ops.size->aC c j=true:=by
  intro c V B j
  induction j using Nat.strongRecOn with
  |_ j ih=>
   intro l
   cases hl:aC c j with
   |true=>rfl
   |false=>
    have:j∈Region.ready .any ops c:=bW.2 ⟨l,hl,λq hq=>by
     have cr:=il z hq;have:=ih q cr (by omega);unfold aC at this;rw[Ze]at this|-;rw[ZN (by omega)]at this|-
     simpa using this⟩
    rw[V]at this;cases this
 have ah:∀(c:Array Bool) a w,Region.ready .any ops c=[]->c.size=ops.size->wq C ds (dU fs ops.size st (aC c)) a w->Q' .normal a w:=by
  intro c a w V B D;apply hQ;have hl:=G c V B
  have:dU fs ops.size st (aC c)=run fs st:=by
   have ht:run fs st=run (fs.take ops.size) st:=by rw[Zw (by omega)]
   rw[ht]
   have h1:(dU fs ops.size st (aC c)).t=(run (fs.take ops.size) st).t:=by
    funext r;rw[nR fs st _ (by omega)];exact dm (λj l _=>hl j l)
   have F:(dU fs ops.size st (aC c)).h=(run (fs.take ops.size) st).h:=by
    funext r;rw[nS fs st _ (by omega)];exact dm (λj l _=>hl j l)
   cases hA:dU fs ops.size st (aC c);cases hB:run (fs.take ops.size) st;rw[hA,hB]at h1 F;simp at h1 F;rw[h1,F]
  rw[<-this];exact D
 intro fuel
 induction fuel with
 |zero=>
  intro c a w B b5 X D
  have ad:Region.ready .any ops c=[]:=by
   cases V:Region.ready .any ops c with
   |nil=>rfl
   |cons i r=>
    have hi:i∈Region.ready .any ops c:=by rw[V];simp
    obtain⟨h1,F,_⟩:=bW.1 hi;have:i∈(List.range ops.size).filter λj=>!aC c j:=yAa.2 ⟨ZL.2 h1,by simp[F]⟩;have cd:((List.range ops.size).filter λj=>!aC c j)=[]:=ZC (by omega);rw[cd]at this;cases this
  exact⟨ad,ah c a w ad B D⟩
 |succ fuel ih=>
  intro c a w B b5 X D;refine⟨λV=>ah c a w V B D,λi hi=>?_⟩;obtain⟨M,R,b8⟩:=bW.1 hi;have ho:ops[i]?=some ops[i]:=ZN M;have hf:fs[i]?=some (fs[i]'(by omega)):=an _;generalize ops[i]=o at ho;generalize fs[i]'(by omega)=f at hf;obtain⟨I,ca,H⟩:=U i o f ho hf
  have y:∀q,Pre ops q i->aC c q=true:=by
   intro q hq
   have hd:∀q,iE ops q i->aC c q=true:=by
    intro q hq;have cv:=il z hq;have:=b8 q hq;unfold aC;rw[Ze]at this|-;rw[ZN (by omega)]at this|-;simpa using this
   cases hq with
   |one h=>exact hd q h
   |step h h'=>exact nT X h (hd _ h')
  have s:∀q,Pre ops i q->aC c q=false:=by
   intro q hq
   cases cq:aC c q with
   |false=>rfl
   |true=>rw[nT X hq cq]at R;cases R
  have ar:∀j r,(sQ fs r j).isSome=true->∃oj A,ops[j]?=some oj/\fs[j]?=some A/\oj.dst=some r:=by
   intro j r l;unfold sQ at l;split at l
   .rename_i A p
    split at l
    .rename_i hd
     have cp:j<ops.size:=by rw[<-cb];exact(th.1 p).1
     have E:ops[j]?=some ops[j]:=ZN cp;obtain⟨_,F,_⟩:=U j _ A E p;exact⟨_,A,E,p,by rw[<-F];exact hd⟩
    .cases l
   .cases l
  have bq:∀j k,(sR fs k j).isSome=true->∃A,fs[j]?=some A/\k∈A.W.map (·.1):=by
   intro j k l;unfold sR at l;split at l
   .rename_i A p;exact⟨A,p,wQ l⟩
   .cases l
  have g:∀(j:Nat)(A:Ef),fs[j]?=some A->(fs.map λf=>(f.W.map (·.1),f.K))[j]?=some (A.W.map (·.1),A.K):=λj A h=>by simp[h]
  have Z:∀r∈pY ops o,(dU fs ops.size st (aC c)).t r=(run (fs.take i) st).t r:=by
   intro r V;rw[nR fs st i (by omega),<-qO (n:=ops.size) (by omega)];refine dm (λj l hw=>?_);obtain⟨oj,A,E,p,hd⟩:=ar j r hw;rcases yAK j i with S|rfl|a6
   .rw[y j (lz z S E ho (by simp[kP,hd,V]))];simp[S]
   .rw[R];simp
   .rw[s j (lz z a6 ho E (by simp[kP,hd,V]))]
    have:¬j<i:=by omega
    simp[this]
  have b4:∀k∈f.K,(dU fs ops.size st (aC c)).h k=(run (fs.take i) st).h k:=by
   intro k O;rw[nS fs st i (by omega),<-qO (n:=ops.size) (by omega)];refine dm (λj l hw=>?_);obtain⟨A,p,hd⟩:=bq j k hw;rcases yAK j i with S|rfl|a6
   .rw[y j (nc Q S (g j A p) (g i f hf) ⟨k,.inl ⟨hd,O⟩⟩)];simp[S]
   .rw[R];simp
   .rw[s j (nc Q a6 (g i f hf) (g j A p) ⟨k,.inr ⟨hd,O⟩⟩)]
    have:¬j<i:=by omega
    simp[this]
  have cj:∀k,k∈f.W.map (·.1)->k∈f.K:=by
   intro k O;obtain⟨kb,a8,rfl⟩:=Zv.1 O;rcases H with⟨_,_,_,G⟩|⟨_,_,hW,_⟩
   .have:=L4.1 G kb a8;simpa using this
   .rw[hW]at a8;cases a8
  have lT:dU fs ops.size st (aC (c.setIfInBounds i true))=(dU fs ops.size st (aC c)).put f.d f.v f.W:=by
   have cc:∀j,j<ops.size->aC (c.setIfInBounds i true) j=(aC c j||j==i):=by
    intro j l;unfold aC;by_cases e:j=i
    .subst e;simp[Ze,B,l]
    .have h1:(j==i)=false:=by simpa using e
     rw[h1,Bool.or_false,Ze,Ze,ZZ (by omega)]
   have h1:(dU fs ops.size st (aC (c.setIfInBounds i true))).t=((dU fs ops.size st (aC c)).put f.d f.v f.W).t:=by
    funext r
    show gF ops.size (sQ fs r) (st.t r) (aC (c.setIfInBounds i true))=_;rw[dm (λj l _=>cc j l),pO M ?_]
    .have hw:sQ fs r i=if f.d=some r then some f.v else none:=by simp[sQ,hf]
     rw[hw]
     cases hd:f.d with
     |none=>simp[St.put,dU]
     |some d=>
      simp only[St.put,av,Za];by_cases e:d=r
      .subst e;simp
      .rw[Y6 e,Y6 (λh=>e h.symm)];rfl
    .intro b2 j a7 l b3
     obtain⟨oi,fi,Y,J,ak⟩:=ar i r b2;obtain⟨oj,A,E,p,hd⟩:=ar j r b3;rw[ho]at Y;injection Y with Y;subst Y;exact s j (lz z a7 ho E (by simp[kP,ak,hd]))
   have F:(dU fs ops.size st (aC (c.setIfInBounds i true))).h=((dU fs ops.size st (aC c)).put f.d f.v f.W).h:=by
    funext k
    show gF ops.size (sR fs k) (st.h k) (aC (c.setIfInBounds i true))=_;rw[dm (λj l _=>cc j l),pO M ?_]
    .have hw:sR fs k i=iM f.W k:=by simp[sR,hf]
     rw[hw];simp only[St.put];exact(pP k f.W (dU fs ops.size st (aC c)).h).symm
    .intro b2 j a7 l b3
     obtain⟨fi,J,ak⟩:=bq i k b2;obtain⟨A,p,hd⟩:=bq j k b3;rw[hf]at J;injection J with J;subst J;exact s j (nc Q a7 (g i f hf) (g j A p) ⟨k,.inr ⟨hd,cj k ak⟩⟩)
   cases hA:dU fs ops.size st (aC (c.setIfInBounds i true));cases hB:(dU fs ops.size st (aC c)).put f.d f.v f.W;rw[hA,hB]at h1 F;simp at h1 F;rw[h1,F]
  have T:∀a' w',wq C ds ((dU fs ops.size st (aC c)).put f.d f.v f.W) a' w'->wpAny C.P .any ops Q' fuel (c.setIfInBounds i true) a' w':=by
   intro a' w' ct;refine ih (c.setIfInBounds i true) a' w' (by simp[B]) ?_ ?_ (by rw[lT];exact ct)
   .have cu:((List.range ops.size).filter λj=>!aC (c.setIfInBounds i true) j).length<((List.range ops.size).filter λj=>!aC c j).length:=by
     have cm:((List.range ops.size).filter λj=>!aC (c.setIfInBounds i true) j)=((List.range ops.size).filter λj=>!aC c j).filter λj=>!(j==i):=by
      rw[List.filter_filter];refine List.filter_congr (λj l=>?_);have cn:=ZL.1 l;unfold aC;by_cases e:j=i
      .subst e;simp[Ze,B,cn]
      .have h1:(j==i)=false:=by simpa using e
       rw[h1,Ze,Ze,ZZ (by omega)];simp
     rw[cm];refine List.length_filter_lt_length_iff_exists.2 ⟨i,yAa.2 ⟨ZL.2 M,by simp[R]⟩,by simp⟩
    omega
   .intro q j hd l
    have ch:∀m,aC (c.setIfInBounds i true) m=true↔(aC c m=true\/m=i):=by
     intro m;unfold aC;by_cases e:m=i
     .subst e;simp[Ze,B,M]
     .rw[Ze,Ze,ZZ (by omega)];simp[e]
    rw[ch]at l|-;rcases l with l|rfl
    .exact .inl (X q j hd l)
    .exact .inl (y q (.one hd))
  obtain⟨L,hm,hN,b7,ht⟩:=D
  have hgd:eC ops (dU fs ops.size st (aC c)).t o.guard=eC ops (run (fs.take i) st).t o.guard:=by
   unfold eC;split
   .rfl
   .rename_i j want hg
    split
    .rename_i d hd
     rw[Z d (by simp[pY,hg,hd])]
    .rfl
  unfold wpOp;rw[ho];simp only;rcases H with⟨hg,hK,b9,ck⟩|⟨hg,hv,hW,_⟩
  .rw[dB ht (hgd.trans hg)]
   rw[Zd rfl];refine .inl ?_
   have cf:∀x∈o.op.operands,(run (fs.take i) st).ev x=(dU fs ops.size st (aC c)).ev x:=by
    intro x hx
    cases x with
    |tmp t=>
     refine(Z t ?_).symm;simp only[pY,Ez,Zm,List.mem_filterMap];exact .inl ⟨.tmp t,by simpa using hx,rfl⟩
    |_=>rfl
   have cg:bz f.K (run (fs.take i) st).h=bz f.K (dU fs ops.size st (aC c)).h:=by
    funext k
    unfold bz;split
    .rename_i O;exact(b4 k (by simpa using O)).symm
    .rfl
   rw[cg]at b9;refine o7.congr cf b9 C L _ w a rfl hm ?_ ?_ (λx _=>bE ht x) _ _ (λu w' L' hA hv=>?_)
   .intro k b O;unfold bz at O;split at O
    .exact O
    .cases O
   .intro d hd
    unfold bz;rw[Zd (hK d hd)];refine⟨rfl,?_⟩;have aj:=I;rw[hd]at aj;simp only[dI,up,Is]at aj;exact aj.2
   .refine T _ _ ?_
    rw[ca];exact wq.put hm hN b7 ht I hA hv
  .rw[dB ht (hgd.trans hg)]
   simp only[Y9,Zk];refine T _ _ ?_;rw[ca,hv,hW];exact wq.put hm hN b7 ht I (W:=[]) (aH.refl hm) (.pv (.val _))
variable {P:Program} {E:YEnv P} {Q:QY} {i:Nat} {s:Bool}
theorem bw.draw(p:P.follows .mixedOrders=true)(c:fG ops=true)
 (h:jS P hn E.N ops (λe st=>gS (gG ops.toList []) e=true/\bw E C y Q st i s) ops.toList [] st):bw E C (.seq (.region id ops true) y) Q st i s:=by
 intro hP hN hS B n L a w hs hd;subst hP;rw[<-hN]at h;obtain⟨fs,h1,x,z,A⟩:=yp h;refine wpIn_seq (wpIn_wide.2 ?_);refine wp_region_any p (Jj (ds:=[]) (fs:=fs) (st:=st) c (by rw[h1];simp) (λi o f q hf=>x i o f (by simpa using q) hf) (by simpa using z) (λa w hs=>?_) _ _ _ _ (by simp) ?_ ?_ ?_)
 .obtain⟨v,m,g,k,r⟩:=hs
  exact A rfl hN hS B n v a w ⟨m,g,r⟩ k
 .refine yAG (yBb _ _) (by simp)
 .intro i j hd b
  have l:j<ops.size:=by obtain⟨o,q,_⟩:=hd;exact(ZE.1 q).1
  unfold aC at b;rw[Ze,yAU,Zd l]at b;cases b
 .have:dU fs ops.size st (aC (Array.replicate ops.size false))=st:=by
   have hf:∀j,j<ops.size->aC (Array.replicate ops.size false) j=false:=by
    intro j b;unfold aC;rw[Ze,yAU,Zd b];rfl
   have D:∀{V:Type}(wr:Nat->Option V)(d:V),gF ops.size wr d (aC (Array.replicate ops.size false))=d:=by
    intro V wr d;rw[dm (ls':=λ_=>false) (λj b _=>hf j b)]
    have:∀n,gF n wr d (λ_=>false)=d:=by
     intro n;induction n with
     |zero=>rfl
     |succ n ih=>rw[i7];simp[ih]
    exact this _
   cases st;unfold dU;simp[D]
  rw[this];have u:=hs.1.grow (Ext.drew (λ_=>False) w);exact⟨L,u.1,hs.2.1,hd,λn=>(hs.2.2 n).mono u.2 (KC.refl _ _)⟩
end
abbrev sc(a:List aq)(d:Int)(b:List aq)(e:Int)(c:List Vc):List PV:=[.rptr (aE a) 0,.rptr (aE b) 0,.rptr (Z d) 0,.rptr (Z e) 0,.rptr (aw c) 0]
theorem UU(a:List aq)(d:Int)(b:List aq)(e:Int)(c:List Vc):wo 209 (aE a) (Z d) (aE b) (Z e) (aw c) (.fn (.func 239) [] (sc a d b e c)):=by
 refine Dp func209 λC hP hN=>?_;exact Gy
def vr(a:List aq)(c:Int)(b:List aq)(d:Int):Bool:=au a&&au b&&aT c 0 1048576&&aT d 0 1048576
def mK(a:List aq)(c:Int)(b:List aq)(d:Int):Vc:=(iP (ax a) (ax b) (c+d) 64).2.n
def mM(a:List aq)(d:Int)(b:List aq)(e:Int)(c:List Vc):List Vc:=
 if vr a d b e then c.filter aI++((if lG a b then[j8 a b]else[])++(j7++(if aI (mK a d b e)then[mK a d b e]else[])))else[]
theorem GG{l:List α}{k:Nat}{v:α}(a:l[k]?=some v):(l.filter p)=(l.take k).filter p++(if p v then[v]else[])++(l.drop (k+1)).filter p:=by
 obtain⟨h,a⟩:=th.1 a
 have e:l=l.take k++v::l.drop (k+1):=by rw[<-a,yAu];exact(Z5 k l).symm
 conv=>lhs;rw[e]
 rw[yAH,List.filter_cons];split<;>simp
structure CandT(l:Nat)(a:List aq)(ra:Int)(b:List aq)(rb:Int)(hints:List Vc)(t:Nat->AV):Prop where
 g0:t 0=.pv (.val (.func (.yield l) #[] #[]))
 g1:t 1=.pv (.rptr (aE a) 0)
 g2:t 2=.pv (.rptr (aE b) 0)
 g3:t 3=.pv (.rptr (Z ra) 0)
 g4:t 4=.pv (.rptr (Z rb) 0)
 g5:t 5=.pv (.rptr (aw hints) 0)
def Bh(E:YEnv P)(a:List aq)(d:Int)(b:List aq)(f:Int)(c:List Vc)(n:Nat):QY:=λe t i s=>match e with
 |.normal=>s=false/\i=n/\CandT E.l a d b f c t
 |.ret=>s=true/\i<E.xs.length
 |_=>False
theorem UV(a:List aq)(A:Int)(b:List aq)(B:Int)(g:List Vc)(ha:a.length<=9223372036854775807)(hb:b.length<=9223372036854775807)(hl:g.length<=9223372036854775807):DK prog 239 (sc a A b B g) ((mM a A b B g).map al):=by
 refine KZ (c:=(f239.body).getD .skip) func239 rfl (by kernel_rfl) rfl (by simp[f239]) ?_;intro E j G;simp only[f239,Zn]at j|-;rw[<-G];have U:CandT E.l a A b B g (tI E.l (sc a A b B g)):=⟨rfl,rfl,rfl,rfl,rfl,rfl⟩;generalize tI E.l (sc a A b B g)=t at *;obtain⟨g0,g1,g2,g3,g4,g5⟩:=U;have hF:=iw;have ca:=vD a ha;have cb:=vD b hb;have Y:=QU A;have ak:=QU B
 have K:mM a A b B g=if vr a A b B then g.filter aI++((if lG a b then[j8 a b]else[])++(j7++(if aI (mK a A b B)then[mK a A b B]else[])))else[]:=rfl
 have J:vr a A b B=(au a&&au b&&aT A 0 1048576&&aT B 0 1048576):=rfl
 cases aj:vr a A b B with
 |false=>
  rw[aj]at K J;simp only[Y9,Zk]at K
  have X:E.xs.length=0:=by rw[G,K];rfl
  refine bk.seq ?_;refine bk.walk λC hP hN=>?_;rw[j]at hN;cases M:au a
  .rw[M]at ca
   refine GV (so g0 g1 g2 g3 g4 g5) ?_
   all_goals exact⟨.inr rfl,by simp[X]⟩
  rw[M]at ca J;cases N:au b
  .rw[N]at cb
   refine GV (so g0 g1 g2 g3 g4 g5) ?_
   all_goals exact⟨.inr rfl,by simp[X]⟩
  rw[N]at cb J;cases T:aT A 0 1048576
  .rw[T]at Y
   refine GV (so g0 g1 g2 g3 g4 g5) ?_
   all_goals exact⟨.inr rfl,by simp[X]⟩
  rw[T]at Y J
  have V:aT B 0 1048576=false:=by simpa using J.symm
  rw[V]at ak;refine GV (so g0 g1 g2 g3 g4 g5) ?_
  all_goals exact⟨.inr rfl,by simp[X]⟩
 |true=>
 have hk:=aj;rw[J]at hk;simp only[up]at hk;obtain⟨⟨⟨M,N⟩,T⟩,V⟩:=hk;rw[M]at ca;rw[N]at cb;rw[T]at Y;rw[V]at ak;rw[aj]at K;simp only[Zp]at K;rw[K]at G;clear K J;refine bk.seq (bk.mono (Q:=Bh E a A b B g 0) ?_ ?_)
 .refine bk.walk λC hP hN=>?_
  rw[j]at hN;refine GV (so g0 g1 g2 g3 g4 g5) ?_
  all_goals exact⟨rfl,rfl,by constructor<;>simp[cy,av,g0,g1,g2,g3,g4,g5]⟩
 clear g0 g1 g2 g3 g4 g5;rintro e t i s h
 cases e with
 |ret=>exact⟨.inr rfl,by obtain⟨rfl,h⟩:=h;exact h⟩
 |normal=>
  obtain⟨rfl,rfl,U⟩:=h;show bk E _ _ _ _ _;refine bk.seq (bk.mono (Q:=Bh E a A b B g (g.filter aI).length) ?_ ?_)
  .obtain⟨g0,g1,g2,g3,g4,g5⟩:=U
   refine bk.seq ?_;refine bk.walk λC hP hN=>?_;rw[j]at hN;refine GV (so g0 g1 g2 g3 g4 g5) ?_;show bk E _ _ _ _ _;refine bk.block ?_;refine bk.loopN g.length (λk t i s=>s=false/\i=((g.take k).filter aI).length/\CandT E.l a A b B g t/\t 32=.pv (aw g)/\t 33=.pv (Z g.length)/\t 34=.pv (Z k)) ?_ ?_
   .refine⟨rfl,rfl,?_,?_⟩
    .constructor<;>simp[cy,av,g0,g1,g2,g3,g4,g5]
    .simp[cy,av]
   clear g0 g1 g2 g3 g4 g5;rintro k t i s hk ⟨rfl,rfl,⟨g0,g1,g2,g3,g4,g5⟩,q,r,z⟩;refine bk.blocks λC hP hN=>?_;rw[j]at hN;by_cases o:k<g.length
   .have y:=ab o hl
    generalize u:g[k]=v at *
    have I:g[k]?=some v:=by rw[an o,u]
    have cu:=FI v;have a6:=GG (p:=aI) I
    have W:g.take (k+1)=g.take k++[v]:=by rw[yA4,I];rfl
    refine bw.seq ?_;refine GV (zAc g0 g1 g2 g3 g4 g5 q r z o) ?_;show bw E C _ _ _ _ _;refine bw.seq ?_;refine GV (zAc g0 g1 g2 g3 g4 g5 q r z o) ?_;refine bh.skip ?_;show bw E C _ _ _ _ _;refine bw.seqY (bw.block ?_);refine bw.seq ?_;refine GV (zAd g0 g1 g2 g3 g4 g5 q r z o I u) ?_;show bw E C _ _ _ _ _
    cases O:aI v with
    |true=>
     rw[O]at cu
     have hi:E.xs[((g.take k).filter aI).length]?=some (al v):=by
      rw[G,a6,O];simp
     refine bw.seqY (bw.yield (hn:=[]) (d:=43) (f:=41) (x:=42) (pre:=[_,_,_,_,_]) (post:=[_,_]) rfl (by kernel_rfl) rfl rfl rfl rfl (by rw[j];decide) ?_);rw[j];simp -implicitDefEqProofs (maxSteps:=2000000) [g0,g1,g2,g3,g4,g5,q,r,z,o,I,u];refine rI cu ?_;simp -implicitDefEqProofs (maxSteps:=2000000) [g0,g1,g2,g3,g4,g5,q,r,z,o,I,u,cy];refine⟨by simp[eC,cy,av],hi,?_,?_⟩
     .show bk E _ _ _ _ _
      refine bk.cond (b:=true) (by simp[cy,av]) (λ_=>bk.ret ?_) (λh=>by cases h);exact⟨rfl,(th.1 hi).1⟩
     .show bk E _ _ _ _ _
      refine bk.cond (b:=false) (by simp[cy,av]) (λh=>by cases h) (λ_=>bk.skip ?_);show bk E _ _ _ _ _;clear hP hN;refine bk.walk λC hP hN=>?_;rw[j]at hN
      repeat' (first
       |with_reducible refine bh.seq ?_
       |(with_reducible ((first|refine bh.region hF (hn:=[]) (by kernel_rfl) ?_|refine bh.cond' ?_);simp -implicitDefEqProofs (maxSteps:=2000000) [hP,hN,g0,g1,g2,g3,g4,g5,q,r,z,o,I,u,y,cy]))
       |(with_reducible refine mU (by simp[g0,g1,g2,g3,g4,g5,q,r,z,o,I,u,y,cy]) (λhgd=>?_) (λhgd=>?_)<;>first|(exfalso;simp at hgd;done)|(exfalso;simp at hgd;omega)|simp -implicitDefEqProofs (maxSteps:=2000000) [hP,hN,g0,g1,g2,g3,g4,g5,q,r,z,o,I,u,y,cy])
       |with_reducible refine jV ?_ ?_
       |(with_reducible refine jF (λhcd=>?_) (λhcd=>?_)<;>(try (exfalso;clear hP hN;simp_all;done))<;>(try (exfalso;simp at *;omega)))
       |with_reducible refine bh.block ?_
       |(with_reducible ((first|refine bh.skip ?_|refine bh.exit ?_|refine bh.ret ?_);simp[g0,g1,g2,g3,g4,g5,q,r,z,o,I,u,y,cy])))
      repeat' (refine And.intro ?_ ?_)
      all_goals first|rfl|(rw[W,yAH];simp[O];done)|(simp[O,W,cy,av,q,r,y];done)|(constructor<;>simp[cy,av,g0,g1,g2,g3,g4,g5])
    |false=>
     rw[O]at cu;refine bw.walk ?_;refine GV (zAd g0 g1 g2 g3 g4 g5 q r z o I u) ?_;show bk E _ _ _ _ _;clear hP hN;refine bk.walk λC hP hN=>?_;rw[j]at hN
     repeat' (first
      |with_reducible refine bh.seq ?_
      |(with_reducible ((first|refine bh.region hF (hn:=[]) (by kernel_rfl) ?_|refine bh.cond' ?_);simp -implicitDefEqProofs (maxSteps:=2000000) [hP,hN,g0,g1,g2,g3,g4,g5,q,r,z,o,I,u,y,cy]))
      |(with_reducible refine mU (by simp[g0,g1,g2,g3,g4,g5,q,r,z,o,I,u,y,cy]) (λhgd=>?_) (λhgd=>?_)<;>first|(exfalso;simp at hgd;done)|(exfalso;simp at hgd;omega)|simp -implicitDefEqProofs (maxSteps:=2000000) [hP,hN,g0,g1,g2,g3,g4,g5,q,r,z,o,I,u,y,cy])
      |with_reducible refine jV ?_ ?_
      |(with_reducible refine jF (λhcd=>?_) (λhcd=>?_)<;>(try (exfalso;clear hP hN;simp_all;done))<;>(try (exfalso;simp at *;omega)))
      |with_reducible refine bh.block ?_
      |(with_reducible ((first|refine bh.skip ?_|refine bh.exit ?_|refine bh.ret ?_);simp[g0,g1,g2,g3,g4,g5,q,r,z,o,I,u,y,cy])))
     repeat' (refine And.intro ?_ ?_)
     all_goals first|rfl|(rw[W,yAH];simp[O];done)|(simp[O,W,cy,av,q,r,y];done)|(constructor<;>simp[cy,av,g0,g1,g2,g3,g4,g5])
   .have ad:k=g.length:=by omega
    subst ad;refine bw.walk ?_;refine GV (zAb g0 g1 g2 g3 g4 g5 q (gA r z)) ?_;exact⟨rfl,rfl,by constructor<;>simp[cy,av,g0,g1,g2,g3,g4,g5]⟩
  clear U;rintro e t i s h
  cases e with
  |ret=>exact⟨.inr rfl,by obtain⟨rfl,h⟩:=h;exact h⟩
  |normal=>
   obtain⟨rfl,rfl,U⟩:=h;show bk E _ _ _ _ _;generalize S:(g.filter aI).length=n1 at *;refine bk.seq (bk.mono (Q:=Bh E a A b B g (n1+(if lG a b then[j8 a b]else[]).length)) ?_ ?_)
   .obtain⟨g0,g1,g2,g3,g4,g5⟩:=U
    refine bk.blocks λC hP hN=>?_;rw[j]at hN;have cm:=UT a b ha hb;refine bw.seq ?_
    cases ah:lG a b with
    |false=>
     rw[ah]at cm;refine GV (so g0 g1 g2 g3 g4 g5) ?_;show bw E C _ _ _ _ _;refine bw.walk ?_;refine GV (so g0 g1 g2 g3 g4 g5) ?_;exact⟨rfl,by simp,by constructor<;>simp[cy,av,g0,g1,g2,g3,g4,g5]⟩
    |true=>
     rw[ah]at cm
     have hi:E.xs[n1]?=some (al (j8 a b)):=by rw[G,ah,<-S];simp
     generalize j8 a b=v at *;refine GV (so g0 g1 g2 g3 g4 g5) ?_;show bw E C _ _ _ _ _;refine bw.seqY (bw.yield (hn:=[]) (d:=57) (f:=55) (x:=56) (pre:=[_,_,_,_]) (post:=[_,_]) rfl (by kernel_rfl) rfl rfl rfl rfl (by rw[j];decide) ?_);rw[j];simp -implicitDefEqProofs (maxSteps:=2000000) [g0,g1,g2,g3,g4,g5,cy];refine⟨by simp[eC,cy,av],hi,?_,?_⟩
     .show bk E _ _ _ _ _
      refine bk.cond (b:=true) (by simp[cy,av]) (λ_=>bk.ret ?_) (λh=>by cases h);exact⟨rfl,(th.1 hi).1⟩
     .show bk E _ _ _ _ _
      refine bk.cond (b:=false) (by simp[cy,av]) (λh=>by cases h) (λ_=>bk.skip ?_);exact⟨rfl,rfl,by constructor<;>simp[cy,av,g0,g1,g2,g3,g4,g5]⟩
   clear U;rintro e t i s h
   cases e with
   |ret=>exact⟨.inr rfl,by obtain⟨rfl,h⟩:=h;exact h⟩
   |normal=>
    obtain⟨rfl,rfl,U⟩:=h;show bk E _ _ _ _ _;generalize b4:(if lG a b then[j8 a b]else[])=ml at *;generalize ar:n1+ml.length=n2 at *;refine bk.seq (bk.mono (Q:=Bh E a A b B g (n2+6)) ?_ ?_)
    .obtain⟨g0,g1,g2,g3,g4,g5⟩:=U
     have a8:=US;refine bk.seq ?_;refine bk.walk λC hP hN=>?_;rw[j]at hN;refine GV (so g0 g1 g2 g3 g4 g5) ?_;show bk E _ _ _ _ _;refine bk.block ?_;refine bk.loopN 6 (λk t i s=>s=false/\i=n2+k/\CandT E.l a A b B g t/\t 60=.pv (aw j7)/\t 61=.pv (Z 6)/\t 62=.pv (Z k)) ?_ ?_
     .refine⟨rfl,rfl,?_,?_⟩
      .constructor<;>simp[cy,av,g0,g1,g2,g3,g4,g5]
      .simp[cy,av]
     clear g0 g1 g2 g3 g4 g5;rintro k t i s hk ⟨rfl,rfl,⟨g0,g1,g2,g3,g4,g5⟩,D,F,H⟩;refine bk.blocks λC hP hN=>?_;rw[j]at hN;by_cases o:k<6
     .have y:i64.wrap ((k:Int)+1)=(k:Int)+1:=aa
      have P:(k:Int)<6:=by omega
      have L:k<j7.length:=o;generalize u:j7[k]=v at *
      have I:j7[k]?=some v:=by rw[an L,u]
      have hi:E.xs[n2+k]?=some (al v):=by
       rw[G,<-ar,<-S,Y7,Zc (by omega),Zc (by omega),show(g.filter aI).length+ml.length+k-(g.filter aI).length-ml.length=k by omega,Y8 L,I];rfl
      generalize j7=AX at *;refine bw.seq ?_;refine GV (zAc g0 g1 g2 g3 g4 g5 D F H (gA o P)) ?_;show bw E C _ _ _ _ _;refine bw.seq ?_;refine GV (zAc g0 g1 g2 g3 g4 g5 D F H (gA o P)) ?_;refine bh.skip ?_;show bw E C _ _ _ _ _;refine bw.seqY (bw.block ?_);refine bw.seq ?_;refine GV (zAd g0 g1 g2 g3 g4 g5 D F H o P (be L I u)) ?_;show bw E C _ _ _ _ _;refine bw.seqY (bw.yield (hn:=[]) (d:=68) (f:=66) (x:=67) (pre:=[_,_]) (post:=[_]) rfl (by kernel_rfl) rfl rfl rfl rfl (by rw[j];decide) ?_);rw[j];simp -implicitDefEqProofs (maxSteps:=2000000) [g0,g1,g2,g3,g4,g5,D,F,H,L,I,u,cy];refine⟨by simp[eC,cy,av],hi,?_,?_⟩
      .show bk E _ _ _ _ _
       refine bk.cond (b:=true) (by simp[cy,av]) (λ_=>bk.ret ?_) (λh=>by cases h);exact⟨rfl,(th.1 hi).1⟩
      .show bk E _ _ _ _ _
       refine bk.cond (b:=false) (by simp[cy,av]) (λh=>by cases h) (λ_=>bk.skip ?_);show bk E _ _ _ _ _;clear hP hN;refine bk.walk λC hP hN=>?_;rw[j]at hN
       repeat' (first
        |with_reducible refine bh.seq ?_
        |(with_reducible ((first|refine bh.region hF (hn:=[]) (by kernel_rfl) ?_|refine bh.cond' ?_);simp -implicitDefEqProofs (maxSteps:=2000000) [hP,hN,g0,g1,g2,g3,g4,g5,D,F,H,y,cy]))
        |(with_reducible refine mU (by simp[g0,g1,g2,g3,g4,g5,D,F,H,y,cy]) (λhgd=>?_) (λhgd=>?_)<;>first|(exfalso;simp at hgd;done)|(exfalso;simp at hgd;omega)|simp -implicitDefEqProofs (maxSteps:=2000000) [hP,hN,g0,g1,g2,g3,g4,g5,D,F,H,y,cy])
        |with_reducible refine jV ?_ ?_
        |(with_reducible refine jF (λhcd=>?_) (λhcd=>?_)<;>(try (exfalso;clear hP hN;simp_all;done))<;>(try (exfalso;simp at *;omega)))
        |with_reducible refine bh.block ?_
        |(with_reducible ((first|refine bh.skip ?_|refine bh.exit ?_|refine bh.ret ?_);simp[g0,g1,g2,g3,g4,g5,D,F,H,y,cy])))
       repeat' (refine And.intro ?_ ?_)
       all_goals first|rfl|(simp[cy,av,D,F,y];done)|(constructor<;>simp[cy,av,g0,g1,g2,g3,g4,g5])
     .have ad:k=6:=by omega
      subst ad;refine bw.walk ?_;refine GV (zAb g0 g1 g2 g3 g4 g5 D (gA F H)) ?_;exact⟨rfl,rfl,by constructor<;>simp[cy,av,g0,g1,g2,g3,g4,g5]⟩
    clear U;rintro e t i s h
    cases e with
    |ret=>exact⟨.inr rfl,by obtain⟨rfl,h⟩:=h;exact h⟩
    |normal=>
     obtain⟨rfl,rfl,⟨g0,g1,g2,g3,g4,g5⟩⟩:=h;show bk E _ _ _ _ _;refine bk.blocks λC hP hN=>?_;rw[j]at hN;have c1:=Cn a ha;have c2:=Cn b hb;have b2:=(bo M).2.1;have b3:=(bo N).2.1;have bq:=fB M;have J:=fB N;simp only[aT,up,Is]at T V;have hw:i64.wrap (A+B)=A+B:=aa;have c3:=QF (ax a) (ax b) (A+B) 64 (by omega) (by omega);have a7:(iP (ax a) (ax b) (A+B) 64).2.n=mK a A b B:=rfl;generalize iP (ax a) (ax b) (A+B) 64=R at *;rw[<-a7]at G;refine bw.draw (hn:=[]) (by kernel_rfl) (by kernel_rfl) ?_;rw[j];simp -implicitDefEqProofs (maxSteps:=2000000) [g0,g1,g2,g3,g4,g5];refine uX c1 ?_;simp -implicitDefEqProofs (maxSteps:=2000000) [g0,g1,g2,g3,g4,g5];refine uX c2 ?_;simp -implicitDefEqProofs (maxSteps:=2000000) [g0,g1,g2,g3,g4,g5,hw];refine uX c3 ?_;simp -implicitDefEqProofs (maxSteps:=2000000) [g0,g1,g2,g3,g4,g5,hw];refine⟨by kernel_rfl,?_⟩;have cu:=FI R.2.n;refine bw.seq ?_
     cases O:aI R.2.n with
     |false=>
      rw[O]at cu
      have hL:n2+6=E.xs.length:=by
       rw[G,O,ZB,Zq,Zq,Zq,S];simp only[Y9,Zk,yAE,yAW];omega
      refine GV (so g0 g1 g2 g3 g4 g5) ?_;show bw E C _ _ _ _ _;refine bw.walk ?_;refine GV (so g0 g1 g2 g3 g4 g5) ?_
      all_goals exact hL
     |true=>
      rw[O]at cu
      have hL:n2+6+1=E.xs.length:=by
       rw[G,O,ZB,Zq,Zq,Zq,S];simp only[Zp,yAE,yAW];omega
      have hi:E.xs[n2+6]?=some (al R.2.n):=by
       rw[G,O,<-ar,<-S,Y7,Zc (by omega),Zc (by omega),show(g.filter aI).length+ml.length+6-(g.filter aI).length-ml.length=6 by omega,Zc (by decide)];rfl
      refine GV (so g0 g1 g2 g3 g4 g5) ?_;show bw E C _ _ _ _ _;refine bw.cond (m:=81) (b:=true) (by simp) (λ_=>?_) (λh=>by cases h);refine bw.yield (hn:=[]) (d:=85) (f:=82) (x:=84) (pre:=[_,_,_]) (post:=[]) rfl (by kernel_rfl) rfl rfl rfl rfl (by rw[j];decide) ?_;rw[j];simp -implicitDefEqProofs (maxSteps:=2000000) [g0,g1,g2,g3,g4,g5,cy];exact⟨rfl,hi,by omega,hL⟩
    |_=>exact h.elim
   |_=>exact h.elim
  |_=>exact h.elim
 |_=>exact h.elim
set_option maxRecDepth 100000 in
theorem Iy:BW prog 208:=by
 refine⟨by kernel_rfl,λn args w=>?_⟩;refine callsDIn_of_wpSIn func208 rfl trivial λe g f=>?_;apply wpSIn_seq;apply wpSIn_region
 have a:∀k,k<f208.ntmps->k<args.size+(f208.ntmps-args.size):=by intro k h;omega
 rw[ntmps208]at a;have b:=a 0 (by decide);have h1:=a 1 (by decide);have c:=a 2 (by decide);have d:=a 3 (by decide);simp[wpOpsSIn,go_sem,recoverD,f,ntmps208,Exit.thenS,b,h1,c,d];refine wpSIn_cond (t:=false) (by simp[Act.eval,b,h1,c,d]) ?_;simp only[Y9,Zk];refine wpSIn_of_wpIn rfl (wpIn_skip ?_);cases e
 simp_all[bodyPostS,results,results208]
def j9(a:List aq)(d:Int)(b:List aq)(e:Int)(c:List Vc):Vc×Bool:=match(mM a d b e c).find? (λn=>iU n a d b e)with
 |some n=>(n,true)
 |none=>((0,0,0),false)
theorem J9{l:List α}(h:∀j x,j<l.length->l[j]?=some x->p x=false):l.find? p=none:=by
 rw[yAh];intro x b;obtain⟨j,a,rfl⟩:=yAq.1 b;rw[h j _ a (an a)];simp
theorem xp{α:Type}{p:α->Bool}:∀{l:List α}{i:Nat}{v:α},l[i]?=some v->p v=true->(∀j x,j<i->l[j]?=some x->p x=false)->l.find? p=some v
 |[],i,v,h,_,_=>by simp at h
 |y::l,0,v,h,hp,_=>by simp at h;subst h;simp[hp]
 |y::l,i+1,v,h,hp,hq=>by
  have a:=hq 0 y (by omega) rfl;rw[List.find?_cons,a];exact xp (by simpa using h) hp λj x c b=>hq (j+1) x (by omega) (by simpa using b)
abbrev Iz:List Nat:=[5,6,7,8,10,11]
abbrev Sx(a:List aq)(c:Int)(b:List aq)(d:Int):Nat->List PV:=λk=>if k=5 then[aE a]else if k=6 then[Z c]else if k=7 then[aE b]else if k=8 then[Z d]else if k=10 then[Z 0,Z 0,Z 0]else[B false]
structure FindI(a:List aq)(ra:Int)(b:List aq)(rb:Int)(n:Vc)(k:Bool)(h:Hp):Prop where
 h5:h 5=some (.box [.pv (aE a)] false false)
 h6:h 6=some (.box [.pv (Z ra)] false false)
 h7:h 7=some (.box [.pv (aE b)] false false)
 h8:h 8=some (.box [.pv (Z rb)] false false)
 h10:h 10=some (.box [.pv (Z n.1),.pv (Z n.2.1),.pv (Z n.2.2)] false false)
 h11:h 11=some (.box [.pv (B k)] false false)
theorem FindI.all{k:Bool}{h:Hp}(H:FindI a ra b rb n k h){j:Nat}(c:j∈Iz):∃d,h j=some (.box d false false):=by
 simp only[Zx,ZD,Z4]at c;rcases c with rfl|rfl|rfl|rfl|rfl|rfl
 .exact⟨_,H.h5⟩
 .exact⟨_,H.h6⟩
 .exact⟨_,H.h7⟩
 .exact⟨_,H.h8⟩
 .exact⟨_,H.h10⟩
 .exact⟨_,H.h11⟩
def NF(a:List aq)(d:Int)(b:List aq)(e:Int)(c:List Vc)(i:Nat):Prop:=∀j x,j<i->c[j]?=some x->iU x a d b e=false
def Sy(a:List aq)(c:Int)(b:List aq)(d:Int)(e:List Vc)(i:Nat)(h:Hp):Prop:=∃n,e[i]?=some n/\iU n a c b d=true/\FindI a c b d n true h/\NF a c b d e i
set_option maxRecDepth 100000 in
theorem UW(a:List aq)(q:Int)(b:List aq)(r:Int)(c:List Vc)(W:a.length<=9223372036854775807)(X:b.length<=9223372036854775807)(hl:c.length<=9223372036854775807):aW prog 168 [.pv (aE a),.pv (Z q),.pv (aE b),.pv (Z r),.pv (aw c)] [] [] (.pv (.tup [al (j9 a q b r c).1,B (j9 a q b r c).2])):=by
 have F:j9 a q b r c=match(mM a q b r c).find? (λn=>iU n a q b r)with
  |some n=>(n,true)
  |none=>((0,0,0),false):=rfl
 have S:=UV a q b r c W X hl;generalize mM a q b r c=L at *;refine N9 (args:=[aE a,Z q,aE b,Z r,aw c]) func168 rfl (by kernel_rfl) (by simp[f168]) ?_;intro C hP hN H;simp only[f168]at hN|-;have hF:=iw;refine rJ.seq H ?_;refine GV trivial ?_;refine rJ.defer (pre:=[_]) (hn:=[]) (g:=208) rfl (λo ho c' R=>by simp at ho;subst ho;cases R) rfl rfl rfl rfl rfl (by rw[hP];exact Iy) ?_;simp -implicitDefEqProofs [hP,hN];refine rJ.rangeS (kd:=[12]) H (gf:=239) (caps:=sc a q b r c) (xs:=L.map al) (by rw[hP];exact S) (by rw[hN];decide) (ks:=Iz) (hin:=Sx a q b r) (t:=λm=>if m∈Iz then .ptr m 0 else .undef) ?_ (λi h=>FindI a q b r (0,0,0) false h/\h 12=none/\NF a q b r L i) (λi h=>Sy a q b r L i h) ?_ ?_ ?_ ?_ (by kernel_rfl) (hn:=[]) ?_ ?_
 .skip
  have q1:=UU a q b r c;refine GV trivial ?_;refine⟨⟨rfl,rfl,rfl,rfl,rfl,rfl⟩,λm=>?_⟩;by_cases Y:m=5\/m=6\/m=7\/m=8\/m=10\/m=11
  .rcases Y with rfl|rfl|rfl|rfl|rfl|rfl<;>simp
  .simp only[Y6 Y];simp
   omega
 .refine⟨by constructor<;>rfl,rfl,λj x hj=>by omega⟩
 .rintro i h k T ⟨hi,_⟩
  exact hi.all T
 .rintro i h k T ⟨n,_,_,hi,_⟩
  exact hi.all T
 .intro C1 C2 l i x h P N Q O K ⟨hI,p,hq⟩
  rw[Y7,II]at K;obtain⟨v,K,rfl⟩:=K;have hF:=Ig l;have J:=hP;have I:=hN;clear hP hN;have hP:=P.trans J;have hN:=N.trans I;have u:=Q.trans J;have s:=O.trans I;obtain⟨y,z,A,D,d,f⟩:=hI;have M:=V7 v a q b r W X
  cases G:iU v a q b r with
  |true=>
   rw[G]at M
   repeat' (first
    |with_reducible refine bh.seq ?_
    |(with_reducible ((first|refine bh.region hF (hn:=[]) (by kernel_rfl) ?_|refine rI (M) ?_|refine bh.cond' ?_);simp -implicitDefEqProofs (maxSteps:=2000000) [hP,hN,u,s,mz,y,z,A,D,d,f,p]))
    |(with_reducible refine mU (by simp[u,s,mz,y,z,A,D,d,f,p]) (λhgd=>?_) (λhgd=>?_)<;>first|(exfalso;simp at hgd;done)|(exfalso;simp at hgd;omega)|simp -implicitDefEqProofs (maxSteps:=2000000) [hP,hN,u,s,mz,y,z,A,D,d,f,p])
    |with_reducible refine jV ?_ ?_
    |(with_reducible refine jF (λhcd=>?_) (λhcd=>?_)<;>(try (exfalso;clear hP hN;simp_all;done))<;>(try (exfalso;simp at *;omega)))
    |with_reducible refine bh.block ?_
    |(with_reducible ((first|refine bh.skip ?_|refine bh.exit ?_|refine bh.ret ?_);simp[u,s,mz,y,z,A,D,d,f,p])))
   exact⟨v,K,G,by constructor<;>simp[y,z,A,D,d,f],hq⟩
  |false=>
   rw[G]at M
   repeat' (first
    |with_reducible refine bh.seq ?_
    |(with_reducible ((first|refine bh.region hF (hn:=[]) (by kernel_rfl) ?_|refine rI (M) ?_|refine bh.cond' ?_);simp -implicitDefEqProofs (maxSteps:=2000000) [hP,hN,u,s,mz,y,z,A,D,d,f,p]))
    |(with_reducible refine mU (by simp[u,s,mz,y,z,A,D,d,f,p]) (λhgd=>?_) (λhgd=>?_)<;>first|(exfalso;simp at hgd;done)|(exfalso;simp at hgd;omega)|simp -implicitDefEqProofs (maxSteps:=2000000) [hP,hN,u,s,mz,y,z,A,D,d,f,p])
    |with_reducible refine jV ?_ ?_
    |(with_reducible refine jF (λhcd=>?_) (λhcd=>?_)<;>(try (exfalso;clear hP hN;simp_all;done))<;>(try (exfalso;simp at *;omega)))
    |with_reducible refine bh.block ?_
    |(with_reducible ((first|refine bh.skip ?_|refine bh.exit ?_|refine bh.ret ?_);simp[u,s,mz,y,z,A,D,d,f,p])))
   refine⟨by constructor<;>simp[St.kill,fx,dK,y,z,A,D,d,f],by simp[St.kill],λj x hj E=>?_⟩;by_cases e:j=i
   .subst e;rw[K]at E;injection E with E;subst E;exact G
   .exact hq j x (by omega) E
 .rintro h ⟨⟨y,z,A,D,d,f⟩,p,hq⟩
  rw[ZB]at hq;have hn:L.find? (λn=>iU n a q b r)=none:=J9 hq;rw[hn]at F;rw[F];simp -implicitDefEqProofs [hP,hN,y,z,A,D,d,f]
 .rintro i h hi ⟨n,U,V,⟨y,z,A,D,d,f⟩,hq⟩
  rw[xp U V hq]at F;rw[F];simp -implicitDefEqProofs [hP,hN,y,z,A,D,d,f]
abbrev IA(SH:List Sh)(PR:List (Nat×Nat))(PT:List (List aq)):PV:=.agg [.sl (SH.map aZ),.sl (PR.map qX),.sl (PT.map aE)]
abbrev Sz(a b:List aq)(c d:Int):PV:=.agg [aE a,aE b,Z c,Z d]
def da(PT:List (List aq))(i:Nat):List aq:=(PT[i]?).getD []
def bV(SH:List Sh)(i:Nat):Int:=((SH[i]?).map Sh.rad).getD 0
structure BdOk(SH:List Sh)(PR:List (Nat×Nat))(PT:List (List aq)):Prop where
 len:PT.length=SH.length
 prs:∀p∈PR,p.1<SH.length/\p.2<SH.length
 n5:SH.length<=24
 few:PR.length<=576
 pts:∀l∈PT,l.length<=8
theorem UX(SH:List Sh)(PR:List (Nat×Nat))(PT:List (List aq))(l:BdOk SH PR PT)(k:Nat)(p:Nat×Nat)(hp:PR[k]?=some p):aF 167 (IA SH PR PT) (Z k) (Sz (da PT p.1) (da PT p.2) (bV SH p.1) (bV SH p.2)):=by
 obtain⟨r,e⟩:=th.1 hp;obtain⟨i,j⟩:=p;have hpr:=l.prs _ (An hp);simp only at hpr;have G:=l.len;have z:∀h,PR[k]'h=(i,j):=λ_=>e
 have D:i<PT.length:=by omega
 have E:j<PT.length:=by omega
 obtain⟨a,d⟩:∃x,PT[i]?=some x:=⟨_,an D⟩;obtain⟨b,c⟩:∃x,PT[j]?=some x:=⟨_,an E⟩;obtain⟨u,f⟩:∃x,SH[i]?=some x:=⟨_,an hpr.1⟩;obtain⟨v,g⟩:∃x,SH[j]?=some x:=⟨_,an hpr.2⟩
 have s:∀h,PT[i]'h=a:=λh=>by rw[an h]at d;exact ZQ d
 have y:∀h,PT[j]'h=b:=λh=>by rw[an h]at c;exact ZQ c
 have A:∀h,SH[i]'h=u:=λh=>by rw[an h]at f;exact ZQ f
 have B:∀h,SH[j]'h=v:=λh=>by rw[an h]at g;exact ZQ g
 have m:da PT i=a:=by simp[da,d]
 have n:da PT j=b:=by simp[da,c]
 have o:bV SH i=u.rad:=by simp[bV,f]
 have q:bV SH j=v.rad:=by simp[bV,g]
 rw[m,n,o,q];obtain⟨h1,F⟩:=hpr;refine Dp func167 λC hP hN=>?_;exact Gy
def ft(s:Sce)(bx:List Iv):Bool:=decide (ao s=0)&&jN s.js bx
theorem IB{p:Nat×Nat}(h:p∈bY s):p.1<p.2/\p.2<s.shs.length/\fK s p.1 p.2=true:=by
 have b:∀i k,k<=s.shs.length->p∈ky s i k->p.1<p.2/\p.2<s.shs.length/\fK s p.1 p.2=true:=by
  intro i k
  induction k with
  |zero=>intro _ h;cases h
  |succ k ih=>
   intro c h;rw[ky,Zm]at h;rcases h with h|h
   .exact ih (by omega) h
   .split at h
    .rename_i a
     rw[ZG]at h;subst h;exact⟨a.1,by omega,a.2⟩
    .cases h
 have hN:∀i,p∈jf s i->p.1<p.2/\p.2<s.shs.length/\fK s p.1 p.2=true:=by
  intro i
  induction i with
  |zero=>intro h;cases h
  |succ i ih=>
   intro h;rw[jf,Zm]at h;rcases h with h|h
   .exact ih h
   .exact b i _ (Zf _) h
 unfold bY at h;split at h
 .exact hN _ h
 .cases h
theorem IC(h:ft s bx=true):BdOk s.shs (bY s) (eP s bx):=by
 simp only[ft,up,Is]at h;obtain⟨f,g,i,a,j,d,k⟩:=nq h.1;have b:=yI s s.shs.length;have e:s.shs.length*s.shs.length<=24*24:=yAp a a;refine⟨by simp[eP],λp hp=>?_,a,?_,λl b=>?_⟩
 .have:=IB hp;omega
 .unfold bY;rw[Zd h.1];omega
 .obtain⟨x,c,rfl⟩:=Zv.1 b
  have:=(d x c).2;simp only[fJ,up,Is]at this;simp only[dD,ZB];omega
def NG(bx:List Iv)(i:Nat):Prop:=∀k x,k<i->bx[k]?=some x->vI x=true
theorem UY(s:Sce)(bx:List Iv)(hs:ScL s)(y:bx.length<=9223372036854775807):aF 166 (aN s) (iv bx) (.tup (if ft s bx then[IA s.shs (bY s) (eP s bx),B true]else[IA [] [] [],B false])):=by
 have hd:ft s bx=(decide (ao s=0)&&(decide (bx.length=s.js.length)&&bx.all vI)):=rfl;have J:=Ht s hs;have I:=hs.js;by_cases d:ao s=0
 case neg=>
  have n:(ao s !=0)=true:=by simp[d]
  rw[Z9 d,ZI]at hd;rw[hd];refine Dp func166 λC hP hN=>?_;exact Gy
 have n:(ao s !=0)=false:=by simp[d]
 by_cases h1:bx.length=s.js.length
 case neg=>
  have o:((bx.length:Int)!=(s.js.length:Int))=true:=by simp;omega
  have G:¬(bx.length:Int)=(s.js.length:Int):=by omega
  rw[Z9 h1,ZI,yAr]at hd;rw[hd];refine Dp func166 λC hP hN=>?_;exact Gy
 have o:((bx.length:Int)!=(s.js.length:Int))=false:=by simp[h1]
 have H:jN s.js bx=bx.all vI:=by
  show(decide (bx.length=s.js.length)&&bx.all vI)=_;rw[ZH h1,Zu]
 rw[ZH d,ZH h1,Zu,Zu]at hd;rw[hd];have g:=VL s bx hs d;rw[H]at g;have cR:=VG s hs;generalize eP s bx=PT at *;generalize bY s=PR at *;refine Dp func166 λC hP hN=>?_;refine Gz ?_;refine WP.loopN [7] bx.length (λi st=>st.t 1=.pv (iv bx)/\st.t 2=.ptr 2 0/\st.h 2=some (.box [.pv (.sl (s.js.map aO)),.pv (.sl (s.ms.map aX)),.pv (.sl (s.shs.map aZ)),.pv (.sl (s.sks.map aJ))] true false)/\st.t 4=.ptr 4 0/\st.h 4=some (.box [.pv (.val (.slice none 0 0)),.pv (.val (.slice none 0 0)),.pv (.val (.slice none 0 0))] true false)/\st.t 21=.pv (iv bx)/\st.t 22=.pv (Z bx.length)/\st.t 23=.pv (Z i)/\st.h 7=none/\NG bx i) ?_ ?_
 .simp[h1]
  exact λk x K=>by omega
 rintro i st hi ⟨g1,g2,q,g4,r,j,l,m,u,hq⟩;by_cases b:i<bx.length
 .have D:=ab b y
  generalize f:bx[i]=v at *
  have E:bx[i]?=some v:=by rw[an b,f]
  have F:=jY v.1 v.2;have jg:vI v=aS v.1 v.2:=rfl;have A:=mY (p:=vI) E hq
  cases c:aS v.1 v.2 with
  |true=>
   rw[c]at F;have e:NG bx (i+1):=A c;refine GT (zAd g1 g2 q g4 r j l m u b E (gA f D)) ?_
   all_goals exact e
  |false=>
   rw[c]at F
   have a:bx.all vI=false:=by
    cases h:bx.all vI with
    |false=>rfl
    |true=>rw[L4]at h;have:=h v (An E);rw[jg,c]at this;cases this
   rw[a];exact Gy
 .have z:i=bx.length:=by omega
  subst z;have a:bx.all vI=true:=pD hq b;have g:=g a;rw[a];exact Gy
def LN(SH:List Sh)(PT:List (List aq))(n:Vc)(p:Nat×Nat):Bool:=iU n (da PT p.1) (bV SH p.1) (da PT p.2) (bV SH p.2)
def SB(SH:List Sh)(PR:List (Nat×Nat))(PT:List (List aq))(ns:List Vc)(i:Nat):Prop:=∀k n p,k<i->ns[k]?=some n->PR[k]?=some p->LN SH PT n p=true
def yD(SH:List Sh)(PR:List (Nat×Nat))(PT:List (List aq))(ns:List Vc):Bool:=decide (ns.length=PR.length)&&(ns.zip PR).all λx=>LN SH PT x.1 x.2
theorem Ka(b:ns.length=PR.length)(h:SB SH PR PT ns ns.length):yD SH PR PT ns=true:=by
 simp only[yD,up,Is,L4];refine⟨b,λx c=>?_⟩;obtain⟨k,a,rfl⟩:=yAq.1 c;rw[List.length_zip]at a;rw[List.getElem_zip];exact h k _ _ (by omega) (an (by omega)) (an (by omega))
def sd(SH:List Sh)(PT:List (List aq))(x y:List Int)(p:Nat×Nat):Bool:=ow x y (da PT p.1) (bV SH p.1) (da PT p.2) (bV SH p.2)&&decide (0<=kW x y (da PT p.1) (bV SH p.1) (da PT p.2) (bV SH p.2))
structure Wit where
 pair:Int
 a:List Int
 b:List Int
abbrev SC(w:Wit):PV:=.agg [Z w.pair,zs w.a,zs w.b]
def LO(SH:List Sh)(PR:List (Nat×Nat))(PT:List (List aq))(w:Wit):Bool:=decide (0<=w.pair)&&match PR[w.pair.toNat]? with
 |some p=>sd SH PT w.a w.b p
 |none=>false
set_option maxRecDepth 100000 in
@[simp] theorem UZ:gR prog 165:=by
 have hf:=func165;have nt:=ntmps165;have rs:=results165;exact PW
@[simp] theorem YU:tX prog 258=true:=by kernel_rfl
@[simp] theorem YV:tX prog 256=true:=by kernel_rfl
structure Vd where
 kind:Int
 ns:List Vc
 w:Wit
abbrev DU(v:Vd):PV:=.agg [Z v.kind,aw v.ns,Z v.w.pair,zs v.w.a,zs v.w.b]
abbrev SD(ns:List Vc):PV:=.ifc 258 (.agg [aw ns])
abbrev SE(w:Wit):PV:=.ifc 256 (SC w)
theorem vS(ns:List Vc):aR 172 (SD ns) (DU ⟨1,ns,⟨0,[],[]⟩⟩):=by
 refine Dp func172 λC hP hN=>?_;exact Gy
theorem vC(w:Wit):aR 172 (SE w) (DU ⟨2,[],w⟩):=by
 refine Dp func172 λC hP hN=>?_;exact Gy
def se(s:Sce)(bx:List Iv)(ns:List Vc):Bool:=ft s bx&&yD s.shs (bY s) (eP s bx) ns
def Fr(s:Sce)(bx:List Iv)(w:Wit):Bool:=ft s bx&&LO s.shs (bY s) (eP s bx) w
def jL(a:List Vc)(k:Nat):List Vc:=(a.drop k).take 1
def qG(SH:List Sh)(PT:List (List aq))(a:List Vc)(k:Nat)(p:Nat×Nat):Vc×Bool:=j9 (da PT p.1) (bV SH p.1) (da PT p.2) (bV SH p.2) (jL a k)
def qB(SH:List Sh)(PT:List (List aq))(p:Nat×Nat):Int×NSt:=iP (ax (da PT p.1)) (ax (da PT p.2)) (bV SH p.1+bV SH p.2) 64
def dg(SH:List Sh)(PR:List (Nat×Nat))(PT:List (List aq))(a:List Vc):List Vc:=PR.mapIdx λk p=>(qG SH PT a k p).1
def iI(SH:List Sh)(PR:List (Nat×Nat))(PT:List (List aq))(a:List Vc):Nat->Nat->Bool->Vd
 |0,_,b=>if b then⟨1,dg SH PR PT a,⟨0,[],[]⟩⟩else⟨0,dg SH PR PT a,⟨0,[],[]⟩⟩
 |f+1,k,b=>match PR[k]? with
  |some p=>if(qG SH PT a k p).2=true then iI SH PR PT a f (k+1) b
   else if sd SH PT (qB SH PT p).2.w (qB SH PT p).2.v p=true then⟨2,[],⟨k,(qB SH PT p).2.w,(qB SH PT p).2.v⟩⟩
   else iI SH PR PT a f (k+1) false
  |none=>if b then⟨1,dg SH PR PT a,⟨0,[],[]⟩⟩else⟨0,dg SH PR PT a,⟨0,[],[]⟩⟩
def cK(s:Sce)(bx:List Iv)(a:List Vc):Vd:=if ft s bx then iI s.shs (bY s) (eP s bx) a (bY s).length 0 true else⟨0,[],⟨0,[],[]⟩⟩
theorem Hn(h:ft s bx=true)(i:Nat):0<=bV s.shs i/\bV s.shs i<=1048576:=by
 simp only[ft,up,Is]at h;obtain⟨_,_,_,_,_,b,_⟩:=nq h.1;unfold bV
 cases a:s.shs[i]? with
 |none=>simp
 |some u=>
  have:=(b u (An a)).2;simp only[fJ,up,Is]at this;simp only[ZS,Zn];omega
theorem oC{l:List aq}(h:l.length<=8):(ax l).length<=8:=by unfold ax;split<;>simp<;>omega
theorem vt(a:BdOk SH PR PT)(i:Nat):(da PT i).length<=8:=by
 unfold da
 cases h:PT[i]? with
 |none=>simp
 |some l=>exact a.pts l (An h)
theorem OG{h:List Vc}(hf:(j9 a ra b rb h).2=false):(j9 a ra b rb h).1=(0,0,0):=by
 unfold j9 at hf|-;split
 .rename_i n e;rw[e]at hf;cases hf
 .rfl
theorem xq(a b:List Vc)(rho st:Int):(iP a b rho st).2.w.length<=8/\(iP a b rho st).2.v.length<=8:=by
 unfold iP;split
 .rename_i h
  simp only[qW,up]at h;have c:=jo.1 h.1.1.1;have d:=jo.1 h.1.1.2;have:=vp (rho:=rho) (steps:=st.toNat) h.1.1.1 h.1.1.2 (st.toNat+1) (tl a b) (Fq c.1 d.1);rw[this.wl,this.vl];exact⟨c.2.1,d.2.1⟩
 .simp
theorem Ch(l:List Vc):(l.map al).all (pV 3)=true:=by
 rw[L4];intro x a;obtain⟨v,_,rfl⟩:=Zv.1 a;rfl
theorem Fs(a:List Vc)(i:Nat)(z:Option Value)(e n:Nat)(y:Option Value):iW {size:=n,zero:=z,kind:=TK.slice e 3 24 y} (.pv (aw a)) (some (.pv (.val (.int .i64 (if a.length<i then(a.length:Int)else(i:Int)))))) (some (.pv (.val (.int .i64 (min ((i:Int)+1) (a.length:Int))))))=some (.pv (aw (jL a i))):=by
 have h1:0<=(if a.length<i then(a.length:Int)else(i:Int)):=by split<;>omega
 have b:0<=min ((i:Int)+1) (a.length:Int):=by omega
 have c:(if a.length<i then(a.length:Int)else(i:Int)).toNat=min i a.length:=by split<;>omega
 have d:(min ((i:Int)+1) (a.length:Int)).toNat=min (i+1) a.length:=by omega
 simp only[iW,Zd h1,Zd b,c,d,ZB];rw[Zd ⟨by omega,by omega,by decide,Ch a⟩]
 congr 3
 rw[<-List.map_take,<-List.map_drop]
 congr 1
 unfold jL;by_cases h:i<a.length
 .rw[show min i a.length=i by omega,show min (i+1) a.length=i+1 by omega,List.drop_take,show i+1-i=1 by omega]
 .rw[show min i a.length=a.length by omega,show min (i+1) a.length=a.length by omega,yAS,List.drop_length,yA6 (by omega)];rfl
theorem U0(s:Sce)(bx:List Iv)(a:List Vc)(hs:ScL s)(ak:bx.length<=9223372036854775807)(hh:a.length<=9223372036854775807):gu 122 (aN s) (iv bx) (aw a) (DU (cK s bx a)):=by
 have cp:=UY s bx hs ak
 have hd:cK s bx a=if ft s bx then iI s.shs (bY s) (eP s bx) a (bY s).length 0 true else⟨0,[],⟨0,[],[]⟩⟩:=rfl
 cases hp:ft s bx with
 |false=>
  rw[hp]at cp hd;simp only[Y9,Zk]at hd;rw[hd];refine Dp func122 λC hP hN=>?_;exact Gy
 |true=>
 rw[hp]at cp hd;simp only[Zp]at hd;have V:=IC hp;have Q:=Hn hp;rw[hd];generalize bY s=PR at *;generalize eP s bx=PT at *;generalize s.shs=SH at *;have b3:=V.few;generalize b:iI SH PR PT a PR.length 0 true=W at *;generalize m:(dg SH PR PT a).map al=J
 have M:J.length=PR.length:=by rw[<-m];simp[dg]
 have O:∀k p,PR[k]?=some p->J[k]?=some (al (qG SH PT a k p).1):=λk q K=>by rw[<-m,dg,Y7,List.getElem?_mapIdx,K];rfl
 refine Dp func122 λC hP hN=>?_;refine GT (gA (show(24:Int)*(PR.length:Int)<=281474976710656 by omega) (show(PR.length:Int)<=9223372036854775807 by omega)) ?_;refine WP.loopN [12,14,16] PR.length (λi st=>∃R:List PV,∃L:Bool,iI SH PR PT a (PR.length-i) i L=W/\st.t 2=.pv (aw a)/\st.t 6=.ptr 6 0/\st.h 6=some (.box [.pv (Z 0),.pv (.val (.slice none 0 0)),.pv (Z 0),.pv (.val (.slice none 0 0)),.pv (.val (.slice none 0 0))] true false)/\st.t 7=.ptr 7 0/\st.h 7=some (.box [.pv (.sl (SH.map aZ)),.pv (.sl (PR.map qX)),.pv (.sl (PT.map aE))] true false)/\st.t 9=.arr 30 PR.length/\st.t 10=.pv (B L)/\st.t 33=.pv (Z PR.length)/\st.t 34=.pv (Z i)/\st.h 12=none/\st.h 14=none/\st.h 16=none/\st.h 30=some (.row 60 3 R 0)/\R.length=PR.length/\(∀k,i<=k->k<PR.length->R[k]?=some (oa 0 0 0))/\∀k,k<i->R[k]?=J[k]?) ?_ ?_
 .refine⟨List.replicate PR.length (oa 0 0 0),true,b,?_⟩
  simp
  try (intro k K;first|exact K|simp[Zz,K])
 rintro i st hi ⟨R,L,b,g2,S,z,T,A,U,r,u,x,d,f,g,c,o,E,hR⟩;by_cases j:i<PR.length
 .have H:=ab j (by omega)
  obtain⟨p,hp⟩:∃p,PR[i]?=some p:=⟨_,an j⟩;have n:=E i (Zf _) j;have G:=qh n
  have a6:i<R.length:=by omega
  have cc:=UX SH PR PT V i p hp;have r1:=Q p.1;have r2:=Q p.2;have l1:=vt V p.1;have l2:=vt V p.2;have X:=UW (da PT p.1) (bV SH p.1) (da PT p.2) (bV SH p.2) (jL a i) (by omega) (by omega) (by simp[jL];omega);have ar:qG SH PT a i p=j9 (da PT p.1) (bV SH p.1) (da PT p.2) (bV SH p.2) (jL a i):=rfl;rw[<-ar]at X;rw[show PR.length-i=(PR.length-i-1)+1 by omega]at b;simp only[iI,hp]at b;have N:=O i p hp
  have k2:∀k,k<i+1->(R.set i (al (qG SH PT a i p).1))[k]?=J[k]?:=λk h1=>by
   rw[Zg];by_cases e:i=k
   .subst e;rw[Zd rfl,Zd a6,N]
   .rw[Y6 e];exact hR k (by omega)
  have k1:∀y k,i+1<=k->k<PR.length->(R.set i y)[k]?=some (oa 0 0 0):=λy k h1 h2=>by
   rw[Zg,Y6 (by omega)];exact E k (by omega) h2
  have I:(qG SH PT a i p).2=false->∀k,k<i+1->R[k]?=J[k]?:=λhf k h1=>by
   by_cases e:k=i
   .subst e;rw[n,N]
    have:(qG SH PT a k p).1=(0,0,0):=OG hf;rw[this]
   .exact hR k (by omega)
  have b2:∀k,i+1<=k->k<PR.length->R[k]?=some (oa 0 0 0):=λk h1 h2=>E k (by omega) h2;generalize qG SH PT a i p=F at *;clear O m M
  cases D:F.2 with
  |true=>
   rw[D]at X b;simp only[Zp]at b;refine GT (zAe g2 S z T A U r u x d f g c o (it j H n G @Fs)) ?_;rw[show PR.length-i-1=PR.length-(i+1) by omega]at b;refine⟨R.set i (al F.1),?_⟩;cases L
   .exact .inl ⟨b,rfl,rfl,by simp[o],k1 _,k2⟩
   .exact .inr ⟨b,rfl,rfl,by simp[o],k1 _,k2⟩
  |false=>
   rw[D]at X b;simp only[Y9,Zk]at b;have I:=I D;have c1:=Cn (da PT p.1) (by omega);have c2:=Cn (da PT p.2) (by omega);have z1:=oC l1;have z2:=oC l2;have c3:=QF (ax (da PT p.1)) (ax (da PT p.2)) (bV SH p.1+bV SH p.2) 64 (by omega) (by omega);have ah:qB SH PT p=iP (ax (da PT p.1)) (ax (da PT p.2)) (bV SH p.1+bV SH p.2) 64:=rfl;have a8:=xq (ax (da PT p.1)) (ax (da PT p.2)) (bV SH p.1+bV SH p.2) 64;rw[<-ah]at c3 a8;have hw:i64.wrap (bV SH p.1+bV SH p.2)=bV SH p.1+bV SH p.2:=aa;generalize qB SH PT p=l at *;have Y:=UL l.2.w l.2.v (da PT p.1) (bV SH p.1) (da PT p.2) (bV SH p.2) (by omega) (by omega) (by omega) (by omega);have bq:sd SH PT l.2.w l.2.v p=(ow l.2.w l.2.v (da PT p.1) (bV SH p.1) (da PT p.2) (bV SH p.2)&&decide (0<=kW l.2.w l.2.v (da PT p.1) (bV SH p.1) (da PT p.2) (bV SH p.2))):=rfl;rw[<-bq]at Y
   cases P:sd SH PT l.2.w l.2.v p with
   |true=>
    rw[P]at Y b;simp only[Zp]at b;subst b;have cv:=vC ⟨i,l.2.w,l.2.v⟩;exact GS (zAe g2 S z T A U r u x d f g c o (so j H n G @Fs hw))
   |false=>
    rw[P]at Y b;simp only[Y9,Zk]at b;rw[show PR.length-i-1=PR.length-(i+1) by omega]at b;refine GT (zAe g2 S z T A U r u x d f g c o (so j H n G @Fs hw)) ?_;exact⟨b,b2,I⟩
 .have a7:i=PR.length:=by omega
  subst a7
  have aj:R=J:=by
   apply ZM;intro k;by_cases K:k<PR.length
   .exact hR k K
   .rw[Zh (by omega),Zh (by omega)]
  subst aj;rw[yAR]at b;simp only[iI]at b;have cv:=vS (dg SH PR PT a)
  have ad:(dg SH PR PT a).length=PR.length:=by simp[dg]
  cases L with
  |true=>
   simp only[Zp]at b;subst b;rw[<-m]at c;exact GS (zAe g2 S z T A U r u x d f g c M ad)
  |false=>
   simp only[Y9,Zk]at b;subst b;rw[<-m]at c;exact Gy
theorem ID(x:Int):0<=x*x:=by
 rcases yA7 0 x with h|h
 .exact Z8 h h
 .have:=Z8 (show 0<=-x by omega) (show 0<=-x by omega)
  rw[Int.neg_mul_neg]at this;exact this
def Ns(hi:Int)(i:Nat):J:=⟨bP i,4+(i:Int).tmod 2,(i:Int)-1,0,0,0,0,hi,1,65536,65536,65536⟩
def kj(hi:Int)(k:Nat):List J:=(List.range k).map (Ns hi)
theorem Lp(hi:Int)(k:Nat):(kj hi (k+1)).map aO=(kj hi k).map aO++[aO (Ns hi k)]:=by simp[kj,yAs]
theorem G6(hi:Int)(k:Nat):(kj hi k).length=k:=by simp[kj]
theorem Xo(n:Nat)(hi:Int)(y:0<n)(hn:n<=3):aF 24 (Z n) (Z hi) (eK (kj hi n) []):=by
 refine Dp func24 λC hP hN=>?_;refine Gz ?_
 refine WP.loopN [] n (λi st=>st.t 0=.pv (Z n)/\st.t 1=.pv (Z hi)/\st.t 4=.ptr 4 0/\st.h 4=some (.box [fY,fY] true false)/\st.t 5=.ptr 5 0/\st.t 6=.pv (Z i)/\
  ((i=0/\st.h 5=some (.box [fY,fY] true false)/\st.h 24=none)\/(0<i/\st.h 5=some (.box [.arr 24 i,fY] true false)/\st.h 24=some (.row 108 12 ((kj hi i).map aO) 0)))) (by simp) ?_
 rintro i st s ⟨g0,g1,g4,g,g5,m,f⟩;by_cases k:i<n
 .have x:i64.wrap ((i:Int)+1)=(i:Int)+1:=by rw[IntKind.wrap_i64];omega
  have e:(i:Int)<(n:Int):=by omega
  have r:=Lp hi i;have u:=Int.tmod_nonneg 2 (Int.natCast_nonneg i);have v:=yAI (i:Int) (b:=2) (by decide);have o:i64.wrap ((i:Int).tmod 2)=(i:Int).tmod 2:=aa;have p:i64.wrap (4+(i:Int).tmod 2)=4+(i:Int).tmod 2:=aa;have q:i64.wrap ((i:Int)-1)=(i:Int)-1:=aa;have l:=G6 hi i;rcases f with⟨c,d,a⟩|⟨c,d,a⟩
  .subst c
   have cl:=Tc 0 (by omega);rw[show((0:Nat):Int)=0 from rfl]at cl
   have z:i64.wrap 0=0:=by decide
   have A:i64.wrap 4=4:=by decide
   have B:i64.wrap (-1)=-1:=by decide
   have D:i64.wrap (0+1)=1:=by decide
   have E:i64.wrap (0-1)=-1:=by decide
   have F:Int.tmod 0 2=0:=by decide
   refine Gz ?_
   all_goals simp[kj,Ns]
  .have cl:=Tc i (by omega)
   refine GT (zAe g0 g1 g4 g g5 m d a k e x o p q (be l (show(i+1)*104<=140737488355328 by omega) (show i<=9223372036854775806 by omega))) ?_
   all_goals simp[r,Ns]
 .have j:i=n:=by omega
  subst j;rcases f with⟨c,_⟩|⟨c,d,a⟩
  .omega
  have l:=G6 hi i;exact Gy
def NH(v:Vc):Bool:=!(v.1==0&&v.2.1==0&&v.2.2==0)&&fk v.1 v.2.1 v.2.2 16384
theorem Ci(v:Vc):aR 191 (al v) (B (NH v)):=by
 have a:=wW v.1 v.2.1 v.2.2 16384 (by decide) (by decide);have hd:NH v=(!(v.1==0&&v.2.1==0&&v.2.2==0)&&fk v.1 v.2.1 v.2.2 16384):=rfl;rw[hd];generalize fk v.1 v.2.1 v.2.2 16384=b at *;refine Dp func191 λC hP hN=>?_;exact Gy
 all_goals (try (cases b<;>simp_all))
theorem uj:NH v=aI v:=by
 unfold NH aI nz;rw[Bool.and_comm];rfl
theorem zU{SH:List Sh}{PR:List (Nat×Nat)}{PT:List (List aq)}{c:List Vc}(hf:PR.length<=576):∀f k d,(iI SH PR PT c f k d).ns.length<=576/\(iI SH PR PT c f k d).w.a.length<=8/\(iI SH PR PT c f k d).w.b.length<=8
 |0,k,d=>by
  simp only[iI];split<;>simp[dg,hf]
 |f+1,k,d=>by
  simp only[iI];split
  .split
   .exact zU hf f _ _
   .split
    .exact⟨by simp,xq _ _ _ _⟩
    .exact zU hf f _ _
  .split<;>simp[dg,hf]
theorem zV(s:Sce)(bx:List Iv)(c:List Vc):(cK s bx c).ns.length<=576/\(cK s bx c).w.a.length<=8/\(cK s bx c).w.b.length<=8:=by
 unfold cK;split
 .rename_i h;exact zU (IC h).few _ _ _
 .simp
theorem V8(a b c d:Int):eG [a,b,c,d]=a-b+c-d:=by simp[eG,oD,mr];omega
theorem Q4(a b c d e:Int):eG [a,b,c,d,e]=a-b+c-d+e:=by simp[eG,oD,mr];omega
theorem V9(a b c d e f:Int):eG [a,b,c,d,e,f]=a-b+c-d+e-f:=by simp[eG,oD,mr];omega
theorem LP{h:List Vc}(hf:(j9 a ra b rb h).2=true):iU (j9 a ra b rb h).1 a ra b rb=true:=by
 unfold j9 at hf|-;split
 .rename_i n e;have:=yAJ e;exact this
 .rename_i e;rw[e]at hf;cases hf
theorem OK{w:Wit}:LO SH PR PT w=true↔∃p,0<=w.pair/\PR[w.pair.toNat]?=some p/\sd SH PT w.a w.b p=true:=by
 unfold LO
 cases h:PR[w.pair.toNat]? with
 |none=>simp
 |some p=>simp
section
variable {SH:List Sh} {PR:List (Nat×Nat)} {PT:List (List aq)} {hs:List Vc}
theorem Cq:∀f k a,k+f=PR.length->(∃(j:Nat)(p:Nat×Nat),PR[j]?=some p/\iI SH PR PT hs f k a=⟨2,[],⟨j,(qB SH PT p).2.w,(qB SH PT p).2.v⟩⟩/\sd SH PT (qB SH PT p).2.w (qB SH PT p).2.v p=true)\/(iI SH PR PT hs f k a=⟨1,dg SH PR PT hs,⟨0,[],[]⟩⟩/\a=true/\∀j p,k<=j->PR[j]?=some p->(qG SH PT hs j p).2=true)\/iI SH PR PT hs f k a=⟨0,dg SH PR PT hs,⟨0,[],[]⟩⟩
 |0,k,a,i=>by
  right
  cases a with
  |true=>
   left
   refine⟨rfl,rfl,λj p g hp=>?_⟩;have:=(th.1 hp).1;omega
  |false=>right;rfl
 |f+1,k,a,i=>by
  have hp:PR[k]?=some (PR[k]'(by omega)):=an _;simp only[iI,hp];split
  .rename_i hf
   rcases Cq f (k+1) a (by omega)with h|⟨h1,c,d⟩|h
   .exact .inl h
   .refine .inr (.inl ⟨h1,c,λj p g b=>?_⟩)
    by_cases e:j=k
    .subst e;rw[hp]at b;cases b;exact hf
    .exact d j p (by omega) b
   .exact .inr (.inr h)
  .split
   .rename_i l
    exact .inl ⟨k,_,hp,rfl,l⟩
   .rcases Cq f (k+1) false (by omega)with h|⟨h1,c,d⟩|h
    .exact .inl h
    .cases c
    .exact .inr (.inr h)
theorem GI{k:Nat}{p:Nat×Nat}(h:PR[k]?=some p):(dg SH PR PT hs)[k]?=some (qG SH PT hs k p).1:=by
 simp[dg,List.getElem?_mapIdx,h]
theorem zo:(dg SH PR PT hs).length=PR.length:=by simp[dg]
theorem OM{k:Nat}{p:Nat×Nat}(h:(qG SH PT hs k p).2=true):LN SH PT (qG SH PT hs k p).1 p=true:=LP h
theorem Kh(h:∀j p,PR[j]?=some p->(qG SH PT hs j p).2=true):yD SH PR PT (dg SH PR PT hs)=true:=by
 refine Ka zo λk n p a hn hp=>?_;rw[GI hp]at hn;cases hn;exact OM (h k p hp)
end
theorem ON(s:Sce)(bx:List Iv)(hs:List Vc):(∃w,cK s bx hs=⟨2,[],w⟩/\Fr s bx w=true)\/(∃ns,cK s bx hs=⟨1,ns,⟨0,[],[]⟩⟩/\se s bx ns=true)\/(∃ns,cK s bx hs=⟨0,ns,⟨0,[],[]⟩⟩/\(ns.length=(bY s).length\/ft s bx=false)):=by
 unfold cK
 cases hp:ft s bx with
 |false=>exact .inr (.inr ⟨[],rfl,.inr rfl⟩)
 |true=>
  simp only[Zp];rcases Cq (SH:=s.shs) (PR:=bY s) (PT:=eP s bx) (hs:=hs) (bY s).length 0 true (by omega)with⟨j,p,h1,b,a⟩|⟨h1,_,a⟩|h
  .refine .inl ⟨_,b,?_⟩
   simp only[Fr,hp,Zu,OK];exact⟨p,by omega,by simpa using h1,a⟩
  .refine .inr (.inl ⟨_,h1,?_⟩)
   simp only[se,hp,Zu];exact Kh λj p hp=>a j p (by omega) hp
  .exact .inr (.inr ⟨_,h,.inl zo⟩)
def WT(D:Nat)(L:List (Int×Int)):Prop:=∀k:Int,0<=k->k<2^D->∃y∈L,0<=y.1/\y.1<=D/\0<=y.2/\y.2<2^y.1.toNat/\y.2*2^(D-y.1.toNat)<=k/\k+1<=(y.2+1)*2^(D-y.1.toNat)
abbrev Pc:=Int×Int×List Vc
structure EdR where
 kind:Int
 pcs:List Pc
 d:Int
 i:Int
 w:Wit
variable {out todo:List Pc}
def jj:EdR:=⟨0,[],0,0,⟨0,[],[]⟩⟩
def de(p q:List Int)(x:Pc):Bx:=(eT p q x.1 x.2.1).1
def qo(s:Sce)(p q:List Int)(D:Int):Nat->List Pc->List Pc->EdR
 |0,_,_=>jj
 |f+1,todo,out=>match todo.getLast? with
  |none=>⟨1,out,0,0,⟨0,[],[]⟩⟩
  |some x=>if 4096<=out.length then⟨0,[],x.1,x.2.1,⟨0,[],[]⟩⟩else
   if(cK s (de p q x) x.2.2).kind=1 then qo s p q D f todo.dropLast (out++[(x.1,x.2.1,(cK s (de p q x) x.2.2).ns)])else
   if(cK s (de p q x) x.2.2).kind=2 then⟨2,[],x.1,x.2.1,(cK s (de p q x) x.2.2).w⟩else
   if x.1=D then⟨0,[],x.1,x.2.1,⟨0,[],[]⟩⟩else
   qo s p q D f (todo.dropLast++[(x.1+1,2*x.2.1+1,(cK s (de p q x) x.2.2).ns),(x.1+1,2*x.2.1,(cK s (de p q x) x.2.2).ns)]) out
def Je(s:Sce)(p q:List Int):Bool:=decide (ao s=0)&&aY s.js s.ms p&&aY s.js s.ms q
def oW(s:Sce)(p q:List Int)(D:Nat):EdR:=if Je s p q&&decide (D<=20)then qo s p q D (2^(D+1)) [(0,0,[])] []else jj
def oR(D:Nat)(x:Pc):Prop:=0<=x.1/\x.1<=D/\0<=x.2.1/\x.2.1<2^x.1.toNat/\x.2.2.length<=576
def DF(D:Nat)(x:Pc):Nat:=2^(D+1-x.1.toNat)-1
def kE(D:Nat)(l:List Pc):Nat:=(l.map (DF D)).sum
structure PrI(s:Sce)(p q:List Int)(D:Nat)(todo out:List Pc):Prop where
 t:∀x∈todo,oR D x
 o:∀x∈out,oR D x/\se s (de p q x) x.2.2=true
 cov:WT D ((todo++out).map λx=>(x.1,x.2.1))
theorem BD(D:Nat)(a b:List Pc):kE D (a++b)=kE D a+kE D b:=by simp[kE]
theorem Gk{x:Pc}(h:oR D x):1<=DF D x:=by
 unfold DF;obtain⟨a,h1,_⟩:=h;have:2^1<=2^(D+1-x.1.toNat):=Nat.pow_le_pow_right (by decide) (by omega);omega
theorem rh{l:List Pc}{x:Pc}(h:l.getLast?=some x):l=l.dropLast++[x]:=by
 obtain⟨a,b⟩:=List.getLast?_eq_some_iff.1 h;subst b;simp
theorem M3{d c:Int}(l:0<=d)(m:d<D)(a:c*2^(D-d.toNat)<=k)(b:k+1<=(c+1)*2^(D-d.toNat)):(2*c*2^(D-(d+1).toNat)<=k/\k+1<=(2*c+1)*2^(D-(d+1).toNat))\/((2*c+1)*2^(D-(d+1).toNat)<=k/\k+1<=(2*c+1+1)*2^(D-(d+1).toNat)):=by
 have e:D-d.toNat=(D-(d+1).toNat)+1:=by omega
 rw[e,Int.pow_succ]at a b;generalize(2:Int)^(D-(d+1).toNat)=P at *
 have f:c*(P*2)=2*c*P:=by rw[Int.mul_comm P 2,<-Int.mul_assoc,Int.mul_comm c 2]
 have g:(c+1)*(P*2)=2*c*P+2*P:=by rw[Int.add_mul,f];omega
 rw[f]at a;rw[g]at b
 have i:(2*c+1)*P=2*c*P+P:=by rw[Int.add_mul];omega
 have j:(2*c+1+1)*P=2*c*P+2*P:=by rw[Int.add_mul,i];omega
 omega
theorem PrI.keep{p q:List Int}{x:Pc}(h:PrI s p q D todo out)(i:todo.getLast?=some x)(hn:ns.length<=576)(hs:se s (de p q x) ns=true):PrI s p q D todo.dropLast (out++[(x.1,x.2.1,ns)]):=by
 have e:=rh i
 have g:x∈todo:=by rw[e];simp
 refine⟨λy f=>h.t y (by rw[e];simp[f]),λy f=>?_,λk j k1=>?_⟩
 .rcases Zm.1 f with f|f
  .exact h.o y f
  .simp at f;subst f
   obtain⟨a,b,c,d,_⟩:=h.t x g;exact⟨⟨a,b,c,d,hn⟩,hs⟩
 .obtain⟨y,f,r⟩:=h.cov k j k1
  refine⟨y,?_,r⟩;rw[e]at f;simp only[yAV,Zm,yAf,yBk,ZG]at f|-;rcases f with(f|f)|f
  .exact .inl f
  .exact .inr (.inr f)
  .exact .inr (.inl f)
theorem PrI.split{p q:List Int}{x:Pc}(h:PrI s p q D todo out)(z:todo.getLast?=some x)(hn:ns.length<=576)(hd:x.1≠D):PrI s p q D (todo.dropLast++[(x.1+1,2*x.2.1+1,ns),(x.1+1,2*x.2.1,ns)]) out:=by
 have e:=rh z
 have l:x∈todo:=by rw[e];simp
 obtain⟨a,b,c,d,_⟩:=h.t x l
 have hp:(2:Int)^(x.1+1).toNat=2*2^x.1.toNat:=by rw[show(x.1+1).toNat=x.1.toNat+1 by omega,Int.pow_succ];omega
 refine⟨λy f=>?_,h.o,λk A k1=>?_⟩
 .rcases Zm.1 f with f|f
  .exact h.t y (by rw[e];simp[f])
  .simp at f
   rcases f with rfl|rfl
   all_goals exact⟨by simp only;omega,by simp only;omega,by simp only;omega,by simp only;omega,hn⟩
 .obtain⟨y,f,g,m,n,r,i,j⟩:=h.cov k A k1
  rw[e]at f;simp only[yAV,Zm,yAf,yBk,ZG]at f;rcases f with(f|f)|f
  .exact⟨y,by simp only[yAV,Zm];exact .inl (.inl f),g,m,n,r,i,j⟩
  .subst f
   simp only at g m n r i j;rcases M3 g (by omega) i j with⟨u,v⟩|⟨u,v⟩
   .exact⟨(x.1+1,2*x.2.1),by simp,by simp only;omega,by simp only;omega,by simp only;omega,by simp only;omega,u,v⟩
   .exact⟨(x.1+1,2*x.2.1+1),by simp,by simp only;omega,by simp only;omega,by simp only;omega,by simp only;omega,u,v⟩
  .exact⟨y,by simp only[yAV,Zm];exact .inr f,g,m,n,r,i,j⟩
theorem PB{x:Pc}(a:todo.getLast?=some x)(h:oR D x):kE D todo.dropLast+1<=kE D todo:=by
 have e:=rh a;have:=Gk h;rw[e,BD];simp[kE];omega
theorem Gl{x:Pc}(f:todo.getLast?=some x)(h:oR D x)(hd:x.1≠D)(a b:Int)(ns c:List Vc):kE D (todo.dropLast++[(x.1+1,a,ns),(x.1+1,b,c)])+1<=kE D todo:=by
 have e:=rh f;obtain⟨g,h1,_⟩:=h
 have k:kE D todo=kE D todo.dropLast+DF D x:=by
  conv=>lhs;rw[e,BD]
  simp[kE]
 rw[k,BD]
 have d:D+1-x.1.toNat=(D+1-(x.1+1).toNat)+1:=by omega
 have hp:2^1<=2^(D+1-(x.1+1).toNat):=Nat.pow_le_pow_right (by decide) (by omega);simp only[kE,DF,yAf,yBk,List.sum_cons,List.sum_nil];rw[d,yBj];omega
theorem KX{b:Bx}{hs:List Vc}(h:(cK s b hs).kind=1):se s b (cK s b hs).ns=true:=by
 rcases ON s b hs with⟨w,h1,a⟩|⟨ns,h1,a⟩|⟨ns,h1,a⟩
 .rw[h1]at h;cases h
 .rw[h1];exact a
 .rw[h1]at h;cases h
theorem SX(s:Sce)(p q:List Int)(D:Nat):PrI s p q D [(0,0,[])] []:=by
 refine⟨λx a=>?_,λx a=>(by cases a),λk b k1=>⟨(0,0),by simp,by decide,by simp only;omega,by decide,by decide,by simpa using b,?_⟩⟩
 .simp at a;subst a
  exact⟨by decide,by simp only;omega,by decide,by decide,by simp⟩
 .simp;omega
end Go.Ab
