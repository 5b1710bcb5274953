/- The contracts and facts that the laws of this seat need, in one text (KR9, KR10, KR11, KR12, KR13, KR14, KR15, KR16, KR17, KR18, KR19, KR20, De1, De4, De5, Dc9, Dl1, Ru2, Or2). -/
import Derived.Test.YtdbgcnplnhmjgaaGreatW11
set_option linter.all false
set_option maxRecDepth 10000
set_option maxHeartbeats 16000000
namespace Go.Ab
open IntKind (i64)
open Go.Proofs.Tryz
open Go.Proofs
variable {PR:List (Nat×Nat)}{PT:List (List av)}{SH:List Sh}{hints:List Vc}{i k:Nat}{v:Vc}{w:Int}{ws:List Int}{α:Type}{l:List α}{p:α->Bool}
theorem Rn(n:Vc)(xs:List av)(y:xs.length<=9223372036854775807):aO 221 (ax n) (aH xs) (.tup (if aQ n&&az xs then[Z (gF n xs).1,Z (gF n xs).2,B true]else[Z 0,Z 0,B false])):=by
 have e:=As n;rw[tj]at e;have d:=vY xs y
 cases l:aQ n with
 |false=>
  rw[l]at e;cases hp:az xs<;>rw[hp]at d
  all_goals
   refine Dp func221 λC hP hN=>?_;exact Gy
 |true=>
 rw[l]at e
 cases hp:az xs with
 |false=>
  rw[hp]at d;refine Dp func221 λC hP hN=>?_;exact Gy
 |true=>
 rw[hp]at d;obtain⟨a,h8,_⟩:=bX hp;have hd:gF n xs=gZ (gD n) fa xs xs.length:=rfl;rw[hd];refine Dp func221 λC hP hN=>?_;refine Gz ?_;refine WP.loopN [] xs.length (λi st=>st.t 2=.ptr 2 0/\st.h 2=some (.box [.pv (Z n.1),.pv (Z n.2.1),.pv (Z n.2.2)] true false)/\st.t 1=.pv (aH xs)/\st.t 9=.pv (Z i)/\st.t 7=.pv (Z (gZ (gD n) fa xs i).1)/\st.t 8=.pv (Z (gZ (gD n) fa xs i).2)) (by simp[gZ]) ?_;rintro i st hi ⟨g2,x,g1,E,A,D⟩;by_cases b:i<xs.length
 .have F:=am b (by omega)
  have c:(i:Int)<(xs.length:Int):=by omega
  generalize m:xs[i]=v at *
  have s:xs[i]?=some v:=by rw[an b,m]
  have j:df v=true:=TY.1 a v (Is s);have z:bf prog 266 [.pv (ax n),.pv (bP v)] [] [] (.pv (.tup [Z (gD n v),Z (gE n v)])):=Ke l j;have k:=vV (val:=gD n) (bet:=fa) s;rw[k];by_cases p:i=0
  .subst p
   exact Gy
  .have u:((i:Int)==0)=false:=by simp;omega
   generalize hq:gZ (gD n) fa xs i=q at *;obtain⟨o,G⟩:=q;by_cases r:gD n v<o
   .have f:fa (gD n v) o=true:=by simp only[fa,L4];exact r
    simp only[f,or_true,Ui]at k|-;exact Gy
   .have f:fa (gD n v) o=false:=by simp only[fa,Uc];exact r
    simp only[f,p,T3,or_self,Ud]at k|-;exact Gy
 .have c:¬(i:Int)<(xs.length:Int):=by omega
  have g:i=xs.length:=by omega
  subst g;exact Gy
theorem Ro(n:Vc)(xs:List av)(y:xs.length<=9223372036854775807):aO 222 (ax n) (aH xs) (.tup (if aQ n&&az xs then[Z (gG n xs).1,Z (gG n xs).2,B true]else[Z 0,Z 0,B false])):=by
 have e:=As n;rw[tj]at e;have d:=vY xs y
 cases l:aQ n with
 |false=>
  rw[l]at e;cases hp:az xs<;>rw[hp]at d
  all_goals
   refine Dp func222 λC hP hN=>?_;exact Gy
 |true=>
 rw[l]at e
 cases hp:az xs with
 |false=>
  rw[hp]at d;refine Dp func222 λC hP hN=>?_;exact Gy
 |true=>
 rw[hp]at d;obtain⟨a,h8,_⟩:=bX hp;have hd:gG n xs=gZ (gE n) fc xs xs.length:=rfl;rw[hd];refine Dp func222 λC hP hN=>?_;refine Gz ?_;refine WP.loopN [] xs.length (λi st=>st.t 2=.ptr 2 0/\st.h 2=some (.box [.pv (Z n.1),.pv (Z n.2.1),.pv (Z n.2.2)] true false)/\st.t 1=.pv (aH xs)/\st.t 9=.pv (Z i)/\st.t 7=.pv (Z (gZ (gE n) fc xs i).1)/\st.t 8=.pv (Z (gZ (gE n) fc xs i).2)) (by simp[gZ]) ?_;rintro i st hi ⟨g2,x,g1,E,A,D⟩;by_cases b:i<xs.length
 .have F:=am b (by omega)
  have c:(i:Int)<(xs.length:Int):=by omega
  generalize m:xs[i]=v at *
  have s:xs[i]?=some v:=by rw[an b,m]
  have j:df v=true:=TY.1 a v (Is s);have z:bf prog 266 [.pv (ax n),.pv (bP v)] [] [] (.pv (.tup [Z (gD n v),Z (gE n v)])):=Ke l j;have k:=vV (val:=gE n) (bet:=fc) s;rw[k];by_cases p:i=0
  .subst p
   exact Gy
  .have u:((i:Int)==0)=false:=by simp;omega
   generalize hq:gZ (gE n) fc xs i=q at *;obtain⟨o,G⟩:=q;by_cases r:o<gE n v
   .have f:fc (gE n v) o=true:=by simp only[fc,L4];exact r
    simp only[f,or_true,Ui]at k|-;exact Gy
   .have f:fc (gE n v) o=false:=by simp only[fc,Uc];exact r
    simp only[f,p,T3,or_self,Ud]at k|-;exact Gy
 .have c:¬(i:Int)<(xs.length:Int):=by omega
  have g:i=xs.length:=by omega
  subst g;exact Gy
theorem AE(r:Int):bk 223 (Z r) (B (bu r 0 1048576)):=by
 refine Dp func223 λC hP hN=>?_
 with_reducible repeat' (first|refine Sp.h ?_|((first|refine Ss.h ?_|(refine Sb.h ?_ ?_ ?_<;>(try intro hgd)<;>try exact Xy))<;>simp -implicitDefEqProofs (maxSteps:=2000000) [hP,hN])|refine X2 ?_ ?_|(refine Xd ?_ ?_<;>intro hcd<;>try exact Xx))
 all_goals (first|(simp_all[bu];done)|((try simp_all[bu])<;>(try omega)<;>grind))
theorem Rp(n:Vc)(a:List av)(c:Int)(b:List av)(d:Int)(u:a.length<=9223372036854775807)(o:b.length<=9223372036854775807):xL 160 (ax n) (aH a) (Z c) (aH b) (Z d) (.tup (if k9 n a c b d then[Z (mf n a c b d),B true]else[Z 0,B false])):=by
 have l:=Rn n a u;have m:=Ro n b o;have p:=AE c;have q:=AE d;have s:=M8 n
 have k:k9 n a c b d=(az a&&bu c 0 1048576&&(az b&&bu d 0 1048576)&&aQ n):=by
  simp only[k9,pu,bu,Bool.and_assoc]
 have nr:=uE n;have r:mf n a c b d=(gF n a).1-(gG n b).1-fX n*(c+d):=rfl;cases j:aQ n<;>cases e:az a<;>cases f:az b<;>cases g:bu c 0 1048576<;>cases i:bu d 0 1048576
 case true.true.true.true.true=>
  rw[j,e,f,g,i]at k;rw[j,e]at l;rw[j,f]at m;rw[g]at p;rw[i]at q
  have hn:aC 16384 n=true:=by simp only[aQ,An]at j;exact j.1
  have v:=Bh (n:=n) hn (bX e).1;have A:=Bi (n:=n) hn (bX f).1;simp only[bu,An,L4]at g i;have D:=bQ (a:=fX n) (b:=c+d) 32768 2097152 (by omega) (by omega) (by omega) (by omega);have E:i64.wrap (c+d)=c+d:=aa;have F:i64.wrap (fX n*(c+d))=fX n*(c+d):=aa;have G:i64.wrap ((gF n a).1-(gG n b).1)=(gF n a).1-(gG n b).1:=aa;have H:i64.wrap ((gF n a).1-(gG n b).1-fX n*(c+d))=(gF n a).1-(gG n b).1-fX n*(c+d):=aa;rw[k,r];simp only[Vi,Ui]at l m|-;generalize gF n a=x at *;generalize gG n b=y at *;generalize fX n=z at *;refine Dp func160 λC hP hN=>?_;exact Gy
 all_goals (
  rw[j,e,f,g,i]at k;rw[j,e]at l;rw[j,f]at m;rw[g]at p;rw[i]at q;rw[k];simp only[Vi,Vl,UB,Un,VD,Ui,T3,Ud]at l m|-;clear k r nr s;generalize gF n a=x at *
  generalize gG n b=y at *)
 all_goals
  refine Dp func160 λC hP hN=>?_;exact Gy
theorem Rq(n:Vc)(a:List av)(c:Int)(b:List av)(d:Int)(i:a.length<=9223372036854775807)(e:b.length<=9223372036854775807):xL 106 (ax n) (aH a) (Z c) (aH b) (Z d) (B (ju n a c b d)):=by
 have f:=Rp n a c b d i e;have j:ju n a c b d=(k9 n a c b d&&decide (0<mf n a c b d)):=rfl;rw[j];generalize mf n a c b d=m at *;cases g:k9 n a c b d<;>rw[g]at f<;>simp only[T3,Ud,Ui,UB,Un]at f|-
 all_goals
  refine Dp func106 λC hP hN=>?_;exact Gy
theorem Rr(l:List Vc)(a:List av)(d:Int)(b:List av)(e:Int)(u:l.length<=9223372036854775807)(G:a.length<=9223372036854775807)(s:b.length<=9223372036854775807):xL 230 (aV l) (aH a) (Z d) (aH b) (Z e) (.tup (match l.findIdx? (λn=>ju n a d b e)with|some i=>[Z i,B true]|none=>[Z 0,B false])):=by
 refine Dp func230 λC hP hN=>?_;refine Gz ?_;refine WP.loopN [] l.length (λi st=>st.t 0=.pv (aV l)/\st.t 1=.pv (aH a)/\st.t 2=.pv (Z d)/\st.t 3=.pv (aH b)/\st.t 4=.pv (Z e)/\st.t 12=.pv (Z i)/\∀k x,k<i->l[k]?=some x->ju x a d b e=false) (by simp) ?_;rintro i st hi ⟨g0,g1,g2,g3,g4,E,hq⟩;by_cases f:i<l.length
 .have H:=am f u
  have g:(i:Int)<(l.length:Int):=by omega
  generalize o:l[i]=v at *
  have z:l[i]?=some v:=by rw[an f,o]
  have D:=Rq v a d b e G s;have y:=FU (p:=λn=>ju n a d b e) z hq
  cases q:ju v a d b e with
  |true=>
   rw[q]at D
   have hf:l.findIdx? (λn=>ju n a d b e)=some i:=by
    rw[Wc];refine⟨f,by rw[o];exact q,λj F=>?_⟩;have:=hq j l[j] F (an (by omega));simp[this]
   rw[hf];exact Gy
  |false=>
   rw[q]at D;have m:=y q;refine Gz ?_
   all_goals exact λk a b c r A=>m k (a,b,c) (by omega) A
 .have g:¬(i:Int)<(l.length:Int):=by omega
  have hf:l.findIdx? (λn=>ju n a d b e)=none:=by
   rw[List.findIdx?_eq_none_iff];intro x z;obtain⟨k,r⟩:=Uy z;exact hq k x (by have:=(th.1 r).1;omega) r
  rw[hf];exact Gy
theorem Rs:Bs 269 (aV kI):=by
 refine Dp func269 λC hP hN=>?_;exact Gy
theorem I7(v w:Vc)(a:fv 1152921504606846976 v)(b:fv 1152921504606846976 w):aO 232 (ax v) (ax w) (ax (bg v w)):=by
 have d:i64.wrap (v.1-w.1)=v.1-w.1:=aa (by have:=a.1;have:=b.1;omega) (by have:=a.1;have:=b.1;omega);have e:i64.wrap (v.2.1-w.2.1)=v.2.1-w.2.1:=aa (by have:=a.2.1;have:=b.2.1;omega) (by have:=a.2.1;have:=b.2.1;omega);have f:i64.wrap (v.2.2-w.2.2)=v.2.2-w.2.2:=aa (by have:=a.2.2;have:=b.2.2;omega) (by have:=a.2.2;have:=b.2.2;omega);have c:bg v w=(v.1-w.1,v.2.1-w.2.1,v.2.2-w.2.2):=rfl;rw[c];refine Dp func232 λC hP hN=>?_;exact Gy
theorem AA(v w:Vc)(m n:Nat)(c:fv m v)(d:fv n w)(a:3*(m*n)<=9223372036854775807):aO 237 (ax v) (ax w) (Z (bG v w)):=by
 have h:=lN c d;have e:i64.wrap (v.1*w.1)=v.1*w.1:=aa;have f:i64.wrap (v.2.1*w.2.1)=v.2.1*w.2.1:=aa;have g:i64.wrap (v.2.2*w.2.2)=v.2.2*w.2.2:=aa;have i:i64.wrap (v.1*w.1+v.2.1*w.2.1)=v.1*w.1+v.2.1*w.2.1:=aa;have j:i64.wrap (v.1*w.1+v.2.1*w.2.1+v.2.2*w.2.2)=v.1*w.1+v.2.1*w.2.1+v.2.2*w.2.2:=aa;have b:bG v w=v.1*w.1+v.2.1*w.2.1+v.2.2*w.2.2:=rfl;rw[b];refine Dp func237 λC hP hN=>?_;exact Gy
theorem MF(l:List Vc)(K:l.length<=9223372036854775807):bk 231 (aV l) (B (fI l)):=by
 by_cases h8:l.length<=8
 .skip
  refine Dp func231 λC hP hN=>?_;refine Gz ?_;refine WP.loopN [] l.length (λi st=>st.t 0=.pv (aV l)/\st.t 3=.pv (Z i)/\∀k x,k<i->l[k]?=some x->aC 268435456 x=true) (by simp) ?_;rintro i st hi ⟨g0,g3,hq⟩;by_cases f:i<l.length
  .have H:i64.wrap ((i:Int)+1)=(i:Int)+1:=aa
   have g:(i:Int)<(l.length:Int):=by omega
   have u:(i:Int)<=8:=by omega
   have q:i<=8:=by omega
   generalize j:l[i]=v at *
   have D:l[i]?=some v:=by rw[an f,j]
   have n:=rB v.1 v.2.1 v.2.2 268435456 (by decide) (by decide);have z:aC 268435456 v=gS v.1 v.2.1 v.2.2 268435456:=rfl;rw[<-z]at n;have A:=m9 (p:=aC 268435456) D hq
   cases m:aC 268435456 v with
   |true=>
    rw[m]at n;have r:=A m;refine Gz ?_
    all_goals exact λk a b c J E=>r k (a,b,c) (by omega) E
   |false=>
    rw[m]at n
    have d:l.all (aC 268435456)=false:=by
     rw[Vw];exact⟨v,Is D,by simp[m]⟩
    have e:fI l=false:=by simp[fI,d]
    rw[e];exact Gy
  .have d:l.all (aC 268435456)=true:=oX hq f
   have g:¬(i:Int)<(l.length:Int):=by omega
   have e:fI l=decide (1<=l.length):=by
    rw[fI,d,UA h8,VD,VD]
   rw[e];by_cases F:1<=l.length
   .have o:(1:Int)<=(l.length:Int):=by omega
    have s:(l.length:Int)<=8:=by omega
    exact Gy
   .have o:¬(1:Int)<=(l.length:Int):=by omega
    exact Gy
 .have e:fI l=false:=by
   cases h:fI l with
   |false=>rfl
   |true=>simp only[fI,An,L4]at h;omega
  rw[e];refine Dp func231 λC hP hN=>?_;refine Gz ?_;refine WP.loopN [] 9 (λi st=>st.t 0=.pv (aV l)/\st.t 3=.pv (Z i)) (by simp) ?_;rintro i st hi ⟨g0,g3⟩;by_cases u:i<=8
  .have f:i<l.length:=by omega
   have H:i64.wrap ((i:Int)+1)=(i:Int)+1:=aa
   have g:(i:Int)<(l.length:Int):=by omega
   have q:(i:Int)<=8:=by omega
   generalize j:l[i]=v at *
   have D:l[i]?=some v:=by rw[an f,j]
   have n:=rB v.1 v.2.1 v.2.2 268435456 (by decide) (by decide);cases m:gS v.1 v.2.1 v.2.2 268435456<;>rw[m]at n
   .skip
    exact Gy
   .skip
    refine Gz ?_
    all_goals omega
  .have y:i=9:=by omega
   subst y
   have s:¬(l.length:Int)<=8:=by omega
   have o:(1:Int)<=(l.length:Int):=by omega
   have F:1<=l.length:=by omega
   by_cases I:9<l.length
   .have G:(9:Int)<(l.length:Int):=by omega
    exact Gy
   .skip
    exact Gy
theorem Q1(v:Vc)(rho:Int)(e:fv 35184372088832 v)(E:0<=rho/\rho<=2097152):aO 234 (ax v) (Z rho) (B (oN v rho)):=by
 have q:=rh e.1;have r:=rh e.2.1;have s:=rh e.2.2;have D:=bQ (a:=rho) (b:=rho) 2097152 2097152 (by omega) (by omega) (by omega) (by omega);have w0:i64.wrap (rho*rho)=rho*rho:=aa;have g:∀x:Int,-35184372088832<=x->x<=35184372088832->i64.wrap (-x)=-x/\i64.wrap (0-x)=-x:=λx a b=>⟨aa (by omega) (by omega),(aa (n:=0-x) (by omega) (by omega)).trans (by omega)⟩;have m0:=g v.1 e.1.1 e.1.2;have m1:=g v.2.1 e.2.1.1 e.2.1.2;have m2:=g v.2.2 e.2.2.1 e.2.2.2
 have cc:∀x:Int,-35184372088832<=x->x<=35184372088832->bf prog 226 [.pv (Z (max x (-x))),.pv (Z 65536)] [] [] (.pv (Z (dM (max x (-x)) 65536))):=λx a b=>by
  have:=Dl (max x (-x)) 65536 (by decide);rw[rU (by decide) (by omega) (by omega)]at this;exact this
 have u:=cc v.1 e.1.1 e.1.2;have y:=cc v.2.1 e.2.1.1 e.2.1.2;have z:=cc v.2.2 e.2.2.1 e.2.2.2
 have A:∀a b:Int,(if a<b then b else a)=max a b:=λa b=>by omega
 have hd:oN v rho=decide (mH v.1+mH v.2.1+mH v.2.2<=rho*rho):=rfl;have i:mH v.1=dM (max v.1 (-v.1)) 65536*dM (max v.1 (-v.1)) 65536:=rfl;have j:mH v.2.1=dM (max v.2.1 (-v.2.1)) 65536*dM (max v.2.1 (-v.2.1)) 65536:=rfl;have l:mH v.2.2=dM (max v.2.2 (-v.2.2)) 65536*dM (max v.2.2 (-v.2.2)) 65536:=rfl;rw[hd];generalize dM (max v.1 (-v.1)) 65536=c at *;generalize dM (max v.2.1 (-v.2.1)) 65536=d at *;generalize dM (max v.2.2 (-v.2.2)) 65536=f at *;rw[i,j,l];rw[i]at q;rw[j]at r;rw[l]at s;have F:i64.wrap (c*c)=c*c:=aa;have G:i64.wrap (d*d)=d*d:=aa;have H:i64.wrap (f*f)=f*f:=aa;have I:i64.wrap (c*c+d*d)=c*c+d*d:=aa;have J:i64.wrap (c*c+d*d+f*f)=c*c+d*d+f*f:=aa;refine Dp func234 λC hP hN=>?_;refine Gz ?_;refine WP.loopN [] 3 (λk st=>st.t 2=.ptr 2 0/\st.h 2=some (.box [.pv (Z v.1),.pv (Z v.2.1),.pv (Z v.2.2)] true false)/\st.t 1=.pv (Z rho)/\st.t 6=.pv (Z k)/\st.t 5=.pv (Z (if k=0 then 0 else if k=1 then c*c else if k=2 then c*c+d*d else c*c+d*d+f*f))) (by simp) ?_;rintro k st p ⟨g2,o,g1,m,g5⟩;rcases eF p with rfl|rfl|rfl|rfl
 all_goals (simp at g5 m)
 all_goals
  exact Gy
theorem MG(l:List Vc)(ws:List Int)(h8:l.length<=8)(G:ws.length=l.length)(y:l.all (aC 268435456)=true)(q:WgOk ws):aO 233 (aV l) (zs ws) (ax (dm l ws l.length)):=by
 refine Dp func233 λC hP hN=>?_;refine Gz ?_;refine WP.loopN [] l.length (λi st=>st.t 0=.pv (aV l)/\st.t 1=.pv (zs ws)/\st.t 4=.ptr 4 0/\st.h 4=some (.box [.pv (Z 0),.pv (Z 0),.pv (Z 0)] true false)/\st.t 5=.ptr 5 0/\st.h 5=some (.box [.pv (Z (dm l ws i).1),.pv (Z (dm l ws i).2.1),.pv (Z (dm l ws i).2.2)] true false)/\st.t 6=.pv (Z i)) (by simp[dm]) ?_;rintro i st hi ⟨g0,g1,g4,f,g5,c,o⟩;by_cases g:i<l.length
 .have H:=am g (by omega)
  have d:(i:Int)<(l.length:Int):=by omega
  have e:i<ws.length:=by omega
  generalize m:l[i]=p at *
  have u:l[i]?=some p:=by rw[an g,m]
  generalize n:ws[i]=k at *
  have r:ws[i]?=some k:=by rw[an e,n]
  have J:=jX y q i (by omega);have K:=jX y q (i+1) (by omega);have E:=q.pos k (Is r)
  have F:k<=65536:=by
   have R:=m8 r;have T:=rE q.pos i;have a3:=iw q.pos (show i+1<=ws.length by omega);have a4:=q.tot;omega
  have hp:=eM (TY.1 y p (Is u))
  have hS:dm l ws (i+1)=((dm l ws i).1+k*p.1,(dm l ws i).2.1+k*p.2.1,(dm l ws i).2.2+k*p.2.2):=by simp only[dm,u,r]
  have m1:=bQ (a:=k) (b:=p.1) 65536 268435456 (by omega) (by omega) hp.1.1 hp.1.2;have m2:=bQ (a:=k) (b:=p.2.1) 65536 268435456 (by omega) (by omega) hp.2.1.1 hp.2.1.2;have I:=bQ (a:=k) (b:=p.2.2) 65536 268435456 (by omega) (by omega) hp.2.2.1 hp.2.2.2;generalize dm l ws i=S at *;generalize dm l ws (i+1)=Q at *;subst hS;obtain⟨z,A,B⟩:=K;simp only at z A B;have L:i64.wrap (k*p.1)=k*p.1:=aa;have M:i64.wrap (k*p.2.1)=k*p.2.1:=aa;have N:i64.wrap (k*p.2.2)=k*p.2.2:=aa;have O:i64.wrap (S.1+k*p.1)=S.1+k*p.1:=aa;have P:i64.wrap (S.2.1+k*p.2.1)=S.2.1+k*p.2.1:=aa;have v3:i64.wrap (S.2.2+k*p.2.2)=S.2.2+k*p.2.2:=aa;clear J z A B m1 m2 I hp;have s:[AV.pv (Z S.1),AV.pv (Z S.2.1),AV.pv (Z S.2.2)]=ll S p k 0:=rfl;rw[s]at c;refine Gz ?_;refine WP.loopN [] 3 (λj st=>st.t 0=.pv (aV l)/\st.t 1=.pv (zs ws)/\st.t 4=.ptr 4 0/\st.h 4=some (.box [.pv (Z 0),.pv (Z 0),.pv (Z 0)] true false)/\st.t 5=.ptr 5 0/\st.h 5=some (.box (ll S p k j) true false)/\st.t 6=.pv (Z i)/\st.t 7=.pv (Z j)) (by simp[g0,g1,g4,f,g5,o,c,ll]) ?_;clear g0 g1 g4 f g5 o c;rintro j st D ⟨g0,g1,g4,f,g5,c,o,v⟩;rcases eF D with rfl|rfl|rfl|rfl
  all_goals (simp[ll]at c v)
  .skip
   with_reducible repeat' (first|refine Sp.h ?_|((first|refine Wd ?_|refine Ss.h ?_)<;>simp -implicitDefEqProofs [hP,hN,g0,g1,g4,f,g5,c,o,v,u,m,r,n,g,d,e,L,O,ll]<;>try refine Ya ?_))
  .skip
   with_reducible repeat' (first|refine Sp.h ?_|((first|refine Wd ?_|refine Ss.h ?_)<;>simp -implicitDefEqProofs [hP,hN,g0,g1,g4,f,g5,c,o,v,u,m,r,n,g,d,e,M,P,ll]<;>try refine Ya ?_))
  .skip
   with_reducible repeat' (first|refine Sp.h ?_|((first|refine Wd ?_|refine Ss.h ?_)<;>simp -implicitDefEqProofs [hP,hN,g0,g1,g4,f,g5,c,o,v,u,m,r,n,g,d,e,N,v3,ll]<;>try refine Ya ?_))
  .skip
   exact Gy
 .have x:i=l.length:=by omega
  have d:¬(i:Int)<(l.length:Int):=by omega
  subst x;exact Gy
theorem Bj(l:List Int)(i:Nat)(y:Int):(List.map Z l).set i (PV.val (Value.int i64 y))=List.map Z (l.set i y):=by simp
theorem MH(w:List Int)(t:Int)(q:Nat)(h8:w.length<=8)(c:WgOk w)(hq:q<w.length)(A:0<=t)(n:t<=256):mm 238 (zs w) (Z t) (Z q) (zs (kg w q t)):=by
 have M:kg w q t=(eC w t w.length).set q (((eC w t w.length)[q]?).getD 0+eD w t w.length):=rfl
 have d:∀k∈w,0<=k/\k<=65536:=λk l=>by
  obtain⟨i,hi⟩:=Uy l;have U:=m8 hi;have V:=rE c.pos i;have a3:=iw c.pos (show i+1<=w.length by have:=(th.1 hi).1;omega);have a4:=c.tot;exact⟨c.pos k l,by omega⟩
 have a:=oP c.pos A n
 have f1:w.length*8<=140737488355328:=by omega
 have f2:w.length<=9223372036854775807:=by omega
 refine Dp func238 λC hP hN=>?_;refine GT (gA f1 f2) ?_;refine WP.loopN [] w.length (λi st=>st.t 1=.pv (Z t)/\st.t 2=.pv (Z q)/\st.t 7=.arr 12 w.length/\st.h 12=some (.row 2 1 ((eC w t i).map Z) 0)/\st.t 8=.pv (Z (eD w t i))/\st.t 9=.pv (Z i)) (by simp[uj,eD]) ?_;rintro i st hi ⟨g1,g2,F,I,G,H⟩;have j:=nA w t i;have N:=a i
 have O:bj w i<=65536:=by
  have:=iw c.pos (show i<=w.length by omega);have:=c.tot;omega
 by_cases m:i<w.length
 .have B:=am m (by omega)
  have b:(i:Int)<(w.length:Int):=by omega
  generalize D:w[i]=k at *
  have o:w[i]?=some k:=by rw[an m,D]
  have l:=d k (Is o);have hp:=oO l.1 A n
  have g:(eC w t i)[i]?=some k:=by rw[jK,o];simp
  have p:=uk (t:=t) o
  have x:eD w t (i+1)=eD w t i+k*t/256:=by simp[eD,o]
  have v:=a (i+1)
  have J:bj w (i+1)<=65536:=by
   have:=iw c.pos (show i+1<=w.length by omega);have:=c.tot;omega
  rw[p];rw[x]at v|-;have y:(List.map Z (eC w t i)).set i (PV.val (Value.int i64 (k-k*t/256)))=List.map Z ((eC w t i).set i (k-k*t/256)):=Bj _ _ _;generalize eC w t i=K at *
  have f:∀h,K[i]'h=k:=λh=>by rw[an h]at g;exact UJ g
  have Q:i64.wrap (k*t)=k*t:=aa;have R:(k*t).tdiv 256=k*t/256:=Uk (by omega);have S:i64.wrap (k*t/256)=k*t/256:=aa;have T:i64.wrap (k-k*t/256)=k-k*t/256:=aa;have E:i64.wrap (eD w t i+k*t/256)=eD w t i+k*t/256:=aa;generalize eD w t i=L at *
  with_reducible repeat' (first|refine Sp.h ?_|((first|refine Ss.h ?_)<;>simp -implicitDefEqProofs [hP,hN,g1,g2,F,I,G,H,m,b,g,f,j,Q,R,S,T,E,B,y,-List.map_set]))
 .have r:i=w.length:=by omega
  have b:¬(i:Int)<(w.length:Int):=by omega
  subst r
  have z:(q:Int)<(w.length:Int):=by omega
  obtain⟨u,e⟩:∃u,(eC w t w.length)[q]?=some u:=⟨_,an (by rw[j];exact hq)⟩
  have P:0<=u/\u<=65536:=by
   rw[jK]at e;obtain⟨k,l⟩:∃k,w[q]?=some k:=⟨_,an hq⟩;rw[l]at e;simp only[UL,T4]at e;have s:=d k (Is l);have hp:=oO s.1 A n;split at e<;>omega
  rw[M,e];have y:(List.map Z (eC w t w.length)).set q (PV.val (Value.int i64 (u+eD w t w.length)))=List.map Z ((eC w t w.length).set q (u+eD w t w.length)):=Bj _ _ _;have E:i64.wrap (u+eD w t w.length)=u+eD w t w.length:=aa;generalize eC w t w.length=K at *
  have f:∀h,K[q]'h=u:=λh=>by rw[an h]at e;exact UJ e
  generalize eD w t w.length=L at *
  with_reducible repeat' (first|refine Sp.h ?_|((first|refine Ss.h ?_)<;>simp -implicitDefEqProofs [hP,hN,g1,g2,F,I,G,H,b,hq,z,e,f,j,E,y,-List.map_set]))
theorem NW(x:Int)(a:Nat):(x.tdiv (a:Int)).tdiv 2=x.tdiv ((a*2:Nat):Int):=by
 have h:∀n:Nat,((n:Int).tdiv (a:Int)).tdiv 2=(n:Int).tdiv ((a*2:Nat):Int):=λn=>by
  have e:∀p q:Nat,(p:Int).tdiv (q:Int)=((p/q:Nat):Int):=λp q=>by rw[Uk (by omega),Int.natCast_ediv]
  rw[e n a,show(2:Int)=((2:Nat):Int) from rfl,e,e,Nat.div_div_eq_div_mul]
 rcases Wk 0 x with b|b
 .have:=h x.toNat
  rw[Int.toNat_of_nonneg b]at this;exact this
 .have:=h (-x).toNat
  rw[Int.toNat_of_nonneg (by omega)]at this;rw[Int.neg_tdiv,Int.neg_tdiv,Int.neg_tdiv]at this;omega
def jN(i:Nat)(v:Vc):Vc:=(v.1.tdiv ((2^i:Nat):Int),v.2.1.tdiv ((2^i:Nat):Int),v.2.2.tdiv ((2^i:Nat):Int))
theorem I8(v:Vc):jN 0 v=v:=by simp[jN]
theorem I9(i:Nat)(v:Vc):me (jN i v)=jN (i+1) v:=by
 simp only[me,jN,NW,WA]
theorem zK{v:Vc}:∀(i:Nat),i<=64->(∀j,j<i->aC 16384 (jN j v)=false)->kQ 64 v=kQ (64-i) (jN i v)
 |0,_,_=>by rw[I8]
 |i+1,hi,h=>by
  rw[zK i (by omega) (λj a=>h j (by omega)),show 64-i=(64-(i+1))+1 by omega,kQ,TZ (by rw[h i (by omega)];simp),I9]
theorem DZ{n:Nat}(h:aC 16384 v=true):kQ n v=v:=by
 cases n with
 |zero=>rfl
 |succ n=>rw[kQ,T6 h]
theorem Hx(hi:i<=64)(h:∀j,j<i->aC 16384 (jN j v)=false)(hn:aC 16384 (jN i v)=true):bE v=jN i v:=by
 unfold bE;rw[zK i hi h,DZ hn]
theorem KZ(h:aC 16384 v=false):nz (me v)=true:=by
 have hn:¬(aC 16384 v=true):=by rw[h];simp
 rw[cD,bm,bm,bm]at hn
 cases d:nz (me v)with
 |true=>rfl
 |false=>
  exfalso;simp only[nz,me,Bool.not_eq_false',An,UP]at d;obtain⟨⟨e,f⟩,z3⟩:=d
  have t:∀x:Int,x.tdiv 2=0->-2<x/\x<2:=λx g=>by
   have:=Wr x 2;have:=Wa x (show(0:Int)<2 by decide);have:=VL x (show(0:Int)<2 by decide);omega
  have a:=t _ e;have b:=t _ f;have c:=t _ z3;omega
theorem Dm:∀(n:Nat)(v:Vc),nz v=true->nz (kQ n v)=true
 |0,v,h=>h
 |n+1,v,h=>by
  rw[kQ];split
  .exact h
  .rename_i hn
   exact Dm n _ (KZ (by simpa using hn))
theorem K0(h:fv 1099511627776 v):aC 16384 (jN 26 v)=true:=by
 have t:∀x:Int,-1099511627776<=x->x<=1099511627776->-16384<=x.tdiv ((2^26:Nat):Int)/\x.tdiv ((2^26:Nat):Int)<=16384:=λx a b=>by
  have e:=Wr x ((2^26:Nat):Int);have d:=Wa x (show(0:Int)<((2^26:Nat):Int) by decide);have f:=VL x (show(0:Int)<((2^26:Nat):Int) by decide)
  have g:((2^26:Nat):Int)=67108864:=by decide
  rw[g]at e d f|-;omega
 have a:=t _ h.1.1 h.1.2;have b:=t _ h.2.1.1 h.2.1.2;have c:=t _ h.2.2.1 h.2.2.2;rw[cD,bm,bm,bm];simp only[jN];omega
@[simp] theorem R3{dst:Option Nat}{ty:TypeId}{pos:String}{aft:Array Edge}{g:Option (Nat×Bool)}{ρ:Operand->AV}(x y:Operand):
 bF prog ⟨dst,.binOp .eql 68 x y 68,ty,pos,aft,g⟩ ρ=F6 (ρ x) (ρ y) (jv prog ⟨dst,.binOp .eql 68 x y 68,ty,pos,aft,g⟩ ρ):=by
 unfold F6;split
 .rename_i a b e c d f i j
  exact zj rfl (qP i) (qP j) (by kernel_rfl) (Kf a b e c d f)
 .rfl
@[simp] theorem Ns(a b e c d f:Int)(fb:Option cX):F6 (.pv (.val (.agg #[.int .i64 a,.int .i64 b,.int .i64 e]))) (.pv (.val (.agg #[.int .i64 c,.int .i64 d,.int .i64 f]))) fb=some (.pv (.val (.bool (a==c&&b==d&&e==f))),[]):=rfl
theorem MI(v:Vc)(h:fv 1099511627776 v):bk 235 (ax v) (.tup [ax (bE v),B (nz (bE v))]):=by
 cases z:nz v with
 |false=>
  have m:(v.1==0&&v.2.1==0&&v.2.2==0)=true:=by simpa[nz]using z
  have G:v=(0,0,0):=by
   simp only[An,UP]at m;obtain⟨⟨a,b⟩,c⟩:=m;exact Prod.ext a (Prod.ext b c)
  subst G
  have hn:bE (0,0,0)=(0,0,0):=by decide +kernel
  rw[hn,z];refine Dp func235 λC hP hN=>?_;exact Gy
 |true=>
  have m:(v.1==0&&v.2.1==0&&v.2.2==0)=false:=by
   have:=z;simp only[nz,UD]at this;exact this
  have E:nz (bE v)=true:=Dm 64 v z;rw[E];have N:∀i,i<=26->(2^i:Nat)<=67108864:=λi hi=>Nat.pow_le_pow_right (by decide) hi;have M:∀i,0<(2^i:Nat):=λi=>Nat.pow_pos (by decide);refine Dp func235 λC hP hN=>?_;refine Gz ?_;refine WP.loopN [5] 26 (λi st=>st.t 1=.ptr 1 0/\st.h 1=some (.box [.pv (Z v.1),.pv (Z v.2.1),.pv (Z v.2.2)] true false)/\st.t 2=.ptr 2 0/\st.h 2=some (.box [.pv (Z 0),.pv (Z 0),.pv (Z 0)] true false)/\st.t 4=.pv (Z ((2^i:Nat):Int))/\st.h 5=none/\∀j,j<i->aC 16384 (jN j v)=false) (by simp) ?_;rintro i st hi ⟨g1,p,g2,q,g4,r,hq⟩;have R:=N i hi;have S:=M i
  have u:¬((2^i:Nat):Int)=0:=by omega
  have d:¬(2^i:Nat)=0:=by omega
  have n:=rB (jN i v).1 (jN i v).2.1 (jN i v).2.2 16384 (by decide) (by decide);have D:aC 16384 (jN i v)=gS (jN i v).1 (jN i v).2.1 (jN i v).2.2 16384:=rfl;rw[<-D]at n;have g:(jN i v).1=v.1.tdiv ((2^i:Nat):Int):=rfl;have k:(jN i v).2.1=v.2.1.tdiv ((2^i:Nat):Int):=rfl;have l:(jN i v).2.2=v.2.2.tdiv ((2^i:Nat):Int):=rfl
  have H:∀x:Int,-1099511627776<=x->x<=1099511627776->i64.wrap (x.tdiv ((2^i:Nat):Int))=x.tdiv ((2^i:Nat):Int):=λx a b=>by
   have e:=Int.natAbs_tdiv_le_natAbs x ((2^i:Nat):Int);exact aa (by omega) (by omega)
  have t1:=H _ h.1.1 h.1.2;have t2:=H _ h.2.1.1 h.2.1.2;have t3:=H _ h.2.2.1 h.2.2.2;rw[<-g]at t1;rw[<-k]at t2;rw[<-l]at t3;have L:(2^(i+1):Nat)=2^i*2:=WA 2 i;have P:i64.wrap (((2^i:Nat):Int)*2)=((2^(i+1):Nat):Int):=(aa (by omega) (by omega)).trans (by omega);have A:=λhn=>Hx (v:=v) (i:=i) (by omega) hq hn
  have o:aC 16384 (jN i v)=false->i<26:=λhf=>by
   by_cases f:i<26
   .exact f
   .have:i=26:=by omega
    subst this;rw[K0 h]at hf;cases hf
  have F:aC 16384 (jN i v)=false->∀j,j<i+1->aC 16384 (jN j v)=false:=λhf j T=>by
   by_cases e:j=i
   .subst e;exact hf
   .exact hq j (by omega)
  generalize Q:jN i v=I at *;generalize J:(2^(i+1):Nat)=O at *;generalize(2^i:Nat)=U at *
  cases s:aC 16384 I with
  |true=>
   rw[s]at n;have K:=A s;rw[K]
   with_reducible repeat' (first|refine Sp.h ?_|((first|refine Wd ?_|refine Ss.h ?_|refine Sc.h (n) ?_)<;>simp -implicitDefEqProofs [hP,hN,g1,p,g2,q,g4,r,u,d,<-g,<-k,<-l,t1,t2,t3]<;>try refine Ya ?_))
  |false=>
   rw[s]at n;have f:=o s;have y:=F s
   with_reducible repeat' (first|refine Sp.h ?_|((first|refine Wd ?_|refine Ss.h ?_|refine Sc.h (n) ?_|(refine Sb.h ?_ ?_ ?_<;>(try intro hgd)<;>try exact Xy))<;>simp -implicitDefEqProofs [hP,hN,g1,p,g2,q,g4,r,u,d,<-g,<-k,<-l,t1,t2,t3,P]<;>try refine Ya ?_)|refine X2 ?_ ?_|(refine Xd ?_ ?_<;>intro hcd<;>try exact Xx))
   all_goals exact⟨f,y⟩
theorem pN{bet:Int->Int->Bool}{n p0:Vc}{l:List Vc}(b:l[0]?=some p0):∀i,∃p,l[(dF bet n p0 l i).2]?=some p/\(dF bet n p0 l i).1=bG n p
 |0=>⟨p0,b,rfl⟩
 |i+1=>by
  obtain⟨p,hp,c⟩:=pN (bet:=bet) (n:=n) b i
  cases a:l[i]? with
  |none=>simp only[dF,a];exact⟨p,hp,c⟩
  |some v=>
   rw[oc a];split
   .exact⟨v,a,rfl⟩
   .exact⟨p,hp,c⟩
theorem MJ(n:Vc)(l:List Vc)(hn:aC 16384 n=true)(h1:1<=l.length)(h8:l.length<=8)(W:l.all (aC 268435456)=true):mm 236 (ax n) (aV l) (Z 1) (Z (dk fa n l).2):=by
 obtain⟨p0,e⟩:∃p0,l[0]?=some p0:=⟨_,an (by omega)⟩
 have V:dk fa n l=dF fa n p0 l l.length:=by simp[dk,e]
 have u:=pN (bet:=fa) (n:=n) e;have o:=ui (bet:=fa) (n:=n) (p0:=p0) (l:=l) (by omega);have s:=vM hn
 have b:∀p∈l,bf prog 237 [.pv (ax n),.pv (ax p)] [] [] (.pv (Z (bG n p)))/\-13194139533312<=bG n p/\bG n p<=13194139533312:=λp hp=>by
  have hq:=eM (TY.1 W p hp);exact⟨AA n p 16384 268435456 s hq (by decide),su s hq⟩
 rw[V];refine Dp func236 λC hP hN=>?_;refine Gz ?_;refine WP.loopN [] (l.length-1) (λi st=>st.t 3=.ptr 3 0/\st.h 3=some (.box [.pv (Z n.1),.pv (Z n.2.1),.pv (Z n.2.2)] true false)/\st.t 1=.pv (aV l)/\st.t 2=.pv (Z 1)/\st.t 8=.pv (Z ((i+1:Nat):Int))/\st.t 7=.pv (Z (dF fa n p0 l (i+1)).2)) (by simp[dF,e,fa]) ?_;rintro i st hi ⟨g3,g,g1,g2,B,A⟩;obtain⟨m,X⟩:∃m,m=i+1:=⟨_,rfl⟩
 have E:i+1+1=m+1:=by omega
 rw[<-X]at B A;rw[E];by_cases d:m<l.length
 .have I:i64.wrap ((m:Int)+1)=((m+1:Nat):Int):=(aa (by omega) (by omega)).trans (by omega)
  have a:(m:Int)<(l.length:Int):=by omega
  have j:i<l.length-1:=by omega
  obtain⟨p,hp,F⟩:=u m;have k:=o m;generalize f:l[m]=v at *
  have z:l[m]?=some v:=by rw[an d,f]
  obtain⟨d1,R,S⟩:=b v (Is z);obtain⟨d2,T,U⟩:=b p (Is hp);have Y:=oc (bet:=fa) (n:=n) (p0:=p0) z;rw[Y,F];generalize G:(dF fa n p0 l m).2=q at *
  have r:∀h,l[q]'h=p:=λh=>by rw[an h]at hp;exact UJ hp
  generalize bG n v=x at *;generalize bG n p=y at *;have J:i64.wrap x=x:=aa;have K:i64.wrap y=y:=aa;have L:i64.wrap (-x)=-x:=aa;have M:i64.wrap (-y)=-y:=aa;have N:i64.wrap (-1*x)=-x:=(aa (by omega) (by omega)).trans (by omega);have O:i64.wrap (-1*y)=-y:=(aa (by omega) (by omega)).trans (by omega);have P:i64.wrap (1*x)=x:=(aa (by omega) (by omega)).trans (by omega);have Q:i64.wrap (1*y)=y:=(aa (by omega) (by omega)).trans (by omega);by_cases H:x<y
  .have c:fa x y=true:=by simp only[fa,L4];omega
   rw[c];simp only[Ui];exact GS (zAe g3 g g1 g2 B A d a I z f hp r k (zAc j J K L M N O P Q H))
  .have c:fa x y=false:=by simp only[fa,Uc];omega
   rw[c];simp only[T3,Ud];refine GT (zAe g3 g g1 g2 B A d a I z f hp r k (zAc j J K L M N O P Q H)) ?_
   all_goals rw[G]
 .have D:m=l.length:=by omega
  have a:¬(m:Int)<(l.length:Int):=by omega
  subst D;exact Gy
theorem MK(n:Vc)(l:List Vc)(hn:aC 16384 n=true)(h1:1<=l.length)(h8:l.length<=8)(W:l.all (aC 268435456)=true):mm 236 (ax n) (aV l) (Z (-1)) (Z (dk fc n l).2):=by
 obtain⟨p0,e⟩:∃p0,l[0]?=some p0:=⟨_,an (by omega)⟩
 have V:dk fc n l=dF fc n p0 l l.length:=by simp[dk,e]
 have u:=pN (bet:=fc) (n:=n) e;have o:=ui (bet:=fc) (n:=n) (p0:=p0) (l:=l) (by omega);have s:=vM hn
 have b:∀p∈l,bf prog 237 [.pv (ax n),.pv (ax p)] [] [] (.pv (Z (bG n p)))/\-13194139533312<=bG n p/\bG n p<=13194139533312:=λp hp=>by
  have hq:=eM (TY.1 W p hp);exact⟨AA n p 16384 268435456 s hq (by decide),su s hq⟩
 rw[V];refine Dp func236 λC hP hN=>?_;refine Gz ?_;refine WP.loopN [] (l.length-1) (λi st=>st.t 3=.ptr 3 0/\st.h 3=some (.box [.pv (Z n.1),.pv (Z n.2.1),.pv (Z n.2.2)] true false)/\st.t 1=.pv (aV l)/\st.t 2=.pv (Z (-1))/\st.t 8=.pv (Z ((i+1:Nat):Int))/\st.t 7=.pv (Z (dF fc n p0 l (i+1)).2)) (by simp[dF,e,fc]) ?_;rintro i st hi ⟨g3,g,g1,g2,B,A⟩;obtain⟨m,X⟩:∃m,m=i+1:=⟨_,rfl⟩
 have E:i+1+1=m+1:=by omega
 rw[<-X]at B A;rw[E];by_cases d:m<l.length
 .have I:i64.wrap ((m:Int)+1)=((m+1:Nat):Int):=(aa (by omega) (by omega)).trans (by omega)
  have a:(m:Int)<(l.length:Int):=by omega
  have j:i<l.length-1:=by omega
  obtain⟨p,hp,F⟩:=u m;have k:=o m;generalize f:l[m]=v at *
  have z:l[m]?=some v:=by rw[an d,f]
  obtain⟨d1,R,S⟩:=b v (Is z);obtain⟨d2,T,U⟩:=b p (Is hp);have Y:=oc (bet:=fc) (n:=n) (p0:=p0) z;rw[Y,F];generalize G:(dF fc n p0 l m).2=q at *
  have r:∀h,l[q]'h=p:=λh=>by rw[an h]at hp;exact UJ hp
  generalize bG n v=x at *;generalize bG n p=y at *;have J:i64.wrap x=x:=aa;have K:i64.wrap y=y:=aa;have L:i64.wrap (-x)=-x:=aa;have M:i64.wrap (-y)=-y:=aa;have N:i64.wrap (-1*x)=-x:=(aa (by omega) (by omega)).trans (by omega);have O:i64.wrap (-1*y)=-y:=(aa (by omega) (by omega)).trans (by omega);have P:i64.wrap (1*x)=x:=(aa (by omega) (by omega)).trans (by omega);have Q:i64.wrap (1*y)=y:=(aa (by omega) (by omega)).trans (by omega);by_cases H:y<x
  .have c:fc x y=true:=by simp only[fc,L4];omega
   rw[c];simp only[Ui];exact GS (zAe g3 g g1 g2 B A d a I z f hp r k (zAc j J K L M N O P Q H))
  .have c:fc x y=false:=by simp only[fc,Uc];omega
   rw[c];simp only[T3,Ud];refine GT (zAe g3 g g1 g2 B A d a I z f hp r k (zAc j J K L M N O P Q H)) ?_
   all_goals rw[G]
 .have D:m=l.length:=by omega
  have a:¬(m:Int)<(l.length:Int):=by omega
  subst D;exact Gy
theorem K3(h:∀w∈ws,0<=w):∀{i j:Nat},i<=j->bj ws i<=bj ws j:=λa=>iw h a
theorem Hy:wB w=true↔0<=w/\w<=65536:=by
 simp only[wB,UD,Ve,Uc];omega
theorem Ja{l:List av}(hp:az l=true)(a:ws.length=l.length):ed l ws=true↔(∀w∈ws,0<=w/\w<=65536)/\1<=bj ws ws.length/\bj ws ws.length<=65536:=by
 simp only[ed,hp,a,VR,Un,An,TY,Hy,UD,Ve,Uc];rw[<-a];constructor
 all_goals rintro⟨b,c⟩;exact⟨b,by omega,by omega⟩
set_option maxRecDepth 4000 in
theorem ML(l:List av)(ws:List Int)(hl:l.length<=9223372036854775807)(V:ws.length<=9223372036854775807):aO 225 (aH l) (zs ws) (fY l ws):=by
 have Y:=vY l hl;have z6:bP bA=V6 0 0 0 0 0 0:=rfl
 have o:ed l ws=false->fY l ws=.tup [V6 0 0 0 0 0 0,Z 0,B false]:=λhf=>by unfold fY;rw[hf];rfl
 cases hp:az l with
 |false=>
  rw[hp]at Y;rw[o (by simp[ed,hp])];refine Dp func225 λC hP hN=>?_;exact Gy
 |true=>
 rw[hp]at Y;by_cases s:ws.length=l.length
 case neg=>
  have L:((ws.length:Int)!=(l.length:Int))=true:=by simp;omega
  have ad:¬(ws.length:Int)=(l.length:Int):=by omega
  rw[o (by simp[ed,s])];refine Dp func225 λC hP hN=>?_;exact Gy
 have L:((ws.length:Int)!=(l.length:Int))=false:=by simp[s]
 have n:=Ja hp s;have M:=hp;simp only[az,An,L4]at M;obtain⟨⟨ar,a5⟩,R⟩:=M;have H:=TY.1 R;refine Dp func225 λC hP hN=>?_;refine Gz ?_;refine WP.loopN [] ws.length (λi st=>st.t 0=.pv (aH l)/\st.t 1=.pv (zs ws)/\st.t 4=.ptr 4 0/\st.h 4=some (.box (b6 bA) true false)/\st.t 7=.pv (Z (bj ws i))/\st.t 8=.pv (Z i)/\st.h 9=none/\(∀k w,k<i->ws[k]?=some w->0<=w/\w<=65536)/\0<=bj ws i/\bj ws i<=65536) (by simp[bj,bA]) ?_;rintro i st hi ⟨g0,g1,g4,b,q,g8,a,hq,t0,t1⟩;by_cases c:i<ws.length
 .have y:=am c V
  have f:(i:Int)<(ws.length:Int):=by omega
  generalize j:ws[i]=w at *
  have r:ws[i]?=some w:=by rw[an c,j]
  have hT:bj ws (i+1)=bj ws i+w:=by simp only[bj,r,Ug]
  have wS:i64.wrap (65536-bj ws i)=65536-bj ws i:=aa;have d:=n.1;have G:=K3 (ws:=ws);by_cases h9:w<0
  .rw[o (by
    cases J:ed l ws with
    |false=>rfl
    |true=>have:=((n.1 J).1 w (Is r));omega)]
   exact Gy
  .by_cases h10:65536-bj ws i<w
   .rw[o (by
     cases J:ed l ws with
     |false=>rfl
     |true=>
      obtain⟨c1,c2,c3⟩:=n.1 J;have:=G (λw y=>(c1 w y).1) (show i+1<=ws.length by omega)
      omega)]
    exact Gy
   .have wT:i64.wrap (bj ws i+w)=bj ws i+w:=aa
    have U:∀k u,k<i+1->ws[k]?=some u->0<=u/\u<=65536:=λk u K N=>by
     by_cases e:k=i
     .subst e;rw[r]at N;injection N with N;subst N;omega
     .exact hq k u (by omega) N
    have t2:0<=bj ws i+w/\bj ws i+w<=65536:=by omega
    rw[hT];generalize bj ws i=T at *;refine GT (zAe g0 g1 g4 b q g8 a c f r j h9 wS h10 (gA wT y)) ?_
    all_goals exact⟨U,t2⟩
 .have F:i=ws.length:=by omega
  have f:¬(i:Int)<(ws.length:Int):=by omega
  have d:∀w∈ws,0<=w/\w<=65536:=λw y=>by
   obtain⟨k,K⟩:=Uy y;exact hq k w (by have:=(th.1 K).1;omega) K
  subst F;by_cases h1:bj ws ws.length<1
  .rw[o (by
    cases J:ed l ws with
    |false=>rfl
    |true=>have:=n.1 J;omega)]
   exact Gy
  .have Q:ed l ws=true:=n.2 ⟨d,by omega,by omega⟩
   have hR:fY l ws=.tup [bP (dI l ws ws.length),Z (bj ws ws.length),B true]:=by unfold fY;rw[Q];rfl
   rw[hR];have O:∀w∈ws,wB w=true:=λw y=>Hy.2 (d w y);have D:=yy H O;have A:st.h 4=some (.box [.pv (Z 0),.pv (Z 0),.pv (Z 0),.pv (Z 0),.pv (Z 0),.pv (Z 0)] true false):=b;clear b n o hq z6;generalize bj ws ws.length=T at *;refine Gz ?_;refine WP.loopN [] l.length (λi st=>st.t 0=.pv (aH l)/\st.t 1=.pv (zs ws)/\st.t 4=.ptr 4 0/\st.h 4=some (.box [.pv (Z 0),.pv (Z 0),.pv (Z 0),.pv (Z 0),.pv (Z 0),.pv (Z 0)] true false)/\st.t 7=.pv (Z T)/\st.t 9=.ptr 9 0/\st.h 9=some (.box (b6 (dI l ws i)) true false)/\st.t 10=.pv (Z i)) (by simp[dI,bA,g0,g1,g4,A,q]) ?_;clear g0 g1 g4 A q g8 a f c hi;rintro i st hi ⟨g0,g1,g4,b,q,E,a,g⟩;by_cases c:i<l.length
   .have y:=am c (by omega)
    have f:(i:Int)<(l.length:Int):=by omega
    have m:i<ws.length:=by omega
    generalize j:ws[i]=w at *
    have r:ws[i]?=some w:=by rw[an m,j]
    generalize z:l[i]=x at *
    have P:l[i]?=some x:=by rw[an c,z]
    have I:=d w (Is r);have v:=H x (Is P);rw[gv]at v
    have hS:dI l ws (i+1)=qN w (dI l ws i) x:=by simp only[dI,r,P]
    obtain⟨r1,r2,r3⟩:=D i;have W:=iK (w:=w) (x:=x.1) I v.1 r1;have X:=iK (w:=w) (x:=x.2.1) I v.2.1 r2;have a3:=iK (w:=w) (x:=x.2.2) I v.2.2 r3;clear D d O H;generalize dI l ws i=S at *;generalize dI l ws (i+1)=S' at *;subst hS;have d1:(dz w S.1 x.1).1=S.1.1+w*x.1.1:=rfl;have d2:(dz w S.1 x.1).2=S.1.2+w*x.1.2:=rfl;have d3:(dz w S.2.1 x.2.1).1=S.2.1.1+w*x.2.1.1:=rfl;have d4:(dz w S.2.1 x.2.1).2=S.2.1.2+w*x.2.1.2:=rfl;have d5:(dz w S.2.2 x.2.2).1=S.2.2.1+w*x.2.2.1:=rfl;have d6:(dz w S.2.2 x.2.2).2=S.2.2.2+w*x.2.2.2:=rfl;rw[d1,d2]at W;rw[d3,d4]at X;rw[d5,d6]at a3;have u1:i64.wrap (w*x.1.1)=w*x.1.1:=aa;have u2:i64.wrap (w*x.1.2)=w*x.1.2:=aa;have u3:i64.wrap (w*x.2.1.1)=w*x.2.1.1:=aa;have u4:i64.wrap (w*x.2.1.2)=w*x.2.1.2:=aa;have u5:i64.wrap (w*x.2.2.1)=w*x.2.2.1:=aa;have u6:i64.wrap (w*x.2.2.2)=w*x.2.2.2:=aa;have v1:i64.wrap (S.1.1+w*x.1.1)=S.1.1+w*x.1.1:=aa;have v2:i64.wrap (S.1.2+w*x.1.2)=S.1.2+w*x.1.2:=aa;have v3:i64.wrap (S.2.1.1+w*x.2.1.1)=S.2.1.1+w*x.2.1.1:=aa;have v4:i64.wrap (S.2.1.2+w*x.2.1.2)=S.2.1.2+w*x.2.1.2:=aa;have v5:i64.wrap (S.2.2.1+w*x.2.2.1)=S.2.2.1+w*x.2.2.1:=aa;have v6:i64.wrap (S.2.2.2+w*x.2.2.2)=S.2.2.2+w*x.2.2.2:=aa;clear W X a3 r1 r2 r3 d1 d2 d3 d4 d5 d6;refine Gz ?_;refine WP.loopN [] 3 (λk st=>st.t 0=.pv (aH l)/\st.t 1=.pv (zs ws)/\st.t 4=.ptr 4 0/\st.h 4=some (.box [.pv (Z 0),.pv (Z 0),.pv (Z 0),.pv (Z 0),.pv (Z 0),.pv (Z 0)] true false)/\st.t 7=.pv (Z T)/\st.t 9=.ptr 9 0/\st.h 9=some (.box (lq S x w k) true false)/\st.t 10=.pv (Z i)/\st.t 11=.pv (Z k)) (by simp[g0,g1,g4,b,q,E,a,g,lq]) ?_;clear g0 g1 g4 b q E a g;rintro k st K ⟨g0,g1,g4,b,q,E,a,g,p⟩;rcases eF K with rfl|rfl|rfl|rfl
    all_goals (simp[lq,dz]at a p)
    .skip
     with_reducible repeat' (first|refine Sp.h ?_|((first|refine Wd ?_|refine Ss.h ?_|(refine Sb.h ?_ ?_ ?_<;>(try intro hgd)<;>try exact Xy))<;>simp -implicitDefEqProofs (maxSteps:=2000000) [hP,hN,g0,g1,g4,b,q,E,a,g,p,r,j,P,z,c,m,u1,u2,v1,v2,lq,dz]<;>try refine Ya ?_)|refine X2 ?_ ?_|(refine Xd ?_ ?_<;>intro hcd<;>try exact Xx))
    .skip
     with_reducible repeat' (first|refine Sp.h ?_|((first|refine Wd ?_|refine Ss.h ?_|(refine Sb.h ?_ ?_ ?_<;>(try intro hgd)<;>try exact Xy))<;>simp -implicitDefEqProofs (maxSteps:=2000000) [hP,hN,g0,g1,g4,b,q,E,a,g,p,r,j,P,z,c,m,u3,u4,v3,v4,lq,dz]<;>try refine Ya ?_)|refine X2 ?_ ?_|(refine Xd ?_ ?_<;>intro hcd<;>try exact Xx))
    .skip
     with_reducible repeat' (first|refine Sp.h ?_|((first|refine Wd ?_|refine Ss.h ?_|(refine Sb.h ?_ ?_ ?_<;>(try intro hgd)<;>try exact Xy))<;>simp -implicitDefEqProofs (maxSteps:=2000000) [hP,hN,g0,g1,g4,b,q,E,a,g,p,r,j,P,z,c,m,u5,u6,v5,v6,lq,dz]<;>try refine Ya ?_)|refine X2 ?_ ?_|(refine Xd ?_ ?_<;>intro hcd<;>try exact Xx))
    .skip
     with_reducible repeat' (first|refine Sp.h ?_|((first|refine Wd ?_|refine Ss.h ?_|(refine Sb.h ?_ ?_ ?_<;>(try intro hgd)<;>try exact Xy))<;>simp -implicitDefEqProofs (maxSteps:=2000000) [hP,hN,g0,g1,g4,b,q,E,a,g,p,c,y,qN,dz]<;>try refine Ya ?_)|refine X2 ?_ ?_|(refine Xd ?_ ?_<;>intro hcd<;>try exact Xx))
   .have F:i=l.length:=by omega
    have f:¬(i:Int)<(l.length:Int):=by omega
    subst F;rw[<-s]at a;exact Gy
theorem AB(x:Int)(h1:-4611686018427387904<=x)(d:x<=4611686018427387904):bk 227 (Z x) (Z (max x (-x))):=by
 have e:i64.wrap (-x)=-x:=aa;have f:i64.wrap (0-x)=-x:=(aa (n:=0-x) (by omega) (by omega)).trans (by omega)
 have c:∀a b:Int,(if a<b then b else a)=max a b:=λa b=>by omega
 refine Dp func227 λC hP hN=>?_;exact Gy
theorem Jb(x y z r:Int):oM [x,y,z] r=if x<=r/\y<=r/\z<=r then r*r-x*x-y*y-z*z else -1:=by
 unfold oM
 have:[x,y,z].all (λx=>decide (x<=r))=decide (x<=r/\y<=r/\z<=r):=by simp[Bool.and_assoc]
 rw[this];simp[jf]
theorem Jc{u v:Iv}{T:Int}(a:1<=T/\T<=65536)(h1:-281474976710656<=u.1-v.2/\u.1-v.2<=281474976710656)(b:-281474976710656<=u.2-v.1/\u.2-v.1<=281474976710656):
 bf prog 226 [.pv (Z (max (u.1-v.2) (max (-(u.1-v.2)) (max (u.2-v.1) (-(u.2-v.1)))))),.pv (Z T)] [] [] (.pv (Z (dt u v T)))/\0<=dt u v T:=by
 have hf:max (u.1-v.2) (max (-(u.1-v.2)) (max (u.2-v.1) (-(u.2-v.1))))=mu (u.1-v.2) (u.2-v.1):=by unfold mu;omega
 have c:=ug h1 b;have:=Dl (mu (u.1-v.2) (u.2-v.1)) T (by omega);rw[rU (by omega) (by omega) (by omega),EX (by omega)]at this;rw[hf];exact⟨this,(wL c.1 (by omega) a.1 a.2).1⟩
set_option maxRecDepth 4000 in
theorem Q2(left right:List Int)(a:List av)(i:Int)(b:List av)(j:Int)(h1:left.length<=9223372036854775807)(h2:right.length<=9223372036854775807)(h3:a.length<=9223372036854775807)(h4:b.length<=9223372036854775807):Kk 161 (zs left) (zs right) (aH a) (Z i) (aH b) (Z j) (.tup [Z (lM left right a i b j),B (oa left right a i b j)]):=by
 have ca:=ML a left h3 h1;have Y:=ML b right h4 h2;have H:=AE i;have M:=AE j;have W:bP bA=V6 0 0 0 0 0 0:=rfl;have e:oa left right a i b j=(ed a left&&ed b right&&decide (bj left left.length=bj right right.length)&&bu i 0 1048576&&bu j 0 1048576):=rfl
 have hX:lM left right a i b j=if oa left right a i b j then oM (eY (dI a left left.length) (dI b right right.length) (bj left left.length)) (i+j)else 0:=rfl
 rw[hX]
 cases I:ed a left with
 |false=>
  rw[I]at e;simp only[UB]at e;rw[e];simp only[T3,Ud];simp only[fY,I,T3,Ud,W]at ca;cases G:ed b right
  all_goals (simp only[fY,G,T3,Ud,Ui,W]at Y)
  .skip
   refine Dp func161 λC hP hN=>?_;exact Gy
  .skip
   generalize dI b right right.length=V at *;generalize bj right right.length=X at *;refine Dp func161 λC hP hN=>?_;exact Gy
 |true=>
 simp only[fY,I,Ui]at ca
 cases G:ed b right with
 |false=>
  rw[G]at e;simp only[UB,Vl]at e;rw[e];simp only[T3,Ud];simp only[fY,G,T3,Ud,W]at Y;generalize dI a left left.length=U at *;generalize bj left left.length=T at *;refine Dp func161 λC hP hN=>?_;exact Gy
 |true=>
 simp only[fY,G,Ui]at Y;have D:=uf I;have E:=uf G;have J:=CT I;rw[I,G]at e;simp only[Un]at e;clear hX I G W;generalize dI a left left.length=U at *;generalize dI b right right.length=V at *;generalize bj left left.length=T at *;generalize bj right right.length=X at *;by_cases hT:T=X
 case neg=>
  have ba:(T !=X)=true:=by simp[hT]
  rw[U0 hT]at e;simp only[UB]at e;rw[e];simp only[T3,Ud];clear D E;refine Dp func161 λC hP hN=>?_;exact Gy
 subst hT;simp only[VR,Un]at e
 cases o:bu i 0 1048576 with
 |false=>
  rw[o]at e H;simp only[UB]at e;rw[e];simp only[T3,Ud];clear D E;refine Dp func161 λC hP hN=>?_;exact Gy
 |true=>
 cases F:bu j 0 1048576 with
 |false=>
  rw[F]at e M;rw[o]at H;simp only[Vl]at e;rw[e];simp only[T3,Ud];clear D E;refine Dp func161 λC hP hN=>?_;exact Gy
 |true=>
 rw[o,F]at e;rw[o]at H;rw[F]at M;simp only[Vi]at e;rw[e];simp only[Ui];simp only[bu,An,L4]at o F;obtain⟨c,N⟩:∃c,c=i+j:=⟨_,rfl⟩;have p:i64.wrap (i+j)=c:=(aa (by omega) (by omega)).trans N.symm;rw[<-N];have bb:=mG (x:=c) (m:=2097152) (by omega) (by omega);have a8:i64.wrap (c*c)=c*c:=aa;obtain⟨⟨⟨a1,a2⟩,a3,a4⟩,⟨⟨b1,b2⟩,b3,b4⟩,⟨c1,c2⟩,c3,c4⟩:=D;obtain⟨⟨⟨d1,d2⟩,d3,d4⟩,⟨⟨e1,e2⟩,e3,e4⟩,⟨f1,f2⟩,f3,f4⟩:=E;have k0:=Jc (u:=U.1) (v:=V.1) J (by omega) (by omega);have k1:=Jc (u:=U.2.1) (v:=V.2.1) J (by omega) (by omega);have k2:=Jc (u:=U.2.2) (v:=V.2.2) J (by omega) (by omega)
 have S:∀a b:Int,(if a<b then b else a)=max a b:=λa b=>by omega
 have Q:i64.wrap (U.1.1-V.1.2)=U.1.1-V.1.2:=aa;have R:i64.wrap (U.1.2-V.1.1)=U.1.2-V.1.1:=aa;have ar:i64.wrap (U.2.1.1-V.2.1.2)=U.2.1.1-V.2.1.2:=aa;have a5:i64.wrap (U.2.1.2-V.2.1.1)=U.2.1.2-V.2.1.1:=aa;have a6:i64.wrap (U.2.2.1-V.2.2.2)=U.2.2.1-V.2.2.2:=aa;have a7:i64.wrap (U.2.2.2-V.2.2.1)=U.2.2.2-V.2.2.1:=aa;have bq:=AB (U.1.1-V.1.2) (by omega) (by omega);have bs:=AB (U.1.2-V.1.1) (by omega) (by omega);have bH:=AB (U.2.1.1-V.2.1.2) (by omega) (by omega);have b0:=AB (U.2.1.2-V.2.1.1) (by omega) (by omega);have b5:=AB (U.2.2.1-V.2.2.2) (by omega) (by omega);have b7:=AB (U.2.2.2-V.2.2.1) (by omega) (by omega);clear a1 a2 a3 a4 b1 b2 b3 b4 c1 c2 c3 c4 d1 d2 d3 d4 e1 e2 e3 e4 f1 f2 f3 f4;have hg:eY U V T=[dt U.1 V.1 T,dt U.2.1 V.2.1 T,dt U.2.2 V.2.2 T]:=rfl;rw[hg,Jb];generalize dt U.1 V.1 T=x at *;generalize dt U.2.1 V.2.1 T=y at *;generalize dt U.2.2 V.2.2 T=z at *;obtain⟨k0,x0⟩:=k0;obtain⟨k1,y0⟩:=k1;obtain⟨k2,z0⟩:=k2
 have qx:x<=c->0<=x*x/\x*x<=4398046511104:=λh=>by have:=mG (x:=x) (m:=2097152) x0 (by omega);omega
 have qy:y<=c->0<=y*y/\y*y<=4398046511104:=λh=>by have:=mG (x:=y) (m:=2097152) y0 (by omega);omega
 have qz:z<=c->0<=z*z/\z*z<=4398046511104:=λh=>by have:=mG (x:=z) (m:=2097152) z0 (by omega);omega
 refine Dp func161 λC hP hN=>?_;refine GT (gA p a8) ?_;refine WP.loopN [] 3 (λk st=>st.t 3=.pv (Z i)/\st.t 5=.pv (Z j)/\st.t 14=.ptr 14 0/\st.h 14=some (.box [.pv (Z U.1.1),.pv (Z U.1.2),.pv (Z U.2.1.1),.pv (Z U.2.1.2),.pv (Z U.2.2.1),.pv (Z U.2.2.2)] true false)/\st.t 17=.ptr 17 0/\st.h 17=some (.box [.pv (Z V.1.1),.pv (Z V.1.2),.pv (Z V.2.1.1),.pv (Z V.2.1.2),.pv (Z V.2.2.1),.pv (Z V.2.2.2)] true false)/\st.t 15=.pv (Z T)/\st.t 21=.pv (Z k)/\st.t 20=.pv (Z (if k=0 then c*c else if k=1 then c*c-x*x else if k=2 then c*c-x*x-y*y else c*c-x*x-y*y-z*z))/\(0<k->x<=c)/\(1<k->y<=c)/\(2<k->z<=c)) (by simp) ?_;rintro k st hk ⟨g3,g5,r,f,A,g,s,n,l,p0,p1,p2⟩;rcases eF hk with rfl|rfl|rfl|rfl
 all_goals (simp at l n)
 .by_cases L:c<x
  .have d:(if x<=c/\y<=c/\z<=c then c*c-x*x-y*y-z*z else -1)=-1:=TZ (by omega)
   rw[d];exact GS (zAd g3 g5 r f A g s l n S Q (be R p L))
  .have q:=qx (by omega)
   have O:i64.wrap (x*x)=x*x:=aa;have P:i64.wrap (c*c-x*x)=c*c-x*x:=aa;refine GT (zAe g3 g5 r f A g s l n S Q R p L (gA O P)) ?_
   all_goals omega
 .have K:=p0 (by omega)
  have q':=qx K;by_cases L:c<y
  .have d:(if x<=c/\y<=c/\z<=c then c*c-x*x-y*y-z*z else -1)=-1:=TZ (by omega)
   rw[d];exact Gy
  .have q:=qy (by omega)
   have O:i64.wrap (y*y)=y*y:=aa;have P:i64.wrap (c*c-x*x-y*y)=c*c-x*x-y*y:=aa;refine GT (zAe g3 g5 r f A g s l n S ar a5 p L (gA O P)) ?_
   all_goals omega
 .have K:=p0 (by omega)
  have ad:=p1 (by omega);have q':=qx K;have bc:=qy ad;by_cases L:c<z
  .have d:(if x<=c/\y<=c/\z<=c then c*c-x*x-y*y-z*z else -1)=-1:=TZ (by omega)
   rw[d];exact Gy
  .have q:=qz (by omega)
   have O:i64.wrap (z*z)=z*z:=aa;have P:i64.wrap (c*c-x*x-y*y-z*z)=c*c-x*x-y*y-z*z:=aa;refine GT (zAe g3 g5 r f A g s l n S a6 a7 p L (gA O P)) ?_
   all_goals omega
 .have d:(if x<=c/\y<=c/\z<=c then c*c-x*x-y*y-z*z else -1)=c*c-x*x-y*y-z*z:=T6 ⟨p0 (by omega),p1 (by omega),p2 (by omega)⟩
  rw[d];exact Gy
theorem Q3(left right:List Int)(a:List av)(c:Int)(b:List av)(d:Int)(h1:left.length<=9223372036854775807)(g:right.length<=9223372036854775807)(i:a.length<=9223372036854775807)(j:b.length<=9223372036854775807):Kk 107 (zs left) (zs right) (aH a) (Z c) (aH b) (Z d) (B (oa left right a c b d&&decide (0<=lM left right a c b d))):=by
 have f:=Q2 left right a c b d h1 g i j;generalize lM left right a c b d=e at *;cases k:oa left right a c b d<;>rw[k]at f
 all_goals
  refine Dp func107 λC hP hN=>?_;exact Gy
theorem MM(a b:List Vc)(rho steps:Int)(ha:a.length<=9223372036854775807)(hb:b.length<=9223372036854775807):zS 164 (aV a) (aV b) (Z rho) (Z steps) (J4 (jm a b rho steps)):=by
 have ca:=MF a ha;have cb:=MF b hb
 have b0:qL a b rho steps=false->jm a b rho steps=(0,⟨[],[],(0,0,0),0⟩):=λh=>by simp[jm,h]
 have hd:qL a b rho steps=(fI a&&fI b&&bu rho 0 2097152&&bu steps 0 64):=rfl
 cases hA:fI a with
 |false=>
  rw[hA]at ca;rw[b0 (by rw[hd,hA];rfl)];refine Dp func164 λC hP hN=>?_;exact GS trivial
 |true=>
 rw[hA]at ca
 cases hB:fI b with
 |false=>
  rw[hB]at cb;rw[b0 (by rw[hd,hB,Vl];rfl)];refine Dp func164 λC hP hN=>?_;exact GS trivial
 |true=>
 rw[hB]at cb;by_cases b3:rho<0\/2097152<rho\/steps<0\/64<steps
 .have hf:qL a b rho steps=false:=by
   cases h:qL a b rho steps with
   |false=>rfl
   |true=>
    rw[hd]at h;simp only[bu,An,L4]at h;omega
  rw[b0 hf];rcases b3 with h|h|h|h
  all_goals
   refine Dp func164 λC hP hN=>?_;exact GS h
 have q1:¬rho<0:=by omega
 have q2:¬2097152<rho:=by omega
 have q3:¬steps<0:=by omega
 have q4:¬64<steps:=by omega
 have ia:=jY.1 hA;have ib:=jY.1 hB;obtain⟨M,ct⟩:∃M:Nat,steps=M:=⟨steps.toNat,by omega⟩;subst ct
 have hr:jm a b rho M=kH a b rho M (M+1) (sx a b):=by
  have:qL a b rho M=true:=by
   rw[hd,hA,hB];simp[bu];omega
  simp[jm,this]
 rw[hr];obtain⟨R,hR⟩:∃R,R=kH a b rho M (M+1) (sx a b):=⟨_,rfl⟩;rw[<-hR]
 have f1:(8:Int)*(a.length:Int)<=281474976710656:=by omega
 have f2:(8:Int)*(b.length:Int)<=281474976710656:=by omega
 have f3:(a.length:Int)<=9223372036854775807:=by omega
 have f4:(b.length:Int)<=9223372036854775807:=by omega
 have f5:0<a.length:=by omega
 have f6:0<b.length:=by omega
 refine Dp func164 λC hP hN=>?_;refine GT (zAc q1 q2 q3 q4 f1 f2 f3 f4 f5 f6) ?_;refine WP.loopN [10,11,12,16] M (λi st=>∃(s:NSt)(X Y:AV),NsOk a b s/\s.r=i/\kH a b rho M (M+1-i) s=R/\st.t 0=.pv (aV a)/\st.t 1=.pv (aV b)/\st.t 2=.pv (Z rho)/\st.t 3=.pv (Z M)/\st.t 8=.ptr 8 0/\st.h 8=some (.box [.pv (Z 0),.pv (Z 0),.pv (Z 0),.pv (Z 0),.pv (.val (.slice none 0 0)),.pv (.val (.slice none 0 0)),.pv (Z 0)] true false)/\st.t 9=.ptr 9 0/\st.h 10=none/\st.h 11=none/\st.h 12=none/\st.h 16=none/\st.h 9=some (.box [.pv (Z 0),.pv (Z s.n.1),.pv (Z s.n.2.1),.pv (Z s.n.2.2),X,Y,.pv (Z s.r)] true false)/\((X=.arr 47 a.length/\Y=.arr 50 b.length/\st.h 47=some (.row 2 1 (s.w.map Z) 0)/\st.h 50=some (.row 2 1 (s.v.map Z) 0))\/(X=.pv (zs s.w)/\Y=.pv (zs s.v)))) ?_ ?_
 .refine⟨sx a b,.arr 47 a.length,.arr 50 b.length,CX ia.1 ib.1,rfl,hR.symm,?_⟩
  simp[sx]
 rintro i st hi ⟨s,X,Y,hs,cf,c,g0,g1,g2,g3,T,D,U,h10,h11,A,B,l,N⟩
 have cr:M+1-i=(M-i)+1:=by omega
 rw[cr,kH]at c;obtain⟨S,Q,n0,r⟩:=s;have bs:=hs.w;have bq:=hs.v;have k:=hs.wl;have j:=hs.vl;simp only at bs bq k j cf l N;subst cf;have f:=um (rho:=rho) (steps:=M) hA hB hs;have O:=CW hA hB hs;have cW:=MG a S ia.2.1 k ia.2.2 bs;have c0:=MG b Q ib.2.1 j ib.2.2 bq;have cw:=jX ia.2.2 bs a.length (by omega);have cx:=jX ib.2.2 bq b.length (by omega);have cM:=I7 (dm a S a.length) (dm b Q b.length) (jJ cw (by decide)) (jJ cx (by decide));have hT:bg (dm a S a.length) (dm b Q b.length)=eE a S b Q:=rfl;rw[hT]at cM;have cN:=Q1 (eE a S b Q) rho O ⟨by omega,by omega⟩;have ad:=Hi O;have b1:=MI (jg (eE a S b Q)) (jJ ad (by decide));have V:=Bc (jg (eE a S b Q)) (jJ ad (by decide));have cm:jg (eE a S b Q)=((eE a S b Q).1.tdiv 65536,(eE a S b Q).2.1.tdiv 65536,(eE a S b Q).2.2.tdiv 65536):=rfl;rw[oQ]at c f;simp only at c f
 have xw:∀y:Int,-35184372088832<=y->y<=35184372088832->i64.wrap (y.tdiv 65536)=y.tdiv 65536:=λy p q=>by
  have e:=Int.natAbs_tdiv_le_natAbs y 65536;exact aa (by omega) (by omega)
 have x1:=xw _ O.1.1 O.1.2;have x2:=xw _ O.2.1.1 O.2.1.2;have x3:=xw _ O.2.2.1 O.2.2.2;clear xw hs;generalize dm a S a.length=S1 at *;generalize dm b Q b.length=S2 at *;generalize eE a S b Q=d at *
 cases hc:oN d rho with
 |true=>
  rw[hc]at cN c;simp only[Ui]at c;rw[<-c];rcases N with⟨rfl,rfl,E,F⟩|⟨rfl,rfl⟩
  .skip
   exact GS (zAe g0 g1 g2 g3 T D U h10 h11 A B l E F (gA k j))
  .skip
   exact GS (zAd g0 g1 g2 g3 T D U h10 h11 A B (be l k j))
 |false=>
 rw[hc]at cN c f;simp only[T3,Ud]at c f
 have b5:bE (jg d)=bE ((d.1.tdiv 65536,d.2.1.tdiv 65536,d.2.2.tdiv 65536)):=by rw[<-cm]
 generalize c3:jg d=x at *;subst cm;generalize c1:bE (d.1.tdiv 65536,d.2.1.tdiv 65536,d.2.2.tdiv 65536)=n at *;clear b5
 cases b7:nz n with
 |false=>
  rw[b7]at b1 c;simp only[Ui]at c;rw[<-c];rcases N with⟨rfl,rfl,E,F⟩|⟨rfl,rfl⟩
  .skip
   exact GS (zAe g0 g1 g2 g3 T D U h10 h11 A B l E F (so k j x1 x2 x3))
  .skip
   exact GS (zAe g0 g1 g2 g3 T D U h10 h11 A B l k j (be x1 x2 x3))
 |true=>
 rw[b7]at b1 c f;simp only[Bool.true_eq_false,Ud]at c f;have cz:=MJ n a V ia.1 ia.2.1 ia.2.2;have cH:=MK n b V ib.1 ib.2.1 ib.2.2;have cQ:=M8 n;have hq:=uE n;have l1:=qK (bet:=fa) V ia.2.2;have l2:=qK (bet:=fc) V ib.2.2;have i1:=nB (bet:=fa) (n:=n) ia.1;have i2:=nB (bet:=fc) (n:=n) ib.1;obtain⟨p0,b9⟩:∃p0,a[0]?=some p0:=⟨_,an (by omega)⟩;obtain⟨p1,cd⟩:∃p1,b[0]?=some p1:=⟨_,an (by omega)⟩;obtain⟨G,o,ch⟩:=pN (bet:=fa) (n:=n) b9 a.length;obtain⟨pb,z,cj⟩:=pN (bet:=fc) (n:=n) cd b.length
 have b2:dk fa n a=dF fa n p0 a a.length:=by simp[dk,b9]
 have b4:dk fc n b=dF fc n p1 b b.length:=by simp[dk,cd]
 rw[<-b2]at o ch;rw[<-b4]at z cj;clear b2 b4;generalize dk fa n a=lo at *;generalize dk fc n b=L at *;generalize fX n=q at *;have c2:=bQ (a:=q) (b:=rho) 32768 2097152 (by omega) (by omega) (by omega) (by omega);have e4:i64.wrap (lo.1-L.1)=lo.1-L.1:=aa;have e5:i64.wrap (q*rho)=q*rho:=aa;generalize H:q*rho=qr at *
 have I:∀h,a[lo.2]'h=G:=λh=>by rw[an h]at o;exact UJ o
 have J:∀h,b[L.2]'h=pb:=λh=>by rw[an h]at z;exact UJ z
 have sa:=eM (TY.1 ia.2.2 G (Is o));have sb:=eM (TY.1 ib.2.2 pb (Is z));have cp:=AA n G 16384 268435456 (vM V) sa (by decide);have cq:=AA n pb 16384 268435456 (vM V) sb (by decide);rw[<-ch]at cp;rw[<-cj]at cq;have cA:=I7 G pb (jJ sa (by decide)) (jJ sb (by decide));have cn:=rF sa sb;have ba:fv 536870912 (d.1.tdiv 65536,d.2.1.tdiv 65536,d.2.2.tdiv 65536):=ad;have bH:=mb (d.1.tdiv 65536,d.2.1.tdiv 65536,d.2.2.tdiv 65536) (bg G pb);rw[o,z]at c f;simp only[Ug]at c f;have w1:i64.wrap lo.1=lo.1:=aa;have w2:i64.wrap L.1=L.1:=aa;by_cases g:qr<lo.1-L.1
 .rw[T6 g]at c
  simp only at c;rw[<-c];rcases N with⟨rfl,rfl,E,F⟩|⟨rfl,rfl⟩
  .skip
   exact GS (zAe g0 g1 g2 g3 T D U h10 h11 A B l E F (zAe k j x1 x2 x3 o z I J i1 i2 e4 e5 H g))
  .skip
   exact GS (zAe g0 g1 g2 g3 T D U h10 h11 A B l k j (zAd x1 x2 x3 o z I J i1 i2 e4 e5 (gA H g)))
 rw[TZ g]at c f;have cB:=I7 (d.1.tdiv 65536,d.2.1.tdiv 65536,d.2.2.tdiv 65536) (bg G pb) (jJ ba (by decide)) (jJ cn (by decide));have he:=rF ba cn;have cU:=AA (d.1.tdiv 65536,d.2.1.tdiv 65536,d.2.2.tdiv 65536) (bg (d.1.tdiv 65536,d.2.1.tdiv 65536,d.2.2.tdiv 65536) (bg G pb)) 536870912 1073741824 ba he (by decide);have cV:=AA (bg (d.1.tdiv 65536,d.2.1.tdiv 65536,d.2.2.tdiv 65536) (bg G pb)) (bg (d.1.tdiv 65536,d.2.1.tdiv 65536,d.2.2.tdiv 65536) (bg G pb)) 1073741824 1073741824 he he (by decide);obtain⟨r1,r2,r3⟩:=lN (m:=536870912) (n:=1073741824) ba he;obtain⟨t1,t2,t3⟩:=lN (m:=1073741824) (n:=1073741824) he he
 have hu:-1729382256910270464<=bG (d.1.tdiv 65536,d.2.1.tdiv 65536,d.2.2.tdiv 65536) (bg (d.1.tdiv 65536,d.2.1.tdiv 65536,d.2.2.tdiv 65536) (bg G pb))/\bG (d.1.tdiv 65536,d.2.1.tdiv 65536,d.2.2.tdiv 65536) (bg (d.1.tdiv 65536,d.2.1.tdiv 65536,d.2.2.tdiv 65536) (bg G pb))<=1729382256910270464:=by unfold bG;omega
 have hv:bG (bg (d.1.tdiv 65536,d.2.1.tdiv 65536,d.2.2.tdiv 65536) (bg G pb)) (bg (d.1.tdiv 65536,d.2.1.tdiv 65536,d.2.2.tdiv 65536) (bg G pb))<=3458764513820540928:=by unfold bG;omega
 have cu:=zF (bg (d.1.tdiv 65536,d.2.1.tdiv 65536,d.2.2.tdiv 65536) (bg G pb))
 have bc:lO (d.1.tdiv 65536,d.2.1.tdiv 65536,d.2.2.tdiv 65536) (bg G pb)=if bG (d.1.tdiv 65536,d.2.1.tdiv 65536,d.2.2.tdiv 65536) (bg (d.1.tdiv 65536,d.2.1.tdiv 65536,d.2.2.tdiv 65536) (bg G pb))<=0 then 0 else min 256 (bG (d.1.tdiv 65536,d.2.1.tdiv 65536,d.2.2.tdiv 65536) (bg (d.1.tdiv 65536,d.2.1.tdiv 65536,d.2.2.tdiv 65536) (bg G pb))/max 1 (bG (bg (d.1.tdiv 65536,d.2.1.tdiv 65536,d.2.2.tdiv 65536) (bg G pb)) (bg (d.1.tdiv 65536,d.2.1.tdiv 65536,d.2.2.tdiv 65536) (bg G pb))/256)):=rfl
 clear r1 r2 r3 t1 t2 t3 he;generalize lO (d.1.tdiv 65536,d.2.1.tdiv 65536,d.2.2.tdiv 65536) (bg G pb)=t at *;generalize bG (d.1.tdiv 65536,d.2.1.tdiv 65536,d.2.2.tdiv 65536) (bg (d.1.tdiv 65536,d.2.1.tdiv 65536,d.2.2.tdiv 65536) (bg G pb))=u at *;generalize bG (bg (d.1.tdiv 65536,d.2.1.tdiv 65536,d.2.2.tdiv 65536) (bg G pb)) (bg (d.1.tdiv 65536,d.2.1.tdiv 65536,d.2.2.tdiv 65536) (bg G pb))=v at *;generalize bg (d.1.tdiv 65536,d.2.1.tdiv 65536,d.2.2.tdiv 65536) (bg G pb)=e at *;generalize bg G pb=c4 at *;by_cases a7:r=M
 .rw[T6 a7]at c
  simp only at c;rw[<-c];subst a7;rcases N with⟨rfl,rfl,E,F⟩|⟨rfl,rfl⟩
  .skip
   exact GS (zAe g0 g1 g2 g3 T D U h10 h11 A B l E F (zAe k j x1 x2 x3 o z I J i1 i2 e4 e5 H g))
  .skip
   exact GS (zAe g0 g1 g2 g3 T D U h10 h11 A B l k j (zAd x1 x2 x3 o z I J i1 i2 e4 e5 (gA H g)))
 rw[TZ a7]at c f
 have W:¬(M:Int)<=(r:Int):=by omega
 have K:¬M<=r:=by omega
 by_cases P:u<=0
 .rw[T6 P]at bc
  rw[T6 bc]at c;simp only at c;rw[<-c];rcases N with⟨rfl,rfl,E,F⟩|⟨rfl,rfl⟩
  .skip
   exact GS (zAe g0 g1 g2 g3 T D U h10 h11 A B l E F (zAe k j x1 x2 x3 o z I J i1 i2 e4 e5 H (it g W K P)))
  .skip
   exact GS (zAe g0 g1 g2 g3 T D U h10 h11 A B l k j (zAe x1 x2 x3 o z I J i1 i2 e4 e5 H g W (gA K P)))
 rw[TZ P]at bc;have a1:v.tdiv 256=v/256:=Uk cu;have a2:i64.wrap (v/256)=v/256:=aa
 have hm:1<=max 1 (v/256):=by omega
 generalize bb:max 1 (v/256)=m at *;have a3:u.tdiv m=u/m:=Uk (by omega);have h4:u/m<=u:=WN m (by omega);have h5:0<=u/m:=V8 (by omega) (by omega);have a4:i64.wrap (u/m)=u/m:=aa
 have a5:¬m=0:=by omega
 have a6:(m==0)=false:=by simp;omega
 have ar:=bc.symm;by_cases a8:t=0
 .rw[T6 a8]at c
  simp only at c;rw[<-c];rw[a8]at ar;rcases N with⟨rfl,rfl,E,F⟩|⟨rfl,rfl⟩
  .skip
   exact GS (zAe g0 g1 g2 g3 T D U h10 h11 A B l E F (zAe k j x1 x2 x3 o z I J i1 i2 e4 e5 H (zAd g W K P a1 a2 bb a3 a4 a5 a6 ar)))
  .skip
   exact GS (zAe g0 g1 g2 g3 T D U h10 h11 A B l k j (zAe x1 x2 x3 o z I J i1 i2 e4 e5 H g W (zAc K P a1 a2 bb a3 a4 a5 a6 ar)))
 rw[TZ a8]at c f;have b8:=f.2 _ rfl;simp only at c
 have cg:(t==0)=false:=by simp;omega
 have cP:=MH S t lo.2 (by omega) bs (by omega) bH.1 bH.2;have cS:=MH Q t L.2 (by omega) bq (by omega) bH.1 bH.2;have ck:i64.wrap ((r:Int)+1)=(r:Int)+1:=aa;rcases N with⟨rfl,rfl,E,F⟩|⟨rfl,rfl⟩
 .skip
  refine GT (zAe g0 g1 g2 g3 T D U h10 h11 A B l E F (zAe k j x1 x2 x3 o z I J i1 i2 e4 e5 H (zAe g W K P a1 a2 bb a3 a4 a5 a6 ar a8 cg ck))) ?_;refine⟨by omega,⟨kg S lo.2 t,kg Q L.2 t,n,r+1⟩,b8,by simp only,c,?_⟩;simp;exact⟨_,_,⟨rfl,rfl⟩,Or.inr ⟨rfl,rfl⟩⟩
 .skip
  refine GT (zAe g0 g1 g2 g3 T D U h10 h11 A B l k j (zAe x1 x2 x3 o z I J i1 i2 e4 e5 H g W (zAd K P a1 a2 bb a3 a4 a5 a6 ar a8 (gA cg ck)))) ?_;refine⟨by omega,⟨kg S lo.2 t,kg Q L.2 t,n,r+1⟩,b8,by simp only,c,?_⟩;simp;exact⟨_,_,⟨rfl,rfl⟩,Or.inr ⟨rfl,rfl⟩⟩
def AC(v:Vc)(j:Nat):List AV:=[.pv (Z (if 0<j then v.1 else 0)),.pv (Z (if 1<j then v.2.1 else 0)),.pv (Z (if 2<j then v.2.2 else 0))]
theorem Q4(a b:List av)(ha:a.length<=9223372036854775807)(hb:b.length<=9223372036854775807):aO 268 (aH a) (aH b) (.tup [ax (kJ a b),B (mc a b)]):=by
 have ca:=vY a ha;have cb:=vY b hb
 have hN:kJ a b=if az a&&az b then bE (ln a b)else(0,0,0):=rfl
 have hM:mc a b=(az a&&az b&&nz (bE (ln a b))):=rfl;rw[hN,hM]
 cases K:az a with
 |false=>
  rw[K]at ca;refine Dp func268 λC hP hN=>?_;exact Gy
 |true=>
 rw[K]at ca
 cases L:az b with
 |false=>
  rw[L]at cb;refine Dp func268 λC hP hN=>?_;exact Gy
 |true=>
 rw[L]at cb;have c1:=AD a ha;have c2:=AD b hb;have ad:=EI K L;have c5:=MI (ln a b) ad;have S:=(bX K).2.1;have T:=(bX L).2.1;have R:ln a b=((aF (aE a) a.length).1*b.length-(aF (aE b) b.length).1*a.length,(aF (aE a) a.length).2.1*b.length-(aF (aE b) b.length).2.1*a.length,(aF (aE a) a.length).2.2*b.length-(aF (aE b) b.length).2.2*a.length):=rfl;simp only[Vi,Ui,Un];have N:=gu K;have O:=gu L;have U:=lP (l:=a);have W:=lP (l:=b);generalize aE a=f at *;generalize aE b=g at *;generalize ln a b=V at *;generalize bE V=n at *;have wa:i64.wrap (a.length:Int)=(a.length:Int):=aa;have wb:i64.wrap (b.length:Int)=(b.length:Int):=aa;refine Dp func268 λC hP hN=>?_;refine Gz ?_;refine WP.loopN [] 3 (λk st=>st.t 0=.pv (aH a)/\st.t 1=.pv (aH b)/\st.t 4=.ptr 4 0/\st.h 4=some (.box [.pv (Z 0),.pv (Z 0),.pv (Z 0)] true false)/\st.t 5=.pv (B false)/\st.t 6=.ptr 6 0/\st.h 6=some (.box (AC V k) true false)/\st.t 7=.pv (aV f)/\st.t 8=.pv (aV g)/\st.t 9=.pv (Z k)) ?_ ?_
 .simp[AC]
 rintro k st hk ⟨g0,g1,g4,d,g5,o,c,q,r,m⟩
 have e:∀x:Int,-2147483648<=x/\x<=2147483648->∀n:Nat,n<=8->-17179869184<=x*n/\x*n<=17179869184:=λx j n hn=>by
  have:=bQ (a:=x) (b:=(n:Int)) 2147483648 8 (by omega) (by omega) (by omega) (by omega);omega
 rcases eF hk with rfl|rfl|rfl|rfl
 all_goals (simp[AC]at c m)
 .skip
  have D:∀i:Nat,i<=8->-17179869184<=(aF f i).1*b.length/\(aF f i).1*b.length<=17179869184:=λi hi=>by
   have h:=jL U i;obtain⟨q1,q2,q3⟩:=h;exact e (aF f i).1 (by omega) _ T
  have E:∀i:Nat,i<=8->-17179869184<=(aF g i).1*a.length/\(aF g i).1*a.length<=17179869184:=λi hi=>by
   have h:=jL W i;obtain⟨q1,q2,q3⟩:=h;exact e (aF g i).1 (by omega) _ S
  skip
  refine GT (zAc g0 g1 g4 g5 d c o q r m) ?_;refine WP.loopN [] a.length (λi st=>st.t 0=.pv (aH a)/\st.t 1=.pv (aH b)/\st.t 4=.ptr 4 0/\st.h 4=some (.box [.pv (Z 0),.pv (Z 0),.pv (Z 0)] true false)/\st.t 5=.pv (B false)/\st.t 6=.ptr 6 0/\st.h 6=some (.box [.pv (Z ((aF f i).1*b.length)),.pv (Z 0),.pv (Z 0)] true false)/\st.t 7=.pv (aV f)/\st.t 8=.pv (aV g)/\st.t 9=.pv (Z 0)/\st.t 10=.pv (Z i)) ?_ ?_
  .simp[aF,g0,g1,g4,d,g5,o,c,q,r,m]
  clear g0 g1 g4 d g5 o c q r m;rintro i st hi ⟨g0,g1,g4,d,g5,o,c,q,r,m,v⟩;by_cases s:i<a.length
  .have u:i<f.length:=by omega
   have F:=am s (by omega);obtain⟨p,j⟩:∃p,f[i]?=some p:=⟨_,an u⟩
   have G:∀h,f[i]'h=p:=λh=>by rw[an h]at j;exact UJ j
   have A:=D (i+1) (by omega);have J:=D i (by omega);have hp:=eM (TY.1 U p (Is j));obtain⟨p1,p2,p3⟩:=hp;have M:=e p.1 (by omega) _ T
   have hS:(aF f (i+1)).1*(b.length:Int)=(aF f i).1*b.length+p.1*b.length:=by
    rw[<-Int.add_mul];simp only[aF,j]
   rw[hS]at A|-;have P:i64.wrap (p.1*b.length)=p.1*b.length:=aa;generalize(aF f i).1*(b.length:Int)=y at *;have Q:i64.wrap (y+p.1*b.length)=y+p.1*b.length:=aa;exact GS (zAe g0 g1 g4 d g5 o c q r m v s u F (zAa j G P Q wb N O))
  have z:i=a.length:=by omega
  subst z;have X:=D a.length (by omega);generalize hy:(aF f a.length).1*(b.length:Int)=Y at *
  skip
  refine GT (zAd g0 g1 g4 g5 d c o q r m v (gA N O)) ?_;refine WP.loopN [] b.length (λi st=>st.t 0=.pv (aH a)/\st.t 1=.pv (aH b)/\st.t 4=.ptr 4 0/\st.h 4=some (.box [.pv (Z 0),.pv (Z 0),.pv (Z 0)] true false)/\st.t 5=.pv (B false)/\st.t 6=.ptr 6 0/\st.h 6=some (.box [.pv (Z (Y-(aF g i).1*a.length)),.pv (Z 0),.pv (Z 0)] true false)/\st.t 7=.pv (aV f)/\st.t 8=.pv (aV g)/\st.t 9=.pv (Z 0)/\st.t 11=.pv (Z i)) ?_ ?_
  .simp[aF,g0,g1,g4,d,g5,o,c,q,r,m]
  clear g0 g1 g4 d g5 o c q r m v;rintro i st hi ⟨g0,g1,g4,d,g5,o,c,q,r,m,H⟩;by_cases s:i<b.length
  .have u:i<g.length:=by omega
   have F:=am s (by omega);obtain⟨p,j⟩:∃p,g[i]?=some p:=⟨_,an u⟩
   have G:∀h,g[i]'h=p:=λh=>by rw[an h]at j;exact UJ j
   have A:=E (i+1) (by omega);have J:=E i (by omega);have hp:=eM (TY.1 W p (Is j));obtain⟨p1,p2,p3⟩:=hp;have M:=e p.1 (by omega) _ S
   have hS:(aF g (i+1)).1*(a.length:Int)=(aF g i).1*a.length+p.1*a.length:=by
    rw[<-Int.add_mul];simp only[aF,j]
   rw[hS]at A|-;have P:i64.wrap (p.1*a.length)=p.1*a.length:=aa;generalize(aF g i).1*(a.length:Int)=y at *;have Q:i64.wrap (Y-y-p.1*a.length)=Y-(y+p.1*a.length):=(aa (by omega) (by omega)).trans (by omega);exact Gy
  have z:i=b.length:=by omega
  subst z
  have I:Y-(aF g b.length).1*(a.length:Int)=V.1:=by rw[R,<-hy]
  rw[I]at c
  skip
  with_reducible repeat' (first|refine Sp.h ?_|((first|refine Wd ?_|refine Ss.h ?_|(refine Sb.h ?_ ?_ ?_<;>(try intro hgd)<;>try exact Xy))<;>simp -implicitDefEqProofs (maxSteps:=2000000) [hP,hN,g0,g1,g4,g5,d,c,o,q,r,m,H,N,O,AC]<;>try refine Ya ?_)|refine X2 ?_ ?_|(refine Xd ?_ ?_<;>intro hcd<;>try exact Xx))
 .skip
  have D:∀i:Nat,i<=8->-17179869184<=(aF f i).2.1*b.length/\(aF f i).2.1*b.length<=17179869184:=λi hi=>by
   have h:=jL U i;obtain⟨q1,q2,q3⟩:=h;exact e (aF f i).2.1 (by omega) _ T
  have E:∀i:Nat,i<=8->-17179869184<=(aF g i).2.1*a.length/\(aF g i).2.1*a.length<=17179869184:=λi hi=>by
   have h:=jL W i;obtain⟨q1,q2,q3⟩:=h;exact e (aF g i).2.1 (by omega) _ S
  skip
  refine GT (zAc g0 g1 g4 g5 d c o q r m) ?_;refine WP.loopN [] a.length (λi st=>st.t 0=.pv (aH a)/\st.t 1=.pv (aH b)/\st.t 4=.ptr 4 0/\st.h 4=some (.box [.pv (Z 0),.pv (Z 0),.pv (Z 0)] true false)/\st.t 5=.pv (B false)/\st.t 6=.ptr 6 0/\st.h 6=some (.box [.pv (Z V.1),.pv (Z ((aF f i).2.1*b.length)),.pv (Z 0)] true false)/\st.t 7=.pv (aV f)/\st.t 8=.pv (aV g)/\st.t 9=.pv (Z 1)/\st.t 10=.pv (Z i)) ?_ ?_
  .simp[aF,g0,g1,g4,d,g5,o,c,q,r,m]
  clear g0 g1 g4 d g5 o c q r m;rintro i st hi ⟨g0,g1,g4,d,g5,o,c,q,r,m,v⟩;by_cases s:i<a.length
  .have u:i<f.length:=by omega
   have F:=am s (by omega);obtain⟨p,j⟩:∃p,f[i]?=some p:=⟨_,an u⟩
   have G:∀h,f[i]'h=p:=λh=>by rw[an h]at j;exact UJ j
   have A:=D (i+1) (by omega);have J:=D i (by omega);have hp:=eM (TY.1 U p (Is j));obtain⟨p1,p2,p3⟩:=hp;have M:=e p.2.1 (by omega) _ T
   have hS:(aF f (i+1)).2.1*(b.length:Int)=(aF f i).2.1*b.length+p.2.1*b.length:=by
    rw[<-Int.add_mul];simp only[aF,j]
   rw[hS]at A|-;have P:i64.wrap (p.2.1*b.length)=p.2.1*b.length:=aa;generalize(aF f i).2.1*(b.length:Int)=y at *;have Q:i64.wrap (y+p.2.1*b.length)=y+p.2.1*b.length:=aa;exact GS (zAe g0 g1 g4 d g5 o c q r m v s u F (zAa j G P Q wb N O))
  have z:i=a.length:=by omega
  subst z;have X:=D a.length (by omega);generalize hy:(aF f a.length).2.1*(b.length:Int)=Y at *
  skip
  refine GT (zAd g0 g1 g4 g5 d c o q r m v (gA N O)) ?_;refine WP.loopN [] b.length (λi st=>st.t 0=.pv (aH a)/\st.t 1=.pv (aH b)/\st.t 4=.ptr 4 0/\st.h 4=some (.box [.pv (Z 0),.pv (Z 0),.pv (Z 0)] true false)/\st.t 5=.pv (B false)/\st.t 6=.ptr 6 0/\st.h 6=some (.box [.pv (Z V.1),.pv (Z (Y-(aF g i).2.1*a.length)),.pv (Z 0)] true false)/\st.t 7=.pv (aV f)/\st.t 8=.pv (aV g)/\st.t 9=.pv (Z 1)/\st.t 11=.pv (Z i)) ?_ ?_
  .simp[aF,g0,g1,g4,d,g5,o,c,q,r,m]
  clear g0 g1 g4 d g5 o c q r m v;rintro i st hi ⟨g0,g1,g4,d,g5,o,c,q,r,m,H⟩;by_cases s:i<b.length
  .have u:i<g.length:=by omega
   have F:=am s (by omega);obtain⟨p,j⟩:∃p,g[i]?=some p:=⟨_,an u⟩
   have G:∀h,g[i]'h=p:=λh=>by rw[an h]at j;exact UJ j
   have A:=E (i+1) (by omega);have J:=E i (by omega);have hp:=eM (TY.1 W p (Is j));obtain⟨p1,p2,p3⟩:=hp;have M:=e p.2.1 (by omega) _ S
   have hS:(aF g (i+1)).2.1*(a.length:Int)=(aF g i).2.1*a.length+p.2.1*a.length:=by
    rw[<-Int.add_mul];simp only[aF,j]
   rw[hS]at A|-;have P:i64.wrap (p.2.1*a.length)=p.2.1*a.length:=aa;generalize(aF g i).2.1*(a.length:Int)=y at *;have Q:i64.wrap (Y-y-p.2.1*a.length)=Y-(y+p.2.1*a.length):=(aa (by omega) (by omega)).trans (by omega);exact Gy
  have z:i=b.length:=by omega
  subst z
  have I:Y-(aF g b.length).2.1*(a.length:Int)=V.2.1:=by rw[R,<-hy]
  rw[I]at c
  skip
  with_reducible repeat' (first|refine Sp.h ?_|((first|refine Wd ?_|refine Ss.h ?_|(refine Sb.h ?_ ?_ ?_<;>(try intro hgd)<;>try exact Xy))<;>simp -implicitDefEqProofs (maxSteps:=2000000) [hP,hN,g0,g1,g4,g5,d,c,o,q,r,m,H,N,O,AC]<;>try refine Ya ?_)|refine X2 ?_ ?_|(refine Xd ?_ ?_<;>intro hcd<;>try exact Xx))
 .skip
  have D:∀i:Nat,i<=8->-17179869184<=(aF f i).2.2*b.length/\(aF f i).2.2*b.length<=17179869184:=λi hi=>by
   have h:=jL U i;obtain⟨q1,q2,q3⟩:=h;exact e (aF f i).2.2 (by omega) _ T
  have E:∀i:Nat,i<=8->-17179869184<=(aF g i).2.2*a.length/\(aF g i).2.2*a.length<=17179869184:=λi hi=>by
   have h:=jL W i;obtain⟨q1,q2,q3⟩:=h;exact e (aF g i).2.2 (by omega) _ S
  skip
  refine GT (zAc g0 g1 g4 g5 d c o q r m) ?_;refine WP.loopN [] a.length (λi st=>st.t 0=.pv (aH a)/\st.t 1=.pv (aH b)/\st.t 4=.ptr 4 0/\st.h 4=some (.box [.pv (Z 0),.pv (Z 0),.pv (Z 0)] true false)/\st.t 5=.pv (B false)/\st.t 6=.ptr 6 0/\st.h 6=some (.box [.pv (Z V.1),.pv (Z V.2.1),.pv (Z ((aF f i).2.2*b.length))] true false)/\st.t 7=.pv (aV f)/\st.t 8=.pv (aV g)/\st.t 9=.pv (Z 2)/\st.t 10=.pv (Z i)) ?_ ?_
  .simp[aF,g0,g1,g4,d,g5,o,c,q,r,m]
  clear g0 g1 g4 d g5 o c q r m;rintro i st hi ⟨g0,g1,g4,d,g5,o,c,q,r,m,v⟩;by_cases s:i<a.length
  .have u:i<f.length:=by omega
   have F:=am s (by omega);obtain⟨p,j⟩:∃p,f[i]?=some p:=⟨_,an u⟩
   have G:∀h,f[i]'h=p:=λh=>by rw[an h]at j;exact UJ j
   have A:=D (i+1) (by omega);have J:=D i (by omega);have hp:=eM (TY.1 U p (Is j));obtain⟨p1,p2,p3⟩:=hp;have M:=e p.2.2 (by omega) _ T
   have hS:(aF f (i+1)).2.2*(b.length:Int)=(aF f i).2.2*b.length+p.2.2*b.length:=by
    rw[<-Int.add_mul];simp only[aF,j]
   rw[hS]at A|-;have P:i64.wrap (p.2.2*b.length)=p.2.2*b.length:=aa;generalize(aF f i).2.2*(b.length:Int)=y at *;have Q:i64.wrap (y+p.2.2*b.length)=y+p.2.2*b.length:=aa;exact GS (zAe g0 g1 g4 d g5 o c q r m v s u F (zAa j G P Q wb N O))
  have z:i=a.length:=by omega
  subst z;have X:=D a.length (by omega);generalize hy:(aF f a.length).2.2*(b.length:Int)=Y at *
  skip
  refine GT (zAd g0 g1 g4 g5 d c o q r m v (gA N O)) ?_;refine WP.loopN [] b.length (λi st=>st.t 0=.pv (aH a)/\st.t 1=.pv (aH b)/\st.t 4=.ptr 4 0/\st.h 4=some (.box [.pv (Z 0),.pv (Z 0),.pv (Z 0)] true false)/\st.t 5=.pv (B false)/\st.t 6=.ptr 6 0/\st.h 6=some (.box [.pv (Z V.1),.pv (Z V.2.1),.pv (Z (Y-(aF g i).2.2*a.length))] true false)/\st.t 7=.pv (aV f)/\st.t 8=.pv (aV g)/\st.t 9=.pv (Z 2)/\st.t 11=.pv (Z i)) ?_ ?_
  .simp[aF,g0,g1,g4,d,g5,o,c,q,r,m]
  clear g0 g1 g4 d g5 o c q r m v;rintro i st hi ⟨g0,g1,g4,d,g5,o,c,q,r,m,H⟩;by_cases s:i<b.length
  .have u:i<g.length:=by omega
   have F:=am s (by omega);obtain⟨p,j⟩:∃p,g[i]?=some p:=⟨_,an u⟩
   have G:∀h,g[i]'h=p:=λh=>by rw[an h]at j;exact UJ j
   have A:=E (i+1) (by omega);have J:=E i (by omega);have hp:=eM (TY.1 W p (Is j));obtain⟨p1,p2,p3⟩:=hp;have M:=e p.2.2 (by omega) _ S
   have hS:(aF g (i+1)).2.2*(a.length:Int)=(aF g i).2.2*a.length+p.2.2*a.length:=by
    rw[<-Int.add_mul];simp only[aF,j]
   rw[hS]at A|-;have P:i64.wrap (p.2.2*a.length)=p.2.2*a.length:=aa;generalize(aF g i).2.2*(a.length:Int)=y at *;have Q:i64.wrap (Y-y-p.2.2*a.length)=Y-(y+p.2.2*a.length):=(aa (by omega) (by omega)).trans (by omega);exact Gy
  have z:i=b.length:=by omega
  subst z
  have I:Y-(aF g b.length).2.2*(a.length:Int)=V.2.2:=by rw[R,<-hy]
  rw[I]at c
  skip
  with_reducible repeat' (first|refine Sp.h ?_|((first|refine Wd ?_|refine Ss.h ?_|(refine Sb.h ?_ ?_ ?_<;>(try intro hgd)<;>try exact Xy))<;>simp -implicitDefEqProofs (maxSteps:=2000000) [hP,hN,g0,g1,g4,g5,d,c,o,q,r,m,H,N,O,AC]<;>try refine Ya ?_)|refine X2 ?_ ?_|(refine Xd ?_ ?_<;>intro hcd<;>try exact Xx))
 .skip
  exact GS (zAc g0 g1 g4 d g5 o c q r m)
theorem zL{n:Nat}(h:n<=100000000000)(m:Nat)(a:m<=10):(n+m)*24<=140737488355328:=by omega
theorem K6{v:α}(h:l[k]?=some v):(l.take (k+1)).filter p=(l.take k).filter p++(if p v=true then[v]else[]):=by
 rw[Wf,h,VK];simp only[Option.toList_some,List.filter_cons,List.filter_nil]
theorem Q5(a:List av)(f:Int)(b:List av)(g:Int)(c:List Vc)(N:a.length<=9223372036854775807)(O:b.length<=9223372036854775807)(hl:c.length<=100000000000):xL 229 (aH a) (Z f) (aH b) (Z g) (aV c) (aV (mT a f b g c)):=by
 have V:=vY a N;have W:=vY b O;have A:=AE f;have B:=AE g
 have Q:mT a f b g c=if uq a f b g then c.filter aQ++((if mc a b then[kJ a b]else[])++(kI++(if aQ (mS a f b g)then[mS a f b g]else[])))else[]:=rfl
 have E:uq a f b g=(az a&&az b&&bu f 0 1048576&&bu g 0 1048576):=rfl;rw[Q,E]
 cases s:az a with
 |false=>
  rw[s]at V;refine Dp func229 λC hP hN=>?_;exact Gy
 |true=>
 rw[s]at V
 cases u:az b with
 |false=>
  rw[u]at W;refine Dp func229 λC hP hN=>?_;exact Gy
 |true=>
 rw[u]at W
 cases y:bu f 0 1048576 with
 |false=>
  rw[y]at A;refine Dp func229 λC hP hN=>?_;exact Gy
 |true=>
 rw[y]at A
 cases z:bu g 0 1048576 with
 |false=>
  rw[z]at B;refine Dp func229 λC hP hN=>?_;exact Gy
 |true=>
 rw[z]at B;simp only[Vi,Ui];have c1:=AD a N;have c2:=AD b O;have a1:=(bX s).2.1;have a2:=(bX u).2.1;have ar:=gu s;have E:=gu u;simp only[bu,An,L4]at y z;have K:i64.wrap (f+g)=f+g:=aa;have c3:=MM (aE a) (aE b) (f+g) 64 (by omega) (by omega);have T:(jm (aE a) (aE b) (f+g) 64).2.n=mS a f b g:=rfl;rw[<-T];generalize jm (aE a) (aE b) (f+g) 64=R at *;have X:=Q4 a b N O;have ad:=Rs;have q:kI.length=6:=rfl;have r:=Ar kI;generalize kI=AX at *;generalize aE a=xa at *;generalize aE b=xb at *;have D:=As R.2.n;rw[tj]at D;have F:∀i:Nat,((c.take i).filter aQ).length<=100000000000:=λi=>VJ (Wq _ _) (by rw[UI];omega);refine Dp func229 λC hP hN=>?_;refine sh [11] trivial ?_;refine WP.loopN [] c.length (λi st=>st.t 0=.pv (aH a)/\st.t 1=.pv (Z f)/\st.t 2=.pv (aH b)/\st.t 3=.pv (Z g)/\st.t 4=.pv (aV c)/\st.t 12=.pv (Z i)/\st.t 11=.arr 11 ((c.take i).filter aQ).length/\st.h 11=some (.row 68 3 (((c.take i).filter aQ).map ax) 0)/\st.h 13=none/\st.h 15=none) (by simp) ?_;rintro i st hi ⟨g0,g1,g2,g3,g4,o,l,e,j,k⟩;by_cases G:i<c.length
 .have a5:=am G (by omega)
  generalize U:c[i]=v at *
  have hx:c[i]?=some v:=by rw[an G,U]
  have cv:=As v;rw[tj]at cv;have hs:=K6 (p:=aQ) hx;rw[hs];have d:=F i;generalize(c.take i).filter aQ=P at *
  cases x:aQ v with
  |true=>
   rw[x]at cv;simp only[Ui]
   have I:(P.length+1)*24<=140737488355328:=by omega
   have J:P.length<=9223372036854775806:=by omega
   skip
   exact Gy
  |false=>
   rw[x]at cv;simp only[T3,Ud,V7];exact Gy
 .have S:i=c.length:=by omega
  subst S;rw[VX]at l e;have d:=F c.length;rw[VX]at d;generalize c.filter aQ=P at *
  have I:(P.length+1)*24<=140737488355328:=by omega
  have J:P.length<=9223372036854775806:=by omega
  have z0:P.length<=9223372036854775799:=VJ d (by decide);have L:P.length<=9223372036854775800:=VJ d (by decide);have M:P.length<=9223372036854775801:=VJ d (by decide);have k3:(P.length+1+1)*24<=140737488355328:=zL d 2 (by decide);have Y:(P.length+6)*24<=140737488355328:=zL d 6 (by decide);have k5:(P.length+6+1)*24<=140737488355328:=zL d 7 (by decide);have k6:(P.length+1+6)*24<=140737488355328:=zL d 7 (by decide);have k7:(P.length+1+6+1)*24<=140737488355328:=zL d 8 (by decide)
  cases H:mc a b with
  |true=>
   rw[H]at X;generalize kJ a b=m at *;simp only[Ui]
   cases x:aQ R.2.n with
   |true=>
    rw[x]at D;simp only[Ui]
    skip
    exact GS (zAe g0 g1 g2 g3 g4 o l e j k I J k6 k7 (s4 K q r z0 L M))
   |false=>
    rw[x]at D;simp only[T3,Ud];exact GS (zAe g0 g1 g2 g3 g4 o l e j k I J k6 k7 (s4 K q r z0 L M))
  |false=>
   rw[H]at X;generalize kJ a b=m at *;simp only[T3,Ud]
   cases x:aQ R.2.n with
   |true=>
    rw[x]at D;simp only[Ui]
    skip
    exact GS (zAe g0 g1 g2 g3 g4 o l e j k I J Y k5 (s4 K q r z0 L M))
   |false=>
    rw[x]at D;simp only[T3,Ud];exact GS (zAe g0 g1 g2 g3 g4 o l e j k I J Y k5 (s4 K q r z0 L M))
theorem Jd(h:l.findIdx? p=some i):∃v,l[i]?=some v/\i<l.length/\l.find? p=some v:=by
 rw[Wc]at h;obtain⟨hi,a,b⟩:=h;refine⟨l[i],an hi,hi,vN (an hi) a λj x c e=>?_⟩;obtain⟨d,rfl⟩:=th.1 e;have:=b j c;simpa using this
theorem FY(h:l.findIdx? p=none):l.find? p=none:=by
 rw[List.findIdx?_eq_none_iff]at h;rw[U9];intro x a;rw[h x a];simp
theorem Hz(a:List av)(d:Int)(b:List av)(e:Int)(c:List Vc):(mT a d b e c).length<=c.length+8:=by
 have g:mT a d b e c=if uq a d b e then c.filter aQ++((if mc a b then[kJ a b]else[])++(kI++(if aQ (mS a d b e)then[mS a d b e]else[])))else[]:=rfl
 have hf:=Wq aQ c;have f:kI.length=6:=rfl;rw[g];split
 .rw[Uj,Uj,Uj,f]
  have i:(if mc a b then[kJ a b]else([]:List Vc)).length<=1:=by split<;>simp
  have j:(if aQ (mS a d b e)then[mS a d b e]else([]:List Vc)).length<=1:=by split<;>simp
  omega
 .simp
theorem Q6(a:List av)(e:Int)(b:List av)(f:Int)(c:List Vc)(l:a.length<=9223372036854775807)(m:b.length<=9223372036854775807)(q:c.length<=100000000000):xL 163 (aH a) (Z e) (aH b) (Z f) (aV c) (.tup [ax (kK a e b f c).1,B (kK a e b f c).2]):=by
 have u:=Q5 a e b f c l m q;have o:=Hz a e b f c
 have d:kK a e b f c=match(mT a e b f c).find? (λn=>ju n a e b f)with
  |some n=>(n,true)
  |none=>((0,0,0),false):=rfl
 have j:=Rr (mT a e b f c) a e b f (by omega) l m;generalize mT a e b f c=k at *
 cases g:k.findIdx? (λn=>ju n a e b f)with
 |none=>
  rw[FY g]at d;rw[g]at j;simp only at d j;rw[d];refine Dp func163 λC hP hN=>?_;exact Gy
 |some i=>
  obtain⟨v,p,r,hf⟩:=Jd g;rw[hf]at d;rw[g]at j;simp only at d j
  have s:∀h,k[i]'h=v:=λh=>by rw[an h]at p;exact UJ p
  rw[d];refine Dp func163 λC hP hN=>?_;exact Gy
abbrev Kb(p:List av)(r:Int):PV:=.agg [aH p,Z r]
def xA(SH:List Sh)(PT:List (List av))(p:Nat×Nat):PV:=Kb (dN PT p.1) (du SH p.1)
def xD(SH:List Sh)(PT:List (List av))(p:Nat×Nat):PV:=Kb (dN PT p.2) (du SH p.2)
abbrev Dn(s:Sce)(bx:List Iv):PV:=.sl ((dB s).map (xA s.shs (fK s bx)))
abbrev Dq(s:Sce)(bx:List Iv):PV:=.sl ((dB s).map (xD s.shs (fK s bx)))
theorem EW{β:Type}(f:α->β){v:α}(h:l[k]?=some v):(l.take (k+1)).map f=(l.take k).map f++[f v]:=by
 rw[Wf,h,V0];rfl
theorem HA{β:Type}(f:α->β)(h:k<=l.length):((l.take k).map f).length=k:=by
 rw[Uu,UI];omega
theorem Q7(s:Sce)(bx:List Iv)(hs:ScL s)(q:bx.length<=9223372036854775807):aO 105 (gb s) (iv bx) (.tup (if gk s bx then[Dn s bx,Dq s bx,B true]else[.sl [],.sl [],B false])):=by
 have cc:=J9 s hs;have D:=M7 s.js s.ms bx hs.js q;have hd:gk s bx=(decide (aZ s=0)&&kj s.js bx):=rfl;by_cases f:aZ s=0
 case neg=>
  have g:(aZ s !=0)=true:=by simp[f]
  rw[U0 f,UB]at hd;rw[hd];refine Dp func105 λC hP hN=>?_;exact Gy
 have g:(aZ s !=0)=false:=by simp[f]
 rw[UA f,Un]at hd
 cases e:kj s.js bx with
 |false=>
  rw[e]at hd D;rw[hd];refine Dp func105 λC hP hN=>?_;exact Gy
 |true=>
 have X:=Rk s bx hs f e;have Y:=P4 s hs;rw[e]at hd D;have m:=FO hd;rw[hd];simp only[Dn,Dq,Ui];have G:=m.few;generalize dB s=PR at *;generalize fK s bx=PT at *;obtain⟨js,ms,SH,sks⟩:=s;simp only at *;refine Dp func105 λC hP hN=>?_;refine sh [8,9] (gA f g) ?_;refine WP.loopN [] PR.length (λi st=>st.t 2=.ptr 2 0/\st.h 2=some (.box [.pv (.sl (js.map bR)),.pv (.sl (ms.map dC)),.pv (.sl (SH.map dc)),.pv (.sl (sks.map aP))] true false)/\st.t 7=.pv (.sl (PT.map aH))/\st.t 8=.arr 8 i/\st.h 8=some (.row 179 2 ((PR.take i).map (xA SH PT)) 0)/\st.t 9=.arr 9 i/\st.h 9=some (.row 179 2 ((PR.take i).map (xD SH PT)) 0)/\st.t 10=.pv (.sl (PR.map qM))/\st.t 11=.pv (Z i)) (by simp) ?_;rintro k st hi ⟨g2,M,g7,g8,n,g9,o,K,L⟩;by_cases c:k<PR.length
 .have N:=am c (by omega)
  obtain⟨p,hp⟩:∃p,PR[k]?=some p:=⟨_,an c⟩;have E:=EW (xA SH PT) hp;have F:=EW (xD SH PT) hp;have zA:=HA (xA SH PT) (Nat.le_of_lt c);have zB:=HA (xD SH PT) (Nat.le_of_lt c);rw[E,F];generalize(PR.take k).map (xA SH PT)=V at *;generalize(PR.take k).map (xD SH PT)=W at *;clear E F;obtain⟨H,y⟩:=th.1 hp;obtain⟨i,j⟩:=p;have hpr:=m.prs _ (Is hp);simp only at hpr;have hl:=m.len;have Q:∀h,PR[k]'h=(i,j):=λ_=>y
  have T:i<PT.length:=by omega
  have U:j<PT.length:=by omega
  obtain⟨a,l⟩:∃x,PT[i]?=some x:=⟨_,an T⟩;obtain⟨b,d⟩:∃x,PT[j]?=some x:=⟨_,an U⟩;obtain⟨u,z⟩:∃x,SH[i]?=some x:=⟨_,an hpr.1⟩;obtain⟨v,A⟩:∃x,SH[j]?=some x:=⟨_,an hpr.2⟩
  have O:∀h,PT[i]'h=a:=λh=>by rw[an h]at l;exact UJ l
  have P:∀h,PT[j]'h=b:=λh=>by rw[an h]at d;exact UJ d
  have R:∀h,SH[i]'h=u:=λh=>by rw[an h]at z;exact UJ z
  have S:∀h,SH[j]'h=v:=λh=>by rw[an h]at A;exact UJ A
  have I:xA SH PT (i,j)=.agg [aH a,Z u.rad]:=by simp[xA,dN,du,l,z]
  have J:xD SH PT (i,j)=.agg [aH b,Z v.rad]:=by simp[xD,dN,du,d,A]
  rw[I,J];obtain⟨h1,h2⟩:=hpr
  have k1:(k+1)*32<=140737488355328:=by omega
  have k2:k<=9223372036854775806:=by omega
  skip
  exact Gy
 .have r:k=PR.length:=by omega
  subst r;rw[VX]at n o;exact Gy
theorem K7(a:List Vc)(i:Nat)(hi:i<a.length)(z:Option Value)(e n:Nat)(y:Option Value):lU {size:=n,zero:=z,kind:=TK.slice e 3 24 y} (.pv (aV a)) (some (.pv (.val (.int .i64 (i:Int))))) (some (.pv (.val (.int .i64 ((i:Int)+1)))))=some (.pv (aV (kh a i))):=by
 have b:(0:Int)<=(i:Int):=by omega
 have c:(0:Int)<=(i:Int)+1:=by omega
 have d:((i:Int)).toNat=i:=by omega
 have f:((i:Int)+1).toNat=i+1:=by omega
 simp only[lU,T6 b,T6 c,d,f,Uu];rw[T6 ⟨by omega,by omega,by decide,Ar a⟩]
 congr 3
 rw[<-List.map_take,<-WL]
 congr 1
 unfold kh;rw[List.drop_take,show i+1-i=1 by omega]
theorem FZ(h:¬i<hints.length):kh hints i=[]:=by
 unfold kh;rw[Wj (by omega)];rfl
theorem MN{p:Nat×Nat}(h:PR[i]?=some p):(PR.map (xA SH PT))[i]?=some (.agg [aH (dN PT p.1),Z (du SH p.1)]):=by
 rw[T0,h];rfl
theorem MO{p:Nat×Nat}(h:PR[i]?=some p):(PR.map (xD SH PT))[i]?=some (.agg [aH (dN PT p.2),Z (du SH p.2)]):=by
 rw[T0,h];rfl
def vW(a:Bool):Int:=if a then 1 else 0
def OC(a:List PV)(kd:Int)(i:Nat)(h:Hp):Prop:=(i=0/\h 10=some (.box [.pv (Z kd),.pv (.val (.slice none 0 0)),.pv (Z 0),.pv (.val (.slice none 0 0)),.pv (.val (.slice none 0 0))] true false)/\h 71=none)\/(0<i/\h 10=some (.box [.pv (Z kd),.arr 71 i,.pv (Z 0),.pv (.val (.slice none 0 0)),.pv (.val (.slice none 0 0))] true false)/\h 71=some (.row 68 3 (a.take i) 0))
def OD(SH:List Sh)(PR:List (Nat×Nat))(PT:List (List av))(a:List Vc)(d:List PV)(b:Vd)(i:Nat)(h:Hp):Prop:=∃c,jh SH PR PT a (PR.length-i) i c=b/\OC d (vW c) i h
theorem qO{c:List PV}{a:Vd}{h:Hp}(b:Bool)(h1:jh SH PR PT hints (PR.length-i) i b=a)(d:OC c (vW b) i h):OD SH PR PT hints c a i h:=⟨b,h1,d⟩
set_option maxRecDepth 20000 in
theorem Q8(s:Sce)(bx:List Iv)(b:List Vc)(hs:ScL s)(ba:bx.length<=9223372036854775807)(hh:b.length<=9223372036854775807):mm 111 (gb s) (iv bx) (aV b) (zI (bw s bx b)):=by
 have cp:=Q7 s bx hs ba
 have hd:bw s bx b=if gk s bx then jh s.shs (dB s) (fK s bx) b (dB s).length 0 true else⟨0,[],⟨0,[],[]⟩⟩:=rfl
 cases hp:gk s bx with
 |false=>
  rw[hp]at cp hd;simp only[T3,Ud]at cp hd;rw[hd];refine Dp func111 λC hP hN=>?_;exact GS trivial
 |true=>
 rw[hp]at cp hd;simp only[Ui]at cp hd;have hb:=FO hp;have a5:=EK hp;rw[hd];simp only[Dn,Dq]at cp;generalize dB s=PR at *;generalize fK s bx=PT at *;generalize s.shs=SH at *;have bH:=hb.few;generalize a:jh SH PR PT b PR.length 0 true=a6 at *;generalize X:(dT SH PR PT b).map ax=V
 have b0:V.length=PR.length:=by rw[<-X];simp[dT]
 have a2:∀k p,PR[k]?=some p->V[k]?=some (ax (qo SH PT b k p).1):=λk q hk=>by rw[<-X,dT,T0,List.getElem?_mapIdx,hk];rfl
 have ad:=λ(i:Nat)(p:Nat×Nat)(h:PR[i]?=some p)=>MN (SH:=SH) (PT:=PT) h;have a1:=λ(i:Nat)(p:Nat×Nat)(h:PR[i]?=some p)=>MO (SH:=SH) (PT:=PT) h
 have l:(PR.map (xA SH PT)).length=PR.length:=by simp
 have m:(PR.map (xD SH PT)).length=PR.length:=by simp
 generalize PR.map (xA SH PT)=LA at *;generalize PR.map (xD SH PT)=LB at *;refine Dp func111 λC hP hN=>?_;refine GT (gA l m) ?_;refine WP.loopN [13,15] PR.length (λi st=>st.t 2=.pv (aV b)/\st.t 6=.ptr 6 0/\st.h 6=some (.box [.pv (Z 0),.pv (.val (.slice none 0 0)),.pv (Z 0),.pv (.val (.slice none 0 0)),.pv (.val (.slice none 0 0))] true false)/\st.t 7=.pv (.sl LA)/\st.t 8=.pv (.sl LB)/\st.t 10=.ptr 10 0/\st.t 11=.pv (Z i)/\st.h 13=none/\st.h 15=none/\OD SH PR PT b V a6 i st.h) ?_ ?_
 .simp
  exact qO true a (.inl ⟨rfl,by simp[vW],by simp⟩)
 rintro i st hi ⟨g2,L,r,M,N,n,o,e,f,ap,a,U⟩;by_cases x:i<PR.length
 .have B:=am x (by omega)
  have j:(i:Int)<(PR.length:Int):=by omega
  obtain⟨p,hp⟩:∃p,PR[i]?=some p:=⟨_,an x⟩;have P:=ad i p hp;have Q:=a1 i p hp
  have z:∀h,LA[i]'h=.agg [aH (dN PT p.1),Z (du SH p.1)]:=λh=>by rw[an h]at P;exact UJ P
  have A:∀h,LB[i]'h=.agg [aH (dN PT p.2),Z (du SH p.2)]:=λh=>by rw[an h]at Q;exact UJ Q
  have r1:=a5 p.1;have r2:=a5 p.2;have l1:=ut hb p.1;have l2:=ut hb p.2;have T:=Q6 (dN PT p.1) (du SH p.1) (dN PT p.2) (du SH p.2) (kh b i) (by omega) (by omega) (by simp[kh];omega);have bb:qo SH PT b i p=kK (dN PT p.1) (du SH p.1) (dN PT p.2) (du SH p.2) (kh b i):=rfl;rw[<-bb]at T;rw[show PR.length-i=(PR.length-i-1)+1 by omega]at a;simp only[jh,hp]at a;have a7:=a2 i p hp;generalize qo SH PT b i p=F at *
  have I:V.take (i+1)=V.take i++[ax F.1]:=by rw[Wf,a7];rfl
  have D:(V.take i).length=i:=by rw[UI];omega
  have E:i<=V.length:=by omega
  have c1:=AD (dN PT p.1) (by omega);have c2:=AD (dN PT p.2) (by omega);have z1:=od l1;have z2:=od l2;have c3:=MM (aE (dN PT p.1)) (aE (dN PT p.2)) (du SH p.1+du SH p.2) 64 (by omega) (by omega);have a8:qd SH PT p=jm (aE (dN PT p.1)) (aE (dN PT p.2)) (du SH p.1+du SH p.2) 64:=rfl;have bq:=vO (aE (dN PT p.1)) (aE (dN PT p.2)) (du SH p.1+du SH p.2) 64;rw[<-a8]at c3 bq;have Y:i64.wrap (du SH p.1+du SH p.2)=du SH p.1+du SH p.2:=aa;generalize qd SH PT p=K at *;have W:=Q3 K.2.w K.2.v (dN PT p.1) (du SH p.1) (dN PT p.2) (du SH p.2) (by omega) (by omega) (by omega) (by omega);have bs:rH SH PT K.2.w K.2.v p=(oa K.2.w K.2.v (dN PT p.1) (du SH p.1) (dN PT p.2) (du SH p.2)&&decide (0<=lM K.2.w K.2.v (dN PT p.1) (du SH p.1) (dN PT p.2) (du SH p.2))):=rfl;rw[<-bs]at W
  have R:(i+1)*24<=140737488355328:=by omega
  have S:i<=9223372036854775806:=by omega
  clear a2 X ad a1;by_cases u:i<b.length
  .have y:=K7 b i u
   have J:(i:Int)<(b.length:Int):=by omega
   rcases U with⟨g,c,d⟩|⟨g,c,d⟩
   .have O:V.take i=[]:=by rw[g];rfl
    rw[O,List.nil_append]at I
    cases G:F.2 with
    |true=>
     rw[G]at T a;simp only[Ui]at a;refine GT (zAe g2 L r M N n o e f c d u J x (zAd j B P z Q A l m y D E (gA R S))) ?_;rw[show PR.length-i-1=PR.length-(i+1) by omega]at a
     all_goals exact qO ap a (.inr ⟨by omega,by simp[g],by simp[I]⟩)
    |false=>
     rw[G]at T a;simp only[T3,Ud]at a
     cases H:rH SH PT K.2.w K.2.v p with
     |true=>
      rw[H]at W a;simp only[Ui]at a;subst a;exact GS (zAe g2 L r M N n o e f c d u J x (zAd j B P z Q A l m y D E (be R S Y)))
     |false=>
      rw[H]at W a;simp only[T3,Ud]at a;rw[show PR.length-i-1=PR.length-(i+1) by omega]at a;refine GT (zAe g2 L r M N n o e f c d u J x (zAd j B P z Q A l m y D E (be R S Y))) ?_
      all_goals exact qO false a (.inr ⟨by omega,by simp[vW,g],by simp[I]⟩)
   .have O:0<i:=g
    cases G:F.2 with
    |true=>
     rw[G]at T a;simp only[Ui]at a;refine GT (zAe g2 L r M N n o e f c d u J x (zAd j B P z Q A l m y D E (gA R S))) ?_;rw[show PR.length-i-1=PR.length-(i+1) by omega]at a
     all_goals exact qO ap a (.inr ⟨by omega,by simp[g],by simp[I]⟩)
    |false=>
     rw[G]at T a;simp only[T3,Ud]at a
     cases H:rH SH PT K.2.w K.2.v p with
     |true=>
      rw[H]at W a;simp only[Ui]at a;subst a;exact GS (zAe g2 L r M N n o e f c d u J x (zAd j B P z Q A l m y D E (be R S Y)))
     |false=>
      rw[H]at W a;simp only[T3,Ud]at a;rw[show PR.length-i-1=PR.length-(i+1) by omega]at a;refine GT (zAe g2 L r M N n o e f c d u J x (zAd j B P z Q A l m y D E (be R S Y))) ?_
      all_goals exact qO false a (.inr ⟨by omega,by simp[vW,g],by simp[I]⟩)
  .have y:¬(i:Int)<(b.length:Int):=by omega
   rw[FZ u]at T;simp only[aV,WB]at T;rcases U with⟨g,c,d⟩|⟨g,c,d⟩
   .have O:V.take i=[]:=by rw[g];rfl
    rw[O,List.nil_append]at I
    cases G:F.2 with
    |true=>
     rw[G]at T a;simp only[Ui]at a;refine GT (zAe g2 L r M N n o e f c d u x j (zAd B P z Q A l m y D E R S)) ?_;rw[show PR.length-i-1=PR.length-(i+1) by omega]at a
     all_goals exact qO ap a (.inr ⟨by omega,by simp[g],by simp[I]⟩)
    |false=>
     rw[G]at T a;simp only[T3,Ud]at a
     cases H:rH SH PT K.2.w K.2.v p with
     |true=>
      rw[H]at W a;simp only[Ui]at a;subst a;exact GS (zAe g2 L r M N n o e f c d u x j (zAd B P z Q A l m y D E R (gA S Y)))
     |false=>
      rw[H]at W a;simp only[T3,Ud]at a;rw[show PR.length-i-1=PR.length-(i+1) by omega]at a;refine GT (zAe g2 L r M N n o e f c d u x j (zAd B P z Q A l m y D E R (gA S Y))) ?_
      all_goals exact qO false a (.inr ⟨by omega,by simp[vW,g],by simp[I]⟩)
   .have O:0<i:=g
    cases G:F.2 with
    |true=>
     rw[G]at T a;simp only[Ui]at a;refine GT (zAe g2 L r M N n o e f c d u x j (zAd B P z Q A l m y D E R S)) ?_;rw[show PR.length-i-1=PR.length-(i+1) by omega]at a
     all_goals exact qO ap a (.inr ⟨by omega,by simp[g],by simp[I]⟩)
    |false=>
     rw[G]at T a;simp only[T3,Ud]at a
     cases H:rH SH PT K.2.w K.2.v p with
     |true=>
      rw[H]at W a;simp only[Ui]at a;subst a;exact GS (zAe g2 L r M N n o e f c d u x j (zAd B P z Q A l m y D E R (gA S Y)))
     |false=>
      rw[H]at W a;simp only[T3,Ud]at a;rw[show PR.length-i-1=PR.length-(i+1) by omega]at a;refine GT (zAe g2 L r M N n o e f c d u x j (zAd B P z Q A l m y D E R (gA S Y))) ?_
      all_goals exact qO false a (.inr ⟨by omega,by simp[vW,g],by simp[I]⟩)
 .have bc:i=PR.length:=by omega
  subst bc;rw[VW]at a;simp only[jh]at a
  have ar:(dT SH PR PT b).length=PR.length:=by simp[dT]
  rcases U with⟨g,c,d⟩|⟨g,c,d⟩
  .have O:dT SH PR PT b=[]:=Uv (by omega)
   rw[O]at a
   cases ap with
   |true=>
    simp only[Ui]at a;subst a;simp only[vW,Ui]at c;exact GS (zAd g2 L r M N n o c d e f (be l m g))
   |false=>
    simp only[T3,Ud]at a;subst a;simp only[vW,T3,Ud]at c;exact GS (zAd g2 L r M N n o c d e f (be l m g))
  .rw[Up (by omega),<-X]at d
   cases ap with
   |true=>
    simp only[Ui]at a;subst a;simp only[vW,Ui]at c;exact GS (zAd g2 L r M N n o c d e f (be l m ar))
   |false=>
    simp only[T3,Ud]at a;subst a;simp only[vW,T3,Ud]at c;exact GS (zAd g2 L r M N n o c d e f (be l m ar))
theorem KM{js:List J}{ms:List Ms}(b:List (Int×Int)):(oF b (af js ms)&&decide (0<b.length))=gH js ms b:=by
 unfold gH af;by_cases c:aW js ms=0
 .have f:=qG c
  simp only[c,Ui,VR,Un];by_cases d:js.length=b.length
  .have l:eX dS b (js.map gO)=eX (λj x=>dS x (gO j)) js b:=by
    have e:eX dS b (js.map gO)=true↔eX (λj x=>dS x (gO j)) js b=true:=by
     rw[lJ,lJ];constructor
     .intro H i h a;have:=H i a (by simpa using h);simpa using this
     .intro H i h a;have:=H i (by simpa using a) h;simpa using this
    cases x:eX dS b (js.map gO)<;>cases y:eX (λj x=>dS x (gO j)) js b<;>simp_all
   simp only[oF,Uu,l]
   have m:decide (b.length=js.length)=true:=by simp[d]
   have n:decide (js.length=b.length)=true:=by simp[d]
   have o:decide (0<b.length)=true:=by simp;omega
   simp only[m,n,o,Un,VD]
  .have g:decide (b.length=js.length)=false:=by simp;omega
   have k:decide (js.length=b.length)=false:=by simp;omega
   simp[oF,g,k]
 .simp only[c,Ud,decide_false,UB]
  unfold oF;cases b<;>simp
theorem SJ(js:List J)(ms:List Ms)(b:List (Int×Int))(e:js.length<=9223372036854775807)(f:ms.length<=9223372036854775807)(d:b.length<=9223372036854775807):aO 109 (gP js ms) (iv b) (B (gH js ms b)):=by
 have a:(af js ms).length<=9223372036854775807:=by unfold af;split<;>simp;omega
 have g:=Og js ms e f;have c:=Pj b (af js ms) d a;rw[Fu]at c;rw[<-KM];generalize af js ms=u at *;generalize oF b u=v at *;refine Dp func109 λC hP hN=>?_;exact Gy
 all_goals simp_all
theorem LY(s:Sce)(t:Tr)(i:Int)(hs:ScL s)(F:t.cells.length<=9223372036854775807)(L:t.root.length<=9223372036854775807)(y:∀c∈t.cells,c.v.nor.length<=9223372036854775807):mm 49 (gb s) (fg t) (Z i) (.tup [fg (iI s t i),B (j6 s t i)]):=by
 have q:=hs.js;have u:=hs.ms
 have f:(dq t i).length<=9223372036854775807:=by
  unfold dq;split
  .rename_i h
   simp only[eR,An,L4]at h;have:=(kS h.1.1 (c:=i) (by omega)).2.1;omega
  .simp
 have j:=OJ t i F;have K:=J9 s hs;have z:=SJ s.js s.ms (dq t i) q u f
 cases hp:rD s t i with
 |true=>
  have g:=hp;simp only[rD,An,L4]at hp;obtain⟨⟨d,a⟩,m⟩:=hp;have l:=a;simp only[eR,An,L4]at l;obtain⟨k,rfl⟩:∃k:Nat,i=k:=⟨i.toNat,by omega⟩
  have r:k<t.cells.length:=by omega
  obtain⟨c,p⟩:∃c,t.cells[k]?=some c:=⟨_,an r⟩;have G:∀h,t.cells[k]'h=c:=λh=>bZ p h
  have x:eU t k=c.v:=by simp[eU,p]
  have I:=Q8 s (dq t k) c.v.nor hs f (y c (Is p))
  have E:lh s t k=aY (bw s (dq t k) c.v.nor):=by rw[lh,Uh,x]
  have o:iI s t k=cy t k (aY (bw s (dq t k) c.v.nor)):=by rw[iI,T6 g,E]
  have n:j6 s t k=cJ t k (aY (bw s (dq t k) c.v.nor)):=by rw[j6,g,Un,E]
  rw[o,n]
  have e:(aZ s !=0)=false:=by simp[d]
  rw[a]at j;rw[m]at z;generalize bw s (dq t k) c.v.nor=V at *;generalize dq t (k:Int)=b at *;obtain⟨H,nl,⟨pr,A,D⟩⟩:=V;simp only[aY];have J:=RD t k ⟨H,nl,pr,A,D⟩ F;refine Dp func49 λC hP hN=>?_;exact Gy
 |false=>
  have o:iI s t i=t:=by rw[iI,TZ (by simp[hp])]
  have n:j6 s t i=false:=by rw[j6,hp,UB]
  rw[o,n];by_cases d:aZ s=0
  .have e:(aZ s !=0)=false:=by simp[d]
   cases a:eR t i with
   |false=>
    rw[a]at j;refine Dp func49 λC hP hN=>?_;exact Gy
   |true=>
    have m:gH s.js s.ms (dq t i)=false:=by simpa[rD,d,a]using hp
    rw[a]at j;rw[m]at z;refine Dp func49 λC hP hN=>?_;exact Gy
  .have e:(aZ s !=0)=true:=by simp[d]
   refine Dp func49 λC hP hN=>?_;exact Gy
theorem SK(s:Sce)(t:Tr)(i j:Int)(hs:ScL s)(A:TL t)(O:t.cells.length<=999990):zS 52 (gb s) (fg t) (Z i) (Z j) (.tup [fg (mj s t i j),B (ud s t i j)]):=by
 have M:=A.c;have N:=A.r;have F:=RC t i j (by omega);have y:=yj A O i j;have d:ud s t i j=(dx t i j&&j6 s (dp t i j) t.cells.length&&j6 s (n7 s t i j) (t.cells.length+1)):=rfl
 have hF:mj s t i j=if ud s t i j then iI s (n7 s t i j) (t.cells.length+1)else t:=rfl
 cases E:dx t i j with
 |false=>
  rw[E,UB,UB]at d;rw[d,TZ (by simp)]at hF;rw[E]at F;rw[d,hF];refine Dp func52 λC hP hN=>?_;exact Gy
 |true=>
 rw[E]at F d;have J:n7 s t i j=iI s (dp t i j) t.cells.length:=rfl;have D:=LY s (dp t i j) t.cells.length hs (by have:=y.c;omega) (by have:=y.r;omega) y.v;rw[<-J]at D;have g:TL (n7 s t i j):=Hd y _;have G:=LY s (n7 s t i j) (t.cells.length+1) hs (by have:=g.c;omega) (by have:=g.r;omega) g.v;clear J y g A;generalize P:dp t i j=u at *;generalize n7 s t i j=l at *;have w0:i64.wrap ((t.cells.length:Int)+2)=(t.cells.length:Int)+2:=aa;have Q:i64.wrap ((t.cells.length:Int)+1)=(t.cells.length:Int)+1:=aa;have R:i64.wrap ((t.cells.length:Int)+1+1)=(t.cells.length:Int)+2:=aa;generalize hn:(t.cells.length:Int)=n at *;obtain⟨root,cells⟩:=t;simp only at *
 cases z:j6 s u n with
 |false=>
  rw[z,Vl,UB]at d;rw[d,TZ (by simp)]at hF;rw[z]at D;rw[d,hF];refine Dp func52 λC hP hN=>?_;refine Gz ?_;refine WP.loopN [] 1 (λk st=>st.t 4=.ptr 4 0/\st.h 4=some (.box [.pv (.sl (s.js.map bR)),.pv (.sl (s.ms.map dC)),.pv (.sl (s.shs.map dc)),.pv (.sl (s.sks.map aP))] true false)/\st.t 5=.ptr 5 0/\st.h 5=some (.box [.pv (iv root),.pv (.sl (cells.map bz))] true false)/\st.t 8=.ptr 8 0/\st.h 8=some (.box [.pv (.val (.slice none 0 0)),.pv (.val (.slice none 0 0))] true false)/\st.t 10=.pv (Z n)/\st.t 11=.ptr 11 0/\st.h 11=some (.box [.pv (iv u.root),.pv (.sl (u.cells.map bz))] true false)/\st.t 13=.pv (Z n)/\k=0) (by simp) ?_;rintro k st K ⟨g4,p,g5,q,H,x,m,o,b,e,a⟩;subst a
  have f:n<n+2:=by omega
  exact Gy
 |true=>
 rw[z,VD,Un]at d;rw[z]at D
 cases I:j6 s l (n+1)with
 |false=>
  rw[I]at d G;rw[d,TZ (by simp)]at hF;rw[d,hF];refine Dp func52 λC hP hN=>?_;refine Gz ?_;refine WP.loopN [] 2 (λk st=>st.t 4=.ptr 4 0/\st.h 4=some (.box [.pv (.sl (s.js.map bR)),.pv (.sl (s.ms.map dC)),.pv (.sl (s.shs.map dc)),.pv (.sl (s.sks.map aP))] true false)/\st.t 5=.ptr 5 0/\st.h 5=some (.box [.pv (iv root),.pv (.sl (cells.map bz))] true false)/\st.t 8=.ptr 8 0/\st.h 8=some (.box [.pv (.val (.slice none 0 0)),.pv (.val (.slice none 0 0))] true false)/\st.t 10=.pv (Z n)/\st.t 11=.ptr 11 0/\((k=0/\st.h 11=some (.box [.pv (iv u.root),.pv (.sl (u.cells.map bz))] true false)/\st.t 13=.pv (Z n))\/(k=1/\st.h 11=some (.box [.pv (iv l.root),.pv (.sl (l.cells.map bz))] true false)/\st.t 13=.pv (Z (n+1))))) (by simp) ?_;rintro k st K ⟨g4,p,g5,q,H,x,m,o,⟨a,b,e⟩|⟨a,b,e⟩⟩
  .subst a
   have f:n<n+2:=by omega
   exact Gy
  .subst a
   have f:n+1<n+2:=by omega
   exact Gy
 |true=>
  rw[I]at d G;rw[d,T6 rfl]at hF;rw[d,hF];generalize iI s l (n+1)=L at *;refine Dp func52 λC hP hN=>?_;refine Gz ?_;refine WP.loopN [] 3 (λk st=>st.t 4=.ptr 4 0/\st.h 4=some (.box [.pv (.sl (s.js.map bR)),.pv (.sl (s.ms.map dC)),.pv (.sl (s.shs.map dc)),.pv (.sl (s.sks.map aP))] true false)/\st.t 5=.ptr 5 0/\st.h 5=some (.box [.pv (iv root),.pv (.sl (cells.map bz))] true false)/\st.t 8=.ptr 8 0/\st.h 8=some (.box [.pv (.val (.slice none 0 0)),.pv (.val (.slice none 0 0))] true false)/\st.t 10=.pv (Z n)/\st.t 11=.ptr 11 0/\((k=0/\st.h 11=some (.box [.pv (iv u.root),.pv (.sl (u.cells.map bz))] true false)/\st.t 13=.pv (Z n))\/(k=1/\st.h 11=some (.box [.pv (iv l.root),.pv (.sl (l.cells.map bz))] true false)/\st.t 13=.pv (Z (n+1)))\/(k=2/\st.h 11=some (.box [.pv (iv L.root),.pv (.sl (L.cells.map bz))] true false)/\st.t 13=.pv (Z (n+2))))) (by simp) ?_;rintro k st K ⟨g4,p,g5,q,H,x,m,o,⟨a,b,e⟩|⟨a,b,e⟩|⟨a,b,e⟩⟩
  .subst a
   have f:n<n+2:=by omega
   exact Gy
  .subst a
   have f:n+1<n+2:=by omega
   exact Gy
  .subst a
   exact Gy
theorem Oy(t:Tr)(p q:List Int)(free:Bool)(o:t.cells.length<=9223372036854775807)(k:t.root.length<=9223372036854775807)(c:p.length<=9223372036854775807)(d:q.length<=9223372036854775807):zS 19 (fg t) (zs p) (zs q) (B free) (.tup [.sl ((JX t p q (ub free)).map zN),B (FC t p q (ub free))]):=by
 have b:=JU t.root p k c;have f:=JU t.root q k d;rw[El]at b f;have a:=KN [] [] t 1 (by simp) (by simp) o;have hP:zC t p q=(aK t&&jU t.root p&&jU t.root q):=rfl;have n:FC t p q (ub free)=(zC t p q&&ma t (ic [] [] 1 t) p q (ub free)):=rfl
 have hL:JX t p q (ub free)=if zC t p q then CO t (ic [] [] 1 t) p q (ub free)else[]:=rfl
 rw[n,hL]
 cases e:aK t with
 |false=>
  rw[e,UB,UB]at hP;rw[e,TZ (by simp)]at a;rw[hP];simp only[UB,T3,Ud,WB];refine Dp func19 λC hP hN=>?_
  with_reducible repeat' (first|refine Sp.h ?_|((first|refine Ss.h ?_|refine Sc.h (a) ?_|(refine Sb.h ?_ ?_ ?_<;>(try intro hgd)<;>try exact Xy))<;>simp -implicitDefEqProofs (maxSteps:=2000000) [hP,hN])|refine X2 ?_ ?_|(refine Xd ?_ ?_<;>intro hcd<;>try exact Xx))
 |true=>
 rw[e,T6 rfl]at a;rw[e,Un]at hP
 cases i:jU t.root p with
 |false=>
  rw[i,UB]at hP;rw[i]at b;rw[hP];simp only[UB,T3,Ud,WB];refine Dp func19 λC hP hN=>?_
  with_reducible repeat' (first|refine Sp.h ?_|((first|refine Ss.h ?_|refine Sc.h (a) ?_|refine Sc.h (b) ?_|(refine Sb.h ?_ ?_ ?_<;>(try intro hgd)<;>try exact Xy))<;>simp -implicitDefEqProofs (maxSteps:=2000000) [hP,hN])|refine X2 ?_ ?_|(refine Xd ?_ ?_<;>intro hcd<;>try exact Xx))
 |true=>
 rw[i,Un]at hP;rw[i]at b
 cases j:jU t.root q with
 |false=>
  rw[j]at f hP;rw[hP];simp only[UB,T3,Ud,WB];refine Dp func19 λC hP hN=>?_
  with_reducible repeat' (first|refine Sp.h ?_|((first|refine Ss.h ?_|refine Sc.h (a) ?_|refine Sc.h (b) ?_|refine Sc.h (f) ?_|(refine Sb.h ?_ ?_ ?_<;>(try intro hgd)<;>try exact Xy))<;>simp -implicitDefEqProofs (maxSteps:=2000000) [hP,hN])|refine X2 ?_ ?_|(refine Xd ?_ ?_<;>intro hcd<;>try exact Xx))
 |true=>
 rw[j]at f hP;rw[hP];simp only[Un,Ui];have g:=A9 (js:=[]) (ms:=[]) (w:=1) e;generalize ic [] [] 1 t=OL at *;have l:=LZ t OL p q 0 e g c d;have m:=LZ t OL p q 3 e g c d
 cases free with
 |true=>
  simp only[ub,Ui];generalize ma t OL p q 0=u at *;generalize CO t OL p q 0=r at *;refine Dp func19 λC hP hN=>?_
  with_reducible repeat' (first|refine Sp.h ?_|((first|refine Ss.h ?_|refine Sc.h (a) ?_|refine Sc.h (b) ?_|refine Sc.h (f) ?_|refine Sc.h (l) ?_|(refine Sb.h ?_ ?_ ?_<;>(try intro hgd)<;>try exact Xy))<;>simp -implicitDefEqProofs (maxSteps:=2000000) [hP,hN])|refine X2 ?_ ?_|(refine Xd ?_ ?_<;>intro hcd<;>try exact Xx))
 |false=>
  simp only[ub,T3,Ud];generalize ma t OL p q 3=v at *;generalize CO t OL p q 3=s at *;refine Dp func19 λC hP hN=>?_
  with_reducible repeat' (first|refine Sp.h ?_|((first|refine Ss.h ?_|refine Sc.h (a) ?_|refine Sc.h (b) ?_|refine Sc.h (f) ?_|refine Sc.h (m) ?_|(refine Sb.h ?_ ?_ ?_<;>(try intro hgd)<;>try exact Xy))<;>simp -implicitDefEqProofs (maxSteps:=2000000) [hP,hN])|refine X2 ?_ ?_|(refine Xd ?_ ?_<;>intro hcd<;>try exact Xx))
def eL(shs:List Sh):Sce:=⟨qi 8 1,[],shs,[]⟩
abbrev EA:List Sh:=[⟨0,1,[(0,0,0)]⟩,⟨-1,1,[(4,0,0)]⟩]
def xv(shs:List Sh)(cells:Int):Spc×Int:=(qc (eL shs) [0] [8] 1 cells 60 (kf (eL shs) 1)).getD (kf (eL shs) 1,0)
def FD(shs:List Sh)(cells:Int):Bool:=decide (aZ (eL shs)=0)&&gj (eL shs).js (eL shs).ms [0]&&gj (eL shs).js (eL shs).ms [8]&&dv (af (eL shs).js (eL shs).ms)&&gH (eL shs).js (eL shs).ms (af (eL shs).js (eL shs).ms)&&aK (mE (af (eL shs).js (eL shs).ms) br) &&
 cJ (mE (af (eL shs).js (eL shs).ms) br) 0 (aY (bw (eL shs) (af (eL shs).js (eL shs).ms) []))&&aK (mE (af (eL shs).js (eL shs).ms) (aY (bw (eL shs) (af (eL shs).js (eL shs).ms) [])))&&decide ((af (eL shs).js (eL shs).ms).length<=16)&&(qc (eL shs) [0] [8] 1 cells 60 (kf (eL shs) 1)).isSome &&
 decide ((bw (eL shs) (af (eL shs).js (eL shs).ms) []).ns.length<=100)&&decide ((bw (eL shs) (af (eL shs).js (eL shs).ms) []).w.a.length<=100)&&decide ((bw (eL shs) (af (eL shs).js (eL shs).ms) []).w.b.length<=100)
set_option maxRecDepth 100000 in
theorem SL:FD [] 9=true:=by kernel_rfl
set_option maxRecDepth 100000 in
theorem SM:FD EA 40=true:=by kernel_rfl
set_option maxRecDepth 100000 in
theorem SN:(xv [] 9).2=1/\(xv [] 9).1.cells.length=1/\(xv EA 40).2=2:=by
 refine⟨by kernel_rfl,by kernel_rfl,by kernel_rfl⟩
theorem JY(shs:List Sh)(cells:Int)(hs:ScL (eL shs))(g:1<=cells)(h5:cells<=2048)(a:FD shs cells=true):xL 13 (gb (eL shs)) (zs [0]) (zs [8]) (Z 1) (Z cells) (.tup [.agg [iv (xv shs cells).1.root,.sl ((xv shs cells).1.cells.map bz)],Z (xv shs cells).2]):=by
 simp only[FD,An,L4]at a;obtain⟨⟨⟨⟨⟨⟨⟨⟨⟨⟨⟨⟨i,m⟩,n⟩,o⟩,p⟩,q⟩,r⟩,s⟩,u⟩,d⟩,j⟩,k⟩,l⟩:=a;obtain⟨R,e⟩:=Ut.1 d
 have b:xv shs cells=R:=by unfold xv;rw[e];rfl
 rw[b];exact Ow (eL shs) [0] [8] 1 cells 60 R hs i m n (by omega) g h5 (by simp) (by simp) o p q r ⟨by simp only[aY];omega,by simp only[aY];omega,by simp only[aY];omega⟩ ⟨by show(af (eL shs).js (eL shs).ms).length<=_;omega,by simp,λc f=>by simp at f;subst f;simp[DF,br,aD]⟩ s u e
theorem d7:Bs 7 (B true):=by
 have f:=Ou 1 8 (by omega) (by omega);have a:=JY [] 9 ⟨by simp[eL,qi],by simp[eL],by simp[eL],by simp[eL],by simp[eL]⟩ (by omega) (by omega) SL;have b:=JY EA 40 ⟨by simp[eL,qi],by simp[eL],by simp[eL,EA],by simp[eL],by simp[eL,EA]⟩ (by omega) (by omega) SM;obtain⟨f1,f2,f3⟩:=SN;rw[f1]at a;rw[f3]at b;simp only[eL,EA,gb,dc,aV,zs,U7,WB]at a b;generalize xv [] 9=d at *;generalize c:(xv [⟨0,1,[(0,0,0)]⟩,⟨-1,1,[(4,0,0)]⟩] 40).1=e at *;generalize qi 8 1=J at *;refine Dp func7 λC hP hN=>?_;exact GS f2
theorem wW(l:List Int):∀j∈(fS l).js,AZ j:=by
 intro j a;simp only[fS,qi,Uo]at a;obtain⟨i,_,rfl⟩:=a;unfold AZ;simp only[GN];omega
section
variable {sc:Sce} {w:Int} {most f i:Nat} {t:Tr}
theorem K9(h:¬i<t.cells.length):mM sc w most (f+1) i t=(t,true):=by simp only[mM,TZ h]
theorem Jm(h:i<t.cells.length)(a:vZ sc w t i=false):mM sc w most (f+1) i t=mM sc w most f (i+1) t:=by simp only[mM,T6 h,a,T3,Ud]
theorem Jn(h:i<t.cells.length)(b:vZ sc w t i=true)(a:most<t.cells.length):mM sc w most (f+1) i t=(t,false):=by simp only[mM,T6 h,b,Ui,T6 a]
theorem Jo(h:i<t.cells.length)(b:vZ sc w t i=true)(a:¬most<t.cells.length):mM sc w most (f+1) i t=mM sc w most f (i+1) (mj sc t i (dP sc.js sc.ms (ay t (i:Int)))):=by simp only[mM,T6 h,b,Ui,TZ a]
end
structure FuI(sc:Sce)(w:Int)(most:Nat)(RES:Tr×Bool)(i:Nat)(t:Tr):Prop where
 di:DeI sc t
 gr:∃P I,Grw sc w (gm sc w t) P I
 il:i<=t.cells.length
 lm:t.cells.length<=most+2
 go:mM sc w most (2049-i) i t=RES
theorem HE{sc:Sce}{d:Nat}{f:Tr×Bool}{t:Tr}(o:aZ sc=0)(s:d<=2000)(H:FuI sc w d f i t):
 (¬i<t.cells.length->f=(t,true))/\(i<t.cells.length->vZ sc w t i=false->FuI sc w d f (i+1) t)/\
 (i<t.cells.length->vZ sc w t i=true->d<t.cells.length->f=(t,false))/\
 (i<t.cells.length->vZ sc w t i=true->¬d<t.cells.length->FuI sc w d f (i+1) (mj sc t i (dP sc.js sc.ms (ay t (i:Int))))):=by
 obtain⟨l,n,p,m,e⟩:=H;rw[show 2049-i=(2048-i)+1 by omega]at e;refine⟨λh=>?_,λh k=>?_,λh k j=>?_,λh k j=>?_⟩
 .rw[K9 h]at e;exact e.symm
 .rw[Jm h k]at e
  exact⟨l,n,h,m,by rw[show 2049-(i+1)=2048-i by omega];exact e⟩
 .rw[Jn h k j]at e;exact e.symm
 .rw[Jo h k j]at e
  obtain⟨P,I,g⟩:=n;obtain⟨a,b,c⟩:=(AF l.valid h).1 k;obtain⟨q,u,r,_,_⟩:=HD o l g h a b c (by omega);exact⟨q,r,by omega,by omega,by rw[show 2049-(i+1)=2048-i by omega];exact e⟩
theorem Td(s:Sce)(w:Int)(a:Nat)(hs:ScL s)(R:aZ s=0)(hm:a<=2000):mm 18 (gb s) (Z w) (Z (a:Int)) (.tup [fg (mM s w a 2049 0 (oB s)).1,B (mM s w a 2049 0 (oB s)).2]):=by
 have cl:=Og s.js s.ms hs.js hs.ms;have V:=To (af s.js s.ms);obtain⟨I0,a5,a6,u⟩:=CM R;have cc:=LY s (j0 (af s.js s.ms)) 0 hs (by have:=u.c;omega) (by have:=u.r;omega) u.v;have S:iI s (j0 (af s.js s.ms)) 0=oB s:=rfl;rw[S]at cc;have a7:=tg (jW R);rw[a7]at V;generalize j6 s (j0 (af s.js s.ms)) 0=o1 at *;clear S a6 u;generalize j0 (af s.js s.ms)=t0 at *;generalize E:mM s w a 2049 0 (oB s)=F at *;have H0:FuI s w a F 0 (oB s):=⟨I0,(Kg w R).gr,by omega,by omega,E⟩;generalize oB s=d0 at *;clear E I0 a5;have cb:=λ(t:Tr)(q:DeI s t)(i:Nat)(hi:i<t.cells.length)=>OJ t (i:Int) (by have:=q.tl.c;omega);have cw:=λ(b:Bx)(hb:b.length<=9223372036854775807)=>Oh s.js s.ms b hs.js hs.ms hb;have W:=λ(t:Tr)(q:DeI s t)(hc:t.cells.length<=999990)(i j:Int)=>SK s t i j hs q.tl hc
 have ar:=λ(t:Tr)(i:Nat)(c:Cel)(hc:t.cells[i]?=some c)=>show vZ s w t i=(decide (c.joint<0)&&decide (c.v.kind=0)&&fH s.js s.ms w (ay t (i:Int))) by unfold vZ;rw[hc]
 have T:=λ(i:Nat)(t:Tr)(H:FuI s w a F i t)=>HE R hm H;clear hs R;obtain⟨js,ms,SH,sks⟩:=s;simp only at *;refine Dp func18 λC hP hN=>?_
 with_reducible repeat' (first|refine Sp.h ?_|((first|refine Wd ?_|refine Ss.h ?_|refine Sc.h (cl) ?_|refine Sc.h (V) ?_|refine Sc.h (cc) ?_|(refine Sb.h ?_ ?_ ?_<;>(try intro hgd)<;>try exact Xy))<;>simp -implicitDefEqProofs (maxSteps:=2000000) [hP,hN]<;>try refine Ya ?_)|refine X2 ?_ ?_|(refine Xd ?_ ?_<;>intro hcd<;>try exact Xx))
 refine WP.loopN [] 2049 (λi st=>∃t,FuI ⟨js,ms,SH,sks⟩ w a F i t/\st.t 1=.pv (Z w)/\st.t 2=.pv (Z (a:Int))/\st.t 3=.ptr 3 0/\st.h 3=some (.box [.pv (.sl (js.map bR)),.pv (.sl (ms.map dC)),.pv (.sl (SH.map dc)),.pv (.sl (sks.map aP))] true false)/\st.t 6=.ptr 6 0/\st.h 6=some (.box [.pv (.val (.slice none 0 0)),.pv (.val (.slice none 0 0))] true false)/\st.t 8=.ptr 8 0/\st.h 8=some (.box [.pv (iv t.root),.pv (.sl (t.cells.map bz))] true false)/\st.t 10=.pv (Z i)) ?_ ?_
 .exact⟨d0,H0,by simp⟩
 clear H0 cl V cc;rintro i st hi ⟨t,H,g1,g2,g3,G,K,b6,L,I,g⟩;obtain⟨f1,f2,f3,f4⟩:=T i t H;have q:=H.di;have ba:=H.il;have bb:=H.lm;clear H T;by_cases d:i<t.cells.length
 case neg=>
  have hr:=f1 d;subst hr
  have a1:i=t.cells.length:=by omega
  subst a1
  with_reducible repeat' (first|refine Sp.h ?_|((first|refine Wd ?_|refine Ss.h ?_|(refine Sb.h ?_ ?_ ?_<;>(try intro hgd)<;>try exact Xy))<;>simp -implicitDefEqProofs (maxSteps:=2000000) [hP,hN,g1,g2,g3,G,K,b6,L,I,g]<;>try refine Ya ?_)|refine X2 ?_ ?_|(refine Xd ?_ ?_<;>intro hcd<;>try exact Xx))
 have P:=am d (by omega);obtain⟨ad,X⟩:=pP q.valid d;have J:=cb t q i d;rw[ad,X]at J;have Y:=(kS q.valid (c:=(i:Int)) (by simpa using d)).2;have bc:=q.tl.r;have p:=cw (ay t (i:Int)) (by omega);have N:t.cells[i]?=some t.cells[i]:=an d;have e:=ar t i _ N;generalize m:t.cells[i]=c at *;obtain⟨jo,lo,a8,⟨k,nr,pr,A,D⟩⟩:=c;simp only at e
 have hit:i<2049:=by omega
 by_cases hj:jo<0
 case neg=>
  rw[U0 hj,UB,UB]at e;have f:=f2 d e
  have l:0<=jo:=by omega
  with_reducible repeat' (first|refine Sp.h ?_|((first|refine Wd ?_|refine Ss.h ?_|refine Sc.h (J) ?_|refine Sc.h (p) ?_|(refine Sb.h ?_ ?_ ?_<;>(try intro hgd)<;>try exact Xy))<;>simp -implicitDefEqProofs (maxSteps:=2000000) [hP,hN,g1,g2,g3,G,K,b6,L,I,g,d,P,N,m,l,hit,f]<;>try refine Ya ?_)|refine X2 ?_ ?_|(refine Xd ?_ ?_<;>intro hcd<;>try exact Xx))
  all_goals exact⟨t,f,by simp_all⟩
 have l:¬0<=jo:=by omega
 rw[UA hj,Un]at e;by_cases U:k=0
 case neg=>
  rw[U0 U,UB]at e;have f:=f2 d e
  have a2:(k !=0)=true:=by simp[U]
  with_reducible repeat' (first|refine Sp.h ?_|((first|refine Wd ?_|refine Ss.h ?_|refine Sc.h (J) ?_|refine Sc.h (p) ?_|(refine Sb.h ?_ ?_ ?_<;>(try intro hgd)<;>try exact Xy))<;>simp -implicitDefEqProofs (maxSteps:=2000000) [hP,hN,g1,g2,g3,G,K,b6,L,I,g,d,P,N,m,l,U,a2,hit,f]<;>try refine Ya ?_)|refine X2 ?_ ?_|(refine Xd ?_ ?_<;>intro hcd<;>try exact Xx))
  all_goals exact⟨t,f,by simp_all⟩
 subst U;rw[UA rfl,Un]at e;rcases ua js ms (ay t (i:Int))with hn|⟨j,hn,n,_,_,x,Q,bs⟩
 .rw[CK hn]at e
  have f:=f2 d e;rw[hn]at p;generalize ay t (i:Int)=b at *
  with_reducible repeat' (first|refine Sp.h ?_|((first|refine Wd ?_|refine Ss.h ?_|refine Sc.h (J) ?_|refine Sc.h (p) ?_|(refine Sb.h ?_ ?_ ?_<;>(try intro hgd)<;>try exact Xy))<;>simp -implicitDefEqProofs (maxSteps:=2000000) [hP,hN,g1,g2,g3,G,K,b6,L,I,g,d,P,N,m,l,hit,f]<;>try refine Ya ?_)|refine X2 ?_ ?_|(refine Xd ?_ ?_<;>intro hcd<;>try exact Xx))
  all_goals exact⟨t,f,by simp_all⟩
 rw[A8 hn Q]at e;have O:∀h,(ay t (i:Int))[j]'h=x:=λh=>bZ Q h;have bq:=eH.1 (eZ.1 Y.2 _ (Is Q));have M:i64.wrap (x.2-x.1)=x.2-x.1:=aa;by_cases ho:w<x.2-x.1
 case neg=>
  rw[U0 ho]at e;have f:=f2 d e
  have z:x.2-x.1<=w:=by omega
  rw[hn]at p;generalize ay t (i:Int)=b at *
  with_reducible repeat' (first|refine Sp.h ?_|((first|refine Wd ?_|refine Ss.h ?_|refine Sc.h (J) ?_|refine Sc.h (p) ?_|(refine Sb.h ?_ ?_ ?_<;>(try intro hgd)<;>try exact Xy))<;>simp -implicitDefEqProofs (maxSteps:=2000000) [hP,hN,g1,g2,g3,G,K,b6,L,I,g,d,P,N,m,l,n,Q,O,M,z,hit,f]<;>try refine Ya ?_)|refine X2 ?_ ?_|(refine Xd ?_ ?_<;>intro hcd<;>try exact Xx))
  all_goals exact⟨t,f,by simp_all⟩
 rw[UA ho]at e
 have z:¬x.2-x.1<=w:=by omega
 by_cases y:a<t.cells.length
 .have hr:=f3 d e y
  subst hr
  have o:(a:Int)<(t.cells.length:Int):=by omega
  rw[hn]at p;generalize ay t (i:Int)=b at *
  with_reducible repeat' (first|refine Sp.h ?_|((first|refine Wd ?_|refine Ss.h ?_|refine Sc.h (J) ?_|refine Sc.h (p) ?_|(refine Sb.h ?_ ?_ ?_<;>(try intro hgd)<;>try exact Xy))<;>simp -implicitDefEqProofs (maxSteps:=2000000) [hP,hN,g1,g2,g3,G,K,b6,L,I,g,d,P,N,m,l,n,Q,O,M,z,y,o,hit]<;>try refine Ya ?_)|refine X2 ?_ ?_|(refine Xd ?_ ?_<;>intro hcd<;>try exact Xx))
 .have f:=f4 d e y
  have cR:=W t q (by omega) (i:Int) (dP js ms (ay t (i:Int)))
  have o:¬(a:Int)<(t.cells.length:Int):=by omega
  rw[hn]at p cR f;generalize ud ⟨js,ms,SH,sks⟩ t (i:Int) (j:Int)=o2 at *;generalize mj ⟨js,ms,SH,sks⟩ t (i:Int) (j:Int)=t2 at *;generalize ay t (i:Int)=b at *
  with_reducible repeat' (first|refine Sp.h ?_|((first|refine Wd ?_|refine Ss.h ?_|refine Sc.h (J) ?_|refine Sc.h (p) ?_|refine Sc.h (cR) ?_|(refine Sb.h ?_ ?_ ?_<;>(try intro hgd)<;>try exact Xy))<;>simp -implicitDefEqProofs (maxSteps:=2000000) [hP,hN,g1,g2,g3,G,K,b6,L,I,g,d,P,N,m,l,n,Q,O,M,z,y,o,hit,f]<;>try refine Ya ?_)|refine X2 ?_ ?_|(refine Xd ?_ ?_<;>intro hcd<;>try exact Xx))
  all_goals exact⟨t2,f,by simp_all⟩
theorem Du{sc:Sce}{t:Tr}{p q:List Int}(b:aZ sc=0)(hF:Ful sc w t i)(h1:gj sc.js sc.ms p=true)(c:gj sc.js sc.ms q=true)(sort:Int):FC t p q sort=ma t (ic [] [] 1 t) p q sort:=by
 have a:=tg (jW b);simp only[dv,An]at a;have e:FC t p q sort=(aK t&&jU t.root p&&jU t.root q&&ma t (ic [] [] 1 t) p q sort):=rfl;rw[e,hF.di.valid,hF.di.root,EH a.2 h1,EH a.2 c];rfl
theorem d5(l m o:List Int)(width:Int):zS 5 (zs l) (zs m) (zs o) (Z width) (B true):=by
 have j:=d7;have hL:=LQ l;have f:=Jq l
 have S:(fS l).js.length<=10:=by have:=wI l;simp only[fS,td];omega
 have A:=d9 l;have y:=On m (fS l).js (fS l).ms (by omega) (wW l);have z:=On o (fS l).js (fS l).ms (by omega) (wW l);have d:=HH m (jW f) (wW l);have e:=HH o (jW f) (wW l)
 have T:(lI m (fS l).js).length=(fS l).js.length:=by simp[lI]
 have U:(lI o (fS l).js).length=(fS l).js.length:=by simp[lI]
 generalize fS l=s at *;generalize lI m s.js=a at *;generalize lI o s.js=b at *;have v:=Oj width 13 (by decide);have r1:=DR width (k:=13) (by decide) (by decide);generalize pG width 13=n at *;have J:i64.wrap (4+n)=4+n:=aa;obtain⟨R,_,K,L,cR⟩:=NJ s a b (4+n) 200 hL (by omega) (by omega) (by omega) (by omega) (by omega) ⟨f,d,e⟩;have i:=Td s (4+n) 120 hL f (by decide);have g:=λu(h:mM s (4+n) 120 2049 0 (oB s)=(u,true))=>AG f (by decide) 2049 0 (oB s) (Kg (4+n) f) (by omega) u h;generalize mM s (4+n) 120 2049 0 (oB s)=D at *;obtain⟨u,ok⟩:=D;simp only at i
 cases ok with
 |false=>
  clear g K L f d e;generalize R.1.cells.map bz=Q at *;generalize R.1.root=W at *;generalize R.2=x at *;refine Dp func5 λC hP hN=>?_
  with_reducible repeat' (first|refine Sp.h ?_|((first|refine Wd ?_|refine Ss.h ?_|refine Sc.h (j) ?_|refine Sc.h (A) ?_|refine Sc.h (y) ?_|refine Sc.h (z) ?_|refine Sc.h (v) ?_|refine Sc.h (cR) ?_|refine Sc.h (i) ?_|(refine Sb.h ?_ ?_ ?_<;>(try intro hgd)<;>try exact Xy))<;>simp -implicitDefEqProofs (maxSteps:=2000000) [hP,hN,J]<;>try refine Ya ?_)|refine X2 ?_ ?_|(refine Xd ?_ ?_<;>intro hcd<;>try exact Xx))
 |true=>
 have hF:=g u rfl;have E:=Du (p:=a) (q:=b) f hF d e 0;have F:=Du (p:=a) (q:=b) f hF d e 3;have M:=Jl L K hF;have G:=hF.di.tl;have H:=Oy u a b true (by have:=G.c;omega) (by have:=G.r;omega) (by omega) (by omega);have I:=Oy u a b false (by have:=G.c;omega) (by have:=G.r;omega) (by omega) (by omega);simp only[ub,Ui,T3,Ud]at H I;rw[E]at H;rw[F]at I;clear g K L f d e hF E F G;generalize ma u (ic [] [] 1 u) a b 0=O at *;generalize ma u (ic [] [] 1 u) a b 3=P at *;generalize(JX u a b 0).map zN=X at *;generalize(JX u a b 3).map zN=Y at *;generalize R.1.cells.map bz=Q at *;generalize R.1.root=W at *;generalize R.2=x at *;by_cases N:x=4
 .subst N
  refine Dp func5 λC hP hN=>?_
  with_reducible repeat' (first|refine Sp.h ?_|((first|refine Wd ?_|refine Ss.h ?_|refine Sc.h (j) ?_|refine Sc.h (A) ?_|refine Sc.h (y) ?_|refine Sc.h (z) ?_|refine Sc.h (v) ?_|refine Sc.h (cR) ?_|refine Sc.h (i) ?_|(refine Sb.h ?_ ?_ ?_<;>(try intro hgd)<;>try exact Xy))<;>simp -implicitDefEqProofs (maxSteps:=2000000) [hP,hN,J]<;>try refine Ya ?_)|refine X2 ?_ ?_|(refine Xd ?_ ?_<;>intro hcd<;>try exact Xx))
 .have V:=M N
  subst V
  cases O with
  |true=>
   simp only[Ui]at cR;refine Dp func5 λC hP hN=>?_
   with_reducible repeat' (first|refine Sp.h ?_|((first|refine Wd ?_|refine Ss.h ?_|refine Sc.h (j) ?_|refine Sc.h (A) ?_|refine Sc.h (y) ?_|refine Sc.h (z) ?_|refine Sc.h (v) ?_|refine Sc.h (cR) ?_|refine Sc.h (i) ?_|refine Sc.h (H) ?_|refine Sc.h (I) ?_|(refine Sb.h ?_ ?_ ?_<;>(try intro hgd)<;>try exact Xy))<;>simp -implicitDefEqProofs (maxSteps:=2000000) [hP,hN,J]<;>try refine Ya ?_)|refine X2 ?_ ?_|(refine Xd ?_ ?_<;>intro hcd<;>try exact Xx))
  |false=>
  cases P with
  |true=>
   simp only[Ui,T3,Ud]at cR;refine Dp func5 λC hP hN=>?_
   with_reducible repeat' (first|refine Sp.h ?_|((first|refine Wd ?_|refine Ss.h ?_|refine Sc.h (j) ?_|refine Sc.h (A) ?_|refine Sc.h (y) ?_|refine Sc.h (z) ?_|refine Sc.h (v) ?_|refine Sc.h (cR) ?_|refine Sc.h (i) ?_|refine Sc.h (H) ?_|refine Sc.h (I) ?_|(refine Sb.h ?_ ?_ ?_<;>(try intro hgd)<;>try exact Xy))<;>simp -implicitDefEqProofs (maxSteps:=2000000) [hP,hN,J]<;>try refine Ya ?_)|refine X2 ?_ ?_|(refine Xd ?_ ?_<;>intro hcd<;>try exact Xx))
  |false=>
   simp only[T3,Ud]at cR;refine Dp func5 λC hP hN=>?_
   with_reducible repeat' (first|refine Sp.h ?_|((first|refine Wd ?_|refine Ss.h ?_|refine Sc.h (j) ?_|refine Sc.h (A) ?_|refine Sc.h (y) ?_|refine Sc.h (z) ?_|refine Sc.h (v) ?_|refine Sc.h (cR) ?_|refine Sc.h (i) ?_|refine Sc.h (H) ?_|refine Sc.h (I) ?_|(refine Sb.h ?_ ?_ ?_<;>(try intro hgd)<;>try exact Xy))<;>simp -implicitDefEqProofs (maxSteps:=2000000) [hP,hN,J]<;>try refine Ya ?_)|refine X2 ?_ ?_|(refine Xd ?_ ?_<;>intro hcd<;>try exact Xx))
end Go.Ab
