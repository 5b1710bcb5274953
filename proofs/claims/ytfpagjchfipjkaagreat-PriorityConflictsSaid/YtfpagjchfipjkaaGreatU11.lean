/- The contracts and facts that the laws of this seat need, in one text (KR15, KR16, KR17, K19, KR18, KR19, Xr2, Cr6, Cr7, Jn3, Jn4, Jn5, Cn6, Cn2, Cn7, Pc1, M17, M18, M19, M20, M21, M22, M23, Pc2). -/
import Derived.Test.YtfpagjchfipjkaaGreatU10
set_option linter.all false
set_option maxRecDepth 10000
set_option maxHeartbeats 16000000
namespace Go.Ab
open IntKind (i64)
open Go.Proofs.Tryz
open Go.Proofs
variable {A:Sce}{N T i k n v:Nat}{PR:List (Nat×Nat)}{PT:List (List aq)}{Q:Exit->St->Prop}{SH:List Sh}{a b:Int}{f lg:Nat->Nat->Bool}{g:Nat->Bool}{h:Hp}{hints:List Vc}{j:J}{js:List J}{ks:List Nat}{l:List Int}{pl:List (List Int)}{ps:Nat->Nat->Nat->Bool}{st:St}{α:Type}{p:α->Bool}
theorem Tq(a b:List Vc)(rho steps:Int)(ha:a.length<=9223372036854775807)(hb:b.length<=9223372036854775807):lR 87 (aw a) (aw b) (Z rho) (Z steps) (NE (iP a b rho steps)):=by
 have ca:=Q6 a ha;have cb:=Q6 b hb
 have b4:qW a b rho steps=false->iP a b rho steps=(0,⟨[],[],(0,0,0),0⟩):=λh=>by simp[iP,h]
 have hd:qW a b rho steps=(eN a&&eN b&&aT rho 0 2097152&&aT steps 0 64):=rfl
 cases hA:eN a with
 |false=>
  rw[hA]at ca;rw[b4 (by rw[hd,hA];rfl)];refine Dp func87 λC hP hN=>?_;exact GS trivial
 |true=>
 rw[hA]at ca
 cases hB:eN b with
 |false=>
  rw[hB]at cb;rw[b4 (by rw[hd,hB,yAr];rfl)];refine Dp func87 λC hP hN=>?_;exact GS trivial
 |true=>
 rw[hB]at cb;by_cases b8:rho<0\/2097152<rho\/steps<0\/64<steps
 .have hf:qW a b rho steps=false:=by
   cases h:qW a b rho steps with
   |false=>rfl
   |true=>
    rw[hd]at h;simp only[aT,up,Is]at h;omega
  rw[b4 hf];rcases b8 with h|h|h|h
  all_goals
   refine Dp func87 λC hP hN=>?_;exact GS h
 have q1:¬rho<0:=by omega
 have q2:¬2097152<rho:=by omega
 have q3:¬steps<0:=by omega
 have q4:¬64<steps:=by omega
 have ia:=jo.1 hA;have ib:=jo.1 hB;obtain⟨M,cx⟩:∃M:Nat,steps=M:=⟨steps.toNat,by omega⟩;subst cx
 have hr:iP a b rho M=j6 a b rho M (M+1) (tl a b):=by
  have:qW a b rho M=true:=by
   rw[hd,hA,hB];simp[aT];omega
  simp[iP,this]
 rw[hr];obtain⟨R,hR⟩:∃R,R=j6 a b rho M (M+1) (tl a b):=⟨_,rfl⟩;rw[<-hR]
 have f1:(8:Int)*(a.length:Int)<=281474976710656:=by omega
 have f2:(8:Int)*(b.length:Int)<=281474976710656:=by omega
 have f3:(a.length:Int)<=9223372036854775807:=by omega
 have f4:(b.length:Int)<=9223372036854775807:=by omega
 have f5:0<a.length:=by omega
 have f6:0<b.length:=by omega
 refine Dp func87 λC hP hN=>?_;refine GT (zAc q1 q2 q3 q4 f1 f2 f3 f4 f5 f6) ?_;refine WP.loopN [10,11,12,16] M (λi st=>∃(s:NSt)(X Y:AV),NsOk a b s/\s.r=i/\j6 a b rho M (M+1-i) s=R/\st.t 0=.pv (aw a)/\st.t 1=.pv (aw b)/\st.t 2=.pv (Z rho)/\st.t 3=.pv (Z M)/\st.t 8=.ptr 8 0/\st.h 8=some (.box [.pv (Z 0),.pv (Z 0),.pv (Z 0),.pv (Z 0),.pv (.val (.slice none 0 0)),.pv (.val (.slice none 0 0)),.pv (Z 0)] true false)/\st.t 9=.ptr 9 0/\st.h 10=none/\st.h 11=none/\st.h 12=none/\st.h 16=none/\st.h 9=some (.box [.pv (Z 0),.pv (Z s.n.1),.pv (Z s.n.2.1),.pv (Z s.n.2.2),X,Y,.pv (Z s.r)] true false)/\((X=.arr 47 a.length/\Y=.arr 50 b.length/\st.h 47=some (.row 2 1 (s.w.map Z) 0)/\st.h 50=some (.row 2 1 (s.v.map Z) 0))\/(X=.pv (zs s.w)/\Y=.pv (zs s.v)))) ?_ ?_
 .refine⟨tl a b,.arr 47 a.length,.arr 50 b.length,Fq ia.1 ib.1,rfl,hR.symm,?_⟩
  simp[tl]
 rintro i st hi ⟨s,X,Y,hs,cj,c,g0,g1,g2,g3,T,D,U,h10,h11,A,B,l,N⟩
 have cv:M+1-i=(M-i)+1:=by omega
 rw[cv,j6]at c;obtain⟨S,Q,n0,r⟩:=s;have b2:=hs.w;have bq:=hs.v;have k:=hs.wl;have j:=hs.vl;simp only at b2 bq k j cj l N;subst cj;have f:=vo (rho:=rho) (steps:=M) hA hB hs;have O:=Fp hA hB hs;have c0:=Q7 a S ia.2.1 k ia.2.2 b2;have c2:=Q7 b Q ib.2.1 j ib.2.2 bq;have cD:=jn ia.2.2 b2 a.length (by omega);have cP:=jn ib.2.2 bq b.length (by omega);have cM:=L9 (bO a S a.length) (bO b Q b.length) (jc cD (by decide)) (jc cP (by decide));have hT:aL (bO a S a.length) (bO b Q b.length)=dz a S b Q:=rfl;rw[hT]at cM;have cN:=Wa (dz a S b Q) rho O ⟨by omega,by omega⟩;have ad:=J8 O;have b5:=Q9 (iH (dz a S b Q)) (jc ad (by decide));have V:=Dh (iH (dz a S b Q)) (jc ad (by decide));have cq:iH (dz a S b Q)=((dz a S b Q).1.tdiv 65536,(dz a S b Q).2.1.tdiv 65536,(dz a S b Q).2.2.tdiv 65536):=rfl;rw[ph]at c f;simp only at c f
 have xw:∀y:Int,-35184372088832<=y->y<=35184372088832->i64.wrap (y.tdiv 65536)=y.tdiv 65536:=λy p q=>by
  have e:=Int.natAbs_tdiv_le_natAbs y 65536;exact aa (by omega) (by omega)
 have x1:=xw _ O.1.1 O.1.2;have x2:=xw _ O.2.1.1 O.2.1.2;have x3:=xw _ O.2.2.1 O.2.2.2;clear xw hs;generalize bO a S a.length=S1 at *;generalize bO b Q b.length=S2 at *;generalize dz a S b Q=d at *
 cases hc:pd d rho with
 |true=>
  rw[hc]at cN c;simp only[Zp]at c;rw[<-c];rcases N with⟨rfl,rfl,E,F⟩|⟨rfl,rfl⟩
  .skip
   exact GS (zAe g0 g1 g2 g3 T D U h10 h11 A B l E F (gA k j))
  .skip
   exact GS (zAd g0 g1 g2 g3 T D U h10 h11 A B (be l k j))
 |false=>
 rw[hc]at cN c f;simp only[Y9,Zk]at c f
 have cc:bb (iH d)=bb ((d.1.tdiv 65536,d.2.1.tdiv 65536,d.2.2.tdiv 65536)):=by rw[<-cq]
 generalize c5:iH d=x at *;subst cq;generalize c3:bb (d.1.tdiv 65536,d.2.1.tdiv 65536,d.2.2.tdiv 65536)=n at *;clear cc
 cases cd:nz n with
 |false=>
  rw[cd]at b5 c;simp only[Zp]at c;rw[<-c];rcases N with⟨rfl,rfl,E,F⟩|⟨rfl,rfl⟩
  .skip
   exact GS (zAe g0 g1 g2 g3 T D U h10 h11 A B l E F (it k j x1 x2 x3))
  .skip
   exact GS (zAe g0 g1 g2 g3 T D U h10 h11 A B l k j (be x1 x2 x3))
 |true=>
 rw[cd]at b5 c f;simp only[Bool.true_eq_false,Zk]at c f;have Kr:=Ra n a V ia.1 ia.2.1 ia.2.2;have cS:=Rb n b V ib.1 ib.2.1 ib.2.2;have cQ:=Rv n;have hq:=vH n;have l1:=qV (bet:=dN) V ia.2.2;have l2:=qV (bet:=dO) V ib.2.2;have i1:=nk (bet:=dN) (n:=n) ia.1;have i2:=nk (bet:=dO) (n:=n) ib.1;obtain⟨p0,cg⟩:∃p0,a[0]?=some p0:=⟨_,an (by omega)⟩;obtain⟨p1,ch⟩:∃p1,b[0]?=some p1:=⟨_,an (by omega)⟩;obtain⟨G,o,cm⟩:=qi (bet:=dN) (n:=n) cg a.length;obtain⟨pb,z,cn⟩:=qi (bet:=dO) (n:=n) ch b.length
 have b7:bN dN n a=cG dN n p0 a a.length:=by simp[bN,cg]
 have b9:bN dO n b=cG dO n p1 b b.length:=by simp[bN,ch]
 rw[<-b7]at o cm;rw[<-b9]at z cn;clear b7 b9;generalize bN dN n a=lo at *;generalize bN dO n b=L at *;generalize eV n=q at *;have c4:=bj (a:=q) (b:=rho) 32768 2097152 (by omega) (by omega) (by omega) (by omega);have e4:i64.wrap (lo.1-L.1)=lo.1-L.1:=aa;have e5:i64.wrap (q*rho)=q*rho:=aa;generalize H:q*rho=qr at *
 have I:∀h,a[lo.2]'h=G:=λh=>by rw[an h]at o;exact ZQ o
 have J:∀h,b[L.2]'h=pb:=λh=>by rw[an h]at z;exact ZQ z
 have sa:=dC (L4.1 ia.2.2 G (An o));have sb:=dC (L4.1 ib.2.2 pb (An z));have ct:=Cr n G 16384 268435456 (xk V) sa (by decide);have cu:=Cr n pb 16384 268435456 (xk V) sb (by decide);rw[<-cm]at ct;rw[<-cn]at cu;have cA:=L9 G pb (jc sa (by decide)) (jc sb (by decide));have cr:=r8 sa sb;have ar:em 536870912 (d.1.tdiv 65536,d.2.1.tdiv 65536,d.2.2.tdiv 65536):=ad;have b3:=lF (d.1.tdiv 65536,d.2.1.tdiv 65536,d.2.2.tdiv 65536) (aL G pb);rw[o,z]at c f;simp only[Zn]at c f;have w1:i64.wrap lo.1=lo.1:=aa;have w2:i64.wrap L.1=L.1:=aa;by_cases g:qr<lo.1-L.1
 .rw[Zd g]at c
  simp only at c;rw[<-c];rcases N with⟨rfl,rfl,E,F⟩|⟨rfl,rfl⟩
  .skip
   exact GS (zAe g0 g1 g2 g3 T D U h10 h11 A B l E F (zAe k j x1 x2 x3 o z I J i1 i2 e4 e5 H g))
  .skip
   exact GS (zAe g0 g1 g2 g3 T D U h10 h11 A B l k j (zAd x1 x2 x3 o z I J i1 i2 e4 e5 (gA H g)))
 rw[Y6 g]at c f;have cB:=L9 (d.1.tdiv 65536,d.2.1.tdiv 65536,d.2.2.tdiv 65536) (aL G pb) (jc ar (by decide)) (jc cr (by decide));have he:=r8 ar cr;have cU:=Cr (d.1.tdiv 65536,d.2.1.tdiv 65536,d.2.2.tdiv 65536) (aL (d.1.tdiv 65536,d.2.1.tdiv 65536,d.2.2.tdiv 65536) (aL G pb)) 536870912 1073741824 ar he (by decide);have cV:=Cr (aL (d.1.tdiv 65536,d.2.1.tdiv 65536,d.2.2.tdiv 65536) (aL G pb)) (aL (d.1.tdiv 65536,d.2.1.tdiv 65536,d.2.2.tdiv 65536) (aL G pb)) 1073741824 1073741824 he he (by decide);obtain⟨r1,r2,r3⟩:=kX (m:=536870912) (n:=1073741824) ar he;obtain⟨t1,t2,t3⟩:=kX (m:=1073741824) (n:=1073741824) he he
 have hu:-1729382256910270464<=bg (d.1.tdiv 65536,d.2.1.tdiv 65536,d.2.2.tdiv 65536) (aL (d.1.tdiv 65536,d.2.1.tdiv 65536,d.2.2.tdiv 65536) (aL G pb))/\bg (d.1.tdiv 65536,d.2.1.tdiv 65536,d.2.2.tdiv 65536) (aL (d.1.tdiv 65536,d.2.1.tdiv 65536,d.2.2.tdiv 65536) (aL G pb))<=1729382256910270464:=by unfold bg;omega
 have hv:bg (aL (d.1.tdiv 65536,d.2.1.tdiv 65536,d.2.2.tdiv 65536) (aL G pb)) (aL (d.1.tdiv 65536,d.2.1.tdiv 65536,d.2.2.tdiv 65536) (aL G pb))<=3458764513820540928:=by unfold bg;omega
 have cz:=Bf (aL (d.1.tdiv 65536,d.2.1.tdiv 65536,d.2.2.tdiv 65536) (aL G pb))
 have a8:kY (d.1.tdiv 65536,d.2.1.tdiv 65536,d.2.2.tdiv 65536) (aL G pb)=if bg (d.1.tdiv 65536,d.2.1.tdiv 65536,d.2.2.tdiv 65536) (aL (d.1.tdiv 65536,d.2.1.tdiv 65536,d.2.2.tdiv 65536) (aL G pb))<=0 then 0 else min 256 (bg (d.1.tdiv 65536,d.2.1.tdiv 65536,d.2.2.tdiv 65536) (aL (d.1.tdiv 65536,d.2.1.tdiv 65536,d.2.2.tdiv 65536) (aL G pb))/max 1 (bg (aL (d.1.tdiv 65536,d.2.1.tdiv 65536,d.2.2.tdiv 65536) (aL G pb)) (aL (d.1.tdiv 65536,d.2.1.tdiv 65536,d.2.2.tdiv 65536) (aL G pb))/256)):=rfl
 clear r1 r2 r3 t1 t2 t3 he;generalize kY (d.1.tdiv 65536,d.2.1.tdiv 65536,d.2.2.tdiv 65536) (aL G pb)=t at *;generalize bg (d.1.tdiv 65536,d.2.1.tdiv 65536,d.2.2.tdiv 65536) (aL (d.1.tdiv 65536,d.2.1.tdiv 65536,d.2.2.tdiv 65536) (aL G pb))=u at *;generalize bg (aL (d.1.tdiv 65536,d.2.1.tdiv 65536,d.2.2.tdiv 65536) (aL G pb)) (aL (d.1.tdiv 65536,d.2.1.tdiv 65536,d.2.2.tdiv 65536) (aL G pb))=v at *;generalize aL (d.1.tdiv 65536,d.2.1.tdiv 65536,d.2.2.tdiv 65536) (aL G pb)=e at *;generalize aL G pb=c7 at *;by_cases aj:r=M
 .rw[Zd aj]at c
  simp only at c;rw[<-c];subst aj;rcases N with⟨rfl,rfl,E,F⟩|⟨rfl,rfl⟩
  .skip
   exact GS (zAe g0 g1 g2 g3 T D U h10 h11 A B l E F (zAe k j x1 x2 x3 o z I J i1 i2 e4 e5 H g))
  .skip
   exact GS (zAe g0 g1 g2 g3 T D U h10 h11 A B l k j (zAd x1 x2 x3 o z I J i1 i2 e4 e5 (gA H g)))
 rw[Y6 aj]at c f
 have W:¬(M:Int)<=(r:Int):=by omega
 have K:¬M<=r:=by omega
 by_cases P:u<=0
 .rw[Zd P]at a8
  rw[Zd a8]at c;simp only at c;rw[<-c];rcases N with⟨rfl,rfl,E,F⟩|⟨rfl,rfl⟩
  .skip
   exact GS (zAe g0 g1 g2 g3 T D U h10 h11 A B l E F (zAe k j x1 x2 x3 o z I J i1 i2 e4 e5 H (go g W K P)))
  .skip
   exact GS (zAe g0 g1 g2 g3 T D U h10 h11 A B l k j (zAe x1 x2 x3 o z I J i1 i2 e4 e5 H g W (gA K P)))
 rw[Y6 P]at a8;have a1:v.tdiv 256=v/256:=Zr cz;have a2:i64.wrap (v/256)=v/256:=aa
 have hm:1<=max 1 (v/256):=by omega
 generalize a7:max 1 (v/256)=m at *;have a3:u.tdiv m=u/m:=Zr (by omega);have h4:u/m<=u:=yBq m (by omega);have h5:0<=u/m:=yAY (by omega) (by omega);have a4:i64.wrap (u/m)=u/m:=aa
 have a5:¬m=0:=by omega
 have a6:(m==0)=false:=by simp;omega
 have ah:=a8.symm;by_cases ak:t=0
 .rw[Zd ak]at c
  simp only at c;rw[<-c];rw[ak]at ah;rcases N with⟨rfl,rfl,E,F⟩|⟨rfl,rfl⟩
  .skip
   exact GS (zAe g0 g1 g2 g3 T D U h10 h11 A B l E F (zAe k j x1 x2 x3 o z I J i1 i2 e4 e5 H (zAd g W K P a1 a2 a7 a3 a4 a5 a6 ah)))
  .skip
   exact GS (zAe g0 g1 g2 g3 T D U h10 h11 A B l k j (zAe x1 x2 x3 o z I J i1 i2 e4 e5 H g W (zAc K P a1 a2 a7 a3 a4 a5 a6 ah)))
 rw[Y6 ak]at c f;have cf:=f.2 _ rfl;simp only at c
 have ck:(t==0)=false:=by simp;omega
 have cT:=Q8 S t lo.2 (by omega) b2 (by omega) b3.1 b3.2;have cX:=Q8 Q t L.2 (by omega) bq (by omega) b3.1 b3.2;have cp:i64.wrap ((r:Int)+1)=(r:Int)+1:=aa;rcases N with⟨rfl,rfl,E,F⟩|⟨rfl,rfl⟩
 .skip
  refine GT (zAe g0 g1 g2 g3 T D U h10 h11 A B l E F (zAe k j x1 x2 x3 o z I J i1 i2 e4 e5 H (zAe g W K P a1 a2 a7 a3 a4 a5 a6 ah ak ck cp))) ?_;refine⟨by omega,⟨jK S lo.2 t,jK Q L.2 t,n,r+1⟩,cf,by simp only,c,?_⟩;simp;exact⟨_,_,⟨rfl,rfl⟩,Or.inr ⟨rfl,rfl⟩⟩
 .skip
  refine GT (zAe g0 g1 g2 g3 T D U h10 h11 A B l k j (zAe x1 x2 x3 o z I J i1 i2 e4 e5 H g W (zAd K P a1 a2 a7 a3 a4 a5 a6 ah ak (gA ck cp)))) ?_;refine⟨by omega,⟨jK S lo.2 t,jK Q L.2 t,n,r+1⟩,cf,by simp only,c,?_⟩;simp;exact⟨_,_,⟨rfl,rfl⟩,Or.inr ⟨rfl,rfl⟩⟩
def Ct(v:Vc)(j:Nat):List AV:=[.pv (Z (if 0<j then v.1 else 0)),.pv (Z (if 1<j then v.2.1 else 0)),.pv (Z (if 2<j then v.2.2 else 0))]
theorem Wc(a b:List aq)(ha:a.length<=9223372036854775807)(hb:b.length<=9223372036854775807):aF 192 (aE a) (aE b) (.tup [al (j8 a b),B (lG a b)]):=by
 have ca:=xD a ha;have cb:=xD b hb
 have hN:j8 a b=if au a&&au b then bb (kx a b)else(0,0,0):=rfl
 have hM:lG a b=(au a&&au b&&nz (bb (kx a b))):=rfl;rw[hN,hM]
 cases K:au a with
 |false=>
  rw[K]at ca;refine Dp func192 λC hP hN=>?_;exact Gy
 |true=>
 rw[K]at ca
 cases L:au b with
 |false=>
  rw[L]at cb;refine Dp func192 λC hP hN=>?_;exact Gy
 |true=>
 rw[L]at cb;have c1:=HD a ha;have c2:=HD b hb;have ad:=Hl K L;have c5:=Q9 (kx a b) ad;have S:=(bo K).2.1;have T:=(bo L).2.1;have R:kx a b=((az (ax a) a.length).1*b.length-(az (ax b) b.length).1*a.length,(az (ax a) a.length).2.1*b.length-(az (ax b) b.length).2.1*a.length,(az (ax a) a.length).2.2*b.length-(az (ax b) b.length).2.2*a.length):=rfl;simp only[yAo,Zp,Zu];have N:=fB K;have O:=fB L;have n1:=kZ (l:=a);have n2:=kZ (l:=b);generalize ax a=f at *;generalize ax b=g at *;generalize kx a b=V at *;generalize bb V=n at *;have wa:i64.wrap (a.length:Int)=(a.length:Int):=aa;have wb:i64.wrap (b.length:Int)=(b.length:Int):=aa;refine Dp func192 λC hP hN=>?_;refine Gz ?_;refine WP.loopN [] 3 (λk st=>st.t 0=.pv (aE a)/\st.t 1=.pv (aE b)/\st.t 4=.ptr 4 0/\st.h 4=some (.box [.pv (Z 0),.pv (Z 0),.pv (Z 0)] true false)/\st.t 5=.pv (B false)/\st.t 6=.ptr 6 0/\st.h 6=some (.box (Ct V k) true false)/\st.t 7=.pv (aw f)/\st.t 8=.pv (aw g)/\st.t 9=.pv (Z k)) ?_ ?_
 .simp[Ct]
 rintro k st hk ⟨g0,g1,g4,d,g5,o,c,q,r,m⟩
 have e:∀x:Int,-2147483648<=x/\x<=2147483648->∀n:Nat,n<=8->-17179869184<=x*n/\x*n<=17179869184:=λx j n hn=>by
  have:=bj (a:=x) (b:=(n:Int)) 2147483648 8 (by omega) (by omega) (by omega) (by omega);omega
 rcases dA hk with rfl|rfl|rfl|rfl
 all_goals (simp[Ct]at c m)
 .skip
  have D:∀i:Nat,i<=8->-17179869184<=(az f i).1*b.length/\(az f i).1*b.length<=17179869184:=λi hi=>by
   have h:=je n1 i;obtain⟨q1,q2,q3⟩:=h;exact e (az f i).1 (by omega) _ T
  have E:∀i:Nat,i<=8->-17179869184<=(az g i).1*a.length/\(az g i).1*a.length<=17179869184:=λi hi=>by
   have h:=je n2 i;obtain⟨q1,q2,q3⟩:=h;exact e (az g i).1 (by omega) _ S
  skip
  refine GT (zAc g0 g1 g4 g5 d c o q r m) ?_;refine WP.loopN [] a.length (λi st=>st.t 0=.pv (aE a)/\st.t 1=.pv (aE b)/\st.t 4=.ptr 4 0/\st.h 4=some (.box [.pv (Z 0),.pv (Z 0),.pv (Z 0)] true false)/\st.t 5=.pv (B false)/\st.t 6=.ptr 6 0/\st.h 6=some (.box [.pv (Z ((az f i).1*b.length)),.pv (Z 0),.pv (Z 0)] true false)/\st.t 7=.pv (aw f)/\st.t 8=.pv (aw g)/\st.t 9=.pv (Z 0)/\st.t 10=.pv (Z i)) ?_ ?_
  .simp[az,g0,g1,g4,d,g5,o,c,q,r,m]
  clear g0 g1 g4 d g5 o c q r m;rintro i st hi ⟨g0,g1,g4,d,g5,o,c,q,r,m,v⟩;by_cases s:i<a.length
  .have u:i<f.length:=by omega
   have F:=ab s (by omega);obtain⟨p,j⟩:∃p,f[i]?=some p:=⟨_,an u⟩
   have G:∀h,f[i]'h=p:=λh=>by rw[an h]at j;exact ZQ j
   have A:=D (i+1) (by omega);have J:=D i (by omega);have hp:=dC (L4.1 n1 p (An j));obtain⟨X,p2,p3⟩:=hp;have M:=e p.1 (by omega) _ T
   have hS:(az f (i+1)).1*(b.length:Int)=(az f i).1*b.length+p.1*b.length:=by
    rw[<-Int.add_mul];simp only[az,j]
   rw[hS]at A|-;have P:i64.wrap (p.1*b.length)=p.1*b.length:=aa;generalize(az f i).1*(b.length:Int)=y at *;have Q:i64.wrap (y+p.1*b.length)=y+p.1*b.length:=aa;exact GS (zAe g0 g1 g4 d g5 o c q r m v s u F (zAa j G P Q wb N O))
  have z:i=a.length:=by omega
  subst z;have U:=D a.length (by omega);generalize W:(az f a.length).1*(b.length:Int)=Y at *
  skip
  refine GT (zAd g0 g1 g4 g5 d c o q r m v (gA N O)) ?_;refine WP.loopN [] b.length (λi st=>st.t 0=.pv (aE a)/\st.t 1=.pv (aE b)/\st.t 4=.ptr 4 0/\st.h 4=some (.box [.pv (Z 0),.pv (Z 0),.pv (Z 0)] true false)/\st.t 5=.pv (B false)/\st.t 6=.ptr 6 0/\st.h 6=some (.box [.pv (Z (Y-(az g i).1*a.length)),.pv (Z 0),.pv (Z 0)] true false)/\st.t 7=.pv (aw f)/\st.t 8=.pv (aw g)/\st.t 9=.pv (Z 0)/\st.t 11=.pv (Z i)) ?_ ?_
  .simp[az,g0,g1,g4,d,g5,o,c,q,r,m]
  clear g0 g1 g4 d g5 o c q r m v;rintro i st hi ⟨g0,g1,g4,d,g5,o,c,q,r,m,H⟩;by_cases s:i<b.length
  .have u:i<g.length:=by omega
   have F:=ab s (by omega);obtain⟨p,j⟩:∃p,g[i]?=some p:=⟨_,an u⟩
   have G:∀h,g[i]'h=p:=λh=>by rw[an h]at j;exact ZQ j
   have A:=E (i+1) (by omega);have J:=E i (by omega);have hp:=dC (L4.1 n2 p (An j));obtain⟨X,p2,p3⟩:=hp;have M:=e p.1 (by omega) _ S
   have hS:(az g (i+1)).1*(a.length:Int)=(az g i).1*a.length+p.1*a.length:=by
    rw[<-Int.add_mul];simp only[az,j]
   rw[hS]at A|-;have P:i64.wrap (p.1*a.length)=p.1*a.length:=aa;generalize(az g i).1*(a.length:Int)=y at *;have Q:i64.wrap (Y-y-p.1*a.length)=Y-(y+p.1*a.length):=(aa (by omega) (by omega)).trans (by omega);exact Gy
  have z:i=b.length:=by omega
  subst z
  have I:Y-(az g b.length).1*(a.length:Int)=V.1:=by rw[R,<-W]
  rw[I]at c
  skip
  with_reducible repeat' (first|refine Sp.h ?_|((first|refine Wd ?_|refine Ss.h ?_|(refine Sb.h ?_ ?_ ?_<;>(try intro hgd)<;>try exact Xy))<;>simp -implicitDefEqProofs (maxSteps:=2000000) [hP,hN,g0,g1,g4,g5,d,c,o,q,r,m,H,N,O,Ct]<;>try refine Ya ?_)|refine X2 ?_ ?_|(refine Xd ?_ ?_<;>intro hcd<;>try exact Xx))
 .skip
  have D:∀i:Nat,i<=8->-17179869184<=(az f i).2.1*b.length/\(az f i).2.1*b.length<=17179869184:=λi hi=>by
   have h:=je n1 i;obtain⟨q1,q2,q3⟩:=h;exact e (az f i).2.1 (by omega) _ T
  have E:∀i:Nat,i<=8->-17179869184<=(az g i).2.1*a.length/\(az g i).2.1*a.length<=17179869184:=λi hi=>by
   have h:=je n2 i;obtain⟨q1,q2,q3⟩:=h;exact e (az g i).2.1 (by omega) _ S
  skip
  refine GT (zAc g0 g1 g4 g5 d c o q r m) ?_;refine WP.loopN [] a.length (λi st=>st.t 0=.pv (aE a)/\st.t 1=.pv (aE b)/\st.t 4=.ptr 4 0/\st.h 4=some (.box [.pv (Z 0),.pv (Z 0),.pv (Z 0)] true false)/\st.t 5=.pv (B false)/\st.t 6=.ptr 6 0/\st.h 6=some (.box [.pv (Z V.1),.pv (Z ((az f i).2.1*b.length)),.pv (Z 0)] true false)/\st.t 7=.pv (aw f)/\st.t 8=.pv (aw g)/\st.t 9=.pv (Z 1)/\st.t 10=.pv (Z i)) ?_ ?_
  .simp[az,g0,g1,g4,d,g5,o,c,q,r,m]
  clear g0 g1 g4 d g5 o c q r m;rintro i st hi ⟨g0,g1,g4,d,g5,o,c,q,r,m,v⟩;by_cases s:i<a.length
  .have u:i<f.length:=by omega
   have F:=ab s (by omega);obtain⟨p,j⟩:∃p,f[i]?=some p:=⟨_,an u⟩
   have G:∀h,f[i]'h=p:=λh=>by rw[an h]at j;exact ZQ j
   have A:=D (i+1) (by omega);have J:=D i (by omega);have hp:=dC (L4.1 n1 p (An j));obtain⟨X,p2,p3⟩:=hp;have M:=e p.2.1 (by omega) _ T
   have hS:(az f (i+1)).2.1*(b.length:Int)=(az f i).2.1*b.length+p.2.1*b.length:=by
    rw[<-Int.add_mul];simp only[az,j]
   rw[hS]at A|-;have P:i64.wrap (p.2.1*b.length)=p.2.1*b.length:=aa;generalize(az f i).2.1*(b.length:Int)=y at *;have Q:i64.wrap (y+p.2.1*b.length)=y+p.2.1*b.length:=aa;exact GS (zAe g0 g1 g4 d g5 o c q r m v s u F (zAa j G P Q wb N O))
  have z:i=a.length:=by omega
  subst z;have U:=D a.length (by omega);generalize W:(az f a.length).2.1*(b.length:Int)=Y at *
  skip
  refine GT (zAd g0 g1 g4 g5 d c o q r m v (gA N O)) ?_;refine WP.loopN [] b.length (λi st=>st.t 0=.pv (aE a)/\st.t 1=.pv (aE b)/\st.t 4=.ptr 4 0/\st.h 4=some (.box [.pv (Z 0),.pv (Z 0),.pv (Z 0)] true false)/\st.t 5=.pv (B false)/\st.t 6=.ptr 6 0/\st.h 6=some (.box [.pv (Z V.1),.pv (Z (Y-(az g i).2.1*a.length)),.pv (Z 0)] true false)/\st.t 7=.pv (aw f)/\st.t 8=.pv (aw g)/\st.t 9=.pv (Z 1)/\st.t 11=.pv (Z i)) ?_ ?_
  .simp[az,g0,g1,g4,d,g5,o,c,q,r,m]
  clear g0 g1 g4 d g5 o c q r m v;rintro i st hi ⟨g0,g1,g4,d,g5,o,c,q,r,m,H⟩;by_cases s:i<b.length
  .have u:i<g.length:=by omega
   have F:=ab s (by omega);obtain⟨p,j⟩:∃p,g[i]?=some p:=⟨_,an u⟩
   have G:∀h,g[i]'h=p:=λh=>by rw[an h]at j;exact ZQ j
   have A:=E (i+1) (by omega);have J:=E i (by omega);have hp:=dC (L4.1 n2 p (An j));obtain⟨X,p2,p3⟩:=hp;have M:=e p.2.1 (by omega) _ S
   have hS:(az g (i+1)).2.1*(a.length:Int)=(az g i).2.1*a.length+p.2.1*a.length:=by
    rw[<-Int.add_mul];simp only[az,j]
   rw[hS]at A|-;have P:i64.wrap (p.2.1*a.length)=p.2.1*a.length:=aa;generalize(az g i).2.1*(a.length:Int)=y at *;have Q:i64.wrap (Y-y-p.2.1*a.length)=Y-(y+p.2.1*a.length):=(aa (by omega) (by omega)).trans (by omega);exact Gy
  have z:i=b.length:=by omega
  subst z
  have I:Y-(az g b.length).2.1*(a.length:Int)=V.2.1:=by rw[R,<-W]
  rw[I]at c
  skip
  with_reducible repeat' (first|refine Sp.h ?_|((first|refine Wd ?_|refine Ss.h ?_|(refine Sb.h ?_ ?_ ?_<;>(try intro hgd)<;>try exact Xy))<;>simp -implicitDefEqProofs (maxSteps:=2000000) [hP,hN,g0,g1,g4,g5,d,c,o,q,r,m,H,N,O,Ct]<;>try refine Ya ?_)|refine X2 ?_ ?_|(refine Xd ?_ ?_<;>intro hcd<;>try exact Xx))
 .skip
  have D:∀i:Nat,i<=8->-17179869184<=(az f i).2.2*b.length/\(az f i).2.2*b.length<=17179869184:=λi hi=>by
   have h:=je n1 i;obtain⟨q1,q2,q3⟩:=h;exact e (az f i).2.2 (by omega) _ T
  have E:∀i:Nat,i<=8->-17179869184<=(az g i).2.2*a.length/\(az g i).2.2*a.length<=17179869184:=λi hi=>by
   have h:=je n2 i;obtain⟨q1,q2,q3⟩:=h;exact e (az g i).2.2 (by omega) _ S
  skip
  refine GT (zAc g0 g1 g4 g5 d c o q r m) ?_;refine WP.loopN [] a.length (λi st=>st.t 0=.pv (aE a)/\st.t 1=.pv (aE b)/\st.t 4=.ptr 4 0/\st.h 4=some (.box [.pv (Z 0),.pv (Z 0),.pv (Z 0)] true false)/\st.t 5=.pv (B false)/\st.t 6=.ptr 6 0/\st.h 6=some (.box [.pv (Z V.1),.pv (Z V.2.1),.pv (Z ((az f i).2.2*b.length))] true false)/\st.t 7=.pv (aw f)/\st.t 8=.pv (aw g)/\st.t 9=.pv (Z 2)/\st.t 10=.pv (Z i)) ?_ ?_
  .simp[az,g0,g1,g4,d,g5,o,c,q,r,m]
  clear g0 g1 g4 d g5 o c q r m;rintro i st hi ⟨g0,g1,g4,d,g5,o,c,q,r,m,v⟩;by_cases s:i<a.length
  .have u:i<f.length:=by omega
   have F:=ab s (by omega);obtain⟨p,j⟩:∃p,f[i]?=some p:=⟨_,an u⟩
   have G:∀h,f[i]'h=p:=λh=>by rw[an h]at j;exact ZQ j
   have A:=D (i+1) (by omega);have J:=D i (by omega);have hp:=dC (L4.1 n1 p (An j));obtain⟨X,p2,p3⟩:=hp;have M:=e p.2.2 (by omega) _ T
   have hS:(az f (i+1)).2.2*(b.length:Int)=(az f i).2.2*b.length+p.2.2*b.length:=by
    rw[<-Int.add_mul];simp only[az,j]
   rw[hS]at A|-;have P:i64.wrap (p.2.2*b.length)=p.2.2*b.length:=aa;generalize(az f i).2.2*(b.length:Int)=y at *;have Q:i64.wrap (y+p.2.2*b.length)=y+p.2.2*b.length:=aa;exact GS (zAe g0 g1 g4 d g5 o c q r m v s u F (zAa j G P Q wb N O))
  have z:i=a.length:=by omega
  subst z;have U:=D a.length (by omega);generalize W:(az f a.length).2.2*(b.length:Int)=Y at *
  skip
  refine GT (zAd g0 g1 g4 g5 d c o q r m v (gA N O)) ?_;refine WP.loopN [] b.length (λi st=>st.t 0=.pv (aE a)/\st.t 1=.pv (aE b)/\st.t 4=.ptr 4 0/\st.h 4=some (.box [.pv (Z 0),.pv (Z 0),.pv (Z 0)] true false)/\st.t 5=.pv (B false)/\st.t 6=.ptr 6 0/\st.h 6=some (.box [.pv (Z V.1),.pv (Z V.2.1),.pv (Z (Y-(az g i).2.2*a.length))] true false)/\st.t 7=.pv (aw f)/\st.t 8=.pv (aw g)/\st.t 9=.pv (Z 2)/\st.t 11=.pv (Z i)) ?_ ?_
  .simp[az,g0,g1,g4,d,g5,o,c,q,r,m]
  clear g0 g1 g4 d g5 o c q r m v;rintro i st hi ⟨g0,g1,g4,d,g5,o,c,q,r,m,H⟩;by_cases s:i<b.length
  .have u:i<g.length:=by omega
   have F:=ab s (by omega);obtain⟨p,j⟩:∃p,g[i]?=some p:=⟨_,an u⟩
   have G:∀h,g[i]'h=p:=λh=>by rw[an h]at j;exact ZQ j
   have A:=E (i+1) (by omega);have J:=E i (by omega);have hp:=dC (L4.1 n2 p (An j));obtain⟨X,p2,p3⟩:=hp;have M:=e p.2.2 (by omega) _ S
   have hS:(az g (i+1)).2.2*(a.length:Int)=(az g i).2.2*a.length+p.2.2*a.length:=by
    rw[<-Int.add_mul];simp only[az,j]
   rw[hS]at A|-;have P:i64.wrap (p.2.2*a.length)=p.2.2*a.length:=aa;generalize(az g i).2.2*(a.length:Int)=y at *;have Q:i64.wrap (Y-y-p.2.2*a.length)=Y-(y+p.2.2*a.length):=(aa (by omega) (by omega)).trans (by omega);exact Gy
  have z:i=b.length:=by omega
  subst z
  have I:Y-(az g b.length).2.2*(a.length:Int)=V.2.2:=by rw[R,<-W]
  rw[I]at c
  skip
  with_reducible repeat' (first|refine Sp.h ?_|((first|refine Wd ?_|refine Ss.h ?_|(refine Sb.h ?_ ?_ ?_<;>(try intro hgd)<;>try exact Xy))<;>simp -implicitDefEqProofs (maxSteps:=2000000) [hP,hN,g0,g1,g4,g5,d,c,o,q,r,m,H,N,O,Ct]<;>try refine Ya ?_)|refine X2 ?_ ?_|(refine Xd ?_ ?_<;>intro hcd<;>try exact Xx))
 .skip
  exact GS (zAc g0 g1 g4 d g5 o c q r m)
theorem Bk(h:n<=100000000000)(m:Nat)(a:m<=10):(n+m)*24<=140737488355328:=by omega
theorem OR{l:List α}{v:α}(h:l[k]?=some v):(l.take (k+1)).filter p=(l.take k).filter p++(if p v=true then[v]else[]):=by
 rw[yA4,h,yAH];simp only[Option.toList_some,List.filter_cons,List.filter_nil]
theorem We(a:List aq)(f:Int)(b:List aq)(g:Int)(c:List Vc)(N:a.length<=9223372036854775807)(O:b.length<=9223372036854775807)(hl:c.length<=100000000000):wo 132 (aE a) (Z f) (aE b) (Z g) (aw c) (aw (mM a f b g c)):=by
 have V:=xD a N;have W:=xD b O;have A:=Cu f;have B:=Cu g
 have Q:mM a f b g c=if vr a f b g then c.filter aI++((if lG a b then[j8 a b]else[])++(j7++(if aI (mK a f b g)then[mK a f b g]else[])))else[]:=rfl
 have E:vr a f b g=(au a&&au b&&aT f 0 1048576&&aT g 0 1048576):=rfl;rw[Q,E]
 cases s:au a with
 |false=>
  rw[s]at V;refine Dp func132 λC hP hN=>?_;exact Gy
 |true=>
 rw[s]at V
 cases u:au b with
 |false=>
  rw[u]at W;refine Dp func132 λC hP hN=>?_;exact Gy
 |true=>
 rw[u]at W
 cases y:aT f 0 1048576 with
 |false=>
  rw[y]at A;refine Dp func132 λC hP hN=>?_;exact Gy
 |true=>
 rw[y]at A
 cases z:aT g 0 1048576 with
 |false=>
  rw[z]at B;refine Dp func132 λC hP hN=>?_;exact Gy
 |true=>
 rw[z]at B;simp only[yAo,Zp];have c1:=HD a N;have c2:=HD b O;have ah:=(bo s).2.1;have aj:=(bo u).2.1;have ad:=fB s;have E:=fB u;simp only[aT,up,Is]at y z;have I:i64.wrap (f+g)=f+g:=aa;have c3:=Tq (ax a) (ax b) (f+g) 64 (by omega) (by omega);have T:(iP (ax a) (ax b) (f+g) 64).2.n=mK a f b g:=rfl;rw[<-T];generalize iP (ax a) (ax b) (f+g) 64=R at *;have X:=Wc a b N O;have Y:=WC;have q:j7.length=6:=rfl;have r:=Ch j7;generalize j7=AX at *;generalize ax a=xa at *;generalize ax b=xb at *;have D:=Ci R.2.n;rw[uj]at D;have F:∀i:Nat,((c.take i).filter aI).length<=100000000000:=λi=>yAG (yBb _ _) (by rw[ZP];omega);refine Dp func132 λC hP hN=>?_;refine ki [11] trivial ?_;refine WP.loopN [] c.length (λi st=>st.t 0=.pv (aE a)/\st.t 1=.pv (Z f)/\st.t 2=.pv (aE b)/\st.t 3=.pv (Z g)/\st.t 4=.pv (aw c)/\st.t 12=.pv (Z i)/\st.t 11=.arr 11 ((c.take i).filter aI).length/\st.h 11=some (.row 60 3 (((c.take i).filter aI).map al) 0)/\st.h 13=none/\st.h 15=none) (by simp) ?_;rintro i st hi ⟨g0,g1,g2,g3,g4,o,l,e,j,k⟩;by_cases G:i<c.length
 .have ak:=ab G (by omega)
  generalize U:c[i]=v at *
  have hx:c[i]?=some v:=by rw[an G,U]
  have M:=Ci v;rw[uj]at M;have hs:=OR (p:=aI) hx;rw[hs];have d:=F i;generalize(c.take i).filter aI=P at *
  cases x:aI v with
  |true=>
   rw[x]at M;simp only[Zp]
   have k1:(P.length+1)*24<=140737488355328:=by omega
   have k2:P.length<=9223372036854775806:=by omega
   skip
   exact Gy
  |false=>
   rw[x]at M;simp only[Y9,Zk,yAX];exact Gy
 .have S:i=c.length:=by omega
  subst S;rw[yAS]at l e;have d:=F c.length;rw[yAS]at d;generalize c.filter aI=P at *
  have k1:(P.length+1)*24<=140737488355328:=by omega
  have k2:P.length<=9223372036854775806:=by omega
  have J:P.length<=9223372036854775799:=yAG d (by decide);have K:P.length<=9223372036854775800:=yAG d (by decide);have L:P.length<=9223372036854775801:=yAG d (by decide);have k3:(P.length+1+1)*24<=140737488355328:=Bk d 2 (by decide);have k4:(P.length+6)*24<=140737488355328:=Bk d 6 (by decide);have k5:(P.length+6+1)*24<=140737488355328:=Bk d 7 (by decide);have k6:(P.length+1+6)*24<=140737488355328:=Bk d 7 (by decide);have k7:(P.length+1+6+1)*24<=140737488355328:=Bk d 8 (by decide)
  cases H:lG a b with
  |true=>
   rw[H]at X;generalize j8 a b=m at *;simp only[Zp]
   cases x:aI R.2.n with
   |true=>
    rw[x]at D;simp only[Zp]
    skip
    exact GS (zAe g0 g1 g2 g3 g4 o l e j k k1 k2 k6 k7 (so I q r J K L))
   |false=>
    rw[x]at D;simp only[Y9,Zk];exact GS (zAe g0 g1 g2 g3 g4 o l e j k k1 k2 k6 k7 (so I q r J K L))
  |false=>
   rw[H]at X;generalize j8 a b=m at *;simp only[Y9,Zk]
   cases x:aI R.2.n with
   |true=>
    rw[x]at D;simp only[Zp]
    skip
    exact GS (zAe g0 g1 g2 g3 g4 o l e j k k1 k2 k4 k5 (so I q r J K L))
   |false=>
    rw[x]at D;simp only[Y9,Zk];exact GS (zAe g0 g1 g2 g3 g4 o l e j k k1 k2 k4 k5 (so I q r J K L))
theorem Kc(h:bJ js i j=0):j.lo<=j.hi:=by
 unfold bJ at h
 repeat' split at h
 all_goals (try (cases h;done))
 all_goals omega
theorem GH{ms:List Ms}(h:aP js ms=0):∀(i:Nat) j,js[i]?=some j->j.lo<=j.hi:=by
 unfold aP at h;split at h
 .cases h
 .split at h
  .rename_i c;exact absurd h c
  .rename_i g
   intro i j b
   have a:jb js=0:=by simpa using g
   rw[sW]at a;by_cases d:bJ js i j=0
   .exact Kc d
   .exfalso
    cases hf:(js.mapIdx (bJ js)).find? (λe=>e !=0)with
    |none=>
     rw[yAh]at hf
     have k:bJ js i j∈js.mapIdx (bJ js):=by
      rw[List.mem_mapIdx];obtain⟨h1,f⟩:=th.1 b;exact⟨i,h1,by rw[f]⟩
     exact hf _ k (by simpa using d)
    |some e=>
     rw[hf]at a;have:=yAJ hf;simp only at a;rw[a]at this;simp at this
def uk(js:List J)(n:Nat):Int:=((ke js)[n]?).getD 0
theorem LR(js:List J):uk js 0=-1:=by
 have h:=sA (js:=js) (k:=0) js.length (ZV _) (Zf _) 0 (Zf _)
 have:(ke js)[0]?=some (-1):=by rw[ke,h];rfl
 simp[uk,this]
theorem LS(a:sx js)(h:js[n]?=some j):uk js (n+1)=if j.lo=j.hi then uk js (j.parent+1).toNat else(n:Int):=by
 have:=Hu h (a n j h);simp[uk,this]
def pi(js:List J)(l:Int)(k:Nat):Prop:=kc (fu js 11 l) k=true/\qg js k=true
theorem zW{xs:List Int}{x:Int}:kc xs x=true↔x∈xs:=by
 simp[kc]
theorem Kd(js:List J):fu js 11 (-1)=[]:=by simp[fu]
theorem Dk(c:sx js)(d:js.length<=10)(h:js[n]?=some j)(k:Nat):pi js n k↔pi js j.parent k\/(k=n/\qg js n=true):=by
 have e:n<js.length:=(th.1 h).1;have b:=Fw c d (k:=n) (by omega) (by omega)
 have hp:tP js n=j.parent:=by simp[tP,h]
 rw[hp]at b;simp only[pi,b,zW,Zm,ZG];constructor
 .rintro⟨h1|h1,a⟩
  .exact .inl ⟨h1,a⟩
  .have:k=n:=by omega
   subst this;exact .inr ⟨rfl,a⟩
 .rintro(⟨h1,a⟩|⟨rfl,a⟩)
  .exact⟨.inl h1,a⟩
  .exact⟨.inr rfl,a⟩
theorem QJ(h:js[n]?=some j)(b:j.lo<=j.hi):qg js n=!decide (j.lo=j.hi):=by
 simp only[qg,h];by_cases a:j.lo=j.hi
 .simp[a]
 .simp[a];omega
theorem Fx{js:List J}(e:sx js)(p:js.length<=10)(f:∀(i:Nat) j,js[i]?=some j->j.lo<=j.hi):∀(m n:Nat),n<=m->n<=js.length->(uk js n=-1/\∀k,¬pi js ((n:Int)-1) k)\/(∃c:Nat,uk js n=c/\c<js.length/\pi js ((n:Int)-1) c/\∀k,pi js ((n:Int)-1) k↔pi js c k)
 |m,0,_,_=>by
  left
  refine⟨LR js,λk h=>?_⟩;have:=h.1;rw[show((0:Nat):Int)-1=-1 by omega,Kd]at this;cases this
 |0,n+1,h,_=>by omega
 |m+1,n+1,v,hn=>by
  have d:js[n]?=some (js[n]'(by omega)):=an _;generalize js[n]'(by omega)=j at d;have q:=e n j d;unfold Ck at q;have l:=LS e d;have b:=QJ d (f n j d);rw[show((n+1:Nat):Int)-1=(n:Int) by omega];by_cases g:j.lo=j.hi
  .rw[Zd g]at l
   simp only[g,yAN,yAC]at b
   have a:∀k,pi js n k↔pi js j.parent k:=λk=>by
    rw[Dk e p d k,b];simp
   have ih:=Fx e p f m (j.parent+1).toNat (by omega) (by omega);rw[show(((j.parent+1).toNat:Nat):Int)-1=j.parent by omega,<-l]at ih;rcases ih with⟨h1,o⟩|⟨c,h1,o,r,s⟩
   .exact .inl ⟨h1,λk u=>o k ((a k).1 u)⟩
   .exact .inr ⟨c,h1,o,(a c).2 r,λk=>(a k).trans (s k)⟩
  .rw[Y6 g]at l
   simp only[g,decide_false,yBo]at b;exact .inr ⟨n,l,by omega,(Dk e p d n).2 (.inr ⟨rfl,b⟩),λk=>yAn⟩
theorem Fy{js:List J}(d:sx js):∀(f:Nat)(l:Int),-1<=l->l<js.length->∀x∈fu js f l,0<=x/\x<=l
 |0,l,_,_,x,c=>by cases c
 |f+1,l,e,h1,x,c=>by
  rw[fu]at c;split at c
  .cases c
  .obtain⟨j,_,hp,a,b⟩:=yE d (k:=l) (by omega) h1
   rcases Zm.1 c with c|c
   .have:=Fy d f (tP js l) (by omega) (by omega) x c;omega
   .rw[ZG]at c;omega
theorem Hr:wh js a b=true↔∀k,k<js.length->qg js k=true->(kc (fu js 11 a) k=kc (fu js 11 b) k):=by
 simp only[wh,qH,L4,Zv,yAa,ZL];constructor
 .intro h k e d
  cases c:(kc (fu js 11 a) k !=kc (fu js 11 b) k)with
  |false=>simpa using c
  |true=>
   have:=h (k:Int) ⟨k,⟨e,c⟩,rfl⟩;rw[Zo,d]at this;cases this
 .rintro h x ⟨k,⟨e,c⟩,rfl⟩
  cases d:qg js k with
  |false=>rw[show(Int.ofNat k).toNat=k from rfl,d];rfl
  |true=>
   have:=h k e d;simp only[Kb,this,bne_self_eq_false]at c;cases c
theorem NJ(h:qg js k=true):k<js.length:=by
 unfold qg at h;split at h
 .rename_i j a;exact(th.1 a).1
 .cases h
theorem LT{ms:List Ms}(s:aP js ms=0)(x:bK js.length a=true)(y:bK js.length b=true):(uk js (a+1).toNat==uk js (b+1).toNat)=wh js a b:=by
 obtain⟨i,u,_⟩:=tp s;have g:=GH s;simp only[bK,up,Is]at x y;have q:=Fx i u g _ (a+1).toNat (Zf _) (by omega);have r:=Fx i u g _ (b+1).toNat (Zf _) (by omega);rw[show(((a+1).toNat:Nat):Int)-1=a by omega]at q;rw[show(((b+1).toNat:Nat):Int)-1=b by omega]at r
 have e:(uk js (a+1).toNat==uk js (b+1).toNat)=true↔wh js a b=true:=by
  rw[Hr,ZW]
  have v:(∀k,k<js.length->qg js k=true->(kc (fu js 11 a) k=kc (fu js 11 b) k))↔∀k,pi js a k↔pi js b k:=by
   constructor
   .intro h k
    simp only[pi];constructor
    .rintro⟨h1,f⟩;rw[h k (NJ f) f]at h1;exact⟨h1,f⟩
    .rintro⟨h1,f⟩;rw[<-h k (NJ f) f]at h1;exact⟨h1,f⟩
   .intro h k A z
    have:=h k;simp only[pi,z,and_true]at this;cases h1:kc (fu js 11 a) k<;>cases f:kc (fu js 11 b) k<;>simp_all
  rw[v];rcases q with⟨a1,j⟩|⟨c,a1,j,m,n⟩<;>rcases r with⟨b1,l⟩|⟨d,b1,l,o,p⟩<;>rw[a1,b1]
  .exact⟨λ_ k=>⟨λh=>absurd h (j k),λh=>absurd h (l k)⟩,λ_=>rfl⟩
  .exact⟨λh=>by omega,λh=>absurd ((h d).2 o) (j d)⟩
  .exact⟨λh=>by omega,λh=>absurd ((h c).1 m) (l c)⟩
  .constructor
   .intro h k
    have:c=d:=by omega
    subst this;rw[n,p]
   .intro h
    have h1:=(h c).1 m;have f:=(h d).2 o;rw[p]at h1;rw[n]at f;have k1:=Fy i 11 d (by omega) (by omega) c (zW.1 h1.1);have k2:=Fy i 11 c (by omega) (by omega) d (zW.1 f.1);omega
 cases h1:(uk js (a+1).toNat==uk js (b+1).toNat)<;>cases f:wh js a b<;>simp_all
theorem LU{s:Sce}(d:ao s=0){a b:Sh}(g:bK s.js.length a.link=true)(i:bK s.js.length b.link=true):DW s a b=(!(a.link==b.link)&& !wh s.js a.link b.link&& !jM s a.link b.link):=by
 have j:aP s.js s.ms=0:=by
  unfold ao at d;split at d
  .rename_i h;exact absurd d h
  .rename_i h;simpa using h
 have e:=LT j g i;have c:Cl (ke s.js) a b=wh s.js a.link b.link:=e;unfold DW;rw[c];by_cases f:a.link=b.link
 .have:wh s.js a.link b.link=true:=by
   rw[Hr,f];exact λ_ _ _=>rfl
  rw[this];simp
 .have:(a.link==b.link)=false:=by simp[f]
  rw[this];simp
theorem U5(s:Sce)(hs:ScL s):aR 131 (aN s) (.sl ((bY s).map qX)):=by
 have U:=Hq s hs;have I:=λa b=>U4 s a b hs.sks;by_cases v:ao s=0
 case neg=>
  have V:(ao s !=0)=true:=by simp[v]
  have hf:bY s=[]:=by simp[bY,v]
  rw[hf];generalize ao s=r at *;refine Dp func131 λC hP hN=>?_;exact Gy
 have hr:aP s.js s.ms=0:=by
  unfold ao at v;split at v
  .rename_i h;exact absurd v h
  .rename_i h;simpa using h
 obtain⟨v1,v2,v3,v4,v5,T,v7⟩:=nq v;have H:=λa b=>U3 s.js s.ms a b v2 hs.ms hr;have R:=λa b=>LU v (a:=a) (b:=b)
 have hf:bY s=jf s s.shs.length:=by simp[bY,v]
 rw[hf];rw[v]at U;have nL:=yI s;have iL:=yH s;refine Dp func131 λC hP hN=>?_;refine ki [3] trivial ?_;refine WP.loopN [] s.shs.length (λi st=>st.t 1=.ptr 1 0/\st.h 1=some (.box [.pv (.sl (s.js.map aO)),.pv (.sl (s.ms.map aX)),.pv (.sl (s.shs.map aZ)),.pv (.sl (s.sks.map aJ))] true false)/\st.t 4=.pv (Z i)/\st.t 3=.arr 3 (jf s i).length/\st.h 3=some (.row 215 2 ((jf s i).map qX) 0)) (by simp[jf]) ?_;rintro i st hi ⟨g1,g,g4,g3,d⟩;by_cases l:i<s.shs.length
 .have hw:=ab l (by omega)
  have j:(i:Int)<(s.shs.length:Int):=by omega
  generalize p:s.shs[i]=a at *
  have B:s.shs[i]?=some a:=by rw[an l,p]
  have F:=(T a (An B)).1;have A:jf s (i+1)=jf s i++ky s i s.shs.length:=rfl;have ad:=nL i;have Y:i*s.shs.length<=24*24:=yAp (by omega) (by omega);have J:=Cm s i (i+1) (Zf _);refine Gz ?_;refine WP.loopN [] (s.shs.length-(i+1)) (λq st=>st.t 1=.ptr 1 0/\st.h 1=some (.box [.pv (.sl (s.js.map aO)),.pv (.sl (s.ms.map aX)),.pv (.sl (s.shs.map aZ)),.pv (.sl (s.sks.map aJ))] true false)/\st.t 4=.pv (Z i)/\st.t 5=.pv (Z ((i+1+q:Nat):Int))/\st.t 3=.arr 3 (jf s i++ky s i (i+1+q)).length/\st.h 3=some (.row 215 2 ((jf s i++ky s i (i+1+q)).map qX) 0)) (by simp[g1,g,g4,g3,d,J]) ?_;clear g1 g g4 g3 d;rintro q st hq ⟨g1,g,g4,g5,g3,d⟩;obtain⟨k,W⟩:∃k,k=i+1+q:=⟨_,rfl⟩
  have O:i+1+(q+1)=k+1:=by omega
  rw[<-W]at g5 g3 d;rw[O];have K:ky s i (k+1)=ky s i k++(if i<k/\fK s i k=true then[(i,k)]else[]):=rfl;have X:=iL i k;by_cases n:k<s.shs.length
  .have e:(k:Int)<(s.shs.length:Int):=by omega
   have y:i64.wrap ((k:Int)+1)=(k:Int)+1:=aa;generalize u:s.shs[k]=b at *
   have D:s.shs[k]?=some b:=by rw[an n,u]
   have G:=(T b (An D)).1
   have o:fK s i k=(!(a.link==b.link)&& !wh s.js a.link b.link&& !jM s a.link b.link):=by
    simp only[fK,B,D];exact R a b F G
   have cs:=I a.link b.link;have cg:=H a.link b.link F G
   have M:i<k:=by omega
   have S:(jf s i++ky s i k).length<=1000:=by simp only[Zq];omega
   generalize z:jf s i++ky s i k=P at *
   have x:q<s.shs.length-(i+1):=by omega
   have L:jf s i++ky s i (k+1)=P++(if fK s i k=true then[(i,k)]else[]):=by
    rw[K,<-List.append_assoc,z];simp[M]
   rw[L];generalize jM s a.link b.link=sk at *;generalize wh s.js a.link b.link=rg at *;by_cases f:a.link=b.link
   .have c:fK s i k=false:=by rw[o,f];simp
    rw[c];exact GS (zAe g1 g g4 g5 g3 d n e y B p D u f (be l j x))
   .have m:(a.link !=b.link)=true:=by simp[f]
    have E:(a.link==b.link)=false:=by simp[f]
    rw[E]at o
    cases rg with
    |true=>
     have c:fK s i k=false:=by rw[o];rfl
     rw[c];exact GS (zAe g1 g g4 g5 g3 d n e y B p D u f (go m l j x))
    |false=>
     cases sk with
     |true=>
      have c:fK s i k=false:=by rw[o];rfl
      rw[c];exact GS (zAe g1 g g4 g5 g3 d n e y B p D u f (go m l j x))
     |false=>
      have c:fK s i k=true:=by rw[o];rfl
      rw[c];exact GS (zAe g1 g g4 g5 g3 d n e y B p D u f (so m l j x (show(P.length+1)*16<=140737488355328 by omega) (show P.length<=9223372036854775806 by omega)))
  .have Q:k=s.shs.length:=by omega
   have e:¬(k:Int)<(s.shs.length:Int):=by omega
   rw[Q,<-A]at g3 d;exact Gy
 .have N:i=s.shs.length:=by omega
  subst N;exact Gy
theorem Mf{l:List α}(h:l.findIdx? p=some i):∃v,l[i]?=some v/\i<l.length/\l.find? p=some v:=by
 rw[yA2]at h;obtain⟨hi,h1,a⟩:=h;refine⟨l[i],an hi,hi,xp (an hi) h1 λj x b d=>?_⟩;obtain⟨c,rfl⟩:=th.1 d;have:=a j b;simpa using this
theorem IP{l:List α}(h:l.findIdx? p=none):l.find? p=none:=by
 rw[List.findIdx?_eq_none_iff]at h;rw[yAh];intro x a;rw[h x a];simp
theorem Kl(a:List aq)(d:Int)(b:List aq)(e:Int)(c:List Vc):(mM a d b e c).length<=c.length+8:=by
 have g:mM a d b e c=if vr a d b e then c.filter aI++((if lG a b then[j8 a b]else[])++(j7++(if aI (mK a d b e)then[mK a d b e]else[])))else[]:=rfl
 have hf:=yBb aI c;have f:j7.length=6:=rfl;rw[g];split
 .rw[Zq,Zq,Zq,f]
  have h1:(if lG a b then[j8 a b]else([]:List Vc)).length<=1:=by split<;>simp
  have i:(if aI (mK a d b e)then[mK a d b e]else([]:List Vc)).length<=1:=by split<;>simp
  omega
 .simp
theorem XN(a:List aq)(e:Int)(b:List aq)(f:Int)(c:List Vc)(l:a.length<=9223372036854775807)(m:b.length<=9223372036854775807)(q:c.length<=100000000000):wo 86 (aE a) (Z e) (aE b) (Z f) (aw c) (.tup [al (j9 a e b f c).1,B (j9 a e b f c).2]):=by
 have c1:=We a e b f c l m q;have o:=Kl a e b f c
 have d:j9 a e b f c=match(mM a e b f c).find? (λn=>iU n a e b f)with
  |some n=>(n,true)
  |none=>((0,0,0),false):=rfl
 have j:=WB (mM a e b f c) a e b f (by omega) l m;generalize mM a e b f c=k at *
 cases g:k.findIdx? (λn=>iU n a e b f)with
 |none=>
  rw[IP g]at d;rw[g]at j;simp only at d j;rw[d];refine Dp func86 λC hP hN=>?_;exact Gy
 |some i=>
  obtain⟨v,p,r,hf⟩:=Mf g;rw[hf]at d;rw[g]at j;simp only at d j
  have s:∀h,k[i]'h=v:=λh=>by rw[an h]at p;exact ZQ p
  rw[d];refine Dp func86 λC hP hN=>?_;exact Gy
abbrev NK(p:List aq)(r:Int):PV:=.agg [aE p,Z r]
def zp(SH:List Sh)(PT:List (List aq))(p:Nat×Nat):PV:=NK (da PT p.1) (bV SH p.1)
def zq(SH:List Sh)(PT:List (List aq))(p:Nat×Nat):PV:=NK (da PT p.2) (bV SH p.2)
abbrev FM(s:Sce)(bx:List Iv):PV:=.sl ((bY s).map (zp s.shs (eP s bx)))
abbrev FO(s:Sce)(bx:List Iv):PV:=.sl ((bY s).map (zq s.shs (eP s bx)))
theorem HB{β:Type}(f:α->β){l:List α}{v:α}(h:l[k]?=some v):(l.take (k+1)).map f=(l.take k).map f++[f v]:=by
 rw[yA4,h,yAV];rfl
theorem Km{β:Type}(f:α->β){l:List α}(h:k<=l.length):((l.take k).map f).length=k:=by
 rw[ZB,ZP];omega
theorem XO(s:Sce)(bx:List Iv)(hs:ScL s)(q:bx.length<=9223372036854775807):aF 85 (aN s) (iv bx) (.tup (if ft s bx then[FM s bx,FO s bx,B true]else[.sl [],.sl [],B false])):=by
 have X:=Hq s hs;have D:=Ru s.js s.ms bx hs.js q;have hd:ft s bx=(decide (ao s=0)&&jN s.js bx):=rfl;by_cases f:ao s=0
 case neg=>
  have g:(ao s !=0)=true:=by simp[f]
  rw[Z9 f,ZI]at hd;rw[hd];refine Dp func85 λC hP hN=>?_;exact Gy
 have g:(ao s !=0)=false:=by simp[f]
 rw[ZH f,Zu]at hd
 cases e:jN s.js bx with
 |false=>
  rw[e]at hd D;rw[hd];refine Dp func85 λC hP hN=>?_;exact Gy
 |true=>
 have Y:=Wu s bx hs f e;have cr:=U5 s hs;rw[e]at hd D;have m:=IC hd;rw[hd];simp only[FM,FO,Zp];have G:=m.few;generalize bY s=PR at *;generalize eP s bx=PT at *;obtain⟨js,ms,SH,sks⟩:=s;simp only at *;refine Dp func85 λC hP hN=>?_;refine ki [8,9] (gA f g) ?_;refine WP.loopN [] PR.length (λi st=>st.t 2=.ptr 2 0/\st.h 2=some (.box [.pv (.sl (js.map aO)),.pv (.sl (ms.map aX)),.pv (.sl (SH.map aZ)),.pv (.sl (sks.map aJ))] true false)/\st.t 7=.pv (.sl (PT.map aE))/\st.t 8=.arr 8 i/\st.h 8=some (.row 178 2 ((PR.take i).map (zp SH PT)) 0)/\st.t 9=.arr 9 i/\st.h 9=some (.row 178 2 ((PR.take i).map (zq SH PT)) 0)/\st.t 10=.pv (.sl (PR.map qX))/\st.t 11=.pv (Z i)) (by simp) ?_;rintro k st hi ⟨g2,M,g7,g8,n,g9,o,K,L⟩;by_cases c:k<PR.length
 .have N:=ab c (by omega)
  obtain⟨p,hp⟩:∃p,PR[k]?=some p:=⟨_,an c⟩;have E:=HB (zp SH PT) hp;have F:=HB (zq SH PT) hp;have zA:=Km (zp SH PT) (Nat.le_of_lt c);have zB:=Km (zq SH PT) (Nat.le_of_lt c);rw[E,F];generalize(PR.take k).map (zp SH PT)=V at *;generalize(PR.take k).map (zq SH PT)=W at *;clear E F;obtain⟨H,y⟩:=th.1 hp;obtain⟨i,j⟩:=p;have hpr:=m.prs _ (An hp);simp only at hpr;have hl:=m.len;have Q:∀h,PR[k]'h=(i,j):=λ_=>y
  have T:i<PT.length:=by omega
  have U:j<PT.length:=by omega
  obtain⟨a,l⟩:∃x,PT[i]?=some x:=⟨_,an T⟩;obtain⟨b,d⟩:∃x,PT[j]?=some x:=⟨_,an U⟩;obtain⟨u,z⟩:∃x,SH[i]?=some x:=⟨_,an hpr.1⟩;obtain⟨v,A⟩:∃x,SH[j]?=some x:=⟨_,an hpr.2⟩
  have O:∀h,PT[i]'h=a:=λh=>by rw[an h]at l;exact ZQ l
  have P:∀h,PT[j]'h=b:=λh=>by rw[an h]at d;exact ZQ d
  have R:∀h,SH[i]'h=u:=λh=>by rw[an h]at z;exact ZQ z
  have S:∀h,SH[j]'h=v:=λh=>by rw[an h]at A;exact ZQ A
  have I:zp SH PT (i,j)=.agg [aE a,Z u.rad]:=by simp[zp,da,bV,l,z]
  have J:zq SH PT (i,j)=.agg [aE b,Z v.rad]:=by simp[zq,da,bV,d,A]
  rw[I,J];obtain⟨h1,h2⟩:=hpr
  have k1:(k+1)*32<=140737488355328:=by omega
  have k2:k<=9223372036854775806:=by omega
  skip
  exact Gy
 .have r:k=PR.length:=by omega
  subst r;rw[yAS]at n o;exact Gy
theorem OS(a:List Vc)(i:Nat)(hi:i<a.length)(z:Option Value)(e n:Nat)(y:Option Value):iW {size:=n,zero:=z,kind:=TK.slice e 3 24 y} (.pv (aw a)) (some (.pv (.val (.int .i64 (i:Int))))) (some (.pv (.val (.int .i64 ((i:Int)+1)))))=some (.pv (aw (jL a i))):=by
 have h1:(0:Int)<=(i:Int):=by omega
 have b:(0:Int)<=(i:Int)+1:=by omega
 have c:((i:Int)).toNat=i:=by omega
 have d:((i:Int)+1).toNat=i+1:=by omega
 simp only[iW,Zd h1,Zd b,c,d,ZB];rw[Zd ⟨by omega,by omega,by decide,Ch a⟩]
 congr 3
 rw[<-List.map_take,<-List.map_drop]
 congr 1
 unfold jL;rw[List.drop_take,show i+1-i=1 by omega]
theorem IQ(h:¬i<hints.length):jL hints i=[]:=by
 unfold jL;rw[yA6 (by omega)];rfl
theorem Rd{p:Nat×Nat}(h:PR[i]?=some p):(PR.map (zp SH PT))[i]?=some (.agg [aE (da PT p.1),Z (bV SH p.1)]):=by
 rw[Y7,h];rfl
theorem Re{p:Nat×Nat}(h:PR[i]?=some p):(PR.map (zq SH PT))[i]?=some (.agg [aE (da PT p.2),Z (bV SH p.2)]):=by
 rw[Y7,h];rfl
def xz(a:Bool):Int:=if a then 1 else 0
def Ts(a:List PV)(kd:Int)(i:Nat)(h:Hp):Prop:=(i=0/\h 10=some (.box [.pv (Z kd),.pv (.val (.slice none 0 0)),.pv (Z 0),.pv (.val (.slice none 0 0)),.pv (.val (.slice none 0 0))] true false)/\h 71=none)\/(0<i/\h 10=some (.box [.pv (Z kd),.arr 71 i,.pv (Z 0),.pv (.val (.slice none 0 0)),.pv (.val (.slice none 0 0))] true false)/\h 71=some (.row 60 3 (a.take i) 0))
def Tt(SH:List Sh)(PR:List (Nat×Nat))(PT:List (List aq))(a:List Vc)(d:List PV)(b:Vd)(i:Nat)(h:Hp):Prop:=∃c,iI SH PR PT a (PR.length-i) i c=b/\Ts d (xz c) i h
theorem qZ{c:List PV}{a:Vd}(b:Bool)(h1:iI SH PR PT hints (PR.length-i) i b=a)(d:Ts c (xz b) i h):Tt SH PR PT hints c a i h:=⟨b,h1,d⟩
set_option maxRecDepth 20000 in
theorem XP(s:Sce)(bx:List Iv)(b:List Vc)(hs:ScL s)(bq:bx.length<=9223372036854775807)(hh:b.length<=9223372036854775807):gu 44 (aN s) (iv bx) (aw b) (DU (cK s bx b)):=by
 have Y:=XO s bx hs bq
 have hd:cK s bx b=if ft s bx then iI s.shs (bY s) (eP s bx) b (bY s).length 0 true else⟨0,[],⟨0,[],[]⟩⟩:=rfl
 cases hp:ft s bx with
 |false=>
  rw[hp]at Y hd;simp only[Y9,Zk]at Y hd;rw[hd];refine Dp func44 λC hP hN=>?_;exact GS trivial
 |true=>
 rw[hp]at Y hd;simp only[Zp]at Y hd;have hb:=IC hp;have ar:=Hn hp;rw[hd];simp only[FM,FO]at Y;generalize bY s=PR at *;generalize eP s bx=PT at *;generalize s.shs=SH at *;have b7:=hb.few;generalize a:iI SH PR PT b PR.length 0 true=a6 at *;generalize V:(dg SH PR PT b).map al=T
 have b8:T.length=PR.length:=by rw[<-V];simp[dg]
 have ak:∀k p,PR[k]?=some p->T[k]?=some (al (qG SH PT b k p).1):=λk q hk=>by rw[<-V,dg,Y7,List.getElem?_mapIdx,hk];rfl
 have ad:=λ(i:Nat)(p:Nat×Nat)(h:PR[i]?=some p)=>Rd (SH:=SH) (PT:=PT) h;have aj:=λ(i:Nat)(p:Nat×Nat)(h:PR[i]?=some p)=>Re (SH:=SH) (PT:=PT) h
 have l:(PR.map (zp SH PT)).length=PR.length:=by simp
 have m:(PR.map (zq SH PT)).length=PR.length:=by simp
 generalize PR.map (zp SH PT)=LA at *;generalize PR.map (zq SH PT)=LB at *;refine Dp func44 λC hP hN=>?_;refine GT (gA l m) ?_;refine WP.loopN [13,15] PR.length (λi st=>st.t 2=.pv (aw b)/\st.t 6=.ptr 6 0/\st.h 6=some (.box [.pv (Z 0),.pv (.val (.slice none 0 0)),.pv (Z 0),.pv (.val (.slice none 0 0)),.pv (.val (.slice none 0 0))] true false)/\st.t 7=.pv (.sl LA)/\st.t 8=.pv (.sl LB)/\st.t 10=.ptr 10 0/\st.t 11=.pv (Z i)/\st.h 13=none/\st.h 15=none/\Tt SH PR PT b T a6 i st.h) ?_ ?_
 .simp
  exact qZ true a (.inl ⟨rfl,by simp[xz],by simp⟩)
 rintro i st hi ⟨g2,L,r,M,N,n,o,e,f,X,a,S⟩;by_cases x:i<PR.length
 .have B:=ab x (by omega)
  have j:(i:Int)<(PR.length:Int):=by omega
  obtain⟨p,hp⟩:∃p,PR[i]?=some p:=⟨_,an x⟩;have P:=ad i p hp;have Q:=aj i p hp
  have z:∀h,LA[i]'h=.agg [aE (da PT p.1),Z (bV SH p.1)]:=λh=>by rw[an h]at P;exact ZQ P
  have A:∀h,LB[i]'h=.agg [aE (da PT p.2),Z (bV SH p.2)]:=λh=>by rw[an h]at Q;exact ZQ Q
  have r1:=ar p.1;have r2:=ar p.2;have l1:=vt hb p.1;have l2:=vt hb p.2;have R:=XN (da PT p.1) (bV SH p.1) (da PT p.2) (bV SH p.2) (jL b i) (by omega) (by omega) (by simp[jL];omega);have b2:qG SH PT b i p=j9 (da PT p.1) (bV SH p.1) (da PT p.2) (bV SH p.2) (jL b i):=rfl;rw[<-b2]at R;rw[show PR.length-i=(PR.length-i-1)+1 by omega]at a;simp only[iI,hp]at a;have a7:=ak i p hp;generalize qG SH PT b i p=F at *
  have I:T.take (i+1)=T.take i++[al F.1]:=by rw[yA4,a7];rfl
  have D:(T.take i).length=i:=by rw[ZP];omega
  have E:i<=T.length:=by omega
  have c1:=HD (da PT p.1) (by omega);have c2:=HD (da PT p.2) (by omega);have z1:=oC l1;have z2:=oC l2;have c3:=Tq (ax (da PT p.1)) (ax (da PT p.2)) (bV SH p.1+bV SH p.2) 64 (by omega) (by omega);have a8:qB SH PT p=iP (ax (da PT p.1)) (ax (da PT p.2)) (bV SH p.1+bV SH p.2) 64:=rfl;have b4:=xq (ax (da PT p.1)) (ax (da PT p.2)) (bV SH p.1+bV SH p.2) 64;rw[<-a8]at c3 b4;have W:i64.wrap (bV SH p.1+bV SH p.2)=bV SH p.1+bV SH p.2:=aa;generalize qB SH PT p=K at *;have U:=XM K.2.w K.2.v (da PT p.1) (bV SH p.1) (da PT p.2) (bV SH p.2) (by omega) (by omega) (by omega) (by omega);have b5:sd SH PT K.2.w K.2.v p=(ow K.2.w K.2.v (da PT p.1) (bV SH p.1) (da PT p.2) (bV SH p.2)&&decide (0<=kW K.2.w K.2.v (da PT p.1) (bV SH p.1) (da PT p.2) (bV SH p.2))):=rfl;rw[<-b5]at U
  have k1:(i+1)*24<=140737488355328:=by omega
  have k2:i<=9223372036854775806:=by omega
  clear ak V ad aj;by_cases u:i<b.length
  .have y:=OS b i u
   have J:(i:Int)<(b.length:Int):=by omega
   rcases S with⟨g,c,d⟩|⟨g,c,d⟩
   .have O:T.take i=[]:=by rw[g];rfl
    rw[O,List.nil_append]at I
    cases G:F.2 with
    |true=>
     rw[G]at R a;simp only[Zp]at a;refine GT (zAe g2 L r M N n o e f c d u J x (zAd j B P z Q A l m y D E (gA k1 k2))) ?_;rw[show PR.length-i-1=PR.length-(i+1) by omega]at a
     all_goals exact qZ X a (.inr ⟨by omega,by simp[g],by simp[I]⟩)
    |false=>
     rw[G]at R a;simp only[Y9,Zk]at a
     cases H:sd SH PT K.2.w K.2.v p with
     |true=>
      rw[H]at U a;simp only[Zp]at a;subst a;exact GS (zAe g2 L r M N n o e f c d u J x (zAd j B P z Q A l m y D E (be k1 k2 W)))
     |false=>
      rw[H]at U a;simp only[Y9,Zk]at a;rw[show PR.length-i-1=PR.length-(i+1) by omega]at a;refine GT (zAe g2 L r M N n o e f c d u J x (zAd j B P z Q A l m y D E (be k1 k2 W))) ?_
      all_goals exact qZ false a (.inr ⟨by omega,by simp[xz,g],by simp[I]⟩)
   .have O:0<i:=g
    cases G:F.2 with
    |true=>
     rw[G]at R a;simp only[Zp]at a;refine GT (zAe g2 L r M N n o e f c d u J x (zAd j B P z Q A l m y D E (gA k1 k2))) ?_;rw[show PR.length-i-1=PR.length-(i+1) by omega]at a
     all_goals exact qZ X a (.inr ⟨by omega,by simp[g],by simp[I]⟩)
    |false=>
     rw[G]at R a;simp only[Y9,Zk]at a
     cases H:sd SH PT K.2.w K.2.v p with
     |true=>
      rw[H]at U a;simp only[Zp]at a;subst a;exact GS (zAe g2 L r M N n o e f c d u J x (zAd j B P z Q A l m y D E (be k1 k2 W)))
     |false=>
      rw[H]at U a;simp only[Y9,Zk]at a;rw[show PR.length-i-1=PR.length-(i+1) by omega]at a;refine GT (zAe g2 L r M N n o e f c d u J x (zAd j B P z Q A l m y D E (be k1 k2 W))) ?_
      all_goals exact qZ false a (.inr ⟨by omega,by simp[xz,g],by simp[I]⟩)
  .have y:¬(i:Int)<(b.length:Int):=by omega
   rw[IQ u]at R;simp only[aw,yBk]at R;rcases S with⟨g,c,d⟩|⟨g,c,d⟩
   .have O:T.take i=[]:=by rw[g];rfl
    rw[O,List.nil_append]at I
    cases G:F.2 with
    |true=>
     rw[G]at R a;simp only[Zp]at a;refine GT (zAe g2 L r M N n o e f c d u x j (zAd B P z Q A l m y D E k1 k2)) ?_;rw[show PR.length-i-1=PR.length-(i+1) by omega]at a
     all_goals exact qZ X a (.inr ⟨by omega,by simp[g],by simp[I]⟩)
    |false=>
     rw[G]at R a;simp only[Y9,Zk]at a
     cases H:sd SH PT K.2.w K.2.v p with
     |true=>
      rw[H]at U a;simp only[Zp]at a;subst a;exact GS (zAe g2 L r M N n o e f c d u x j (zAd B P z Q A l m y D E k1 (gA k2 W)))
     |false=>
      rw[H]at U a;simp only[Y9,Zk]at a;rw[show PR.length-i-1=PR.length-(i+1) by omega]at a;refine GT (zAe g2 L r M N n o e f c d u x j (zAd B P z Q A l m y D E k1 (gA k2 W))) ?_
      all_goals exact qZ false a (.inr ⟨by omega,by simp[xz,g],by simp[I]⟩)
   .have O:0<i:=g
    cases G:F.2 with
    |true=>
     rw[G]at R a;simp only[Zp]at a;refine GT (zAe g2 L r M N n o e f c d u x j (zAd B P z Q A l m y D E k1 k2)) ?_;rw[show PR.length-i-1=PR.length-(i+1) by omega]at a
     all_goals exact qZ X a (.inr ⟨by omega,by simp[g],by simp[I]⟩)
    |false=>
     rw[G]at R a;simp only[Y9,Zk]at a
     cases H:sd SH PT K.2.w K.2.v p with
     |true=>
      rw[H]at U a;simp only[Zp]at a;subst a;exact GS (zAe g2 L r M N n o e f c d u x j (zAd B P z Q A l m y D E k1 (gA k2 W)))
     |false=>
      rw[H]at U a;simp only[Y9,Zk]at a;rw[show PR.length-i-1=PR.length-(i+1) by omega]at a;refine GT (zAe g2 L r M N n o e f c d u x j (zAd B P z Q A l m y D E k1 (gA k2 W))) ?_
      all_goals exact qZ false a (.inr ⟨by omega,by simp[xz,g],by simp[I]⟩)
 .have b3:i=PR.length:=by omega
  subst b3;rw[yAR]at a;simp only[iI]at a
  have ah:(dg SH PR PT b).length=PR.length:=by simp[dg]
  rcases S with⟨g,c,d⟩|⟨g,c,d⟩
  .have O:dg SH PR PT b=[]:=ZC (by omega)
   rw[O]at a
   cases X with
   |true=>
    simp only[Zp]at a;subst a;simp only[xz,Zp]at c;exact GS (zAd g2 L r M N n o c d e f (be l m g))
   |false=>
    simp only[Y9,Zk]at a;subst a;simp only[xz,Y9,Zk]at c;exact GS (zAd g2 L r M N n o c d e f (be l m g))
  .rw[Zw (by omega),<-V]at d
   cases X with
   |true=>
    simp only[Zp]at a;subst a;simp only[xz,Zp]at c;exact GS (zAd g2 L r M N n o c d e f (be l m ah))
   |false=>
    simp only[Y9,Zk]at a;subst a;simp only[xz,Y9,Zk]at c;exact GS (zAd g2 L r M N n o c d e f (be l m ah))
theorem KY{D:Nat}:∀{l:List Pc},(∀x∈l,oR D x)->l.length<=kE D l
 |[],_=>Zf _
 |x::l,h=>by
  have a:=Gk (h x (by simp));have b:=KY (l:=l) λy c=>h y (by simp[c]);simp only[kE,yAf,List.sum_cons,yAE]at b|-;omega
theorem PC{s:Sce}{p q:List Int}{D:Int}{f:Nat}{out:List Pc}:qo s p q D (f+1) [] out=⟨1,out,0,0,⟨0,[],[]⟩⟩:=rfl
theorem TB(s:Sce)(p q:List Int)(D:Nat)(hs:ScL s)(h0:ao s=0)(hp:aY s.js s.ms p=true)(hq:aY s.js s.ms q=true)(cb:p.length<=16777216)(cd:q.length<=16777216)(hD:D<=20):lR 17 (aN s) (zs p) (zs q) (Z (D:Int)) (NY (oW s p q D)):=by
 have cr:=YI s p q hs h0 hp hq
 have b3:¬(D:Int)<0:=by omega
 have b5:¬(20:Int)<D:=by omega
 have hR:oW s p q D=qo s p q D (2^(D+1)) [(0,0,[])] []:=by
  unfold oW Je;rw[Zd (by simp[h0,hp,hq,hD])]
 rw[hR];have ad:=SX s p q D
 have b2:kE D [(0,0,[])]+0+1<=2^(D+1):=by
  have:1<=2^(D+1):=Nat.one_le_two_pow;simp[kE,DF];omega
 generalize O:qo s p q D (2^(D+1)) [(0,0,[])] []=a8;have cj:2^(D+1)<=2097152:=yAG (Nat.pow_le_pow_right (by decide) (show D+1<=21 by omega)) (by decide);generalize ck:2^(D+1)=E at *;have cp:=λ(x:Pc)=>Xn p q x.1 x.2.1 cb cd;have cc:=λ(x:Pc)(X:x.2.2.length<=9223372036854775807)=>XP s (de p q x) x.2.2 hs (by have:=M4 p q x;omega) X
 have cf:∀f c x g,qo s p q D (f+1) (c++[x]) g=if 4096<=g.length then⟨0,[],x.1,x.2.1,⟨0,[],[]⟩⟩else
  if(cK s (de p q x) x.2.2).kind=1 then qo s p q D f c (g++[(x.1,x.2.1,(cK s (de p q x) x.2.2).ns)])else
  if(cK s (de p q x) x.2.2).kind=2 then⟨2,[],x.1,x.2.1,(cK s (de p q x) x.2.2).w⟩else
  if x.1=D then⟨0,[],x.1,x.2.1,⟨0,[],[]⟩⟩else
  qo s p q D f (c++[(x.1+1,2*x.2.1+1,(cK s (de p q x) x.2.2).ns),(x.1+1,2*x.2.1,(cK s (de p q x) x.2.2).ns)]) g:=λf c x g=>by
  simp only[qo,List.getLast?_append,List.getLast?_singleton,Option.some_or,List.dropLast_concat]
 have b7:=λ(x:Pc)=>zV s (de p q x) x.2.2;have aj:=λ(x:Pc)(h:(cK s (de p q x) x.2.2).kind=1)=>KX h;clear h0 hp hq;obtain⟨js,ms,SH,sks⟩:=s;refine Dp func17 λC hP hN=>?_;refine ki [9,31] (gA b3 b5) ?_;refine WP.loopN [11,12,15] (E-1) (λi st=>∃todo g:List Pc,PrI ⟨js,ms,SH,sks⟩ p q D todo g/\kE D todo+i+1<=E/\g.length<=4096/\qo ⟨js,ms,SH,sks⟩ p q D (E-i) todo g=a8/\st.t 1=.pv (zs p)/\st.t 2=.pv (zs q)/\st.t 3=.pv (Z (D:Int))/\st.t 4=.ptr 4 0/\st.h 4=some (.box [.pv (.sl (js.map aO)),.pv (.sl (ms.map aX)),.pv (.sl (SH.map aZ)),.pv (.sl (sks.map aJ))] true false)/\st.t 8=.ptr 8 0/\st.h 8=some (.box [.pv (Z 0),.pv (.val (.slice none 0 0)),.pv (Z 0),.pv (Z 0),.pv (.val (.slice none 0 0)),.pv (Z 0),.pv (.val (.slice none 0 0)),.pv (.val (.slice none 0 0))] true false)/\st.t 9=.arr 9 g.length/\st.h 9=some (.row 65 3 (g.map jz) 0)/\st.t 10=.arr 31 todo.length/\st.h 31=some (.row 116 3 (todo.map jz) 0)/\st.h 11=none/\st.h 12=none/\st.h 15=none) ?_ ?_
 .exact⟨[(0,0,[])],[],ad,by omega,by simp,by simpa using O,by simp⟩
 clear ad b2 O cr
 have bq:∃ti e' b z,aA prog 117=some ti/\ti.kind=TK.slice e' 3 b z:=by refine⟨_,_,_,_,SW,rfl⟩
 rintro i st hi ⟨todo,g,S,hW,ca,e,g1,g2,g3,g4,G,J,H,K,I,n,m,o,r,y⟩;rw[show E-i=(E-i-1)+1 by omega]at e;rcases List.eq_nil_or_concat todo with ht|⟨c,x,ht⟩
 .subst ht
  rw[PC]at e;subst e;exact Gy
 .rw[List.concat_eq_append]at ht
  subst ht;rw[cf]at e;obtain⟨x0,x1,x2,x3,x4⟩:=S.t x (by simp);have c1:=cp x;have c2:=cc x (by omega);have hL:=b7 x;have hS:=aj x;have ch:=KY S.t;rw[Zq,Z6]at ch;have U:i64.wrap (c.length:Int)=(c.length:Int):=aa
  have M:c.length<(c++[x]).length:=by simp
  have X:((c++[x]).map jz)[c.length]?=some (jz x):=by simp
  have N:∀h,(c++[x])[c.length]'h=x:=λh=>by simp
  simp only[Zq,Z6]at n;obtain⟨ll,T⟩:∃ll,ll=c++[x]:=⟨_,rfl⟩;rw[<-T]at m M X N
  have B:ll.length=c.length+1:=by rw[T];simp
  with_reducible repeat' (first|refine Sp.h ?_|((refine WP.trunc (hn:=[]) (pre:=[_,_,_,_]) (post:=[_]) rfl rfl rfl rfl ?_);simp -implicitDefEqProofs (maxSteps:=2000000) [hP,hN,g1,g2,g3,g4,G,J,H,K,I,n,m,o,r,y,U,B,X,N,M])|((first|refine Ss.h ?_|(refine Sb.h ?_ ?_ ?_<;>(try intro hgd)<;>try exact Xy))<;>simp -implicitDefEqProofs (maxSteps:=2000000) [hP,hN,g1,g2,g3,g4,G,J,H,K,I,n,m,o,r,y,U,B,X,N,M])|refine X2 ?_ ?_|(refine Xd ?_ ?_<;>intro hcd<;>try exact Xx))
  refine⟨31,116,3,c.length+1,c.length,.i64,by simp[n],by simp[U],ll.map jz,by simp[m],by simp[B],by omega,by omega,by rw[hP];exact bq,by rw[hN];decide,?_⟩
  have ak:(ll.map jz).take c.length=c.map jz:=by rw[T];simp
  rw[ak];simp -implicitDefEqProofs (maxSteps:=2000000) [hP,hN,g1,g2,g3,g4,G,J,H,K,I];refine WP.of_st (P:=λst=>st.t 1=.pv (zs p)/\st.t 2=.pv (zs q)/\st.t 3=.pv (Z (D:Int))/\st.t 4=.ptr 4 0/\st.h 4=some (.box [.pv (.sl (js.map aO)),.pv (.sl (ms.map aX)),.pv (.sl (SH.map aZ)),.pv (.sl (sks.map aJ))] true false)/\st.t 8=.ptr 8 0/\st.h 8=some (.box [.pv (Z 0),.pv (.val (.slice none 0 0)),.pv (Z 0),.pv (Z 0),.pv (.val (.slice none 0 0)),.pv (Z 0),.pv (.val (.slice none 0 0)),.pv (.val (.slice none 0 0))] true false)/\st.t 9=.arr 9 g.length/\st.h 9=some (.row 65 3 (g.map jz) 0)/\st.t 10=.arr 31 c.length/\st.h 31=some (.row 116 3 (c.map jz) 0)/\st.t 11=.ptr 11 0/\st.h 11=some (.box [.pv (Z x.1),.pv (Z x.2.1),.pv (aw x.2.2)] true false)/\st.h 12=none/\st.h 15=none) ⟨by simp[rekey,g1,g2,g3,g4,G,J,H,K,I,r,y],?_⟩;clear g1 g2 g3 g4 G J H K I n m o r y X N M ak;rintro st ⟨g1,g2,g3,g4,G,J,H,K,I,n,m,Q,o,r,y⟩;obtain⟨d,k,hs⟩:=x;simp only at c1 c2 hL hS x0 x1 x2 x3 x4 e o;by_cases Y:4096<=g.length
  .rw[Zd Y]at e
   subst e
   have L:(4096:Int)<=g.length:=by omega
   exact Gy
  rw[Y6 Y]at e
  have L:¬(4096:Int)<=g.length:=by omega
  have ah:de p q (d,k,hs)=(eT p q d k).1:=rfl;have l:=λ(h:(cK ⟨js,ms,SH,sks⟩ (de p q (d,k,hs)) hs).kind=1)=>S.keep (x:=(d,k,hs)) (by simp) hL.1 (hS h);have j:=λ(h:d≠(D:Int))=>S.split (x:=(d,k,hs)) (by simp) hL.1 h;have cg:=PB (D:=D) (todo:=c++[(d,k,hs)]) (x:=(d,k,hs)) (by simp) (S.t _ (by simp));have ar:=λ(h:d≠(D:Int))(a b:Int)(u v:List Vc)=>Gl (D:=D) (todo:=c++[(d,k,hs)]) (x:=(d,k,hs)) (by simp) (S.t _ (by simp)) h a b u v;simp only[List.dropLast_concat]at l j cg ar;rw[ah]at c2 e hL l j;clear hS ah S;generalize eT p q d k=R at *;obtain⟨bx,fl⟩:=R;simp only at c1 c2 e hL l j;generalize cK ⟨js,ms,SH,sks⟩ bx hs=V at *;obtain⟨kd,ns,⟨pr,A,F⟩⟩:=V;simp only at c2 e hL l j
  have cn:k<1048576:=by
   have:=zN (d:=d) (by omega);omega
  have v1:i64.wrap (d+1)=d+1:=aa;have v2:i64.wrap (2*k)=2*k:=aa;have v3:i64.wrap (2*k+1)=2*k+1:=aa;by_cases k1:kd=1
  .subst k1
   rw[Zd rfl]at e;have hK:=l rfl;refine GT (zAe g1 g2 g3 g4 G J H K I n m Q o r (it y Y L (show(g.length+1)*40<=140737488355328 by omega) (show g.length+1<=9223372036854775807 by omega))) ?_
   all_goals exact⟨by omega,c,g++[(d,k,ns)],hK,by omega,by simp;omega,by rw[show E-(i+1)=E-i-1 by omega];exact e,by simp,by simp,rfl,rfl⟩
  have a6:(kd==1)=false:=by simp[k1]
  rw[Y6 k1]at e;by_cases k2:kd=2
  .subst k2
   rw[Zd rfl]at e;subst e;exact Gy
  have a7:(kd==2)=false:=by simp[k2]
  rw[Y6 k2]at e;by_cases k3:d=(D:Int)
  .rw[Zd k3]at e
   subst e
   have W:(d==(D:Int))=true:=by simp[k3]
   exact GS (zAe g1 g2 g3 g4 G J H K I n m Q o r (zAb y Y L k1 a6 k2 a7 W))
  .rw[Y6 k3]at e
   have W:(d==(D:Int))=false:=by simp[k3]
   have hK:=j k3;have cm:=ar k3 (2*k+1) (2*k) ns ns;refine GT (zAe g1 g2 g3 g4 G J H K I n m Q o r (zAd y Y L k1 a6 k2 a7 k3 W v1 v2 (be v3 (show(c.length+2)*40<=140737488355328 by omega) (show c.length+2<=9223372036854775807 by omega)))) ?_
   all_goals exact⟨by omega,c++[(d+1,2*k+1,ns),(d+1,2*k,ns)],g,hK,by omega,ca,by rw[show E-(i+1)=E-i-1 by omega];exact e,rfl,rfl,by simp,by simp⟩
theorem Qm(s:Sce)(P:List (List Int))(es:List aB)(e u v:Nat)(d:Int)(D:Nat)(hs:ScL s)(E:ao s=0)(i:es[e]?=some (lW u v d))(j:es.length<=100000)(l:u<P.length)(n:v<P.length)(G:P.length<=1024)(hp:∀x∈P,x.length<=100)(hin:∀x∈P,aY s.js s.ms x=true)(F:D<=20)(k:oW s (cO P u) (cO P v) D=E9):lR 26 (aN s) (bf ⟨P.map zs,es⟩) (Z e) (Z D) (.tup [bf ⟨P.map zs,es.set e (vK u v d)⟩,B true]):=by
 obtain⟨hi,H⟩:=th.1 i;have b:P[u]?=some P[u]:=an l;have f:P[v]?=some P[v]:=an n;have a:=Zs l;have c:=Zs n
 have I:cO P (u:Int)=P[u]:=by rw[cO,Zo,b];rfl
 have pv:cO P (v:Int)=P[v]:=by rw[cO,Zo,f];rfl
 rw[I,pv]at k;have c1:=YB ⟨P.map zs,es⟩ (lW u v d) (by simp;omega)
 have q:ln (⟨P.map zs,es⟩:eR).np.length (lW u v d)=true:=by simp[ln,eY,lW];omega
 rw[q]at c1;have g:=TB s P[u] P[v] D hs E (hin _ a) (hin _ c) (by have:=hp _ a;omega) (by have:=hp _ c;omega) F;rw[k]at g;have p:=Xv (P.map zs) es e u v d i j;obtain⟨js,ms,SH,sks⟩:=s;generalize m:P[u]=x at *;generalize o:P[v]=y at *;have z:lR 17 (aN ⟨js,ms,SH,sks⟩) (zs x) (zs y) (Z D) (.agg [Z 1,.sl [.agg [Z 0,Z 0,.sl []]],Z 0,Z 0,.sl [],Z 0,.sl [],.sl []]):=g;have A:gu 58 (bf ⟨P.map zs,es⟩) (Z e) (.agg [Z 1,.sl [.agg [Z 0,Z 0,.sl []]],Z 0,Z 0,.sl [],Z 0,.sl [],.sl []]) (.tup [bf ⟨P.map zs,es.set e (vK u v d)⟩,B true]):=p;have r:aF 57 (bf ⟨P.map zs,es⟩) (JT u v d) (B true):=c1;clear c1 g p k hin q;refine Dp func26 λC hP hN=>?_;exact GS (zAc hi H i @lW.eq_1 @JS.eq_1 b f l n (gA m o))
def Dd(b:Bool):Nat:=match b with
 |true=>2
 |false=>1
theorem Ot(b:Bool)(e:Nat):(oe b e).length=Dd b:=by
 cases b<;>rcases e with _|_|e<;>rfl
theorem Ou(b:Bool):oe b (Dd b)=oe b 2:=by cases b<;>rfl
theorem Xw(b:Bool){e:Nat}{r:Int}(h:e<Dd b)(a:r=1\/r=2):lR 26 (aN (iF r)) (bf ⟨(oT b).map zs,oe b e⟩) (Z e) (Z 2) (.tup [bf ⟨(oT b).map zs,oe b (e+1)⟩,B true]):=by
 have c:ao (iF r)=0:=by rcases a with rfl|rfl;exact Us;exact Ut
 have hi:=Qk b
 cases b with
 |false=>
  have:e=0:=by simp[Dd]at h;exact h
  subst this;exact Qm (iF r) (oT false) (oe false 0) 0 0 1 12 2 (Ba r) c rfl (by decide) (by decide) (by decide) (by decide) (by decide) hi (by decide) (by rcases a with rfl|rfl;exact Uu;exact Uv)
 |true=>
  have:e=0\/e=1:=by simp[Dd]at h;omega
  rcases this with rfl|rfl
  .exact Qm (iF r) (oT true) (oe true 0) 0 0 1 6 2 (Ba r) c rfl (by decide) (by decide) (by decide) (by decide) (by decide) hi (by decide) (by rcases a with rfl|rfl;exact Uw;exact Ux)
  .exact Qm (iF r) (oT true) (oe true 1) 1 1 2 6 2 (Ba r) c rfl (by decide) (by decide) (by decide) (by decide) (by decide) hi (by decide) (by rcases a with rfl|rfl;exact Uy;exact Uz)
theorem Sd(b:Bool):gu 25 (eK (kj 12 1) []) (.sl ((oT b).map zs)) (Z 1) (bf ⟨(oT b).map zs,oe b 0⟩):=by
 have h:=Xu (kj 12 1) [] (oT b) 1 (by simp[kj]) (by simp) Ur (by cases b<;>decide) (by cases b<;>decide) (by cases b<;>decide) (by decide) (by cases b<;>decide) (Qk b) (by
  intro i x a;cases b
  .rcases i with _|_|i
   .injection a with a;subst a;decide
   .injection a with a;subst a;decide
   .cases a
  .rcases i with _|_|_|i
   .injection a with a;subst a;decide
   .injection a with a;subst a;decide
   .injection a with a;subst a;decide
   .cases a)
 cases b
 .rw[show xh (kj 12 1) [] (oT false) 1 (oT false).length=oe false 0 from Up]at h;exact h
 .rw[show xh (kj 12 1) [] (oT true) 1 (oT true).length=oe true 0 from Uq]at h;exact h
theorem LF(l:List Int)(k:Nat):(wc l (k+1)).map aN=(wc l k).map aN++[aN (iF (tf l k))]:=by simp[wc,yAs]
theorem De(l:List Int)(k:Nat):(rX l (k+1)).map al=(rX l k).map al++[al (Ti l k)]:=by simp[rX,yAs]
theorem JY(l:List Int)(k:Nat):((o8 l (k+1)).map λq=>bf (bn q))=((o8 l k).map λq=>bf (bn q))++[bf (bn (A9 (JV l k)))]:=by simp[o8,yAs]
theorem d8(l:List Int):aR 8 (zs l) (.tup [.sl ((wc l (og l)).map aN),aw (rX l (og l)),gl (o8 l (og l))]):=by
 obtain⟨hk,N⟩:=JX l
 have aj:og l<=3:=by omega
 have c0:=Xi l;have c1:=JJ l 0 2 (by decide) (by omega);have hr:=mV l 0 (k:=2) (by decide) (by decide)
 have P:i64.wrap (2+nx l 0 2)=((og l:Nat):Int):=by rw[N,IntKind.wrap_i64];omega
 generalize og l=k at *;refine Dp func8 λC hP hN=>?_;refine ki [6,7,8] (gA @EN.eq_1 P) ?_;refine WP.loopN [10,11] k (λi st=>st.t 5=.ptr 14 0/\st.h 14=some (.box [.pv (zs l),.pv (Z (gg l i))] true false)/\st.t 6=.arr 6 i/\st.h 6=some (.row 35 4 ((wc l i).map aN) 0)/\st.t 7=.arr 7 i/\st.h 7=some (.row 60 3 ((rX l i).map al) 0)/\st.t 8=.arr 8 i/\st.h 8=some (.row 40 2 ((o8 l i).map λq=>bf (bn q)) 0)/\st.t 9=.pv (Z ((k:Int)-i))/\st.h 10=none/\st.h 11=none) (by simp[gg,wc,rX,o8]) ?_;rintro i st hi ⟨g5,a,g,b6,j,d,m,f,n,D,F⟩;have T:=Hd l i;have U:=Fa l i;have V:=Fb l i;by_cases O:i<k
 case neg=>
  have ah:i=k:=by omega
  subst ah
  have h0:¬(0:Int)<(i:Int)-i:=by omega
  exact Gy
 have h0:(0:Int)<(k:Int)-i:=by omega
 have hw:i64.wrap ((k:Int)-i-1)=(k:Int)-((i+1:Nat):Int):=by rw[IntKind.wrap_i64];omega
 have hm:=JW l i;have l1:=sU l (gg l i);have l2:=sU l (nn l (gg l i));have l3:=sU l (nn l (nn l (gg l i)));have cS:=Xo 1 12 (by decide) (by decide);have d1:=JJ l (gg l i) 2 (by decide) (by omega);have d2:=JJ l (nn l (gg l i)) 2 (by decide) (by omega);have d3:=JJ l (nn l (nn l (gg l i))) 9 (by decide) (by omega);have d4:=JJ l (nn l (nn l (nn l (gg l i)))) 4 (by decide) (by omega);have y1:=mV l (gg l i) (k:=2) (by decide) (by decide);have y3:=mV l (nn l (nn l (gg l i))) (k:=9) (by decide) (by decide);have y4:=mV l (nn l (nn l (nn l (gg l i)))) (k:=4) (by decide) (by decide);have J:=JY l i;have xS:=LF l i;have hR:tf l i=1+nx l (gg l i) 2:=rfl;have ad:=LE l i;have L:JV l i=decide (nx l (nn l (gg l i)) 2=1):=rfl
 have S:i64.wrap (1+nx l (gg l i) 2)=tf l i:=by rw[hR,IntKind.wrap_i64];omega
 have Q:i64.wrap (3*nx l (nn l (nn l (gg l i))) 9)=3*nx l (nn l (nn l (gg l i))) 9:=by rw[IntKind.wrap_i64];omega
 have R:i64.wrap (2*nx l (nn l (nn l (nn l (gg l i)))) 4)=2*nx l (nn l (nn l (nn l (gg l i)))) 4:=by rw[IntKind.wrap_i64];omega
 have cT:=λ(b:Bool)(e:Nat)(h:e<Dd b)=>Xw b h ad;have A:=Sd (JV l i);clear hR N P hk;generalize tf l i=r at *;obtain⟨b,hb⟩:∃b,b=JV l i:=⟨_,rfl⟩;rw[<-hb]at A J L;obtain⟨o,z⟩:∃o,o=(oT b).map zs:=⟨_,rfl⟩
 have cA:b=true->gu 25 (eK (kj 12 1) []) (.sl [.sl [Z 0],.sl [Z 6],.sl [Z 12]]) (Z 1) (bf ⟨o,oe b 0⟩):=λh=>by rw[z];subst h;exact A
 have X:b=false->gu 25 (eK (kj 12 1) []) (.sl [.sl [Z 0],.sl [Z 12]]) (Z 1) (bf ⟨o,oe b 0⟩):=λh=>by rw[z];subst h;exact A
 have Y:=cT b
 have qE:bf (bn (A9 b))=bf ⟨o,oe b 2⟩:=by rw[z];rfl
 rw[qE]at J;rw[<-z]at Y;have eL:=Ot b;have K:=Ou b
 have eM:Dd b<=2:=by cases b<;>decide
 clear cT qE A z hb;generalize oe b=E at *;generalize Dd b=M at *;rw[<-K]at J;by_cases hq:nx l (nn l (gg l i)) 2=1
 .have c5:=cA (by rw[L];exact ZH hq)
  have H:(nx l (nn l (gg l i)) 2==1)=true:=by simp[hq]
  clear cA X L;refine GT (zAe g5 a g b6 j d m f n D F h0 T U (go V S hq H)) ?_;refine WP.loopN [] M (λe st=>st.t 5=.ptr 14 0/\st.h 14=some (.box [.pv (zs l),.pv (Z (nn l (nn l (gg l i))))] true false)/\st.t 6=.arr 6 i/\st.h 6=some (.row 35 4 ((wc l i).map aN) 0)/\st.t 7=.arr 7 i/\st.h 7=some (.row 60 3 ((rX l i).map al) 0)/\st.t 8=.arr 8 i/\st.h 8=some (.row 40 2 ((o8 l i).map λq=>bf (bn q)) 0)/\st.t 9=.pv (Z ((k:Int)-i))/\st.t 10=.ptr 10 0/\st.h 10=some (.box [.pv (.sl ((kj 12 1).map aO)),.pv (.sl []),.pv (.sl [.agg [Z 0,Z r,.sl [.val (.agg #[.int .i64 0,.int .i64 0,.int .i64 0])]]]),.pv (.val (.slice none 0 0))] true false)/\st.t 11=.ptr 11 0/\st.h 11=some (.box [.pv (.sl o),.pv (gp (E e))] true false)/\st.t 12=.pv (Z e)) (by simp[g5,a,g,b6,j,d,m,f,n]) ?_;clear g5 a g b6 j d m f n D F st;rintro e st he ⟨g5,a,g,b6,j,d,m,f,n,v,p,x,s,y⟩;have u:=eL e;by_cases c:e<M
  .have I:i64.wrap ((e:Int)+1)=(e:Int)+1:=by rw[IntKind.wrap_i64];omega
   have c6:lR 26 (.agg [.sl ((kj 12 1).map aO),.sl [],.sl [.agg [Z 0,Z r,.sl [.val (.agg #[.int .i64 0,.int .i64 0,.int .i64 0])]]],.sl []]) (bf ⟨o,E e⟩) (Z e) (Z 2) (.tup [bf ⟨o,E (e+1)⟩,B true]):=Y e c;generalize E (e+1)=En at *;generalize E e=W at *;clear K J;exact GS (zAe g5 a g b6 j d m f n v p x s y (go u c I @iF.eq_1))
  .have G:e=M:=by omega
   subst G;generalize E e=W at *;clear K;refine GT (zAe g5 a g b6 j d m f n v p x s y (zAd u c Q R hw T U V (show(i+1)*96<=140737488355328 by omega) (show(i+1)*24<=140737488355328 by omega) (show(i+1)*48<=140737488355328 by omega) (gA (show i<=9223372036854775806 by omega) (show i+1<=9223372036854775807 by omega)))) ?_
   all_goals exact⟨O,rfl,xS.symm,(De l i).symm,J.symm⟩
 .have c5:=X (by rw[L];exact Z9 hq)
  have H:(nx l (nn l (gg l i)) 2==1)=false:=by simp[hq]
  clear cA X L;refine GT (zAe g5 a g b6 j d m f n D F h0 T U (go V S hq H)) ?_;refine WP.loopN [] M (λe st=>st.t 5=.ptr 14 0/\st.h 14=some (.box [.pv (zs l),.pv (Z (nn l (nn l (gg l i))))] true false)/\st.t 6=.arr 6 i/\st.h 6=some (.row 35 4 ((wc l i).map aN) 0)/\st.t 7=.arr 7 i/\st.h 7=some (.row 60 3 ((rX l i).map al) 0)/\st.t 8=.arr 8 i/\st.h 8=some (.row 40 2 ((o8 l i).map λq=>bf (bn q)) 0)/\st.t 9=.pv (Z ((k:Int)-i))/\st.t 10=.ptr 10 0/\st.h 10=some (.box [.pv (.sl ((kj 12 1).map aO)),.pv (.sl []),.pv (.sl [.agg [Z 0,Z r,.sl [.val (.agg #[.int .i64 0,.int .i64 0,.int .i64 0])]]]),.pv (.val (.slice none 0 0))] true false)/\st.t 11=.ptr 11 0/\st.h 11=some (.box [.pv (.sl o),.pv (gp (E e))] true false)/\st.t 12=.pv (Z e)) (by simp[g5,a,g,b6,j,d,m,f,n]) ?_;clear g5 a g b6 j d m f n D F st;rintro e st he ⟨g5,a,g,b6,j,d,m,f,n,v,p,x,s,y⟩;have u:=eL e;by_cases c:e<M
  .have I:i64.wrap ((e:Int)+1)=(e:Int)+1:=by rw[IntKind.wrap_i64];omega
   have c6:lR 26 (.agg [.sl ((kj 12 1).map aO),.sl [],.sl [.agg [Z 0,Z r,.sl [.val (.agg #[.int .i64 0,.int .i64 0,.int .i64 0])]]],.sl []]) (bf ⟨o,E e⟩) (Z e) (Z 2) (.tup [bf ⟨o,E (e+1)⟩,B true]):=Y e c;generalize E (e+1)=En at *;generalize E e=W at *;clear K J;exact GS (zAe g5 a g b6 j d m f n v p x s y (go u c I @iF.eq_1))
  .have G:e=M:=by omega
   subst G;generalize E e=W at *;clear K;refine GT (zAe g5 a g b6 j d m f n v p x s y (zAd u c Q R hw T U V (show(i+1)*96<=140737488355328 by omega) (show(i+1)*24<=140737488355328 by omega) (show(i+1)*48<=140737488355328 by omega) (gA (show i<=9223372036854775806 by omega) (show i+1<=9223372036854775807 by omega)))) ?_
   all_goals exact⟨O,rfl,xS.symm,(De l i).symm,J.symm⟩
theorem J4{e:Int}(hi:l[i]?=some e)(hq:∀(k:Nat) x,k<i->l[k]?=some x->x=0)(b:e≠0):gJ l=e:=by
 obtain⟨a,d⟩:=th.1 hi
 have:l.find? (λe=>e !=0)=some e:=by
  rw[yBd];refine⟨by simpa using b,i,a,d,λk c=>?_⟩;have:=hq k _ c (an (by omega));simp[this]
 rw[gJ,this]
structure JnB(A:Sce)(k:Nat):Prop where
 j:A.js.length<=10*k
 m:A.ms.length<=32*k
 h:A.shs.length<=24*k
 s:A.sks.length<=64*k
 p:∀x∈A.shs,x.pts.length<=8
theorem Df{h:Sh}(e:bB n h=0):h.pts.length<=8:=by
 unfold bB at e;split at e
 case isFalse=>cases e
 rename_i g1;simp only[up,Is]at g1;omega
theorem Be{l:List Sce}{bs:List Vc}(h:∀s∈l,ao s=0):∀k,JnB (dG l bs k) k
 |0=>⟨by simp[dG],by simp[dG],by simp[dG],by simp[dG],by simp[dG]⟩
 |k+1=>by
  obtain⟨h1,f,g,i,h5⟩:=Be (bs:=bs) h k;rw[dG];split
  .rename_i s b c e
   have o:=kV (h s (An c));have:=o.n2;have:=o.m1;have:=o.h1;have:=o.k1;refine⟨?_,?_,?_,?_,λx a=>?_⟩
   .simp only[oq,Zq,ZB];omega
   .simp only[oq,Zq,ZB];omega
   .simp only[oq,Zq,ZB];omega
   .simp only[oq,Zq,ZB];omega
   .rcases Zm.1 a with a|a
    .exact h5 x a
    .obtain⟨y,d,rfl⟩:=Zv.1 a
     have:=Df (o.h y d);simp only[jJ];split
     .rw[ZB];exact this
     .exact this
  .exact⟨by omega,by omega,by omega,by omega,h5⟩
theorem JnB.L(h:JnB A k)(b:k<=4):ScL A:=⟨by have:=h.j;omega,by have:=h.m;omega,by have:=h.h;omega,by have:=h.s;omega,λx a=>by have:=h.p x a;omega⟩
abbrev tO:Value:=.string ⟨#[97,98,99,100]⟩
def Fh(i:Nat):Operand->AV:=λx=>match x with
 |.tmp 86=>.pv (Z i)
 |.tmp 88=>.pv (Z ((i:Int)+1))
 |_=>.pv (.val tO)
section
variable {dst:Option Nat} {ty:TypeId} {pos:String} {aft:Array Edge} {g:Option (Nat×Bool)} {ρ:Operand->AV}
theorem Sf:aU prog ⟨dst,.slice 9 (.const tO) (some (.tmp 86)) (some (.tmp 88)) none,ty,pos,aft,g⟩ (Fh 0)=some (.pv (.val (.string (bP 0))),[]):=by kernel_rfl
theorem Sg:aU prog ⟨dst,.slice 9 (.const tO) (some (.tmp 86)) (some (.tmp 88)) none,ty,pos,aft,g⟩ (Fh 1)=some (.pv (.val (.string (bP 1))),[]):=by kernel_rfl
theorem Si:aU prog ⟨dst,.slice 9 (.const tO) (some (.tmp 86)) (some (.tmp 88)) none,ty,pos,aft,g⟩ (Fh 2)=some (.pv (.val (.string (bP 2))),[]):=by kernel_rfl
theorem Sj:aU prog ⟨dst,.slice 9 (.const tO) (some (.tmp 86)) (some (.tmp 88)) none,ty,pos,aft,g⟩ (Fh 3)=some (.pv (.val (.string (bP 3))),[]):=by kernel_rfl
theorem Qt(i:Nat)(e:i<4)(c:ρ (.tmp 86)=.pv (Z i))(d:ρ (.tmp 88)=.pv (Z ((i:Int)+1)))(b:ρ (.const tO)=.pv (.val tO)):
 aU prog ⟨dst,.slice 9 (.const tO) (some (.tmp 86)) (some (.tmp 88)) none,ty,pos,aft,g⟩ ρ=some (.pv (.val (.string (bP i))),[]):=by
 have h:aU prog ⟨dst,.slice 9 (.const tO) (some (.tmp 86)) (some (.tmp 88)) none,ty,pos,aft,g⟩ ρ=aU prog ⟨dst,.slice 9 (.const tO) (some (.tmp 86)) (some (.tmp 88)) none,ty,pos,aft,g⟩ (Fh i):=by
  refine nQ (by intro _ _ h;cases h) ?_;intro x a;simp[Op.operands]at a;rcases a with rfl|rfl|rfl
  .exact b
  .exact c
  .exact d
 rw[h]
 have:i=0\/i=1\/i=2\/i=3:=by omega
 rcases this with rfl|rfl|rfl|rfl
 .exact Sf
 .exact Sg
 .exact Si
 .exact Sj
end
def jE(i:Nat):Nat×Nat:=if i=291 then(108,12)else if i=292 then(110,5)else if i=293 then(81,3)else(113,2)
theorem Ir{l:Int}{m:Nat}(h:bK m l=true)(a:m<=10)(hn:n<=40):i64.wrap (l+n)=l+n:=by
 simp only[bK,up,Is]at h;exact aa (by omega) (by omega)
theorem Oz{h:Sh}(e:bB n h=0):h.pts.map (qd (0,0,0))=h.pts:=by
 unfold bB at e;split at e
 case isFalse=>cases e
 split at e
 case isFalse=>cases e
 rename_i g2;rw[L4]at g2;refine(List.map_congr_left (g:=id) λv d=>?_).trans (List.map_id _);have:=bu.1 (g2 v d);simp only[aV]at this;obtain⟨a,b,c⟩:=v;simp only at this;simp only[qd,Int.add_zero,id];rw[show wr a=a from aa (by omega) (by omega),show wr b=b from aa (by omega) (by omega),show wr c=c from aa (by omega) (by omega)]
def JI(l:List Sce)(bs:List Vc)(k m:Nat)(b:Vc)(x1 x2 x3 x4:List PV)(st:St):Prop:=
 st.t 0=.pv (.sl (l.map aN))/\st.t 1=.pv (aw bs)/\st.t 4=.ptr 4 0/\st.h 4=some (.box [.pv (.val (.slice none 0 0)),.pv (.val (.slice none 0 0)),.pv (.val (.slice none 0 0)),.pv (.val (.slice none 0 0))] true false)/\st.t 5=.pv (Z 0)/\st.t 8=.ptr 8 0/\st.h 8=some (.box [.arr 291 x1.length,.arr 292 x2.length,.arr 293 x3.length,.arr 294 x4.length] true false)/\st.h 291=some (.row 108 12 x1 0)/\st.h 292=some (.row 110 5 x2 0)/\st.h 293=some (.row 81 3 x3 0)/\st.h 294=some (.row 113 2 x4 0)/\st.t 9=.pv (Z k)/\st.t 10=.pv (Z m)/\st.t 11=.ptr 11 0/\st.h 11=some (.box [.pv (Z b.1),.pv (Z b.2.1),.pv (Z b.2.2)] true false)/\st.h 13=none/\st.h 15=none/\st.h 17=none/\st.h 18=none/\st.h 20=none
theorem J5{l:List Sce}{bs:List Vc}{res:PV}(d:¬(l.length<1\/4<l.length\/bs.length≠l.length))(a:res=PV.tup [aN (iy l bs),Z (ic l bs)]):
 (∀(i:Nat) s,l[i]?=some s->(∀(k:Nat) x,k<i->l[k]?=some x->ao x=0)->ao s≠0->res=.tup [.agg [.sl [],.sl [],.sl [],.sl []],Z (ao s)])/\
 ((∀s∈l,ao s=0)->res=if ao (dG l bs l.length)=0 then .tup [aN (dG l bs l.length),Z 0]else .tup [.agg [.sl [],.sl [],.sl [],.sl []],Z 3502]):=by
 have n:ic l bs=if gJ (l.map ao)≠0 then gJ (l.map ao)else if ao (dG l bs l.length)=0 then 0 else 3502:=by unfold ic;rw[Y6 d]
 refine⟨?_,?_⟩
 .intro i s hi hq m
  have h1:gJ (l.map ao)=ao s:=J4 (i:=i) (by simp[hi]) (λk x q b=>by
   rw[Y7]at b
   cases j:l[k]? with
   |none=>rw[j]at b;cases b
   |some y=>rw[j]at b;injection b with b;rw[<-b];exact hq k y q j) m
  have o:ic l bs=ao s:=by rw[n,Zd (by rw[h1];exact m),h1]
  rw[a,iy,o,Y6 m];rfl
 .intro h
  have h1:gJ (l.map ao)=0:=Bb (by intro e p;obtain⟨s,g,rfl⟩:=Zv.1 p;exact h s g)
  have c:ic l bs=if ao (dG l bs l.length)=0 then 0 else 3502:=by rw[n,Y6 (by rw[h1];simp)]
  rw[a,iy];by_cases f:ao (dG l bs l.length)=0
  .rw[c,Zd f,Zd rfl,Zd f]
  .rw[c,Y6 f,Y6 (by decide),Y6 f];rfl
theorem Tn(l:List Sce)(bs:List Vc)(hs:∀s∈l,ScL s)(hl:l.length<=9223372036854775807)(hb:bs.length<=9223372036854775807):aF 15 (.sl (l.map aN)) (aw bs) (.tup [aN (iy l bs),Z (ic l bs)]):=by
 by_cases W:l.length<1\/4<l.length\/bs.length≠l.length
 .have e1:ic l bs=3501:=by unfold ic;rw[Zd W]
  have e2:iy l bs=⟨[],[],[],[]⟩:=by unfold iy;rw[e1];rfl
  rw[e1,e2]
  have hc:((l.length:Int)<1)\/(4<(l.length:Int))\/((bs.length:Int)!=l.length)=true:=by
   rcases W with h|h|h
   .exact .inl (by omega)
   .exact .inr (.inl (by omega))
   .refine .inr (.inr ?_);simp;omega
  rcases hc with h|h|h
  all_goals
   refine Dp func15 λC hP hN=>?_;exact Gy
 have l1:¬(l.length:Int)<1:=by omega
 have l2:¬4<(l.length:Int):=by omega
 have l3:((bs.length:Int)!=l.length)=false:=by simp;omega
 have cQ:bs.length=l.length:=by omega
 have h4:l.length<=4:=by omega
 have hE:ic l bs=if gJ (l.map ao)≠0 then gJ (l.map ao)else if ao (dG l bs l.length)=0 then 0 else 3502:=by unfold ic;rw[Y6 W]
 have cs:=λ(s:Sce)(h:s∈l)=>Hq s (hs s h);obtain⟨cS,F⟩:∃r,r=PV.tup [aN (iy l bs),Z (ic l bs)]:=⟨_,rfl⟩;obtain⟨hF,hG⟩:=J5 W F;rw[<-F];clear F hE;refine Dp func15 λC hP hN=>?_;refine Gz ?_;refine WP.loopN [] l.length (λi st=>st.t 0=.pv (.sl (l.map aN))/\st.t 1=.pv (aw bs)/\st.t 4=.ptr 4 0/\st.h 4=some (.box [.pv (.val (.slice none 0 0)),.pv (.val (.slice none 0 0)),.pv (.val (.slice none 0 0)),.pv (.val (.slice none 0 0))] true false)/\st.t 5=.pv (Z 0)/\st.t 6=.pv (Z i)/\(st.h 8=none/\st.h 11=none/\st.h 13=none/\st.h 15=none/\st.h 17=none/\st.h 18=none/\st.h 20=none/\st.h 291=none/\st.h 292=none/\st.h 293=none/\st.h 294=none)/\∀(k:Nat) x,k<i->l[k]?=some x->ao x=0) (by simp) ?_;rintro i st hi ⟨g0,g1,g4,E,g5,g6,⟨n8,b9,g,n,o,p,q,ca,cb,cc,cd⟩,hq⟩;by_cases B:i<l.length
 .have X:=ab B (by omega)
  have P:l[i]?=some l[i]:=an B;have c1:=cs _ (Zs B);have ct:=hF i _ P hq;generalize J:l[i]=s at *;by_cases hz:ao s=0
  .rw[hz]at c1
   have cz:∀(k:Nat) x,k<i+1->l[k]?=some x->ao x=0:=λk x hk b7=>by
    by_cases e:k=i
    .subst e;rw[P]at b7;injection b7 with b7;rw[<-b7];exact hz
    .exact hq k x (by omega) b7
   refine Gz ?_
   all_goals exact cz
  .have hr:=ct hz
   have cD:(ao s !=0)=true:=by simp[hz]
   subst hr;generalize ao s=e at *;exact Gy
 have N:i=l.length:=by omega
 subst N
 have bq:∀s∈l,ao s=0:=λs cB=>by
  obtain⟨k,hk⟩:=ZF cB;exact hq k s (th.1 hk).1 hk
 have hB:=λk=>Be (bs:=bs) bq k;have F:=hG bq;clear hF hG hq cs
 with_reducible iterate 8 any_goals (first|refine Sp.h ?_|((first|refine Wd ?_|refine Ss.h ?_|(refine Sb.h ?_ ?_ ?_<;>(try intro hgd)<;>try exact Xy))<;>simp -implicitDefEqProofs (maxSteps:=2000000) [hP,hN,g0,g1,g4,E,g5,g6,n8,b9,g,n,o,p,q,ca,cb,cc,cd,B]<;>try refine Ya ?_)|refine X2 ?_ ?_|(refine Xd ?_ ?_<;>intro hcd<;>try exact Xx))
 refine WP.nilRowsE (λk=>decide (291<=k)&&decide (k<=294)) jE 8 (cs:=[.pv (.val (.slice none 0 0)),.pv (.val (.slice none 0 0)),.pv (.val (.slice none 0 0)),.pv (.val (.slice none 0 0))]) (cs':=[.arr 291 0,.arr 292 0,.arr 293 0,.arr 294 0]) (own:=true) (fb:=false) (by simp) ?_ rfl ?_ ?_
 .intro k hk
  simp only[up,Is]at hk
  have:k=291\/k=292\/k=293\/k=294:=by omega
  rcases this with rfl|rfl|rfl|rfl<;>simp[jE,ca,cb,cc,cd]
 .intro i x P
  rcases i with _|_|_|_|i<;>simp at P<;>subst P<;>simp
 refine Gz ?_;refine WP.loopN [11] l.length (λk st=>∃A,A=dG l bs k/\st.t 0=.pv (.sl (l.map aN))/\st.t 1=.pv (aw bs)/\st.t 4=.ptr 4 0/\st.h 4=some (.box [.pv (.val (.slice none 0 0)),.pv (.val (.slice none 0 0)),.pv (.val (.slice none 0 0)),.pv (.val (.slice none 0 0))] true false)/\st.t 5=.pv (Z 0)/\st.t 8=.ptr 8 0/\st.h 8=some (.box [.arr 291 A.js.length,.arr 292 A.ms.length,.arr 293 A.shs.length,.arr 294 A.sks.length] true false)/\st.h 291=some (.row 108 12 (A.js.map aO) 0)/\st.h 292=some (.row 110 5 (A.ms.map aX) 0)/\st.h 293=some (.row 81 3 (A.shs.map aZ) 0)/\st.h 294=some (.row 113 2 (A.sks.map aJ) 0)/\st.t 9=.pv (Z k)/\st.h 11=none/\st.h 13=none/\st.h 15=none/\st.h 17=none/\st.h 18=none/\st.h 20=none) ?_ ?_
 .exact⟨_,rfl,by simp[jE,dG,g0,g1,g4,E,g5,b9,g,n,o,p,q]⟩
 clear g0 g1 g4 E g5 g6 n8 b9 g n o p q ca cb cc cd;rintro k st hk ⟨A,hA,g0,g1,g4,E,g5,K,H,a,c,d,f,G,b9,g,n,o,p,q⟩;have ck:=hB k;rw[<-hA]at ck;obtain⟨B1,B2,B3,B4,-⟩:=ck;by_cases B:k<l.length
 case neg=>
  have cu:k=l.length:=by omega
  subst cu;subst hA;have c1:=Hq _ ((hB l.length).L h4);generalize dG l bs l.length=A at *;by_cases hz:ao A=0
  .rw[hz]at c1
   rw[Zd hz]at F;subst F;exact Gy
  .have cD:(ao A !=0)=true:=by simp[hz]
   rw[Y6 hz]at F;subst F;generalize ao A=e at *;exact Gy
 have cf:=ab B (by omega);have P:l[k]?=some l[k]:=an B
 have D:k<bs.length:=by omega
 have hy:bs[k]?=some bs[k]:=an D;have os:=kV (bq _ (Zs B));have U:=vf P hy;rw[<-hA]at U
 have cn:k<4:=by omega
 generalize J:l[k]=s at *;generalize M:bs[k]=b at *;obtain⟨js,ms,SH,sks⟩:=s;have o2:=os.n2;have oj:=os.j;have om:=os.m;have oh:=os.h;have ok:=os.k;have cP:=os.m1;have cM:=os.h1;have cN:=os.k1;clear os;simp only at o2 oj om oh ok cP cM cN;obtain⟨aj,am,ah,ak⟩:=A;simp only[oq]at U;simp only at B1 B2 B3 B4 H a c d f;obtain⟨m,hm⟩:∃m,m=aj.length:=⟨_,rfl⟩;rw[<-hm]at U H;obtain⟨R,ar⟩:∃S,S=sq (aj.map aO) (λj=>aO (fX k m b j)) js:=⟨_,rfl⟩;obtain⟨Y,a6⟩:∃S,S=sq (am.map aX) (λx=>aX (oU m x)) ms:=⟨_,rfl⟩;obtain⟨S3,a7⟩:∃S,S=sq (ah.map aZ) (λx=>aZ (jJ m b x)) SH:=⟨_,rfl⟩;obtain⟨S4,a8⟩:∃S,S=sq (ak.map aJ) (λx=>aJ (oo m x)) sks:=⟨_,rfl⟩
 have z1:R 0=aj.map aO:=by rw[ar,lD]
 have z2:Y 0=am.map aX:=by rw[a6,lD]
 have z3:S3 0=ah.map aZ:=by rw[a7,lD]
 have z4:S4 0=ak.map aJ:=by rw[a8,lD]
 have u1:∀i j,js[i]?=some j->R (i+1)=R i++[aO (fX k m b j)]:=λi j h=>by rw[ar];exact lE h
 have u2:∀i x,ms[i]?=some x->Y (i+1)=Y i++[aX (oU m x)]:=λi j h=>by rw[a6];exact lE h
 have u3:∀i x,SH[i]?=some x->S3 (i+1)=S3 i++[aZ (jJ m b x)]:=λi j h=>by rw[a7];exact lE h
 have u4:∀i x,sks[i]?=some x->S4 (i+1)=S4 i++[aJ (oo m x)]:=λi j h=>by rw[a8];exact lE h
 have v1:∀i,i<=js.length->(R i).length<=100:=λi h=>by rw[ar,ou h,ZB];omega
 have v2:∀i,i<=ms.length->(Y i).length<=200:=λi h=>by rw[a6,ou h,ZB];omega
 have v3:∀i,i<=SH.length->(S3 i).length<=200:=λi h=>by rw[a7,ou h,ZB];omega
 have v4:∀i,i<=sks.length->(S4 i).length<=400:=λi h=>by rw[a8,ou h,ZB];omega
 have y1:R js.length=(aj++js.map (fX k m b)).map aO:=by rw[ar,ov];simp
 have y2:Y ms.length=(am++ms.map (oU m)).map aX:=by rw[a6,ov];simp
 have y3:S3 SH.length=(ah++SH.map (jJ m b)).map aZ:=by rw[a7,ov];simp
 have y4:S4 sks.length=(ak++sks.map (oo m)).map aJ:=by rw[a8,ov];simp
 have b3:m<=40:=by omega
 clear ar a6 a7 a8;refine Gz ?_;refine WP.loopN [13] js.length (λi st=>JI l bs k m b (R i) (Y 0) (S3 0) (S4 0) st/\st.t 12=.pv (Z i)) (by simp[JI,z1,z2,z3,z4,hm,g0,g1,g4,E,g5,K,H,a,c,d,f,G,g,n,o,p,q]) ?_;clear g0 g1 g4 E g5 K H a c d f G b9 g n o p q;rintro i st hi ⟨⟨g0,g1,g4,E,g5,K,H,a,c,d,f,G,y,z,v,g,n,o,p,q⟩,T⟩;have hS:=v1 i hi;by_cases u:i<js.length
 .have X:=ab u (by omega)
  have Q:js[i]?=some js[i]:=an u;generalize I:js[i]=j at *;have h1:=u1 i j Q;obtain⟨e1,-,-,e4,-⟩:=j5.1 (oj i j Q)
  have V:(bP k).size+j.name.size<=9223372036854775807:=by
   simp only[fh,up,Is]at e1;rw[show(bP k).size=1 from rfl];omega
  obtain⟨nm,kd,pa,ox,oy,oz,lo,cm,w',sp,ac,tq⟩:=j;simp only at e4 V h1;have b5:i64.wrap (pa+m)=pa+m:=aa;have c1:=Nz m pa b5
  have q1:((R i).length+1)*104<=140737488355328:=by omega
  have q2:(R i).length+1<=9223372036854775807:=by omega
  by_cases hp:pa=-1
  .have O:(pa==-1)=true:=by simp[hp]
   have ad:R (i+1)=R i++[.val (.agg #[.string (bP k++nm),.int .i64 kd,.int .i64 (kU m pa),.int .i64 (wr (ox+b.1)),.int .i64 (wr (oy+b.2.1)),.int .i64 (wr (oz+b.2.2)),.int .i64 lo,.int .i64 cm,.int .i64 w',.int .i64 sp,.int .i64 ac,.int .i64 tq])]:=by rw[h1];simp[fX,hp]
   clear h1;refine GT (zAe g0 g1 g4 E g5 K H a c d f G y z (zAe v g n o p q T B P J D hy M u (zAb X Q I cf V q1 q2 (gA O ad)))) ?_;rw[Qt k cn (by simp) (by simp) rfl];simp -implicitDefEqProofs (maxSteps:=2000000) [hP,hN,g0,g1,g4,E,g5,K,H,a,c,d,f,G,y,z,v,g,n,o,p,q,T,B,P,J,D,hy,M,V];refine Ya ?_;exact GS (zAe g0 g1 g4 E g5 K H a c d f G y z (zAe v g n o p q T B P J D hy M u (zAc X Q I cf V q1 q2 O ad @JI.eq_1)))
  .have O:(pa==-1)=false:=by simp[hp]
   have ad:R (i+1)=R i++[.val (.agg #[.string (bP k++nm),.int .i64 kd,.int .i64 (kU m pa),.int .i64 ox,.int .i64 oy,.int .i64 oz,.int .i64 lo,.int .i64 cm,.int .i64 w',.int .i64 sp,.int .i64 ac,.int .i64 tq])]:=by rw[h1];simp[fX,hp]
   clear h1;refine GT (zAe g0 g1 g4 E g5 K H a c d f G y z (zAe v g n o p q T B P J D hy M u (zAb X Q I cf V q1 q2 (gA O ad)))) ?_;rw[Qt k cn (by simp) (by simp) rfl];simp -implicitDefEqProofs (maxSteps:=2000000) [hP,hN,g0,g1,g4,E,g5,K,H,a,c,d,f,G,y,z,v,g,n,o,p,q,T,B,P,J,D,hy,M,V];refine Ya ?_;exact GS (zAe g0 g1 g4 E g5 K H a c d f G y z (zAe v g n o p q T B P J D hy M u (zAc X Q I cf V q1 q2 O ad @JI.eq_1)))
 have N:i=js.length:=by omega
 subst N;refine Gz ?_;refine WP.loopN [15] ms.length (λi st=>JI l bs k m b (R js.length) (Y i) (S3 0) (S4 0) st/\st.t 14=.pv (Z i)) (by simp[JI,g0,g1,g4,E,g5,K,H,a,c,d,f,G,y,z,v,g,n,o,p,q]) ?_;clear g0 g1 g4 E g5 K H a c d f G y z v g n o p q T hS u;rintro i st hi ⟨⟨g0,g1,g4,E,g5,K,H,a,c,d,f,G,y,z,v,g,n,o,p,q⟩,cj⟩;have hS:=v2 i hi;by_cases u:i<ms.length
 .have X:=ab u (by omega)
  have Q:ms[i]?=some ms[i]:=an u;have cv:=om _ (Zs u);generalize I:ms[i]=x at *;have h1:=u2 i x Q;obtain⟨lk,ma,px,py,pz⟩:=x;simp only[dQ,up,Is]at cv;have b5:i64.wrap (lk+m)=lk+m:=aa
  have q1:((Y i).length+1)*40<=140737488355328:=by omega
  have q2:(Y i).length+1<=9223372036854775807:=by omega
  simp only[oU]at h1;exact GS (zAe g0 g1 g4 E g5 K H a c d f G y z (zAe v g n o p q cj B P J D hy M u (zAb X Q I b5 q1 q2 h1 @JI.eq_1)))
 have N:i=ms.length:=by omega
 subst N;refine Gz ?_;refine WP.loopN [17,18] SH.length (λi st=>JI l bs k m b (R js.length) (Y ms.length) (S3 i) (S4 0) st/\st.t 16=.pv (Z i)) (by simp[JI,g0,g1,g4,E,g5,K,H,a,c,d,f,G,y,z,v,g,n,o,p,q]) ?_;clear g0 g1 g4 E g5 K H a c d f G y z v g n o p q cj hS u;rintro i st hi ⟨⟨g0,g1,g4,E,g5,K,H,a,c,d,f,G,y,z,v,g,n,o,p,q⟩,cg⟩;have hS:=v3 i hi;by_cases u:i<SH.length
 .have X:=ab u (by omega)
  have Q:SH[i]?=some SH[i]:=an u;have b2:=oh _ (Zs u);generalize I:SH[i]=x at *;have h1:=u3 i x Q;have cq:=Oz b2;have cx:=Df b2
  have cp:bK js.length x.link=true:=by
   unfold bB at b2;split at b2
   case isFalse=>cases b2
   rename_i G;simp only[up]at G;exact G.1.1.1.1
  obtain⟨lk,rd,pts⟩:=x;simp only at cq cx cp;have b5:=Ir cp o2 b3;have c1:=Nz m lk b5
  have q1:((S3 i).length+1)*40<=140737488355328:=by omega
  have q2:(S3 i).length+1<=9223372036854775807:=by omega
  by_cases hp:lk=-1
  .have O:(lk==-1)=true:=by simp[hp]
   have c2:=Tk ⟨lk,rd,pts⟩ (kU m lk) b (by simp only;omega);simp only[jJ,Zd hp]at h1;exact GS (zAe g0 g1 g4 E g5 K H a c d f G y z (zAe v g n o p q cg B P J D hy M u (zAb X Q I O q1 q2 h1 @JI.eq_1)))
  .have O:(lk==-1)=false:=by simp[hp]
   have c2:=Tk ⟨lk,rd,pts⟩ (kU m lk) (0,0,0) (by simp only;omega);simp only[jJ,Y6 hp]at h1;simp only[cq]at c2;exact GS (zAe g0 g1 g4 E g5 K H a c d f G y z (zAe v g n o p q cg B P J D hy M u (zAb X Q I O q1 q2 h1 @JI.eq_1)))
 have N:i=SH.length:=by omega
 subst N;refine Gz ?_;refine WP.loopN [20] sks.length (λi st=>JI l bs k m b (R js.length) (Y ms.length) (S3 SH.length) (S4 i) st/\st.t 19=.pv (Z i)) (by simp[JI,g0,g1,g4,E,g5,K,H,a,c,d,f,G,y,z,v,g,n,o,p,q]) ?_;clear g0 g1 g4 E g5 K H a c d f G y z v g n o p q cg hS u;rintro i st hi ⟨⟨g0,g1,g4,E,g5,K,H,a,c,d,f,G,y,z,v,g,n,o,p,q⟩,cr⟩;have hS:=v4 i hi;by_cases u:i<sks.length
 .have X:=ab u (by omega)
  have Q:sks[i]?=some sks[i]:=an u;have ch:=ok _ (Zs u);generalize I:sks[i]=x at *;have h1:=u4 i x Q;obtain⟨ka,kb⟩:=x;simp only[gB,up]at ch;have c1:=Nz m ka (Ir ch.1 o2 b3);have c2:=Nz m kb (Ir ch.2 o2 b3)
  have q1:((S4 i).length+1)*16<=140737488355328:=by omega
  have q2:(S4 i).length+1<=9223372036854775807:=by omega
  simp only[oo]at h1;exact GS (zAe g0 g1 g4 E g5 K H a c d f G y z (zAe v g n o p q cr B P J D hy M u (zAa X Q I q1 q2 h1 @JI.eq_1)))
 have N:i=sks.length:=by omega
 subst N;exact Gy
def dH(own:Bool)(A:Sce):Hp:=λk=>
 if k=290 then some (.box [.arr 291 A.js.length,.arr 292 A.ms.length,.arr 293 A.shs.length,.arr 294 A.sks.length] own false)
 else if k=291 then some (.row 108 12 (A.js.map aO) 0)
 else if k=292 then some (.row 110 5 (A.ms.map aX) 0)
 else if k=293 then some (.row 81 3 (A.shs.map aZ) 0)
 else if k=294 then some (.row 113 2 (A.sks.map aJ) 0)
 else none
theorem qe{own:Bool}{b:Blk}(h:dH own A k=some b):inK k=true/\((k=290/\b=.box [.arr 291 A.js.length,.arr 292 A.ms.length,.arr 293 A.shs.length,.arr 294 A.sks.length] own false)\/(k≠290/\∃e a xs,b=.row e a xs 0)):=by
 unfold dH at h;split at h
 .rename_i e;subst e;injection h with h;exact⟨rfl,.inl ⟨rfl,h.symm⟩⟩
 split at h
 .rename_i e;subst e;injection h with h;exact⟨rfl,.inr ⟨by decide,_,_,_,h.symm⟩⟩
 split at h
 .rename_i e;subst e;injection h with h;exact⟨rfl,.inr ⟨by decide,_,_,_,h.symm⟩⟩
 split at h
 .rename_i e;subst e;injection h with h;exact⟨rfl,.inr ⟨by decide,_,_,_,h.symm⟩⟩
 split at h
 .rename_i e;subst e;injection h with h;exact⟨rfl,.inr ⟨by decide,_,_,_,h.symm⟩⟩
 .cases h
theorem vg(own:Bool)(A:Sce):LookH (dH own A):=by
 refine⟨λk b h=>(qe h).1,λk b o h=>?_,λk b h=>?_,λk g o f h=>?_⟩
 .rcases(qe h).2 with⟨_,rfl⟩|⟨_,e,d,xs,rfl⟩
  .intro a;cases a
  .intro a;simp[Blk.frz]at a
 .rcases(qe h).2 with⟨_,rfl⟩|⟨_,e,d,xs,rfl⟩<;>rfl
 .rcases(qe h).2 with⟨_,h1⟩|⟨_,e,d,xs,h1⟩
  .injection h1 with h1;subst h1;intro x c;simp at c;rcases c with rfl|rfl|rfl|rfl<;>rfl
  .cases h1
theorem Qu{own:Bool}(c:∀k,inK k=true->h k=dH own A k):gC h=dH false A:=by
 funext k
 unfold gC;by_cases a:inK k=true
 .rw[Zd a,c k a]
  split
  .rename_i e;subst e;rfl
  .rename_i e;unfold dH;rw[Y6 e,Y6 e]
 .rw[Y6 a]
  cases d:dH false A k with
  |none=>rfl
  |some b=>exact absurd (qe d).1 a
theorem OA{own:Bool}{a:Sce}(b:∀k,inK k=true->h k=dH own A k)(c:inK k=true):gw h (dH false a) k=dH own a k:=by
 unfold gw;rw[Zd c];split
 .rename_i e;subst e
  have:gv h 290=own:=by simp only[gv,b 290 rfl];rfl
  rw[this];rfl
 .rename_i e;unfold dH;rw[Y6 e,Y6 e]
theorem J6{C:Cx}{Q:St->Prop}{f:Operand}{xs:List Operand}{d:Option Nat}{own:Bool}{p:Sce}{g:FuncId}{args:List AV}(m:bC (st.ev f)=some (g,[],[]))(a:xs.map st.ev=args)(q:args.all mZ=true)(hd:dI C.N d=true)(l:∀k,inK k=true->st.h k=dH own A k)
 (u:mQ C.P g args (dH false A) (λ_ j=>j=dH false p))
 (h:∀r j,(∀k,inK k=true->j k=dH own p k)->(∀k,inK k=false->j k=(st.h k).map nC)->Q (St.put ⟨λn=>dS (st.t n),j⟩ d r [])):DM C Q f xs d st:=by
 have hL:=vg own A;refine⟨_,λ_ j=>j=dH false p,m,⟨λk b o i c=>hL.nf k b o (by rw[<-l k i];exact c),λk b i c=>hL.nm k b (by rw[<-l k i];exact c),λk s o f i c=>hL.cl k s o f (by rw[<-l k i];exact c),λk s f i c=>?_,λb c=>?_⟩,by rw[a,Qu l];exact u,by rw[a];exact q,hd,λr j _ _ hp=>?_⟩
 .rw[l k i]at c
  rcases(qe c).2 with⟨h1,_⟩|⟨_,e,v,xs,h1⟩
  .exact h1
  .cases h1
 .rw[l 290 rfl]at c
  exact⟨_,_,_,(ZQ c).symm⟩
 .have hp:j=_:=hp
  subst hp;exact h r _ (λk i=>OA l i) (λk i=>by unfold gw;rw[Y6 (by rw[i];decide)])
theorem vh{own:Bool}(h:294<k):dH own A k=none:=by
 unfold dH;rw[Y6 (by omega),Y6 (by omega),Y6 (by omega),Y6 (by omega),Y6 (by omega)]
def AH(x1 x2 x3 x4:List PV)(st:St):Prop:=
 st.h 290=some (.box [.arr 291 x1.length,.arr 292 x2.length,.arr 293 x3.length,.arr 294 x4.length] false false)/\st.h 291=some (.row 108 12 x1 0)/\st.h 292=some (.row 110 5 x2 0)/\st.h 293=some (.row 81 3 x3 0)/\st.h 294=some (.row 113 2 x4 0)/\∀k,294<k->st.h k=none
theorem AH.ret{x1 x2 x3 x4:List PV}{d:Sce}{P:Program}{rs:List ResultVar}{a:AV->Hp->Prop}{r:AV}(h:AH x1 x2 x3 x4 st)(g:x1=A.js.map aO)(i:x2=A.ms.map aX)(j:x3=A.shs.map aZ)(l:x4=A.sks.map aJ)(s:mf P st rs=some r)(q:mZ r=true)(hp:a r (dH false A)):uF P rs (dH false d) a st:=by
 obtain⟨c,h1,m,n,o,h5⟩:=h;subst g i j l;simp only[ZB]at c;refine BF (H:=dH false A) s q (λk b=>?_) (vg _ _) hp (λk u f b=>?_)
 .by_cases e:k<=294
  .simp only[inK,up,Is]at b
   have:k=290\/k=291\/k=292\/k=293\/k=294:=by omega
   rcases this with rfl|rfl|rfl|rfl|rfl
   .exact c
   .exact h1
   .exact m
   .exact n
   .exact o
  .rw[h5 k (by omega),vh (by omega)]
 .rcases(qe b).2 with⟨rfl,_⟩|⟨_,e,v,xs,p⟩
  .exact⟨_,rfl⟩
  .cases p
theorem Sk(k n:Nat)(b:Vc)(A:Sce)(js:List J)(ms:List Ms)(hn:n<=40)(hj:∀(i:Nat) j,js[i]?=some j->bJ js i j=0)(hm:∀x∈ms,dQ js.length x=true)(l1:js.length<=10)(l2:ms.length<=32)(a1:A.js.length<=40)(a2:A.ms.length<=128):
 mQ prog 62 [.pv (rZ k n b),.ptr 290 0,.pv (eK js ms)] (dH false A) (λ_ h'=>h'=dH false ⟨A.js++js.map (fX k n b),A.ms++ms.map (oU n),A.shs,A.sks⟩):=by
 obtain⟨r,s,o,p⟩:=A;simp only at a1 a2|-;obtain⟨l,v⟩:∃S,S=sq (r.map aO) (λj=>aO (fX k n b j)) js:=⟨_,rfl⟩;obtain⟨u,y⟩:∃S,S=sq (s.map aX) (λx=>aX (oU n x)) ms:=⟨_,rfl⟩
 have z1:l 0=r.map aO:=by rw[v,lD]
 have z2:u 0=s.map aX:=by rw[y,lD]
 have u1:∀i j,js[i]?=some j->l (i+1)=l i++[aO (fX k n b j)]:=λi j h=>by rw[v];exact lE h
 have u2:∀i x,ms[i]?=some x->u (i+1)=u i++[aX (oU n x)]:=λi j h=>by rw[y];exact lE h
 have v1:∀i,i<=js.length->(l i).length<=100:=λi h=>by rw[v,ou h,ZB];omega
 have v2:∀i,i<=ms.length->(u i).length<=200:=λi h=>by rw[y,ou h,ZB];omega
 have y1:l js.length=(r++js.map (fX k n b)).map aO:=by rw[v,ov];simp
 have y2:u ms.length=(s++ms.map (oU n)).map aX:=by rw[y,ov];simp
 clear v y
 have e0:dH false ⟨r,s,o,p⟩ 290=some (.box [.arr 291 (l 0).length,.arr 292 (u 0).length,.arr 293 (o.map aZ).length,.arr 294 (p.map aJ).length] false false):=by rw[z1,z2];simp[dH]
 have M:dH false ⟨r,s,o,p⟩ 291=some (.row 108 12 (l 0) 0):=by rw[z1];rfl
 have e2:dH false ⟨r,s,o,p⟩ 292=some (.row 110 5 (u 0) 0):=by rw[z2];rfl
 have e3:dH false ⟨r,s,o,p⟩ 293=some (.row 81 3 (o.map aZ) 0):=rfl;have T:dH false ⟨r,s,o,p⟩ 294=some (.row 113 2 (p.map aJ) 0):=rfl;have e5:∀k,294<k->dH false ⟨r,s,o,p⟩ k=none:=λk h=>vh h
 have N:∀k,k<290->dH false ⟨r,s,o,p⟩ k=none:=λk h=>by
  unfold dH;rw[Y6 (by omega),Y6 (by omega),Y6 (by omega),Y6 (by omega),Y6 (by omega)]
 have f3:=N 3 (by decide);have f5:=N 5 (by decide);have f7:=N 7 (by decide);have f9:=N 9 (by decide);have ar:∃H,H=dH false ⟨r,s,o,p⟩:=⟨_,rfl⟩;refine M9 func62 (vg _ _) λC hP hN=>?_;simp only[D3];refine Gz ?_;refine WP.loopN [7] js.length (λi st=>AH (l i) (u 0) (o.map aZ) (p.map aJ) st/\st.t 1=.ptr 290 0/\st.t 3=.ptr 3 0/\st.h 3=some (.box [.pv (.val (.string (bP k))),.pv (Z n),.pv (Z b.1),.pv (Z b.2.1),.pv (Z b.2.2)] true false)/\st.t 5=.ptr 5 0/\st.h 5=some (.box [.pv (.sl (js.map aO)),.pv (.sl (ms.map aX))] true false)/\st.t 11=.pv (.sl (js.map aO))/\st.t 12=.pv (Z js.length)/\st.t 13=.pv (Z i)/\st.h 7=none/\st.h 9=none) ?_ ?_
 .refine⟨⟨by simp[e0],by simp[M],by simp[e2],by simp[e3],by simp[T],λq hq=>?_⟩,by simp[f7,f9]⟩
  simp[show¬q=7 by omega,show¬q=5 by omega,show¬q=3 by omega,e5 q hq]
 clear e0 M e2 e3 T e5 N f3 f5 f7 f9 ar;rintro i st hi ⟨⟨a,c,d,e,f,G⟩,g1,g3,L,g5,R,B,D,E,n7,P⟩;have hS:=v1 i hi;by_cases g:i<js.length
 .have U:=ab g (by omega)
  have m:js[i]?=some js[i]:=an g;generalize z:js[i]=j at *;have h1:=u1 i j m;obtain⟨M,-,-,T,-⟩:=j5.1 (hj i j m)
  have K:(bP k).size+j.name.size<=9223372036854775807:=by
   simp only[fh,up,Is]at M;rw[show(bP k).size=1 from rfl];omega
  clear M;obtain⟨nm,kd,Q,ox,oy,oz,lo,O,w',sp,ac,tq⟩:=j;simp only at T K h1;have c1:=Qr k n b (ox,oy,oz) Q;have c2:=Ff k n b Q (aa (by omega) (by omega))
  have V:((l i).length+1)*104<=140737488355328:=by omega
  have W:(l i).length+1<=9223372036854775807:=by omega
  by_cases hp:Q=-1
  .have F:l (i+1)=l i++[.val (.agg #[.string (bP k++nm),.int .i64 kd,.int .i64 (kU n Q),.int .i64 (wr (ox+b.1)),.int .i64 (wr (oy+b.2.1)),.int .i64 (wr (oz+b.2.2)),.int .i64 lo,.int .i64 O,.int .i64 w',.int .i64 sp,.int .i64 ac,.int .i64 tq])]:=by rw[h1];simp[fX,hp]
   rw[Zd hp]at c1;simp only[qd]at c1;clear h1;refine GT (zAe a c d e f g1 g3 L g5 R B D E n7 (zAc P g U m z K V W F @AH.eq_1)) ?_
   all_goals (intro q hq;repeat rw[Y6 (by omega)]);simp[G q hq]
  .have F:l (i+1)=l i++[.val (.agg #[.string (bP k++nm),.int .i64 kd,.int .i64 (kU n Q),.int .i64 ox,.int .i64 oy,.int .i64 oz,.int .i64 lo,.int .i64 O,.int .i64 w',.int .i64 sp,.int .i64 ac,.int .i64 tq])]:=by rw[h1];simp[fX,hp]
   rw[Y6 hp]at c1;clear h1;refine GT (zAe a c d e f g1 g3 L g5 R B D E n7 (zAc P g U m z K V W F @AH.eq_1)) ?_
   all_goals (intro q hq;repeat rw[Y6 (by omega)]);simp[G q hq]
 have I:i=js.length:=by omega
 subst I;refine Gz ?_;refine WP.loopN [9] ms.length (λi st=>AH (l js.length) (u i) (o.map aZ) (p.map aJ) st/\st.t 1=.ptr 290 0/\st.t 3=.ptr 3 0/\st.h 3=some (.box [.pv (.val (.string (bP k))),.pv (Z n),.pv (Z b.1),.pv (Z b.2.1),.pv (Z b.2.2)] true false)/\st.t 47=.pv (.sl (ms.map aX))/\st.t 48=.pv (Z ms.length)/\st.t 49=.pv (Z i)/\st.h 9=none) ?_ ?_
 .refine⟨⟨by simp[a],by simp[c],by simp[d],by simp[e],by simp[f],λq hq=>?_⟩,by simp[g1,g3,L,g5,R]⟩
  simp[show¬q=9 by omega,G q hq]
 clear a c d e f G g1 g3 L g5 R B D E n7 P hS g;rintro i st hi ⟨⟨a,c,d,e,f,G⟩,g1,g3,L,X,Y,ad,P⟩;have hS:=v2 i hi;by_cases g:i<ms.length
 .have U:=ab g (by omega)
  have m:ms[i]?=some ms[i]:=an g;have a6:=hm _ (Zs g);generalize z:ms[i]=x at *;have h1:=u2 i x m;obtain⟨lk,ma,px,py,pz⟩:=x;simp only[dQ,up,Is]at a6;have c2:=Ff k n b lk (aa (by omega) (by omega));rw[show kU n lk=lk+n from Y6 (by omega)]at c2
  have V:((u i).length+1)*40<=140737488355328:=by omega
  have W:(u i).length+1<=9223372036854775807:=by omega
  simp only[oU]at h1;refine GT (zAe a c d e f g1 g3 L X Y ad P g U (so m z V W h1 @AH.eq_1)) ?_
  all_goals (intro q hq;repeat rw[Y6 (by omega)]);simp[G q hq]
 have I:i=ms.length:=by omega
 subst I;refine Gz ?_;exact AH.ret (A:=⟨r++js.map (fX k n b),s++ms.map (oU n),o,p⟩) ⟨a,c,d,e,f,G⟩ y1 y2 rfl rfl rfl rfl rfl
theorem OB(xs:List Vc)(c:xs.length<=16777216)(b:xs≠[]):aW prog 105 [.pv (aw xs)] [] [] (.nrow 60 3 (xs.map al)):=by
 have a:xs.isEmpty=false:=by simp[b]
 refine Dp func105 λC hP hN=>?_;exact Ta [5] (go b a (show xs.length*24<=140737488355328 by omega) (show xs.length<=9223372036854775807 by omega))
def wg(f:α->α)(l:List α)(i:Nat):List α:=(l.take i).map f++l.drop i
section
variable {α:Type} {f:α->α} {l:List α} {i:Nat} {a:α}
theorem LH:wg f l 0=l:=by simp[wg]
theorem OC:wg f l l.length=l.map f:=by simp[wg]
theorem OD:(wg f l i).length=l.length:=by simp[wg];omega
theorem Qv(h:l[i]?=some a):(wg f l i)[i]?=some a:=by
 obtain⟨hi,b⟩:=th.1 h;unfold wg;rw[Zc (by simp;omega)];simp only[ZB,ZP,Nat.min_eq_left (Nat.le_of_lt hi),yAR,Z3,yA3];exact h
theorem OE(h:l[i]?=some a):(wg f l i).set i (f a)=wg f l (i+1):=by
 obtain⟨hi,b⟩:=th.1 h;unfold wg;rw[List.set_append_right _ _ (by simp;omega),ZR hi,yAV,b,yAd]
 congr 1
 simp only[ZB,ZP,Nat.min_eq_left (Nat.le_of_lt hi),yAR];rw[yBp hi];simp only[List.set_cons_zero,yAf,yBk,List.cons_append,List.nil_append]
end
theorem Sl(k n:Nat)(b:Vc)(A s:Sce)(hn:n<=40)(hh:∀x∈s.shs,bB s.js.length x=0)(hk:∀x∈s.sks,gB s.js.length x=true)(l0:s.js.length<=10)(l1:s.shs.length<=24)(l2:s.sks.length<=64)(a1:A.shs.length<=96)(a2:A.sks.length<=256):
 mQ prog 63 [.pv (rZ k n b),.ptr 290 0,.pv (aN s)] (dH false A) (λ_ h'=>h'=dH false ⟨A.js,A.ms,A.shs++s.shs.map (jJ n b),A.sks++s.sks.map (oo n)⟩):=by
 obtain⟨B,D,F,G⟩:=A;obtain⟨js,ms,SH,sks⟩:=s;simp only at a1 a2 hh hk l0 l1 l2|-;obtain⟨z,H⟩:∃S,S=sq (F.map aZ) (λx=>aZ (jJ n b x)) SH:=⟨_,rfl⟩;obtain⟨E,I⟩:∃S,S=sq (G.map aJ) (λx=>aJ (oo n x)) sks:=⟨_,rfl⟩
 have z1:z 0=F.map aZ:=by rw[H,lD]
 have z2:E 0=G.map aJ:=by rw[I,lD]
 have u1:∀i j,SH[i]?=some j->z (i+1)=z i++[aZ (jJ n b j)]:=λi j h=>by rw[H];exact lE h
 have u2:∀i x,sks[i]?=some x->E (i+1)=E i++[aJ (oo n x)]:=λi j h=>by rw[I];exact lE h
 have v1:∀i,i<=SH.length->(z i).length<=200:=λi h=>by rw[H,ou h,ZB];omega
 have v2:∀i,i<=sks.length->(E i).length<=400:=λi h=>by rw[I,ou h,ZB];omega
 have y1:z SH.length=(F++SH.map (jJ n b)).map aZ:=by rw[H,ov];simp
 have y2:E sks.length=(G++sks.map (oo n)).map aJ:=by rw[I,ov];simp
 clear H I
 have e0:dH false ⟨B,D,F,G⟩ 290=some (.box [.arr 291 (B.map aO).length,.arr 292 (D.map aX).length,.arr 293 (z 0).length,.arr 294 (E 0).length] false false):=by rw[z1,z2];simp[dH]
 have e1:dH false ⟨B,D,F,G⟩ 291=some (.row 108 12 (B.map aO) 0):=rfl;have e2:dH false ⟨B,D,F,G⟩ 292=some (.row 110 5 (D.map aX) 0):=rfl
 have e3:dH false ⟨B,D,F,G⟩ 293=some (.row 81 3 (z 0) 0):=by rw[z1];rfl
 have e4:dH false ⟨B,D,F,G⟩ 294=some (.row 113 2 (E 0) 0):=by rw[z2];rfl
 have e5:∀k,294<k->dH false ⟨B,D,F,G⟩ k=none:=λk h=>vh h
 have R:∀k,k<290->dH false ⟨B,D,F,G⟩ k=none:=λk h=>by
  unfold dH;rw[Y6 (by omega),Y6 (by omega),Y6 (by omega),Y6 (by omega),Y6 (by omega)]
 have f3:=R 3 (by decide);have f5:=R 5 (by decide);have f7:=R 7 (by decide);have f9:=R 9 (by decide);have f11:=R 11 (by decide);have f21:=R 21 (by decide);refine M9 func63 (vg _ _) λC hP hN=>?_;simp only[D3];refine Gz ?_;refine WP.loopN [7,21] SH.length (λi st=>AH (B.map aO) (D.map aX) (z i) (E 0) st/\st.t 1=.ptr 290 0/\st.t 3=.ptr 3 0/\st.h 3=some (.box [.pv (.val (.string (bP k))),.pv (Z n),.pv (Z b.1),.pv (Z b.2.1),.pv (Z b.2.2)] true false)/\st.t 5=.ptr 5 0/\st.h 5=some (.box [.pv (.sl (js.map aO)),.pv (.sl (ms.map aX)),.pv (.sl (SH.map aZ)),.pv (.sl (sks.map aJ))] true false)/\st.t 13=.pv (.sl (SH.map aZ))/\st.t 14=.pv (Z SH.length)/\st.t 15=.pv (Z i)/\st.h 7=none/\st.h 9=none/\st.h 11=none/\st.h 21=none) ?_ ?_
 .refine⟨⟨by simp[e0],by simp[e1],by simp[e2],by simp[e3],by simp[e4],λq hq=>?_⟩,by simp[f7,f9,f11,f21]⟩
  simp[show¬q=7 by omega,show¬q=21 by omega,show¬q=5 by omega,show¬q=3 by omega,e5 q hq]
 clear e0 e1 e2 e3 e4 e5 R f3 f5 f7 f9 f11 f21;rintro i st hi ⟨⟨c,d,g,l,m,N⟩,g1,g3,L,g5,Q,r,u,y,n7,W,p,V⟩;have hS:=v1 i hi;by_cases o:i<SH.length
 .have hw:=ab o (by omega)
  have K:SH[i]?=some SH[i]:=an o;have O:=hh _ (Zs o);generalize J:SH[i]=x at *;have h1:=u1 i x K;obtain⟨lk,rd,pts⟩:=x
  have b9:bK js.length lk=true/\1<=pts.length/\pts.length<=8:=by
   unfold bB at O;split at O
   case isFalse=>cases O
   rename_i g9;simp only[up,Is]at g9;exact⟨g9.1.1.1.1,by omega,by omega⟩
  clear O;obtain⟨cc,cd,cg⟩:=b9;simp only[bK,up,Is]at cc;have c0:=OB pts (by omega) (by intro e;subst e;simp at cd);have c1:=λ(v:Vc)=>Qr k n b v lk;have c2:=Ff k n b lk (aa (by omega) (by omega))
  have a7:z (i+1)=z i++[.agg [Z (kU n lk),Z rd,.sl ((pts.map (λv=>if lk=-1 then qd b v else v)).map al)]]:=by
   rw[h1];by_cases hp:lk=-1
   all_goals simp[jJ,hp]
  clear h1;generalize hf:(λv=>if lk=-1 then qd b v else v)=f at *
  have Y:∀v,gu 103 (rZ k n b) (al v) (Z lk) (al (f v)):=λv=>by rw[<-hf];exact c1 v
  clear c1 hf;obtain⟨M,T⟩:∃M:Nat->List PV,∀i,M i=(wg f pts i).map al:=⟨_,λ_=>rfl⟩
  have m0:M 0=pts.map al:=by rw[T,LH]
  have mE:M pts.length=(pts.map f).map al:=by rw[T,OC]
  have mL:∀i,(M i).length=pts.length:=λi=>by rw[T,ZB,OD]
  have mA:∀i a,pts[i]?=some a->(M i)[i]?=some (al a):=λi a h=>by rw[T,Y7,Qv h];rfl
  have mS:∀i a,pts[i]?=some a->(M i).set i (al (f a))=M (i+1):=λi a h=>by rw[T,T,<-OE h,yAz]
  rw[<-mE]at a7;rw[<-m0]at c0;have cj:pts.length=(M 0).length:=(mL 0).symm;clear T m0 mE
  have q1:((z i).length+1)*40<=140737488355328:=by omega
  have q2:(z i).length+1<=9223372036854775807:=by omega
  refine GT (zAe c d g l m g1 g3 L g5 Q r u y n7 (zAb W p V o hw K J mL)) ?_;refine WP.loopN [9] pts.length (λj st=>AH (B.map aO) (D.map aX) (z i) (E 0) st/\st.t 1=.ptr 290 0/\st.t 3=.ptr 3 0/\st.h 3=some (.box [.pv (.val (.string (bP k))),.pv (Z n),.pv (Z b.1),.pv (Z b.2.1),.pv (Z b.2.2)] true false)/\st.t 5=.ptr 5 0/\st.h 5=some (.box [.pv (.sl (js.map aO)),.pv (.sl (ms.map aX)),.pv (.sl (SH.map aZ)),.pv (.sl (sks.map aJ))] true false)/\st.t 13=.pv (.sl (SH.map aZ))/\st.t 14=.pv (Z SH.length)/\st.t 15=.pv (Z i)/\st.t 7=.ptr 7 0/\st.h 7=some (.box [.pv (Z lk),.pv (Z rd),.arr 21 pts.length] true false)/\st.t 24=.arr 21 pts.length/\st.t 25=.pv (Z pts.length)/\st.t 26=.pv (Z j)/\st.h 21=some (.row 60 3 (M j) 0)/\st.h 9=none/\st.h 11=none) ?_ ?_
  .refine⟨⟨by simp[c],by simp[d],by simp[g],by simp[l],by simp[m],λq hq=>?_⟩,by simp[g1,g3,L,g5,Q,r,u,y,W,p]⟩
   simp[show¬q=7 by omega,show¬q=9 by omega,show¬q=21 by omega,N q hq]
  clear c d g l m N g1 g3 L g5 Q r u y n7 W p V;rintro j st hj ⟨⟨c,d,g,l,m,N⟩,g1,g3,L,g5,Q,r,u,y,g7,b7,ad,ar,a6,X,W,p⟩;have hL:=mL j;by_cases P:j<pts.length
  .have cf:=ab P (by omega)
   have hv:pts[j]?=some pts[j]:=an P;generalize ch:pts[j]=v at *;have cv:=Y v;have hA:=mA j v hv;have b4:∀h,(M j)[j]'h=al v:=λh=>(th.1 hA).2;have b8:=mS j v hv
   have ca:j<(M j).length:=by omega
   clear Y mA mS;refine GT (zAe c d g l m g1 g3 L g5 Q r u y g7 (zAe b7 ad ar a6 X W p hL P ca cf hA b4 b8 @AH.eq_1)) ?_
   all_goals (intro q hq;repeat rw[Y6 (by omega)]);simp[N q hq]
  have J:j=pts.length:=by omega
  subst J;refine GT (zAe c d g l m g1 g3 L g5 Q r u y g7 (zAd b7 ad ar a6 X W p hL P hw q1 (be q2 a7 @AH.eq_1))) ?_
  all_goals (intro q hq;repeat rw[Y6 (by omega)]);simp[N q hq]
 have U:i=SH.length:=by omega
 subst U;refine Gz ?_;refine WP.loopN [11] sks.length (λi st=>AH (B.map aO) (D.map aX) (z SH.length) (E i) st/\st.t 1=.ptr 290 0/\st.t 3=.ptr 3 0/\st.h 3=some (.box [.pv (.val (.string (bP k))),.pv (Z n),.pv (Z b.1),.pv (Z b.2.1),.pv (Z b.2.2)] true false)/\st.t 58=.pv (.sl (sks.map aJ))/\st.t 59=.pv (Z sks.length)/\st.t 60=.pv (Z i)/\st.h 11=none) ?_ ?_
 .refine⟨⟨by simp[c],by simp[d],by simp[g],by simp[l],by simp[m],λq hq=>?_⟩,by simp[g1,g3,L,g5,Q]⟩
  simp[show¬q=11 by omega,N q hq]
 clear c d g l m N g1 g3 L g5 Q r u y n7 W p V hS o;rintro i st hi ⟨⟨c,d,g,l,m,N⟩,g1,g3,L,a8,bq,b2,p⟩;have hS:=v2 i hi;by_cases o:i<sks.length
 .have hw:=ab o (by omega)
  have K:sks[i]?=some sks[i]:=an o;have cb:=hk _ (Zs o);generalize J:sks[i]=x at *;have h1:=u2 i x K;obtain⟨ka,kb⟩:=x;simp only[gB,bK,up,Is]at cb;have c1:=Ff k n b ka (aa (by omega) (by omega));have c2:=Ff k n b kb (aa (by omega) (by omega))
  have q1:((E i).length+1)*16<=140737488355328:=by omega
  have q2:(E i).length+1<=9223372036854775807:=by omega
  simp only[oo]at h1;refine GT (zAe c d g l m g1 g3 L a8 bq b2 p o hw (so K J q1 q2 h1 @AH.eq_1)) ?_
  all_goals (intro q hq;repeat rw[Y6 (by omega)]);simp[N q hq]
 have U:i=sks.length:=by omega
 subst U;refine Gz ?_;exact AH.ret (A:=⟨B,D,F++SH.map (jJ n b),G++sks.map (oo n)⟩) ⟨c,d,g,l,m,N⟩ rfl rfl y1 y2 rfl rfl rfl
def Fi(n:Int):Operand->AV:=λ_=>.pv (.val (.int .i32 n))
section
variable {dst:Option Nat} {ty:TypeId} {pos:String} {aft:Array Edge} {g:Option (Nat×Bool)} {ρ:Operand->AV} {x:Operand}
theorem Sm:aU prog ⟨dst,.convert 21 9 x,ty,pos,aft,g⟩ (Fi 97)=some (.pv (.val (.string (bP 0))),[]):=by kernel_rfl
theorem Sn:aU prog ⟨dst,.convert 21 9 x,ty,pos,aft,g⟩ (Fi 98)=some (.pv (.val (.string (bP 1))),[]):=by kernel_rfl
theorem So:aU prog ⟨dst,.convert 21 9 x,ty,pos,aft,g⟩ (Fi 99)=some (.pv (.val (.string (bP 2))),[]):=by kernel_rfl
theorem Sq:aU prog ⟨dst,.convert 21 9 x,ty,pos,aft,g⟩ (Fi 100)=some (.pv (.val (.string (bP 3))),[]):=by kernel_rfl
theorem XA(i:Nat)(c:i<4)(b:ρ x=.pv (.val (.int .i32 (97+(i:Int))))):
 aU prog ⟨dst,.convert 21 9 x,ty,pos,aft,g⟩ ρ=some (.pv (.val (.string (bP i))),[]):=by
 have h:aU prog ⟨dst,.convert 21 9 x,ty,pos,aft,g⟩ ρ=aU prog ⟨dst,.convert 21 9 x,ty,pos,aft,g⟩ (Fi (97+(i:Int))):=by
  refine nQ (by intro _ _ h;cases h) ?_;intro y a;simp[Op.operands]at a;subst a;exact b
 rw[h]
 have:i=0\/i=1\/i=2\/i=3:=by omega
 rcases this with rfl|rfl|rfl|rfl
 .exact Sm
 .exact Sn
 .exact So
 .exact Sq
end
theorem Fj(ks:List Nat)(c:∀k∈ks,k<290)(own:Bool)(A:Sce)(q:Nat)(hq:inK q=true):(dH own A q).map (fx ks)=dH own A q:=by
 cases h:dH own A q with
 |none=>rfl
 |some b=>
  rcases(qe h).2 with⟨_,rfl⟩|⟨_,e,f,xs,rfl⟩
  .have:∀x n,290<=x->dK ks (.arr x n)=.arr x n:=λx n d=>by
    have a:ks.contains x=false:=by
     rw[<-Bool.not_eq_true];intro a;have:=c _ (List.contains_iff_mem.1 a);omega
    unfold dK;rw[show oZ ks (.arr x n)=ks.contains x from rfl,a];rfl
   simp only[ZS,fx,yAf,yBk,this 291 _ (by decide),this 292 _ (by decide),this 293 _ (by decide),this 294 _ (by decide)]
  .rfl
theorem To(l:List Sce)(bs:List Vc)(hs:∀s∈l,ScL s)(hl:l.length<=9223372036854775807)(hb:bs.length<=9223372036854775807):aF 29 (.sl (l.map aN)) (aw bs) (.tup [aN (iy l bs),Z (ic l bs)]):=by
 by_cases N:l.length<1\/4<l.length\/bs.length≠l.length
 .have e1:ic l bs=3501:=by unfold ic;rw[Zd N]
  have e2:iy l bs=⟨[],[],[],[]⟩:=by unfold iy;rw[e1];rfl
  rw[e1,e2]
  have hc:((l.length:Int)<1)\/(4<(l.length:Int))\/((bs.length:Int)!=l.length)=true:=by
   rcases N with h|h|h
   .exact .inl (by omega)
   .exact .inr (.inl (by omega))
   .refine .inr (.inr ?_);simp;omega
  rcases hc with h|h|h
  all_goals
   refine Dp func29 λC hP hN=>?_;exact GS h
 have l1:¬(l.length:Int)<1:=by omega
 have l2:¬4<(l.length:Int):=by omega
 have l3:((bs.length:Int)!=l.length)=false:=by simp;omega
 have cd:bs.length=l.length:=by omega
 have h4:l.length<=4:=by omega
 have hE:ic l bs=if gJ (l.map ao)≠0 then gJ (l.map ao)else if ao (dG l bs l.length)=0 then 0 else 3502:=by unfold ic;rw[Y6 N]
 have cs:=λ(s:Sce)(h:s∈l)=>Ht s (hs s h);obtain⟨cf,B⟩:∃r,r=PV.tup [aN (iy l bs),Z (ic l bs)]:=⟨_,rfl⟩;obtain⟨hF,hG⟩:=J5 N B;rw[<-B];clear B hE;refine Dp func29 λC hP hN=>?_;refine GT (be l1 l2 l3) ?_;refine WP.loopN [7] l.length (λi st=>st.t 0=.pv (.sl (l.map aN))/\st.t 1=.pv (aw bs)/\st.t 4=.ptr 4 0/\st.h 4=some (.box [.pv (.val (.slice none 0 0)),.pv (.val (.slice none 0 0)),.pv (.val (.slice none 0 0)),.pv (.val (.slice none 0 0))] true false)/\st.t 5=.pv (Z 0)/\st.t 29=.pv (.sl (l.map aN))/\st.t 30=.pv (Z l.length)/\st.t 31=.pv (Z i)/\(∀k,k≠4->st.h k=none)/\∀(k:Nat) x,k<i->l[k]?=some x->ao x=0) ?_ ?_
 .refine⟨by simp,by simp,by simp,by simp,by simp,by simp,by simp,by simp,λq hq=>?_,λk x h=>by omega⟩
  simp[o6,hq]
 rintro i st hi ⟨g0,g1,g4,n,g5,Y,ad,ah,R,hq⟩;have n7:=R 7 (by decide);have n9:=R 9 (by decide);by_cases z:i<l.length
 .have hw:=ab z (by omega)
  have W:l[i]?=some l[i]:=an z;have c1:=cs _ (Zs z);have b3:=hF i _ W hq;generalize aj:l[i]=s at *;by_cases V:ao s=0
  .rw[V]at c1
   have ca:∀(k:Nat) x,k<i+1->l[k]?=some x->ao x=0:=λk x hk U=>by
    by_cases e:k=i
    .subst e;rw[W]at U;injection U with U;rw[<-U];exact V
    .exact hq k x (by omega) U
   refine GT (zAd g0 g1 g4 n g5 Y ad ah n7 z hw (gA W aj)) ?_
   all_goals refine⟨λq hq=>?_,ca⟩
   all_goals (by_cases e7:q=7)
   all_goals first|(rw[Zd e7];done)|(simp[e7];done)|(simp[e7,R q hq])
  .have hr:=b3 V
   have a6:(ao s !=0)=true:=by simp[V]
   subst hr;generalize ao s=e at *;exact GS (zAe g0 g1 g4 n g5 Y ad ah n7 z hw W aj V a6)
 have b5:i=l.length:=by omega
 subst b5
 have S:∀s∈l,ao s=0:=λs cb=>by
  obtain⟨k,hk⟩:=ZF cb;exact hq k s (th.1 hk).1 hk
 have hB:=λk=>Be (bs:=bs) S k;have B:=hG S;clear hF hG hq cs
 with_reducible iterate 8 any_goals (first|refine Sp.h ?_|((first|refine Ss.h ?_)<;>simp -implicitDefEqProofs [hP,hN,g0,g1,g4,n,g5,Y,ad,ah,n9,z]))
 refine WP.ren 9 290 (by decide) (by simp[R]) (by decide) (by simp) ?_;refine WP.nilRowsE (λk=>decide (291<=k)&&decide (k<=294)) jE 290 (cs:=[.pv (.val (.slice none 0 0)),.pv (.val (.slice none 0 0)),.pv (.val (.slice none 0 0)),.pv (.val (.slice none 0 0))]) (cs':=[.arr 291 0,.arr 292 0,.arr 293 0,.arr 294 0]) (own:=true) (fb:=false) (by simp) ?_ rfl ?_ ?_
 .intro k hk
  simp only[up,Is]at hk;have b2:=R k (by omega)
  have:k=291\/k=292\/k=293\/k=294:=by omega
  rcases this with rfl|rfl|rfl|rfl<;>simp[jE,b2]
 .intro i x W
  rcases i with _|_|_|_|i<;>simp at W<;>subst W<;>simp
 refine WP.of_st (P:=λst=>st.t 0=.pv (.sl (l.map aN))/\st.t 1=.pv (aw bs)/\st.t 4=.ptr 4 0/\st.h 4=some (.box [.pv (.val (.slice none 0 0)),.pv (.val (.slice none 0 0)),.pv (.val (.slice none 0 0)),.pv (.val (.slice none 0 0))] true false)/\st.t 5=.pv (Z 0)/\st.t 9=.ptr 290 0/\(∀k,k<290->k≠4->st.h k=none)/\∀k,inK k=true->st.h k=dH true ⟨[],[],[],[]⟩ k) ⟨?_,?_⟩
 .refine⟨by simp[g0],by simp[g1],by simp[g4],by simp[n],by simp[g5],by simp,λk h1 h2=>?_,λk hk=>?_⟩
  .simp[show¬291<=k by omega,show¬k=290 by omega,R k h2]
  .simp only[inK,up,Is]at hk
   by_cases e:k<=294
   .have:k=290\/k=291\/k=292\/k=293\/k=294:=by omega
    rcases this with rfl|rfl|rfl|rfl|rfl<;>simp[dH,jE]
   .rw[vh (by omega)]
    simp[show¬k<=294 by omega,show¬k=290 by omega,show¬k=9 by omega,R k (by omega)]
 clear g0 g1 g4 n g5 Y ad ah R n7 n9 st;rintro st ⟨g0,g1,g4,n,g5,D,R,G⟩;have O:=R 11 (by decide) (by decide);have Q:=R 12 (by decide) (by decide);refine GT (so g0 g1 g4 n g5 D) ?_;refine WP.loopN [11,12] l.length (λk st=>st.t 0=.pv (.sl (l.map aN))/\st.t 1=.pv (aw bs)/\st.t 4=.ptr 4 0/\st.h 4=some (.box [.pv (.val (.slice none 0 0)),.pv (.val (.slice none 0 0)),.pv (.val (.slice none 0 0)),.pv (.val (.slice none 0 0))] true false)/\st.t 5=.pv (Z 0)/\st.t 9=.ptr 290 0/\st.t 42=.pv (.sl (l.map aN))/\st.t 43=.pv (Z l.length)/\st.t 44=.pv (Z k)/\(st.h 11=none/\st.h 12=none)/\∀q,inK q=true->st.h q=dH true (dG l bs k) q) ?_ ?_
 .refine⟨by simp[g0],by simp[g1],by simp[g4],by simp[n],by simp[g5],by simp[D],by simp[g0],by simp[g0],by simp,by simp[O,Q],λq hq=>?_⟩
  rw[show dG l bs 0=⟨[],[],[],[]⟩ from rfl,<-Fj [11,12] (by simp) true _ q hq,<-G q hq];simp only[inK,up,Is]at hq;simp[St.kill,show¬q=11 by omega,show¬q=12 by omega]
 clear g0 g1 g4 n g5 D O Q R G st;rintro k st hk ⟨g0,g1,g4,n,g5,D,a,c,d,⟨O,Q⟩,G⟩;have o:st.h 290=some (.box [.arr 291 (dG l bs k).js.length,.arr 292 (dG l bs k).ms.length,.arr 293 (dG l bs k).shs.length,.arr 294 (dG l bs k).sks.length] true false):=(G 290 rfl).trans rfl;have H:st.h 291=some (.row 108 12 ((dG l bs k).js.map aO) 0):=(G 291 rfl).trans rfl;have I:st.h 292=some (.row 110 5 ((dG l bs k).ms.map aX) 0):=(G 292 rfl).trans rfl;have J:st.h 293=some (.row 81 3 ((dG l bs k).shs.map aZ) 0):=(G 293 rfl).trans rfl;have K:st.h 294=some (.row 113 2 ((dG l bs k).sks.map aJ) 0):=(G 294 rfl).trans rfl;have a7:=hB k;by_cases z:k<l.length
 case neg=>
  have b9:k=l.length:=by omega
  subst b9;have c1:=Ht _ (a7.L h4);generalize dG l bs l.length=A at *;by_cases V:ao A=0
  .rw[V]at c1
   rw[Zd V]at B;subst B;exact GS (zAe g0 g1 g4 n g5 D a c d o H I J K z)
  .have a6:(ao A !=0)=true:=by simp[V]
   rw[Y6 V]at B;subst B;generalize ao A=e at *;exact GS (zAe g0 g1 g4 n g5 D a c d o H I J K (be z V a6))
 obtain⟨B1,B2,B3,B4,-⟩:=a7;have cc:=ab z (by omega);have W:l[k]?=some l[k]:=an z
 have T:k<bs.length:=by omega
 have hy:bs[k]?=some bs[k]:=an T;have os:=kV (S _ (Zs z));have M:=vf W hy
 have b8:k<4:=by omega
 generalize aj:l[k]=s at *;generalize bq:bs[k]=b at *;generalize dG l bs (k+1)=A' at *;generalize dG l bs k=A at *;have w1:i64.wrap (97+(k:Int))=97+(k:Int):=aa
 have w2:IntKind.i32.wrap (97+(k:Int))=97+(k:Int):=by
  have:k=0\/k=1\/k=2\/k=3:=by omega
  rcases this with rfl|rfl|rfl|rfl<;>decide
 have ak:=Sk k A.js.length b A s.js s.ms (by omega) os.j os.m os.n2 os.m1 (by omega) (by omega);have ar:=Sl k A.js.length b ⟨A.js++s.js.map (fX k A.js.length b),A.ms++s.ms.map (oU A.js.length),A.shs,A.sks⟩ s (by omega) os.h os.k os.n2 os.h1 os.k1 (by simp only;omega) (by simp only;omega);obtain⟨js,ms,SH,sks⟩:=s;obtain⟨m,hm⟩:∃m,m=A.js.length:=⟨_,rfl⟩;simp only[oq]at M;rw[<-hm]at ak ar M o
 have a8:(A.js.map aO).length=m:=by rw[ZB,hm]
 simp only at ak ar;clear os
 have b7:gD prog 9=none:=by kernel_rfl
 refine GT (zAe b7 g0 g1 g4 n g5 D a c d O Q o H (zAd I J K a8 @hm.symm z W aj T hy bq (gA w1 w2))) ?_;rw[XA k b8 (by simp)];simp -implicitDefEqProofs (maxSteps:=2000000) [hP,hN,g0,g1,g4,n,g5,D,a,c,d,O,Q,o,H,I,J,K,a8,hm.symm,T,hy,bq];refine Ya ?_;refine WP.of_st (P:=λst=>st.t 0=.pv (.sl (l.map aN))/\st.t 1=.pv (aw bs)/\st.t 4=.ptr 4 0/\st.h 4=some (.box [.pv (.val (.slice none 0 0)),.pv (.val (.slice none 0 0)),.pv (.val (.slice none 0 0)),.pv (.val (.slice none 0 0))] true false)/\st.t 5=.pv (Z 0)/\st.t 9=.ptr 290 0/\st.t 42=.pv (.sl (l.map aN))/\st.t 43=.pv (Z l.length)/\st.t 44=.pv (Z k)/\st.t 11=.ptr 11 0/\st.t 12=.ptr 12 0/\st.h 11=some (.box [.pv (.sl (js.map aO)),.pv (.sl (ms.map aX)),.pv (.sl (SH.map aZ)),.pv (.sl (sks.map aJ))] true false)/\st.h 12=some (.box [.pv (.val (.string (bP k))),.pv (Z m),.pv (Z b.1),.pv (Z b.2.1),.pv (Z b.2.2)] true false)/\∀q,inK q=true->st.h q=dH true A q) ⟨?_,?_⟩
 .refine⟨by simp[g0],by simp[g1],by simp[g4],by simp[n],by simp[g5],by simp[D],by simp[a],by simp[c],by simp[d],by simp,by simp,by simp,by simp,λq hq=>?_⟩
  rw[<-G q hq];simp only[inK,up,Is]at hq;simp[show¬q=11 by omega,show¬q=12 by omega]
 clear g0 g1 g4 n g5 D a c d O Q o H I J K G st;rintro st ⟨g0,g1,g4,n,g5,D,a,c,d,v,y,p,u,G⟩;have o:st.h 290=some (.box [.arr 291 A.js.length,.arr 292 A.ms.length,.arr 293 A.shs.length,.arr 294 A.sks.length] true false):=(G 290 rfl).trans rfl
 with_reducible repeat' (first|refine Sp.h ?_|((with_unfolding_all refine WP.takeAt (hn:=[]) (f:=.func 62) 4 rfl rfl rfl ?_);simp -implicitDefEqProofs [hP,hN,g0,g1,g4,n,g5,D,a,c,d,v,y,p,u,o])|((first|refine Wd ?_|refine Ss.h ?_|(refine Sb.h ?_ ?_ ?_<;>(try intro hgd)<;>try exact Xy))<;>simp -implicitDefEqProofs [hP,hN,g0,g1,g4,n,g5,D,a,c,d,v,y,p,u,o]<;>try refine Ya ?_)|refine X2 ?_ ?_|(refine Xd ?_ ?_<;>intro hcd<;>try exact Xx))
 refine J6 (g:=62) (args:=[.pv (rZ k m b),.ptr 290 0,.pv (eK js ms)]) rfl (by simp[St.ev]) rfl (by simp[dI,hN]) G (by rw[hP];exact ak) ?_;intro r h' hh ho;have X:=ho 4 rfl;have E:=ho 11 rfl;have F:=ho 12 rfl;simp[nC,dS,eJ,bT,o6,n,p,u]at X E F;simp -implicitDefEqProofs (maxSteps:=2000000) [hP,hN,dS,eJ,bT,jB,gV,inK,g0,g1,g4,n,g5,D,a,c,d,v,y,p,u,X,E,F];refine WP.of_st (P:=λst=>st.t 0=.pv (.sl (l.map aN))/\st.t 1=.pv (aw bs)/\st.t 4=.ptr 4 0/\st.h 4=some (.box [.pv (.val (.slice none 0 0)),.pv (.val (.slice none 0 0)),.pv (.val (.slice none 0 0)),.pv (.val (.slice none 0 0))] true false)/\st.t 5=.pv (Z 0)/\st.t 9=.ptr 290 0/\st.t 42=.pv (.sl (l.map aN))/\st.t 43=.pv (Z l.length)/\st.t 44=.pv (Z k)/\st.t 11=.ptr 11 0/\st.t 12=.ptr 12 0/\st.h 11=some (.box [.pv (.sl (js.map aO)),.pv (.sl (ms.map aX)),.pv (.sl (SH.map aZ)),.pv (.sl (sks.map aJ))] true false)/\st.h 12=some (.box [.pv (.val (.string (bP k))),.pv (Z m),.pv (Z b.1),.pv (Z b.2.1),.pv (Z b.2.2)] true false)/\∀q,inK q=true->st.h q=dH true ⟨A.js++js.map (fX k m b),A.ms++ms.map (oU m),A.shs,A.sks⟩ q) ⟨?_,?_⟩
 .refine⟨by simp[dS,eJ,bT,gV,inK,g0],by simp[dS,eJ,bT,gV,inK,g1],by simp[dS,eJ,bT,gV,inK,g4],by simp[X],by simp[dS,eJ,bT,gV,inK,g5],by simp[dS,eJ,bT,gV,inK,D],by simp[dS,eJ,bT,gV,inK,a],by simp[dS,eJ,bT,gV,inK,c],by simp[dS,eJ,bT,gV,inK,d],by simp[dS,eJ,bT,gV,inK,v],by simp[dS,eJ,bT,gV,inK,y],by simp[E],by simp[F],λq hq=>hh q hq⟩
 clear hh ho X E F h' r g0 g1 g4 n g5 D a c d v y p u;rintro st ⟨g0,g1,g4,n,g5,D,a,c,d,v,y,p,u,G⟩
 with_reducible repeat' (first|refine Sp.h ?_|((with_unfolding_all refine WP.takeAt (hn:=[]) (f:=.func 63) 2 rfl rfl rfl ?_);simp -implicitDefEqProofs [hP,hN,g0,g1,g4,n,g5,D,a,c,d,v,y,p,u])|((first|refine Wd ?_|refine Ss.h ?_|(refine Sb.h ?_ ?_ ?_<;>(try intro hgd)<;>try exact Xy))<;>simp -implicitDefEqProofs [hP,hN,g0,g1,g4,n,g5,D,a,c,d,v,y,p,u]<;>try refine Ya ?_)|refine X2 ?_ ?_|(refine Xd ?_ ?_<;>intro hcd<;>try exact Xx))
 refine J6 (g:=63) (args:=[.pv (rZ k m b),.ptr 290 0,.pv (aN ⟨js,ms,SH,sks⟩)]) rfl (by simp[St.ev,D]) rfl (by simp[dI,hN]) G (by rw[hP];exact ar) ?_;intro r h' hh ho;have X:=ho 4 rfl;have E:=ho 11 rfl;have F:=ho 12 rfl;simp[nC,dS,eJ,bT,o6,n,p,u]at X E F;simp -implicitDefEqProofs (maxSteps:=2000000) [hP,hN,dS,eJ,bT,jB,gV,inK,g0,g1,g4,n,g5,D,a,c,d,v,y,p,u,X,E,F];refine WP.of_st (P:=λst=>st.t 0=.pv (.sl (l.map aN))/\st.t 1=.pv (aw bs)/\st.t 4=.ptr 4 0/\st.h 4=some (.box [.pv (.val (.slice none 0 0)),.pv (.val (.slice none 0 0)),.pv (.val (.slice none 0 0)),.pv (.val (.slice none 0 0))] true false)/\st.t 5=.pv (Z 0)/\st.t 9=.ptr 290 0/\st.t 42=.pv (.sl (l.map aN))/\st.t 43=.pv (Z l.length)/\st.t 44=.pv (Z k)/\st.t 11=.ptr 11 0/\st.t 12=.ptr 12 0/\st.h 11=some (.box [.pv (.sl (js.map aO)),.pv (.sl (ms.map aX)),.pv (.sl (SH.map aZ)),.pv (.sl (sks.map aJ))] true false)/\st.h 12=some (.box [.pv (.val (.string (bP k))),.pv (Z m),.pv (Z b.1),.pv (Z b.2.1),.pv (Z b.2.2)] true false)/\∀q,inK q=true->st.h q=dH true ⟨A.js++js.map (fX k m b),A.ms++ms.map (oU m),A.shs++SH.map (jJ m b),A.sks++sks.map (oo m)⟩ q) ⟨?_,?_⟩
 .refine⟨by simp[dS,eJ,bT,gV,inK,g0],by simp[dS,eJ,bT,gV,inK,g1],by simp[dS,eJ,bT,gV,inK,g4],by simp[X],by simp[dS,eJ,bT,gV,inK,g5],by simp[dS,eJ,bT,gV,inK,D],by simp[dS,eJ,bT,gV,inK,a],by simp[dS,eJ,bT,gV,inK,c],by simp[dS,eJ,bT,gV,inK,d],by simp[dS,eJ,bT,gV,inK,v],by simp[dS,eJ,bT,gV,inK,y],by simp[E],by simp[F],λq hq=>hh q hq⟩
 clear hh ho X E F h' r g0 g1 g4 n g5 D a c d v y p u;rintro st ⟨g0,g1,g4,n,g5,D,a,c,d,v,y,p,u,G⟩;rw[<-M]at G;refine GT (zAd g0 g1 g4 n g5 D a c d v y (be p u cc)) ?_;intro q h1 h2
 have hq:inK q=true:=by simp[inK,h1,h2]
 rw[Y6 (by omega),G q hq,Fj [11,12] (by simp) true A' q hq]
theorem Xq(l:List Sce)(bs:List Vc)(c:List ga)(D:Int)(hs:∀s∈l,ScL s)(hl:l.length<=9223372036854775807)(hb:bs.length<=9223372036854775807)(hq:c.length<=9223372036854775807)(cU:∀q∈c,q.1.length<=9223372036854775807/\q.2.length<=9223372036854775807/\∀x∈q.1,x.length<=9223372036854775807):lR 11 (.sl (l.map aN)) (aw bs) (gl c) (Z D) (A6 l bs c D):=by
 have cj:=To l bs hs hl hb;generalize iy l bs=X at cj;by_cases h1:ic l bs=0
 case neg=>
  have cX:(ic l bs !=0)=true:=by simp[h1]
  rw[mi (by unfold j4;rw[Z9 h1];rfl)];generalize ic l bs=e at *;refine Dp func11 λC hP hN=>?_;exact Gy
 obtain⟨o1,o2,o3,o4,o5⟩:=Bc h1;rw[h1]at cj;by_cases h2:c.length=l.length
 case neg=>
  have cm:((c.length:Int)!=l.length)=true:=by simp;omega
  rw[mi (by unfold j4;rw[Z9 h2];simp)];refine Dp func11 λC hP hN=>?_;exact Gy
 have cm:((c.length:Int)!=l.length)=false:=by simp;omega
 by_cases h3:D<0
 .rw[mi (by unfold j4;rw[Z9 (show¬0<=D by omega)];simp)]
  refine Dp func11 λC hP hN=>?_;exact Gy
 by_cases h4:20<D
 .rw[mi (by unfold j4;rw[Z9 (show¬D<=20 by omega)];simp)]
  refine Dp func11 λC hP hN=>?_;exact Gy
 obtain⟨d,rfl⟩:∃d:Nat,D=d:=⟨D.toNat,by omega⟩
 have hd:d<=20:=by omega
 refine Dp func11 λC hP hN=>?_;refine GT (be cm h3 h4) ?_;refine WP.loopN [13] c.length (λi st=>st.t 0=.pv (.sl (l.map aN))/\st.t 1=.pv (aw bs)/\st.t 2=.pv (gl c)/\st.t 3=.pv (Z (d:Int))/\st.t 44=.pv (gl c)/\st.t 45=.pv (Z c.length)/\st.t 46=.pv (Z i)/\(∀k,k≠10->st.h k=none)/\E4 l c i) ?_ ?_
 .simp[E4]
  intro k hk _;rw[Y6 hk,Y6 hk,uW];split<;>rfl
 rintro i st hi ⟨g0,g1,g2,g3,a6,a7,a8,G,hM⟩;by_cases u:i<c.length
 .have hw:=ab u hq
  have J:i<l.length:=by omega
  have hx:l[i]?=some l[i]:=an J;have hy:c[i]?=some c[i]:=an u;have cx:=hs _ (Zs J);obtain⟨k1,k2,k3⟩:=cU _ (Zs u);have cv:=YG l[i].js l[i].ms c[i].1 c[i].2 cx.js cx.ms k1 k2 k3;have cu:=E3 (bs:=bs) (D:=(d:Int)) hx hy;have ct:=E5 hM hx hy;generalize N:l[i]=s at *;generalize O:c[i]=q at *;obtain⟨P,es⟩:=q;obtain⟨s1,s2,s3,s4⟩:=s;simp only at cv cu ct;have cz:=G 13 (by decide)
  cases hv:lq s1 s2 P es with
  |false=>
   rw[hv]at cv;rw[mi (cu hv)];exact GS (zAe g0 g1 g2 g3 a6 a7 a8 cz u J hx hy N O @bn.eq_1)
  |true=>
   rw[hv]at cv;have hT:=ct hv;refine GT (zAe g0 g1 g2 g3 a6 a7 a8 cz u J hx hy N O (be @bn.eq_1 hw hT)) ?_
   all_goals (intro q cT;by_cases e:q=13<;>simp[e,G q cT])
 have b5:i=c.length:=by omega
 subst b5;rw[h2]at hM
 have hR:A6 l bs c d=if(xe l bs c d).length<=4096 then .tup [.sl ((xe l bs c d).map bR),B true]else .tup [.sl [],B false]:=by
  unfold A6;rw[G9 h1 h2 (by omega) (by omega) hM,Zo];simp
 rw[hR];clear hR;have cb:=G 14 (by decide);refine ki [14] (zAb g0 g1 g2 g3 a6 a7 a8 (gA u cb)) ?_;have s0:xc (ni l bs c d) l.length 0=[]:=rfl;have s1:=E0 (ni l bs c d) l.length;have s2:=λi(h:i<=l.length)=>E2 (ni l bs c d) l.length h;unfold xe;generalize hW:xc (ni l bs c d) l.length=W at *;clear hW;refine WP.ren 14 291 (by decide) (by simp[G]) (by decide) (by simp) ?_;refine WP.of_st (P:=λst=>st.t 0=.pv (.sl (l.map aN))/\st.t 1=.pv (aw bs)/\st.t 2=.pv (gl c)/\st.t 3=.pv (Z (d:Int))/\st.t 14=.arr 291 (W 0).length/\st.h 291=some (.row 89 6 ((W 0).map bR) 0)/\st.t 61=.pv (Z l.length)/\st.t 62=.pv (Z 0)/\∀k,k≠10->k≠291->st.h k=none) ⟨?_,?_⟩
 .rw[s0]
  refine⟨by simp[g0],by simp[g1],by simp[g2],by simp[g3],by simp,by simp,by simp,by simp,λk k1 k2=>?_⟩;by_cases e:k=14<;>simp[e,k2,G k k1]
 clear g0 g1 g2 g3 a6 a7 a8 G cb u st;rintro st ⟨g0,g1,g2,g3,v,a,f,o,G⟩;refine WP.loopN [17,19] l.length (λi st=>st.t 0=.pv (.sl (l.map aN))/\st.t 1=.pv (aw bs)/\st.t 2=.pv (gl c)/\st.t 3=.pv (Z (d:Int))/\st.t 14=.arr 291 (W i).length/\st.h 291=some (.row 89 6 ((W i).map bR) 0)/\st.t 61=.pv (Z l.length)/\st.t 62=.pv (Z i)/\(∀k,k≠10->k≠291->st.h k=none)/\(W i).length<=4096) ?_ ?_
 .refine⟨by simp[g0],by simp[g1],by simp[g2],by simp[g3],by simp[v],by simp[a],by simp[f],by simp[o],λk k1 k2=>?_,by rw[s0];simp⟩
  by_cases e:k=17\/k=19<;>simp[e,G k k1 k2]
 clear g0 g1 g2 g3 v a f o G st;rintro i st hi ⟨g0,g1,g2,g3,v,a,f,o,G,I⟩;by_cases u:i<l.length
 case neg=>
  have b5:i=l.length:=by omega
  subst b5;rw[Zd I];exact Gy
 have hw:=ab u hl
 have c5:i64.wrap ((i:Int)+1)=((i+1:Nat):Int):=by rw[hw];omega
 obtain⟨R,hR⟩:∃R:Nat->List Cf,R=λj=>W i++v8 (ni l bs c d) i j:=⟨_,rfl⟩
 have r0:R 0=W i:=by rw[hR];simp[v8]
 have r1:R (l.length-(i+1))=W (i+1):=by rw[hR,s1]
 have r2:∀j,R (j+1)=R j++ni l bs c d i (i+1+j):=λj=>by rw[hR];simp only;rw[EZ,yAd]
 have r4:∀j,j<=l.length-(i+1)->(R j).length<=(W l.length).length:=λj hj=>by
  refine yAG ?_ (s2 (i+1) (by omega));rw[hR,s1];simp only[Zq];have:=E1 (ni l bs c d) i hj;omega
 clear hR;have hx:l[i]?=some l[i]:=an u;refine GT (zAc g0 g1 g2 g3 v a f o u hw) ?_;refine WP.loopN [17,19] (l.length-(i+1)) (λj st=>st.t 0=.pv (.sl (l.map aN))/\st.t 1=.pv (aw bs)/\st.t 2=.pv (gl c)/\st.t 3=.pv (Z (d:Int))/\st.t 14=.arr 291 (R j).length/\st.h 291=some (.row 89 6 ((R j).map bR) 0)/\st.t 61=.pv (Z l.length)/\st.t 62=.pv (Z i)/\st.t 15=.pv (Z i)/\st.t 16=.pv (Z ((i+1+j:Nat):Int))/\(∀k,k≠10->k≠291->st.h k=none)/\(R j).length<=4096) ?_ ?_
 .rw[r0]
  refine⟨by simp[g0],by simp[g1],by simp[g2],by simp[g3],by simp[v],by simp[a],by simp[f],by simp[o],by simp,by simp,λk k1 k2=>?_,I⟩;by_cases e:k=17\/k=19<;>simp[e,G k k1 k2]
 clear g0 g1 g2 g3 v a f o G I st;rintro j st hj ⟨g0,g1,g2,g3,v,a,f,o,E,F,G,I⟩;by_cases H:i+1+j<l.length
 case neg=>
  have cQ:j=l.length-(i+1):=by omega
  subst cQ;rw[r1]at v a I
  have cq:¬((i+1+(l.length-(i+1)):Nat):Int)<l.length:=by omega
  generalize i+1+(l.length-(i+1))=b at *;refine GT (zAd g0 g1 g2 g3 v a f o E F H (be cq hw I)) ?_
  all_goals (intro q k1 k2;by_cases e:q=17\/q=19<;>simp[e,G q k1 k2])
 have q2:=r2 j;have q4:=r4 (j+1) (by omega)
 have cS:i+1+(j+1)=i+1+j+1:=by omega
 have c2:j+1<=l.length-(i+1):=by omega
 have cP:i<i+1+j:=by omega
 rw[cS];generalize i+1+j=b at *;have cV:=ab H hl;have hy:l[b]?=some l[b]:=an H
 have b3:i<bs.length:=by omega
 have b4:b<bs.length:=by omega
 have b7:i<c.length:=by omega
 have b8:b<c.length:=by omega
 have U:bs[i]?=some bs[i]:=an b3
 have S:bs[b]?=some bs[b]:=an b4
 have ah:c[i]?=some c[i]:=an b7;have Y:c[b]?=some c[b]:=an b8;have hE:=Hj h1 hx U hy S cP;rw[JR hx hy U S ah Y]at q2;have cB:=o4 _ (Zs u);have cM:=o4 _ (Zs H);have c3:=hs _ (Zs u);have c4:=hs _ (Zs H);have ak:=hM i _ _ u hx ah;have ar:=hM b _ _ H hy Y;generalize N:l[i]=s at *;generalize O:l[b]=t at *;generalize V:bs[i]=x at *;generalize T:bs[b]=y at *;generalize aj:c[i]=m at *;generalize ad:c[b]=n at *;obtain⟨K,e1⟩:=m;obtain⟨M,e2⟩:=n;simp only at ak ar q2;have w1:=uf cB ak;have w2:=uf cM ar;have z1:=A7 (q:=(K,e1)) w1 i;have z2:=A7 (q:=(M,e2)) w2 b;have y1:=rx (q:=(K,e1)) w1 i;have y2:=rx (q:=(M,e2)) w2 b;have p1:=(j0 ak).1;have p2:=(j0 ar).1;have u1:K.length*K.length<=1024*1024:=yAp p1 p1;have u2:M.length*M.length<=1024*1024:=yAp p2 p2;have cA:=EY hE
 have cN:ScL (iy [s,t] [x,y]):=by
  unfold iy;rw[Zd hE];exact(Be (l:=[s,t]) (bs:=[x,y]) (by intro z hz;simp at hz;rcases hz with rfl|rfl<;>assumption) 2).L (by omega)
 have bq:=To [s,t] [x,y] (by intro z hz;simp at hz;rcases hz with rfl|rfl<;>assumption) (by simp) (by simp);have cp:∀p∈K,∀q∈M,aY (iy [s,t] [x,y]).js (iy [s,t] [x,y]).ms (p++q)=true:=λp hp q hq=>Db hE (lN (j0 ak).2.2.1 p hp) (lN (j0 ar).2.2.1 q hq);have cc:=Tg i (bn (K,e1)) w1 (by omega);have cd:=Tg b (bn (M,e2)) w2 (by omega);have cD:=Un (iy [s,t] [x,y]) d K M (io (bn (K,e1)) i) (io (bn (M,e2)) b) (R j) cN cA.1 hd I (by simp only at y1;omega) (by simp only at y2;omega) z1 z2 cp
 have cn:Lx (R j) (gT (iy [s,t] [x,y]) d K M (io (bn (K,e1)) i) (io (bn (M,e2)) b))=λr L=>((R (j+1)).length<=4096/\L=R (j+1)/\r=.tup [.arr 291 (R (j+1)).length,.pv (B true)])\/(4096<(R (j+1)).length/\r=.tup [.pv (.val (.slice none 0 0)),.pv (B false)]):=by rw[q2];rfl
 rw[cn]at cD;rw[hE]at bq;have c0:=cA.1;clear cn q2 z1 z2 y1 y2 u1 u2 p1 p2 cA cp w1 w2 ak ar hE;generalize iy [s,t] [x,y]=A at *;generalize io (bn (K,e1)) i=us at *;generalize io (bn (M,e2)) b=vs at *;have ch:aF 29 (.sl [aN s,aN t]) (.sl [al x,al y]) (.tup [aN A,Z 0]):=bq;have cf:aF 32 (Z i) (.agg [.sl (K.map zs),gp e1]) (.sl (us.map bQ)):=cc;have cg:aF 32 (Z b) (.agg [.sl (M.map zs),gp e2]) (.sl (vs.map bQ)):=cd;clear bq cc cd;have b9:=G 17 (by decide) (by decide);have ca:=G 19 (by decide) (by decide)
 with_reducible repeat' (first|refine Sp.h ?_|((with_unfolding_all refine WP.drawTake (hn:=[]) (λ_=>false) 14 rfl rfl (by rw[hP];kernel_rfl) (by kernel_rfl) (by kernel_rfl) (by kernel_rfl) (by kernel_rfl) ?_);simp -implicitDefEqProofs (maxSteps:=2000000) [hP,hN,g0,g1,g2,g3,v,a,f,o,E,F,b9,ca,u,H,b3,b4,b7,b8,hx,N,hy,O,U,V,S,T,ah,aj,Y,ad,bn])|((first|refine Wd ?_|refine Ss.h ?_|refine Sc.h (ch) ?_|refine Sc.h (cf) ?_|refine Sc.h (cg) ?_|(refine Sb.h ?_ ?_ ?_<;>(try intro hgd)<;>try exact Xy))<;>simp -implicitDefEqProofs (maxSteps:=2000000) [hP,hN,g0,g1,g2,g3,v,a,f,o,E,F,b9,ca,u,H,b3,b4,b7,b8,hx,N,hy,O,U,V,S,T,ah,aj,Y,ad,bn]<;>try refine Ya ?_)|refine X2 ?_ ?_|(refine Xd ?_ ?_<;>intro hcd<;>try exact Xx))
 refine Qf (g:=31) (args:=[.pv (Nu A d K M),.arr 291 (R j).length,.pv (.sl (us.map bQ)),.pv (.sl (vs.map bQ))]) rfl (by simp[St.ev]) rfl (by simp[dI,hN]) (λq hq=>?_) (by rw[hP];exact cD) ?_
 .by_cases e:q=291
  .subst e;simp[a,lO]
  .have:290<=q:=by simp[inK]at hq;omega
   rw[ta e];simp[show¬q=17 by omega,show¬q=19 by omega,G q (by omega) e]
 intro r h' L' hp hK cr
 have b2:∀q,q≠10->q≠291->q≠17->q≠19->h' q=none:=λq k1 k2 k3 k4=>by
  cases hq:inK q with
  |true=>rw[hK q hq,ta k2]
  |false=>rw[cr q hq];simp[k3,k4,G q k1 k2]
 have Q:=hK 291 rfl;clear cr hK b9 ca cD ch cf cg G a N O V T aj ad hx hy U S ah Y;rcases hp with⟨v1,rfl,rfl⟩|⟨v1,rfl⟩
 .simp -implicitDefEqProofs (maxSteps:=2000000) [hP,hN,eD,iN,eJ,bT,jB,inK,g0,g1,g2,g3,f,o,E,F]
  refine Ya ?_;refine WP.of_st (P:=λst=>st.t 0=.pv (.sl (l.map aN))/\st.t 1=.pv (aw bs)/\st.t 2=.pv (gl c)/\st.t 3=.pv (Z (d:Int))/\st.t 61=.pv (Z l.length)/\st.t 62=.pv (Z i)/\st.t 15=.pv (Z i)/\st.t 16=.pv (Z b)/\st.t 14=.arr 291 (R (j+1)).length/\st.t 20=.pv (B true)/\st.h 291=some (.row 89 6 ((R (j+1)).map bR) 0)/\∀q,q≠10->q≠291->q≠17->q≠19->st.h q=none) ⟨?_,?_⟩
  .refine⟨by simp[eD,iN,eJ,bT,jB,inK,g0],by simp[eD,iN,eJ,bT,jB,inK,g1],by simp[eD,iN,eJ,bT,jB,inK,g2],by simp[eD,iN,eJ,bT,jB,inK,g3],by simp[eD,iN,eJ,bT,jB,inK,f],by simp[eD,iN,eJ,bT,jB,inK,o],by simp[eD,iN,eJ,bT,jB,inK,E],by simp[eD,iN,eJ,bT,jB,inK,F],by simp,by simp,by simp[Q,lO],λq k1 k2 k3 k4=>by simp[b2 q k1 k2 k3 k4]⟩
  clear g0 g1 g2 g3 v f o E F b2 Q st h';rintro st ⟨g0,g1,g2,g3,f,o,E,F,v,ck,a,G⟩;refine GT (zAd g0 g1 g2 g3 f o E F v ck a (gA cV v1)) ?_;exact⟨by omega,λq k1 k2 k3 k4=>G q k1 k2 k3 k4⟩
 rw[Y6 (by omega)];simp -implicitDefEqProofs (maxSteps:=2000000) [hP,hN,eD,iN,eJ,bT,jB,inK,g0,g1,g2,g3,f,o,E,F];refine Ya ?_;refine WP.of_st (P:=λst=>st.t 20=.pv (B false)) ⟨by simp,?_⟩;clear g0 g1 g2 g3 v f o E F b2 Q st h';intro st ck;exact Gy
def rU(f:Nat->Nat->Bool)(a i k:Nat):List Mov:=((List.range k).filter λu=>f i u).map λu:Nat=>⟨a,i,u⟩
theorem Lt(f:Nat->Nat->Bool)(a i:Nat):rU f a i 0=[]:=rfl
theorem EW(f:Nat->Nat->Bool)(a i k:Nat):rU f a i (k+1)=if f i k=true then rU f a i k++[⟨a,i,k⟩]else rU f a i k:=by
 unfold rU;rw[yAs,yAH,yAV];by_cases h:f i k=true
 .rw[Zd h];simp[h]
 .rw[Y6 h];simp[h]
theorem Ol(f:Nat->Nat->Bool)(a i k:Nat):(rU f a i k).length<=k:=by
 unfold rU;rw[ZB];exact yAG (yBb _ _) (by simp)
theorem Om{t:fQ}{a:Nat}{m:eR}(b:t.maps[a]?=some m)(d:dc m=true)(hi:i<m.np.length):rU (qK t a) a i m.np.length=BZ m a i:=by
 have c:=(xF b).1;unfold rU BZ;rw[Bm d hi,List.map_map,Kp b hi,c];rfl
theorem Th(t:fQ)(L:TmOk t)(a:Nat)(m:eR)(o:t.maps[a]?=some m)(b:dc m=true):aF 60 (kA t) (Z a) (.sl ((io m a).map bQ)):=by
 have d:=b;simp only[dc,up,Is]at d;have g:m.np.length<=1024:=d.1;have v:a<t.maps.length:=(th.1 o).1;have z:t.maps[a]=m:=(th.1 o).2;have c:=λi(hi:i<=m.np.length)=>ve b a i hi;have N:=Da m a
 have H:∀i,i<m.np.length->qA m a (i+1)=qA m a i++rU (qK t a) a i m.np.length:=λi hi=>by rw[wZ,Om o b hi]
 have cl:=λi k:Nat=>WH t ⟨a,i,k⟩ L;have x:∀i k:Nat,jr t ⟨a,i,k⟩=qK t a i k:=λi k=>rfl;unfold io;generalize J:qA m a=T at *;generalize r:m.np.length=n at *;clear J d b;refine Dp func60 λC hP hN=>?_;refine ki [5] (go v z o r) ?_;refine WP.loopN [9] n (λi st=>st.t 1=.pv (Z a)/\st.t 2=.ptr 2 0/\st.h 2=some (.box [.pv (.sl (t.maps.map bf)),.pv (.sl (t.conf.map bR))] true false)/\st.t 5=.arr 5 (T i).length/\st.h 5=some (.row 87 3 ((T i).map bQ) 0)/\st.t 6=.pv (Z n)/\st.t 7=.pv (Z i)/\st.h 9=none) (by simp[N]) ?_;rintro i st hi ⟨g1,g2,D,g5,p,E,F,I⟩;by_cases f:i<n
 case neg=>
  have s:i=n:=by omega
  subst s;exact Gy
 have Y:=ab f (by omega);have A:=c (i+1) (by omega);have B:(i+1)*n<=1024*1024:=yAp (by omega) g;obtain⟨S,hS⟩:∃S:Nat->List Mov,S=λj=>T i++rU (qK t a) a i j:=⟨_,rfl⟩
 have O:S 0=T i:=by rw[hS];simp[Lt]
 have s1:∀j,qK t a i j=true->S (j+1)=S j++[⟨a,i,j⟩]:=by intro j h;rw[hS];simp only;rw[EW,Zd h,yAd]
 have R:∀j,qK t a i j=false->S (j+1)=S j:=by intro j h;rw[hS];simp only;rw[EW,Y6 (by rw[h];decide)]
 have s2:S n=T (i+1):=by rw[hS,H i f]
 have P:∀j,j<=n->(S j).length<=1049600:=by
  intro j K;have X:=Ol (qK t a) a i j;have h5:=c i (by omega);have h6:i*n<=1024*1024:=yAp (by omega) g;rw[hS];simp only[Zq];omega
 have q:=cl i;clear hS H c A B;refine Gz ?_;refine WP.loopN [9] n (λj st=>st.t 1=.pv (Z a)/\st.t 2=.ptr 2 0/\st.h 2=some (.box [.pv (.sl (t.maps.map bf)),.pv (.sl (t.conf.map bR))] true false)/\st.t 5=.arr 5 (S j).length/\st.h 5=some (.row 87 3 ((S j).map bQ) 0)/\st.t 6=.pv (Z n)/\st.t 7=.pv (Z i)/\st.t 8=.pv (Z j)/\st.h 9=none) (by simp[O, *]) ?_;clear g1 g2 D g5 p E F I st;rintro j st K ⟨g1,g2,D,g5,p,E,F,W,I⟩;by_cases y:j<n
 case neg=>
  have u:j=n:=by omega
  subst u;rw[s2]at g5 p;exact Gy
 have M:=ab y (by omega);have s5:=P j (by omega);have c1:=q j;rw[x]at c1;have Q:=s1 j;have U:=R j;generalize G:S j=e at *
 have q1:(e.length+1)*24<=140737488355328:=by omega
 have q2:e.length+1<=9223372036854775807:=by omega
 cases l:qK t a i j with
 |false=>
  rw[l]at c1;have V:=U l;exact Gy
 |true=>
  rw[l]at c1;have V:=Q l;exact Gy
theorem yw{α β:Type}{g:α->List β}{B:Nat}:∀{l:List α},(∀x∈l,(g x).length<=B)->(l.flatMap g).length<=l.length*B
 |[],_=>by simp
 |x::l,h=>by
  have ih:=yw (l:=l) λy a=>h y (by simp[a]);have:=h x (by simp);rw[List.flatMap_cons,Zq,yAE,Nat.succ_mul];omega
theorem Ly{D:Nat}{Pa Pb:List (List Int)}{us vs:List Mov}:(gT A D Pa Pb us vs).length<=us.length*vs.length:=
 yw λx _=>by unfold jy;rw[ZB];exact yBb _ _
theorem Qh{l:List Sce}{bs:List Vc}{d:List ga}{D:Nat}(c:∀(i:Nat) q,d[i]?=some q->dc (bn q)=true/\q.1.length<=100)(a b:Nat):(ni l bs d D a b).length<=100000000:=by
 unfold ni;split
 .rename_i s t x y m n g j k o e f
  obtain⟨w1,k1⟩:=c a m e;obtain⟨w2,k2⟩:=c b n f;have h1:=rx w1 a;have p:=rx w2 b;have r:m.1.length*m.1.length<=100*100:=yAp k1 k1;have u:n.1.length*n.1.length<=100*100:=yAp k2 k2;refine yAG Ly (yAG (yAp (show _<=10000 by omega) (show _<=10000 by omega)) (by decide))
 .simp
theorem Qi{f:Nat->Nat->List Cf}(hn:n<=4)(h:∀a b,(f a b).length<=100000000):(xc f n n).length<=1600000000:=by
 have h1:∀a j,j<=4->(v8 f a j).length<=400000000:=λa j c=>by
  refine yAG (yw λk _=>h a _) ?_;rw[List.length_range];omega
 refine yAG (yw λk _=>h1 k _ (by omega)) ?_;rw[List.length_range];omega
theorem Xr(l:List Sce)(bs:List Vc)(c:List ga)(D:Int)(hs:∀s∈l,ScL s)(hl:l.length<=9223372036854775807)(hb:bs.length<=9223372036854775807)(hq:c.length<=9223372036854775807)(b7:∀q∈c,q.1.length<=100/\q.2.length<=9223372036854775807/\∀x∈q.1,x.length<=9223372036854775807):lR 27 (.sl (l.map aN)) (aw bs) (gl c) (Z D) (A6 l bs c D):=by
 have cj:=Tn l bs hs hl hb;generalize iy l bs=X at cj;by_cases h1:ic l bs=0
 case neg=>
  have gd:(ic l bs !=0)=true:=by simp[h1]
  rw[mi (by unfold j4;rw[Z9 h1];rfl)];generalize ic l bs=e at *;refine Dp func27 λC hP hN=>?_;exact Gy
 obtain⟨o1,o2,o3,o4,o5⟩:=Bc h1;rw[h1]at cj;by_cases h2:c.length=l.length
 case neg=>
  have eM:((c.length:Int)!=l.length)=true:=by simp;omega
  rw[mi (by unfold j4;rw[Z9 h2];simp)];refine Dp func27 λC hP hN=>?_;exact Gy
 have eM:((c.length:Int)!=l.length)=false:=by simp;omega
 by_cases h3:D<0
 .rw[mi (by unfold j4;rw[Z9 (show¬0<=D by omega)];simp)]
  refine Dp func27 λC hP hN=>?_;exact Gy
 by_cases h4:20<D
 .rw[mi (by unfold j4;rw[Z9 (show¬D<=20 by omega)];simp)]
  refine Dp func27 λC hP hN=>?_;exact Gy
 obtain⟨d,rfl⟩:∃d:Nat,D=d:=⟨D.toNat,by omega⟩
 have hd:d<=20:=by omega
 refine Dp func27 λC hP hN=>?_;refine Gz ?_;refine WP.loopN [] l.length (λi st=>st.t 0=.pv (.sl (l.map aN))/\st.t 1=.pv (aw bs)/\st.t 2=.pv (gl c)/\st.t 3=.pv (Z (d:Int))/\st.t 12=.pv (Z i)/\st.h 13=none/\st.h 14=none/\st.h 17=none/\E4 l c i) ?_ ?_
 .simp[E4]
 rintro i st hi ⟨g0,g1,g2,g3,a6,cd,cf,M,hM⟩;by_cases E:i<l.length
 .have hw:=ab E hl
  have K:i<c.length:=by omega
  have hx:l[i]?=some l[i]:=an E;have hy:c[i]?=some c[i]:=an K;have eu:=hs _ (Zs E);obtain⟨k1,k2,k3⟩:=b7 _ (Zs K);have cv:=YH l[i].js l[i].ms c[i].1 c[i].2 eu.js eu.ms (by omega) k2 k3;have ee:=E3 (bs:=bs) (D:=(d:Int)) hx hy;have ec:=E5 hM hx hy;generalize cb:l[i]=s at *;generalize cc:c[i]=q at *;obtain⟨P,es⟩:=q;obtain⟨s1,s2,s3,s4⟩:=s;simp only at cv ee ec
  cases hv:lq s1 s2 P es with
  |false=>
   rw[hv]at cv;rw[mi (ee hv)];exact GS (zAe g0 g1 g2 g3 a6 cd cf M E K hx hy cb cc @bn.eq_1)
  |true=>
   rw[hv]at cv;have hT:=ec hv;exact GS (zAe g0 g1 g2 g3 a6 cd cf M E K hx hy cb cc (be @bn.eq_1 hw hT))
 have cz:i=l.length:=by omega
 subst cz
 have hR:A6 l bs c d=if(xe l bs c d).length<=4096 then .tup [.sl ((xe l bs c d).map bR),B true]else .tup [.sl [],B false]:=by
  unfold A6;rw[G9 h1 h2 (by omega) (by omega) hM,Zo];simp
 rw[hR];clear hR
 have fj:∀(i:Nat) q,c[i]?=some q->dc (bn q)=true/\q.1.length<=100:=λi q cB=>by
  have K:=(th.1 cB).1;have hx:l[i]?=some (l[i]'(by omega)):=an (by omega);exact⟨uf (o4 _ (Zs _)) (hM i _ q (by omega) hx cB),(b7 q (An cB)).1⟩
 have e3:=Qi (f:=ni l bs c d) o2 (Qh fj);have s0:xc (ni l bs c d) l.length 0=[]:=rfl;have s1:=E0 (ni l bs c d) l.length;have s2:=λi(h:i<=l.length)=>E2 (ni l bs c d) l.length h;unfold xe;generalize hW:xc (ni l bs c d) l.length=W at *;clear hW
 have ht:TmOk ⟨c.map bn,[]⟩:=by
  refine⟨λ_ _ _ _=>trivial,by simpa using hq,by simp,λm hm=>?_,λm hm=>?_⟩
  .obtain⟨q,cD,rfl⟩:=Zv.1 hm
   have:=(b7 q cD).1;simp[bn];omega
  .obtain⟨q,cD,rfl⟩:=Zv.1 hm
   exact(b7 q cD).2.1
 refine ki [14] (zAb g0 g1 g2 g3 a6 cd cf (gA M E)) ?_;refine WP.loopN [17] l.length (λi st=>st.t 0=.pv (.sl (l.map aN))/\st.t 1=.pv (aw bs)/\st.t 2=.pv (gl c)/\st.t 3=.pv (Z (d:Int))/\st.t 13=.ptr 13 0/\st.h 13=some (.box [.pv (gl c),.pv (.val (.slice none 0 0))] true false)/\st.h 17=none/\st.t 14=.arr 14 (W i).length/\st.h 14=some (.row 89 6 ((W i).map bR) 0)/\st.t 15=.pv (Z i)) (by simp[s0, *]) ?_;clear g0 g1 g2 g3 a6 cd cf M E st;rintro i st hi ⟨g0,g1,g2,g3,I,H,M,G,F,J⟩;by_cases E:i<l.length
 case neg=>
  have cz:i=l.length:=by omega
  subst cz;by_cases ea:(W l.length).length<=4096
  .rw[Zd ea]
   have eb:¬(4096:Int)<(W l.length).length:=by omega
   exact Gy
  .rw[Y6 ea]
   have eb:(4096:Int)<(W l.length).length:=by omega
   exact Gy
 have hw:=ab E hl;obtain⟨R,hR⟩:∃R:Nat->List Cf,R=λj=>W i++v8 (ni l bs c d) i j:=⟨_,rfl⟩
 have r0:R 0=W i:=by rw[hR];simp[v8]
 have r1:R (l.length-(i+1))=W (i+1):=by rw[hR,s1]
 have r2:∀j,R (j+1)=R j++ni l bs c d i (i+1+j):=λj=>by rw[hR];simp only;rw[EZ,yAd]
 have r4:∀j,j<=l.length-(i+1)->(R j).length<=1600000000:=λj hj=>by
  refine yAG ?_ e3;refine yAG ?_ (s2 (i+1) (by omega));rw[hR,s1];simp only[Zq];have:=E1 (ni l bs c d) i hj;omega
 clear hR;have hx:l[i]?=some l[i]:=an E;refine Gz ?_;refine WP.loopN [17] (l.length-(i+1)) (λj st=>st.t 0=.pv (.sl (l.map aN))/\st.t 1=.pv (aw bs)/\st.t 2=.pv (gl c)/\st.t 3=.pv (Z (d:Int))/\st.t 13=.ptr 13 0/\st.h 13=some (.box [.pv (gl c),.pv (.val (.slice none 0 0))] true false)/\st.h 17=none/\st.t 14=.arr 14 (R j).length/\st.h 14=some (.row 89 6 ((R j).map bR) 0)/\st.t 15=.pv (Z i)/\st.t 16=.pv (Z ((i+1+j:Nat):Int))) (by simp[r0, *]) ?_;clear g0 g1 g2 g3 I H M G F J st;rintro j st hj ⟨g0,g1,g2,g3,I,H,M,G,F,J,Q⟩;by_cases O:i+1+j<l.length
 case neg=>
  have e8:j=l.length-(i+1):=by omega
  subst e8;rw[r1]at G F
  have fM:¬((i+1+(l.length-(i+1)):Nat):Int)<l.length:=by omega
  generalize i+1+(l.length-(i+1))=b at *;exact Gy
 have q2:=r2 j;have q4:=r4 (j+1) (by omega)
 have fa:i+1+(j+1)=i+1+j+1:=by omega
 have gy:j+1<=l.length-(i+1):=by omega
 have e5:i<i+1+j:=by omega
 rw[fa];generalize i+1+j=b at *;have ha:=ab O hl;have hy:l[b]?=some l[b]:=an O
 have dd:i<bs.length:=by omega
 have b3:b<bs.length:=by omega
 have cM:i<c.length:=by omega
 have cN:b<c.length:=by omega
 have cx:bs[i]?=some bs[i]:=an dd
 have cu:bs[b]?=some bs[b]:=an b3
 have ah:c[i]?=some c[i]:=an cM;have ad:c[b]?=some c[b]:=an cN;have hE:=Hj h1 hx cx hy cu e5;rw[JR hx hy cx cu ah ad]at q2;have eE:=o4 _ (Zs E);have eL:=o4 _ (Zs O);have gL:=hs _ (Zs E);have gN:=hs _ (Zs O);have aj:=hM i _ _ E hx ah;have ak:=hM b _ _ O hy ad;generalize cb:l[i]=s at *;generalize cc:l[b]=t at *;generalize c9:bs[i]=x at *;generalize c8:bs[b]=y at *;generalize ch:c[i]=m at *;generalize cg:c[b]=n at *;obtain⟨g,e1⟩:=m;obtain⟨o,e2⟩:=n;simp only at aj ak q2;have w1:=uf eE aj;have w2:=uf eL ak;have z1:∀x∈io (bn (g,e1)) i,MvIn g x:=A7 (q:=(g,e1)) w1 i;have z2:∀x∈io (bn (o,e2)) b,MvIn o x:=A7 (q:=(o,e2)) w2 b;have y1:=rx (q:=(g,e1)) w1 i;have y2:=rx (q:=(o,e2)) w2 b;have p1:=(j0 aj).1;have p2:=(j0 ak).1;have u1:g.length*g.length<=1024*1024:=yAp p1 p1;have u2:o.length*o.length<=1024*1024:=yAp p2 p2;have lu:(io (bn (g,e1)) i).length<=1048576:=yAG y1 u1;have lv:(io (bn (o,e2)) b).length<=1048576:=yAG y2 u2;have eW:=(EY hE).1
 have e0:ScL (iy [s,t] [x,y]):=by
  unfold iy;rw[Zd hE];exact(Be (l:=[s,t]) (bs:=[x,y]) (by intro z hz;simp at hz;rcases hz with rfl|rfl<;>assumption) 2).L (by omega)
 have ct:=Tn [s,t] [x,y] (by intro z hz;simp at hz;rcases hz with rfl|rfl<;>assumption) (by simp) (by simp);have dn:∀p∈g,∀q∈o,aY (iy [s,t] [x,y]).js (iy [s,t] [x,y]).ms (p++q)=true:=λp hp q hq=>Db hE (lN (j0 aj).2.2.1 p hp) (lN (j0 ak).2.2.1 q hq);have cX:=Th ⟨c.map bn,[]⟩ ht i (bn (g,e1)) (by simp[ah]) w1;have c5:=Th ⟨c.map bn,[]⟩ ht b (bn (o,e2)) (by simp[ad]) w2;rw[hE]at ct;clear y1 y2 u1 u2 p1 p2 w1 w2 aj ak hE;generalize iy [s,t] [x,y]=A at *;generalize io (bn (g,e1)) i=us at *;generalize io (bn (o,e2)) b=N at *;have eB:aF 15 (.sl [aN s,aN t]) (.sl [al x,al y]) (.tup [aN A,Z 0]):=ct
 have he:(c.map bn).map bf=c.map λq=>bf (bn q):=by rw[List.map_map];rfl
 have ez:aF 60 (.agg [gl c,.sl []]) (Z i) (.sl (us.map bQ)):=by rw[gl,<-he];exact cX
 have eA:aF 60 (.agg [gl c,.sl []]) (Z b) (.sl (N.map bQ)):=by rw[gl,<-he];exact c5
 clear ct cX c5;refine Gz ?_;obtain⟨S,hS⟩:∃S:Nat->List Cf,S=λp=>R j++gT A d g o (us.take p) N:=⟨_,rfl⟩
 have a0:S 0=R j:=by rw[hS];simp[gT]
 have a1:S us.length=R (j+1):=by rw[hS,q2];simp only;rw[yAS]
 have a2:∀p x,us[p]?=some x->S (p+1)=S p++jy A d g o x N:=λp x h=>by rw[hS];simp only;rw[A3 h,yAd]
 have a3:∀p,(S p).length<=1600000000:=λp=>by
  refine yAG ?_ q4;rw[hS,q2];simp only[Zq];have:=A5 (A:=A) (D:=d) (Pa:=g) (Pb:=o) (us:=us) (bs:=N) p;omega
 clear hS q2 q4 eB ez eA hx hy cb cc cx cu c9 c8 dd b3
 refine WP.loopN [] us.length (λp st=>st.t 0=.pv (.sl (l.map aN))/\st.t 1=.pv (aw bs)/\st.t 2=.pv (gl c)/\st.t 3=.pv (Z (d:Int))/\st.t 13=.ptr 13 0/\st.h 13=some (.box [.pv (gl c),.pv (.val (.slice none 0 0))] true false)/\st.t 17=.ptr 17 0/\st.h 17=some (.box [.pv (.sl (A.js.map aO)),.pv (.sl (A.ms.map aX)),.pv (.sl (A.shs.map aZ)),.pv (.sl (A.sks.map aJ))] true false)/\st.t 15=.pv (Z i)/\st.t 16=.pv (Z b)/\st.t 19=.pv (.sl (us.map bQ))/\st.t 20=.pv (.sl (N.map bQ))/\st.t 21=.pv (Z p)/\st.t 14=.arr 14 (S p).length/\st.h 14=some (.row 89 6 ((S p).map bR) 0)) (by simp[a0, *]) ?_;clear g0 g1 g2 g3 I H M G F J Q st;rintro p st hp ⟨g0,g1,g2,g3,I,H,a7,ar,J,Q,a8,bq,b2,G,F⟩;by_cases Y:p<us.length
 case neg=>
  have fi:p=us.length:=by omega
  subst fi;rw[a1]at G F;refine Gz ?_
  all_goals omega
 have hg:=ab Y (by omega);have cP:us[p]?=some us[p]:=an Y;have e4:=z1 _ (Zs Y);have t2:=a2 p _ cP;have t3:=a3 (p+1);generalize ck:us[p]=xm at *;obtain⟨U,hU⟩:∃U:Nat->List Cf,U=λk=>S p++jy A d g o xm (N.take k):=⟨_,rfl⟩
 have c0:U 0=S p:=by rw[hU];simp[jy]
 have c1:U N.length=S (p+1):=by rw[hU,t2];simp only;rw[yAS]
 have c2:∀k y,N[k]?=some y->oc A d g o xm y=true->U (k+1)=U k++[(xm,y)]:=λk y h h'=>by rw[hU];simp only;rw[qU h,Zd h',yAd]
 have c3:∀k y,N[k]?=some y->oc A d g o xm y=false->U (k+1)=U k:=λk y h h'=>by rw[hU];simp only;rw[qU h,Y6 (by rw[h'];decide)]
 have c4:∀k,(U k).length<=1600000000:=λk=>by
  refine yAG ?_ t3;rw[hU,t2];simp only[Zq];have:=A4 (A:=A) (D:=d) (Pa:=g) (Pb:=o) (x:=xm) (bs:=N) k;omega
 clear hU t2 t3;obtain⟨xa,xf,xt⟩:=xm;obtain⟨m0,m1,m2,m3⟩:=e4;simp only at m0 m1 m2 m3;obtain⟨u,rfl⟩:∃u:Nat,xf=u:=⟨xf.toNat,by omega⟩;obtain⟨v,rfl⟩:∃v:Nat,xt=v:=⟨xt.toNat,by omega⟩
 have b8:u<g.length:=by omega
 have ca:v<g.length:=by omega
 clear m0 m1 m2 m3;have cT:g[u]?=some g[u]:=an b8;have cU:g[v]?=some g[v]:=an ca;have e6:=dn _ (Zs b8);have e7:=dn _ (Zs ca)
 have ep:cO g (u:Int)=g[u]:=by rw[cO,Zo,cT];rfl
 have et:cO g (v:Int)=g[v]:=by rw[cO,Zo,cU];rfl
 have ef:∀y:Mov,oc A d g o ⟨xa,u,v⟩ y=decide ((oW A (g[u]++cO o y.f) (g[v]++cO o y.t) d).kind≠1):=λy=>by unfold oc;rw[ep,et]
 clear ep et;generalize cq:g[u]=pu at *;generalize cr:g[v]=pv at *;refine Gz ?_;refine WP.loopN [] N.length (λk st=>st.t 0=.pv (.sl (l.map aN))/\st.t 1=.pv (aw bs)/\st.t 2=.pv (gl c)/\st.t 3=.pv (Z (d:Int))/\st.t 13=.ptr 13 0/\st.h 13=some (.box [.pv (gl c),.pv (.val (.slice none 0 0))] true false)/\st.t 17=.ptr 17 0/\st.h 17=some (.box [.pv (.sl (A.js.map aO)),.pv (.sl (A.ms.map aX)),.pv (.sl (A.shs.map aZ)),.pv (.sl (A.sks.map aJ))] true false)/\st.t 15=.pv (Z i)/\st.t 16=.pv (Z b)/\st.t 19=.pv (.sl (us.map bQ))/\st.t 20=.pv (.sl (N.map bQ))/\st.t 21=.pv (Z p)/\st.t 22=.pv (Z k)/\st.t 14=.arr 14 (U k).length/\st.h 14=some (.row 89 6 ((U k).map bR) 0)) (by simp[c0, *]) ?_;clear g0 g1 g2 g3 I H a7 ar J Q a8 bq b2 G F st;rintro k0 st gK ⟨g0,g1,g2,g3,I,H,a7,ar,J,Q,a8,bq,b2,c7,G,F⟩;by_cases V:k0<N.length
 case neg=>
  have e9:k0=N.length:=by omega
  subst e9;rw[c1]at G F;exact Gy
 have hc:=ab V (by omega);have b9:N[k0]?=some N[k0]:=an V;have b3:=z2 _ (Zs V);have q2:=c2 k0 _ b9;have q3:=c3 k0 _ b9;have q4:=c4 k0;rw[ef]at q2 q3;generalize cm:N[k0]=ym at *;obtain⟨ya,yf,yt⟩:=ym
 obtain⟨m0,m1,m2,m3⟩:=b3
 simp only at m0 m1 m2 m3 q2 q3;obtain⟨k,rfl⟩:∃k:Nat,yf=k:=⟨yf.toNat,by omega⟩;obtain⟨m,rfl⟩:∃m:Nat,yt=m:=⟨yt.toNat,by omega⟩
 have b4:k<o.length:=by omega
 have b5:m<o.length:=by omega
 clear m0 m1 m2 m3;have cQ:o[k]?=some o[k]:=an b4;have cS:o[m]?=some o[m]:=an b5;have di:=e6 _ (Zs b4);have dj:=e7 _ (Zs b5)
 have ei:cO o (k:Int)=o[k]:=by rw[cO,Zo,cQ];rfl
 have ej:cO o (m:Int)=o[m]:=by rw[cO,Zo,cS];rfl
 rw[ei,ej]at q2 q3;clear ei ej;generalize cn:o[k]=T at *;generalize cp:o[m]=pm at *;have l1:=(lM di).2.2;have l2:=(lM dj).2.2;have cE:=TB A (pu++T) (pv++pm) d e0 eW di dj (by omega) (by omega) hd
 have k1:aR 16 (.sl [zs pu,zs T]) (zs (pu++T)):=by
  have h9:=Tl [pu,T] (by simp) (by simp only[List.flatten_cons,List.flatten_nil,yAX];omega);simpa only[yAf,yBk,List.flatten_cons,List.flatten_nil,yAX]using h9
 have k2:aR 16 (.sl [zs pv,zs pm]) (zs (pv++pm)):=by
  have h9:=Tl [pv,pm] (by simp) (by simp only[List.flatten_cons,List.flatten_nil,yAX];omega);simpa only[yAf,yBk,List.flatten_cons,List.flatten_nil,yAX]using h9
 generalize oW A (pu++T) (pv++pm) d=r at *;obtain⟨rk,fl,fm,fr,cV⟩:=r;simp only at q2 q3;generalize pu++T=w1 at *;generalize pv++pm=w2 at *
 with_reducible repeat' (first|refine Sp.h ?_|((with_unfolding_all refine WP.fldAt (hn:=[]) 5 rfl rfl rfl ?_);simp -implicitDefEqProofs (maxSteps:=2000000) [hP,hN,g0,g1,g2,g3,I,H,a7,ar,J,Q,a8,bq,b2,G,F,c7,V,Y,cP,ck,b9,cm,E,O,cM,cN,ah,ch,ad,cg,bn,b8,ca,cT,cU,cq,cr,b4,b5,cQ,cS,cn,cp])|((first|refine Wd ?_|refine Ss.h ?_|refine Sc.h (k1) ?_|refine Sc.h (k2) ?_|refine Sc.h (cE) ?_|(refine Sb.h ?_ ?_ ?_<;>(try intro hgd)<;>try exact Xy))<;>simp -implicitDefEqProofs (maxSteps:=2000000) [hP,hN,g0,g1,g2,g3,I,H,a7,ar,J,Q,a8,bq,b2,G,F,c7,V,Y,cP,ck,b9,cm,E,O,cM,cN,ah,ch,ad,cg,bn,b8,ca,cT,cU,cq,cr,b4,b5,cQ,cS,cn,cp]<;>try refine Ya ?_)|refine X2 ?_ ?_|(refine Xd ?_ ?_<;>intro hcd<;>try exact Xx))
 refine⟨0,1,[Z rk,.sl (fl.map jz),Z fm,Z fr,.sl [],Z cV.pair,zs cV.a,zs cV.b],.int .i64 rk,by rw[hP];exact Qg,by simp,rfl,by rw[hN];kernel_rfl,?_⟩;by_cases hk:rk=1
 .have q5:=q3 (by simp[hk])
  subst hk;rw[<-q5]at F G;simp -implicitDefEqProofs (maxSteps:=2000000) [hP,hN];exact Gy
 have q5:=q2 (by simp[hk])
 have gI:(rk !=1)=true:=by simp[hk]
 simp -implicitDefEqProofs (maxSteps:=2000000) [hP,hN]
 have q7:((U k0).length+1)*48<=140737488355328:=by omega
 have q8:(U k0).length+1<=9223372036854775807:=by omega
 exact Gy
theorem KE(a b c d e f:Int):ag prog (Op.equalIn 9999 87 (.agg #[.int .i64 a,.int .i64 b,.int .i64 c]) (.agg #[.int .i64 d,.int .i64 e,.int .i64 f]))=some (a==d&&(b==e&&c==f)):=by
 have hf:(prog.fieldsOf 87).toList=[(prog.fieldsOf 87)[0]!,(prog.fieldsOf 87)[1]!,(prog.fieldsOf 87)[2]!]:=by kernel_rfl
 show ag prog (Op.equalIn (9998+1) 87 _ _)=_;rw[p9 9998 87 _ _ (by kernel_rfl) (by kernel_rfl),hf]
 have h:=iX (P:=prog) (d:=9998) (xs:=#[.int .i64 a,.int .i64 b,.int .i64 c]) (ys:=#[.int .i64 d,.int .i64 e,.int .i64 f]) (f:=(prog.fieldsOf 87)[0]!) (fs:=[(prog.fieldsOf 87)[1]!,(prog.fieldsOf 87)[2]!]) (a:=.int .i64 a) (b:=.int .i64 d) (by decide +kernel) (by kernel_rfl) (by kernel_rfl) (kQ 9997 _ .i64 .i64 a d (by kernel_rfl))
  (iX (by decide +kernel) (a:=.int .i64 b) (b:=.int .i64 e) (by kernel_rfl) (by kernel_rfl) (kQ 9997 _ .i64 .i64 b e (by kernel_rfl)) (iX (by decide +kernel) (a:=.int .i64 c) (b:=.int .i64 f) (by kernel_rfl) (by kernel_rfl) (kQ 9997 _ .i64 .i64 c f (by kernel_rfl)) wR))
 rw[h];simp
theorem WL(a b c d e f:Int):ag prog (Op.equal 89 (.agg #[.int .i64 a,.int .i64 b,.int .i64 c,.int .i64 d,.int .i64 e,.int .i64 f]) (.agg #[.int .i64 a,.int .i64 b,.int .i64 c,.int .i64 d,.int .i64 e,.int .i64 f]))=some true:=by
 have hf:(prog.fieldsOf 89).toList=[(prog.fieldsOf 89)[0]!,(prog.fieldsOf 89)[1]!]:=by kernel_rfl
 show ag prog (Op.equalIn (9999+1) 89 _ _)=_;rw[p9 9999 89 _ _ (by kernel_rfl) (by kernel_rfl),hf]
 have h:=iX (P:=prog) (d:=9999) (xs:=#[.int .i64 a,.int .i64 b,.int .i64 c,.int .i64 d,.int .i64 e,.int .i64 f]) (ys:=#[.int .i64 a,.int .i64 b,.int .i64 c,.int .i64 d,.int .i64 e,.int .i64 f]) (f:=(prog.fieldsOf 89)[0]!) (fs:=[(prog.fieldsOf 89)[1]!]) (a:=.agg #[.int .i64 a,.int .i64 b,.int .i64 c]) (b:=.agg #[.int .i64 a,.int .i64 b,.int .i64 c]) (by decide +kernel) (by kernel_rfl) (by kernel_rfl) (KE a b c a b c)
  (iX (by decide +kernel) (a:=.agg #[.int .i64 d,.int .i64 e,.int .i64 f]) (b:=.agg #[.int .i64 d,.int .i64 e,.int .i64 f]) (by kernel_rfl) (by kernel_rfl) (KE d e f d e f) wR)
 rw[h];simp
def KF(x:AV):Option (Int×Int×Int×Int×Int×Int):=match x with
 |.pv (.val (.agg g))=>match g.toList with
  |[.int .i64 a,.int .i64 b,.int .i64 c,.int .i64 d,.int .i64 e,.int .i64 f]=>some (a,b,c,d,e,f)
  |_=>none
 |_=>none
theorem F7{x:AV}{c d e f:Int}(h:KF x=some (a,b,c,d,e,f)):x=.pv (.val (.agg #[.int .i64 a,.int .i64 b,.int .i64 c,.int .i64 d,.int .i64 e,.int .i64 f])):=by
 unfold KF at h;split at h
 .split at h
  .rename_i i _ j k l m n o g
   simp only[Za,Zl]at h;obtain⟨rfl,rfl,rfl,rfl,rfl,rfl⟩:=h;rw[<-Array.toArray_toList (xs:=i),g]
  .cases h
 .cases h
def DY(x y:AV)(fb:Option bG):Option bG:=match KF x,KF y with
 |some u,some v=>if u=v then some (.pv (.val (.bool false)),[])else fb
 |_,_=>fb
@[simp] theorem SQ(a b c d e f:Int)(fb:Option bG):DY (.pv (.val (.agg #[.int .i64 a,.int .i64 b,.int .i64 c,.int .i64 d,.int .i64 e,.int .i64 f]))) (.pv (.val (.agg #[.int .i64 a,.int .i64 b,.int .i64 c,.int .i64 d,.int .i64 e,.int .i64 f]))) fb=some (.pv (.val (.bool false)),[]):=by
 simp[DY,KF]
@[simp] theorem Y5{dst:Option Nat}{ty:TypeId}{pos:String}{aft:Array Edge}{g:Option (Nat×Bool)}{ρ:Operand->AV}(x y:Operand):
 aU prog ⟨dst,.binOp .neq 89 x y 89,ty,pos,aft,g⟩ ρ=DY (ρ x) (ρ y) (jH prog ⟨dst,.binOp .neq 89 x y 89,ty,pos,aft,g⟩ ρ):=by
 unfold DY;split
 .rename_i u v i j
  split
  .rename_i e
   subst e;obtain⟨a,b,c,d,e,f⟩:=u;exact AM rfl (F7 i) (F7 j) (by kernel_rfl) (WL a b c d e f)
  .rfl
 .rfl
theorem KG(L:List Cf)(hL:L.length<=4096):aF 28 (.sl (L.map bR)) (.sl (L.map bR)) (B true):=by
 refine Dp func28 λC hP hN=>?_;refine Gz ?_;refine WP.loopN [] L.length (λi st=>st.t 0=.pv (.sl (L.map bR))/\st.t 1=.pv (.sl (L.map bR))/\st.t 5=.pv (Z i)) (by simp) ?_;rintro i st hi ⟨g0,g1,g5⟩;by_cases g:i<L.length
 .have k:=ab g (by omega)
  have l:L[i]?=some L[i]:=an g;generalize j:L[i]=x at *;obtain⟨⟨a,b,c⟩,⟨d,e,f⟩⟩:=x;exact Gy
 .skip
  exact Gy
theorem NS(l:List Sce)(bs:List Vc)(a:List ga)(D:Int)(hs:∀s∈l,ScL s)(f:l.length<=9223372036854775807)(e:bs.length<=9223372036854775807)(hq:a.length<=9223372036854775807)(b:∀q∈a,q.1.length<=100/\q.2.length<=9223372036854775807/\∀x∈q.1,x.length<=9223372036854775807):lR 10 (.sl (l.map aN)) (aw bs) (gl a) (Z D) (B true):=by
 have c1:=Xq l bs a D hs f e hq (λq h=>⟨by have:=(b q h).1;omega,(b q h).2⟩);have c:=Xr l bs a D hs f e hq b;unfold A6 at c1 c;by_cases h:j4 l bs a D=true/\(xe l bs a D.toNat).length<=4096
 .rw[Zd h]at c1 c
  have d:=KG (xe l bs a D.toNat) h.2;generalize xe l bs a D.toNat=L at *;refine Dp func10 λC hP hN=>?_;exact Gy
 .rw[Y6 h]at c1 c
  have d:=KG [] (by simp);simp only[yBk]at d;refine Dp func10 λC hP hN=>?_;exact Gy
def RM(s:Sce):Bool:=decide ((s.js.length:Int)<=4)&&decide ((s.ms.length:Int)<=6)&&decide ((s.shs.length:Int)<=6)&&decide ((s.sks.length:Int)<=8)
theorem d6(s:Sce):aR 6 (aN s) (B (RM s)):=by
 unfold RM;refine Dp func6 λC hP hN=>?_;exact Gy
 all_goals (simp_all<;>omega)
def bl(n:Nat)(f:Nat->Bool):List PV:=(List.range n).map λx=>B (f x)
@[simp] theorem oM(n:Nat)(f:Nat->Bool):(bl n f).length=n:=by simp[bl]
theorem Bp{x:Nat}(f:Nat->Bool)(h:x<n):(bl n f)[x]?=some (B (f x)):=by simp[bl,h]
theorem lc{f:Nat->Bool}(h:∀x,x<n->f x=g x):bl n f=bl n g:=List.map_congr_left λx a=>by rw[h x (ZL.1 a)]
theorem yQ(n:Nat):List.replicate n (B false)=bl n λ_=>false:=by simp[bl,List.map_const']
theorem Bq{u:Nat}{f:Nat->Bool}{b:Bool}(i:u<n)(h1:g u=b)(d:∀x,x<n->x≠u->g x=f x):(bl n f).set u (B b)=bl n g:=by
 apply ZM;intro w;rw[Zg];simp only[oM];by_cases a:w<n
 .by_cases e:u=w
  .subst e;simp[bl,a,h1]
  .simp[bl,a,e,d w a (λc=>e c.symm)]
 .by_cases e:u=w
  .subst e;simp[bl,a]
  .simp[bl,a,e]
theorem Tx(p:Int->Bool)(xs:List Int)(g:FuncId)(x1 x2 x3 x4:PV)(f:xs.length<=9223372036854775807)(d:∀c∈xs,aW prog g [.pv (Z c),.pv (.rptr x1 0),.pv (.rptr x2 0),.pv (.rptr x3 0),.pv (.rptr x4 0)] [] [] (.pv (B (p c)))):aF 77 (zs xs) (.fn (.func g) [] [.rptr x1 0,.rptr x2 0,.rptr x3 0,.rptr x4 0]) (Z (oP p xs)):=by
 refine Dp func77 λC hP hN=>?_;refine Gz ?_;refine WP.loopN [] xs.length (λi st=>st.t 0=.pv (zs xs)/\st.t 1=.pv (.fn (.func g) [] [.rptr x1 0,.rptr x2 0,.rptr x3 0,.rptr x4 0])/\st.t 7=.pv (Z xs.length)/\st.t 8=.pv (Z i)/\oK p xs i) (by simp[qm]) ?_;rintro i st hi ⟨g0,g1,l,m,hq⟩;by_cases a:i<xs.length
 .have n:=ab a f
  have hn:=sE a hq;have e:=CD a hq;have b:=d _ (Zs a);generalize j:xs[i]=c at *
  have k:xs[i]?=some c:=by rw[an a,j]
  generalize oP p xs=r at *
  cases hp:p c with
  |true=>
   rw[hp]at b;rw[e hp];exact Gy
  |false=>
   rw[hp]at b;exact Gy
   all_goals exact hn hp
 .rw[CE a hq]
  exact Gy
theorem WE(p:Int->Bool)(xs:List Int)(g:FuncId)(x1 x2 x3 x4:PV)(b:xs.length<=9223372036854775807)(a:∀c∈xs,aW prog g [.pv (Z c),.pv (.rptr x1 0),.pv (.rptr x2 0),.pv (.rptr x3 0),.pv (.rptr x4 0)] [] [] (.pv (B (p c)))):aF 126 (zs xs) (.fn (.func g) [] [.rptr x1 0,.rptr x2 0,.rptr x3 0,.rptr x4 0]) (B (xs.any p)):=by
 have d:=Tx p xs g x1 x2 x3 x4 b a;rw[<-CF];refine Dp func126 λC hP hN=>?_;exact Gy
abbrev FW(a:PV)(start goal T:Int)(g:FuncId)(x:PV):PV:=.agg [a,Z start,Z goal,Z T,.fn (.func g) [] [.rptr x 0]]
theorem WF(rows row:List PV)(i v:Nat)(u:Int)(a:PV)(start goal T:Int)(g:FuncId)(x:PV)(b1 c:Bool)(hi:i<=1000000)(h1:rows[i+1]?=some (.sl row))(n:0<=u)(b:row[u.toNat]?=some (B b1))(d:b1=true->aW prog g [.pv (Z i),.pv (Z v),.pv (Z u),.pv (.rptr x 0)] [] [] (.pv (B c))):wo 127 (Z u) (.rptr (.sl rows) 0) (.rptr (Z i) 0) (.rptr (FW a start goal T g x) 0) (.rptr (Z v) 0) (B (b1&&c)):=by
 obtain⟨k,rfl⟩:∃k:Nat,u=k:=⟨u.toNat,by omega⟩;rw[Zo]at b;obtain⟨j,f⟩:∃j,i+1=j:=⟨_,rfl⟩
 have o:i64.wrap ((i:Int)+1)=(j:Int):=by rw[IntKind.wrap_i64];omega
 rw[f]at h1;have p:=(th.1 h1).1;have l:=(th.1 h1).2;have q:=(th.1 b).1;have m:=(th.1 b).2;refine Dp func127 λC hP hN=>?_
 cases b1 with
 |true=>
  have e:=d rfl;exact Gy
 |false=>
  exact Gy
theorem XX(rows row:List PV)(i v:Nat)(u:Int)(a:PV)(start goal T:Int)(g:FuncId)(x:PV)(b1 c:Bool)(hi:i<=1000000)(h1:rows[i+1]?=some (.sl row))(n:0<=u)(b:row[u.toNat]?=some (B b1))(d:b1=true->aW prog g [.pv (Z i),.pv (Z v),.pv (Z u),.pv (.rptr x 0)] [] [] (.pv (B c))):wo 78 (Z u) (.rptr (.sl rows) 0) (.rptr (Z i) 0) (.rptr (FW a start goal T g x) 0) (.rptr (Z v) 0) (B (b1&&c)):=by
 obtain⟨k,rfl⟩:∃k:Nat,u=k:=⟨u.toNat,by omega⟩;rw[Zo]at b;obtain⟨j,f⟩:∃j,i+1=j:=⟨_,rfl⟩
 have o:i64.wrap ((i:Int)+1)=(j:Int):=by rw[IntKind.wrap_i64];omega
 rw[f]at h1;have p:=(th.1 h1).1;have l:=(th.1 h1).2;have q:=(th.1 b).1;have m:=(th.1 b).2;refine Dp func78 λC hP hN=>?_
 cases b1 with
 |true=>
  have e:=d rfl;exact Gy
 |false=>
  exact Gy
def fV(r:Nat->Bool)(lg p:Nat->Nat->Bool)(v x:Nat):Bool:=(List.range v).any λu=>r u&&lg u x&&p u x
def fT(r:Nat->Bool)(lg p:Nat->Nat->Bool)(a:List Nat)(v j x:Nat):Bool:=fV r lg p v x||(a.take j).any λu=>u==x&&p v x
theorem HJ(r:Nat->Bool)(lg p:Nat->Nat->Bool)(v x:Nat):fV r lg p (v+1) x=(fV r lg p v x||(r v&&lg v x&&p v x)):=by
 simp[fV,yAs,List.any_append]
theorem O2(r:Nat->Bool)(lg p:Nat->Nat->Bool)(a:List Nat)(v x:Nat):fT r lg p a v 0 x=fV r lg p v x:=by simp[fT]
theorem O3(r:Nat->Bool)(lg p:Nat->Nat->Bool){a:List Nat}{j:Nat}(x:Nat)(b:j<a.length):fT r lg p a v (j+1) x=(fT r lg p a v j x||(a[j]==x&&p v x)):=by
 simp only[fT,ZR b,List.any_append,List.any_cons,List.any_nil,Bool.or_false,Bool.or_assoc]
theorem Ry{r:Nat->Bool}{p:Nat->Nat->Bool}{x:Nat}(c:r v=true)(d:x<n):fT r lg p (gi lg n v) v (gi lg n v).length x=fV r lg p (v+1) x:=by
 rw[HJ,c,fT,yAS,Zu]
 congr 1
 rw[Bool.eq_iff_iff];simp only[yAT,gi,yAa,ZL,up,ZW];constructor
 .rintro⟨u,⟨h1,a⟩,rfl,b⟩;exact⟨a,b⟩
 .rintro⟨h1,a⟩;exact⟨x,⟨d,h1⟩,rfl,a⟩
theorem Rz{j:Nat}(h:j<(gi lg n v).length):(gi lg n v)[j]<n:=by
 have:=Zs h;simp only[gi,yAa,ZL]at this;exact this.1
theorem Cz(lg:Nat->Nat->Bool)(n v:Nat):(gi lg n v).length<=n:=by
 have:=yBb (lg v) (List.range n);simpa[gi]using this
abbrev Br(n:Nat)(f:Nat->Nat->Bool)(N:Nat):PV:=.sl ((List.range N).map λi=>.sl (bl n (f i)))
def lP(n:Nat)(f:Nat->Nat->Bool)(i N:Nat):List AV:=(List.range N).map λw=>if w<i then .pv (.sl (bl n (f w)))else fY
@[simp] theorem CA(n:Nat)(f:Nat->Nat->Bool)(i N:Nat):(lP n f i N).length=N:=by simp[lP]
theorem Mn(n:Nat)(f:Nat->Nat->Bool)(N:Nat):List.replicate N fY=lP n f 0 N:=by simp[lP,List.map_const']
theorem RC{w:Nat}(h:w<i)(hN:w<N):(lP n f i N)[w]?=some (.pv (.sl (bl n (f w)))):=by simp[lP,hN,h]
theorem FX(x:AV):((lP n f i N).set i x).set i (.pv (.sl (bl n (f i))))=lP n f (i+1) N:=by
 rw[List.set_set];apply ZM;intro w;rw[Zg];simp only[CA];by_cases a:w<N
 .by_cases e:i=w
  .subst e;simp[lP,a]
  .simp[lP,a,e,show(w<i+1↔w<i) by omega]
 .by_cases e:i=w
  .subst e;simp[lP,a]
  .simp[lP,a,e]
theorem Ad(ks:List Nat)(n:Nat)(f:Nat->Nat->Bool)(i N:Nat):(lP n f i N).map (dK ks)=lP n f i N:=by
 unfold lP;rw[List.map_map];refine List.map_congr_left λw _=>?_;simp only[Function.comp];split<;>simp[oZ,fw]
theorem O4(n:Nat)(f:Nat->Nat->Bool)(N:Nat):lP n f N N=((List.range N).map λi=>AV.pv (.sl (bl n (f i)))):=by
 unfold lP;refine List.map_congr_left λw a=>?_;rw[Zd (ZL.1 a)]
theorem Ae(h:Hp)(f:Nat->List PV):∀l:List Nat,dZ h (l.map λv=>AV.pv (.sl (f v)))=some (l.map λv=>.sl (f v),[])
 |[]=>rfl
 |v::l=>by
  have:=Ae h f l;simp only[yAf,dZ,iT,norm,this,yAX]
theorem XY(n:Nat)(lg:Nat->Nat->Bool)(ps:Nat->Nat->Nat->Bool)(ns:List PV)(start:Nat)(goal:Int)(T:Nat)(g:FuncId)(x:PV)(hn:ns.length=n)(ch:∀v,v<n->ns[v]?=some (zs ((gi lg n v).map λu=>((u:Nat):Int))))(cr:n<=1024)(hT:T<=64)(hs:start<n)(hg:∀i v u,i<T->v<n->u<n->aW prog g [.pv (Z i),.pv (Z v),.pv (Z u),.pv (.rptr x 0)] [] [] (.pv (B (ps i v u)))):aR 75 (FW (.sl ns) start goal T g x) (Br n (wm n lg ps start) (T+1)):=by
 obtain⟨M,hM⟩:∃M,M=T+1:=⟨_,rfl⟩;obtain⟨f,hf⟩:∃f,f=wm n lg ps start:=⟨_,rfl⟩;rw[<-hM,<-hf]
 have b2:∀v,f 0 v=(v==start):=λv=>by rw[hf];rfl
 have ca:∀i v,f (i+1) v=fV (f i) lg (ps i) n v:=λi v=>by rw[hf];rfl
 have w0:i64.wrap ((T:Int)+1)=(M:Int):=by rw[IntKind.wrap_i64];omega
 have b8:0<M:=by omega
 refine Dp func75 λC hP hN=>?_;refine ki [1000012,17] (zAc hn w0 b8 hs (show 1<=M by omega) (show(M:Int)*24<=281474976710656 by omega) (show 24*(M:Int)<=281474976710656 by omega) (show(M:Int)<=9223372036854775807 by omega) (show(n:Int)<=281474976710656 by omega) (show(n:Int)<=9223372036854775807 by omega)) ?_
 have O:(List.replicate n (B false)).set start (B true)=bl n (f 0):=by
  rw[yQ];exact Bq hs (by simp[b2]) (λv _ hv=>by rw[b2];simpa using hv)
 have b9:(AV.arr 17 n::List.replicate (M-1) fY).set 0 (.pv (.sl (bl n (f 0))))=lP n f 1 M:=by
  rw[<-FX (i:=0) (.arr 17 n),<-Mn,<-Nat.sub_add_cancel (show 1<=M by omega),List.replicate_succ];rfl
 refine WP.freezeB 12 0 (k:=17) (xs:=bl n (f 0)) (cs:=.arr 17 n::List.replicate (M-1) fY) (e:=4) (sz:=1) (fz:=0) (own:=true) (fb:=false) (by simp) (by simp) (by simp[O]) ?_;rw[b9];refine WP.loopN [36] T (λi st=>st.t 1=.ptr 1 0/\st.h 1=some (.box [.pv (.sl ns),.pv (Z start),.pv (Z goal),.pv (Z T),.pv (.fn (.func g) [] [.rptr x 0])] true false)/\st.t 3=.ext (.barr 12 M M)/\st.t 26=.pv (Z T)/\st.t 27=.pv (Z i)/\st.h 12=some (.box (lP n f (i+1) M) true false)/\st.h 36=none) (by simp[Ad]) ?_;rintro i st hi ⟨g1,b1,g3,c,d,a,b⟩;by_cases V:i<T
 .have cp:=ab V (by omega)
  obtain⟨j,hj⟩:∃j,i+1=j:=⟨_,rfl⟩;obtain⟨cs,s⟩:∃cs,cs=lP n f j M:=⟨_,rfl⟩
  have ck:cs[i]?=some (.pv (.sl (bl n (f i)))):=by rw[s];exact RC (by omega) (by omega)
  have b7:∀h,cs[i]'h=.pv (.sl (bl n (f i))):=λh=>(th.1 ck).2;rw[hj,<-s]at a
  have K:cs.length=M:=by rw[s,CA]
  have N:j<M:=by omega
  have b4:j+1<=M:=by omega
  have U:(j:Int)<(M:Int):=by omega
  have cb:i<M:=by omega
  have cd:(i:Int)<(M:Int):=by omega
  have cf:¬j=i:=by omega
  have X:i64.wrap ((i:Int)+1)=(j:Int):=by rw[IntKind.wrap_i64];omega
  have cj:cs.take j++AV.arr 36 n::cs.drop (j+1)=cs.set j (.arr 36 n):=ik (by omega);refine ki [36] (zAe hn g1 b1 g3 c d a b V X K N b4 U (zAb cb cd cf ck b7 cj (show(n:Int)<=281474976710656 by omega) (show(n:Int)<=9223372036854775807 by omega))) ?_;obtain⟨J,L⟩:∃J,J=cs.set j (.arr 36 n):=⟨_,rfl⟩
  have aj:J.length=M:=by rw[L,yAt,K]
  have dj:J[j]?=some (.arr 36 n):=by rw[L];simp[K,N]
  have ah:∀h,J[j]'h=.arr 36 n:=λh=>(th.1 dj).2
  have A:J.map (dK [])=J:=by rw[L,yAz,s,Ad];rfl
  rw[<-L];refine WP.loopN [] n (λv st=>st.t 1=.ptr 1 0/\st.h 1=some (.box [.pv (.sl ns),.pv (Z start),.pv (Z goal),.pv (Z T),.pv (.fn (.func g) [] [.rptr x 0])] true false)/\st.t 3=.ext (.barr 12 M M)/\st.t 26=.pv (Z T)/\st.t 27=.pv (Z i)/\st.t 4=.pv (Z i)/\st.t 41=.pv (.sl (bl n (f i)))/\st.t 42=.pv (Z n)/\st.t 43=.pv (Z v)/\st.h 12=some (.box J true false)/\st.h 36=some (.row 4 1 (bl n (fV (f i) lg (ps i) v)) 0)) (by simp[A,g1,b1,g3,c,d,yQ];exact lc λ_ _=>rfl) ?_;clear g1 b1 g3 c d a b;rintro v st hv ⟨g1,b1,g3,c,d,g4,m,q,r,a,b⟩;by_cases F:v<n
  .have a8:=ab F (by omega)
   have o:=Bp (f i) F;have Y:=ch v F;have cv:=(th.1 Y).1;have cq:=(th.1 Y).2
   have W:v<(bl n (f i)).length:=by rw[oM];exact F
   have l:∀h,(bl n (f i))[v]'h=B (f i v):=λh=>(th.1 o).2
   cases hb:f i v with
   |false=>
    rw[hb]at o l;obtain⟨r0,O⟩:∃r0,r0=bl n (f i):=⟨_,rfl⟩;rw[<-O]at m o l W|-;rw[lc (g:=fV (f i) lg (ps i) (v+1)) (λx _=>by rw[HJ,hb];simp)]at b;exact GS (zAe g1 b1 g3 c d g4 m q r a b F a8 o (be l W A))
   |true=>
    rw[hb]at o l;obtain⟨r0,O⟩:∃r0,r0=bl n (f i):=⟨_,rfl⟩;rw[<-O]at m o l W|-;rw[lc (g:=fT (f i) lg (ps i) (gi lg n v) v 0) (λx _=>by rw[O2])]at b;rw[lc (f:=fV (f i) lg (ps i) (v+1)) (g:=fT (f i) lg (ps i) (gi lg n v) v (gi lg n v).length) (λx Y=>by rw[Ry hb Y])];have cu:=Cz lg n v;have cm:∀k(h:k<(gi lg n v).length),(gi lg n v)[k]<n:=λk h=>Rz h;generalize gi lg n v=p at *;refine GT (zAe hn g1 b1 g3 c d g4 m q r a b F a8 (so o l W A Y cq)) ?_;refine WP.loopN [] p.length (λk st=>st.t 1=.ptr 1 0/\st.h 1=some (.box [.pv (.sl ns),.pv (Z start),.pv (Z goal),.pv (Z T),.pv (.fn (.func g) [] [.rptr x 0])] true false)/\st.t 3=.ext (.barr 12 M M)/\st.t 26=.pv (Z T)/\st.t 27=.pv (Z i)/\st.t 4=.pv (Z i)/\st.t 41=.pv (.sl r0)/\st.t 42=.pv (Z n)/\st.t 43=.pv (Z v)/\st.t 5=.pv (Z v)/\st.t 54=.pv (zs (p.map λu=>((u:Nat):Int)))/\st.t 55=.pv (Z p.length)/\st.t 56=.pv (Z k)/\st.h 12=some (.box J true false)/\st.h 36=some (.row 4 1 (bl n (fT (f i) lg (ps i) p v k)) 0)) (by simp[A,g1,b1,g3,c,d,g4,m,q,r,a,b]) ?_;clear g1 b1 g3 c d g4 m q r a b;rintro k st hk ⟨g1,b1,g3,c,d,g4,m,q,r,g5,Q,R,S,a,b⟩;by_cases D:k<p.length
    .have a7:=ab D (by omega)
     have I:=cm k D;have y:=λx=>O3 (f i) lg (ps i) (v:=v) x D;have a6:p[k]?=some p[k]:=an D;generalize hu:p[k]=u at *;have b3:=hg i v u V F I;have H:=Bp (fT (f i) lg (ps i) p v k) I;have z:∀h,(bl n (fT (f i) lg (ps i) p v k))[u]'h=B (fT (f i) lg (ps i) p v k u):=λh=>(th.1 H).2
     cases hc:fT (f i) lg (ps i) p v k u with
     |true=>
      rw[hc]at H z
      have G:bl n (fT (f i) lg (ps i) p v (k+1))=bl n (fT (f i) lg (ps i) p v k):=lc λx _=>by
       rw[y];by_cases e:u=x
       .subst e;rw[hc];rfl
       .simp[e]
      rw[G];generalize P:bl n (fT (f i) lg (ps i) p v k)=r1 at *
      have E:r1.length=n:=by rw[<-P,oM]
      exact GS (zAe g1 b1 g3 c d g4 m q r g5 Q R S a (zAe b D a7 X a6 hu I aj dj ah N U E H (gA z A)))
     |false=>
      rw[hc]at H z
      cases hp:ps i v u with
      |true=>
       rw[hp]at b3;have b5:(bl n (fT (f i) lg (ps i) p v k)).set u (B true)=bl n (fT (f i) lg (ps i) p v (k+1)):=Bq I (by rw[y,hp];simp) (λx _ Y=>by rw[y];simp[show¬u=x from λe=>Y e.symm]);generalize ct:bl n (fT (f i) lg (ps i) p v (k+1))=r2 at *;generalize P:bl n (fT (f i) lg (ps i) p v k)=r1 at *
       have E:r1.length=n:=by rw[<-P,oM]
       exact GS (zAe g1 b1 g3 c d g4 m q r g5 Q R S a (zAe b D a7 X a6 hu I aj dj ah N U E H (be z A b5)))
      |false=>
       rw[hp]at b3
       have G:bl n (fT (f i) lg (ps i) p v (k+1))=bl n (fT (f i) lg (ps i) p v k):=lc λx _=>by
        rw[y];by_cases e:u=x
        .subst e;rw[hp];simp
        .simp[e]
       rw[G];generalize P:bl n (fT (f i) lg (ps i) p v k)=r1 at *
       have E:r1.length=n:=by rw[<-P,oM]
       exact GS (zAe g1 b1 g3 c d g4 m q r g5 Q R S a (zAe b D a7 X a6 hu I aj dj ah N U E H (gA z A)))
    .have cg:k=p.length:=by omega
     subst cg;exact GS (zAe g1 b1 g3 c d g4 m q r g5 Q R S a (go b D a8 A))
  .have cn:v=n:=by omega
   subst cn;rw[lc (g:=f j) (λx _=>by rw[<-hj,ca])]at b;refine WP.freezeB 12 j (k:=36) (xs:=bl v (f j)) (cs:=J) (e:=4) (sz:=1) (fz:=0) (own:=true) (fb:=false) a (by rw[dj,oM]) b ?_
   have bq:J.set j (.pv (.sl (bl v (f j))))=lP v f (j+1) M:=by rw[L,s];exact FX _
   rw[bq,hj];exact GS (zAd g1 b1 g3 c d g4 m q r F cp (gA hj @Ad))
 .have cc:i=T:=by omega
  subst cc;rw[<-hM]at a;obtain⟨cs,s⟩:∃cs,cs=lP n f M M:=⟨_,rfl⟩
  have hW:dZ st.h cs=some ((List.range M).map λi=>.sl (bl n (f i)),[]):=by rw[s,O4];exact Ae _ _ _
  have K:cs.length=M:=by rw[s,CA]
  obtain⟨qs,ar⟩:∃qs,qs=(List.range M).map λi=>PV.sl (bl n (f i)):=⟨_,rfl⟩
  have ad:qs.all jl=true:=by rw[ar,L4];intro x Y;obtain⟨v,_,rfl⟩:=Zv.1 Y;rfl
  rw[<-ar]at hW;rw[<-s]at a;rw[show Br n f M=.sl qs from by rw[ar]];have ak:=L4.1 ad;refine GT (zAc g1 b1 g3 c d a V hW K ad) ?_
  all_goals exact ak
theorem WP.forget{C:Cx}{c:Code}(ks:List Nat)(h:WP C c Q (st.kill ks)):WP C c Q st:=λa w b=>h a w (b.kill ks)
def jT(n:Nat)(f:Nat->Nat->Bool)(i N:Nat):List AV:=(List.range N).map λw=>if i<=w then .pv (.sl (bl n (f w)))else fY
@[simp] theorem yR(n:Nat)(f:Nat->Nat->Bool)(i N:Nat):(jT n f i N).length=N:=by simp[jT]
theorem Mo(n:Nat)(f:Nat->Nat->Bool)(N:Nat):List.replicate N fY=jT n f N N:=by
 unfold jT;apply ZM;intro w;by_cases a:w<N<;>simp[a,show¬N<=w↔w<N by omega]
theorem HK(x:AV):((jT n f (i+1) N).set i x).set i (.pv (.sl (bl n (f i))))=jT n f i N:=by
 rw[List.set_set];apply ZM;intro w;rw[Zg];simp only[yR];by_cases a:w<N
 .by_cases e:i=w
  .subst e;simp[jT,a]
  .simp[jT,a,e,show(i+1<=w↔i<=w) by omega]
 .by_cases e:i=w
  .subst e;simp[jT,a]
  .simp[jT,a,e]
theorem pG(ks:List Nat)(n:Nat)(f:Nat->Nat->Bool)(i N:Nat):(jT n f i N).map (dK ks)=jT n f i N:=by
 unfold jT;rw[List.map_map];refine List.map_congr_left λw _=>?_;simp only[Function.comp];split<;>simp[oZ,fw]
theorem Mp(n:Nat)(f:Nat->Nat->Bool)(N:Nat):jT n f 0 N=((List.range N).map λi=>AV.pv (.sl (bl n (f i)))):=by
 unfold jT;exact List.map_congr_left λw _=>Zd (ZV _)
def Du(n:Nat)(f:Nat->Nat->Bool)(i:Nat)(r:List PV)(w:Nat):List PV:=if w=i then r else if i<=w then bl n (f w)else[]
theorem RD{q:Nat->List PV}{w:Nat}(a:w<N):((List.range N).map λw=>PV.sl (q w))[w]?=some (.sl (q w)):=by simp[a]
theorem Dv{h:Hp}{f:Nat->AV}{g:Nat->PV}{i:Nat}{p:Nat×Blk}(hi:iT h (f i)=some (g i,[p]))(a:∀v,v≠i->iT h (f v)=some (g v,[])):∀(l:List Nat),l.Nodup->dZ h (l.map f)=some (l.map g,if i∈l then[p]else[])
 |[],_=>rfl
 |v::l,hn=>by
  rw[yBh]at hn;have ih:=Dv hi a l hn.2;by_cases e:v=i
  .subst e
   rw[Y6 hn.1]at ih;simp only[yAf,dZ,hi,ih];simp
  .simp only[yAf,dZ,a v e,ih,List.nil_append,Zx]
   simp[show¬i=v from λb=>e b.symm]
theorem Bt(n:Nat)(f:Nat->Nat->Bool)(i N k:Nat):(jT n f (i+1) N).set i (.arr k n)=(List.range N).map λw=>if w=i then .arr k n else if i<=w then .pv (.sl (bl n (f w)))else fY:=by
 apply ZM;intro w;rw[Zg];simp only[yR];by_cases a:w<N
 .by_cases e:i=w
  .subst e;simp[a]
  .simp[jT,a,e,show¬w=i from λb=>e b.symm,show(i+1<=w↔i<=w) by omega]
 .by_cases e:i=w
  .subst e;simp[a]
  .simp[jT,a,e]
theorem O5{r:List PV}{a sz fz:Nat}(c:r.length=n)(b:h k=some (.row a sz r fz))(hi:i<N):dZ h ((jT n f (i+1) N).set i (.arr k n))=some ((List.range N).map λw=>.sl (Du n f i r w),[(k,.row a sz r r.length)]):=by
 rw[Bt,Dv (g:=λw=>.sl (Du n f i r w)) (i:=i) (p:=(k,.row a sz r r.length)) ?_ ?_ _ List.nodup_range,Zd (ZL.2 hi)]
 .simp[iT,b,c,Du]
 .intro v d
  simp only[Y6 d,Du];split<;>rfl
theorem Mq(hi:i<N):((jT n f (i+1) N).set i (.arr k n)).flatMap mH=[k]:=by
 have key:∀l:List Nat,l.Nodup->(l.map λw=>if w=i then AV.arr k n else if i<=w then .pv (.sl (bl n (f w)))else fY).flatMap mH=if i∈l then[k]else[]:=by
  intro l
  induction l with
  |nil=>intro _;rfl
  |cons v l ih=>
   intro hn;rw[yBh]at hn;rw[yAf,List.flatMap_cons,ih hn.2];by_cases e:v=i
   .subst e;simp[hn.1,mH]
   .rw[Y6 e]
    have:mH (if i<=v then AV.pv (.sl (bl n (f v)))else fY)=[]:=by split<;>rfl
    rw[this,List.nil_append];simp[show¬i=v from λa=>e a.symm]
 rw[Bt,key _ List.nodup_range,Zd (ZL.2 hi)]
theorem XZ(n:Nat)(lg:Nat->Nat->Bool)(ps:Nat->Nat->Nat->Bool)(ns:List PV)(start:Int)(goal A:Nat)(T:Int)(g:FuncId)(x:PV)(hn:ns.length=n)(ck:∀v,v<n->ns[v]?=some (zs ((gi lg n v).map λu=>((u:Nat):Int))))(cB:n<=1024)(hA:A<=64)(hs:goal<n)(hg:∀i v u,i<A->v<n->u<n->aW prog g [.pv (Z i),.pv (Z v),.pv (Z u),.pv (.rptr x 0)] [] [] (.pv (B (ps i v u)))):aF 76 (FW (.sl ns) start goal T g x) (Z A) (Br n (λi=>mw n lg ps goal A (A-i)) (A+1)):=by
 obtain⟨M,hM⟩:∃M,M=A+1:=⟨_,rfl⟩;obtain⟨f,hf⟩:∃f,f=λi=>mw n lg ps goal A (A-i):=⟨_,rfl⟩;rw[<-hM,<-hf]
 have X:∀v,f A v=(v==goal):=λv=>by rw[hf];simp only[yAR];rfl
 have cg:∀i v,i<A->f i v=(List.range n).any λu=>lg v u&&(f (i+1) u&&ps i v u):=λi v hi=>by
  rw[hf];simp only;obtain⟨d,hd⟩:∃d,A-i=d+1:=⟨A-i-1,by omega⟩;rw[hd,show A-(i+1)=d from by omega];show((List.range n).any λu=>lg v u&&(mw n lg ps goal A d u&&ps (A-(d+1)) v u))=_;rw[show A-(d+1)=i from by omega]
 have w0:i64.wrap ((A:Int)+1)=(M:Int):=by rw[IntKind.wrap_i64];omega
 have w1:i64.wrap ((A:Int)-1)=(A:Int)-1:=aa
 have b9:0<M:=by omega
 have R:A<M:=by omega
 have S:A+1<=M:=by omega
 have b8:(A:Int)<(M:Int):=by omega
 obtain⟨rs,N⟩:∃rs,rs=List.replicate M fY:=⟨_,rfl⟩
 have L:rs.length=M:=by rw[N,List.length_replicate]
 obtain⟨I,D⟩:∃I,I=rs.set A (.arr 17 n):=⟨_,rfl⟩
 have cm:I.length=M:=by rw[D,yAt,L]
 have qa:I[A]?=some (.arr 17 n):=by rw[D];simp[L,R]
 have cv:∀h,I[A]'h=.arr 17 n:=λh=>(th.1 qa).2
 have bq:rs.take A++AV.arr 17 n::rs.drop (A+1)=I:=by rw[D];exact ik (by omega)
 refine Dp func76 λC hP hN=>?_
 with_reducible repeat' (first|refine Sp.h ?_|((first|refine Wh [1000011,17] ?_|refine Wi [1000011,17] ?_|refine Ss.h ?_|(refine Sb.h ?_ ?_ ?_<;>(try intro hgd)<;>try exact Xy))<;>simp -implicitDefEqProofs (maxSteps:=2000000) [hP,hN,hn,w0,w1,b9,hs,R,S,b8,<-N,L,bq,cm,qa,cv,show(M:Int)*24<=281474976710656 by omega,show 24*(M:Int)<=281474976710656 by omega,show(M:Int)<=9223372036854775807 by omega,show(n:Int)<=281474976710656 by omega,show(n:Int)<=9223372036854775807 by omega]<;>try refine Ya ?_)|refine X2 ?_ ?_|(refine Xd ?_ ?_<;>intro hcd<;>try exact Xx))
 have cn:(List.replicate n (B false)).set goal (B true)=bl n (f A):=by
  rw[yQ];exact Bq hs (by simp[X]) (λv _ hv=>by rw[X];simpa using hv)
 have cb:I.set A (.pv (.sl (bl n (f A))))=jT n f A M:=by
  rw[D,N,Mo n f,hM];exact HK _
 refine WP.freezeB 11 A (k:=17) (xs:=bl n (f A)) (cs:=I) (e:=4) (sz:=1) (fz:=0) (own:=true) (fb:=false) (by simp) (by simp[qa]) (by simp[cn]) ?_;rw[cb];refine WP.loopN [37,7] A (λc st=>st.t 2=.ptr 2 0/\st.h 2=some (.box [.pv (.sl ns),.pv (Z start),.pv (Z goal),.pv (Z T),.pv (.fn (.func g) [] [.rptr x 0])] true false)/\st.t 5=.ptr 5 0/\st.h 5=some (.box [.ext (.barr 11 M M)] true false)/\st.t 6=.ptr 6 0/\st.h 6=some (.box [.pv (Z ((A:Int)-1-c))] true false)/\st.h 11=some (.box (jT n f (A-c) M) true false)/\st.h 37=none/\st.h 7=none) (by simp[pG]) ?_;rintro c st hi ⟨g2,E,g5,F,G,b6,b,o,b7⟩;by_cases ar:c<A
 .obtain⟨i,cz⟩:∃i,i=A-1-c:=⟨_,rfl⟩
  obtain⟨j,hj⟩:∃j,i+1=j:=⟨_,rfl⟩;obtain⟨cs,a⟩:∃cs,cs=jT n f j M:=⟨_,rfl⟩;rw[show(A:Int)-1-c=(i:Int) by omega]at b6;rw[show A-c=j by omega,<-a]at b
  have q:cs.length=M:=by rw[a,yR]
  have ad:i<A:=by omega
  have s:i<M:=by omega
  have ah:i+1<=M:=by omega
  have aj:(i:Int)<(M:Int):=by omega
  have cj:¬(i:Int)<0:=by omega
  have Y:0<=(i:Int):=by omega
  have cr:i64.wrap ((i:Int)-1)=(i:Int)-1:=aa
  have H:(A:Int)-1-((c:Int)+1)=(i:Int)-1:=by omega
  have K:A-(c+1)=i:=by omega
  have a8:cs.take i++AV.arr 37 n::cs.drop (i+1)=cs.set i (.arr 37 n):=ik (by omega);obtain⟨m,l⟩:∃m,m=cs.set i (.arr 37 n):=⟨_,rfl⟩;rw[<-l]at a8
  have cf:m.length=M:=by rw[l,yAt,q]
  have di:m[i]?=some (.arr 37 n):=by rw[l];simp[q,s]
  have b3:∀h,m[i]'h=.arr 37 n:=λh=>(th.1 di).2
  have U:m.map (dK [7])=m:=by rw[l,yAz,a,pG];rfl
  have cx:∀z,(m.set i (.pv (.sl z))).map (dK [6])=m.set i (.pv (.sl z)):=by intro z;rw[l,List.set_set,yAz,a,pG];rfl
  have ch:∀(h:Hp) r,r.length=n->h 37=some (.row 4 1 r 0)->dZ h m=some ((List.range M).map λw=>.sl (Du n f i r w),[(37,.row 4 1 r r.length)]):=λh r h1 h2=>by rw[l,a,<-hj];exact O5 h1 h2 s
  have cp:m.flatMap mH=[37]:=by rw[l,a,<-hj];exact Mq s
  refine ki [37] (zAe hn g2 E g5 F G b6 b o b7 ar q s ah (zAa aj cj Y a8 H (show(n:Int)<=281474976710656 by omega) (show(n:Int)<=9223372036854775807 by omega))) ?_;refine WP.loopN [7] n (λv st=>st.t 2=.ptr 2 0/\st.h 2=some (.box [.pv (.sl ns),.pv (Z start),.pv (Z goal),.pv (Z T),.pv (.fn (.func g) [] [.rptr x 0])] true false)/\st.t 5=.ptr 5 0/\st.h 5=some (.box [.ext (.barr 11 M M)] true false)/\st.t 6=.ptr 6 0/\st.h 6=some (.box [.pv (Z i)] true false)/\st.t 40=.pv (.sl ns)/\st.t 41=.pv (Z n)/\st.t 42=.pv (Z v)/\st.h 11=some (.box m true false)/\st.h 37=some (.row 4 1 (bl n λx=>decide (x<v)&&f i x) 0)/\st.h 7=none) (by simp[U,g2,E,g5,F,G,b6,yQ]) ?_;clear g2 E g5 F G b6 b o b7;rintro v st hv ⟨g2,E,g5,F,G,b6,b4,P,Q,b,o,b7⟩;by_cases p:v<n
  .have ct:=ab p (by omega)
   have O:=ck v p;have cM:=(th.1 O).1;have cu:=(th.1 O).2;have cD:=Cz lg n v;have y:(bl n λx=>decide (x<v)&&f i x).length=n:=oM _ _;have hW:=λ(h:Hp)=>ch h _ y
   have ca:((List.range M).map λw=>PV.sl (Du n f i (bl n λx=>decide (x<v)&&f i x) w))[j]?=some (.sl (bl n (f j))):=by rw[RD (by omega),Du,Y6 (by omega),Zd (by omega)]
   have a7:(bl n λx=>decide (x<v)&&f i x).set v (B (f i v))=bl n λx=>decide (x<v+1)&&f i x:=Bq p (by simp) (λx _ O=>by simp[show(x<v+1↔x<v) by omega]);generalize bl n (λx=>decide (x<v)&&f i x)=r1 at *;generalize bl n (λx=>decide (x<v+1)&&f i x)=r2 at *;generalize Du n f i r1=rows at *
   have a6:((gi lg n v).map λu=>((u:Nat):Int)).any (λu=>f j u.toNat&&ps i v u.toNat)=f i v:=by
    rw[cg i v ad,hj,List.any_map,gi,List.any_filter];rfl
   have cc:=WE (λu=>f j u.toNat&&ps i v u.toNat) ((gi lg n v).map λu=>((u:Nat):Int)) 127 (.sl ((List.range M).map λw=>.sl (rows w))) (Z i) (FW (.sl ns) start goal T g x) (Z v) (by simp;omega) (λu hu=>by
    obtain⟨k,hk,rfl⟩:=Zv.1 hu;have ak:k<n:=ZL.1 (yAa.1 hk).1;simp only[Zo]
    exact WF ((List.range M).map λw=>.sl (rows w)) (bl n (f j)) i v k (.sl ns) start goal T g x (f j k) (ps i v k) (by omega) (by rw[hj];exact ca) (by omega) (by rw[Zo];exact Bp _ ak) (λ_=>hg i v k ad p ak))
   rw[a6]at cc;generalize(gi lg n v).map (λu=>((u:Nat):Int))=tv at *;exact GS (zAe hn g2 E g5 F G b6 b4 P Q b o b7 p (zAd ct O cu s aj cf di b3 cp hW y (gA a7 U)))
  .have cq:v=n:=by omega
   subst cq;rw[lc (g:=f i) (λx O=>by simp[O])]at o;refine WP.freezeB 11 i (k:=37) (xs:=bl v (f i)) (cs:=m) (e:=4) (sz:=1) (fz:=0) (own:=true) (fb:=false) b (by rw[di,oM]) o ?_
   have V:m.set i (.pv (.sl (bl v (f i))))=jT v f i M:=by rw[l,a,<-hj];exact HK _
   rw[V];obtain⟨es,J⟩:∃es,es=jT v f i M:=⟨_,rfl⟩
   have W:∀ks,es.map (dK ks)=es:=λks=>by rw[J];exact pG _ _ _ _ _
   rw[<-J]
   with_reducible iterate 8 any_goals (first|refine Sp.h ?_|((first|refine Wd ?_|refine Ss.h ?_|(refine Sb.h ?_ ?_ ?_<;>(try intro hgd)<;>try exact Xy))<;>simp -implicitDefEqProofs (maxSteps:=2000000) [hP,hN,g2,E,g5,F,G,b6,P,Q,p]<;>try refine Ya ?_)|refine X2 ?_ ?_|(refine Xd ?_ ?_<;>intro hcd<;>try exact Xx))
   refine WP.forget [6] ?_;refine GT (zAc g2 E g5 F G b6 cr H K (gA W J)) ?_;rw[<-List.map_map,pG,pG]
 .have cd:c=A:=by omega
  subst cd;rw[yAR]at b;obtain⟨cs,a⟩:∃cs,cs=jT n f 0 M:=⟨_,rfl⟩
  have hW:dZ st.h cs=some ((List.range M).map λi=>.sl (bl n (f i)),[]):=by rw[a,Mp];exact Ae _ _ _
  have q:cs.length=M:=by rw[a,yR]
  rw[<-a]at b;exact GS (zAd g2 E g5 F G b6 b ar hW q (show(c:Int)-1-c<0 by omega) (show¬0<=(c:Int)-1-c by omega))
theorem WP.cut{C:Cx}{c:Code}{id:Nat}(P:St->Prop)(h1:WP C c (nM id λe st=>e=.normal/\P st) st)(a:∀st,P st->Q .normal st):WP C c (nM id Q) st:=by
 refine h1.mono λe st h=>?_
 cases e with
 |normal=>exact a st h.2
 |exit i=>
  simp only[nM]at h|-;split at h
  .rename_i e;rw[Zd e];exact a st h.2
  .cases h.1
 |goto l=>cases h.1
 |ret=>cases h.1
 |panic b=>cases h.1
 |outgrown=>cases h.1
theorem Kt{α:Type}(p:α->Bool):∀xs:List α,xs[xs.findIdx p]?=xs.find? p
 |[]=>rfl
 |a::l=>by
  rw[List.findIdx_cons,List.find?_cons]
  cases h:p a with
  |true=>simp
  |false=>simpa using Kt p l
def yS(n:Nat)(lg:Nat->Nat->Bool)(ps:Nat->Nat->Nat->Bool)(start goal T:Nat):Option (List Int):=(gt n lg ps start goal T).map λA=>(List.range (T+1)).map λi=>((gU n lg ps start goal A i:Nat):Int)
theorem RG{start goal A:Nat}(hs:start<n)(f:gt n lg ps start goal T=some A)(g:goal<n)(hi:i<A):
 ∃k:Nat,oP (λu:Int=>mw n lg ps goal A (A-(i+1)) u.toNat&&ps i (gU n lg ps start goal A i) u.toNat) ((gi lg n (gU n lg ps start goal A i)).map λu=>((u:Nat):Int))=k/\(gi lg n (gU n lg ps start goal A i))[k]?=some (gU n lg ps start goal A (i+1)):=by
 obtain⟨h1,m,d⟩:=CJ hs f g (i+1) (by omega);have b:=d i (by omega)
 have c:mw n lg ps goal A (A-(i+1)) (gU n lg ps start goal A (i+1))=true:=by rw[xM (by omega)];rwa [show A-(A-(i+1))=i+1 from by omega]
 have e:gU n lg ps start goal A (i+1)=((List.range n).find? λu=>lg (gU n lg ps start goal A i) u&&(mw n lg ps goal A (A-(i+1)) u&&ps i (gU n lg ps start goal A i) u)).getD 0:=by rw[gU,Zd hi]
 generalize gU n lg ps start goal A (i+1)=y at *;generalize gU n lg ps start goal A i=v at *;obtain⟨x,a,j,l⟩:=Bw (p:=λu=>lg v u&&(mw n lg ps goal A (A-(i+1)) u&&ps i v u)) h1 (by simp[b.1,b.2,c]);rw[a,Zn]at e;subst e;refine⟨(gi lg n v).findIdx λu=>mw n lg ps goal A (A-(i+1)) u&&ps i v u,?_,?_⟩
 .rw[oP,Zd]
  .congr 1
   rw[List.findIdx_map];rfl
  .rw[yAT]
   refine⟨(y:Int),Zv.2 ⟨y,?_,rfl⟩,?_⟩
   .simp only[gi,yAa,ZL];exact⟨h1,b.1⟩
   .simp[c,b.2]
 .rw[Kt,gi,List.find?_filter,<-a];exact I6 λu _=>by rw[Bool.eq_iff_iff];simp
def jU(n:Nat)(lg:Nat->Nat->Bool)(ps:Nat->Nat->Nat->Bool)(start goal A N:Nat):List Int:=(List.range N).map λi=>((gU n lg ps start goal A i:Nat):Int)
theorem Af(n:Nat)(lg:Nat->Nat->Bool)(ps:Nat->Nat->Nat->Bool)(start goal A N:Nat):jU n lg ps start goal A (N+1)=jU n lg ps start goal A N++[((gU n lg ps start goal A N:Nat):Int)]:=by simp[jU,yAs]
theorem HL(n:Nat)(lg:Nat->Nat->Bool)(ps:Nat->Nat->Nat->Bool)(start goal A N:Nat):(jU n lg ps start goal A N).length=N:=by simp[jU]
theorem RH{start goal A:Nat}(h:i<N):(jU n lg ps start goal A N)[i]?=some ((gU n lg ps start goal A i:Nat):Int):=by simp[jU,h]
theorem X4(n:Nat)(lg:Nat->Nat->Bool)(ps:Nat->Nat->Nat->Bool)(ns:List PV)(start goal T:Nat)(g:FuncId)(x:PV)(hn:ns.length=n)(ad:∀v,v<n->ns[v]?=some (zs ((gi lg n v).map λu=>((u:Nat):Int))))(ca:n<=1024)(hT:T<=64)(hs:start<n)(z:goal<n)(hg:∀i v u,i<T->v<n->u<n->aW prog g [.pv (Z i),.pv (Z v),.pv (Z u),.pv (.rptr x 0)] [] [] (.pv (B (ps i v u)))):aR 37 (FW (.sl ns) start goal T g x) (.tup (match yS n lg ps start goal T with|some l=>[zs l,B true]|none=>[.sl [],B false])):=by
 have cr:=XY n lg ps ns start goal T g x hn ad ca hT hs hg;obtain⟨S,hS⟩:∃S,S=eS ps goal T:=⟨_,rfl⟩
 have cN:S<=T:=by rw[hS];exact vL _ _ _
 obtain⟨f,hf⟩:∃f,f=wm n lg ps start:=⟨_,rfl⟩
 have b3:gt n lg ps start goal T=ld (λa=>f a goal) S (T+1-S):=by rw[gt,hS,hf]
 rw[<-hf]at cr;obtain⟨R,Q⟩:∃R,gt n lg ps start goal T=R:=⟨_,rfl⟩;rw[Q]at b3;obtain⟨rs,aj⟩:∃rs,rs=(List.range (T+1)).map λi=>PV.sl (bl n (f i)):=⟨_,rfl⟩;rw[show Br n f (T+1)=.sl rs by rw[aj]]at cr
 have cB:∀a,a<=T->rs[a]?=some (.sl (bl n (f a))):=λa ha=>by rw[aj];simp[show a<T+1 by omega]
 clear aj;refine Dp func37 λC hP hN=>?_;refine Gz ?_;refine WP.cut (λst=>st.t 1=.ptr 1 0/\st.h 1=some (.box [.pv (.sl ns),.pv (Z start),.pv (Z goal),.pv (Z T),.pv (.fn (.func g) [] [.rptr x 0])] true false)/\st.t 4=.pv (Z S)/\st.h 7=none/\st.h 9=none/\st.h 10=none/\st.h 58=none) ?_ ?_
 .refine WP.loop [] (λst=>∃s:Nat,st.t 1=.ptr 1 0/\st.h 1=some (.box [.pv (.sl ns),.pv (Z start),.pv (Z goal),.pv (Z T),.pv (.fn (.func g) [] [.rptr x 0])] true false)/\st.t 4=.pv (Z s)/\s<=T/\eS ps goal s=S/\st.h 7=none/\st.h 9=none/\st.h 10=none/\st.h 58=none) (λst=>match st.t 4 with|.pv (.val (.int _ a))=>a.toNat|_=>0) (by exact⟨T,by simp[hS]⟩) ?_
  rintro st ⟨s,g1,b1,g4,cQ,ak,o,e,d,b⟩
  cases s with
  |zero=>
   have:(0:Nat)=S:=ak;subst this;exact GS (zAa g1 b1 g4 o e d b)
  |succ s=>
   have b4:=hg s goal goal (by omega) z z
   have ar:i64.wrap (((s+1:Nat):Int)-1)=(s:Int):=by rw[IntKind.wrap_i64];omega
   obtain⟨j,hj⟩:∃j,s+1=j:=⟨_,rfl⟩
   have b5:0<(j:Int):=by omega
   have b8:0<j:=by omega
   rw[hj]at g4 ar
   cases hp:ps s goal goal with
   |true=>
    rw[hp]at b4
    have D:eS ps goal s=S:=by rw[<-ak,eS,Zd hp]
    refine GT (zAc g1 b1 g4 o e d b ar b5 b8) ?_
    all_goals exact⟨⟨s,rfl,by omega,D⟩,by omega⟩
   |false=>
    rw[hp]at b4
    have D:j=S:=by rw[<-ak,eS,Y6 (by rw[hp];decide),hj]
    subst D;exact GS (zAc g1 b1 g4 o e d b ar b5 b8)
 .rintro st ⟨g1,b1,g4,o,e,d,b⟩
  show WP C _ _ st;refine GT (zAa g1 b1 g4 o e d b) ?_;refine WP.cut (λst=>∃a:Nat,st.t 1=.ptr 1 0/\st.h 1=some (.box [.pv (.sl ns),.pv (Z start),.pv (Z goal),.pv (Z T),.pv (.fn (.func g) [] [.rptr x 0])] true false)/\st.t 6=.pv (Z a)/\st.h 7=none/\st.h 9=none/\st.h 10=none/\st.h 58=none/\((a=T+1/\R=none)\/(a<=T/\R=some a))) ?_ ?_
  .refine WP.loopN [] (T+1-S) (λc st=>st.t 1=.ptr 1 0/\st.h 1=some (.box [.pv (.sl ns),.pv (Z start),.pv (Z goal),.pv (Z T),.pv (.fn (.func g) [] [.rptr x 0])] true false)/\st.t 5=.pv (.sl rs)/\st.t 6=.pv (Z (S+c:Nat))/\st.h 7=none/\st.h 9=none/\st.h 10=none/\st.h 58=none/\ld (λa=>f a goal) (S+c) (T+1-(S+c))=R) (by simp[g1,b1,o,e,d,b,b3]) ?_
   clear g1 b1 g4 o e d b;rintro c st hc ⟨g1,b1,g5,J,o,e,d,b,r⟩;obtain⟨a,ha⟩:∃a,a=S+c:=⟨_,rfl⟩
   have cf:S+(c+1)=a+1:=by omega
   rw[cf];rw[<-ha]at J r;by_cases A:a<=T
   .have M:=cB a A
    have a6:=(th.1 M).1;have H:=(th.1 M).2;have hy:=Bp (f a) z
    have cc:goal<(bl n (f a)).length:=by rw[oM];exact z
    have I:∀h,(bl n (f a))[goal]'h=B (f a goal):=λh=>(th.1 hy).2
    have p:(a:Int)<=(T:Int):=by omega
    have cD:i64.wrap ((a:Int)+1)=(a:Int)+1:=aa
    have ck:c<T+1-S:=by omega
    rw[show T+1-a=(T+1-(a+1))+1 by omega,ld]at r;generalize bl n (f a)=ra at *
    cases hb:f a goal with
    |true=>
     rw[hb]at hy I;simp only[hb,Zp]at r;refine GT (zAe g1 b1 g5 J o e d b A p M H a6 hy (gA cc I)) ?_;exact⟨a,rfl,.inr ⟨A,r.symm⟩⟩
    |false=>
     rw[hb]at hy I;simp only[hb,Y9,Zk]at r;refine GT (zAe g1 b1 g5 J o e d b A p M H a6 hy (be cc I cD)) ?_;exact⟨ck,by rw[show T-a=T+1-(a+1) by omega];exact r⟩
   .have b2:a=T+1:=by omega
    rw[show T+1-a=0 by omega,ld]at r
    have p:¬(a:Int)<=(T:Int):=by omega
    refine GT (zAc g1 b1 g5 J o e d b A p) ?_;exact⟨a,rfl,.inl ⟨b2,r.symm⟩⟩
  clear g1 b1 g4 o e d b st;rintro st ⟨a,g1,b1,J,o,e,d,b,hR⟩;show WP C _ _ st;rcases hR with⟨ha,hR⟩|⟨ha,hR⟩
  .have p:(T:Int)<(a:Int):=by omega
   have cg:yS n lg ps start goal T=none:=by rw[yS,Q,hR];rfl
   rw[cg];exact GS (go g1 b1 J p)
  .have p:¬(T:Int)<(a:Int):=by omega
   have F:gt n lg ps start goal T=some a:=by rw[Q,hR]
   have cj:yS n lg ps start goal T=some (jU n lg ps start goal a (T+1)):=by rw[yS,F];rfl
   rw[cj];have ch:=XZ n lg ps ns start goal a T g x hn ad ca (by omega) z (λi v u hi=>hg i v u (by omega));obtain⟨qs,ah⟩:∃qs,qs=(List.range (a+1)).map λi=>PV.sl (bl n (mw n lg ps goal a (a-i))):=⟨_,rfl⟩;rw[show Br n (λi=>mw n lg ps goal a (a-i)) (a+1)=.sl qs by rw[ah]]at ch
   have cz:∀j,j<=a->qs[j]?=some (.sl (bl n (mw n lg ps goal a (a-j)))):=λj hj=>by rw[ah];simp[show j<a+1 by omega]
   clear ah;refine ki [58] (zAb g1 b1 J o e d b p) ?_
   have a7:[PV.val (.int .i64 (start:Int))]=(jU n lg ps start goal a (0+1)).map Z:=by simp[Af,jU,gU]
   rw[a7];refine WP.loopN [9,10] a (λi st=>st.t 1=.ptr 1 0/\st.h 1=some (.box [.pv (.sl ns),.pv (Z start),.pv (Z goal),.pv (Z T),.pv (.fn (.func g) [] [.rptr x 0])] true false)/\st.t 7=.ptr 7 0/\st.h 7=some (.box [.pv (.sl qs)] true false)/\st.t 8=.arr 58 (i+1)/\st.h 58=some (.row 3 1 ((jU n lg ps start goal a (i+1)).map Z) 0)/\st.t 59=.pv (Z a)/\st.t 60=.pv (Z i)/\st.h 9=none/\st.h 10=none) (by simp[g1,b1,e,d]) ?_;clear g1 b1 J o e d b a7 st;rintro i st hi ⟨g1,b1,g7,o,E,b,N,O,e,d⟩;by_cases W:i<a
   .obtain⟨k,cq,ct⟩:=RG (ps:=ps) (lg:=lg) hs F z W
    have U:=(CJ hs F z i (by omega)).1;have G:=HL n lg ps start goal a (i+1)
    have a8:((jU n lg ps start goal a (i+1)).map Z)[i]?=some (Z (gU n lg ps start goal a i)):=by rw[Y7,RH (by omega)];rfl
    have P:=Af n lg ps start goal a (i+1);generalize gU n lg ps start goal a (i+1)=y at *;generalize gU n lg ps start goal a i=v at *;have M:=ad v U;have a6:=(th.1 M).1;have H:=(th.1 M).2;have cS:=Cz lg n v;have hq:=cz (i+1) (by omega)
    have ci:=Tx (λu=>mw n lg ps goal a (a-(i+1)) u.toNat&&ps i v u.toNat) ((gi lg n v).map λu=>((u:Nat):Int)) 78 (.sl qs) (Z i) (FW (.sl ns) start goal T g x) (Z v) (by simp;omega) (λu hu=>by
     obtain⟨q,cx,rfl⟩:=Zv.1 hu;have cb:q<n:=ZL.1 (yAa.1 cx).1;simp only[Zo]
     exact XX qs (bl n (mw n lg ps goal a (a-(i+1)))) i v q (.sl ns) start goal T g x (mw n lg ps goal a (a-(i+1)) q) (ps i v q) (by omega) hq (by omega) (by rw[Zo];exact Bp _ cb) (λ_=>hg i v q (by omega) U cb))
    rw[cq]at ci
    have V:((gi lg n v).map λu=>((u:Nat):Int))[k]?=some (y:Int):=by rw[Y7,ct];rfl
    generalize(gi lg n v).map (λu=>((u:Nat):Int))=tv at *;have cv:=(th.1 V).1;have cu:=(th.1 V).2;obtain⟨j,hj⟩:∃j,i+1=j:=⟨_,rfl⟩
    have K:((jU n lg ps start goal a (i+1)).map Z).length=i+1:=by rw[ZB,G]
    have bq:((jU n lg ps start goal a (i+1+1)).map Z)=((jU n lg ps start goal a (i+1)).map Z)++[Z y]:=by rw[P,yAV];rfl
    generalize(jU n lg ps start goal a (i+1+1)).map Z=L2 at *;generalize(jU n lg ps start goal a (i+1)).map Z=L at *;rw[hj]at E K|-;have cd:=(th.1 a8).2
    have cp:i<j:=by omega
    have cM:i64.wrap ((i:Int)+1)=(j:Int):=by rw[IntKind.wrap_i64];omega
    have cP:(j:Int)=(i:Int)+1:=by omega
    refine GT (zAe hn g1 b1 g7 o E b N O e d W K a8 (zAd cd cp U M H V cv cu cM (show(j+1)*8<=140737488355328 by omega) (show j<=9223372036854775806 by omega) (show j+1<=9223372036854775807 by omega))) ?_;exact bq.symm
   .have cn:i=a:=by omega
    subst cn;refine GT (zAd hn g1 b1 g7 o E b N O e d W) ?_;refine WP.loopN [] (T-i) (λc st=>st.t 1=.ptr 1 0/\st.h 1=some (.box [.pv (.sl ns),.pv (Z start),.pv (Z goal),.pv (Z T),.pv (.fn (.func g) [] [.rptr x 0])] true false)/\st.t 8=.arr 58 (i+c+1)/\st.h 58=some (.row 3 1 ((jU n lg ps start goal i (i+c+1)).map Z) 0)) (by simp[g1,b1,E,b]) ?_;clear g1 b1 g7 o E b N O e d st;rintro c st hc ⟨g1,b1,E,b⟩;obtain⟨m,hm⟩:∃m,m=i+c+1:=⟨_,rfl⟩;rw[show i+(c+1)+1=m+1 by omega];rw[<-hm]at E b
    have G:((jU n lg ps start goal i m).map Z).length=m:=by rw[ZB,HL]
    by_cases cm:c<T-i
    .have X:m<=T:=by omega
     have Y:(m:Int)<=(T:Int):=by omega
     have P:((jU n lg ps start goal i (m+1)).map Z)=((jU n lg ps start goal i m).map Z)++[Z goal]:=by rw[Af,Pn hs F z (by omega),yAV];rfl
     generalize(jU n lg ps start goal i (m+1)).map Z=L2 at *;generalize(jU n lg ps start goal i m).map Z=L at *;refine GT (zAc g1 b1 E b G X Y (show(m+1)*8<=140737488355328 by omega) (show m<=9223372036854775806 by omega) (show m+1<=9223372036854775807 by omega)) ?_;exact⟨cm,P.symm⟩
    .have X:m=T+1:=by omega
     have Y:¬(m:Int)<=(T:Int):=by omega
     rw[<-X];rw[show(zs (jU n lg ps start goal i m))=.sl ((jU n lg ps start goal i m).map Z) from rfl];generalize(jU n lg ps start goal i m).map Z=L at *;exact GS (so g1 b1 E b G Y)
def RI(t:fQ)(l:List Int)(k:Nat):Bool:=eY (l7 t k) ((l[k]?).getD 0)
theorem O6(t:fQ)(l:List Int):l8 t l=(decide (l.length=t.maps.length)&&(List.range l.length).all (RI t l)):=rfl
theorem Ty(t:fQ)(l:List Int)(u:TmOk t):aF 33 (kA t) (zs l) (B (l8 t l)):=by
 rw[O6];refine Dp func33 λC hP hN=>?_;by_cases a:l.length=t.maps.length
 .rw[ZH a,Zu,a]
  obtain⟨p,hp⟩:∃p,p=RI t l:=⟨_,rfl⟩;rw[<-hp]
  have q:((l.length:Nat):Int)=((t.maps.length:Nat):Int):=by omega
  obtain⟨R,n⟩:∃R,(List.range t.maps.length).all p=R:=⟨_,rfl⟩;rw[n];refine Gz ?_;refine WP.loopN [] t.maps.length (λi st=>st.t 2=.ptr 2 0/\st.h 2=some (.box [.pv (.sl (t.maps.map bf)),.pv (.sl (t.conf.map bR))] true false)/\(st.t 13=.pv (zs l)/\st.t 14=.pv (Z t.maps.length))/\st.t 15=.pv (Z i)/\tA p i) (by simp[ny,a]) ?_;rintro i st hi ⟨g2,s,c,e,hq⟩;by_cases b:i<t.maps.length
  .have y:=ab b u.nl
   have hn:=nA (p:=p) hq;have o:=nB (p:=p) b;rw[n]at o;have k:t.maps[i]?=some t.maps[i]:=an b
   have j:i<l.length:=by omega
   have g:=l6 j
   have d:p i=eY t.maps[i].np.length l[i]:=by rw[hp];simp[RI,l7,k,g]
   have x:=u.pl _ (Zs b);generalize A:t.maps[i]=m at *;generalize D:l[i]=z at *;by_cases h1:z<0
   .have f:p i=false:=by rw[d,<-Bool.not_eq_true,dT];omega
    rw[o f];exact Gy
   .by_cases v:(m.np.length:Int)<=z
    .have f:p i=false:=by rw[d,<-Bool.not_eq_true,dT];omega
     rw[o f];exact Gy
    .have f:p i=true:=by rw[d,dT];omega
     have r:=hn f;refine GT (zAe g2 s @c.1 @c.2 e b y A k j g D h1 v a) ?_
     all_goals exact r
  .rw[qn hq b]at n
   rw[<-n];exact GS (zAa g2 s @c.1 @c.2 e b a)
 .rw[Z9 a,ZI]
  have q:¬((l.length:Nat):Int)=((t.maps.length:Nat):Int):=by omega
  exact Gy
theorem FY(xs:List Int)(v:Int):xs.any (λx=>v==x)=xs.contains v:=by
 induction xs with
 |nil=>rfl
 |cons a l ih=>rw[List.any_cons,List.contains_cons,ih]
theorem WG(xs:List Int)(v:Int)(n:xs.length<=9223372036854775807):aF 123 (zs xs) (Z v) (Z (oP (λx=>v==x) xs)):=by
 obtain⟨p,hp⟩:∃p,p=λx:Int=>v==x:=⟨_,rfl⟩;rw[<-hp];refine Dp func123 λC hP hN=>?_;refine GT trivial ?_;refine WP.loopN [] xs.length (λi st=>st.t 0=.pv (zs xs)/\st.t 1=.pv (Z v)/\st.t 7=.pv (Z xs.length)/\st.t 8=.pv (Z i)/\oK p xs i) (by simp[qm]) ?_;rintro i st hi ⟨g0,g1,k,l,hq⟩;by_cases a:i<xs.length
 .have o:=ab a n
  have hn:=sE a hq;have m:=CD a hq
  have b:p xs[i]=(v==xs[i]):=by rw[hp]
  generalize j:xs[i]=c at *
  have f:xs[i]?=some c:=by rw[an a,j]
  generalize oP p xs=r at *;by_cases e:v=c
  .rw[m (by rw[b];simp[e])]
   exact Gy
  .have g:(v==c)=false:=by simp[e]
   have d:=hn (by rw[b,g]);refine GT (zAc g0 g1 k l a o j f e g) ?_
   all_goals exact d
 .rw[CE a hq]
  exact Gy
theorem X5(xs:List Int)(v:Int)(a:xs.length<=9223372036854775807):aF 71 (zs xs) (Z v) (B (xs.contains v)):=by
 have b:=WG xs v a;rw[<-FY,<-CF];refine Dp func71 λC hP hN=>?_;exact Gy
theorem X6(l:List Int)(n:Nat)(q:l.length<=9223372036854775807):aF 34 (zs l) (Z n) (B (kC l n)):=by
 rw[show kC l n=(decide (l.length=n)&&(List.range n).all λk=>l.contains (k:Int)) from rfl];obtain⟨p,hp⟩:∃p,p=λk:Nat=>l.contains (k:Int):=⟨_,rfl⟩;rw[<-hp];obtain⟨R,f⟩:∃R,(List.range n).all p=R:=⟨_,rfl⟩;rw[f];refine Dp func34 λC hP hN=>?_;by_cases b:l.length=n
 .rw[ZH b,Zu]
  have j:((l.length:Nat):Int)=(n:Int):=by omega
  refine Gz ?_;refine WP.loopN [] n (λi st=>st.t 0=.pv (zs l)/\st.t 10=.pv (Z n)/\st.t 11=.pv (Z i)/\tA p i) (by simp[ny]) ?_;rintro i st hi ⟨g0,c,d,hq⟩;by_cases a:i<n
  .have r:=ab a (by omega)
   have hn:=nA (p:=p) hq;have o:=nB (p:=p) a;rw[f]at o;have g:=X5 l i q;rw[show l.contains (i:Int)=p i by rw[hp]]at g
   cases e:p i with
   |true=>
    rw[e]at g;have m:=hn e;refine GT (it g0 c d a r) ?_
    all_goals exact m
   |false=>
    rw[e]at g;rw[o e];exact Gy
  .rw[qn hq a]at f
   rw[<-f];exact GS (go g0 c d a)
 .rw[Z9 b,ZI]
  have j:¬((l.length:Nat):Int)=(n:Int):=by omega
  exact Gy
theorem FZ:∀(n:Nat)(l:List Int),l.length<=n->(∀k,k<n->((k:Nat):Int)∈l)->l.Nodup/\∀x∈l,0<=x/\x<n:=by
 intro n
 induction n with
 |zero=>intro l d _;have:l=[]:=List.length_eq_zero_iff.1 (by omega)
        subst this;simp
 |succ n ih=>
  intro l d c;have a:=c n (by omega);have g:(l.erase ((n:Nat):Int)).length=l.length-1:=List.length_erase_of_mem a
  obtain⟨h1,b⟩:=ih (l.erase ((n:Nat):Int)) (by omega) (λk i=>by
   rw[List.mem_erase_of_ne (by omega)];exact c k (by omega))
  refine⟨(List.perm_cons_erase a).nodup_iff.2 (yBh.2 ⟨λh=>?_,h1⟩),λx f=>?_⟩
  .have:=b _ h;omega
  .by_cases e:x=(n:Nat)
   .omega
   .have:=b x ((List.mem_erase_of_ne e).2 f);omega
theorem O7{order:List Int}(h:kC order n=true):(order.map Int.toNat).Nodup:=by
 simp only[kC,up,Is,L4,ZL,List.contains_iff_mem]at h;obtain⟨h1,c⟩:=FZ n order (by omega) h.2;show List.Pairwise _ _;rw[List.pairwise_map];refine List.Pairwise.imp_of_mem (λ{a b} d f e=>?_) h1;have:=c a d;have:=c b f;omega
theorem Dw:∀(pl:List (List Int))(m x:Nat),pl.foldl (λm l=>max m (lf l)) (max m x)=max (pl.foldl (λm l=>max m (lf l)) m) x
 |[],m,x=>rfl
 |a::r,m,x=>by
  rw[yAv,yAv,show max (max m x) (lf a)=max (max m (lf a)) x by omega,Dw]
theorem F0:∀{pl:List (List Int)}{k:Nat}{l:List Int}(m:Nat),pl[k]?=some []->(pl.set k l).foldl (λm l=>max m (lf l)) m=max (pl.foldl (λm l=>max m (lf l)) m) (lf l)
 |[],k,l,m,h=>by simp at h
 |a::r,0,l,m,h=>by
  simp only[yAj,Za]at h;subst h;rw[List.set_cons_zero,yAv,yAv,Dw];have:lf []=0:=rfl;rw[this,Nat.max_zero]
 |a::r,k+1,l,m,h=>by
  rw[List.set_cons_succ,yAv,yAv];exact F0 _ (by simpa using h)
theorem Ku(h:pl[k]?=some []):mO (pl.set k l)=max (mO pl) (lf l):=F0 1 h
theorem Dx(l:List Int):∀i,sI l i<=i
 |0=>Zf _
 |i+1=>by
  rw[sI];split
  .have:=Dx l i;omega
  .exact Zf _
theorem O8(l:List Int):lf l<=l.length-1:=Dx _ _
theorem I0(n:Nat):mO (List.replicate n [])=1:=by
 unfold mO
 induction n with
 |zero=>rfl
 |succ n ih=>rw[List.replicate_succ,yAv];exact ih
theorem Mt(h1:1<=T)(h:∀l∈pl,l.length<=T+1):mO pl<=T:=by
 obtain⟨_,_,a⟩:=DA lf pl 1;unfold mO;rcases a with a|⟨x,b,a⟩
 .omega
 .have:=h x b
  have:=O8 x;omega
structure PIn(t:fQ)(T:Nat)(ks:List Nat)(j:Nat)(pl:List (List Int)):Prop where
 ok:Ai t T pl
 done:∀i,i<j->∀k,ks[i]?=some k->∃l,pl[k]?=some l/\l≠[]
 todo:∀i,j<=i->∀k,ks[i]?=some k->pl[k]?=some []
theorem PIn.init{t:fQ}(a:∀k∈ks,k<t.maps.length):PIn t T ks 0 (List.replicate t.maps.length []):=
 ⟨Ai.init t T,λi h=>absurd h (Nat.not_lt_zero _),λi _ k h=>by simp[a k (An h)]⟩
theorem PIn.set{t:fQ}{j:Nat}(hn:ks.Nodup)(h:PIn t T ks j pl)(f:ks[j]?=some k)(n:l.length=T+1):PIn t T ks (j+1) (pl.set k l):=by
 have inj:∀i m,ks[i]?=some k->ks[m]?=some k->i=m:=λi m h1 o=>by
  have b:=(th.1 h1).1;exact(List.getElem?_inj b hn).1 (h1.trans o.symm)
 have b:k<pl.length:=(th.1 (h.todo j (Zf _) k f)).1
 have g:l≠[]:=by intro e;subst e;simp at n
 refine⟨h.ok.set n,λi hi c a=>?_,λi hi c a=>?_⟩
 .by_cases e:c=k
  .subst e;exact⟨l,by rw[Zg,Zd rfl,Zd b],g⟩
  .have p:i≠j:=by rintro rfl;rw[f]at a;injection a with a;exact e a.symm
   rw[Zg,Y6 (λd=>e d.symm)];exact h.done i (by omega) c a
 .have e:c≠k:=by rintro rfl;have:=inj i j a f;omega
  rw[Zg,Y6 (λd=>e d.symm)];exact h.todo i (by omega) c a
abbrev NQ(o:Option (List (List Int))):PV:=.tup (match o with|some p=>[.sl (p.map zs),B true]|none=>[.sl [],B false])
def kB(pl:List (List Int)):List AV:=pl.map λl=>match l with|[]=>fY|a::r=>.pv (zs (a::r))
theorem O9(pl:List (List Int)):(kB pl).length=pl.length:=by simp[kB]
theorem HM(h:Hp):∀pl:List (List Int),dZ h (kB pl)=some (pl.map zs,[])
 |[]=>rfl
 |l::r=>by
  have:=HM h r;unfold kB at this|-;rw[yAf,dZ,this];cases l<;>rfl
theorem F3:∀pl:List (List Int),(kB pl).flatMap mH=[]
 |[]=>rfl
 |l::r=>by
  have:=F3 r;unfold kB at this|-;rw[yAf,List.flatMap_cons,this];cases l<;>rfl
theorem Ag(ks:List Nat):∀pl:List (List Int),(kB pl).map (dK ks)=kB pl
 |[]=>rfl
 |l::r=>by
  have:=Ag ks r;unfold kB at this|-;rw[yAf,yAf,this];cases l<;>rfl
theorem Mu(n:Nat):List.replicate n fY=kB (List.replicate n []):=by simp[kB]
theorem Pd(h:l≠[]):(kB pl).set k (.pv (zs l))=kB (pl.set k l):=by
 cases l with
 |nil=>exact absurd rfl h
 |cons a r=>unfold kB;rw[yAz]
theorem SO(c:k<=l.length)(z:Option Value)(e n:Nat)(y:Option Value):iW {size:=n,zero:=z,kind:=TK.slice e 1 8 y} (.pv (zs l)) none (some (.pv (.val (.int .i64 (k:Int)))))=some (.pv (zs (l.take k))):=by
 have a:(0:Int)<=(k:Int):=by omega
 have b:0<=k/\k<=(l.map Z).length/\0<1/\(l.map Z).all (pV 1)=true:=⟨ZV _,by simpa using c,by decide,by rw[L4];intro x d;obtain⟨v,_,rfl⟩:=Zv.1 d;rfl⟩;simp only[iW,Zd a,Zo,Zd b,yBl,zs,List.map_take]
def lQ(pl:List (List Int))(L c:Nat):List AV:=(List.range pl.length).map λw=>.pv (zs (if w<c then((pl[w]?).getD []).take L else(pl[w]?).getD []))
theorem HN(pl:List (List Int))(L c:Nat):(lQ pl L c).length=pl.length:=by simp[lQ]
theorem F4(ks:List Nat)(pl:List (List Int))(L c:Nat):(lQ pl L c).map (dK ks)=lQ pl L c:=by
 unfold lQ;rw[List.map_map]
 exact List.map_congr_left λw _=>by simp[oZ,fw]
theorem Mv{L:Nat}(h:∀l∈pl,l≠[]):kB pl=lQ pl L 0:=by
 apply ZM;intro w;by_cases b:w<pl.length
 .have c:=h _ (Zs b)
  simp only[kB,lQ,Y7,an b,List.getElem?_range b,ZS,Zn,Nat.not_lt_zero,Zk];generalize pl[w]=l at *
  cases l with
  |nil=>exact absurd rfl c
  |cons a r=>rfl
 .simp[kB,lQ,b]
theorem RJ{L c:Nat}(h:pl[c]?=some l):(lQ pl L c)[c]?=some (.pv (zs l)):=by
 obtain⟨h1,a⟩:=th.1 h;simp[lQ,h1,a]
theorem Pe{L c:Nat}(h:pl[c]?=some l):(lQ pl L c).set c (.pv (zs (l.take L)))=lQ pl L (c+1):=by
 apply ZM;intro w;rw[Zg,HN];by_cases a:w<pl.length
 .by_cases e:c=w
  .subst e;simp[lQ,a,(th.1 h).2]
  .simp[lQ,a,e,show(w<c+1↔w<c) by omega]
 .by_cases e:c=w
  .subst e;simp[lQ,a]
  .simp[lQ,a,e]
theorem Pf(h:Hp)(pl:List (List Int))(L:Nat):dZ h (lQ pl L pl.length)=some ((List.range pl.length).map λw=>zs (((pl[w]?).getD []).take L),[]):=by
 have key:∀(l:List Nat)(f:Nat->List Int),dZ h (l.map λw=>AV.pv (zs (f w)))=some (l.map λw=>zs (f w),[]):=by
  intro l f
  induction l with
  |nil=>rfl
  |cons a l ih=>rw[yAf,dZ,ih];rfl
 rw[lQ,List.map_congr_left (g:=λw=>AV.pv (zs (((pl[w]?).getD []).take L))) (λw b=>by rw[Zd (ZL.1 b)]),key]
theorem X7(t:fQ)(a goals order:List Int)(b:Int)(ht:TmOk t)(hl:order.length<=9223372036854775807):wo 12 (kA t) (zs a) (zs goals) (zs order) (Z b) (NQ (yU t a goals order b)):=by
 have cc:=RK t ht;have s:=Ty t a ht;have cg:=Ty t goals ht;have cp:=X6 order t.maps.length hl;by_cases E:I7 t a goals order b=true
 .obtain⟨K,ej,hs,hg,eA,I,ei⟩:=KK E
  rw[K]at cc;rw[hs]at s;rw[hg]at cg;rw[I]at cp;obtain⟨T,rfl⟩:∃T:Nat,b=T:=⟨b.toNat,by omega⟩;have ah:=K;simp only[fv,up,Is]at ah;obtain⟨_,et,H,cj,_⟩:=ah
  have t1:¬(T:Int)<1:=by omega
  have t2:¬(64:Int)<(T:Int):=by omega
  obtain⟨n,hn⟩:∃n,n=t.maps.length:=⟨_,rfl⟩;obtain⟨ks,Q⟩:∃ks,ks=order.map Int.toNat:=⟨_,rfl⟩;obtain⟨step,D⟩:∃step,step=λcT k=>DZ t cT k (oV a k) (oV goals k) T:=⟨_,rfl⟩
  have cX:yU t a goals order T=(uB step ks (List.replicate n [])).map xP:=by
   rw[yU,Zd E,D,Q,hn];rfl
  have cz:=O7 I;have b3:=Po I;rw[<-Q]at cz b3;rw[cX]
  have q1:((n:Int))*24<=281474976710656:=by omega
  have q2:(24*(n:Int))<=281474976710656:=by omega
  have q3:(n:Int)<=9223372036854775807:=by omega
  obtain⟨rs,cN⟩:∃rs,rs=List.replicate n fY:=⟨_,rfl⟩;rw[<-hn]at cp;refine Dp func12 λC hP hN=>?_
  with_reducible repeat' (first|refine Sp.h ?_|((first|refine Wh [1000052] ?_|refine Wi [1000052] ?_|refine Ss.h ?_|refine Sc.h (cc) ?_|refine Sc.h (s) ?_|refine Sc.h (cg) ?_|refine Sc.h (cp) ?_|(refine Sb.h ?_ ?_ ?_<;>(try intro hgd)<;>try exact Xy))<;>simp -implicitDefEqProofs [hP,hN,t1,t2,hn.symm,q1,q2,q3,<-cN]<;>try refine Ya ?_)|refine X2 ?_ ?_|(refine Xd ?_ ?_<;>intro hcd<;>try exact Xx))
  obtain⟨J,ad⟩:∃J,uB step ks (List.replicate n [])=J:=⟨_,rfl⟩;rw[ad]
  have cM:order.length=n:=by
   have:=I;simp only[kC,up,Is]at this;rw[hn];exact this.1
  have eu:a.length=n:=by simp only[l8,up,Is]at hs;rw[hn];exact hs.1
  have ep:goals.length=n:=by simp only[l8,up,Is]at hg;rw[hn];exact hg.1
  rw[cM,cN,Mu]
  refine WP.loopN [16] n (λj st=>st.t 5=.ptr 5 0/\st.h 5=some (.box [.pv (.sl (t.maps.map bf)),.pv (.sl (t.conf.map bR))] true false)/\st.t 1=.pv (zs a)/\st.t 2=.pv (zs goals)/\st.t 4=.pv (Z T)/\st.t 12=.ext (.barr 52 n n)/\st.t 53=.pv (zs order)/\st.t 54=.pv (Z n)/\st.t 55=.pv (Z j)/\st.h 16=none/\∃pl,st.t 13=.pv (Z (mO pl))/\st.h 52=some (.box (kB pl) true false)/\PIn t T ks j pl/\uB step (ks.drop j) pl=J) (by
   simp[Ag]
   exact⟨_,by rw[I0];rfl,rfl,by rw[hn];exact PIn.init b3,ad⟩) ?_
  rintro j st hj ⟨g5,b5,g1,g2,g4,p,S,U,V,a6,pl,q,d,o,N⟩;by_cases X:j<n
  .have ee:=ab X (by omega)
   have W:j<order.length:=by omega
   have a7:=l6 W
   have r:ks[j]?=some order[j].toNat:=by rw[Q,Y7,a7];rfl
   have O:=b3 _ (An r)
   have eB:0<=order[j]:=by
    have:=I;simp only[kC,up,Is,L4,ZL,List.contains_iff_mem]at this;exact((FZ _ _ (by omega) this.2).2 _ (Zs W)).1
   generalize cS:order[j]=z at *;obtain⟨k,rfl⟩:∃k:Nat,z=k:=⟨z.toNat,by omega⟩;rw[Zo]at r O
   have cx:k<n:=by omega
   have bq:ks.drop j=k::ks.drop (j+1):=by
    have cu:=(th.1 r);rw[yBp cu.1,cu.2]
   rw[bq,uB]at N;have Y:t.maps[k]?=some t.maps[k]:=an O;have ck:dc t.maps[k]=true:=L4.1 cj _ (Zs O);generalize hx:t.maps[k]=m at *;obtain⟨e1,e2⟩:=xF Y;have cQ:=ck;simp only[dc,up,Is]at cQ;have c1:=Tv m ck;obtain⟨ns,b9⟩:∃ns,ns=(List.range m.np.length).map λv=>zs (jh m v):=⟨_,rfl⟩;rw[<-b9]at c1
   have cB:ns.length=l7 t k:=by rw[b9,e1];simp
   have cD:∀v,v<l7 t k->ns[v]?=some (zs ((gi (qK t k) (l7 t k) v).map λu=>((u:Nat):Int))):=by
    intro v hv;rw[e1]at hv;rw[b9,<-Kp Y hv,<-Bm ck hv];simp[hv]
   have c2:=XW t pl k T K H (by rw[o.ok.1]) o.ok.2 (by omega);have dn:=HP hs O;have c8:=HP hg O
   have c3:=X4 (l7 t k) (qK t k) (NT t pl k) ns (oV a k) (oV goals k) T 74 (.sl (sG t.conf pl k T)) cB cD (by rw[e1];exact cQ.1) (by omega) dn c8 (by
    intro i v u hi hv hu;have:=XU (sG t.conf pl k T) i v u (oL t.conf pl k i t.conf.length) (t.conf.any (Ga pl k i v u)) (by simp[sG,hi]) (by have h9:=HH t.conf pl k i v u t.conf.length;rw[yAS]at h9;exact h9)
    exact this)
   rw[show yS (l7 t k) (qK t k) (NT t pl k) (oV a k) (oV goals k) T=step pl k by rw[D];rfl]at c3
   have R:k<a.length:=by omega
   have P:k<goals.length:=by omega
   have ch:a[k]?=some ((oV a k:Nat):Int):=by
    have:=hs;simp only[l8,up,Is,L4,ZL]at this;have h8:=this.2 k (by omega);rw[dT]at h8;unfold oV;rw[l6 R]at h8|-;simp only[Zn]at h8|-;rw[Int.toNat_of_nonneg h8.1]
   have b2:goals[k]?=some ((oV goals k:Nat):Int):=by
    have:=hg;simp only[l8,up,Is,L4,ZL]at this;have h8:=this.2 k (by omega);rw[dT]at h8;unfold oV;rw[l6 P]at h8|-;simp only[Zn]at h8|-;rw[Int.toNat_of_nonneg h8.1]
   have ar:∀h,a[k]'h=((oV a k:Nat):Int):=λh=>(th.1 ch).2;have aj:∀h,goals[k]'h=((oV goals k:Nat):Int):=λh=>(th.1 b2).2;have A:=λh=>HM h pl;have cd:=F3 pl
   have f:(kB pl).length=n:=by rw[O9,o.ok.1,hn]
   have cf:=λ(l:List Int)(h:l≠[])=>Pd (pl:=pl) (k:=k) h
   have dd:(k:Int)<(n:Int):=by omega
   have cv:k+1<=n:=by omega
   have G:∀x,(kB pl).take k++x::(kB pl).drop (k+1)=(kB pl).set k x:=λx=>ik (by omega);have cP:=λl(h:step pl k=some l)=>KJ (t:=t) (by rw[D]at h;exact h);have g:=λks=>Ag ks pl;generalize oV a k=s0 at *;generalize oV goals k=g0 at *;generalize ez:step pl k=sr at *
   cases sr with
   |none=>
    generalize kB pl=s at *;have:J=none:=N.symm;subst this
    with_reducible repeat' (first|refine Sp.h ?_|((first|refine Wd ?_|refine Ss.h ?_|refine Sc.h (c1) ?_|refine Sc.h (c2) ?_|refine Sc.h (c3) ?_)<;>simp -implicitDefEqProofs [hP,hN,g5,b5,g1,g2,g4,p,S,U,V,a6,q,d,X,a7,W,cS,hx,Y,O,cx,R,P,ch,b2,ar,aj,A,cd,f]<;>try refine Ya ?_))
    trace_state
   |some l=>
    have b7:=cP l rfl
    have di:l≠[]:=by intro e;subst e;simp at b7
    have c4:=Yi l (by omega);have ct:=o.set cz r b7;have dj:=Ku (l:=l) (o.todo j (Zf _) k r);have F:=cf l di;obtain⟨s,M⟩:∃s,s=kB pl:=⟨_,rfl⟩;rw[<-M]at A cd f G g F d;refine GT (zAe g5 b5 g1 g2 g4 p S U V a6 q d X a7 (zAe W cS hx Y O cx R P ch b2 ar aj A cd (it f dd cv G ee))) ?_;exact⟨pl.set k l,by rw[dj];split<;>omega,by rw[g,F],ct,N⟩
  .have c9:j=n:=by omega
   subst c9
   have ef:ks.length=j:=by rw[Q,ZB,cM]
   rw[List.drop_of_length_le (by omega)]at N;have hR:J=some pl:=N.symm;subst hR
   have ca:pl.length=j:=by rw[o.ok.1,hn]
   have full:∀k,k<j->∃l,pl[k]?=some l/\l.length=T+1:=λk O=>by
    have hm:=MG I k (by omega);rw[<-Q]at hm;obtain⟨i,hi⟩:=yAl.1 hm;obtain⟨l,h1,h2⟩:=o.done i (by have:=(th.1 hi).1;omega) k hi;rcases o.ok.2 l (An h1)with h|h
    .exact absurd h h2
    .exact⟨l,h1,h⟩
   have hL:=Mt (pl:=pl) (T:=T) (by omega) (λl hl=>by
    rcases o.ok.2 l hl with h|h
    .rw[h];exact ZV _
    .omega)
   have b4:∀l∈pl,l≠[]:=λl hl=>by
    obtain⟨k,O⟩:=yAl.1 hl;obtain⟨l',h1,h2⟩:=full k (by have:=(th.1 O).1;omega);rw[O]at h1;injection h1 with h1;subst h1;intro e;subst e;simp at h2
   rw[Mv (L:=mO pl+1) b4]at d
   have ea:(xP pl).map zs=(List.range j).map λw=>zs (((pl[w]?).getD []).take (mO pl+1)):=by
    rw[xP,<-ca];apply ZM;intro w;by_cases hw:w<pl.length
    all_goals simp[hw]
   rw[ZS];show WP C _ (_:Exit->St->Prop) st;rw[show NQ (some (xP pl))=.tup [.sl ((List.range j).map λw=>zs (((pl[w]?).getD []).take (mO pl+1))),B true] by rw[<-ea]];generalize mO pl=L at *;obtain⟨y,cU⟩:∃y,y=L+1:=⟨_,rfl⟩;rw[<-cU]at d|-
   have eb:i64.wrap ((L:Int)+1)=(y:Int):=by rw[IntKind.wrap_i64];omega
   refine GT (zAb g5 b5 p S U V q (gA d X)) ?_;refine WP.loopN [] j (λc st=>st.t 12=.ext (.barr 52 j j)/\st.t 13=.pv (Z L)/\st.t 97=.pv (Z j)/\st.t 98=.pv (Z c)/\st.h 52=some (.box (lQ pl y c) true false)) (by simp[F4,p,q,d]) ?_;clear g5 b5 g1 g2 g4 p S U V a6 q d st;rintro c st hc ⟨p,q,cm,cn,d⟩;have g:=λks=>F4 ks pl y c
   have f:(lQ pl y c).length=j:=by rw[HN,ca]
   by_cases H:c<j
   .have ec:=ab H (by omega)
    obtain⟨l,hx,b7⟩:=full c H;have a8:=RJ (L:=y) hx;have ak:=Pe (L:=y) hx;obtain⟨s,M⟩:∃s,s=lQ pl y c:=⟨_,rfl⟩;rw[<-M]at a8 ak d g f;have cr:∀h,s[c]'h=.pv (zs l):=λh=>(th.1 a8).2;have G:∀x,s.take c++x::s.drop (c+1)=s.set c x:=λx=>ik (by omega)
    have c0:c+1<=j:=by omega
    have c7:(c:Int)<(j:Int):=by omega
    have cq:y<=l.length:=by omega
    have cV:(y:Int)<=(l.length:Int):=by omega
    have eE:(zs (l.take y))=.sl ((l.map Z).take y):=by rw[zs,List.map_take]
    refine GT (zAe p q cm cn d H ec a8 cr G c0 c7 f eb (be cq cV (SO cq))) ?_;rw[g,ak]
   .have c5:c=j:=by omega
    subst c5;have A:=λh=>Pf h pl y;rw[ca]at A;obtain⟨s,M⟩:∃s,s=lQ pl y c:=⟨_,rfl⟩;rw[<-M]at A d g f;exact GS (zAb p q cm cn d H f A)
 .have b8:yU t a goals order b=none:=by rw[yU,Y6 E]
  rw[b8];have cb:¬(fv t&&(l8 t a&&(l8 t goals&&(decide (1<=b)&&(decide (b<=64)&&kC order t.maps.length)))))=true:=E;generalize fv t=v1 at *;generalize l8 t a=v2 at *;generalize l8 t goals=v3 at *;generalize kC order t.maps.length=v4 at *;refine Dp func12 λC hP hN=>?_
  cases v1 with
  |false=>
   exact GS trivial
  |true=>
   cases v2 with
   |false=>
    exact GS trivial
   |true=>
    cases v3 with
    |false=>
     exact GS trivial
    |true=>
     by_cases h1:b<1
     .skip
      exact GS h1
     .by_cases h2:64<b
      .skip
       exact GS (gA h1 h2)
      .cases v4 with
       |false=>
        exact GS (gA h1 h2)
       |true=>exact absurd (by simp;omega) cb
def F5[DecidableEq α](xs ys:List α)(i:Nat):Bool:=decide (xs[i]?=ys[i]?)
theorem HO[DecidableEq α]{xs ys:List α}(h:xs.length=ys.length):decide (xs=ys)=(List.range xs.length).all (F5 xs ys):=by
 rw[Bool.eq_iff_iff,Is,L4];constructor
 .rintro rfl i _;simp[F5]
 .intro a
  apply ZM;intro i;by_cases hi:i<xs.length
  .simpa[F5]using a i (ZL.2 hi)
  .rw[Zh (by omega),Zh (by omega)]
theorem X8(xs ys:List Int)(l:xs.length<=9223372036854775807):aF 46 (zs xs) (zs ys) (B (decide (xs=ys))):=by
 refine Dp func46 λC hP hN=>?_;by_cases a:xs.length=ys.length
 .rw[HO a]
  obtain⟨p,hp⟩:∃p,p=F5 xs ys:=⟨_,rfl⟩;rw[<-hp];obtain⟨R,f⟩:∃R,(List.range xs.length).all p=R:=⟨_,rfl⟩;rw[f];refine Gz ?_;refine WP.loopN [] ys.length (λi st=>st.t 0=.pv (zs xs)/\st.t 1=.pv (zs ys)/\st.t 5=.pv (Z i)/\tA p i) (by simp[ny]) ?_;rintro i st hi ⟨g0,g1,g5,hq⟩;by_cases c:i<ys.length
  .have b:i<xs.length:=by omega
   have n:=ab b l;have hn:=nA (p:=p) hq;have k:=nB (p:=p) b;rw[f]at k;have a1:=l6 b;have j:=l6 c
   have d:p i=decide (xs[i]=ys[i]):=by rw[hp];simp[F5,a1,j]
   generalize o:xs[i]=x at *;generalize q:ys[i]=y at *;by_cases e:x=y
   .have g:=hn (by rw[d];simp[e])
    subst e;refine GT (zAc g0 g1 g5 c b n a1 j o (gA q a)) ?_
    all_goals exact g
   .rw[k (by rw[d];simp[e])]
    have r:(x !=y)=true:=by simp[e]
    have s:(x==y)=false:=by simp[e]
    exact Gy
  .rw[qn hq (show¬i<xs.length by omega)]at f
   rw[<-f];exact GS (it g0 g1 g5 c a)
 .rw[Z9 (λe=>a (by rw[e]))]
  have m:¬((xs.length:Nat):Int)=((ys.length:Nat):Int):=by omega
  exact Gy
theorem X9(xs ys:List (List Int))(o:xs.length<=9223372036854775807)(l:∀x∈xs,x.length<=9223372036854775807):aF 19 (.sl (xs.map zs)) (.sl (ys.map zs)) (B (decide (xs=ys))):=by
 refine Dp func19 λC hP hN=>?_;by_cases b:xs.length=ys.length
 .rw[HO b]
  obtain⟨p,hp⟩:∃p,p=F5 xs ys:=⟨_,rfl⟩;rw[<-hp];obtain⟨R,f⟩:∃R,(List.range xs.length).all p=R:=⟨_,rfl⟩;rw[f];refine Gz ?_;refine WP.loopN [] ys.length (λi st=>st.t 0=.pv (.sl (xs.map zs))/\st.t 1=.pv (.sl (ys.map zs))/\st.t 5=.pv (Z i)/\tA p i) (by simp[ny]) ?_;rintro i st hi ⟨g0,g1,g5,hq⟩;by_cases c:i<ys.length
  .have a:i<xs.length:=by omega
   have r:=ab a o;have hn:=nA (p:=p) hq;have n:=nB (p:=p) a;rw[f]at n;have a1:xs[i]?=some xs[i]:=an a;have m:ys[i]?=some ys[i]:=an c
   have k:p i=decide (xs[i]=ys[i]):=by rw[hp];simp[F5,a1,m]
   have g:=X8 xs[i] ys[i] (l _ (Zs a));rw[<-k]at g;generalize s:xs[i]=x at *;generalize u:ys[i]=y at *
   cases d:p i with
   |true=>
    rw[d]at g;have j:=hn d;refine GT (zAc g0 g1 g5 c a r a1 m s (gA u b)) ?_
    all_goals exact j
   |false=>
    rw[d]at g;rw[n d];exact Gy
  .rw[qn hq (show¬i<xs.length by omega)]at f
   rw[<-f];exact GS (it g0 g1 g5 c b)
 .rw[Z9 (λe=>b (by rw[e]))]
  have q:¬((xs.length:Nat):Int)=((ys.length:Nat):Int):=by omega
  exact Gy
def DX:eR:=⟨[zs [0],zs [1]],[vK 0 1 1]⟩
def oO:fQ:=⟨[DX,DX],[(⟨0,0,1⟩,⟨1,0,1⟩)]⟩
theorem Yb:BC 18 (kA oO):=by
 have c1:=XT;refine Dp func18 λC hP hN=>?_;refine Gz ?_
 all_goals exact⟨rfl,rfl⟩
theorem CB:TmOk oO:=by
 refine⟨λ_ _ _ _=>trivial,by decide,by decide,λm a=>?_,λm a=>?_⟩
 all_goals
  have:m=DX:=by simpa[oO]using a
  subst this;decide
theorem Kv:yU oO [0,0] [1,1] [0,1] 5=some [[0,1,1],[0,0,1]]:=by decide +kernel
theorem Mw:MF oO [0,0] [1,1] [[0,1,1],[0,0,1]]=true:=by decide +kernel
theorem Mx:fv oO=true:=by decide +kernel
theorem d5:BC 5 (B true):=by
 have f:=Yb;have c1:=X7 oO [0,0] [1,1] [0,1] 5 CB (by decide);rw[Kv]at c1;have b:=X9 [[0,1,1],[0,0,1]] [[0,1,1],[0,0,1]] (by decide) (by decide);rw[ZH rfl]at b;have c:=Yl oO [0,0] [1,1] [[0,1,1],[0,0,1]] CB ⟨by decide,by decide⟩ (by decide) (by decide);rw[Mw]at c;have d:=RK oO CB;rw[Mx]at d;obtain⟨a,e⟩:∃a,a=kA oO:=⟨_,rfl⟩;refine Dp func5 λC hP hN=>?_;exact GS trivial
theorem d3(c:List Sce)(bs:List Vc)(d:List ga)(D:Int)(l:List Int)(hs:∀s∈c,ScL s)(I:c.length<=9223372036854775807)(H:bs.length<=9223372036854775807)(hq:d.length<=9223372036854775807)(z:∀q∈d,q.1.length<=9223372036854775807/\q.2.length<=9223372036854775807/\∀x∈q.1,x.length<=9223372036854775807):wo 3 (.sl (c.map aN)) (aw bs) (gl d) (Z D) (zs l) (B true):=by
 have T:=d5;have V:=d8 l;have cR:=d9 D 5 (by decide);have Y:=GD D (k:=5) (by decide) (by decide)
 have R:i64.wrap (mh D 5-1)=mh D 5-1:=by rw[IntKind.wrap_i64];omega
 have L:=λ(s:Sce)=>d6 s;have K:∀q:ga,aR 7 (bf (bn q)) (B (xE (bn q))):=λq=>d7 (bn q);have E:=Sa l (og l);have xl:=Hd l (og l);have bl:=Fa l (og l);have ql:=Fb l (og l);have W:=(JX l).1
 have J:∀q∈o8 l (og l),q.1.length<=100/\q.2.length<=9223372036854775807/\∀x∈q.1,x.length<=9223372036854775807:=by
  intro q hq;obtain⟨b,rfl⟩:=Ql l _ q hq;obtain⟨h1,v,N,O⟩:=Oq b;exact⟨by omega,by omega,λx o=>by have:=O x o;omega⟩
 generalize wc l (og l)=X at *;generalize rX l (og l)=F at *;generalize o8 l (og l)=G at *;generalize og l=k at *;generalize mh D 5=r at *;have U:=NS X F G (r-1) E (by omega) (by omega) (by omega) J;by_cases h1:3<c.length
 .skip
  refine Dp func3 λC hP hN=>?_;exact Gy
 by_cases v:6<bs.length
 .skip
  refine Dp func3 λC hP hN=>?_;exact Gy
 by_cases N:3<d.length
 .skip
  refine Dp func3 λC hP hN=>?_;exact Gy
 refine Dp func3 λC hP hN=>?_;refine Gz ?_;refine WP.loopN [] c.length (λi st=>st.t 0=.pv (.sl (c.map aN))/\st.t 1=.pv (aw bs)/\st.t 2=.pv (gl d)/\st.t 3=.pv (Z D)/\st.t 4=.pv (zs l)/\st.t 11=.pv (Z i)) (by simp) ?_;rintro i st hi ⟨g0,g1,g2,g3,g4,u⟩;by_cases f:i<c.length
 .have Q:=ab f I
  have o:c[i]?=some c[i]:=an f;have c1:=L c[i];generalize A:c[i]=s at *
  cases g:RM s with
  |false=>
   rw[g]at c1;exact Gy
  |true=>
   rw[g]at c1;exact Gy
 refine Gz ?_;refine WP.loopN [] d.length (λi st=>st.t 0=.pv (.sl (c.map aN))/\st.t 1=.pv (aw bs)/\st.t 2=.pv (gl d)/\st.t 3=.pv (Z D)/\st.t 4=.pv (zs l)/\st.t 12=.pv (Z i)/\∀j q,j<i->d[j]?=some q->xE (bn q)=true) (by simp[g0,g1,g2,g3,g4]) ?_;clear g0 g1 g2 g3 g4 u f hi i st;rintro i st hi ⟨g0,g1,g2,g3,g4,M,m⟩;by_cases f:i<d.length
 .have Q:=ab f hq
  have o:d[i]?=some d[i]:=an f
  have S:(d.map λq=>bf (bn q))[i]?=some (bf (bn d[i])):=by rw[Y7,o];rfl
  have c1:=K d[i];generalize A:d[i]=s at *
  cases g:xE (bn s)with
  |false=>
   rw[g]at c1;exact Gy
  |true=>
   rw[g]at c1
   have P:∀j q,j<i+1->d[j]?=some q->xE (bn q)=true:=by
    intro j q y h;by_cases e:j=i
    .subst e;rw[o]at h;injection h with h;subst h;exact g
    .exact m j q (by omega) h
   refine Gz ?_
   all_goals exact λj a b h1 v=>P j (a,b) h1 v
 have p:∀q∈d,q.1.length<=100/\q.2.length<=9223372036854775807/\∀x∈q.1,x.length<=9223372036854775807:=by
  intro q n;obtain⟨j,y⟩:=ZF n;have h:=m j q (by have:=(th.1 y).1;omega) y;simp only[xE,bn,up,Is,ZB]at h;exact⟨by omega,(z q n).2⟩
 have d1:=NS c bs d (r-1) hs I H hq p;have d3:=NS X F d (r-1) E (by omega) (by omega) hq p;have d4:=NS X bs G D E (by omega) H (by omega) J;exact Gy
end Go.Ab
