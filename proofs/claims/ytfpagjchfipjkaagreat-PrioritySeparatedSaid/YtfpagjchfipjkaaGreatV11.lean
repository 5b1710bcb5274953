/- The contracts and facts that the laws of this seat need, in one text (KR15, KR16, KR17, K19, KR18, KR19, Xr2, Cr6, Cr7, Jn3, Jn4, Jn5, Cn6, Cn2, Cn7, M17, M18, M19, M20, M21, M22, M23, M24, AbV, Pc3). -/
import Derived.Test.YtfpagjchfipjkaaGreatV10
set_option linter.all false
set_option maxRecDepth 10000
set_option maxHeartbeats 16000000
namespace Go.Ab
open IntKind (i64)
open Go.Proofs.Tryz
open Go.Proofs
variable {A:Sce}{C:Cx}{N T i k n v:Nat}{PR:List (Nat×Nat)}{PT:List (List aq)}{Q:Exit->St->Prop}{SH:List Sh}{c:Code}{f lg:Nat->Nat->Bool}{g:Nat->Bool}{h:Hp}{hints:List Vc}{j:J}{js:List J}{ks:List Nat}{l order:List Int}{pl q:List (List Int)}{ps:Nat->Nat->Nat->Bool}{st:St}{α:Type}{p:α->Bool}
theorem Tc(a b:List Vc)(rho steps:Int)(ha:a.length<=9223372036854775807)(hb:b.length<=9223372036854775807):mD 87 (aB a) (aB b) (Z rho) (Z steps) (NG (iS a b rho steps)):=by
 have ca:=QT a ha;have cb:=QT b hb
 have b4:ri a b rho steps=false->iS a b rho steps=(0,⟨[],[],(0,0,0),0⟩):=λh=>by simp[iS,h]
 have hd:ri a b rho steps=(eP a&&eP b&&aP rho 0 2097152&&aP steps 0 64):=rfl
 cases hA:eP a with
 |false=>
  rw[hA]at ca;rw[b4 (by rw[hd,hA];rfl)];refine Dp func87 λC hP hN=>?_;exact GS trivial
 |true=>
 rw[hA]at ca
 cases hB:eP b with
 |false=>
  rw[hB]at cb;rw[b4 (by rw[hd,hB,yAc];rfl)];refine Dp func87 λC hP hN=>?_;exact GS trivial
 |true=>
 rw[hB]at cb;by_cases b8:rho<0\/2097152<rho\/steps<0\/64<steps
 .have hf:ri a b rho steps=false:=by
   cases h:ri a b rho steps with
   |false=>rfl
   |true=>
    rw[hd]at h;simp only[aP,up,Is]at h;omega
  rw[b4 hf];rcases b8 with h|h|h|h
  all_goals
   refine Dp func87 λC hP hN=>?_;exact GS h
 have q1:¬rho<0:=by omega
 have q2:¬2097152<rho:=by omega
 have q3:¬steps<0:=by omega
 have q4:¬64<steps:=by omega
 have ia:=jw.1 hA;have ib:=jw.1 hB;obtain⟨M,cx⟩:∃M:Nat,steps=M:=⟨steps.toNat,by omega⟩;subst cx
 have hr:iS a b rho M=kf a b rho M (M+1) (tr a b):=by
  have:ri a b rho M=true:=by
   rw[hd,hA,hB];simp[aP];omega
  simp[iS,this]
 rw[hr];obtain⟨R,hR⟩:∃R,R=kf a b rho M (M+1) (tr a b):=⟨_,rfl⟩;rw[<-hR]
 have f1:(8:Int)*(a.length:Int)<=281474976710656:=by omega
 have f2:(8:Int)*(b.length:Int)<=281474976710656:=by omega
 have f3:(a.length:Int)<=9223372036854775807:=by omega
 have f4:(b.length:Int)<=9223372036854775807:=by omega
 have f5:0<a.length:=by omega
 have f6:0<b.length:=by omega
 refine Dp func87 λC hP hN=>?_;refine GT (zAa q1 q2 q3 q4 f1 f2 f3 f4 f5 f6) ?_;refine WP.loopN [10,11,12,16] M (λi st=>∃(s:NSt)(X Y:AV),NsOk a b s/\s.r=i/\kf a b rho M (M+1-i) s=R/\st.t 0=.pv (aB a)/\st.t 1=.pv (aB b)/\st.t 2=.pv (Z rho)/\st.t 3=.pv (Z M)/\st.t 8=.ptr 8 0/\st.h 8=some (.box [.pv (Z 0),.pv (Z 0),.pv (Z 0),.pv (Z 0),.pv (.val (.slice none 0 0)),.pv (.val (.slice none 0 0)),.pv (Z 0)] true false)/\st.t 9=.ptr 9 0/\st.h 10=none/\st.h 11=none/\st.h 12=none/\st.h 16=none/\st.h 9=some (.box [.pv (Z 0),.pv (Z s.n.1),.pv (Z s.n.2.1),.pv (Z s.n.2.2),X,Y,.pv (Z s.r)] true false)/\((X=.arr 47 a.length/\Y=.arr 50 b.length/\st.h 47=some (.row 2 1 (s.w.map Z) 0)/\st.h 50=some (.row 2 1 (s.v.map Z) 0))\/(X=.pv (zs s.w)/\Y=.pv (zs s.v)))) ?_ ?_
 .refine⟨tr a b,.arr 47 a.length,.arr 50 b.length,Ft ia.1 ib.1,rfl,hR.symm,?_⟩
  simp[tr]
 rintro i st hi ⟨s,X,Y,hs,cj,c,g0,g1,g2,g3,T,D,U,h10,h11,A,B,l,N⟩
 have cv:M+1-i=(M-i)+1:=by omega
 rw[cv,kf]at c;obtain⟨S,Q,n0,r⟩:=s;have b2:=hs.w;have bq:=hs.v;have k:=hs.wl;have j:=hs.vl;simp only at b2 bq k j cj l N;subst cj;have f:=vz (rho:=rho) (steps:=M) hA hB hs;have O:=Fs hA hB hs;have cX:=QU a S ia.2.1 k ia.2.2 b2;have c0:=QU b Q ib.2.1 j ib.2.2 bq;have cD:=jv ia.2.2 b2 a.length (by omega);have cO:=jv ib.2.2 bq b.length (by omega);have cM:=Mj (bO a S a.length) (bO b Q b.length) (jf cD (by decide)) (jf cO (by decide));have hT:aL (bO a S a.length) (bO b Q b.length)=dB a S b Q:=rfl;rw[hT]at cM;have cN:=VV (dB a S b Q) rho O ⟨by omega,by omega⟩;have ad:=Kq O;have b5:=QW (iK (dB a S b Q)) (jf ad (by decide));have V:=Dn (iK (dB a S b Q)) (jf ad (by decide));have cq:iK (dB a S b Q)=((dB a S b Q).1.tdiv 65536,(dB a S b Q).2.1.tdiv 65536,(dB a S b Q).2.2.tdiv 65536):=rfl;rw[pC]at c f;simp only at c f
 have xw:∀y:Int,-35184372088832<=y->y<=35184372088832->i64.wrap (y.tdiv 65536)=y.tdiv 65536:=λy p q=>by
  have e:=Int.natAbs_tdiv_le_natAbs y 65536;exact aa (by omega) (by omega)
 have x1:=xw _ O.1.1 O.1.2;have x2:=xw _ O.2.1.1 O.2.1.2;have x3:=xw _ O.2.2.1 O.2.2.2;clear xw hs;generalize bO a S a.length=S1 at *;generalize bO b Q b.length=S2 at *;generalize dB a S b Q=d at *
 cases hc:po d rho with
 |true=>
  rw[hc]at cN c;simp only[Za]at c;rw[<-c];rcases N with⟨rfl,rfl,E,F⟩|⟨rfl,rfl⟩
  .skip
   exact GS (zAc g0 g1 g2 g3 T D U h10 h11 A B l E F (gA k j))
  .skip
   exact GS (zAb g0 g1 g2 g3 T D U h10 h11 A B (be l k j))
 |false=>
 rw[hc]at cN c f;simp only[YU,Y5]at c f
 have cc:aZ (iK d)=aZ ((d.1.tdiv 65536,d.2.1.tdiv 65536,d.2.2.tdiv 65536)):=by rw[<-cq]
 generalize c4:iK d=x at *;subst cq;generalize c2:aZ (d.1.tdiv 65536,d.2.1.tdiv 65536,d.2.2.tdiv 65536)=n at *;clear cc
 cases cd:nz n with
 |false=>
  rw[cd]at b5 c;simp only[Za]at c;rw[<-c];rcases N with⟨rfl,rfl,E,F⟩|⟨rfl,rfl⟩
  .skip
   exact GS (zAc g0 g1 g2 g3 T D U h10 h11 A B l E F (it k j x1 x2 x3))
  .skip
   exact GS (zAc g0 g1 g2 g3 T D U h10 h11 A B l k j (be x1 x2 x3))
 |true=>
 rw[cd]at b5 c f;simp only[Bool.true_eq_false,Y5]at c f;have KJ:=QX n a V ia.1 ia.2.1 ia.2.2;have cP:=QZ n b V ib.1 ib.2.1 ib.2.2;have cQ:=Rh n;have hq:=vO n;have l1:=rh (bet:=dO) V ia.2.2;have l2:=rh (bet:=dP) V ib.2.2;have i1:=nq (bet:=dO) (n:=n) ia.1;have i2:=nq (bet:=dP) (n:=n) ib.1;obtain⟨p0,cg⟩:∃p0,a[0]?=some p0:=⟨_,an (by omega)⟩;obtain⟨p1,ch⟩:∃p1,b[0]?=some p1:=⟨_,an (by omega)⟩;obtain⟨G,o,cm⟩:=qu (bet:=dO) (n:=n) cg a.length;obtain⟨pb,z,cn⟩:=qu (bet:=dP) (n:=n) ch b.length
 have b7:bN dO n a=cJ dO n p0 a a.length:=by simp[bN,cg]
 have b9:bN dP n b=cJ dP n p1 b b.length:=by simp[bN,ch]
 rw[<-b7]at o cm;rw[<-b9]at z cn;clear b7 b9;generalize bN dO n a=lo at *;generalize bN dP n b=L at *;generalize eY n=q at *;have c3:=bi (a:=q) (b:=rho) 32768 2097152 (by omega) (by omega) (by omega) (by omega);have e4:i64.wrap (lo.1-L.1)=lo.1-L.1:=aa;have e5:i64.wrap (q*rho)=q*rho:=aa;generalize H:q*rho=qr at *
 have I:∀h,a[lo.2]'h=G:=λh=>by rw[an h]at o;exact ZB o
 have J:∀h,b[L.2]'h=pb:=λh=>by rw[an h]at z;exact ZB z
 have sa:=dD (L4.1 ia.2.2 G (An o));have sb:=dD (L4.1 ib.2.2 pb (An z));have ct:=CE n G 16384 268435456 (xv V) sa (by decide);have cu:=CE n pb 16384 268435456 (xv V) sb (by decide);rw[<-cm]at ct;rw[<-cn]at cu;have cA:=Mj G pb (jf sa (by decide)) (jf sb (by decide));have cr:=sh sa sb;have ar:er 536870912 (d.1.tdiv 65536,d.2.1.tdiv 65536,d.2.2.tdiv 65536):=ad;have b3:=lI (d.1.tdiv 65536,d.2.1.tdiv 65536,d.2.2.tdiv 65536) (aL G pb);rw[o,z]at c f;simp only[Y8]at c f;have w1:i64.wrap lo.1=lo.1:=aa;have w2:i64.wrap L.1=L.1:=aa;by_cases g:qr<lo.1-L.1
 .rw[YY g]at c
  simp only at c;rw[<-c];rcases N with⟨rfl,rfl,E,F⟩|⟨rfl,rfl⟩
  .skip
   exact GS (zAc g0 g1 g2 g3 T D U h10 h11 A B l E F (zAc k j x1 x2 x3 o z I J i1 i2 e4 e5 H g))
  .skip
   exact GS (zAc g0 g1 g2 g3 T D U h10 h11 A B l k j (zAb x1 x2 x3 o z I J i1 i2 e4 e5 (gA H g)))
 rw[YR g]at c f;have cB:=Mj (d.1.tdiv 65536,d.2.1.tdiv 65536,d.2.2.tdiv 65536) (aL G pb) (jf ar (by decide)) (jf cr (by decide));have he:=sh ar cr;have cU:=CE (d.1.tdiv 65536,d.2.1.tdiv 65536,d.2.2.tdiv 65536) (aL (d.1.tdiv 65536,d.2.1.tdiv 65536,d.2.2.tdiv 65536) (aL G pb)) 536870912 1073741824 ar he (by decide);have cV:=CE (aL (d.1.tdiv 65536,d.2.1.tdiv 65536,d.2.2.tdiv 65536) (aL G pb)) (aL (d.1.tdiv 65536,d.2.1.tdiv 65536,d.2.2.tdiv 65536) (aL G pb)) 1073741824 1073741824 he he (by decide);obtain⟨r1,r2,r3⟩:=ld (m:=536870912) (n:=1073741824) ar he;obtain⟨t1,t2,t3⟩:=ld (m:=1073741824) (n:=1073741824) he he
 have hu:-1729382256910270464<=bf (d.1.tdiv 65536,d.2.1.tdiv 65536,d.2.2.tdiv 65536) (aL (d.1.tdiv 65536,d.2.1.tdiv 65536,d.2.2.tdiv 65536) (aL G pb))/\bf (d.1.tdiv 65536,d.2.1.tdiv 65536,d.2.2.tdiv 65536) (aL (d.1.tdiv 65536,d.2.1.tdiv 65536,d.2.2.tdiv 65536) (aL G pb))<=1729382256910270464:=by unfold bf;omega
 have hv:bf (aL (d.1.tdiv 65536,d.2.1.tdiv 65536,d.2.2.tdiv 65536) (aL G pb)) (aL (d.1.tdiv 65536,d.2.1.tdiv 65536,d.2.2.tdiv 65536) (aL G pb))<=3458764513820540928:=by unfold bf;omega
 have cz:=Bn (aL (d.1.tdiv 65536,d.2.1.tdiv 65536,d.2.2.tdiv 65536) (aL G pb))
 have a8:lf (d.1.tdiv 65536,d.2.1.tdiv 65536,d.2.2.tdiv 65536) (aL G pb)=if bf (d.1.tdiv 65536,d.2.1.tdiv 65536,d.2.2.tdiv 65536) (aL (d.1.tdiv 65536,d.2.1.tdiv 65536,d.2.2.tdiv 65536) (aL G pb))<=0 then 0 else min 256 (bf (d.1.tdiv 65536,d.2.1.tdiv 65536,d.2.2.tdiv 65536) (aL (d.1.tdiv 65536,d.2.1.tdiv 65536,d.2.2.tdiv 65536) (aL G pb))/max 1 (bf (aL (d.1.tdiv 65536,d.2.1.tdiv 65536,d.2.2.tdiv 65536) (aL G pb)) (aL (d.1.tdiv 65536,d.2.1.tdiv 65536,d.2.2.tdiv 65536) (aL G pb))/256)):=rfl
 clear r1 r2 r3 t1 t2 t3 he;generalize lf (d.1.tdiv 65536,d.2.1.tdiv 65536,d.2.2.tdiv 65536) (aL G pb)=t at *;generalize bf (d.1.tdiv 65536,d.2.1.tdiv 65536,d.2.2.tdiv 65536) (aL (d.1.tdiv 65536,d.2.1.tdiv 65536,d.2.2.tdiv 65536) (aL G pb))=u at *;generalize bf (aL (d.1.tdiv 65536,d.2.1.tdiv 65536,d.2.2.tdiv 65536) (aL G pb)) (aL (d.1.tdiv 65536,d.2.1.tdiv 65536,d.2.2.tdiv 65536) (aL G pb))=v at *;generalize aL (d.1.tdiv 65536,d.2.1.tdiv 65536,d.2.2.tdiv 65536) (aL G pb)=e at *;generalize aL G pb=c5 at *;by_cases aj:r=M
 .rw[YY aj]at c
  simp only at c;rw[<-c];subst aj;rcases N with⟨rfl,rfl,E,F⟩|⟨rfl,rfl⟩
  .skip
   exact GS (zAc g0 g1 g2 g3 T D U h10 h11 A B l E F (zAc k j x1 x2 x3 o z I J i1 i2 e4 e5 H g))
  .skip
   exact GS (zAc g0 g1 g2 g3 T D U h10 h11 A B l k j (zAb x1 x2 x3 o z I J i1 i2 e4 e5 (gA H g)))
 rw[YR aj]at c f
 have W:¬(M:Int)<=(r:Int):=by omega
 have K:¬M<=r:=by omega
 by_cases P:u<=0
 .rw[YY P]at a8
  rw[YY a8]at c;simp only at c;rw[<-c];rcases N with⟨rfl,rfl,E,F⟩|⟨rfl,rfl⟩
  .skip
   exact GS (zAc g0 g1 g2 g3 T D U h10 h11 A B l E F (zAc k j x1 x2 x3 o z I J i1 i2 e4 e5 H (go g W K P)))
  .skip
   exact GS (zAc g0 g1 g2 g3 T D U h10 h11 A B l k j (zAc x1 x2 x3 o z I J i1 i2 e4 e5 H g W (gA K P)))
 rw[YR P]at a8;have a1:v.tdiv 256=v/256:=Zc cz;have a2:i64.wrap (v/256)=v/256:=aa
 have hm:1<=max 1 (v/256):=by omega
 generalize a7:max 1 (v/256)=m at *;have a3:u.tdiv m=u/m:=Zc (by omega);have h4:u/m<=u:=yBc m (by omega);have h5:0<=u/m:=yAK (by omega) (by omega);have a4:i64.wrap (u/m)=u/m:=aa
 have a5:¬m=0:=by omega
 have a6:(m==0)=false:=by simp;omega
 have ah:=a8.symm;by_cases ak:t=0
 .rw[YY ak]at c
  simp only at c;rw[<-c];rw[ak]at ah;rcases N with⟨rfl,rfl,E,F⟩|⟨rfl,rfl⟩
  .skip
   exact GS (zAc g0 g1 g2 g3 T D U h10 h11 A B l E F (zAc k j x1 x2 x3 o z I J i1 i2 e4 e5 H (zAb g W K P a1 a2 a7 a3 a4 a5 a6 ah)))
  .skip
   exact GS (zAc g0 g1 g2 g3 T D U h10 h11 A B l k j (zAc x1 x2 x3 o z I J i1 i2 e4 e5 H g W (zAa K P a1 a2 a7 a3 a4 a5 a6 ah)))
 rw[YR ak]at c f;have cf:=f.2 _ rfl;simp only at c
 have ck:(t==0)=false:=by simp;omega
 have cS:=QV S t lo.2 (by omega) b2 (by omega) b3.1 b3.2;have cT:=QV Q t L.2 (by omega) bq (by omega) b3.1 b3.2;have cp:i64.wrap ((r:Int)+1)=(r:Int)+1:=aa;rcases N with⟨rfl,rfl,E,F⟩|⟨rfl,rfl⟩
 .skip
  refine GT (zAc g0 g1 g2 g3 T D U h10 h11 A B l E F (zAc k j x1 x2 x3 o z I J i1 i2 e4 e5 H (zAc g W K P a1 a2 a7 a3 a4 a5 a6 ah ak ck cp))) ?_;refine⟨by omega,⟨jN S lo.2 t,jN Q L.2 t,n,r+1⟩,cf,by simp only,c,?_⟩;simp;exact⟨_,_,⟨rfl,rfl⟩,Or.inr ⟨rfl,rfl⟩⟩
 .skip
  refine GT (zAc g0 g1 g2 g3 T D U h10 h11 A B l k j (zAc x1 x2 x3 o z I J i1 i2 e4 e5 H g W (zAb K P a1 a2 a7 a3 a4 a5 a6 ah ak (gA ck cp)))) ?_;refine⟨by omega,⟨jN S lo.2 t,jN Q L.2 t,n,r+1⟩,cf,by simp only,c,?_⟩;simp;exact⟨_,_,⟨rfl,rfl⟩,Or.inr ⟨rfl,rfl⟩⟩
def CG(v:Vc)(j:Nat):List AV:=[.pv (Z (if 0<j then v.1 else 0)),.pv (Z (if 1<j then v.2.1 else 0)),.pv (Z (if 2<j then v.2.2 else 0))]
theorem VX(a b:List aq)(ha:a.length<=9223372036854775807)(hb:b.length<=9223372036854775807):aH 192 (aD a) (aD b) (.tup [ai (kh a b),B (lJ a b)]):=by
 have ca:=xJ a ha;have cb:=xJ b hb
 have hN:kh a b=if au a&&au b then aZ (kE a b)else(0,0,0):=rfl
 have hM:lJ a b=(au a&&au b&&nz (aZ (kE a b))):=rfl;rw[hN,hM]
 cases K:au a with
 |false=>
  rw[K]at ca;refine Dp func192 λC hP hN=>?_;exact Gy
 |true=>
 rw[K]at ca
 cases L:au b with
 |false=>
  rw[L]at cb;refine Dp func192 λC hP hN=>?_;exact Gy
 |true=>
 rw[L]at cb;have c1:=HJ a ha;have c2:=HJ b hb;have ad:=Hs K L;have c5:=QW (kE a b) ad;have h2:=(bm K).2.1;have h3:=(bm L).2.1;have R:kE a b=((ay (aw a) a.length).1*b.length-(ay (aw b) b.length).1*a.length,(ay (aw a) a.length).2.1*b.length-(ay (aw b) b.length).2.1*a.length,(ay (aw a) a.length).2.2*b.length-(ay (aw b) b.length).2.2*a.length):=rfl;simp only[Z9,Za,Zf];have N:=fE K;have O:=fE L;have n1:=li (l:=a);have n2:=li (l:=b);generalize aw a=f at *;generalize aw b=g at *;generalize kE a b=V at *;generalize aZ V=n at *;have wa:i64.wrap (a.length:Int)=(a.length:Int):=aa;have wb:i64.wrap (b.length:Int)=(b.length:Int):=aa;refine Dp func192 λC hP hN=>?_;refine Gz ?_;refine WP.loopN [] 3 (λk st=>st.t 0=.pv (aD a)/\st.t 1=.pv (aD b)/\st.t 4=.ptr 4 0/\st.h 4=some (.box [.pv (Z 0),.pv (Z 0),.pv (Z 0)] true false)/\st.t 5=.pv (B false)/\st.t 6=.ptr 6 0/\st.h 6=some (.box (CG V k) true false)/\st.t 7=.pv (aB f)/\st.t 8=.pv (aB g)/\st.t 9=.pv (Z k)) ?_ ?_
 .simp[CG]
 rintro k st hk ⟨g0,g1,g4,d,g5,o,c,q,r,m⟩
 have e:∀x:Int,-2147483648<=x/\x<=2147483648->∀n:Nat,n<=8->-17179869184<=x*n/\x*n<=17179869184:=λx j n hn=>by
  have:=bi (a:=x) (b:=(n:Int)) 2147483648 8 (by omega) (by omega) (by omega) (by omega);omega
 rcases dC hk with rfl|rfl|rfl|rfl
 all_goals (simp[CG]at c m)
 .skip
  have D:∀i:Nat,i<=8->-17179869184<=(ay f i).1*b.length/\(ay f i).1*b.length<=17179869184:=λi hi=>by
   have h:=jh n1 i;obtain⟨q1,q2,q3⟩:=h;exact e (ay f i).1 (by omega) _ h3
  have E:∀i:Nat,i<=8->-17179869184<=(ay g i).1*a.length/\(ay g i).1*a.length<=17179869184:=λi hi=>by
   have h:=jh n2 i;obtain⟨q1,q2,q3⟩:=h;exact e (ay g i).1 (by omega) _ h2
  skip
  refine GT (zAa g0 g1 g4 g5 d c o q r m) ?_;refine WP.loopN [] a.length (λi st=>st.t 0=.pv (aD a)/\st.t 1=.pv (aD b)/\st.t 4=.ptr 4 0/\st.h 4=some (.box [.pv (Z 0),.pv (Z 0),.pv (Z 0)] true false)/\st.t 5=.pv (B false)/\st.t 6=.ptr 6 0/\st.h 6=some (.box [.pv (Z ((ay f i).1*b.length)),.pv (Z 0),.pv (Z 0)] true false)/\st.t 7=.pv (aB f)/\st.t 8=.pv (aB g)/\st.t 9=.pv (Z 0)/\st.t 10=.pv (Z i)) ?_ ?_
  .simp[ay,g0,g1,g4,d,g5,o,c,q,r,m]
  clear g0 g1 g4 d g5 o c q r m;rintro i st hi ⟨g0,g1,g4,d,g5,o,c,q,r,m,v⟩;by_cases s:i<a.length
  .have u:i<f.length:=by omega
   have F:=ae s (by omega);obtain⟨p,j⟩:∃p,f[i]?=some p:=⟨_,an u⟩
   have G:∀h,f[i]'h=p:=λh=>by rw[an h]at j;exact ZB j
   have A:=D (i+1) (by omega);have J:=D i (by omega);have hp:=dD (L4.1 n1 p (An j));obtain⟨U,W,X⟩:=hp;have M:=e p.1 (by omega) _ h3
   have hS:(ay f (i+1)).1*(b.length:Int)=(ay f i).1*b.length+p.1*b.length:=by
    rw[<-Int.add_mul];simp only[ay,j]
   rw[hS]at A|-;have P:i64.wrap (p.1*b.length)=p.1*b.length:=aa;generalize(ay f i).1*(b.length:Int)=y at *;have Q:i64.wrap (y+p.1*b.length)=y+p.1*b.length:=aa;exact GS (zAc g0 g1 g4 d g5 o c q r m v s u F (s6 j G P Q wb N O))
  have z:i=a.length:=by omega
  subst z;have S:=D a.length (by omega);generalize T:(ay f a.length).1*(b.length:Int)=Y at *
  skip
  refine GT (zAb g0 g1 g4 g5 d c o q r m v (gA N O)) ?_;refine WP.loopN [] b.length (λi st=>st.t 0=.pv (aD a)/\st.t 1=.pv (aD b)/\st.t 4=.ptr 4 0/\st.h 4=some (.box [.pv (Z 0),.pv (Z 0),.pv (Z 0)] true false)/\st.t 5=.pv (B false)/\st.t 6=.ptr 6 0/\st.h 6=some (.box [.pv (Z (Y-(ay g i).1*a.length)),.pv (Z 0),.pv (Z 0)] true false)/\st.t 7=.pv (aB f)/\st.t 8=.pv (aB g)/\st.t 9=.pv (Z 0)/\st.t 11=.pv (Z i)) ?_ ?_
  .simp[ay,g0,g1,g4,d,g5,o,c,q,r,m]
  clear g0 g1 g4 d g5 o c q r m v;rintro i st hi ⟨g0,g1,g4,d,g5,o,c,q,r,m,H⟩;by_cases s:i<b.length
  .have u:i<g.length:=by omega
   have F:=ae s (by omega);obtain⟨p,j⟩:∃p,g[i]?=some p:=⟨_,an u⟩
   have G:∀h,g[i]'h=p:=λh=>by rw[an h]at j;exact ZB j
   have A:=E (i+1) (by omega);have J:=E i (by omega);have hp:=dD (L4.1 n2 p (An j));obtain⟨U,W,X⟩:=hp;have M:=e p.1 (by omega) _ h2
   have hS:(ay g (i+1)).1*(a.length:Int)=(ay g i).1*a.length+p.1*a.length:=by
    rw[<-Int.add_mul];simp only[ay,j]
   rw[hS]at A|-;have P:i64.wrap (p.1*a.length)=p.1*a.length:=aa;generalize(ay g i).1*(a.length:Int)=y at *;have Q:i64.wrap (Y-y-p.1*a.length)=Y-(y+p.1*a.length):=(aa (by omega) (by omega)).trans (by omega);exact Gy
  have z:i=b.length:=by omega
  subst z
  have I:Y-(ay g b.length).1*(a.length:Int)=V.1:=by rw[R,<-T]
  rw[I]at c
  skip
  with_reducible repeat' (first|refine Sp.h ?_|((first|refine Wd ?_|refine Ss.h ?_|(refine Sb.h ?_ ?_ ?_<;>(try intro hgd)<;>try exact Xy))<;>simp -implicitDefEqProofs (maxSteps:=2000000) [hP,hN,g0,g1,g4,g5,d,c,o,q,r,m,H,N,O,CG]<;>try refine Ya ?_)|refine X2 ?_ ?_|(refine Xd ?_ ?_<;>intro hcd<;>try exact Xx))
 .skip
  have D:∀i:Nat,i<=8->-17179869184<=(ay f i).2.1*b.length/\(ay f i).2.1*b.length<=17179869184:=λi hi=>by
   have h:=jh n1 i;obtain⟨q1,q2,q3⟩:=h;exact e (ay f i).2.1 (by omega) _ h3
  have E:∀i:Nat,i<=8->-17179869184<=(ay g i).2.1*a.length/\(ay g i).2.1*a.length<=17179869184:=λi hi=>by
   have h:=jh n2 i;obtain⟨q1,q2,q3⟩:=h;exact e (ay g i).2.1 (by omega) _ h2
  skip
  refine GT (zAa g0 g1 g4 g5 d c o q r m) ?_;refine WP.loopN [] a.length (λi st=>st.t 0=.pv (aD a)/\st.t 1=.pv (aD b)/\st.t 4=.ptr 4 0/\st.h 4=some (.box [.pv (Z 0),.pv (Z 0),.pv (Z 0)] true false)/\st.t 5=.pv (B false)/\st.t 6=.ptr 6 0/\st.h 6=some (.box [.pv (Z V.1),.pv (Z ((ay f i).2.1*b.length)),.pv (Z 0)] true false)/\st.t 7=.pv (aB f)/\st.t 8=.pv (aB g)/\st.t 9=.pv (Z 1)/\st.t 10=.pv (Z i)) ?_ ?_
  .simp[ay,g0,g1,g4,d,g5,o,c,q,r,m]
  clear g0 g1 g4 d g5 o c q r m;rintro i st hi ⟨g0,g1,g4,d,g5,o,c,q,r,m,v⟩;by_cases s:i<a.length
  .have u:i<f.length:=by omega
   have F:=ae s (by omega);obtain⟨p,j⟩:∃p,f[i]?=some p:=⟨_,an u⟩
   have G:∀h,f[i]'h=p:=λh=>by rw[an h]at j;exact ZB j
   have A:=D (i+1) (by omega);have J:=D i (by omega);have hp:=dD (L4.1 n1 p (An j));obtain⟨U,W,X⟩:=hp;have M:=e p.2.1 (by omega) _ h3
   have hS:(ay f (i+1)).2.1*(b.length:Int)=(ay f i).2.1*b.length+p.2.1*b.length:=by
    rw[<-Int.add_mul];simp only[ay,j]
   rw[hS]at A|-;have P:i64.wrap (p.2.1*b.length)=p.2.1*b.length:=aa;generalize(ay f i).2.1*(b.length:Int)=y at *;have Q:i64.wrap (y+p.2.1*b.length)=y+p.2.1*b.length:=aa;exact GS (zAc g0 g1 g4 d g5 o c q r m v s u F (s6 j G P Q wb N O))
  have z:i=a.length:=by omega
  subst z;have S:=D a.length (by omega);generalize T:(ay f a.length).2.1*(b.length:Int)=Y at *
  skip
  refine GT (zAb g0 g1 g4 g5 d c o q r m v (gA N O)) ?_;refine WP.loopN [] b.length (λi st=>st.t 0=.pv (aD a)/\st.t 1=.pv (aD b)/\st.t 4=.ptr 4 0/\st.h 4=some (.box [.pv (Z 0),.pv (Z 0),.pv (Z 0)] true false)/\st.t 5=.pv (B false)/\st.t 6=.ptr 6 0/\st.h 6=some (.box [.pv (Z V.1),.pv (Z (Y-(ay g i).2.1*a.length)),.pv (Z 0)] true false)/\st.t 7=.pv (aB f)/\st.t 8=.pv (aB g)/\st.t 9=.pv (Z 1)/\st.t 11=.pv (Z i)) ?_ ?_
  .simp[ay,g0,g1,g4,d,g5,o,c,q,r,m]
  clear g0 g1 g4 d g5 o c q r m v;rintro i st hi ⟨g0,g1,g4,d,g5,o,c,q,r,m,H⟩;by_cases s:i<b.length
  .have u:i<g.length:=by omega
   have F:=ae s (by omega);obtain⟨p,j⟩:∃p,g[i]?=some p:=⟨_,an u⟩
   have G:∀h,g[i]'h=p:=λh=>by rw[an h]at j;exact ZB j
   have A:=E (i+1) (by omega);have J:=E i (by omega);have hp:=dD (L4.1 n2 p (An j));obtain⟨U,W,X⟩:=hp;have M:=e p.2.1 (by omega) _ h2
   have hS:(ay g (i+1)).2.1*(a.length:Int)=(ay g i).2.1*a.length+p.2.1*a.length:=by
    rw[<-Int.add_mul];simp only[ay,j]
   rw[hS]at A|-;have P:i64.wrap (p.2.1*a.length)=p.2.1*a.length:=aa;generalize(ay g i).2.1*(a.length:Int)=y at *;have Q:i64.wrap (Y-y-p.2.1*a.length)=Y-(y+p.2.1*a.length):=(aa (by omega) (by omega)).trans (by omega);exact Gy
  have z:i=b.length:=by omega
  subst z
  have I:Y-(ay g b.length).2.1*(a.length:Int)=V.2.1:=by rw[R,<-T]
  rw[I]at c
  skip
  with_reducible repeat' (first|refine Sp.h ?_|((first|refine Wd ?_|refine Ss.h ?_|(refine Sb.h ?_ ?_ ?_<;>(try intro hgd)<;>try exact Xy))<;>simp -implicitDefEqProofs (maxSteps:=2000000) [hP,hN,g0,g1,g4,g5,d,c,o,q,r,m,H,N,O,CG]<;>try refine Ya ?_)|refine X2 ?_ ?_|(refine Xd ?_ ?_<;>intro hcd<;>try exact Xx))
 .skip
  have D:∀i:Nat,i<=8->-17179869184<=(ay f i).2.2*b.length/\(ay f i).2.2*b.length<=17179869184:=λi hi=>by
   have h:=jh n1 i;obtain⟨q1,q2,q3⟩:=h;exact e (ay f i).2.2 (by omega) _ h3
  have E:∀i:Nat,i<=8->-17179869184<=(ay g i).2.2*a.length/\(ay g i).2.2*a.length<=17179869184:=λi hi=>by
   have h:=jh n2 i;obtain⟨q1,q2,q3⟩:=h;exact e (ay g i).2.2 (by omega) _ h2
  skip
  refine GT (zAa g0 g1 g4 g5 d c o q r m) ?_;refine WP.loopN [] a.length (λi st=>st.t 0=.pv (aD a)/\st.t 1=.pv (aD b)/\st.t 4=.ptr 4 0/\st.h 4=some (.box [.pv (Z 0),.pv (Z 0),.pv (Z 0)] true false)/\st.t 5=.pv (B false)/\st.t 6=.ptr 6 0/\st.h 6=some (.box [.pv (Z V.1),.pv (Z V.2.1),.pv (Z ((ay f i).2.2*b.length))] true false)/\st.t 7=.pv (aB f)/\st.t 8=.pv (aB g)/\st.t 9=.pv (Z 2)/\st.t 10=.pv (Z i)) ?_ ?_
  .simp[ay,g0,g1,g4,d,g5,o,c,q,r,m]
  clear g0 g1 g4 d g5 o c q r m;rintro i st hi ⟨g0,g1,g4,d,g5,o,c,q,r,m,v⟩;by_cases s:i<a.length
  .have u:i<f.length:=by omega
   have F:=ae s (by omega);obtain⟨p,j⟩:∃p,f[i]?=some p:=⟨_,an u⟩
   have G:∀h,f[i]'h=p:=λh=>by rw[an h]at j;exact ZB j
   have A:=D (i+1) (by omega);have J:=D i (by omega);have hp:=dD (L4.1 n1 p (An j));obtain⟨U,W,X⟩:=hp;have M:=e p.2.2 (by omega) _ h3
   have hS:(ay f (i+1)).2.2*(b.length:Int)=(ay f i).2.2*b.length+p.2.2*b.length:=by
    rw[<-Int.add_mul];simp only[ay,j]
   rw[hS]at A|-;have P:i64.wrap (p.2.2*b.length)=p.2.2*b.length:=aa;generalize(ay f i).2.2*(b.length:Int)=y at *;have Q:i64.wrap (y+p.2.2*b.length)=y+p.2.2*b.length:=aa;exact GS (zAc g0 g1 g4 d g5 o c q r m v s u F (s6 j G P Q wb N O))
  have z:i=a.length:=by omega
  subst z;have S:=D a.length (by omega);generalize T:(ay f a.length).2.2*(b.length:Int)=Y at *
  skip
  refine GT (zAb g0 g1 g4 g5 d c o q r m v (gA N O)) ?_;refine WP.loopN [] b.length (λi st=>st.t 0=.pv (aD a)/\st.t 1=.pv (aD b)/\st.t 4=.ptr 4 0/\st.h 4=some (.box [.pv (Z 0),.pv (Z 0),.pv (Z 0)] true false)/\st.t 5=.pv (B false)/\st.t 6=.ptr 6 0/\st.h 6=some (.box [.pv (Z V.1),.pv (Z V.2.1),.pv (Z (Y-(ay g i).2.2*a.length))] true false)/\st.t 7=.pv (aB f)/\st.t 8=.pv (aB g)/\st.t 9=.pv (Z 2)/\st.t 11=.pv (Z i)) ?_ ?_
  .simp[ay,g0,g1,g4,d,g5,o,c,q,r,m]
  clear g0 g1 g4 d g5 o c q r m v;rintro i st hi ⟨g0,g1,g4,d,g5,o,c,q,r,m,H⟩;by_cases s:i<b.length
  .have u:i<g.length:=by omega
   have F:=ae s (by omega);obtain⟨p,j⟩:∃p,g[i]?=some p:=⟨_,an u⟩
   have G:∀h,g[i]'h=p:=λh=>by rw[an h]at j;exact ZB j
   have A:=E (i+1) (by omega);have J:=E i (by omega);have hp:=dD (L4.1 n2 p (An j));obtain⟨U,W,X⟩:=hp;have M:=e p.2.2 (by omega) _ h2
   have hS:(ay g (i+1)).2.2*(a.length:Int)=(ay g i).2.2*a.length+p.2.2*a.length:=by
    rw[<-Int.add_mul];simp only[ay,j]
   rw[hS]at A|-;have P:i64.wrap (p.2.2*a.length)=p.2.2*a.length:=aa;generalize(ay g i).2.2*(a.length:Int)=y at *;have Q:i64.wrap (Y-y-p.2.2*a.length)=Y-(y+p.2.2*a.length):=(aa (by omega) (by omega)).trans (by omega);exact Gy
  have z:i=b.length:=by omega
  subst z
  have I:Y-(ay g b.length).2.2*(a.length:Int)=V.2.2:=by rw[R,<-T]
  rw[I]at c
  skip
  with_reducible repeat' (first|refine Sp.h ?_|((first|refine Wd ?_|refine Ss.h ?_|(refine Sb.h ?_ ?_ ?_<;>(try intro hgd)<;>try exact Xy))<;>simp -implicitDefEqProofs (maxSteps:=2000000) [hP,hN,g0,g1,g4,g5,d,c,o,q,r,m,H,N,O,CG]<;>try refine Ya ?_)|refine X2 ?_ ?_|(refine Xd ?_ ?_<;>intro hcd<;>try exact Xx))
 .skip
  exact GS (zAa g0 g1 g4 d g5 o c q r m)
theorem Bt(h:n<=100000000000)(m:Nat)(a:m<=10):(n+m)*24<=140737488355328:=by omega
theorem OM{l:List α}{v:α}(h:l[k]?=some v):(l.take (k+1)).filter p=(l.take k).filter p++(if p v=true then[v]else[]):=by
 rw[yAQ,h,yAt];simp only[Option.toList_some,List.filter_cons,List.filter_nil]
theorem VY(a:List aq)(f:Int)(b:List aq)(g:Int)(c:List Vc)(ha:a.length<=9223372036854775807)(hb:b.length<=9223372036854775807)(hl:c.length<=100000000000):xW 132 (aD a) (Z f) (aD b) (Z g) (aB c) (aB (mO a f b g c)):=by
 have S:=xJ a ha;have T:=xJ b hb;have A:=CI f;have B:=CI g
 have M:mO a f b g c=if vD a f b g then c.filter aI++((if lJ a b then[kh a b]else[])++(kg++(if aI (mN a f b g)then[mN a f b g]else[])))else[]:=rfl
 have E:vD a f b g=(au a&&au b&&aP f 0 1048576&&aP g 0 1048576):=rfl;rw[M,E]
 cases s:au a with
 |false=>
  rw[s]at S;refine Dp func132 λC hP hN=>?_;exact Gy
 |true=>
 rw[s]at S
 cases u:au b with
 |false=>
  rw[u]at T;refine Dp func132 λC hP hN=>?_;exact Gy
 |true=>
 rw[u]at T
 cases y:aP f 0 1048576 with
 |false=>
  rw[y]at A;refine Dp func132 λC hP hN=>?_;exact Gy
 |true=>
 rw[y]at A
 cases z:aP g 0 1048576 with
 |false=>
  rw[z]at B;refine Dp func132 λC hP hN=>?_;exact Gy
 |true=>
 rw[z]at B;simp only[Z9,Za];have c1:=HJ a ha;have c2:=HJ b hb;have X:=(bm s).2.1;have Y:=(bm u).2.1;have W:=fE s;have E:=fE u;simp only[aP,up,Is]at y z;have I:i64.wrap (f+g)=f+g:=aa;have c3:=Tc (aw a) (aw b) (f+g) 64 (by omega) (by omega);have O:(iS (aw a) (aw b) (f+g) 64).2.n=mN a f b g:=rfl;rw[<-O];generalize iS (aw a) (aw b) (f+g) 64=R at *;have U:=VX a b ha hb;have V:=Wr;have q:kg.length=6:=rfl;have r:=Ct kg;generalize kg=AX at *;generalize aw a=xa at *;generalize aw b=xb at *;have D:=Cu R.2.n;rw[uw]at D;have F:∀i:Nat,((c.take i).filter aI).length<=100000000000:=λi=>yAs (yAX _ _) (by rw[ZA];omega);refine Dp func132 λC hP hN=>?_;refine kp [11] trivial ?_;refine WP.loopN [] c.length (λi st=>st.t 0=.pv (aD a)/\st.t 1=.pv (Z f)/\st.t 2=.pv (aD b)/\st.t 3=.pv (Z g)/\st.t 4=.pv (aB c)/\st.t 12=.pv (Z i)/\st.t 11=.arr 11 ((c.take i).filter aI).length/\st.h 11=some (.row 60 3 (((c.take i).filter aI).map ai) 0)/\st.h 13=none/\st.h 15=none) (by simp) ?_;rintro i st hi ⟨g0,g1,g2,g3,g4,o,l,e,j,k⟩;by_cases G:i<c.length
 .have ad:=ae G (by omega)
  generalize Q:c[i]=v at *
  have hx:c[i]?=some v:=by rw[an G,Q]
  have L:=Cu v;rw[uw]at L;have hs:=OM (p:=aI) hx;rw[hs];have d:=F i;generalize(c.take i).filter aI=P at *
  cases x:aI v with
  |true=>
   rw[x]at L;simp only[Za]
   have k1:(P.length+1)*24<=140737488355328:=by omega
   have k2:P.length<=9223372036854775806:=by omega
   skip
   exact Gy
  |false=>
   rw[x]at L;simp only[YU,Y5,yAJ];exact Gy
 .have N:i=c.length:=by omega
  subst N;rw[yAE]at l e;have d:=F c.length;rw[yAE]at d;generalize c.filter aI=P at *
  have k1:(P.length+1)*24<=140737488355328:=by omega
  have k2:P.length<=9223372036854775806:=by omega
  have z0:P.length<=9223372036854775799:=yAs d (by decide);have J:P.length<=9223372036854775800:=yAs d (by decide);have K:P.length<=9223372036854775801:=yAs d (by decide);have k3:(P.length+1+1)*24<=140737488355328:=Bt d 2 (by decide);have k4:(P.length+6)*24<=140737488355328:=Bt d 6 (by decide);have k5:(P.length+6+1)*24<=140737488355328:=Bt d 7 (by decide);have k6:(P.length+1+6)*24<=140737488355328:=Bt d 7 (by decide);have k7:(P.length+1+6+1)*24<=140737488355328:=Bt d 8 (by decide)
  cases H:lJ a b with
  |true=>
   rw[H]at U;generalize kh a b=m at *;simp only[Za]
   cases x:aI R.2.n with
   |true=>
    rw[x]at D;simp only[Za]
    skip
    exact GS (zAc g0 g1 g2 g3 g4 o l e j k k1 k2 k6 k7 (so I q r z0 J K))
   |false=>
    rw[x]at D;simp only[YU,Y5];exact GS (zAc g0 g1 g2 g3 g4 o l e j k k1 k2 k6 k7 (so I q r z0 J K))
  |false=>
   rw[H]at U;generalize kh a b=m at *;simp only[YU,Y5]
   cases x:aI R.2.n with
   |true=>
    rw[x]at D;simp only[Za]
    skip
    exact GS (zAc g0 g1 g2 g3 g4 o l e j k k1 k2 k4 k5 (so I q r z0 J K))
   |false=>
    rw[x]at D;simp only[YU,Y5];exact GS (zAc g0 g1 g2 g3 g4 o l e j k k1 k2 k4 k5 (so I q r z0 J K))
theorem Ku(h:bI js i j=0):j.lo<=j.hi:=by
 unfold bI at h
 repeat' split at h
 all_goals (try (cases h;done))
 all_goals omega
theorem GM{ms:List Ms}(h:aR js ms=0):∀(i:Nat) j,js[i]?=some j->j.lo<=j.hi:=by
 unfold aR at h;split at h
 .cases h
 .split at h
  .rename_i c;exact absurd h c
  .rename_i f
   intro i j b
   have a:jd js=0:=by simpa using f
   rw[ta]at a;by_cases d:bI js i j=0
   .exact Ku d
   .exfalso
    cases hf:(js.mapIdx (bI js)).find? (λe=>e !=0)with
    |none=>
     rw[Z2]at hf
     have g:bI js i j∈js.mapIdx (bI js):=by
      rw[List.mem_mapIdx];obtain⟨h1,h2⟩:=th.1 b;exact⟨i,h1,by rw[h2]⟩
     exact hf _ g (by simpa using d)
    |some e=>
     rw[hf]at a;have:=yAv hf;simp only at a;rw[a]at this;simp at this
def uy(js:List J)(n:Nat):Int:=((kl js)[n]?).getD 0
theorem L6(js:List J):uy js 0=-1:=by
 have h:=sG (js:=js) (k:=0) js.length (ZG _) (Y0 _) 0 (Y0 _)
 have:(kl js)[0]?=some (-1):=by rw[kl,h];rfl
 simp[uy,this]
theorem L7(a:sE js)(h:js[n]?=some j):uy js (n+1)=if j.lo=j.hi then uy js (j.parent+1).toNat else(n:Int):=by
 have:=HB h (a n j h);simp[uy,this]
def pD(js:List J)(l:Int)(k:Nat):Prop:=kj (fx js 11 l) k=true/\qp js k=true
theorem Af{xs:List Int}{x:Int}:kj xs x=true↔x∈xs:=by
 simp[kj]
theorem Kv(js:List J):fx js 11 (-1)=[]:=by simp[fx]
theorem Dr(b:sE js)(c:js.length<=10)(h:js[n]?=some j)(k:Nat):pD js n k↔pD js j.parent k\/(k=n/\qp js n=true):=by
 have d:n<js.length:=(th.1 h).1;have a:=Fz b c (k:=n) (by omega) (by omega)
 have hp:tW js n=j.parent:=by simp[tW,h]
 rw[hp]at a;simp only[pD,a,Af,Y7,Zr];constructor
 .rintro⟨h1|h1,h2⟩
  .exact .inl ⟨h1,h2⟩
  .have:k=n:=by omega
   subst this;exact .inr ⟨rfl,h2⟩
 .rintro(⟨h1,h2⟩|⟨rfl,h2⟩)
  .exact⟨.inl h1,h2⟩
  .exact⟨.inr rfl,h2⟩
theorem Qx(h:js[n]?=some j)(b:j.lo<=j.hi):qp js n=!decide (j.lo=j.hi):=by
 simp only[qp,h];by_cases a:j.lo=j.hi
 .simp[a]
 .simp[a];omega
theorem FA{js:List J}(e:sE js)(o:js.length<=10)(f:∀(i:Nat) j,js[i]?=some j->j.lo<=j.hi):∀(m n:Nat),n<=m->n<=js.length->(uy js n=-1/\∀k,¬pD js ((n:Int)-1) k)\/(∃c:Nat,uy js n=c/\c<js.length/\pD js ((n:Int)-1) c/\∀k,pD js ((n:Int)-1) k↔pD js c k)
 |m,0,_,_=>by
  left
  refine⟨L6 js,λk h=>?_⟩;have:=h.1;rw[show((0:Nat):Int)-1=-1 by omega,Kv]at this;cases this
 |0,n+1,h,_=>by omega
 |m+1,n+1,r,hn=>by
  have d:js[n]?=some (js[n]'(by omega)):=an _;generalize js[n]'(by omega)=j at d;have p:=e n j d;unfold Cw at p;have l:=L7 e d;have b:=Qx d (f n j d);rw[show((n+1:Nat):Int)-1=(n:Int) by omega];by_cases g:j.lo=j.hi
  .rw[YY g]at l
   simp only[g,yAz,yAo]at b
   have a:∀k,pD js n k↔pD js j.parent k:=λk=>by
    rw[Dr e o d k,b];simp
   have ih:=FA e o f m (j.parent+1).toNat (by omega) (by omega);rw[show(((j.parent+1).toNat:Nat):Int)-1=j.parent by omega,<-l]at ih;rcases ih with⟨h1,h2⟩|⟨c,h1,h2,h3,h4⟩
   .exact .inl ⟨h1,λk q=>h2 k ((a k).1 q)⟩
   .exact .inr ⟨c,h1,h2,(a c).2 h3,λk=>(a k).trans (h4 k)⟩
  .rw[YR g]at l
   simp only[g,decide_false,yBa]at b;exact .inr ⟨n,l,by omega,(Dr e o d n).2 (.inr ⟨rfl,b⟩),λk=>Z8⟩
theorem FB{js:List J}(d:sE js):∀(f:Nat)(l:Int),-1<=l->l<js.length->∀x∈fx js f l,0<=x/\x<=l
 |0,l,_,_,x,c=>by cases c
 |f+1,l,e,h1,x,c=>by
  rw[fx]at c;split at c
  .cases c
  .obtain⟨j,_,hp,a,b⟩:=yI d (k:=l) (by omega) h1
   rcases Y7.1 c with c|c
   .have:=FB d f (tW js l) (by omega) (by omega) x c;omega
   .rw[Zr]at c;omega
theorem Hy{a b:Int}:wm js a b=true↔∀k,k<js.length->qp js k=true->(kj (fx js 11 a) k=kj (fx js 11 b) k):=by
 simp only[wm,qN,L4,Zg,ZV,Zw];constructor
 .intro h k d c
  cases hc:(kj (fx js 11 a) k !=kj (fx js 11 b) k)with
  |false=>simpa using hc
  |true=>
   have:=h (k:Int) ⟨k,⟨d,hc⟩,rfl⟩;rw[Y9,c]at this;cases this
 .rintro h x ⟨k,⟨d,hc⟩,rfl⟩
  cases c:qp js k with
  |false=>rw[show(Int.ofNat k).toNat=k from rfl,c];rfl
  |true=>
   have:=h k d c;simp only[Kt,this,bne_self_eq_false]at hc;cases hc
theorem NL(h:qp js k=true):k<js.length:=by
 unfold qp at h;split at h
 .rename_i j a;exact(th.1 a).1
 .cases h
theorem L8{ms:List Ms}(r:aR js ms=0){a b:Int}(ha:bJ js.length a=true)(hb:bJ js.length b=true):(uy js (a+1).toNat==uy js (b+1).toNat)=wm js a b:=by
 obtain⟨g,s,_⟩:=tw r;have f:=GM r;simp only[bJ,up,Is]at ha hb;have p:=FA g s f _ (a+1).toNat (Y0 _) (by omega);have q:=FA g s f _ (b+1).toNat (Y0 _) (by omega);rw[show(((a+1).toNat:Nat):Int)-1=a by omega]at p;rw[show(((b+1).toNat:Nat):Int)-1=b by omega]at q
 have e:(uy js (a+1).toNat==uy js (b+1).toNat)=true↔wm js a b=true:=by
  rw[Hy,ZH]
  have u:(∀k,k<js.length->qp js k=true->(kj (fx js 11 a) k=kj (fx js 11 b) k))↔∀k,pD js a k↔pD js b k:=by
   constructor
   .intro h k
    simp only[pD];constructor
    .rintro⟨h1,h2⟩;rw[h k (NL h2) h2]at h1;exact⟨h1,h2⟩
    .rintro⟨h1,h2⟩;rw[<-h k (NL h2) h2]at h1;exact⟨h1,h2⟩
   .intro h k x v
    have:=h k;simp only[pD,v,and_true]at this;cases h1:kj (fx js 11 a) k<;>cases h2:kj (fx js 11 b) k<;>simp_all
  rw[u];rcases p with⟨a1,i⟩|⟨c,a1,i,l,m⟩<;>rcases q with⟨b1,j⟩|⟨d,b1,j,n,o⟩<;>rw[a1,b1]
  .exact⟨λ_ k=>⟨λh=>absurd h (i k),λh=>absurd h (j k)⟩,λ_=>rfl⟩
  .exact⟨λh=>by omega,λh=>absurd ((h d).2 n) (i d)⟩
  .exact⟨λh=>by omega,λh=>absurd ((h c).1 l) (j c)⟩
  .constructor
   .intro h k
    have:c=d:=by omega
    subst this;rw[m,o]
   .intro h
    have h1:=(h c).1 l;have h2:=(h d).2 n;rw[o]at h1;rw[m]at h2;have k1:=FB g 11 d (by omega) (by omega) c (Af.1 h1.1);have k2:=FB g 11 c (by omega) (by omega) d (Af.1 h2.1);omega
 cases h1:(uy js (a+1).toNat==uy js (b+1).toNat)<;>cases h2:wm js a b<;>simp_all
theorem L9{s:Sce}(d:ao s=0){a b:Sh}(ha:bJ s.js.length a.link=true)(hb:bJ s.js.length b.link=true):D5 s a b=(!(a.link==b.link)&& !wm s.js a.link b.link&& !jP s a.link b.link):=by
 have g:aR s.js s.ms=0:=by
  unfold ao at d;split at d
  .rename_i h;exact absurd d h
  .rename_i h;simpa using h
 have e:=L8 g ha hb;have c:Cy (kl s.js) a b=wm s.js a.link b.link:=e;unfold D5;rw[c];by_cases f:a.link=b.link
 .have:wm s.js a.link b.link=true:=by
   rw[Hy,f];exact λ_ _ _=>rfl
  rw[this];simp
 .have:(a.link==b.link)=false:=by simp[f]
  rw[this];simp
theorem UU(s:Sce)(hs:ScL s):aT 131 (aW s) (.sl ((cy s).map rj)):=by
 have U:=Hx s hs;have I:=λa b=>UT s a b hs.sks;by_cases v:ao s=0
 case neg=>
  have V:(ao s !=0)=true:=by simp[v]
  have hf:cy s=[]:=by simp[cy,v]
  rw[hf];generalize ao s=r at *;refine Dp func131 λC hP hN=>?_;exact Gy
 have hr:aR s.js s.ms=0:=by
  unfold ao at v;split at v
  .rename_i h;exact absurd v h
  .rename_i h;simpa using h
 obtain⟨v1,v2,v3,v4,v5,T,v7⟩:=nu v;have H:=λa b=>US s.js s.ms a b v2 hs.ms hr;have R:=λa b=>L9 v (a:=a) (b:=b)
 have hf:cy s=ji s s.shs.length:=by simp[cy,v]
 rw[hf];rw[v]at U;have nL:=yM s;have iL:=yL s;refine Dp func131 λC hP hN=>?_;refine kp [3] trivial ?_;refine WP.loopN [] s.shs.length (λi st=>st.t 1=.ptr 1 0/\st.h 1=some (.box [.pv (.sl (s.js.map aQ)),.pv (.sl (s.ms.map bb)),.pv (.sl (s.shs.map ba)),.pv (.sl (s.sks.map aK))] true false)/\st.t 4=.pv (Z i)/\st.t 3=.arr 3 (ji s i).length/\st.h 3=some (.row 215 2 ((ji s i).map rj) 0)) (by simp[ji]) ?_;rintro i st hi ⟨g1,g,g4,g3,d⟩;by_cases l:i<s.shs.length
 .have hw:=ae l (by omega)
  have j:(i:Int)<(s.shs.length:Int):=by omega
  generalize p:s.shs[i]=a at *
  have B:s.shs[i]?=some a:=by rw[an l,p]
  have F:=(T a (An B)).1;have A:ji s (i+1)=ji s i++kF s i s.shs.length:=rfl;have ad:=nL i;have Y:i*s.shs.length<=24*24:=yAa (by omega) (by omega);have J:=Cz s i (i+1) (Y0 _);refine Gz ?_;refine WP.loopN [] (s.shs.length-(i+1)) (λq st=>st.t 1=.ptr 1 0/\st.h 1=some (.box [.pv (.sl (s.js.map aQ)),.pv (.sl (s.ms.map bb)),.pv (.sl (s.shs.map ba)),.pv (.sl (s.sks.map aK))] true false)/\st.t 4=.pv (Z i)/\st.t 5=.pv (Z ((i+1+q:Nat):Int))/\st.t 3=.arr 3 (ji s i++kF s i (i+1+q)).length/\st.h 3=some (.row 215 2 ((ji s i++kF s i (i+1+q)).map rj) 0)) (by simp[g1,g,g4,g3,d,J]) ?_;clear g1 g g4 g3 d;rintro q st hq ⟨g1,g,g4,g5,g3,d⟩;obtain⟨k,W⟩:∃k,k=i+1+q:=⟨_,rfl⟩
  have O:i+1+(q+1)=k+1:=by omega
  rw[<-W]at g5 g3 d;rw[O];have K:kF s i (k+1)=kF s i k++(if i<k/\fP s i k=true then[(i,k)]else[]):=rfl;have X:=iL i k;by_cases n:k<s.shs.length
  .have e:(k:Int)<(s.shs.length:Int):=by omega
   have y:i64.wrap ((k:Int)+1)=(k:Int)+1:=aa;generalize u:s.shs[k]=b at *
   have D:s.shs[k]?=some b:=by rw[an n,u]
   have G:=(T b (An D)).1
   have o:fP s i k=(!(a.link==b.link)&& !wm s.js a.link b.link&& !jP s a.link b.link):=by
    simp only[fP,B,D];exact R a b F G
   have cs:=I a.link b.link;have cg:=H a.link b.link F G
   have M:i<k:=by omega
   have S:(ji s i++kF s i k).length<=1000:=by simp only[Zb];omega
   generalize z:ji s i++kF s i k=P at *
   have x:q<s.shs.length-(i+1):=by omega
   have L:ji s i++kF s i (k+1)=P++(if fP s i k=true then[(i,k)]else[]):=by
    rw[K,<-List.append_assoc,z];simp[M]
   rw[L];generalize jP s a.link b.link=sk at *;generalize wm s.js a.link b.link=rg at *;by_cases f:a.link=b.link
   .have c:fP s i k=false:=by rw[o,f];simp
    rw[c];exact GS (zAc g1 g g4 g5 g3 d n e y B p D u f (be l j x))
   .have m:(a.link !=b.link)=true:=by simp[f]
    have E:(a.link==b.link)=false:=by simp[f]
    rw[E]at o
    cases rg with
    |true=>
     have c:fP s i k=false:=by rw[o];rfl
     rw[c];exact GS (zAc g1 g g4 g5 g3 d n e y B p D u f (go m l j x))
    |false=>
     cases sk with
     |true=>
      have c:fP s i k=false:=by rw[o];rfl
      rw[c];exact GS (zAc g1 g g4 g5 g3 d n e y B p D u f (go m l j x))
     |false=>
      have c:fP s i k=true:=by rw[o];rfl
      rw[c];exact GS (zAc g1 g g4 g5 g3 d n e y B p D u f (so m l j x (show(P.length+1)*16<=140737488355328 by omega) (show P.length<=9223372036854775806 by omega)))
  .have Q:k=s.shs.length:=by omega
   have e:¬(k:Int)<(s.shs.length:Int):=by omega
   rw[Q,<-A]at g3 d;exact Gy
 .have N:i=s.shs.length:=by omega
  subst N;exact Gy
theorem Mp{l:List α}(h:l.findIdx? p=some i):∃v,l[i]?=some v/\i<l.length/\l.find? p=some v:=by
 rw[yAO]at h;obtain⟨hi,h1,h2⟩:=h;refine⟨l[i],an hi,hi,xx (an hi) h1 λj x a c=>?_⟩;obtain⟨b,rfl⟩:=th.1 c;have:=h2 j a;simpa using this
theorem I4{l:List α}(h:l.findIdx? p=none):l.find? p=none:=by
 rw[List.findIdx?_eq_none_iff]at h;rw[Z2];intro x a;rw[h x a];simp
theorem KE(a:List aq)(d:Int)(b:List aq)(e:Int)(c:List Vc):(mO a d b e c).length<=c.length+8:=by
 have g:mO a d b e c=if vD a d b e then c.filter aI++((if lJ a b then[kh a b]else[])++(kg++(if aI (mN a d b e)then[mN a d b e]else[])))else[]:=rfl
 have hf:=yAX aI c;have f:kg.length=6:=rfl;rw[g];split
 .rw[Zb,Zb,Zb,f]
  have h1:(if lJ a b then[kh a b]else([]:List Vc)).length<=1:=by split<;>simp
  have h2:(if aI (mN a d b e)then[mN a d b e]else([]:List Vc)).length<=1:=by split<;>simp
  omega
 .simp
theorem XB(a:List aq)(e:Int)(b:List aq)(f:Int)(c:List Vc)(ha:a.length<=9223372036854775807)(hb:b.length<=9223372036854775807)(o:c.length<=100000000000):xW 86 (aD a) (Z e) (aD b) (Z f) (aB c) (.tup [ai (ki a e b f c).1,B (ki a e b f c).2]):=by
 have c1:=VY a e b f c ha hb o;have l:=KE a e b f c
 have d:ki a e b f c=match(mO a e b f c).find? (λn=>iZ n a e b f)with
  |some n=>(n,true)
  |none=>((0,0,0),false):=rfl
 have j:=Wq (mO a e b f c) a e b f (by omega) ha hb;generalize mO a e b f c=k at *
 cases g:k.findIdx? (λn=>iZ n a e b f)with
 |none=>
  rw[I4 g]at d;rw[g]at j;simp only at d j;rw[d];refine Dp func86 λC hP hN=>?_;exact Gy
 |some i=>
  obtain⟨v,m,p,hf⟩:=Mp g;rw[hf]at d;rw[g]at j;simp only at d j
  have q:∀h,k[i]'h=v:=λh=>by rw[an h]at m;exact ZB m
  rw[d];refine Dp func86 λC hP hN=>?_;exact Gy
abbrev NM(p:List aq)(r:Int):PV:=.agg [aD p,Z r]
def zD(SH:List Sh)(PT:List (List aq))(p:Nat×Nat):PV:=NM (db PT p.1) (bV SH p.1)
def zE(SH:List Sh)(PT:List (List aq))(p:Nat×Nat):PV:=NM (db PT p.2) (bV SH p.2)
abbrev FQ(s:Sce)(bx:List Iv):PV:=.sl ((cy s).map (zD s.shs (eR s bx)))
abbrev FR(s:Sce)(bx:List Iv):PV:=.sl ((cy s).map (zE s.shs (eR s bx)))
theorem HH{β:Type}(f:α->β){l:List α}{v:α}(h:l[k]?=some v):(l.take (k+1)).map f=(l.take k).map f++[f v]:=by
 rw[yAQ,h,yAH];rfl
theorem KF{β:Type}(f:α->β){l:List α}(h:k<=l.length):((l.take k).map f).length=k:=by
 rw[Zm,ZA];omega
theorem XC(s:Sce)(bx:List Iv)(hs:ScL s)(n:bx.length<=9223372036854775807):aH 85 (aW s) (iv bx) (.tup (if fw s bx then[FQ s bx,FR s bx,B true]else[.sl [],.sl [],B false])):=by
 have U:=Hx s hs;have z:=Rg s.js s.ms bx hs.js n;have hd:fw s bx=(decide (ao s=0)&&jQ s.js bx):=rfl;by_cases f:ao s=0
 case neg=>
  have g:(ao s !=0)=true:=by simp[f]
  rw[ZU f,Zt]at hd;rw[hd];refine Dp func85 λC hP hN=>?_;exact Gy
 have g:(ao s !=0)=false:=by simp[f]
 rw[Zs f,Zf]at hd
 cases e:jQ s.js bx with
 |false=>
  rw[e]at hd z;rw[hd];refine Dp func85 λC hP hN=>?_;exact Gy
 |true=>
 have V:=Wf s bx hs f e;have W:=UU s hs;rw[e]at hd z;have hb:=IU hd;rw[hd];simp only[FQ,FR,Za];have E:=hb.few;generalize cy s=PR at *;generalize eR s bx=PT at *;obtain⟨js,ms,SH,sks⟩:=s;simp only at *;refine Dp func85 λC hP hN=>?_;refine kp [8,9] (gA f g) ?_;refine WP.loopN [] PR.length (λi st=>st.t 2=.ptr 2 0/\st.h 2=some (.box [.pv (.sl (js.map aQ)),.pv (.sl (ms.map bb)),.pv (.sl (SH.map ba)),.pv (.sl (sks.map aK))] true false)/\st.t 7=.pv (.sl (PT.map aD))/\st.t 8=.arr 8 i/\st.h 8=some (.row 178 2 ((PR.take i).map (zD SH PT)) 0)/\st.t 9=.arr 9 i/\st.h 9=some (.row 178 2 ((PR.take i).map (zE SH PT)) 0)/\st.t 10=.pv (.sl (PR.map rj))/\st.t 11=.pv (Z i)) (by simp) ?_;rintro k st hi ⟨g2,K,X,Y,l,g9,m,I,J⟩;by_cases c:k<PR.length
 .have L:=ae c (by omega)
  obtain⟨p,hp⟩:∃p,PR[k]?=some p:=⟨_,an c⟩;have A:=HH (zD SH PT) hp;have D:=HH (zE SH PT) hp;have zA:=KF (zD SH PT) (Nat.le_of_lt c);have zB:=KF (zE SH PT) (Nat.le_of_lt c);rw[A,D];generalize(PR.take k).map (zD SH PT)=S at *;generalize(PR.take k).map (zE SH PT)=T at *;clear A D;obtain⟨F,q⟩:=th.1 hp;obtain⟨i,j⟩:=p;have hpr:=hb.prs _ (An hp);simp only at hpr;have hl:=hb.len;have O:∀h,PR[k]'h=(i,j):=λ_=>q
  have i1:i<PT.length:=by omega
  have R:j<PT.length:=by omega
  obtain⟨a,ha⟩:∃x,PT[i]?=some x:=⟨_,an i1⟩;obtain⟨b,d⟩:∃x,PT[j]?=some x:=⟨_,an R⟩;obtain⟨u,r⟩:∃x,SH[i]?=some x:=⟨_,an hpr.1⟩;obtain⟨v,y⟩:∃x,SH[j]?=some x:=⟨_,an hpr.2⟩
  have M:∀h,PT[i]'h=a:=λh=>by rw[an h]at ha;exact ZB ha
  have N:∀h,PT[j]'h=b:=λh=>by rw[an h]at d;exact ZB d
  have P:∀h,SH[i]'h=u:=λh=>by rw[an h]at r;exact ZB r
  have Q:∀h,SH[j]'h=v:=λh=>by rw[an h]at y;exact ZB y
  have G:zD SH PT (i,j)=.agg [aD a,Z u.rad]:=by simp[zD,db,bV,ha,r]
  have H:zE SH PT (i,j)=.agg [aD b,Z v.rad]:=by simp[zE,db,bV,d,y]
  rw[G,H];obtain⟨h1,h2⟩:=hpr
  have k1:(k+1)*32<=140737488355328:=by omega
  have k2:k<=9223372036854775806:=by omega
  skip
  exact Gy
 .have o:k=PR.length:=by omega
  subst o;rw[yAE]at l m;exact Gy
theorem ON(a:List Vc)(i:Nat)(hi:i<a.length)(z:Option Value)(e n:Nat)(y:Option Value):kw {size:=n,zero:=z,kind:=TK.slice e 3 24 y} (.pv (aB a)) (some (.pv (.val (.int .i64 (i:Int))))) (some (.pv (.val (.int .i64 ((i:Int)+1)))))=some (.pv (aB (jO a i))):=by
 have h1:(0:Int)<=(i:Int):=by omega
 have h2:(0:Int)<=(i:Int)+1:=by omega
 have h3:((i:Int)).toNat=i:=by omega
 have h4:((i:Int)+1).toNat=i+1:=by omega
 simp only[kw,YY h1,YY h2,h3,h4,Zm];rw[YY ⟨by omega,by omega,by decide,Ct a⟩]
 congr 3
 rw[<-List.map_take,<-List.map_drop]
 congr 1
 unfold jO;rw[List.drop_take,show i+1-i=1 by omega]
theorem I5(h:¬i<hints.length):jO hints i=[]:=by
 unfold jO;rw[yAS (by omega)];rfl
theorem Q1{p:Nat×Nat}(h:PR[i]?=some p):(PR.map (zD SH PT))[i]?=some (.agg [aD (db PT p.1),Z (bV SH p.1)]):=by
 rw[YS,h];rfl
theorem Q2{p:Nat×Nat}(h:PR[i]?=some p):(PR.map (zE SH PT))[i]?=some (.agg [aD (db PT p.2),Z (bV SH p.2)]):=by
 rw[YS,h];rfl
def xH(ap:Bool):Int:=if ap then 1 else 0
def Td(a:List PV)(kd:Int)(i:Nat)(h:Hp):Prop:=(i=0/\h 10=some (.box [.pv (Z kd),.pv (.val (.slice none 0 0)),.pv (Z 0),.pv (.val (.slice none 0 0)),.pv (.val (.slice none 0 0))] true false)/\h 71=none)\/(0<i/\h 10=some (.box [.pv (Z kd),.arr 71 i,.pv (Z 0),.pv (.val (.slice none 0 0)),.pv (.val (.slice none 0 0))] true false)/\h 71=some (.row 60 3 (a.take i) 0))
def Te(SH:List Sh)(PR:List (Nat×Nat))(PT:List (List aq))(a:List Vc)(c:List PV)(b:Vd)(i:Nat)(h:Hp):Prop:=∃ap,iM SH PR PT a (PR.length-i) i ap=b/\Td c (xH ap) i h
theorem rm{b:List PV}{a:Vd}(ap:Bool)(h1:iM SH PR PT hints (PR.length-i) i ap=a)(h2:Td b (xH ap) i h):Te SH PR PT hints b a i h:=⟨ap,h1,h2⟩
set_option maxRecDepth 20000 in
theorem XD(s:Sce)(bx:List Iv)(b:List Vc)(hs:ScL s)(a8:bx.length<=9223372036854775807)(hh:b.length<=9223372036854775807):gz 44 (aW s) (iv bx) (aB b) (D3 (cW s bx b)):=by
 have X:=XC s bx hs a8
 have hd:cW s bx b=if fw s bx then iM s.shs (cy s) (eR s bx) b (cy s).length 0 true else⟨0,[],⟨0,[],[]⟩⟩:=rfl
 cases hp:fw s bx with
 |false=>
  rw[hp]at X hd;simp only[YU,Y5]at X hd;rw[hd];refine Dp func44 λC hP hN=>?_;exact GS trivial
 |true=>
 rw[hp]at X hd;simp only[Za]at X hd;have hb:=IU hp;have ak:=Hu hp;rw[hd];simp only[FQ,FR]at X;generalize cy s=PR at *;generalize eR s bx=PT at *;generalize s.shs=SH at *;have b5:=hb.few;generalize a:iM SH PR PT b PR.length 0 true=ar at *;generalize V:(df SH PR PT b).map ai=T
 have b7:T.length=PR.length:=by rw[<-V];simp[df]
 have aj:∀k p,PR[k]?=some p->T[k]?=some (ai (qM SH PT b k p).1):=λk q hk=>by rw[<-V,df,YS,List.getElem?_mapIdx,hk];rfl
 have Y:=λ(i:Nat)(p:Nat×Nat)(h:PR[i]?=some p)=>Q1 (SH:=SH) (PT:=PT) h;have ah:=λ(i:Nat)(p:Nat×Nat)(h:PR[i]?=some p)=>Q2 (SH:=SH) (PT:=PT) h
 have l:(PR.map (zD SH PT)).length=PR.length:=by simp
 have m:(PR.map (zE SH PT)).length=PR.length:=by simp
 generalize PR.map (zD SH PT)=LA at *;generalize PR.map (zE SH PT)=LB at *;refine Dp func44 λC hP hN=>?_;refine GT (gA l m) ?_;refine WP.loopN [13,15] PR.length (λi st=>st.t 2=.pv (aB b)/\st.t 6=.ptr 6 0/\st.h 6=some (.box [.pv (Z 0),.pv (.val (.slice none 0 0)),.pv (Z 0),.pv (.val (.slice none 0 0)),.pv (.val (.slice none 0 0))] true false)/\st.t 7=.pv (.sl LA)/\st.t 8=.pv (.sl LB)/\st.t 10=.ptr 10 0/\st.t 11=.pv (Z i)/\st.h 13=none/\st.h 15=none/\Te SH PR PT b T ar i st.h) ?_ ?_
 .simp
  exact rm true a (.inl ⟨rfl,by simp[xH],by simp⟩)
 rintro i st hi ⟨g2,L,r,M,N,n,o,e,f,ap,a,S⟩;by_cases x:i<PR.length
 .have B:=ae x (by omega)
  have j:(i:Int)<(PR.length:Int):=by omega
  obtain⟨p,hp⟩:∃p,PR[i]?=some p:=⟨_,an x⟩;have P:=Y i p hp;have Q:=ah i p hp
  have z:∀h,LA[i]'h=.agg [aD (db PT p.1),Z (bV SH p.1)]:=λh=>by rw[an h]at P;exact ZB P
  have A:∀h,LB[i]'h=.agg [aD (db PT p.2),Z (bV SH p.2)]:=λh=>by rw[an h]at Q;exact ZB Q
  have r1:=ak p.1;have r2:=ak p.2;have l1:=vE hb p.1;have l2:=vE hb p.2;have R:=XB (db PT p.1) (bV SH p.1) (db PT p.2) (bV SH p.2) (jO b i) (by omega) (by omega) (by simp[jO];omega);have bq:qM SH PT b i p=ki (db PT p.1) (bV SH p.1) (db PT p.2) (bV SH p.2) (jO b i):=rfl;rw[<-bq]at R;rw[show PR.length-i=(PR.length-i-1)+1 by omega]at a;simp only[iM,hp]at a;have a6:=aj i p hp;generalize qM SH PT b i p=F at *
  have I:T.take (i+1)=T.take i++[ai F.1]:=by rw[yAQ,a6];rfl
  have D:(T.take i).length=i:=by rw[ZA];omega
  have E:i<=T.length:=by omega
  have c1:=HJ (db PT p.1) (by omega);have c2:=HJ (db PT p.2) (by omega);have z1:=oE l1;have z2:=oE l2;have c3:=Tc (aw (db PT p.1)) (aw (db PT p.2)) (bV SH p.1+bV SH p.2) 64 (by omega) (by omega);have a7:qH SH PT p=iS (aw (db PT p.1)) (aw (db PT p.2)) (bV SH p.1+bV SH p.2) 64:=rfl;have b3:=xy (aw (db PT p.1)) (aw (db PT p.2)) (bV SH p.1+bV SH p.2) 64;rw[<-a7]at c3 b3;have W:i64.wrap (bV SH p.1+bV SH p.2)=bV SH p.1+bV SH p.2:=aa;generalize qH SH PT p=K at *;have U:=XA K.2.w K.2.v (db PT p.1) (bV SH p.1) (db PT p.2) (bV SH p.2) (by omega) (by omega) (by omega) (by omega);have b4:sj SH PT K.2.w K.2.v p=(oC K.2.w K.2.v (db PT p.1) (bV SH p.1) (db PT p.2) (bV SH p.2)&&decide (0<=lc K.2.w K.2.v (db PT p.1) (bV SH p.1) (db PT p.2) (bV SH p.2))):=rfl;rw[<-b4]at U
  have k1:(i+1)*24<=140737488355328:=by omega
  have k2:i<=9223372036854775806:=by omega
  clear aj V Y ah;by_cases u:i<b.length
  .have y:=ON b i u
   have J:(i:Int)<(b.length:Int):=by omega
   rcases S with⟨g,c,d⟩|⟨g,c,d⟩
   .have O:T.take i=[]:=by rw[g];rfl
    rw[O,List.nil_append]at I
    cases G:F.2 with
    |true=>
     rw[G]at R a;simp only[Za]at a;refine GT (zAc g2 L r M N n o e f c d u J x (zAb j B P z Q A l m y D E (gA k1 k2))) ?_;rw[show PR.length-i-1=PR.length-(i+1) by omega]at a
     all_goals exact rm ap a (.inr ⟨by omega,by simp[g],by simp[I]⟩)
    |false=>
     rw[G]at R a;simp only[YU,Y5]at a
     cases H:sj SH PT K.2.w K.2.v p with
     |true=>
      rw[H]at U a;simp only[Za]at a;subst a;exact GS (zAc g2 L r M N n o e f c d u J x (zAb j B P z Q A l m y D E (be k1 k2 W)))
     |false=>
      rw[H]at U a;simp only[YU,Y5]at a;rw[show PR.length-i-1=PR.length-(i+1) by omega]at a;refine GT (zAc g2 L r M N n o e f c d u J x (zAb j B P z Q A l m y D E (be k1 k2 W))) ?_
      all_goals exact rm false a (.inr ⟨by omega,by simp[xH,g],by simp[I]⟩)
   .have O:0<i:=g
    cases G:F.2 with
    |true=>
     rw[G]at R a;simp only[Za]at a;refine GT (zAc g2 L r M N n o e f c d u J x (zAb j B P z Q A l m y D E (gA k1 k2))) ?_;rw[show PR.length-i-1=PR.length-(i+1) by omega]at a
     all_goals exact rm ap a (.inr ⟨by omega,by simp[g],by simp[I]⟩)
    |false=>
     rw[G]at R a;simp only[YU,Y5]at a
     cases H:sj SH PT K.2.w K.2.v p with
     |true=>
      rw[H]at U a;simp only[Za]at a;subst a;exact GS (zAc g2 L r M N n o e f c d u J x (zAb j B P z Q A l m y D E (be k1 k2 W)))
     |false=>
      rw[H]at U a;simp only[YU,Y5]at a;rw[show PR.length-i-1=PR.length-(i+1) by omega]at a;refine GT (zAc g2 L r M N n o e f c d u J x (zAb j B P z Q A l m y D E (be k1 k2 W))) ?_
      all_goals exact rm false a (.inr ⟨by omega,by simp[xH,g],by simp[I]⟩)
  .have y:¬(i:Int)<(b.length:Int):=by omega
   rw[I5 u]at R;simp only[aB,yA6]at R;rcases S with⟨g,c,d⟩|⟨g,c,d⟩
   .have O:T.take i=[]:=by rw[g];rfl
    rw[O,List.nil_append]at I
    cases G:F.2 with
    |true=>
     rw[G]at R a;simp only[Za]at a;refine GT (zAc g2 L r M N n o e f c d u x j (zAb B P z Q A l m y D E k1 k2)) ?_;rw[show PR.length-i-1=PR.length-(i+1) by omega]at a
     all_goals exact rm ap a (.inr ⟨by omega,by simp[g],by simp[I]⟩)
    |false=>
     rw[G]at R a;simp only[YU,Y5]at a
     cases H:sj SH PT K.2.w K.2.v p with
     |true=>
      rw[H]at U a;simp only[Za]at a;subst a;exact GS (zAc g2 L r M N n o e f c d u x j (zAb B P z Q A l m y D E k1 (gA k2 W)))
     |false=>
      rw[H]at U a;simp only[YU,Y5]at a;rw[show PR.length-i-1=PR.length-(i+1) by omega]at a;refine GT (zAc g2 L r M N n o e f c d u x j (zAb B P z Q A l m y D E k1 (gA k2 W))) ?_
      all_goals exact rm false a (.inr ⟨by omega,by simp[xH,g],by simp[I]⟩)
   .have O:0<i:=g
    cases G:F.2 with
    |true=>
     rw[G]at R a;simp only[Za]at a;refine GT (zAc g2 L r M N n o e f c d u x j (zAb B P z Q A l m y D E k1 k2)) ?_;rw[show PR.length-i-1=PR.length-(i+1) by omega]at a
     all_goals exact rm ap a (.inr ⟨by omega,by simp[g],by simp[I]⟩)
    |false=>
     rw[G]at R a;simp only[YU,Y5]at a
     cases H:sj SH PT K.2.w K.2.v p with
     |true=>
      rw[H]at U a;simp only[Za]at a;subst a;exact GS (zAc g2 L r M N n o e f c d u x j (zAb B P z Q A l m y D E k1 (gA k2 W)))
     |false=>
      rw[H]at U a;simp only[YU,Y5]at a;rw[show PR.length-i-1=PR.length-(i+1) by omega]at a;refine GT (zAc g2 L r M N n o e f c d u x j (zAb B P z Q A l m y D E k1 (gA k2 W))) ?_
      all_goals exact rm false a (.inr ⟨by omega,by simp[xH,g],by simp[I]⟩)
 .have b2:i=PR.length:=by omega
  subst b2;rw[yAD]at a;simp only[iM]at a
  have ad:(df SH PR PT b).length=PR.length:=by simp[df]
  rcases S with⟨g,c,d⟩|⟨g,c,d⟩
  .have O:df SH PR PT b=[]:=Zn (by omega)
   rw[O]at a
   cases ap with
   |true=>
    simp only[Za]at a;subst a;simp only[xH,Za]at c;exact GS (zAb g2 L r M N n o c d e f (be l m g))
   |false=>
    simp only[YU,Y5]at a;subst a;simp only[xH,YU,Y5]at c;exact GS (zAb g2 L r M N n o c d e f (be l m g))
  .rw[Zh (by omega),<-V]at d
   cases ap with
   |true=>
    simp only[Za]at a;subst a;simp only[xH,Za]at c;exact GS (zAb g2 L r M N n o c d e f (be l m ad))
   |false=>
    simp only[YU,Y5]at a;subst a;simp only[xH,YU,Y5]at c;exact GS (zAb g2 L r M N n o c d e f (be l m ad))
theorem K5{D:Nat}:∀{l:List Pc},(∀x∈l,oW D x)->l.length<=kK D l
 |[],_=>Y0 _
 |x::l,h=>by
  have a:=Gr (h x (by simp));have b:=K5 (l:=l) λy c=>h y (by simp[c]);simp only[kK,Z0,List.sum_cons,yAq]at b|-;omega
theorem Pp{s:Sce}{p q:List Int}{D:Int}{f:Nat}{out:List Pc}:qA s p q D (f+1) [] out=⟨1,out,0,0,⟨0,[],[]⟩⟩:=rfl
theorem Tn(s:Sce)(p q:List Int)(D:Nat)(hs:ScL s)(h0:ao s=0)(hp:aX s.js s.ms p=true)(hq:aX s.js s.ms q=true)(ca:p.length<=16777216)(cb:q.length<=16777216)(hD:D<=20):mD 17 (aW s) (zs p) (zs q) (Z (D:Int)) (NX (nF s p q D)):=by
 have cr:=Yu s p q hs h0 hp hq
 have b2:¬(D:Int)<0:=by omega
 have b3:¬(20:Int)<D:=by omega
 have hR:nF s p q D=qA s p q D (2^(D+1)) [(0,0,[])] []:=by
  unfold nF Jy;rw[YY (by simp[h0,hp,hq,hD])]
 rw[hR];have Y:=SK s p q D
 have bq:kK D [(0,0,[])]+0+1<=2^(D+1):=by
  have:1<=2^(D+1):=Nat.one_le_two_pow;simp[kK,DO];omega
 generalize O:qA s p q D (2^(D+1)) [(0,0,[])] []=a7;have ch:2^(D+1)<=2097152:=yAs (Nat.pow_le_pow_right (by decide) (show D+1<=21 by omega)) (by decide);generalize cj:2^(D+1)=E at *;have cp:=λ(x:Pc)=>W9 p q x.1 x.2.1 ca cb;have cc:=λ(x:Pc)(X:x.2.2.length<=9223372036854775807)=>XD s (de p q x) x.2.2 hs (by have:=M6 p q x;omega) X
 have cd:∀f c x g,qA s p q D (f+1) (c++[x]) g=if 4096<=g.length then⟨0,[],x.1,x.2.1,⟨0,[],[]⟩⟩else
  if(cW s (de p q x) x.2.2).kind=1 then qA s p q D f c (g++[(x.1,x.2.1,(cW s (de p q x) x.2.2).ns)])else
  if(cW s (de p q x) x.2.2).kind=2 then⟨2,[],x.1,x.2.1,(cW s (de p q x) x.2.2).w⟩else
  if x.1=D then⟨0,[],x.1,x.2.1,⟨0,[],[]⟩⟩else
  qA s p q D f (c++[(x.1+1,2*x.2.1+1,(cW s (de p q x) x.2.2).ns),(x.1+1,2*x.2.1,(cW s (de p q x) x.2.2).ns)]) g:=λf c x g=>by
  simp only[qA,List.getLast?_append,List.getLast?_singleton,Option.some_or,List.dropLast_concat]
 have b5:=λ(x:Pc)=>Ae s (de p q x) x.2.2;have ah:=λ(x:Pc)(h:(cW s (de p q x) x.2.2).kind=1)=>K4 h;clear h0 hp hq;obtain⟨js,ms,SH,sks⟩:=s;refine Dp func17 λC hP hN=>?_;refine kp [9,31] (gA b2 b3) ?_;refine WP.loopN [11,12,15] (E-1) (λi st=>∃todo g:List Pc,PrI ⟨js,ms,SH,sks⟩ p q D todo g/\kK D todo+i+1<=E/\g.length<=4096/\qA ⟨js,ms,SH,sks⟩ p q D (E-i) todo g=a7/\st.t 1=.pv (zs p)/\st.t 2=.pv (zs q)/\st.t 3=.pv (Z (D:Int))/\st.t 4=.ptr 4 0/\st.h 4=some (.box [.pv (.sl (js.map aQ)),.pv (.sl (ms.map bb)),.pv (.sl (SH.map ba)),.pv (.sl (sks.map aK))] true false)/\st.t 8=.ptr 8 0/\st.h 8=some (.box [.pv (Z 0),.pv (.val (.slice none 0 0)),.pv (Z 0),.pv (Z 0),.pv (.val (.slice none 0 0)),.pv (Z 0),.pv (.val (.slice none 0 0)),.pv (.val (.slice none 0 0))] true false)/\st.t 9=.arr 9 g.length/\st.h 9=some (.row 65 3 (g.map jn) 0)/\st.t 10=.arr 31 todo.length/\st.h 31=some (.row 116 3 (todo.map jn) 0)/\st.h 11=none/\st.h 12=none/\st.h 15=none) ?_ ?_
 .exact⟨[(0,0,[])],[],Y,by omega,by simp,by simpa using O,by simp⟩
 clear Y bq O cr
 have a8:∃ti e' b z,az prog 117=some ti/\ti.kind=TK.slice e' 3 b z:=by refine⟨_,_,_,_,SI,rfl⟩
 rintro i st hi ⟨todo,g,S,hW,b7,e,g1,g2,g3,g4,G,J,H,K,I,n,m,o,r,y⟩;rw[show E-i=(E-i-1)+1 by omega]at e;rcases List.eq_nil_or_concat todo with ht|⟨c,x,ht⟩
 .subst ht
  rw[Pp]at e;subst e;exact Gy
 .rw[List.concat_eq_append]at ht
  subst ht;rw[cd]at e;obtain⟨x0,x1,x2,x3,x4⟩:=S.t x (by simp);have c1:=cp x;have c2:=cc x (by omega);have hL:=b5 x;have hS:=ah x;have cg:=K5 S.t;rw[Zb,ZR]at cg;have U:i64.wrap (c.length:Int)=(c.length:Int):=aa
  have M:c.length<(c++[x]).length:=by simp
  have X:((c++[x]).map jn)[c.length]?=some (jn x):=by simp
  have N:∀h,(c++[x])[c.length]'h=x:=λh=>by simp
  simp only[Zb,ZR]at n;obtain⟨ll,T⟩:∃ll,ll=c++[x]:=⟨_,rfl⟩;rw[<-T]at m M X N
  have B:ll.length=c.length+1:=by rw[T];simp
  with_reducible repeat' (first|refine Sp.h ?_|((refine WP.trunc (hn:=[]) (pre:=[_,_,_,_]) (post:=[_]) rfl rfl rfl rfl ?_);simp -implicitDefEqProofs (maxSteps:=2000000) [hP,hN,g1,g2,g3,g4,G,J,H,K,I,n,m,o,r,y,U,B,X,N,M])|((first|refine Ss.h ?_|(refine Sb.h ?_ ?_ ?_<;>(try intro hgd)<;>try exact Xy))<;>simp -implicitDefEqProofs (maxSteps:=2000000) [hP,hN,g1,g2,g3,g4,G,J,H,K,I,n,m,o,r,y,U,B,X,N,M])|refine X2 ?_ ?_|(refine Xd ?_ ?_<;>intro hcd<;>try exact Xx))
  refine⟨31,116,3,c.length+1,c.length,.i64,by simp[n],by simp[U],ll.map jn,by simp[m],by simp[B],by omega,by omega,by rw[hP];exact a8,by rw[hN];decide,?_⟩
  have aj:(ll.map jn).take c.length=c.map jn:=by rw[T];simp
  rw[aj];simp -implicitDefEqProofs (maxSteps:=2000000) [hP,hN,g1,g2,g3,g4,G,J,H,K,I];refine WP.of_st (P:=λst=>st.t 1=.pv (zs p)/\st.t 2=.pv (zs q)/\st.t 3=.pv (Z (D:Int))/\st.t 4=.ptr 4 0/\st.h 4=some (.box [.pv (.sl (js.map aQ)),.pv (.sl (ms.map bb)),.pv (.sl (SH.map ba)),.pv (.sl (sks.map aK))] true false)/\st.t 8=.ptr 8 0/\st.h 8=some (.box [.pv (Z 0),.pv (.val (.slice none 0 0)),.pv (Z 0),.pv (Z 0),.pv (.val (.slice none 0 0)),.pv (Z 0),.pv (.val (.slice none 0 0)),.pv (.val (.slice none 0 0))] true false)/\st.t 9=.arr 9 g.length/\st.h 9=some (.row 65 3 (g.map jn) 0)/\st.t 10=.arr 31 c.length/\st.h 31=some (.row 116 3 (c.map jn) 0)/\st.t 11=.ptr 11 0/\st.h 11=some (.box [.pv (Z x.1),.pv (Z x.2.1),.pv (aB x.2.2)] true false)/\st.h 12=none/\st.h 15=none) ⟨by simp[rekey,g1,g2,g3,g4,G,J,H,K,I,r,y],?_⟩;clear g1 g2 g3 g4 G J H K I n m o r y X N M aj;rintro st ⟨g1,g2,g3,g4,G,J,H,K,I,n,m,Q,o,r,y⟩;obtain⟨d,k,hs⟩:=x;simp only at c1 c2 hL hS x0 x1 x2 x3 x4 e o;by_cases h4:4096<=g.length
  .rw[YY h4]at e
   subst e
   have L:(4096:Int)<=g.length:=by omega
   exact Gy
  rw[YR h4]at e
  have L:¬(4096:Int)<=g.length:=by omega
  have ad:de p q (d,k,hs)=(eX p q d k).1:=rfl;have l:=λ(h:(cW ⟨js,ms,SH,sks⟩ (de p q (d,k,hs)) hs).kind=1)=>S.keep (x:=(d,k,hs)) (by simp) hL.1 (hS h);have j:=λ(h:d≠(D:Int))=>S.split (x:=(d,k,hs)) (by simp) hL.1 h;have cf:=Po (D:=D) (todo:=c++[(d,k,hs)]) (x:=(d,k,hs)) (by simp) (S.t _ (by simp));have ak:=λ(h:d≠(D:Int))(a b:Int)(u v:List Vc)=>Gs (D:=D) (todo:=c++[(d,k,hs)]) (x:=(d,k,hs)) (by simp) (S.t _ (by simp)) h a b u v;simp only[List.dropLast_concat]at l j cf ak;rw[ad]at c2 e hL l j;clear hS ad S;generalize eX p q d k=R at *;obtain⟨bx,fl⟩:=R;simp only at c1 c2 e hL l j;generalize cW ⟨js,ms,SH,sks⟩ bx hs=V at *;obtain⟨kd,ns,⟨pr,A,F⟩⟩:=V;simp only at c2 e hL l j
  have cm:k<1048576:=by
   have:=zW (d:=d) (by omega);omega
  have v1:i64.wrap (d+1)=d+1:=aa;have v2:i64.wrap (2*k)=2*k:=aa;have v3:i64.wrap (2*k+1)=2*k+1:=aa;by_cases k1:kd=1
  .subst k1
   rw[YY rfl]at e;have hK:=l rfl;refine GT (zAc g1 g2 g3 g4 G J H K I n m Q o r (it y h4 L (show(g.length+1)*40<=140737488355328 by omega) (show g.length+1<=9223372036854775807 by omega))) ?_
   all_goals exact⟨by omega,c,g++[(d,k,ns)],hK,by omega,by simp;omega,by rw[show E-(i+1)=E-i-1 by omega];exact e,by simp,by simp,rfl,rfl⟩
  have ar:(kd==1)=false:=by simp[k1]
  rw[YR k1]at e;by_cases k2:kd=2
  .subst k2
   rw[YY rfl]at e;subst e;exact Gy
  have a6:(kd==2)=false:=by simp[k2]
  rw[YR k2]at e;by_cases k3:d=(D:Int)
  .rw[YY k3]at e
   subst e
   have W:(d==(D:Int))=true:=by simp[k3]
   exact GS (zAc g1 g2 g3 g4 G J H K I n m Q o r (s7 y h4 L k1 ar k2 a6 W))
  .rw[YR k3]at e
   have W:(d==(D:Int))=false:=by simp[k3]
   have hK:=j k3;have ck:=ak k3 (2*k+1) (2*k) ns ns;refine GT (zAc g1 g2 g3 g4 G J H K I n m Q o r (zAb y h4 L k1 ar k2 a6 k3 W v1 v2 (be v3 (show(c.length+2)*40<=140737488355328 by omega) (show c.length+2<=9223372036854775807 by omega)))) ?_
   all_goals exact⟨by omega,c++[(d+1,2*k+1,ns),(d+1,2*k,ns)],g,hK,by omega,b7,by rw[show E-(i+1)=E-i-1 by omega];exact e,rfl,rfl,by simp,by simp⟩
theorem Qa(s:Sce)(P:List (List Int))(es:List aG)(e u v:Nat)(d:Int)(D:Nat)(hs:ScL s)(E:ao s=0)(i:es[e]?=some (lX u v d))(j:es.length<=100000)(l:u<P.length)(n:v<P.length)(G:P.length<=1024)(hp:∀x∈P,x.length<=100)(hin:∀x∈P,aX s.js s.ms x=true)(F:D<=20)(k:nF s (bF P u) (bF P v) D=Fc):mD 26 (aW s) (bp ⟨P.map zs,es⟩) (Z e) (Z D) (.tup [bp ⟨P.map zs,es.set e (vR u v d)⟩,B true]):=by
 obtain⟨hi,H⟩:=th.1 i;have b:P[u]?=some P[u]:=an l;have f:P[v]?=some P[v]:=an n;have a:=Zd l;have c:=Zd n
 have I:bF P (u:Int)=P[u]:=by rw[bF,Y9,b];rfl
 have pv:bF P (v:Int)=P[v]:=by rw[bF,Y9,f];rfl
 rw[I,pv]at k;have c1:=Yq ⟨P.map zs,es⟩ (lX u v d) (by simp;omega)
 have q:pP (⟨P.map zs,es⟩:eU).np.length (lX u v d)=true:=by simp[pP,gp,lX];omega
 rw[q]at c1;have g:=Tn s P[u] P[v] D hs E (hin _ a) (hin _ c) (by have:=hp _ a;omega) (by have:=hp _ c;omega) F;rw[k]at g;have p:=Xi (P.map zs) es e u v d i j;obtain⟨js,ms,SH,sks⟩:=s;generalize m:P[u]=x at *;generalize o:P[v]=y at *;have z:mD 17 (aW ⟨js,ms,SH,sks⟩) (zs x) (zs y) (Z D) (.agg [Z 1,.sl [.agg [Z 0,Z 0,.sl []]],Z 0,Z 0,.sl [],Z 0,.sl [],.sl []]):=g;have A:gz 58 (bp ⟨P.map zs,es⟩) (Z e) (.agg [Z 1,.sl [.agg [Z 0,Z 0,.sl []]],Z 0,Z 0,.sl [],Z 0,.sl [],.sl []]) (.tup [bp ⟨P.map zs,es.set e (vR u v d)⟩,B true]):=p;have r:aH 57 (bp ⟨P.map zs,es⟩) (Kd u v d) (B true):=c1;clear c1 g p k hin q;refine Dp func26 λC hP hN=>?_;exact GS (zAa hi H i @lX.eq_1 @Kc.eq_1 b f l n (gA m o))
def Dj(b:Bool):Nat:=match b with
 |true=>2
 |false=>1
theorem Ol(b:Bool)(e:Nat):(mh b e).length=Dj b:=by
 cases b<;>rcases e with _|_|e<;>rfl
theorem Om(b:Bool):mh b (Dj b)=mh b 2:=by cases b<;>rfl
theorem Xj(b:Bool){e:Nat}{r:Int}(h:e<Dj b)(a:r=1\/r=2):mD 26 (aW (bY r)) (bp ⟨(nj b).map zs,mh b e⟩) (Z e) (Z 2) (.tup [bp ⟨(nj b).map zs,mh b (e+1)⟩,B true]):=by
 have c:ao (bY r)=0:=by rcases a with rfl|rfl;exact LP;exact LQ
 have hi:=IK b
 cases b with
 |false=>
  have:e=0:=by simp[Dj]at h;exact h
  subst this;exact Qa (bY r) (nj false) (mh false 0) 0 0 1 12 2 (Bi r) c rfl (by decide) (by decide) (by decide) (by decide) (by decide) hi (by decide) (by rcases a with rfl|rfl;exact Uf;exact Ug)
 |true=>
  have:e=0\/e=1:=by simp[Dj]at h;omega
  rcases this with rfl|rfl
  .exact Qa (bY r) (nj true) (mh true 0) 0 0 1 6 2 (Bi r) c rfl (by decide) (by decide) (by decide) (by decide) (by decide) hi (by decide) (by rcases a with rfl|rfl;exact Uh;exact Ui)
  .exact Qa (bY r) (nj true) (mh true 1) 1 1 2 6 2 (Bi r) c rfl (by decide) (by decide) (by decide) (by decide) (by decide) hi (by decide) (by rcases a with rfl|rfl;exact Uj;exact Uk)
theorem RX(b:Bool):gz 25 (eS (ii 12 1) []) (.sl ((nj b).map zs)) (Z 1) (bp ⟨(nj b).map zs,mh b 0⟩):=by
 have h:=Xh (ii 12 1) [] (nj b) 1 (by simp[ii]) (by simp) Ue (by cases b<;>decide) (by cases b<;>decide) (by cases b<;>decide) (by decide) (by cases b<;>decide) (IK b) (by
  intro i x a;cases b
  .rcases i with _|_|i
   .injection a with a;subst a;decide
   .injection a with a;subst a;decide
   .cases a
  .rcases i with _|_|_|i
   .injection a with a;subst a;decide
   .injection a with a;subst a;decide
   .injection a with a;subst a;decide
   .cases a)
 cases b
 .rw[show xm (ii 12 1) [] (nj false) 1 (nj false).length=mh false 0 from Uc]at h;exact h
 .rw[show xm (ii 12 1) [] (nj true) 1 (nj true).length=mh true 0 from Ud]at h;exact h
theorem LR(l:List Int)(k:Nat):(kC l (k+1)).map aW=(kC l k).map aW++[aW (bY (tl l k))]:=by simp[kC,yAd]
theorem Dk(l:List Int)(k:Nat):(iY l (k+1)).map ai=(iY l k).map ai++[ai (Nx l k)]:=by simp[iY,yAd]
theorem Kh(l:List Int)(k:Nat):((gQ l (k+1)).map λq=>bp (bX q))=((gQ l k).map λq=>bp (bX q))++[bp (bX (xp (Kf l k)))]:=by simp[gQ,yAd]
theorem d8(l:List Int):aT 8 (zs l) (.tup [.sl ((kC l (bS l)).map aW),aB (iY l (bS l)),vn (gQ l (bS l))]):=by
 obtain⟨hk,N⟩:=Fd l
 have aj:bS l<=3:=by omega
 have c0:=PO l;have c1:=EV l 0 2 (by decide) (by omega);have hr:=jr l 0 (k:=2) (by decide) (by decide)
 have P:i64.wrap (2+nx l 0 2)=((bS l:Nat):Int):=by rw[N,IntKind.wrap_i64];omega
 generalize bS l=k at *;refine Dp func8 λC hP hN=>?_;refine kp [6,7,8] (gA @vh.eq_1 P) ?_;refine WP.loopN [10,11] k (λi st=>st.t 5=.ptr 14 0/\st.h 14=some (.box [.pv (zs l),.pv (Z (fK l i))] true false)/\st.t 6=.arr 6 i/\st.h 6=some (.row 35 4 ((kC l i).map aW) 0)/\st.t 7=.arr 7 i/\st.h 7=some (.row 60 3 ((iY l i).map ai) 0)/\st.t 8=.arr 8 i/\st.h 8=some (.row 40 2 ((gQ l i).map λq=>bp (bX q)) 0)/\st.t 9=.pv (Z ((k:Int)-i))/\st.h 10=none/\st.h 11=none) (by simp[fK,kC,iY,gQ]) ?_;rintro i st hi ⟨g5,a,g,b6,j,d,m,f,n,D,F⟩;have T:=yA l i;have U:=z7 l i;have V:=vo l i;by_cases O:i<k
 case neg=>
  have ah:i=k:=by omega
  subst ah
  have h0:¬(0:Int)<(i:Int)-i:=by omega
  exact Gy
 have h0:(0:Int)<(k:Int)-i:=by omega
 have hw:i64.wrap ((k:Int)-i-1)=(k:Int)-((i+1:Nat):Int):=by rw[IntKind.wrap_i64];omega
 have hm:=Kg l i;have l1:=rc l (fK l i);have l2:=rc l (nn l (fK l i));have l3:=rc l (nn l (nn l (fK l i)));have cS:=Xa 1 12 (by decide) (by decide);have d1:=EV l (fK l i) 2 (by decide) (by omega);have d2:=EV l (nn l (fK l i)) 2 (by decide) (by omega);have d3:=EV l (nn l (nn l (fK l i))) 9 (by decide) (by omega);have d4:=EV l (nn l (nn l (nn l (fK l i)))) 4 (by decide) (by omega);have y1:=jr l (fK l i) (k:=2) (by decide) (by decide);have y3:=jr l (nn l (nn l (fK l i))) (k:=9) (by decide) (by decide);have y4:=jr l (nn l (nn l (nn l (fK l i)))) (k:=4) (by decide) (by decide);have J:=Kh l i;have xS:=LR l i;have hR:tl l i=1+nx l (fK l i) 2:=rfl;have ad:=pi l i;have L:Kf l i=decide (nx l (nn l (fK l i)) 2=1):=rfl
 have S:i64.wrap (1+nx l (fK l i) 2)=tl l i:=by rw[hR,IntKind.wrap_i64];omega
 have Q:i64.wrap (3*nx l (nn l (nn l (fK l i))) 9)=3*nx l (nn l (nn l (fK l i))) 9:=by rw[IntKind.wrap_i64];omega
 have R:i64.wrap (2*nx l (nn l (nn l (nn l (fK l i)))) 4)=2*nx l (nn l (nn l (nn l (fK l i)))) 4:=by rw[IntKind.wrap_i64];omega
 have cT:=λ(b:Bool)(e:Nat)(h:e<Dj b)=>Xj b h ad;have A:=RX (Kf l i);clear hR N P hk;generalize tl l i=r at *;obtain⟨b,hb⟩:∃b,b=Kf l i:=⟨_,rfl⟩;rw[<-hb]at A J L;obtain⟨o,z⟩:∃o,o=(nj b).map zs:=⟨_,rfl⟩
 have cA:b=true->gz 25 (eS (ii 12 1) []) (.sl [.sl [Z 0],.sl [Z 6],.sl [Z 12]]) (Z 1) (bp ⟨o,mh b 0⟩):=λh=>by rw[z];subst h;exact A
 have X:b=false->gz 25 (eS (ii 12 1) []) (.sl [.sl [Z 0],.sl [Z 12]]) (Z 1) (bp ⟨o,mh b 0⟩):=λh=>by rw[z];subst h;exact A
 have Y:=cT b
 have qE:bp (bX (xp b))=bp ⟨o,mh b 2⟩:=by rw[z];rfl
 rw[qE]at J;rw[<-z]at Y;have eL:=Ol b;have K:=Om b
 have eM:Dj b<=2:=by cases b<;>decide
 clear cT qE A z hb;generalize mh b=E at *;generalize Dj b=M at *;rw[<-K]at J;by_cases hq:nx l (nn l (fK l i)) 2=1
 .have c5:=cA (by rw[L];exact Zs hq)
  have H:(nx l (nn l (fK l i)) 2==1)=true:=by simp[hq]
  clear cA X L;refine GT (zAc g5 a g b6 j d m f n D F h0 T U (go V S hq H)) ?_;refine WP.loopN [] M (λe st=>st.t 5=.ptr 14 0/\st.h 14=some (.box [.pv (zs l),.pv (Z (nn l (nn l (fK l i))))] true false)/\st.t 6=.arr 6 i/\st.h 6=some (.row 35 4 ((kC l i).map aW) 0)/\st.t 7=.arr 7 i/\st.h 7=some (.row 60 3 ((iY l i).map ai) 0)/\st.t 8=.arr 8 i/\st.h 8=some (.row 40 2 ((gQ l i).map λq=>bp (bX q)) 0)/\st.t 9=.pv (Z ((k:Int)-i))/\st.t 10=.ptr 10 0/\st.h 10=some (.box [.pv (.sl ((ii 12 1).map aQ)),.pv (.sl []),.pv (.sl [.agg [Z 0,Z r,.sl [.val (.agg #[.int .i64 0,.int .i64 0,.int .i64 0])]]]),.pv (.val (.slice none 0 0))] true false)/\st.t 11=.ptr 11 0/\st.h 11=some (.box [.pv (.sl o),.pv (iN (E e))] true false)/\st.t 12=.pv (Z e)) (by simp[g5,a,g,b6,j,d,m,f,n]) ?_;clear g5 a g b6 j d m f n D F st;rintro e st he ⟨g5,a,g,b6,j,d,m,f,n,v,p,x,s,y⟩;have u:=eL e;by_cases c:e<M
  .have I:i64.wrap ((e:Int)+1)=(e:Int)+1:=by rw[IntKind.wrap_i64];omega
   have c6:mD 26 (.agg [.sl ((ii 12 1).map aQ),.sl [],.sl [.agg [Z 0,Z r,.sl [.val (.agg #[.int .i64 0,.int .i64 0,.int .i64 0])]]],.sl []]) (bp ⟨o,E e⟩) (Z e) (Z 2) (.tup [bp ⟨o,E (e+1)⟩,B true]):=Y e c;generalize E (e+1)=En at *;generalize E e=W at *;clear K J;exact GS (zAc g5 a g b6 j d m f n v p x s y (go u c I @bY.eq_1))
  .have G:e=M:=by omega
   subst G;generalize E e=W at *;clear K;refine GT (zAc g5 a g b6 j d m f n v p x s y (zAb u c Q R hw T U V (show(i+1)*96<=140737488355328 by omega) (show(i+1)*24<=140737488355328 by omega) (show(i+1)*48<=140737488355328 by omega) (gA (show i<=9223372036854775806 by omega) (show i+1<=9223372036854775807 by omega)))) ?_
   all_goals exact⟨O,rfl,xS.symm,(Dk l i).symm,J.symm⟩
 .have c5:=X (by rw[L];exact ZU hq)
  have H:(nx l (nn l (fK l i)) 2==1)=false:=by simp[hq]
  clear cA X L;refine GT (zAc g5 a g b6 j d m f n D F h0 T U (go V S hq H)) ?_;refine WP.loopN [] M (λe st=>st.t 5=.ptr 14 0/\st.h 14=some (.box [.pv (zs l),.pv (Z (nn l (nn l (fK l i))))] true false)/\st.t 6=.arr 6 i/\st.h 6=some (.row 35 4 ((kC l i).map aW) 0)/\st.t 7=.arr 7 i/\st.h 7=some (.row 60 3 ((iY l i).map ai) 0)/\st.t 8=.arr 8 i/\st.h 8=some (.row 40 2 ((gQ l i).map λq=>bp (bX q)) 0)/\st.t 9=.pv (Z ((k:Int)-i))/\st.t 10=.ptr 10 0/\st.h 10=some (.box [.pv (.sl ((ii 12 1).map aQ)),.pv (.sl []),.pv (.sl [.agg [Z 0,Z r,.sl [.val (.agg #[.int .i64 0,.int .i64 0,.int .i64 0])]]]),.pv (.val (.slice none 0 0))] true false)/\st.t 11=.ptr 11 0/\st.h 11=some (.box [.pv (.sl o),.pv (iN (E e))] true false)/\st.t 12=.pv (Z e)) (by simp[g5,a,g,b6,j,d,m,f,n]) ?_;clear g5 a g b6 j d m f n D F st;rintro e st he ⟨g5,a,g,b6,j,d,m,f,n,v,p,x,s,y⟩;have u:=eL e;by_cases c:e<M
  .have I:i64.wrap ((e:Int)+1)=(e:Int)+1:=by rw[IntKind.wrap_i64];omega
   have c6:mD 26 (.agg [.sl ((ii 12 1).map aQ),.sl [],.sl [.agg [Z 0,Z r,.sl [.val (.agg #[.int .i64 0,.int .i64 0,.int .i64 0])]]],.sl []]) (bp ⟨o,E e⟩) (Z e) (Z 2) (.tup [bp ⟨o,E (e+1)⟩,B true]):=Y e c;generalize E (e+1)=En at *;generalize E e=W at *;clear K J;exact GS (zAc g5 a g b6 j d m f n v p x s y (go u c I @bY.eq_1))
  .have G:e=M:=by omega
   subst G;generalize E e=W at *;clear K;refine GT (zAc g5 a g b6 j d m f n v p x s y (zAb u c Q R hw T U V (show(i+1)*96<=140737488355328 by omega) (show(i+1)*24<=140737488355328 by omega) (show(i+1)*48<=140737488355328 by omega) (gA (show i<=9223372036854775806 by omega) (show i+1<=9223372036854775807 by omega)))) ?_
   all_goals exact⟨O,rfl,xS.symm,(Dk l i).symm,J.symm⟩
theorem Km{e:Int}(hi:l[i]?=some e)(hq:∀(k:Nat) x,k<i->l[k]?=some x->x=0)(b:e≠0):fL l=e:=by
 obtain⟨a,d⟩:=th.1 hi
 have:l.find? (λe=>e !=0)=some e:=by
  rw[yAZ];refine⟨by simpa using b,i,a,d,λk c=>?_⟩;have:=hq k _ c (an (by omega));simp[this]
 rw[fL,this]
structure JnB(A:Sce)(k:Nat):Prop where
 j:A.js.length<=10*k
 m:A.ms.length<=32*k
 h:A.shs.length<=24*k
 s:A.sks.length<=64*k
 p:∀x∈A.shs,x.pts.length<=8
theorem Dl{h:Sh}(e:bz n h=0):h.pts.length<=8:=by
 unfold bz at e;split at e
 case isFalse=>cases e
 rename_i g1;simp only[up,Is]at g1;omega
theorem Bm{l:List Sce}{bs:List Vc}(h:∀s∈l,ao s=0):∀k,JnB (bM l bs k) k
 |0=>⟨by simp[bM],by simp[bM],by simp[bM],by simp[bM],by simp[bM]⟩
 |k+1=>by
  obtain⟨h1,h2,h3,h4,h5⟩:=Bm (bs:=bs) h k;rw[bM];split
  .rename_i s b c e
   have o:=k9 (h s (An c));have:=o.n2;have:=o.m1;have:=o.h1;have:=o.k1;refine⟨?_,?_,?_,?_,λx a=>?_⟩
   .simp only[fD,Zb,Zm];omega
   .simp only[fD,Zb,Zm];omega
   .simp only[fD,Zb,Zm];omega
   .simp only[fD,Zb,Zm];omega
   .rcases Y7.1 a with a|a
    .exact h5 x a
    .obtain⟨y,d,rfl⟩:=Zg.1 a
     have:=Dl (o.h y d);simp only[jM];split
     .rw[Zm];exact this
     .exact this
  .exact⟨by omega,by omega,by omega,by omega,h5⟩
theorem JnB.L(h:JnB A k)(b:k<=4):ScL A:=⟨by have:=h.j;omega,by have:=h.m;omega,by have:=h.h;omega,by have:=h.s;omega,λx a=>by have:=h.p x a;omega⟩
abbrev tV:Value:=.string ⟨#[97,98,99,100]⟩
def Fk(i:Nat):Operand->AV:=λx=>match x with
 |.tmp 86=>.pv (Z i)
 |.tmp 88=>.pv (Z ((i:Int)+1))
 |_=>.pv (.val tV)
section
variable {dst:Option Nat} {ty:TypeId} {pos:String} {aft:Array Edge} {g:Option (Nat×Bool)} {ρ:Operand->AV}
theorem RZ:aV prog ⟨dst,.slice 9 (.const tV) (some (.tmp 86)) (some (.tmp 88)) none,ty,pos,aft,g⟩ (Fk 0)=some (.pv (.val (.string (bQ 0))),[]):=by kernel_rfl
theorem R0:aV prog ⟨dst,.slice 9 (.const tV) (some (.tmp 86)) (some (.tmp 88)) none,ty,pos,aft,g⟩ (Fk 1)=some (.pv (.val (.string (bQ 1))),[]):=by kernel_rfl
theorem R3:aV prog ⟨dst,.slice 9 (.const tV) (some (.tmp 86)) (some (.tmp 88)) none,ty,pos,aft,g⟩ (Fk 2)=some (.pv (.val (.string (bQ 2))),[]):=by kernel_rfl
theorem R4:aV prog ⟨dst,.slice 9 (.const tV) (some (.tmp 86)) (some (.tmp 88)) none,ty,pos,aft,g⟩ (Fk 3)=some (.pv (.val (.string (bQ 3))),[]):=by kernel_rfl
theorem Qg(i:Nat)(h4:i<4)(b:ρ (.tmp 86)=.pv (Z i))(c:ρ (.tmp 88)=.pv (Z ((i:Int)+1)))(hc:ρ (.const tV)=.pv (.val tV)):
 aV prog ⟨dst,.slice 9 (.const tV) (some (.tmp 86)) (some (.tmp 88)) none,ty,pos,aft,g⟩ ρ=some (.pv (.val (.string (bQ i))),[]):=by
 have h:aV prog ⟨dst,.slice 9 (.const tV) (some (.tmp 86)) (some (.tmp 88)) none,ty,pos,aft,g⟩ ρ=aV prog ⟨dst,.slice 9 (.const tV) (some (.tmp 86)) (some (.tmp 88)) none,ty,pos,aft,g⟩ (Fk i):=by
  refine nU (by intro _ _ h;cases h) ?_;intro x a;simp[Op.operands]at a;rcases a with rfl|rfl|rfl
  .exact hc
  .exact b
  .exact c
 rw[h]
 have:i=0\/i=1\/i=2\/i=3:=by omega
 rcases this with rfl|rfl|rfl|rfl
 .exact RZ
 .exact R0
 .exact R3
 .exact R4
end
def jE(i:Nat):Nat×Nat:=if i=291 then(108,12)else if i=292 then(110,5)else if i=293 then(81,3)else(113,2)
theorem IL{l:Int}{m:Nat}(h:bJ m l=true)(a:m<=10)(hn:n<=40):i64.wrap (l+n)=l+n:=by
 simp only[bJ,up,Is]at h;exact aa (by omega) (by omega)
theorem Ou{h:Sh}(e:bz n h=0):h.pts.map (qm (0,0,0))=h.pts:=by
 unfold bz at e;split at e
 case isFalse=>cases e
 split at e
 case isFalse=>cases e
 rename_i g2;rw[L4]at g2;refine(List.map_congr_left (g:=id) λv d=>?_).trans (List.map_id _);have:=br.1 (g2 v d);simp only[aU]at this;obtain⟨a,b,c⟩:=v;simp only at this;simp only[qm,Int.add_zero,id];rw[show wr a=a from aa (by omega) (by omega),show wr b=b from aa (by omega) (by omega),show wr c=c from aa (by omega) (by omega)]
def JI(l:List Sce)(bs:List Vc)(k m:Nat)(b:Vc)(x1 x2 x3 x4:List PV)(st:St):Prop:=
 st.t 0=.pv (.sl (l.map aW))/\st.t 1=.pv (aB bs)/\st.t 4=.ptr 4 0/\st.h 4=some (.box [.pv (.val (.slice none 0 0)),.pv (.val (.slice none 0 0)),.pv (.val (.slice none 0 0)),.pv (.val (.slice none 0 0))] true false)/\st.t 5=.pv (Z 0)/\st.t 8=.ptr 8 0/\st.h 8=some (.box [.arr 291 x1.length,.arr 292 x2.length,.arr 293 x3.length,.arr 294 x4.length] true false)/\st.h 291=some (.row 108 12 x1 0)/\st.h 292=some (.row 110 5 x2 0)/\st.h 293=some (.row 81 3 x3 0)/\st.h 294=some (.row 113 2 x4 0)/\st.t 9=.pv (Z k)/\st.t 10=.pv (Z m)/\st.t 11=.ptr 11 0/\st.h 11=some (.box [.pv (Z b.1),.pv (Z b.2.1),.pv (Z b.2.2)] true false)/\st.h 13=none/\st.h 15=none/\st.h 17=none/\st.h 18=none/\st.h 20=none
theorem Kn{l:List Sce}{bs:List Vc}{res:PV}(d:¬(l.length<1\/4<l.length\/bs.length≠l.length))(a:res=PV.tup [aW (gl l bs),Z (gx l bs)]):
 (∀(i:Nat) s,l[i]?=some s->(∀(k:Nat) x,k<i->l[k]?=some x->ao x=0)->ao s≠0->res=.tup [.agg [.sl [],.sl [],.sl [],.sl []],Z (ao s)])/\
 ((∀s∈l,ao s=0)->res=if ao (bM l bs l.length)=0 then .tup [aW (bM l bs l.length),Z 0]else .tup [.agg [.sl [],.sl [],.sl [],.sl []],Z 3502]):=by
 have m:gx l bs=if fL (l.map ao)≠0 then fL (l.map ao)else if ao (bM l bs l.length)=0 then 0 else 3502:=by unfold gx;rw[YR d]
 refine⟨?_,?_⟩
 .intro i s hi hq j
  have h1:fL (l.map ao)=ao s:=Km (i:=i) (by simp[hi]) (λk x o b=>by
   rw[YS]at b
   cases g:l[k]? with
   |none=>rw[g]at b;cases b
   |some y=>rw[g]at b;injection b with b;rw[<-b];exact hq k y o g) j
  have h2:gx l bs=ao s:=by rw[m,YY (by rw[h1];exact j),h1]
  rw[a,gl,h2,YR j];rfl
 .intro h
  have h1:fL (l.map ao)=0:=Bj (by intro e n;obtain⟨s,f,rfl⟩:=Zg.1 n;exact h s f)
  have c:gx l bs=if ao (bM l bs l.length)=0 then 0 else 3502:=by rw[m,YR (by rw[h1];simp)]
  rw[a,gl];by_cases hc:ao (bM l bs l.length)=0
  .rw[c,YY hc,YY rfl,YY hc]
  .rw[c,YR hc,YR (by decide),YR hc];rfl
theorem Xl(l:List Sce)(bs:List Vc)(hs:∀s∈l,ScL s)(hl:l.length<=9223372036854775807)(hb:bs.length<=9223372036854775807):aH 15 (.sl (l.map aW)) (aB bs) (.tup [aW (gl l bs),Z (gx l bs)]):=by
 by_cases W:l.length<1\/4<l.length\/bs.length≠l.length
 .have e1:gx l bs=3501:=by unfold gx;rw[YY W]
  have e2:gl l bs=⟨[],[],[],[]⟩:=by unfold gl;rw[e1];rfl
  rw[e1,e2]
  have hc:((l.length:Int)<1)\/(4<(l.length:Int))\/((bs.length:Int)!=l.length)=true:=by
   rcases W with h|h|h
   .exact .inl (by omega)
   .exact .inr (.inl (by omega))
   .refine .inr (.inr ?_);simp;omega
  rcases hc with h|h|h
  all_goals
   refine Dp func15 λC hP hN=>?_;exact Gy
 have l1:¬(l.length:Int)<1:=by omega
 have l2:¬4<(l.length:Int):=by omega
 have l3:((bs.length:Int)!=l.length)=false:=by simp;omega
 have cP:bs.length=l.length:=by omega
 have h4:l.length<=4:=by omega
 have hE:gx l bs=if fL (l.map ao)≠0 then fL (l.map ao)else if ao (bM l bs l.length)=0 then 0 else 3502:=by unfold gx;rw[YR W]
 have cs:=λ(s:Sce)(h:s∈l)=>Hx s (hs s h);obtain⟨cQ,F⟩:∃r,r=PV.tup [aW (gl l bs),Z (gx l bs)]:=⟨_,rfl⟩;obtain⟨hF,hG⟩:=Kn W F;rw[<-F];clear F hE;refine Dp func15 λC hP hN=>?_;refine Gz ?_;refine WP.loopN [] l.length (λi st=>st.t 0=.pv (.sl (l.map aW))/\st.t 1=.pv (aB bs)/\st.t 4=.ptr 4 0/\st.h 4=some (.box [.pv (.val (.slice none 0 0)),.pv (.val (.slice none 0 0)),.pv (.val (.slice none 0 0)),.pv (.val (.slice none 0 0))] true false)/\st.t 5=.pv (Z 0)/\st.t 6=.pv (Z i)/\(st.h 8=none/\st.h 11=none/\st.h 13=none/\st.h 15=none/\st.h 17=none/\st.h 18=none/\st.h 20=none/\st.h 291=none/\st.h 292=none/\st.h 293=none/\st.h 294=none)/\∀(k:Nat) x,k<i->l[k]?=some x->ao x=0) (by simp) ?_;rintro i st hi ⟨g0,g1,g4,E,g5,g6,⟨n8,b9,g,n,o,p,q,ca,cb,cc,cd⟩,hq⟩;by_cases B:i<l.length
 .have X:=ae B (by omega)
  have P:l[i]?=some l[i]:=an B;have c1:=cs _ (Zd B);have ct:=hF i _ P hq;generalize J:l[i]=s at *;by_cases hz:ao s=0
  .rw[hz]at c1
   have cz:∀(k:Nat) x,k<i+1->l[k]?=some x->ao x=0:=λk x hk b7=>by
    by_cases e:k=i
    .subst e;rw[P]at b7;injection b7 with b7;rw[<-b7];exact hz
    .exact hq k x (by omega) b7
   refine Gz ?_
   all_goals exact cz
  .have hr:=ct hz
   have cD:(ao s !=0)=true:=by simp[hz]
   subst hr;generalize ao s=e at *;exact Gy
 have N:i=l.length:=by omega
 subst N
 have bq:∀s∈l,ao s=0:=λs cB=>by
  obtain⟨k,hk⟩:=Zq cB;exact hq k s (th.1 hk).1 hk
 have hB:=λk=>Bm (bs:=bs) bq k;have F:=hG bq;clear hF hG hq cs
 with_reducible iterate 8 any_goals (first|refine Sp.h ?_|((first|refine Wd ?_|refine Ss.h ?_|(refine Sb.h ?_ ?_ ?_<;>(try intro hgd)<;>try exact Xy))<;>simp -implicitDefEqProofs (maxSteps:=2000000) [hP,hN,g0,g1,g4,E,g5,g6,n8,b9,g,n,o,p,q,ca,cb,cc,cd,B]<;>try refine Ya ?_)|refine X2 ?_ ?_|(refine Xd ?_ ?_<;>intro hcd<;>try exact Xx))
 refine WP.nilRowsE (λk=>decide (291<=k)&&decide (k<=294)) jE 8 (cs:=[.pv (.val (.slice none 0 0)),.pv (.val (.slice none 0 0)),.pv (.val (.slice none 0 0)),.pv (.val (.slice none 0 0))]) (cs':=[.arr 291 0,.arr 292 0,.arr 293 0,.arr 294 0]) (own:=true) (fb:=false) (by simp) ?_ rfl ?_ ?_
 .intro k hk
  simp only[up,Is]at hk
  have:k=291\/k=292\/k=293\/k=294:=by omega
  rcases this with rfl|rfl|rfl|rfl<;>simp[jE,ca,cb,cc,cd]
 .intro i x P
  rcases i with _|_|_|_|i<;>simp at P<;>subst P<;>simp
 refine Gz ?_;refine WP.loopN [11] l.length (λk st=>∃A,A=bM l bs k/\st.t 0=.pv (.sl (l.map aW))/\st.t 1=.pv (aB bs)/\st.t 4=.ptr 4 0/\st.h 4=some (.box [.pv (.val (.slice none 0 0)),.pv (.val (.slice none 0 0)),.pv (.val (.slice none 0 0)),.pv (.val (.slice none 0 0))] true false)/\st.t 5=.pv (Z 0)/\st.t 8=.ptr 8 0/\st.h 8=some (.box [.arr 291 A.js.length,.arr 292 A.ms.length,.arr 293 A.shs.length,.arr 294 A.sks.length] true false)/\st.h 291=some (.row 108 12 (A.js.map aQ) 0)/\st.h 292=some (.row 110 5 (A.ms.map bb) 0)/\st.h 293=some (.row 81 3 (A.shs.map ba) 0)/\st.h 294=some (.row 113 2 (A.sks.map aK) 0)/\st.t 9=.pv (Z k)/\st.h 11=none/\st.h 13=none/\st.h 15=none/\st.h 17=none/\st.h 18=none/\st.h 20=none) ?_ ?_
 .exact⟨_,rfl,by simp[jE,bM,g0,g1,g4,E,g5,b9,g,n,o,p,q]⟩
 clear g0 g1 g4 E g5 g6 n8 b9 g n o p q ca cb cc cd;rintro k st hk ⟨A,hA,g0,g1,g4,E,g5,K,H,a,c,d,f,G,b9,g,n,o,p,q⟩;have ck:=hB k;rw[<-hA]at ck;obtain⟨B1,B2,B3,B4,-⟩:=ck;by_cases B:k<l.length
 case neg=>
  have cu:k=l.length:=by omega
  subst cu;subst hA;have c1:=Hx _ ((hB l.length).L h4);generalize bM l bs l.length=A at *;by_cases hz:ao A=0
  .rw[hz]at c1
   rw[YY hz]at F;subst F;exact Gy
  .have cD:(ao A !=0)=true:=by simp[hz]
   rw[YR hz]at F;subst F;generalize ao A=e at *;exact Gy
 have cf:=ae B (by omega);have P:l[k]?=some l[k]:=an B
 have D:k<bs.length:=by omega
 have hy:bs[k]?=some bs[k]:=an D;have os:=k9 (bq _ (Zd B));have U:=vp P hy;rw[<-hA]at U
 have cn:k<4:=by omega
 generalize J:l[k]=s at *;generalize M:bs[k]=b at *;obtain⟨js,ms,SH,sks⟩:=s;have o2:=os.n2;have oj:=os.j;have om:=os.m;have oh:=os.h;have ok:=os.k;have cO:=os.m1;have cM:=os.h1;have cN:=os.k1;clear os;simp only at o2 oj om oh ok cO cM cN;obtain⟨aj,am,ah,ak⟩:=A;simp only[fD]at U;simp only at B1 B2 B3 B4 H a c d f;obtain⟨m,hm⟩:∃m,m=aj.length:=⟨_,rfl⟩;rw[<-hm]at U H;obtain⟨R,ar⟩:∃S,S=sq (aj.map aQ) (λj=>aQ (gg k m b j)) js:=⟨_,rfl⟩;obtain⟨Y,a6⟩:∃S,S=sq (am.map bb) (λx=>bb (oY m x)) ms:=⟨_,rfl⟩;obtain⟨S3,a7⟩:∃S,S=sq (ah.map ba) (λx=>ba (jM m b x)) SH:=⟨_,rfl⟩;obtain⟨S4,a8⟩:∃S,S=sq (ak.map aK) (λx=>aK (ov m x)) sks:=⟨_,rfl⟩
 have z1:R 0=aj.map aQ:=by rw[ar,lG]
 have z2:Y 0=am.map bb:=by rw[a6,lG]
 have z3:S3 0=ah.map ba:=by rw[a7,lG]
 have z4:S4 0=ak.map aK:=by rw[a8,lG]
 have u1:∀i j,js[i]?=some j->R (i+1)=R i++[aQ (gg k m b j)]:=λi j h=>by rw[ar];exact lH h
 have u2:∀i x,ms[i]?=some x->Y (i+1)=Y i++[bb (oY m x)]:=λi j h=>by rw[a6];exact lH h
 have u3:∀i x,SH[i]?=some x->S3 (i+1)=S3 i++[ba (jM m b x)]:=λi j h=>by rw[a7];exact lH h
 have u4:∀i x,sks[i]?=some x->S4 (i+1)=S4 i++[aK (ov m x)]:=λi j h=>by rw[a8];exact lH h
 have v1:∀i,i<=js.length->(R i).length<=100:=λi h=>by rw[ar,ow h,Zm];omega
 have v2:∀i,i<=ms.length->(Y i).length<=200:=λi h=>by rw[a6,ow h,Zm];omega
 have v3:∀i,i<=SH.length->(S3 i).length<=200:=λi h=>by rw[a7,ow h,Zm];omega
 have v4:∀i,i<=sks.length->(S4 i).length<=400:=λi h=>by rw[a8,ow h,Zm];omega
 have y1:R js.length=(aj++js.map (gg k m b)).map aQ:=by rw[ar,oB];simp
 have y2:Y ms.length=(am++ms.map (oY m)).map bb:=by rw[a6,oB];simp
 have y3:S3 SH.length=(ah++SH.map (jM m b)).map ba:=by rw[a7,oB];simp
 have y4:S4 sks.length=(ak++sks.map (ov m)).map aK:=by rw[a8,oB];simp
 have b3:m<=40:=by omega
 clear ar a6 a7 a8;refine Gz ?_;refine WP.loopN [13] js.length (λi st=>JI l bs k m b (R i) (Y 0) (S3 0) (S4 0) st/\st.t 12=.pv (Z i)) (by simp[JI,z1,z2,z3,z4,hm,g0,g1,g4,E,g5,K,H,a,c,d,f,G,g,n,o,p,q]) ?_;clear g0 g1 g4 E g5 K H a c d f G b9 g n o p q;rintro i st hi ⟨⟨g0,g1,g4,E,g5,K,H,a,c,d,f,G,y,z,v,g,n,o,p,q⟩,T⟩;have hS:=v1 i hi;by_cases u:i<js.length
 .have X:=ae u (by omega)
  have Q:js[i]?=some js[i]:=an u;generalize I:js[i]=j at *;have h1:=u1 i j Q;obtain⟨e1,-,-,e4,-⟩:=fN.1 (oj i j Q)
  have V:(bQ k).size+j.name.size<=9223372036854775807:=by
   simp only[fk,up,Is]at e1;rw[show(bQ k).size=1 from rfl];omega
  obtain⟨nm,kd,pa,ox,oy,oz,lo,cm,w',sp,ac,tq⟩:=j;simp only at e4 V h1;have b5:i64.wrap (pa+m)=pa+m:=aa;have c1:=NB m pa b5
  have q1:((R i).length+1)*104<=140737488355328:=by omega
  have q2:(R i).length+1<=9223372036854775807:=by omega
  by_cases hp:pa=-1
  .have O:(pa==-1)=true:=by simp[hp]
   have ad:R (i+1)=R i++[.val (.agg #[.string (bQ k++nm),.int .i64 kd,.int .i64 (kZ m pa),.int .i64 (wr (ox+b.1)),.int .i64 (wr (oy+b.2.1)),.int .i64 (wr (oz+b.2.2)),.int .i64 lo,.int .i64 cm,.int .i64 w',.int .i64 sp,.int .i64 ac,.int .i64 tq])]:=by rw[h1];simp[gg,hp]
   clear h1;refine GT (zAc g0 g1 g4 E g5 K H a c d f G y z (zAc v g n o p q T B P J D hy M u (s7 X Q I cf V q1 q2 (gA O ad)))) ?_;rw[Qg k cn (by simp) (by simp) rfl];simp -implicitDefEqProofs (maxSteps:=2000000) [hP,hN,g0,g1,g4,E,g5,K,H,a,c,d,f,G,y,z,v,g,n,o,p,q,T,B,P,J,D,hy,M,V];refine Ya ?_;exact GS (zAc g0 g1 g4 E g5 K H a c d f G y z (zAc v g n o p q T B P J D hy M u (zAa X Q I cf V q1 q2 O ad @JI.eq_1)))
  .have O:(pa==-1)=false:=by simp[hp]
   have ad:R (i+1)=R i++[.val (.agg #[.string (bQ k++nm),.int .i64 kd,.int .i64 (kZ m pa),.int .i64 ox,.int .i64 oy,.int .i64 oz,.int .i64 lo,.int .i64 cm,.int .i64 w',.int .i64 sp,.int .i64 ac,.int .i64 tq])]:=by rw[h1];simp[gg,hp]
   clear h1;refine GT (zAc g0 g1 g4 E g5 K H a c d f G y z (zAc v g n o p q T B P J D hy M u (s7 X Q I cf V q1 q2 (gA O ad)))) ?_;rw[Qg k cn (by simp) (by simp) rfl];simp -implicitDefEqProofs (maxSteps:=2000000) [hP,hN,g0,g1,g4,E,g5,K,H,a,c,d,f,G,y,z,v,g,n,o,p,q,T,B,P,J,D,hy,M,V];refine Ya ?_;exact GS (zAc g0 g1 g4 E g5 K H a c d f G y z (zAc v g n o p q T B P J D hy M u (zAa X Q I cf V q1 q2 O ad @JI.eq_1)))
 have N:i=js.length:=by omega
 subst N;refine Gz ?_;refine WP.loopN [15] ms.length (λi st=>JI l bs k m b (R js.length) (Y i) (S3 0) (S4 0) st/\st.t 14=.pv (Z i)) (by simp[JI,g0,g1,g4,E,g5,K,H,a,c,d,f,G,y,z,v,g,n,o,p,q]) ?_;clear g0 g1 g4 E g5 K H a c d f G y z v g n o p q T hS u;rintro i st hi ⟨⟨g0,g1,g4,E,g5,K,H,a,c,d,f,G,y,z,v,g,n,o,p,q⟩,cj⟩;have hS:=v2 i hi;by_cases u:i<ms.length
 .have X:=ae u (by omega)
  have Q:ms[i]?=some ms[i]:=an u;have cv:=om _ (Zd u);generalize I:ms[i]=x at *;have h1:=u2 i x Q;obtain⟨lk,ma,px,py,pz⟩:=x;simp only[dS,up,Is]at cv;have b5:i64.wrap (lk+m)=lk+m:=aa
  have q1:((Y i).length+1)*40<=140737488355328:=by omega
  have q2:(Y i).length+1<=9223372036854775807:=by omega
  simp only[oY]at h1;exact GS (zAc g0 g1 g4 E g5 K H a c d f G y z (zAc v g n o p q cj B P J D hy M u (s7 X Q I b5 q1 q2 h1 @JI.eq_1)))
 have N:i=ms.length:=by omega
 subst N;refine Gz ?_;refine WP.loopN [17,18] SH.length (λi st=>JI l bs k m b (R js.length) (Y ms.length) (S3 i) (S4 0) st/\st.t 16=.pv (Z i)) (by simp[JI,g0,g1,g4,E,g5,K,H,a,c,d,f,G,y,z,v,g,n,o,p,q]) ?_;clear g0 g1 g4 E g5 K H a c d f G y z v g n o p q cj hS u;rintro i st hi ⟨⟨g0,g1,g4,E,g5,K,H,a,c,d,f,G,y,z,v,g,n,o,p,q⟩,cg⟩;have hS:=v3 i hi;by_cases u:i<SH.length
 .have X:=ae u (by omega)
  have Q:SH[i]?=some SH[i]:=an u;have b2:=oh _ (Zd u);generalize I:SH[i]=x at *;have h1:=u3 i x Q;have cq:=Ou b2;have cx:=Dl b2
  have cp:bJ js.length x.link=true:=by
   unfold bz at b2;split at b2
   case isFalse=>cases b2
   rename_i G;simp only[up]at G;exact G.1.1.1.1
  obtain⟨lk,rd,pts⟩:=x;simp only at cq cx cp;have b5:=IL cp o2 b3;have c1:=NB m lk b5
  have q1:((S3 i).length+1)*40<=140737488355328:=by omega
  have q2:(S3 i).length+1<=9223372036854775807:=by omega
  by_cases hp:lk=-1
  .have O:(lk==-1)=true:=by simp[hp]
   have c2:=S7 ⟨lk,rd,pts⟩ (kZ m lk) b (by simp only;omega);simp only[jM,YY hp]at h1;exact GS (zAc g0 g1 g4 E g5 K H a c d f G y z (zAc v g n o p q cg B P J D hy M u (s7 X Q I O q1 q2 h1 @JI.eq_1)))
  .have O:(lk==-1)=false:=by simp[hp]
   have c2:=S7 ⟨lk,rd,pts⟩ (kZ m lk) (0,0,0) (by simp only;omega);simp only[jM,YR hp]at h1;simp only[cq]at c2;exact GS (zAc g0 g1 g4 E g5 K H a c d f G y z (zAc v g n o p q cg B P J D hy M u (s7 X Q I O q1 q2 h1 @JI.eq_1)))
 have N:i=SH.length:=by omega
 subst N;refine Gz ?_;refine WP.loopN [20] sks.length (λi st=>JI l bs k m b (R js.length) (Y ms.length) (S3 SH.length) (S4 i) st/\st.t 19=.pv (Z i)) (by simp[JI,g0,g1,g4,E,g5,K,H,a,c,d,f,G,y,z,v,g,n,o,p,q]) ?_;clear g0 g1 g4 E g5 K H a c d f G y z v g n o p q cg hS u;rintro i st hi ⟨⟨g0,g1,g4,E,g5,K,H,a,c,d,f,G,y,z,v,g,n,o,p,q⟩,cr⟩;have hS:=v4 i hi;by_cases u:i<sks.length
 .have X:=ae u (by omega)
  have Q:sks[i]?=some sks[i]:=an u;have ch:=ok _ (Zd u);generalize I:sks[i]=x at *;have h1:=u4 i x Q;obtain⟨ka,kb⟩:=x;simp only[gF,up]at ch;have c1:=NB m ka (IL ch.1 o2 b3);have c2:=NB m kb (IL ch.2 o2 b3)
  have q1:((S4 i).length+1)*16<=140737488355328:=by omega
  have q2:(S4 i).length+1<=9223372036854775807:=by omega
  simp only[ov]at h1;exact GS (zAc g0 g1 g4 E g5 K H a c d f G y z (zAc v g n o p q cr B P J D hy M u (s6 X Q I q1 q2 h1 @JI.eq_1)))
 have N:i=sks.length:=by omega
 subst N;exact Gy
def dI(own:Bool)(A:Sce):Hp:=λk=>
 if k=290 then some (.box [.arr 291 A.js.length,.arr 292 A.ms.length,.arr 293 A.shs.length,.arr 294 A.sks.length] own false)
 else if k=291 then some (.row 108 12 (A.js.map aQ) 0)
 else if k=292 then some (.row 110 5 (A.ms.map bb) 0)
 else if k=293 then some (.row 81 3 (A.shs.map ba) 0)
 else if k=294 then some (.row 113 2 (A.sks.map aK) 0)
 else none
theorem qn{own:Bool}{b:Blk}(h:dI own A k=some b):inK k=true/\((k=290/\b=.box [.arr 291 A.js.length,.arr 292 A.ms.length,.arr 293 A.shs.length,.arr 294 A.sks.length] own false)\/(k≠290/\∃e a xs,b=.row e a xs 0)):=by
 unfold dI at h;split at h
 .rename_i e;subst e;injection h with h;exact⟨rfl,.inl ⟨rfl,h.symm⟩⟩
 split at h
 .rename_i e;subst e;injection h with h;exact⟨rfl,.inr ⟨by decide,_,_,_,h.symm⟩⟩
 split at h
 .rename_i e;subst e;injection h with h;exact⟨rfl,.inr ⟨by decide,_,_,_,h.symm⟩⟩
 split at h
 .rename_i e;subst e;injection h with h;exact⟨rfl,.inr ⟨by decide,_,_,_,h.symm⟩⟩
 split at h
 .rename_i e;subst e;injection h with h;exact⟨rfl,.inr ⟨by decide,_,_,_,h.symm⟩⟩
 .cases h
theorem vq(own:Bool)(A:Sce):LookH (dI own A):=by
 refine⟨λk b h=>(qn h).1,λk b o h=>?_,λk b h=>?_,λk d o f h=>?_⟩
 .rcases(qn h).2 with⟨_,rfl⟩|⟨_,e,c,xs,rfl⟩
  .intro h9;cases h9
  .intro h9;simp[Blk.frz]at h9
 .rcases(qn h).2 with⟨_,rfl⟩|⟨_,e,c,xs,rfl⟩<;>rfl
 .rcases(qn h).2 with⟨_,h1⟩|⟨_,e,c,xs,h1⟩
  .injection h1 with h1;subst h1;intro x a;simp at a;rcases a with rfl|rfl|rfl|rfl<;>rfl
  .cases h1
theorem Qh{own:Bool}(c:∀k,inK k=true->h k=dI own A k):gG h=dI false A:=by
 funext k
 unfold gG;by_cases a:inK k=true
 .rw[YY a,c k a]
  split
  .rename_i e;subst e;rfl
  .rename_i e;unfold dI;rw[YR e,YR e]
 .rw[YR a]
  cases d:dI false A k with
  |none=>rfl
  |some b=>exact absurd (qn d).1 a
theorem Ov{own:Bool}{a:Sce}(b:∀k,inK k=true->h k=dI own A k)(c:inK k=true):gC h (dI false a) k=dI own a k:=by
 unfold gC;rw[YY c];split
 .rename_i e;subst e
  have:gB h 290=own:=by simp only[gB,b 290 rfl];rfl
  rw[this];rfl
 .rename_i e;unfold dI;rw[YR e,YR e]
theorem Ko{Q:St->Prop}{f:Operand}{xs:List Operand}{d:Option Nat}{own:Bool}{m:Sce}{g:FuncId}{args:List AV}(l:bA (st.ev f)=some (g,[],[]))(a:xs.map st.ev=args)(p:args.all m7=true)(hd:dJ C.N d=true)(j:∀k,inK k=true->st.h k=dI own A k)
 (s:mR C.P g args (dI false A) (λ_ i=>i=dI false m))
 (h:∀r i,(∀k,inK k=true->i k=dI own m k)->(∀k,inK k=false->i k=(st.h k).map nG)->Q (St.put ⟨λn=>dU (st.t n),i⟩ d r [])):DV C Q f xs d st:=by
 have hL:=vq own A;refine⟨_,λ_ i=>i=dI false m,l,⟨λk b o c hb=>hL.nf k b o (by rw[<-j k c];exact hb),λk b c hb=>hL.nm k b (by rw[<-j k c];exact hb),λk q o f c hb=>hL.cl k q o f (by rw[<-j k c];exact hb),λk q f c hb=>?_,λb hb=>?_⟩,by rw[a,Qh j];exact s,by rw[a];exact p,hd,λr i _ _ hp=>?_⟩
 .rw[j k c]at hb
  rcases(qn hb).2 with⟨h1,_⟩|⟨_,e,u,xs,h1⟩
  .exact h1
  .cases h1
 .rw[j 290 rfl]at hb
  exact⟨_,_,_,(ZB hb).symm⟩
 .have hp:i=_:=hp
  subst hp;exact h r _ (λk c=>Ov j c) (λk c=>by unfold gC;rw[YR (by rw[c];decide)])
theorem vr{own:Bool}(h:294<k):dI own A k=none:=by
 unfold dI;rw[YR (by omega),YR (by omega),YR (by omega),YR (by omega),YR (by omega)]
def AH(x1 x2 x3 x4:List PV)(st:St):Prop:=
 st.h 290=some (.box [.arr 291 x1.length,.arr 292 x2.length,.arr 293 x3.length,.arr 294 x4.length] false false)/\st.h 291=some (.row 108 12 x1 0)/\st.h 292=some (.row 110 5 x2 0)/\st.h 293=some (.row 81 3 x3 0)/\st.h 294=some (.row 113 2 x4 0)/\∀k,294<k->st.h k=none
theorem AH.ret{x1 x2 x3 x4:List PV}{d:Sce}{P:Program}{rs:List ResultVar}{a:AV->Hp->Prop}{r:AV}(h:AH x1 x2 x3 x4 st)(g:x1=A.js.map aQ)(i:x2=A.ms.map bb)(j:x3=A.shs.map ba)(l:x4=A.sks.map aK)(n:mf P st rs=some r)(m:m7 r=true)(hp:a r (dI false A)):uL P rs (dI false d) a st:=by
 obtain⟨c,h1,h2,h3,h4,h5⟩:=h;subst g i j l;simp only[Zm]at c;refine BT (H:=dI false A) n m (λk b=>?_) (vq _ _) hp (λk o f b=>?_)
 .by_cases e:k<=294
  .simp only[inK,up,Is]at b
   have:k=290\/k=291\/k=292\/k=293\/k=294:=by omega
   rcases this with rfl|rfl|rfl|rfl|rfl
   .exact c
   .exact h1
   .exact h2
   .exact h3
   .exact h4
  .rw[h5 k (by omega),vr (by omega)]
 .rcases(qn b).2 with⟨rfl,_⟩|⟨_,e,p,xs,h9⟩
  .exact⟨_,rfl⟩
  .cases h9
theorem R5(k n:Nat)(b:Vc)(A:Sce)(js:List J)(ms:List Ms)(hn:n<=40)(hj:∀(i:Nat) j,js[i]?=some j->bI js i j=0)(hm:∀x∈ms,dS js.length x=true)(l1:js.length<=10)(l2:ms.length<=32)(a1:A.js.length<=40)(a2:A.ms.length<=128):
 mR prog 62 [.pv (sf k n b),.ptr 290 0,.pv (eS js ms)] (dI false A) (λ_ h'=>h'=dI false ⟨A.js++js.map (gg k n b),A.ms++ms.map (oY n),A.shs,A.sks⟩):=by
 obtain⟨r,s,o,p⟩:=A;simp only at a1 a2|-;obtain⟨l,v⟩:∃S,S=sq (r.map aQ) (λj=>aQ (gg k n b j)) js:=⟨_,rfl⟩;obtain⟨u,y⟩:∃S,S=sq (s.map bb) (λx=>bb (oY n x)) ms:=⟨_,rfl⟩
 have z1:l 0=r.map aQ:=by rw[v,lG]
 have z2:u 0=s.map bb:=by rw[y,lG]
 have u1:∀i j,js[i]?=some j->l (i+1)=l i++[aQ (gg k n b j)]:=λi j h=>by rw[v];exact lH h
 have u2:∀i x,ms[i]?=some x->u (i+1)=u i++[bb (oY n x)]:=λi j h=>by rw[y];exact lH h
 have v1:∀i,i<=js.length->(l i).length<=100:=λi h=>by rw[v,ow h,Zm];omega
 have v2:∀i,i<=ms.length->(u i).length<=200:=λi h=>by rw[y,ow h,Zm];omega
 have y1:l js.length=(r++js.map (gg k n b)).map aQ:=by rw[v,oB];simp
 have y2:u ms.length=(s++ms.map (oY n)).map bb:=by rw[y,oB];simp
 clear v y
 have e0:dI false ⟨r,s,o,p⟩ 290=some (.box [.arr 291 (l 0).length,.arr 292 (u 0).length,.arr 293 (o.map ba).length,.arr 294 (p.map aK).length] false false):=by rw[z1,z2];simp[dI]
 have M:dI false ⟨r,s,o,p⟩ 291=some (.row 108 12 (l 0) 0):=by rw[z1];rfl
 have e2:dI false ⟨r,s,o,p⟩ 292=some (.row 110 5 (u 0) 0):=by rw[z2];rfl
 have e3:dI false ⟨r,s,o,p⟩ 293=some (.row 81 3 (o.map ba) 0):=rfl;have T:dI false ⟨r,s,o,p⟩ 294=some (.row 113 2 (p.map aK) 0):=rfl;have e5:∀k,294<k->dI false ⟨r,s,o,p⟩ k=none:=λk h=>vr h
 have N:∀k,k<290->dI false ⟨r,s,o,p⟩ k=none:=λk h=>by
  unfold dI;rw[YR (by omega),YR (by omega),YR (by omega),YR (by omega),YR (by omega)]
 have f3:=N 3 (by decide);have f5:=N 5 (by decide);have f7:=N 7 (by decide);have f9:=N 9 (by decide);have ar:∃H,H=dI false ⟨r,s,o,p⟩:=⟨_,rfl⟩;refine Nb func62 (vq _ _) λC hP hN=>?_;simp only[Ea];refine Gz ?_;refine WP.loopN [7] js.length (λi st=>AH (l i) (u 0) (o.map ba) (p.map aK) st/\st.t 1=.ptr 290 0/\st.t 3=.ptr 3 0/\st.h 3=some (.box [.pv (.val (.string (bQ k))),.pv (Z n),.pv (Z b.1),.pv (Z b.2.1),.pv (Z b.2.2)] true false)/\st.t 5=.ptr 5 0/\st.h 5=some (.box [.pv (.sl (js.map aQ)),.pv (.sl (ms.map bb))] true false)/\st.t 11=.pv (.sl (js.map aQ))/\st.t 12=.pv (Z js.length)/\st.t 13=.pv (Z i)/\st.h 7=none/\st.h 9=none) ?_ ?_
 .refine⟨⟨by simp[e0],by simp[M],by simp[e2],by simp[e3],by simp[T],λq hq=>?_⟩,by simp[f7,f9]⟩
  simp[show¬q=7 by omega,show¬q=5 by omega,show¬q=3 by omega,e5 q hq]
 clear e0 M e2 e3 T e5 N f3 f5 f7 f9 ar;rintro i st hi ⟨⟨a,c,d,e,f,G⟩,g1,g3,L,g5,R,B,D,E,n7,P⟩;have hS:=v1 i hi;by_cases g:i<js.length
 .have U:=ae g (by omega)
  have m:js[i]?=some js[i]:=an g;generalize z:js[i]=j at *;have h1:=u1 i j m;obtain⟨M,-,-,T,-⟩:=fN.1 (hj i j m)
  have K:(bQ k).size+j.name.size<=9223372036854775807:=by
   simp only[fk,up,Is]at M;rw[show(bQ k).size=1 from rfl];omega
  clear M;obtain⟨nm,kd,Q,ox,oy,oz,lo,O,w',sp,ac,tq⟩:=j;simp only at T K h1;have c1:=Qf k n b (ox,oy,oz) Q;have c2:=Fi k n b Q (aa (by omega) (by omega))
  have V:((l i).length+1)*104<=140737488355328:=by omega
  have W:(l i).length+1<=9223372036854775807:=by omega
  by_cases hp:Q=-1
  .have F:l (i+1)=l i++[.val (.agg #[.string (bQ k++nm),.int .i64 kd,.int .i64 (kZ n Q),.int .i64 (wr (ox+b.1)),.int .i64 (wr (oy+b.2.1)),.int .i64 (wr (oz+b.2.2)),.int .i64 lo,.int .i64 O,.int .i64 w',.int .i64 sp,.int .i64 ac,.int .i64 tq])]:=by rw[h1];simp[gg,hp]
   rw[YY hp]at c1;simp only[qm]at c1;clear h1;refine GT (zAc a c d e f g1 g3 L g5 R B D E n7 (zAa P g U m z K V W F @AH.eq_1)) ?_
   all_goals (intro q hq;repeat rw[YR (by omega)]);simp[G q hq]
  .have F:l (i+1)=l i++[.val (.agg #[.string (bQ k++nm),.int .i64 kd,.int .i64 (kZ n Q),.int .i64 ox,.int .i64 oy,.int .i64 oz,.int .i64 lo,.int .i64 O,.int .i64 w',.int .i64 sp,.int .i64 ac,.int .i64 tq])]:=by rw[h1];simp[gg,hp]
   rw[YR hp]at c1;clear h1;refine GT (zAc a c d e f g1 g3 L g5 R B D E n7 (zAa P g U m z K V W F @AH.eq_1)) ?_
   all_goals (intro q hq;repeat rw[YR (by omega)]);simp[G q hq]
 have I:i=js.length:=by omega
 subst I;refine Gz ?_;refine WP.loopN [9] ms.length (λi st=>AH (l js.length) (u i) (o.map ba) (p.map aK) st/\st.t 1=.ptr 290 0/\st.t 3=.ptr 3 0/\st.h 3=some (.box [.pv (.val (.string (bQ k))),.pv (Z n),.pv (Z b.1),.pv (Z b.2.1),.pv (Z b.2.2)] true false)/\st.t 47=.pv (.sl (ms.map bb))/\st.t 48=.pv (Z ms.length)/\st.t 49=.pv (Z i)/\st.h 9=none) ?_ ?_
 .refine⟨⟨by simp[a],by simp[c],by simp[d],by simp[e],by simp[f],λq hq=>?_⟩,by simp[g1,g3,L,g5,R]⟩
  simp[show¬q=9 by omega,G q hq]
 clear a c d e f G g1 g3 L g5 R B D E n7 P hS g;rintro i st hi ⟨⟨a,c,d,e,f,G⟩,g1,g3,L,X,Y,ad,P⟩;have hS:=v2 i hi;by_cases g:i<ms.length
 .have U:=ae g (by omega)
  have m:ms[i]?=some ms[i]:=an g;have a6:=hm _ (Zd g);generalize z:ms[i]=x at *;have h1:=u2 i x m;obtain⟨lk,ma,px,py,pz⟩:=x;simp only[dS,up,Is]at a6;have c2:=Fi k n b lk (aa (by omega) (by omega));rw[show kZ n lk=lk+n from YR (by omega)]at c2
  have V:((u i).length+1)*40<=140737488355328:=by omega
  have W:(u i).length+1<=9223372036854775807:=by omega
  simp only[oY]at h1;refine GT (zAc a c d e f g1 g3 L X Y ad P g U (so m z V W h1 @AH.eq_1)) ?_
  all_goals (intro q hq;repeat rw[YR (by omega)]);simp[G q hq]
 have I:i=ms.length:=by omega
 subst I;refine Gz ?_;exact AH.ret (A:=⟨r++js.map (gg k n b),s++ms.map (oY n),o,p⟩) ⟨a,c,d,e,f,G⟩ y1 y2 rfl rfl rfl rfl rfl
theorem Ow(xs:List Vc)(c:xs.length<=16777216)(b:xs≠[]):aS prog 105 [.pv (aB xs)] [] [] (.nrow 60 3 (xs.map ai)):=by
 have a:xs.isEmpty=false:=by simp[b]
 refine Dp func105 λC hP hN=>?_;exact ST [5] (go b a (show xs.length*24<=140737488355328 by omega) (show xs.length<=9223372036854775807 by omega))
def wk(f:α->α)(l:List α)(i:Nat):List α:=(l.take i).map f++l.drop i
section
variable {α:Type} {f:α->α} {l:List α} {i:Nat} {a:α}
theorem LT:wk f l 0=l:=by simp[wk]
theorem Ox:wk f l l.length=l.map f:=by simp[wk]
theorem Oy:(wk f l i).length=l.length:=by simp[wk];omega
theorem Qi(h:l[i]?=some a):(wk f l i)[i]?=some a:=by
 obtain⟨hi,b⟩:=th.1 h;unfold wk;rw[YX (by simp;omega)];simp only[Zm,ZA,Nat.min_eq_left (Nat.le_of_lt hi),yAD,ZO,yAP];exact h
theorem Oz(h:l[i]?=some a):(wk f l i).set i (f a)=wk f l (i+1):=by
 obtain⟨hi,b⟩:=th.1 h;unfold wk;rw[List.set_append_right _ _ (by simp;omega),ZC hi,yAH,b,ZY]
 congr 1
 simp only[Zm,ZA,Nat.min_eq_left (Nat.le_of_lt hi),yAD];rw[yBb hi];simp only[List.set_cons_zero,Z0,yA6,List.cons_append,List.nil_append]
end
theorem R6(k n:Nat)(b:Vc)(A s:Sce)(hn:n<=40)(hh:∀x∈s.shs,bz s.js.length x=0)(hk:∀x∈s.sks,gF s.js.length x=true)(l0:s.js.length<=10)(l1:s.shs.length<=24)(l2:s.sks.length<=64)(a1:A.shs.length<=96)(a2:A.sks.length<=256):
 mR prog 63 [.pv (sf k n b),.ptr 290 0,.pv (aW s)] (dI false A) (λ_ h'=>h'=dI false ⟨A.js,A.ms,A.shs++s.shs.map (jM n b),A.sks++s.sks.map (ov n)⟩):=by
 obtain⟨B,D,F,G⟩:=A;obtain⟨js,ms,SH,sks⟩:=s;simp only at a1 a2 hh hk l0 l1 l2|-;obtain⟨z,H⟩:∃S,S=sq (F.map ba) (λx=>ba (jM n b x)) SH:=⟨_,rfl⟩;obtain⟨E,I⟩:∃S,S=sq (G.map aK) (λx=>aK (ov n x)) sks:=⟨_,rfl⟩
 have z1:z 0=F.map ba:=by rw[H,lG]
 have z2:E 0=G.map aK:=by rw[I,lG]
 have u1:∀i j,SH[i]?=some j->z (i+1)=z i++[ba (jM n b j)]:=λi j h=>by rw[H];exact lH h
 have u2:∀i x,sks[i]?=some x->E (i+1)=E i++[aK (ov n x)]:=λi j h=>by rw[I];exact lH h
 have v1:∀i,i<=SH.length->(z i).length<=200:=λi h=>by rw[H,ow h,Zm];omega
 have v2:∀i,i<=sks.length->(E i).length<=400:=λi h=>by rw[I,ow h,Zm];omega
 have y1:z SH.length=(F++SH.map (jM n b)).map ba:=by rw[H,oB];simp
 have y2:E sks.length=(G++sks.map (ov n)).map aK:=by rw[I,oB];simp
 clear H I
 have e0:dI false ⟨B,D,F,G⟩ 290=some (.box [.arr 291 (B.map aQ).length,.arr 292 (D.map bb).length,.arr 293 (z 0).length,.arr 294 (E 0).length] false false):=by rw[z1,z2];simp[dI]
 have e1:dI false ⟨B,D,F,G⟩ 291=some (.row 108 12 (B.map aQ) 0):=rfl;have e2:dI false ⟨B,D,F,G⟩ 292=some (.row 110 5 (D.map bb) 0):=rfl
 have e3:dI false ⟨B,D,F,G⟩ 293=some (.row 81 3 (z 0) 0):=by rw[z1];rfl
 have e4:dI false ⟨B,D,F,G⟩ 294=some (.row 113 2 (E 0) 0):=by rw[z2];rfl
 have e5:∀k,294<k->dI false ⟨B,D,F,G⟩ k=none:=λk h=>vr h
 have R:∀k,k<290->dI false ⟨B,D,F,G⟩ k=none:=λk h=>by
  unfold dI;rw[YR (by omega),YR (by omega),YR (by omega),YR (by omega),YR (by omega)]
 have f3:=R 3 (by decide);have f5:=R 5 (by decide);have f7:=R 7 (by decide);have f9:=R 9 (by decide);have f11:=R 11 (by decide);have f21:=R 21 (by decide);refine Nb func63 (vq _ _) λC hP hN=>?_;simp only[Ea];refine Gz ?_;refine WP.loopN [7,21] SH.length (λi st=>AH (B.map aQ) (D.map bb) (z i) (E 0) st/\st.t 1=.ptr 290 0/\st.t 3=.ptr 3 0/\st.h 3=some (.box [.pv (.val (.string (bQ k))),.pv (Z n),.pv (Z b.1),.pv (Z b.2.1),.pv (Z b.2.2)] true false)/\st.t 5=.ptr 5 0/\st.h 5=some (.box [.pv (.sl (js.map aQ)),.pv (.sl (ms.map bb)),.pv (.sl (SH.map ba)),.pv (.sl (sks.map aK))] true false)/\st.t 13=.pv (.sl (SH.map ba))/\st.t 14=.pv (Z SH.length)/\st.t 15=.pv (Z i)/\st.h 7=none/\st.h 9=none/\st.h 11=none/\st.h 21=none) ?_ ?_
 .refine⟨⟨by simp[e0],by simp[e1],by simp[e2],by simp[e3],by simp[e4],λq hq=>?_⟩,by simp[f7,f9,f11,f21]⟩
  simp[show¬q=7 by omega,show¬q=21 by omega,show¬q=5 by omega,show¬q=3 by omega,e5 q hq]
 clear e0 e1 e2 e3 e4 e5 R f3 f5 f7 f9 f11 f21;rintro i st hi ⟨⟨c,d,g,l,m,N⟩,g1,g3,L,g5,Q,r,u,y,n7,W,p,V⟩;have hS:=v1 i hi;by_cases o:i<SH.length
 .have hw:=ae o (by omega)
  have K:SH[i]?=some SH[i]:=an o;have O:=hh _ (Zd o);generalize J:SH[i]=x at *;have h1:=u1 i x K;obtain⟨lk,rd,pts⟩:=x
  have b9:bJ js.length lk=true/\1<=pts.length/\pts.length<=8:=by
   unfold bz at O;split at O
   case isFalse=>cases O
   rename_i g9;simp only[up,Is]at g9;exact⟨g9.1.1.1.1,by omega,by omega⟩
  clear O;obtain⟨cc,cd,cg⟩:=b9;simp only[bJ,up,Is]at cc;have c0:=Ow pts (by omega) (by intro e;subst e;simp at cd);have c1:=λ(v:Vc)=>Qf k n b v lk;have c2:=Fi k n b lk (aa (by omega) (by omega))
  have a7:z (i+1)=z i++[.agg [Z (kZ n lk),Z rd,.sl ((pts.map (λv=>if lk=-1 then qm b v else v)).map ai)]]:=by
   rw[h1];by_cases hp:lk=-1
   all_goals simp[jM,hp]
  clear h1;generalize hf:(λv=>if lk=-1 then qm b v else v)=f at *
  have Y:∀v,gz 103 (sf k n b) (ai v) (Z lk) (ai (f v)):=λv=>by rw[<-hf];exact c1 v
  clear c1 hf;obtain⟨M,T⟩:∃M:Nat->List PV,∀i,M i=(wk f pts i).map ai:=⟨_,λ_=>rfl⟩
  have m0:M 0=pts.map ai:=by rw[T,LT]
  have mE:M pts.length=(pts.map f).map ai:=by rw[T,Ox]
  have mL:∀i,(M i).length=pts.length:=λi=>by rw[T,Zm,Oy]
  have mA:∀i a,pts[i]?=some a->(M i)[i]?=some (ai a):=λi a h=>by rw[T,YS,Qi h];rfl
  have mS:∀i a,pts[i]?=some a->(M i).set i (ai (f a))=M (i+1):=λi a h=>by rw[T,T,<-Oz h,yAl]
  rw[<-mE]at a7;rw[<-m0]at c0;have cj:pts.length=(M 0).length:=(mL 0).symm;clear T m0 mE
  have q1:((z i).length+1)*40<=140737488355328:=by omega
  have q2:(z i).length+1<=9223372036854775807:=by omega
  refine GT (zAc c d g l m g1 g3 L g5 Q r u y n7 (s7 W p V o hw K J mL)) ?_;refine WP.loopN [9] pts.length (λj st=>AH (B.map aQ) (D.map bb) (z i) (E 0) st/\st.t 1=.ptr 290 0/\st.t 3=.ptr 3 0/\st.h 3=some (.box [.pv (.val (.string (bQ k))),.pv (Z n),.pv (Z b.1),.pv (Z b.2.1),.pv (Z b.2.2)] true false)/\st.t 5=.ptr 5 0/\st.h 5=some (.box [.pv (.sl (js.map aQ)),.pv (.sl (ms.map bb)),.pv (.sl (SH.map ba)),.pv (.sl (sks.map aK))] true false)/\st.t 13=.pv (.sl (SH.map ba))/\st.t 14=.pv (Z SH.length)/\st.t 15=.pv (Z i)/\st.t 7=.ptr 7 0/\st.h 7=some (.box [.pv (Z lk),.pv (Z rd),.arr 21 pts.length] true false)/\st.t 24=.arr 21 pts.length/\st.t 25=.pv (Z pts.length)/\st.t 26=.pv (Z j)/\st.h 21=some (.row 60 3 (M j) 0)/\st.h 9=none/\st.h 11=none) ?_ ?_
  .refine⟨⟨by simp[c],by simp[d],by simp[g],by simp[l],by simp[m],λq hq=>?_⟩,by simp[g1,g3,L,g5,Q,r,u,y,W,p]⟩
   simp[show¬q=7 by omega,show¬q=9 by omega,show¬q=21 by omega,N q hq]
  clear c d g l m N g1 g3 L g5 Q r u y n7 W p V;rintro j st hj ⟨⟨c,d,g,l,m,N⟩,g1,g3,L,g5,Q,r,u,y,g7,b7,ad,ar,a6,X,W,p⟩;have hL:=mL j;by_cases P:j<pts.length
  .have cf:=ae P (by omega)
   have hv:pts[j]?=some pts[j]:=an P;generalize ch:pts[j]=v at *;have cv:=Y v;have hA:=mA j v hv;have b4:∀h,(M j)[j]'h=ai v:=λh=>(th.1 hA).2;have b8:=mS j v hv
   have ca:j<(M j).length:=by omega
   clear Y mA mS;refine GT (zAc c d g l m g1 g3 L g5 Q r u y g7 (zAc b7 ad ar a6 X W p hL P ca cf hA b4 b8 @AH.eq_1)) ?_
   all_goals (intro q hq;repeat rw[YR (by omega)]);simp[N q hq]
  have J:j=pts.length:=by omega
  subst J;refine GT (zAc c d g l m g1 g3 L g5 Q r u y g7 (zAb b7 ad ar a6 X W p hL P hw q1 (be q2 a7 @AH.eq_1))) ?_
  all_goals (intro q hq;repeat rw[YR (by omega)]);simp[N q hq]
 have U:i=SH.length:=by omega
 subst U;refine Gz ?_;refine WP.loopN [11] sks.length (λi st=>AH (B.map aQ) (D.map bb) (z SH.length) (E i) st/\st.t 1=.ptr 290 0/\st.t 3=.ptr 3 0/\st.h 3=some (.box [.pv (.val (.string (bQ k))),.pv (Z n),.pv (Z b.1),.pv (Z b.2.1),.pv (Z b.2.2)] true false)/\st.t 58=.pv (.sl (sks.map aK))/\st.t 59=.pv (Z sks.length)/\st.t 60=.pv (Z i)/\st.h 11=none) ?_ ?_
 .refine⟨⟨by simp[c],by simp[d],by simp[g],by simp[l],by simp[m],λq hq=>?_⟩,by simp[g1,g3,L,g5,Q]⟩
  simp[show¬q=11 by omega,N q hq]
 clear c d g l m N g1 g3 L g5 Q r u y n7 W p V hS o;rintro i st hi ⟨⟨c,d,g,l,m,N⟩,g1,g3,L,a8,bq,b2,p⟩;have hS:=v2 i hi;by_cases o:i<sks.length
 .have hw:=ae o (by omega)
  have K:sks[i]?=some sks[i]:=an o;have cb:=hk _ (Zd o);generalize J:sks[i]=x at *;have h1:=u2 i x K;obtain⟨ka,kb⟩:=x;simp only[gF,bJ,up,Is]at cb;have c1:=Fi k n b ka (aa (by omega) (by omega));have c2:=Fi k n b kb (aa (by omega) (by omega))
  have q1:((E i).length+1)*16<=140737488355328:=by omega
  have q2:(E i).length+1<=9223372036854775807:=by omega
  simp only[ov]at h1;refine GT (zAc c d g l m g1 g3 L a8 bq b2 p o hw (so K J q1 q2 h1 @AH.eq_1)) ?_
  all_goals (intro q hq;repeat rw[YR (by omega)]);simp[N q hq]
 have U:i=sks.length:=by omega
 subst U;refine Gz ?_;exact AH.ret (A:=⟨B,D,F++SH.map (jM n b),G++sks.map (ov n)⟩) ⟨c,d,g,l,m,N⟩ rfl rfl y1 y2 rfl rfl rfl
def Fl(n:Int):Operand->AV:=λ_=>.pv (.val (.int .i32 n))
section
variable {dst:Option Nat} {ty:TypeId} {pos:String} {aft:Array Edge} {g:Option (Nat×Bool)} {ρ:Operand->AV} {x:Operand}
theorem R7:aV prog ⟨dst,.convert 21 9 x,ty,pos,aft,g⟩ (Fl 97)=some (.pv (.val (.string (bQ 0))),[]):=by kernel_rfl
theorem R9:aV prog ⟨dst,.convert 21 9 x,ty,pos,aft,g⟩ (Fl 98)=some (.pv (.val (.string (bQ 1))),[]):=by kernel_rfl
theorem Sa:aV prog ⟨dst,.convert 21 9 x,ty,pos,aft,g⟩ (Fl 99)=some (.pv (.val (.string (bQ 2))),[]):=by kernel_rfl
theorem Sd:aV prog ⟨dst,.convert 21 9 x,ty,pos,aft,g⟩ (Fl 100)=some (.pv (.val (.string (bQ 3))),[]):=by kernel_rfl
theorem Xm(i:Nat)(h4:i<4)(b:ρ x=.pv (.val (.int .i32 (97+(i:Int))))):
 aV prog ⟨dst,.convert 21 9 x,ty,pos,aft,g⟩ ρ=some (.pv (.val (.string (bQ i))),[]):=by
 have h:aV prog ⟨dst,.convert 21 9 x,ty,pos,aft,g⟩ ρ=aV prog ⟨dst,.convert 21 9 x,ty,pos,aft,g⟩ (Fl (97+(i:Int))):=by
  refine nU (by intro _ _ h;cases h) ?_;intro y a;simp[Op.operands]at a;subst a;exact b
 rw[h]
 have:i=0\/i=1\/i=2\/i=3:=by omega
 rcases this with rfl|rfl|rfl|rfl
 .exact R7
 .exact R9
 .exact Sa
 .exact Sd
end
theorem Fm(ks:List Nat)(a:∀k∈ks,k<290)(own:Bool)(A:Sce)(q:Nat)(hq:inK q=true):(dI own A q).map (fB ks)=dI own A q:=by
 cases h:dI own A q with
 |none=>rfl
 |some b=>
  rcases(qn h).2 with⟨_,rfl⟩|⟨_,e,d,xs,rfl⟩
  .have:∀x n,290<=x->dL ks (.arr x n)=.arr x n:=λx n c=>by
    have h9:ks.contains x=false:=by
     rw[<-Bool.not_eq_true];intro h9;have:=a _ (List.contains_iff_mem.1 h9);omega
    unfold dL;rw[show o7 ks (.arr x n)=ks.contains x from rfl,h9];rfl
   simp only[ZD,fB,Z0,yA6,this 291 _ (by decide),this 292 _ (by decide),this 293 _ (by decide),this 294 _ (by decide)]
  .rfl
theorem Ta(l:List Sce)(bs:List Vc)(hs:∀s∈l,ScL s)(hl:l.length<=9223372036854775807)(hb:bs.length<=9223372036854775807):aH 29 (.sl (l.map aW)) (aB bs) (.tup [aW (gl l bs),Z (gx l bs)]):=by
 by_cases N:l.length<1\/4<l.length\/bs.length≠l.length
 .have e1:gx l bs=3501:=by unfold gx;rw[YY N]
  have e2:gl l bs=⟨[],[],[],[]⟩:=by unfold gl;rw[e1];rfl
  rw[e1,e2]
  have hc:((l.length:Int)<1)\/(4<(l.length:Int))\/((bs.length:Int)!=l.length)=true:=by
   rcases N with h|h|h
   .exact .inl (by omega)
   .exact .inr (.inl (by omega))
   .refine .inr (.inr ?_);simp;omega
  rcases hc with h|h|h
  all_goals
   refine Dp func29 λC hP hN=>?_;exact GS h
 have l1:¬(l.length:Int)<1:=by omega
 have l2:¬4<(l.length:Int):=by omega
 have l3:((bs.length:Int)!=l.length)=false:=by simp;omega
 have cd:bs.length=l.length:=by omega
 have h4:l.length<=4:=by omega
 have hE:gx l bs=if fL (l.map ao)≠0 then fL (l.map ao)else if ao (bM l bs l.length)=0 then 0 else 3502:=by unfold gx;rw[YR N]
 have cs:=λ(s:Sce)(h:s∈l)=>HA s (hs s h);obtain⟨cf,B⟩:∃r,r=PV.tup [aW (gl l bs),Z (gx l bs)]:=⟨_,rfl⟩;obtain⟨hF,hG⟩:=Kn N B;rw[<-B];clear B hE;refine Dp func29 λC hP hN=>?_;refine GT (be l1 l2 l3) ?_;refine WP.loopN [7] l.length (λi st=>st.t 0=.pv (.sl (l.map aW))/\st.t 1=.pv (aB bs)/\st.t 4=.ptr 4 0/\st.h 4=some (.box [.pv (.val (.slice none 0 0)),.pv (.val (.slice none 0 0)),.pv (.val (.slice none 0 0)),.pv (.val (.slice none 0 0))] true false)/\st.t 5=.pv (Z 0)/\st.t 29=.pv (.sl (l.map aW))/\st.t 30=.pv (Z l.length)/\st.t 31=.pv (Z i)/\(∀k,k≠4->st.h k=none)/\∀(k:Nat) x,k<i->l[k]?=some x->ao x=0) ?_ ?_
 .refine⟨by simp,by simp,by simp,by simp,by simp,by simp,by simp,by simp,λq hq=>?_,λk x h=>by omega⟩
  simp[o8,hq]
 rintro i st hi ⟨g0,g1,g4,n,g5,Y,ad,ah,R,hq⟩;have n7:=R 7 (by decide);have n9:=R 9 (by decide);by_cases z:i<l.length
 .have hw:=ae z (by omega)
  have W:l[i]?=some l[i]:=an z;have c1:=cs _ (Zd z);have b3:=hF i _ W hq;generalize aj:l[i]=s at *;by_cases V:ao s=0
  .rw[V]at c1
   have ca:∀(k:Nat) x,k<i+1->l[k]?=some x->ao x=0:=λk x hk U=>by
    by_cases e:k=i
    .subst e;rw[W]at U;injection U with U;rw[<-U];exact V
    .exact hq k x (by omega) U
   refine GT (zAb g0 g1 g4 n g5 Y ad ah n7 z hw (gA W aj)) ?_
   all_goals refine⟨λq hq=>?_,ca⟩
   all_goals (by_cases e7:q=7)
   all_goals first|(rw[YY e7];done)|(simp[e7];done)|(simp[e7,R q hq])
  .have hr:=b3 V
   have a6:(ao s !=0)=true:=by simp[V]
   subst hr;generalize ao s=e at *;exact GS (zAc g0 g1 g4 n g5 Y ad ah n7 z hw W aj V a6)
 have b5:i=l.length:=by omega
 subst b5
 have S:∀s∈l,ao s=0:=λs cb=>by
  obtain⟨k,hk⟩:=Zq cb;exact hq k s (th.1 hk).1 hk
 have hB:=λk=>Bm (bs:=bs) S k;have B:=hG S;clear hF hG hq cs
 with_reducible iterate 8 any_goals (first|refine Sp.h ?_|((first|refine Wd ?_|refine Ss.h ?_|(refine Sb.h ?_ ?_ ?_<;>(try intro hgd)<;>try exact Xy))<;>simp -implicitDefEqProofs (maxSteps:=2000000) [hP,hN,g0,g1,g4,n,g5,Y,ad,ah,n9,z]<;>try refine Ya ?_)|refine X2 ?_ ?_|(refine Xd ?_ ?_<;>intro hcd<;>try exact Xx))
 refine WP.ren 9 290 (by decide) (by simp[R]) (by decide) (by simp) ?_;refine WP.nilRowsE (λk=>decide (291<=k)&&decide (k<=294)) jE 290 (cs:=[.pv (.val (.slice none 0 0)),.pv (.val (.slice none 0 0)),.pv (.val (.slice none 0 0)),.pv (.val (.slice none 0 0))]) (cs':=[.arr 291 0,.arr 292 0,.arr 293 0,.arr 294 0]) (own:=true) (fb:=false) (by simp) ?_ rfl ?_ ?_
 .intro k hk
  simp only[up,Is]at hk;have b2:=R k (by omega)
  have:k=291\/k=292\/k=293\/k=294:=by omega
  rcases this with rfl|rfl|rfl|rfl<;>simp[jE,b2]
 .intro i x W
  rcases i with _|_|_|_|i<;>simp at W<;>subst W<;>simp
 refine WP.of_st (P:=λst=>st.t 0=.pv (.sl (l.map aW))/\st.t 1=.pv (aB bs)/\st.t 4=.ptr 4 0/\st.h 4=some (.box [.pv (.val (.slice none 0 0)),.pv (.val (.slice none 0 0)),.pv (.val (.slice none 0 0)),.pv (.val (.slice none 0 0))] true false)/\st.t 5=.pv (Z 0)/\st.t 9=.ptr 290 0/\(∀k,k<290->k≠4->st.h k=none)/\∀k,inK k=true->st.h k=dI true ⟨[],[],[],[]⟩ k) ⟨?_,?_⟩
 .refine⟨by simp[g0],by simp[g1],by simp[g4],by simp[n],by simp[g5],by simp,λk h1 h2=>?_,λk hk=>?_⟩
  .simp[show¬291<=k by omega,show¬k=290 by omega,R k h2]
  .simp only[inK,up,Is]at hk
   by_cases e:k<=294
   .have:k=290\/k=291\/k=292\/k=293\/k=294:=by omega
    rcases this with rfl|rfl|rfl|rfl|rfl<;>simp[dI,jE]
   .rw[vr (by omega)]
    simp[show¬k<=294 by omega,show¬k=290 by omega,show¬k=9 by omega,R k (by omega)]
 clear g0 g1 g4 n g5 Y ad ah R n7 n9 st;rintro st ⟨g0,g1,g4,n,g5,D,R,G⟩;have O:=R 11 (by decide) (by decide);have Q:=R 12 (by decide) (by decide);refine GT (so g0 g1 g4 n g5 D) ?_;refine WP.loopN [11,12] l.length (λk st=>st.t 0=.pv (.sl (l.map aW))/\st.t 1=.pv (aB bs)/\st.t 4=.ptr 4 0/\st.h 4=some (.box [.pv (.val (.slice none 0 0)),.pv (.val (.slice none 0 0)),.pv (.val (.slice none 0 0)),.pv (.val (.slice none 0 0))] true false)/\st.t 5=.pv (Z 0)/\st.t 9=.ptr 290 0/\st.t 42=.pv (.sl (l.map aW))/\st.t 43=.pv (Z l.length)/\st.t 44=.pv (Z k)/\(st.h 11=none/\st.h 12=none)/\∀q,inK q=true->st.h q=dI true (bM l bs k) q) ?_ ?_
 .refine⟨by simp[g0],by simp[g1],by simp[g4],by simp[n],by simp[g5],by simp[D],by simp[g0],by simp[g0],by simp,by simp[O,Q],λq hq=>?_⟩
  rw[show bM l bs 0=⟨[],[],[],[]⟩ from rfl,<-Fm [11,12] (by simp) true _ q hq,<-G q hq];simp only[inK,up,Is]at hq;simp[St.kill,show¬q=11 by omega,show¬q=12 by omega]
 clear g0 g1 g4 n g5 D O Q R G st;rintro k st hk ⟨g0,g1,g4,n,g5,D,a,c,d,⟨O,Q⟩,G⟩;have o:st.h 290=some (.box [.arr 291 (bM l bs k).js.length,.arr 292 (bM l bs k).ms.length,.arr 293 (bM l bs k).shs.length,.arr 294 (bM l bs k).sks.length] true false):=(G 290 rfl).trans rfl;have H:st.h 291=some (.row 108 12 ((bM l bs k).js.map aQ) 0):=(G 291 rfl).trans rfl;have I:st.h 292=some (.row 110 5 ((bM l bs k).ms.map bb) 0):=(G 292 rfl).trans rfl;have J:st.h 293=some (.row 81 3 ((bM l bs k).shs.map ba) 0):=(G 293 rfl).trans rfl;have K:st.h 294=some (.row 113 2 ((bM l bs k).sks.map aK) 0):=(G 294 rfl).trans rfl;have a7:=hB k;by_cases z:k<l.length
 case neg=>
  have b9:k=l.length:=by omega
  subst b9;have c1:=HA _ (a7.L h4);generalize bM l bs l.length=A at *;by_cases V:ao A=0
  .rw[V]at c1
   rw[YY V]at B;subst B;exact GS (zAc g0 g1 g4 n g5 D a c d o H I J K z)
  .have a6:(ao A !=0)=true:=by simp[V]
   rw[YR V]at B;subst B;generalize ao A=e at *;exact GS (zAc g0 g1 g4 n g5 D a c d o H I J K (be z V a6))
 obtain⟨B1,B2,B3,B4,-⟩:=a7;have cc:=ae z (by omega);have W:l[k]?=some l[k]:=an z
 have T:k<bs.length:=by omega
 have hy:bs[k]?=some bs[k]:=an T;have os:=k9 (S _ (Zd z));have M:=vp W hy
 have b8:k<4:=by omega
 generalize aj:l[k]=s at *;generalize bq:bs[k]=b at *;generalize bM l bs (k+1)=A' at *;generalize bM l bs k=A at *;have w1:i64.wrap (97+(k:Int))=97+(k:Int):=aa
 have w2:IntKind.i32.wrap (97+(k:Int))=97+(k:Int):=by
  have:k=0\/k=1\/k=2\/k=3:=by omega
  rcases this with rfl|rfl|rfl|rfl<;>decide
 have ak:=R5 k A.js.length b A s.js s.ms (by omega) os.j os.m os.n2 os.m1 (by omega) (by omega);have ar:=R6 k A.js.length b ⟨A.js++s.js.map (gg k A.js.length b),A.ms++s.ms.map (oY A.js.length),A.shs,A.sks⟩ s (by omega) os.h os.k os.n2 os.h1 os.k1 (by simp only;omega) (by simp only;omega);obtain⟨js,ms,SH,sks⟩:=s;obtain⟨m,hm⟩:∃m,m=A.js.length:=⟨_,rfl⟩;simp only[fD]at M;rw[<-hm]at ak ar M o
 have a8:(A.js.map aQ).length=m:=by rw[Zm,hm]
 simp only at ak ar;clear os
 have b7:gH prog 9=none:=by kernel_rfl
 refine GT (zAc b7 g0 g1 g4 n g5 D a c d O Q o H (zAb I J K a8 @hm.symm z W aj T hy bq (gA w1 w2))) ?_;rw[Xm k b8 (by simp)];simp -implicitDefEqProofs (maxSteps:=2000000) [hP,hN,g0,g1,g4,n,g5,D,a,c,d,O,Q,o,H,I,J,K,a8,hm.symm,T,hy,bq];refine Ya ?_;refine WP.of_st (P:=λst=>st.t 0=.pv (.sl (l.map aW))/\st.t 1=.pv (aB bs)/\st.t 4=.ptr 4 0/\st.h 4=some (.box [.pv (.val (.slice none 0 0)),.pv (.val (.slice none 0 0)),.pv (.val (.slice none 0 0)),.pv (.val (.slice none 0 0))] true false)/\st.t 5=.pv (Z 0)/\st.t 9=.ptr 290 0/\st.t 42=.pv (.sl (l.map aW))/\st.t 43=.pv (Z l.length)/\st.t 44=.pv (Z k)/\st.t 11=.ptr 11 0/\st.t 12=.ptr 12 0/\st.h 11=some (.box [.pv (.sl (js.map aQ)),.pv (.sl (ms.map bb)),.pv (.sl (SH.map ba)),.pv (.sl (sks.map aK))] true false)/\st.h 12=some (.box [.pv (.val (.string (bQ k))),.pv (Z m),.pv (Z b.1),.pv (Z b.2.1),.pv (Z b.2.2)] true false)/\∀q,inK q=true->st.h q=dI true A q) ⟨?_,?_⟩
 .refine⟨by simp[g0],by simp[g1],by simp[g4],by simp[n],by simp[g5],by simp[D],by simp[a],by simp[c],by simp[d],by simp,by simp,by simp,by simp,λq hq=>?_⟩
  rw[<-G q hq];simp only[inK,up,Is]at hq;simp[show¬q=11 by omega,show¬q=12 by omega]
 clear g0 g1 g4 n g5 D a c d O Q o H I J K G st;rintro st ⟨g0,g1,g4,n,g5,D,a,c,d,v,y,p,u,G⟩;have o:st.h 290=some (.box [.arr 291 A.js.length,.arr 292 A.ms.length,.arr 293 A.shs.length,.arr 294 A.sks.length] true false):=(G 290 rfl).trans rfl
 with_reducible repeat' (first|refine Sp.h ?_|((with_unfolding_all refine WP.takeAt (hn:=[]) (f:=.func 62) 4 rfl rfl rfl ?_);simp -implicitDefEqProofs (maxSteps:=2000000) [hP,hN,g0,g1,g4,n,g5,D,a,c,d,v,y,p,u,o])|((first|refine Wd ?_|refine Ss.h ?_|(refine Sb.h ?_ ?_ ?_<;>(try intro hgd)<;>try exact Xy))<;>simp -implicitDefEqProofs (maxSteps:=2000000) [hP,hN,g0,g1,g4,n,g5,D,a,c,d,v,y,p,u,o]<;>try refine Ya ?_)|refine X2 ?_ ?_|(refine Xd ?_ ?_<;>intro hcd<;>try exact Xx))
 refine Ko (g:=62) (args:=[.pv (sf k m b),.ptr 290 0,.pv (eS js ms)]) rfl (by simp[St.ev]) rfl (by simp[dJ,hN]) G (by rw[hP];exact ak) ?_;intro r h' hh ho;have X:=ho 4 rfl;have E:=ho 11 rfl;have F:=ho 12 rfl;simp[nG,dU,eK,bT,o8,n,p,u]at X E F;simp -implicitDefEqProofs (maxSteps:=2000000) [hP,hN,dU,eK,bT,jG,gY,inK,g0,g1,g4,n,g5,D,a,c,d,v,y,p,u,X,E,F];refine WP.of_st (P:=λst=>st.t 0=.pv (.sl (l.map aW))/\st.t 1=.pv (aB bs)/\st.t 4=.ptr 4 0/\st.h 4=some (.box [.pv (.val (.slice none 0 0)),.pv (.val (.slice none 0 0)),.pv (.val (.slice none 0 0)),.pv (.val (.slice none 0 0))] true false)/\st.t 5=.pv (Z 0)/\st.t 9=.ptr 290 0/\st.t 42=.pv (.sl (l.map aW))/\st.t 43=.pv (Z l.length)/\st.t 44=.pv (Z k)/\st.t 11=.ptr 11 0/\st.t 12=.ptr 12 0/\st.h 11=some (.box [.pv (.sl (js.map aQ)),.pv (.sl (ms.map bb)),.pv (.sl (SH.map ba)),.pv (.sl (sks.map aK))] true false)/\st.h 12=some (.box [.pv (.val (.string (bQ k))),.pv (Z m),.pv (Z b.1),.pv (Z b.2.1),.pv (Z b.2.2)] true false)/\∀q,inK q=true->st.h q=dI true ⟨A.js++js.map (gg k m b),A.ms++ms.map (oY m),A.shs,A.sks⟩ q) ⟨?_,?_⟩
 .refine⟨by simp[dU,eK,bT,gY,inK,g0],by simp[dU,eK,bT,gY,inK,g1],by simp[dU,eK,bT,gY,inK,g4],by simp[X],by simp[dU,eK,bT,gY,inK,g5],by simp[dU,eK,bT,gY,inK,D],by simp[dU,eK,bT,gY,inK,a],by simp[dU,eK,bT,gY,inK,c],by simp[dU,eK,bT,gY,inK,d],by simp[dU,eK,bT,gY,inK,v],by simp[dU,eK,bT,gY,inK,y],by simp[E],by simp[F],λq hq=>hh q hq⟩
 clear hh ho X E F h' r g0 g1 g4 n g5 D a c d v y p u;rintro st ⟨g0,g1,g4,n,g5,D,a,c,d,v,y,p,u,G⟩
 with_reducible repeat' (first|refine Sp.h ?_|((with_unfolding_all refine WP.takeAt (hn:=[]) (f:=.func 63) 2 rfl rfl rfl ?_);simp -implicitDefEqProofs (maxSteps:=2000000) [hP,hN,g0,g1,g4,n,g5,D,a,c,d,v,y,p,u])|((first|refine Wd ?_|refine Ss.h ?_|(refine Sb.h ?_ ?_ ?_<;>(try intro hgd)<;>try exact Xy))<;>simp -implicitDefEqProofs (maxSteps:=2000000) [hP,hN,g0,g1,g4,n,g5,D,a,c,d,v,y,p,u]<;>try refine Ya ?_)|refine X2 ?_ ?_|(refine Xd ?_ ?_<;>intro hcd<;>try exact Xx))
 refine Ko (g:=63) (args:=[.pv (sf k m b),.ptr 290 0,.pv (aW ⟨js,ms,SH,sks⟩)]) rfl (by simp[St.ev,D]) rfl (by simp[dJ,hN]) G (by rw[hP];exact ar) ?_;intro r h' hh ho;have X:=ho 4 rfl;have E:=ho 11 rfl;have F:=ho 12 rfl;simp[nG,dU,eK,bT,o8,n,p,u]at X E F;simp -implicitDefEqProofs (maxSteps:=2000000) [hP,hN,dU,eK,bT,jG,gY,inK,g0,g1,g4,n,g5,D,a,c,d,v,y,p,u,X,E,F];refine WP.of_st (P:=λst=>st.t 0=.pv (.sl (l.map aW))/\st.t 1=.pv (aB bs)/\st.t 4=.ptr 4 0/\st.h 4=some (.box [.pv (.val (.slice none 0 0)),.pv (.val (.slice none 0 0)),.pv (.val (.slice none 0 0)),.pv (.val (.slice none 0 0))] true false)/\st.t 5=.pv (Z 0)/\st.t 9=.ptr 290 0/\st.t 42=.pv (.sl (l.map aW))/\st.t 43=.pv (Z l.length)/\st.t 44=.pv (Z k)/\st.t 11=.ptr 11 0/\st.t 12=.ptr 12 0/\st.h 11=some (.box [.pv (.sl (js.map aQ)),.pv (.sl (ms.map bb)),.pv (.sl (SH.map ba)),.pv (.sl (sks.map aK))] true false)/\st.h 12=some (.box [.pv (.val (.string (bQ k))),.pv (Z m),.pv (Z b.1),.pv (Z b.2.1),.pv (Z b.2.2)] true false)/\∀q,inK q=true->st.h q=dI true ⟨A.js++js.map (gg k m b),A.ms++ms.map (oY m),A.shs++SH.map (jM m b),A.sks++sks.map (ov m)⟩ q) ⟨?_,?_⟩
 .refine⟨by simp[dU,eK,bT,gY,inK,g0],by simp[dU,eK,bT,gY,inK,g1],by simp[dU,eK,bT,gY,inK,g4],by simp[X],by simp[dU,eK,bT,gY,inK,g5],by simp[dU,eK,bT,gY,inK,D],by simp[dU,eK,bT,gY,inK,a],by simp[dU,eK,bT,gY,inK,c],by simp[dU,eK,bT,gY,inK,d],by simp[dU,eK,bT,gY,inK,v],by simp[dU,eK,bT,gY,inK,y],by simp[E],by simp[F],λq hq=>hh q hq⟩
 clear hh ho X E F h' r g0 g1 g4 n g5 D a c d v y p u;rintro st ⟨g0,g1,g4,n,g5,D,a,c,d,v,y,p,u,G⟩;rw[<-M]at G;refine GT (zAb g0 g1 g4 n g5 D a c d v y (be p u cc)) ?_;intro q h1 h2
 have hq:inK q=true:=by simp[inK,h1,h2]
 rw[YR (by omega),G q hq,Fm [11,12] (by simp) true A' q hq]
theorem Xe(l:List Sce)(bs:List Vc)(qs:List fJ)(D:Int)(hs:∀s∈l,ScL s)(hl:l.length<=9223372036854775807)(hb:bs.length<=9223372036854775807)(hq:qs.length<=9223372036854775807)(cS:∀q∈qs,q.1.length<=9223372036854775807/\q.2.length<=9223372036854775807/\∀x∈q.1,x.length<=9223372036854775807):mD 11 (.sl (l.map aW)) (aB bs) (vn qs) (Z D) (E8 l bs qs D):=by
 have cj:=Ta l bs hs hl hb;generalize gl l bs=X at cj;by_cases h1:gx l bs=0
 case neg=>
  have cU:(gx l bs !=0)=true:=by simp[h1]
  rw[xj (by unfold oo;rw[ZU h1];rfl)];generalize gx l bs=e at *;refine Dp func11 λC hP hN=>?_;exact Gy
 obtain⟨o1,o2,o3,o4,o5⟩:=Bk h1;rw[h1]at cj;by_cases h2:qs.length=l.length
 case neg=>
  have ck:((qs.length:Int)!=l.length)=true:=by simp;omega
  rw[xj (by unfold oo;rw[ZU h2];simp)];refine Dp func11 λC hP hN=>?_;exact Gy
 have ck:((qs.length:Int)!=l.length)=false:=by simp;omega
 by_cases h3:D<0
 .rw[xj (by unfold oo;rw[ZU (show¬0<=D by omega)];simp)]
  refine Dp func11 λC hP hN=>?_;exact Gy
 by_cases h4:20<D
 .rw[xj (by unfold oo;rw[ZU (show¬D<=20 by omega)];simp)]
  refine Dp func11 λC hP hN=>?_;exact Gy
 obtain⟨d,rfl⟩:∃d:Nat,D=d:=⟨D.toNat,by omega⟩
 have hd:d<=20:=by omega
 refine Dp func11 λC hP hN=>?_;refine GT (be ck h3 h4) ?_;refine WP.loopN [13] qs.length (λi st=>st.t 0=.pv (.sl (l.map aW))/\st.t 1=.pv (aB bs)/\st.t 2=.pv (vn qs)/\st.t 3=.pv (Z (d:Int))/\st.t 44=.pv (vn qs)/\st.t 45=.pv (Z qs.length)/\st.t 46=.pv (Z i)/\(∀k,k≠10->st.h k=none)/\Kb l qs i) ?_ ?_
 .simp[Kb]
  intro k hk _;rw[YR hk,YR hk,va];split<;>rfl
 rintro i st hi ⟨g0,g1,g2,g3,ar,a6,a7,F,hM⟩;by_cases o:i<qs.length
 .have hw:=ae o hq
  have I:i<l.length:=by omega
  have hx:l[i]?=some l[i]:=an I;have hy:qs[i]?=some qs[i]:=an o;have cu:=hs _ (Zd I);obtain⟨k1,k2,k3⟩:=cS _ (Zd o);have cv:=Yt l[i].js l[i].ms qs[i].1 qs[i].2 cu.js cu.ms k1 k2 k3;have ct:=LI (bs:=bs) (D:=(d:Int)) hx hy;have cr:=LJ hM hx hy;generalize M:l[i]=s at *;generalize N:qs[i]=q at *;obtain⟨P,es⟩:=q;obtain⟨s1,s2,s3,s4⟩:=s;simp only at cv ct cr;have cx:=F 13 (by decide)
  cases hv:nE s1 s2 P es with
  |false=>
   rw[hv]at cv;rw[xj (ct hv)];exact GS (zAc g0 g1 g2 g3 ar a6 a7 cx o I hx hy M N @bX.eq_1)
  |true=>
   rw[hv]at cv;have hT:=cr hv;refine GT (zAc g0 g1 g2 g3 ar a6 a7 cx o I hx hy M N (be @bX.eq_1 hw hT)) ?_
   all_goals (intro q cQ;by_cases e:q=13<;>simp[e,F q cQ])
 have b4:i=qs.length:=by omega
 subst b4;rw[h2]at hM
 have hR:E8 l bs qs d=if(qK l bs qs d).length<=4096 then .tup [.sl ((qK l bs qs d).map dG),B true]else .tup [.sl [],B false]:=by
  unfold E8;rw[Hg h1 h2 (by omega) (by omega) hM,Y9];simp
 rw[hR];clear hR;have ca:=F 14 (by decide);refine kp [14] (s7 g0 g1 g2 g3 ar a6 a7 (gA o ca)) ?_;have s0:zx (wi l bs qs d) l.length 0=[]:=rfl;have s1:=LF (wi l bs qs d) l.length;have s2:=λi(h:i<=l.length)=>LH (wi l bs qs d) l.length h;unfold qK;generalize hW:zx (wi l bs qs d) l.length=W at *;clear hW;refine WP.ren 14 291 (by decide) (by simp[F]) (by decide) (by simp) ?_;refine WP.of_st (P:=λst=>st.t 0=.pv (.sl (l.map aW))/\st.t 1=.pv (aB bs)/\st.t 2=.pv (vn qs)/\st.t 3=.pv (Z (d:Int))/\st.t 14=.arr 291 (W 0).length/\st.h 291=some (.row 89 6 ((W 0).map dG) 0)/\st.t 61=.pv (Z l.length)/\st.t 62=.pv (Z 0)/\∀k,k≠10->k≠291->st.h k=none) ⟨?_,?_⟩
 .rw[s0]
  refine⟨by simp[g0],by simp[g1],by simp[g2],by simp[g3],by simp,by simp,by simp,by simp,λk k1 k2=>?_⟩;by_cases e:k=14<;>simp[e,k2,F k k1]
 clear g0 g1 g2 g3 ar a6 a7 F ca o st;rintro st ⟨g0,g1,g2,g3,u,a,c,f,F⟩;refine WP.loopN [17,19] l.length (λi st=>st.t 0=.pv (.sl (l.map aW))/\st.t 1=.pv (aB bs)/\st.t 2=.pv (vn qs)/\st.t 3=.pv (Z (d:Int))/\st.t 14=.arr 291 (W i).length/\st.h 291=some (.row 89 6 ((W i).map dG) 0)/\st.t 61=.pv (Z l.length)/\st.t 62=.pv (Z i)/\(∀k,k≠10->k≠291->st.h k=none)/\(W i).length<=4096) ?_ ?_
 .refine⟨by simp[g0],by simp[g1],by simp[g2],by simp[g3],by simp[u],by simp[a],by simp[c],by simp[f],λk k1 k2=>?_,by rw[s0];simp⟩
  by_cases e:k=17\/k=19<;>simp[e,F k k1 k2]
 clear g0 g1 g2 g3 u a c f F st;rintro i st hi ⟨g0,g1,g2,g3,u,a,c,f,F,H⟩;by_cases o:i<l.length
 case neg=>
  have b4:i=l.length:=by omega
  subst b4;rw[YY H];exact Gy
 have hw:=ae o hl
 have c3:i64.wrap ((i:Int)+1)=((i+1:Nat):Int):=by rw[hw];omega
 obtain⟨R,hR⟩:∃R:Nat->List Cf,R=λj=>W i++xh (wi l bs qs d) i j:=⟨_,rfl⟩
 have r0:R 0=W i:=by rw[hR];simp[xh]
 have r1:R (l.length-(i+1))=W (i+1):=by rw[hR,s1]
 have r2:∀j,R (j+1)=R j++wi l bs qs d i (i+1+j):=λj=>by rw[hR];simp only;rw[LE,ZY]
 have r4:∀j,j<=l.length-(i+1)->(R j).length<=(W l.length).length:=λj hj=>by
  refine yAs ?_ (s2 (i+1) (by omega));rw[hR,s1];simp only[Zb];have:=LG (wi l bs qs d) i hj;omega
 clear hR;have hx:l[i]?=some l[i]:=an o;refine GT (zAa g0 g1 g2 g3 u a c f o hw) ?_;refine WP.loopN [17,19] (l.length-(i+1)) (λj st=>st.t 0=.pv (.sl (l.map aW))/\st.t 1=.pv (aB bs)/\st.t 2=.pv (vn qs)/\st.t 3=.pv (Z (d:Int))/\st.t 14=.arr 291 (R j).length/\st.h 291=some (.row 89 6 ((R j).map dG) 0)/\st.t 61=.pv (Z l.length)/\st.t 62=.pv (Z i)/\st.t 15=.pv (Z i)/\st.t 16=.pv (Z ((i+1+j:Nat):Int))/\(∀k,k≠10->k≠291->st.h k=none)/\(R j).length<=4096) ?_ ?_
 .rw[r0]
  refine⟨by simp[g0],by simp[g1],by simp[g2],by simp[g3],by simp[u],by simp[a],by simp[c],by simp[f],by simp,by simp,λk k1 k2=>?_,H⟩;by_cases e:k=17\/k=19<;>simp[e,F k k1 k2]
 clear g0 g1 g2 g3 u a c f F H st;rintro j st hj ⟨g0,g1,g2,g3,u,a,c,f,v,E,F,H⟩;by_cases G:i+1+j<l.length
 case neg=>
  have cO:j=l.length-(i+1):=by omega
  subst cO;rw[r1]at u a H
  have cp:¬((i+1+(l.length-(i+1)):Nat):Int)<l.length:=by omega
  generalize i+1+(l.length-(i+1))=b at *;refine GT (zAb g0 g1 g2 g3 u a c f v E G (be cp hw H)) ?_
  all_goals (intro q k1 k2;by_cases e:q=17\/q=19<;>simp[e,F q k1 k2])
 have q2:=r2 j;have q4:=r4 (j+1) (by omega)
 have cP:i+1+(j+1)=i+1+j+1:=by omega
 have cX:j+1<=l.length-(i+1):=by omega
 have cN:i<i+1+j:=by omega
 rw[cP];generalize i+1+j=b at *;have cT:=ae G hl;have hy:l[b]?=some l[b]:=an G
 have b2:i<bs.length:=by omega
 have b3:b<bs.length:=by omega
 have b5:i<qs.length:=by omega
 have b7:b<qs.length:=by omega
 have T:bs[i]?=some bs[i]:=an b2
 have Q:bs[b]?=some bs[b]:=an b3
 have ad:qs[i]?=some qs[i]:=an b5;have V:qs[b]?=some qs[b]:=an b7;have hE:=Hq h1 hx T hy Q cN;rw[Ka hx hy T Q ad V]at q2;have cz:=o4 _ (Zd o);have cB:=o4 _ (Zd G);have c0:=hs _ (Zd o);have c2:=hs _ (Zd G);have aj:=hM i _ _ o hx ad;have ak:=hM b _ _ G hy V;generalize M:l[i]=s at *;generalize N:l[b]=t at *;generalize U:bs[i]=x at *;generalize S:bs[b]=y at *;generalize ah:qs[i]=m at *;generalize Y:qs[b]=n at *;obtain⟨J,e1⟩:=m;obtain⟨K,e2⟩:=n;simp only at aj ak q2;have w1:=He cz aj;have w2:=He cB ak;have z1:=Bf (q:=(J,e1)) w1 i;have z2:=Bf (q:=(K,e2)) w2 b;have y1:=yy (q:=(J,e1)) w1 i;have y2:=yy (q:=(K,e2)) w2 b;have p1:=(r8 aj).1;have p2:=(r8 ak).1;have u1:J.length*J.length<=1024*1024:=yAa p1 p1;have u2:K.length*K.length<=1024*1024:=yAa p2 p2;have cA:=E7 hE
 have cM:ScL (gl [s,t] [x,y]):=by
  unfold gl;rw[YY hE];exact(Bm (l:=[s,t]) (bs:=[x,y]) (by intro z hz;simp at hz;rcases hz with rfl|rfl<;>assumption) 2).L (by omega)
 have a8:=Ta [s,t] [x,y] (by intro z hz;simp at hz;rcases hz with rfl|rfl<;>assumption) (by simp) (by simp);have cn:∀p∈J,∀q∈K,aX (gl [s,t] [x,y]).js (gl [s,t] [x,y]).ms (p++q)=true:=λp hp q hq=>xg hE (ro (r8 aj).2.2.1 p hp) (ro (r8 ak).2.2.1 q hq);have cb:=S0 i (bX (J,e1)) w1 (by omega);have cc:=S0 b (bX (K,e2)) w2 (by omega);have cD:=Ua (gl [s,t] [x,y]) d J K (ke (bX (J,e1)) i) (ke (bX (K,e2)) b) (R j) cM cA.1 hd H (by simp only at y1;omega) (by simp only at y2;omega) z1 z2 cn
 have cm:LD (R j) (iy (gl [s,t] [x,y]) d J K (ke (bX (J,e1)) i) (ke (bX (K,e2)) b))=λr L=>((R (j+1)).length<=4096/\L=R (j+1)/\r=.tup [.arr 291 (R (j+1)).length,.pv (B true)])\/(4096<(R (j+1)).length/\r=.tup [.pv (.val (.slice none 0 0)),.pv (B false)]):=by rw[q2];rfl
 rw[cm]at cD;rw[hE]at a8;have cV:=cA.1;clear cm q2 z1 z2 y1 y2 u1 u2 p1 p2 cA cn w1 w2 aj ak hE;generalize gl [s,t] [x,y]=A at *;generalize ke (bX (J,e1)) i=us at *;generalize ke (bX (K,e2)) b=vs at *;have cg:aH 29 (.sl [aW s,aW t]) (.sl [ai x,ai y]) (.tup [aW A,Z 0]):=a8;have cd:aH 32 (Z i) (.agg [.sl (J.map zs),iN e1]) (.sl (us.map dN)):=cb;have cf:aH 32 (Z b) (.agg [.sl (K.map zs),iN e2]) (.sl (vs.map dN)):=cc;clear a8 cb cc;have b8:=F 17 (by decide) (by decide);have b9:=F 19 (by decide) (by decide)
 with_reducible repeat' (first|refine Sp.h ?_|((with_unfolding_all refine WP.drawTake (hn:=[]) (λ_=>false) 14 rfl rfl (by rw[hP];kernel_rfl) (by kernel_rfl) (by kernel_rfl) (by kernel_rfl) (by kernel_rfl) ?_);simp -implicitDefEqProofs (maxSteps:=2000000) [hP,hN,g0,g1,g2,g3,u,a,c,f,v,E,b8,b9,o,G,b2,b3,b5,b7,hx,M,hy,N,T,U,Q,S,ad,ah,V,Y,bX])|((first|refine Wd ?_|refine Ss.h ?_|refine Sc.h (cg) ?_|refine Sc.h (cd) ?_|refine Sc.h (cf) ?_|(refine Sb.h ?_ ?_ ?_<;>(try intro hgd)<;>try exact Xy))<;>simp -implicitDefEqProofs (maxSteps:=2000000) [hP,hN,g0,g1,g2,g3,u,a,c,f,v,E,b8,b9,o,G,b2,b3,b5,b7,hx,M,hy,N,T,U,Q,S,ad,ah,V,Y,bX]<;>try refine Ya ?_)|refine X2 ?_ ?_|(refine Xd ?_ ?_<;>intro hcd<;>try exact Xx))
 refine P6 (g:=31) (args:=[.pv (Nu A d J K),.arr 291 (R j).length,.pv (.sl (us.map dN)),.pv (.sl (vs.map dN))]) rfl (by simp[St.ev]) rfl (by simp[dJ,hN]) (λq hq=>?_) (by rw[hP];exact cD) ?_
 .by_cases e:q=291
  .subst e;simp[a,lR]
  .have:290<=q:=by simp[inK]at hq;omega
   rw[tf e];simp[show¬q=17 by omega,show¬q=19 by omega,F q (by omega) e]
 intro r h' L' hp hK cq
 have bq:∀q,q≠10->q≠291->q≠17->q≠19->h' q=none:=λq k1 k2 k3 k4=>by
  cases hq:inK q with
  |true=>rw[hK q hq,tf k2]
  |false=>rw[cq q hq];simp[k3,k4,F q k1 k2]
 have O:=hK 291 rfl;clear cq hK b8 b9 cD cg cd cf F a M N U S ah Y hx hy T Q ad V;rcases hp with⟨v1,rfl,rfl⟩|⟨v1,rfl⟩
 .simp -implicitDefEqProofs (maxSteps:=2000000) [hP,hN,eC,iR,eK,bT,jG,inK,g0,g1,g2,g3,c,f,v,E]
  refine Ya ?_;refine WP.of_st (P:=λst=>st.t 0=.pv (.sl (l.map aW))/\st.t 1=.pv (aB bs)/\st.t 2=.pv (vn qs)/\st.t 3=.pv (Z (d:Int))/\st.t 61=.pv (Z l.length)/\st.t 62=.pv (Z i)/\st.t 15=.pv (Z i)/\st.t 16=.pv (Z b)/\st.t 14=.arr 291 (R (j+1)).length/\st.t 20=.pv (B true)/\st.h 291=some (.row 89 6 ((R (j+1)).map dG) 0)/\∀q,q≠10->q≠291->q≠17->q≠19->st.h q=none) ⟨?_,?_⟩
  .refine⟨by simp[eC,iR,eK,bT,jG,inK,g0],by simp[eC,iR,eK,bT,jG,inK,g1],by simp[eC,iR,eK,bT,jG,inK,g2],by simp[eC,iR,eK,bT,jG,inK,g3],by simp[eC,iR,eK,bT,jG,inK,c],by simp[eC,iR,eK,bT,jG,inK,f],by simp[eC,iR,eK,bT,jG,inK,v],by simp[eC,iR,eK,bT,jG,inK,E],by simp,by simp,by simp[O,lR],λq k1 k2 k3 k4=>by simp[bq q k1 k2 k3 k4]⟩
  clear g0 g1 g2 g3 u c f v E bq O st h';rintro st ⟨g0,g1,g2,g3,c,f,v,E,u,ch,a,F⟩;refine GT (zAb g0 g1 g2 g3 c f v E u ch a (gA cT v1)) ?_;exact⟨by omega,λq k1 k2 k3 k4=>F q k1 k2 k3 k4⟩
 rw[YR (by omega)];simp -implicitDefEqProofs (maxSteps:=2000000) [hP,hN,eC,iR,eK,bT,jG,inK,g0,g1,g2,g3,c,f,v,E];refine Ya ?_;refine WP.of_st (P:=λst=>st.t 20=.pv (B false)) ⟨by simp,?_⟩;clear g0 g1 g2 g3 u c f v E bq O st h';intro st ch;exact Gy
def bl(n:Nat)(f:Nat->Bool):List PV:=(List.range n).map λx=>B (f x)
@[simp] theorem oN(n:Nat)(f:Nat->Bool):(bl n f).length=n:=by simp[bl]
theorem Bz{x:Nat}(f:Nat->Bool)(h:x<n):(bl n f)[x]?=some (B (f x)):=by simp[bl,h]
theorem lp{f:Nat->Bool}(h:∀x,x<n->f x=g x):bl n f=bl n g:=List.map_congr_left λx a=>by rw[h x (Zw.1 a)]
theorem yT(n:Nat):List.replicate n (B false)=bl n λ_=>false:=by simp[bl,List.map_const']
theorem BA{u:Nat}{f:Nat->Bool}{b:Bool}(d:u<n)(h1:g u=b)(h2:∀x,x<n->x≠u->g x=f x):(bl n f).set u (B b)=bl n g:=by
 apply Zx;intro w;rw[Y1];simp only[oN];by_cases a:w<n
 .by_cases e:u=w
  .subst e;simp[bl,a,h1]
  .simp[bl,a,e,h2 w a (λc=>e c.symm)]
 .by_cases e:u=w
  .subst e;simp[bl,a]
  .simp[bl,a,e]
theorem Tj(p:Int->Bool)(xs:List Int)(g:FuncId)(x1 x2 x3 x4:PV)(f:xs.length<=9223372036854775807)(d:∀c∈xs,aS prog g [.pv (Z c),.pv (.rptr x1 0),.pv (.rptr x2 0),.pv (.rptr x3 0),.pv (.rptr x4 0)] [] [] (.pv (B (p c)))):aH 77 (zs xs) (.fn (.func g) [] [.rptr x1 0,.rptr x2 0,.rptr x3 0,.rptr x4 0]) (Z (oQ p xs)):=by
 refine Dp func77 λC hP hN=>?_;refine Gz ?_;refine WP.loopN [] xs.length (λi st=>st.t 0=.pv (zs xs)/\st.t 1=.pv (.fn (.func g) [] [.rptr x1 0,.rptr x2 0,.rptr x3 0,.rptr x4 0])/\st.t 7=.pv (Z xs.length)/\st.t 8=.pv (Z i)/\pM p xs i) (by simp[tB]) ?_;rintro i st hi ⟨g0,g1,l,m,hq⟩;by_cases a:i<xs.length
 .have n:=ae a f
  have hn:=vQ a hq;have e:=CO a hq;have b:=d _ (Zd a);generalize j:xs[i]=c at *
  have k:xs[i]?=some c:=by rw[an a,j]
  generalize oQ p xs=r at *
  cases hp:p c with
  |true=>
   rw[hp]at b;rw[e hp];exact Gy
  |false=>
   rw[hp]at b;exact Gy
   all_goals exact hn hp
 .rw[CP a hq]
  exact Gy
theorem Wt(p:Int->Bool)(xs:List Int)(g:FuncId)(x1 x2 x3 x4:PV)(b:xs.length<=9223372036854775807)(a:∀c∈xs,aS prog g [.pv (Z c),.pv (.rptr x1 0),.pv (.rptr x2 0),.pv (.rptr x3 0),.pv (.rptr x4 0)] [] [] (.pv (B (p c)))):aH 126 (zs xs) (.fn (.func g) [] [.rptr x1 0,.rptr x2 0,.rptr x3 0,.rptr x4 0]) (B (xs.any p)):=by
 have d:=Tj p xs g x1 x2 x3 x4 b a;rw[<-CQ];refine Dp func126 λC hP hN=>?_;exact Gy
abbrev FY(a:PV)(start goal T:Int)(g:FuncId)(x:PV):PV:=.agg [a,Z start,Z goal,Z T,.fn (.func g) [] [.rptr x 0]]
theorem Wu(rows row:List PV)(i v:Nat)(u:Int)(a:PV)(start goal T:Int)(g:FuncId)(x:PV)(b1 b:Bool)(hi:i<=1000000)(h1:rows[i+1]?=some (.sl row))(m:0<=u)(h2:row[u.toNat]?=some (B b1))(c:b1=true->aS prog g [.pv (Z i),.pv (Z v),.pv (Z u),.pv (.rptr x 0)] [] [] (.pv (B b))):xW 127 (Z u) (.rptr (.sl rows) 0) (.rptr (Z i) 0) (.rptr (FY a start goal T g x) 0) (.rptr (Z v) 0) (B (b1&&b)):=by
 obtain⟨k,rfl⟩:∃k:Nat,u=k:=⟨u.toNat,by omega⟩;rw[Y9]at h2;obtain⟨j,e⟩:∃j,i+1=j:=⟨_,rfl⟩
 have n:i64.wrap ((i:Int)+1)=(j:Int):=by rw[IntKind.wrap_i64];omega
 rw[e]at h1;have o:=(th.1 h1).1;have f:=(th.1 h1).2;have p:=(th.1 h2).1;have l:=(th.1 h2).2;refine Dp func127 λC hP hN=>?_
 cases b1 with
 |true=>
  have d:=c rfl;exact Gy
 |false=>
  exact Gy
theorem XL(rows row:List PV)(i v:Nat)(u:Int)(a:PV)(start goal T:Int)(g:FuncId)(x:PV)(b1 b:Bool)(hi:i<=1000000)(h1:rows[i+1]?=some (.sl row))(m:0<=u)(h2:row[u.toNat]?=some (B b1))(c:b1=true->aS prog g [.pv (Z i),.pv (Z v),.pv (Z u),.pv (.rptr x 0)] [] [] (.pv (B b))):xW 78 (Z u) (.rptr (.sl rows) 0) (.rptr (Z i) 0) (.rptr (FY a start goal T g x) 0) (.rptr (Z v) 0) (B (b1&&b)):=by
 obtain⟨k,rfl⟩:∃k:Nat,u=k:=⟨u.toNat,by omega⟩;rw[Y9]at h2;obtain⟨j,e⟩:∃j,i+1=j:=⟨_,rfl⟩
 have n:i64.wrap ((i:Int)+1)=(j:Int):=by rw[IntKind.wrap_i64];omega
 rw[e]at h1;have o:=(th.1 h1).1;have f:=(th.1 h1).2;have p:=(th.1 h2).1;have l:=(th.1 h2).2;refine Dp func78 λC hP hN=>?_
 cases b1 with
 |true=>
  have d:=c rfl;exact Gy
 |false=>
  exact Gy
def fV(r:Nat->Bool)(lg p:Nat->Nat->Bool)(v x:Nat):Bool:=(List.range v).any λu=>r u&&lg u x&&p u x
def fT(r:Nat->Bool)(lg p:Nat->Nat->Bool)(a:List Nat)(v j x:Nat):Bool:=fV r lg p v x||(a.take j).any λu=>u==x&&p v x
theorem HR(r:Nat->Bool)(lg p:Nat->Nat->Bool)(v x:Nat):fV r lg p (v+1) x=(fV r lg p v x||(r v&&lg v x&&p v x)):=by
 simp[fV,yAd,List.any_append]
theorem OX(r:Nat->Bool)(lg p:Nat->Nat->Bool)(a:List Nat)(v x:Nat):fT r lg p a v 0 x=fV r lg p v x:=by simp[fT]
theorem OY(r:Nat->Bool)(lg p:Nat->Nat->Bool){a:List Nat}{j:Nat}(x:Nat)(b:j<a.length):fT r lg p a v (j+1) x=(fT r lg p a v j x||(a[j]==x&&p v x)):=by
 simp only[fT,ZC b,List.any_append,List.any_cons,List.any_nil,Bool.or_false,Bool.or_assoc]
theorem Rm{r:Nat->Bool}{p:Nat->Nat->Bool}{x:Nat}(a:r v=true)(b:x<n):fT r lg p (gn lg n v) v (gn lg n v).length x=fV r lg p (v+1) x:=by
 rw[HR,a,fT,yAE,Zf]
 congr 1
 rw[Bool.eq_iff_iff];simp only[yAF,gn,ZV,Zw,up,ZH];constructor
 .rintro⟨u,⟨h1,h2⟩,rfl,h3⟩;exact⟨h2,h3⟩
 .rintro⟨h1,h2⟩;exact⟨x,⟨b,h1⟩,rfl,h2⟩
theorem Ro{j:Nat}(h:j<(gn lg n v).length):(gn lg n v)[j]<n:=by
 have:=Zd h;simp only[gn,ZV,Zw]at this;exact this.1
theorem CK(lg:Nat->Nat->Bool)(n v:Nat):(gn lg n v).length<=n:=by
 have:=yAX (lg v) (List.range n);simpa[gn]using this
abbrev BB(n:Nat)(f:Nat->Nat->Bool)(N:Nat):PV:=.sl ((List.range N).map λi=>.sl (bl n (f i)))
def lS(n:Nat)(f:Nat->Nat->Bool)(i N:Nat):List AV:=(List.range N).map λw=>if w<i then .pv (.sl (bl n (f w)))else gh
@[simp] theorem CM(n:Nat)(f:Nat->Nat->Bool)(i N:Nat):(lS n f i N).length=N:=by simp[lS]
theorem My(n:Nat)(f:Nat->Nat->Bool)(N:Nat):List.replicate N gh=lS n f 0 N:=by simp[lS,List.map_const']
theorem Rp{w:Nat}(h:w<i)(hN:w<N):(lS n f i N)[w]?=some (.pv (.sl (bl n (f w)))):=by simp[lS,hN,h]
theorem FZ(x:AV):((lS n f i N).set i x).set i (.pv (.sl (bl n (f i))))=lS n f (i+1) N:=by
 rw[List.set_set];apply Zx;intro w;rw[Y1];simp only[CM];by_cases a:w<N
 .by_cases e:i=w
  .subst e;simp[lS,a]
  .simp[lS,a,e,show(w<i+1↔w<i) by omega]
 .by_cases e:i=w
  .subst e;simp[lS,a]
  .simp[lS,a,e]
theorem Ao(ks:List Nat)(n:Nat)(f:Nat->Nat->Bool)(i N:Nat):(lS n f i N).map (dL ks)=lS n f i N:=by
 unfold lS;rw[List.map_map];refine List.map_congr_left λw _=>?_;simp only[Function.comp];split<;>simp[o7,fA]
theorem OZ(n:Nat)(f:Nat->Nat->Bool)(N:Nat):lS n f N N=((List.range N).map λi=>AV.pv (.sl (bl n (f i)))):=by
 unfold lS;refine List.map_congr_left λw a=>?_;rw[YY (Zw.1 a)]
theorem Ap(h:Hp)(f:Nat->List PV):∀l:List Nat,eh h (l.map λv=>AV.pv (.sl (f v)))=some (l.map λv=>.sl (f v),[])
 |[]=>rfl
 |v::l=>by
  have:=Ap h f l;simp only[Z0,eh,iX,norm,this,yAJ]
theorem XM(n:Nat)(lg:Nat->Nat->Bool)(ps:Nat->Nat->Nat->Bool)(ns:List PV)(start:Nat)(goal:Int)(T:Nat)(g:FuncId)(x:PV)(hn:ns.length=n)(ch:∀v,v<n->ns[v]?=some (zs ((gn lg n v).map λu=>((u:Nat):Int))))(cr:n<=1024)(hT:T<=64)(hs:start<n)(hg:∀i v u,i<T->v<n->u<n->aS prog g [.pv (Z i),.pv (Z v),.pv (Z u),.pv (.rptr x 0)] [] [] (.pv (B (ps i v u)))):aT 75 (FY (.sl ns) start goal T g x) (BB n (wu n lg ps start) (T+1)):=by
 obtain⟨M,hM⟩:∃M,M=T+1:=⟨_,rfl⟩;obtain⟨f,hf⟩:∃f,f=wu n lg ps start:=⟨_,rfl⟩;rw[<-hM,<-hf]
 have b2:∀v,f 0 v=(v==start):=λv=>by rw[hf];rfl
 have ca:∀i v,f (i+1) v=fV (f i) lg (ps i) n v:=λi v=>by rw[hf];rfl
 have w0:i64.wrap ((T:Int)+1)=(M:Int):=by rw[IntKind.wrap_i64];omega
 have b8:0<M:=by omega
 refine Dp func75 λC hP hN=>?_;refine kp [1000012,17] (zAa hn w0 b8 hs (show 1<=M by omega) (show(M:Int)*24<=281474976710656 by omega) (show 24*(M:Int)<=281474976710656 by omega) (show(M:Int)<=9223372036854775807 by omega) (show(n:Int)<=281474976710656 by omega) (show(n:Int)<=9223372036854775807 by omega)) ?_
 have O:(List.replicate n (B false)).set start (B true)=bl n (f 0):=by
  rw[yT];exact BA hs (by simp[b2]) (λv _ hv=>by rw[b2];simpa using hv)
 have b9:(AV.arr 17 n::List.replicate (M-1) gh).set 0 (.pv (.sl (bl n (f 0))))=lS n f 1 M:=by
  rw[<-FZ (i:=0) (.arr 17 n),<-My,<-Nat.sub_add_cancel (show 1<=M by omega),List.replicate_succ];rfl
 refine WP.freezeB 12 0 (k:=17) (xs:=bl n (f 0)) (cs:=.arr 17 n::List.replicate (M-1) gh) (e:=4) (sz:=1) (fz:=0) (own:=true) (fb:=false) (by simp) (by simp) (by simp[O]) ?_;rw[b9];refine WP.loopN [36] T (λi st=>st.t 1=.ptr 1 0/\st.h 1=some (.box [.pv (.sl ns),.pv (Z start),.pv (Z goal),.pv (Z T),.pv (.fn (.func g) [] [.rptr x 0])] true false)/\st.t 3=.ext (.barr 12 M M)/\st.t 26=.pv (Z T)/\st.t 27=.pv (Z i)/\st.h 12=some (.box (lS n f (i+1) M) true false)/\st.h 36=none) (by simp[Ao]) ?_;rintro i st hi ⟨g1,b1,g3,c,d,a,b⟩;by_cases V:i<T
 .have cp:=ae V (by omega)
  obtain⟨j,hj⟩:∃j,i+1=j:=⟨_,rfl⟩;obtain⟨cs,s⟩:∃cs,cs=lS n f j M:=⟨_,rfl⟩
  have ck:cs[i]?=some (.pv (.sl (bl n (f i)))):=by rw[s];exact Rp (by omega) (by omega)
  have b7:∀h,cs[i]'h=.pv (.sl (bl n (f i))):=λh=>(th.1 ck).2;rw[hj,<-s]at a
  have K:cs.length=M:=by rw[s,CM]
  have N:j<M:=by omega
  have b4:j+1<=M:=by omega
  have U:(j:Int)<(M:Int):=by omega
  have cb:i<M:=by omega
  have cd:(i:Int)<(M:Int):=by omega
  have cf:¬j=i:=by omega
  have X:i64.wrap ((i:Int)+1)=(j:Int):=by rw[IntKind.wrap_i64];omega
  have cj:cs.take j++AV.arr 36 n::cs.drop (j+1)=cs.set j (.arr 36 n):=ir (by omega);refine kp [36] (zAc hn g1 b1 g3 c d a b V X K N b4 U (s7 cb cd cf ck b7 cj (show(n:Int)<=281474976710656 by omega) (show(n:Int)<=9223372036854775807 by omega))) ?_;obtain⟨J,L⟩:∃J,J=cs.set j (.arr 36 n):=⟨_,rfl⟩
  have aj:J.length=M:=by rw[L,yAe,K]
  have dj:J[j]?=some (.arr 36 n):=by rw[L];simp[K,N]
  have ah:∀h,J[j]'h=.arr 36 n:=λh=>(th.1 dj).2
  have A:J.map (dL [])=J:=by rw[L,yAl,s,Ao];rfl
  rw[<-L];refine WP.loopN [] n (λv st=>st.t 1=.ptr 1 0/\st.h 1=some (.box [.pv (.sl ns),.pv (Z start),.pv (Z goal),.pv (Z T),.pv (.fn (.func g) [] [.rptr x 0])] true false)/\st.t 3=.ext (.barr 12 M M)/\st.t 26=.pv (Z T)/\st.t 27=.pv (Z i)/\st.t 4=.pv (Z i)/\st.t 41=.pv (.sl (bl n (f i)))/\st.t 42=.pv (Z n)/\st.t 43=.pv (Z v)/\st.h 12=some (.box J true false)/\st.h 36=some (.row 4 1 (bl n (fV (f i) lg (ps i) v)) 0)) (by simp[A,g1,b1,g3,c,d,yT];exact lp λ_ _=>rfl) ?_;clear g1 b1 g3 c d a b;rintro v st hv ⟨g1,b1,g3,c,d,g4,m,q,r,a,b⟩;by_cases F:v<n
  .have a8:=ae F (by omega)
   have o:=Bz (f i) F;have Y:=ch v F;have cv:=(th.1 Y).1;have cq:=(th.1 Y).2
   have W:v<(bl n (f i)).length:=by rw[oN];exact F
   have l:∀h,(bl n (f i))[v]'h=B (f i v):=λh=>(th.1 o).2
   cases hb:f i v with
   |false=>
    rw[hb]at o l;obtain⟨r0,O⟩:∃r0,r0=bl n (f i):=⟨_,rfl⟩;rw[<-O]at m o l W|-;rw[lp (g:=fV (f i) lg (ps i) (v+1)) (λx _=>by rw[HR,hb];simp)]at b;exact GS (zAc g1 b1 g3 c d g4 m q r a b F a8 o (be l W A))
   |true=>
    rw[hb]at o l;obtain⟨r0,O⟩:∃r0,r0=bl n (f i):=⟨_,rfl⟩;rw[<-O]at m o l W|-;rw[lp (g:=fT (f i) lg (ps i) (gn lg n v) v 0) (λx _=>by rw[OX])]at b;rw[lp (f:=fV (f i) lg (ps i) (v+1)) (g:=fT (f i) lg (ps i) (gn lg n v) v (gn lg n v).length) (λx Y=>by rw[Rm hb Y])];have cu:=CK lg n v;have cm:∀k(h:k<(gn lg n v).length),(gn lg n v)[k]<n:=λk h=>Ro h;generalize gn lg n v=p at *;refine GT (zAc hn g1 b1 g3 c d g4 m q r a b F a8 (so o l W A Y cq)) ?_;refine WP.loopN [] p.length (λk st=>st.t 1=.ptr 1 0/\st.h 1=some (.box [.pv (.sl ns),.pv (Z start),.pv (Z goal),.pv (Z T),.pv (.fn (.func g) [] [.rptr x 0])] true false)/\st.t 3=.ext (.barr 12 M M)/\st.t 26=.pv (Z T)/\st.t 27=.pv (Z i)/\st.t 4=.pv (Z i)/\st.t 41=.pv (.sl r0)/\st.t 42=.pv (Z n)/\st.t 43=.pv (Z v)/\st.t 5=.pv (Z v)/\st.t 54=.pv (zs (p.map λu=>((u:Nat):Int)))/\st.t 55=.pv (Z p.length)/\st.t 56=.pv (Z k)/\st.h 12=some (.box J true false)/\st.h 36=some (.row 4 1 (bl n (fT (f i) lg (ps i) p v k)) 0)) (by simp[A,g1,b1,g3,c,d,g4,m,q,r,a,b]) ?_;clear g1 b1 g3 c d g4 m q r a b;rintro k st hk ⟨g1,b1,g3,c,d,g4,m,q,r,g5,Q,R,S,a,b⟩;by_cases D:k<p.length
    .have a7:=ae D (by omega)
     have I:=cm k D;have y:=λx=>OY (f i) lg (ps i) (v:=v) x D;have a6:p[k]?=some p[k]:=an D;generalize hu:p[k]=u at *;have b3:=hg i v u V F I;have H:=Bz (fT (f i) lg (ps i) p v k) I;have z:∀h,(bl n (fT (f i) lg (ps i) p v k))[u]'h=B (fT (f i) lg (ps i) p v k u):=λh=>(th.1 H).2
     cases hc:fT (f i) lg (ps i) p v k u with
     |true=>
      rw[hc]at H z
      have G:bl n (fT (f i) lg (ps i) p v (k+1))=bl n (fT (f i) lg (ps i) p v k):=lp λx _=>by
       rw[y];by_cases e:u=x
       .subst e;rw[hc];rfl
       .simp[e]
      rw[G];generalize P:bl n (fT (f i) lg (ps i) p v k)=r1 at *
      have E:r1.length=n:=by rw[<-P,oN]
      exact GS (zAc g1 b1 g3 c d g4 m q r g5 Q R S a (zAc b D a7 X a6 hu I aj dj ah N U E H (gA z A)))
     |false=>
      rw[hc]at H z
      cases hp:ps i v u with
      |true=>
       rw[hp]at b3;have b5:(bl n (fT (f i) lg (ps i) p v k)).set u (B true)=bl n (fT (f i) lg (ps i) p v (k+1)):=BA I (by rw[y,hp];simp) (λx _ Y=>by rw[y];simp[show¬u=x from λe=>Y e.symm]);generalize ct:bl n (fT (f i) lg (ps i) p v (k+1))=r2 at *;generalize P:bl n (fT (f i) lg (ps i) p v k)=r1 at *
       have E:r1.length=n:=by rw[<-P,oN]
       exact GS (zAc g1 b1 g3 c d g4 m q r g5 Q R S a (zAc b D a7 X a6 hu I aj dj ah N U E H (be z A b5)))
      |false=>
       rw[hp]at b3
       have G:bl n (fT (f i) lg (ps i) p v (k+1))=bl n (fT (f i) lg (ps i) p v k):=lp λx _=>by
        rw[y];by_cases e:u=x
        .subst e;rw[hp];simp
        .simp[e]
       rw[G];generalize P:bl n (fT (f i) lg (ps i) p v k)=r1 at *
       have E:r1.length=n:=by rw[<-P,oN]
       exact GS (zAc g1 b1 g3 c d g4 m q r g5 Q R S a (zAc b D a7 X a6 hu I aj dj ah N U E H (gA z A)))
    .have cg:k=p.length:=by omega
     subst cg;exact GS (zAc g1 b1 g3 c d g4 m q r g5 Q R S a (go b D a8 A))
  .have cn:v=n:=by omega
   subst cn;rw[lp (g:=f j) (λx _=>by rw[<-hj,ca])]at b;refine WP.freezeB 12 j (k:=36) (xs:=bl v (f j)) (cs:=J) (e:=4) (sz:=1) (fz:=0) (own:=true) (fb:=false) a (by rw[dj,oN]) b ?_
   have bq:J.set j (.pv (.sl (bl v (f j))))=lS v f (j+1) M:=by rw[L,s];exact FZ _
   rw[bq,hj];exact GS (zAb g1 b1 g3 c d g4 m q r F cp (gA hj @Ao))
 .have cc:i=T:=by omega
  subst cc;rw[<-hM]at a;obtain⟨cs,s⟩:∃cs,cs=lS n f M M:=⟨_,rfl⟩
  have hW:eh st.h cs=some ((List.range M).map λi=>.sl (bl n (f i)),[]):=by rw[s,OZ];exact Ap _ _ _
  have K:cs.length=M:=by rw[s,CM]
  obtain⟨qs,ar⟩:∃qs,qs=(List.range M).map λi=>PV.sl (bl n (f i)):=⟨_,rfl⟩
  have ad:qs.all jp=true:=by rw[ar,L4];intro x Y;obtain⟨v,_,rfl⟩:=Zg.1 Y;rfl
  rw[<-ar]at hW;rw[<-s]at a;rw[show BB n f M=.sl qs from by rw[ar]];have ak:=L4.1 ad;refine GT (zAa g1 b1 g3 c d a V hW K ad) ?_
  all_goals exact ak
theorem WP.forget(ks:List Nat)(h:WP C c Q (st.kill ks)):WP C c Q st:=λa w b=>h a w (b.kill ks)
def jY(n:Nat)(f:Nat->Nat->Bool)(i N:Nat):List AV:=(List.range N).map λw=>if i<=w then .pv (.sl (bl n (f w)))else gh
@[simp] theorem yU(n:Nat)(f:Nat->Nat->Bool)(i N:Nat):(jY n f i N).length=N:=by simp[jY]
theorem Mz(n:Nat)(f:Nat->Nat->Bool)(N:Nat):List.replicate N gh=jY n f N N:=by
 unfold jY;apply Zx;intro w;by_cases a:w<N<;>simp[a,show¬N<=w↔w<N by omega]
theorem HS(x:AV):((jY n f (i+1) N).set i x).set i (.pv (.sl (bl n (f i))))=jY n f i N:=by
 rw[List.set_set];apply Zx;intro w;rw[Y1];simp only[yU];by_cases a:w<N
 .by_cases e:i=w
  .subst e;simp[jY,a]
  .simp[jY,a,e,show(i+1<=w↔i<=w) by omega]
 .by_cases e:i=w
  .subst e;simp[jY,a]
  .simp[jY,a,e]
theorem pN(ks:List Nat)(n:Nat)(f:Nat->Nat->Bool)(i N:Nat):(jY n f i N).map (dL ks)=jY n f i N:=by
 unfold jY;rw[List.map_map];refine List.map_congr_left λw _=>?_;simp only[Function.comp];split<;>simp[o7,fA]
theorem MA(n:Nat)(f:Nat->Nat->Bool)(N:Nat):jY n f 0 N=((List.range N).map λi=>AV.pv (.sl (bl n (f i)))):=by
 unfold jY;exact List.map_congr_left λw _=>YY (ZG _)
def DB(n:Nat)(f:Nat->Nat->Bool)(i:Nat)(r:List PV)(w:Nat):List PV:=if w=i then r else if i<=w then bl n (f w)else[]
theorem Rq{q:Nat->List PV}{w:Nat}(a:w<N):((List.range N).map λw=>PV.sl (q w))[w]?=some (.sl (q w)):=by simp[a]
theorem DC{h:Hp}{f:Nat->AV}{g:Nat->PV}{i:Nat}{p:Nat×Blk}(hi:iX h (f i)=some (g i,[p]))(a:∀v,v≠i->iX h (f v)=some (g v,[])):∀(l:List Nat),l.Nodup->eh h (l.map f)=some (l.map g,if i∈l then[p]else[])
 |[],_=>rfl
 |v::l,hn=>by
  rw[yA3]at hn;have ih:=DC hi a l hn.2;by_cases e:v=i
  .subst e
   rw[YR hn.1]at ih;simp only[Z0,eh,hi,ih];simp
  .simp only[Z0,eh,a v e,ih,List.nil_append,Zi]
   simp[show¬i=v from λb=>e b.symm]
theorem BC(n:Nat)(f:Nat->Nat->Bool)(i N k:Nat):(jY n f (i+1) N).set i (.arr k n)=(List.range N).map λw=>if w=i then .arr k n else if i<=w then .pv (.sl (bl n (f w)))else gh:=by
 apply Zx;intro w;rw[Y1];simp only[yU];by_cases a:w<N
 .by_cases e:i=w
  .subst e;simp[a]
  .simp[jY,a,e,show¬w=i from λb=>e b.symm,show(i+1<=w↔i<=w) by omega]
 .by_cases e:i=w
  .subst e;simp[a]
  .simp[jY,a,e]
theorem O0{r:List PV}{a sz fz:Nat}(c:r.length=n)(b:h k=some (.row a sz r fz))(hi:i<N):eh h ((jY n f (i+1) N).set i (.arr k n))=some ((List.range N).map λw=>.sl (DB n f i r w),[(k,.row a sz r r.length)]):=by
 rw[BC,DC (g:=λw=>.sl (DB n f i r w)) (i:=i) (p:=(k,.row a sz r r.length)) ?_ ?_ _ List.nodup_range,YY (Zw.2 hi)]
 .simp[iX,b,c,DB]
 .intro v d
  simp only[YR d,DB];split<;>rfl
theorem MB(hi:i<N):((jY n f (i+1) N).set i (.arr k n)).flatMap mJ=[k]:=by
 have key:∀l:List Nat,l.Nodup->(l.map λw=>if w=i then AV.arr k n else if i<=w then .pv (.sl (bl n (f w)))else gh).flatMap mJ=if i∈l then[k]else[]:=by
  intro l
  induction l with
  |nil=>intro _;rfl
  |cons v l ih=>
   intro hn;rw[yA3]at hn;rw[Z0,List.flatMap_cons,ih hn.2];by_cases e:v=i
   .subst e;simp[hn.1,mJ]
   .rw[YR e]
    have:mJ (if i<=v then AV.pv (.sl (bl n (f v)))else gh)=[]:=by split<;>rfl
    rw[this,List.nil_append];simp[show¬i=v from λa=>e a.symm]
 rw[BC,key _ List.nodup_range,YY (Zw.2 hi)]
theorem XN(n:Nat)(lg:Nat->Nat->Bool)(ps:Nat->Nat->Nat->Bool)(ns:List PV)(start:Int)(goal A:Nat)(T:Int)(g:FuncId)(x:PV)(hn:ns.length=n)(ck:∀v,v<n->ns[v]?=some (zs ((gn lg n v).map λu=>((u:Nat):Int))))(cB:n<=1024)(hA:A<=64)(hs:goal<n)(hg:∀i v u,i<A->v<n->u<n->aS prog g [.pv (Z i),.pv (Z v),.pv (Z u),.pv (.rptr x 0)] [] [] (.pv (B (ps i v u)))):aH 76 (FY (.sl ns) start goal T g x) (Z A) (BB n (λi=>my n lg ps goal A (A-i)) (A+1)):=by
 obtain⟨M,hM⟩:∃M,M=A+1:=⟨_,rfl⟩;obtain⟨f,hf⟩:∃f,f=λi=>my n lg ps goal A (A-i):=⟨_,rfl⟩;rw[<-hM,<-hf]
 have X:∀v,f A v=(v==goal):=λv=>by rw[hf];simp only[yAD];rfl
 have cg:∀i v,i<A->f i v=(List.range n).any λu=>lg v u&&(f (i+1) u&&ps i v u):=λi v hi=>by
  rw[hf];simp only;obtain⟨d,hd⟩:∃d,A-i=d+1:=⟨A-i-1,by omega⟩;rw[hd,show A-(i+1)=d from by omega];show((List.range n).any λu=>lg v u&&(my n lg ps goal A d u&&ps (A-(d+1)) v u))=_;rw[show A-(d+1)=i from by omega]
 have w0:i64.wrap ((A:Int)+1)=(M:Int):=by rw[IntKind.wrap_i64];omega
 have w1:i64.wrap ((A:Int)-1)=(A:Int)-1:=aa
 have b9:0<M:=by omega
 have R:A<M:=by omega
 have S:A+1<=M:=by omega
 have b8:(A:Int)<(M:Int):=by omega
 obtain⟨rs,N⟩:∃rs,rs=List.replicate M gh:=⟨_,rfl⟩
 have L:rs.length=M:=by rw[N,List.length_replicate]
 obtain⟨I,D⟩:∃I,I=rs.set A (.arr 17 n):=⟨_,rfl⟩
 have cm:I.length=M:=by rw[D,yAe,L]
 have qa:I[A]?=some (.arr 17 n):=by rw[D];simp[L,R]
 have cv:∀h,I[A]'h=.arr 17 n:=λh=>(th.1 qa).2
 have bq:rs.take A++AV.arr 17 n::rs.drop (A+1)=I:=by rw[D];exact ir (by omega)
 refine Dp func76 λC hP hN=>?_
 with_reducible repeat' (first|refine Sp.h ?_|((first|refine Wh [1000011,17] ?_|refine Wi [1000011,17] ?_|refine Ss.h ?_|(refine Sb.h ?_ ?_ ?_<;>(try intro hgd)<;>try exact Xy))<;>simp -implicitDefEqProofs (maxSteps:=2000000) [hP,hN,hn,w0,w1,b9,hs,R,S,b8,<-N,L,bq,cm,qa,cv,show(M:Int)*24<=281474976710656 by omega,show 24*(M:Int)<=281474976710656 by omega,show(M:Int)<=9223372036854775807 by omega,show(n:Int)<=281474976710656 by omega,show(n:Int)<=9223372036854775807 by omega]<;>try refine Ya ?_)|refine X2 ?_ ?_|(refine Xd ?_ ?_<;>intro hcd<;>try exact Xx))
 have cn:(List.replicate n (B false)).set goal (B true)=bl n (f A):=by
  rw[yT];exact BA hs (by simp[X]) (λv _ hv=>by rw[X];simpa using hv)
 have cb:I.set A (.pv (.sl (bl n (f A))))=jY n f A M:=by
  rw[D,N,Mz n f,hM];exact HS _
 refine WP.freezeB 11 A (k:=17) (xs:=bl n (f A)) (cs:=I) (e:=4) (sz:=1) (fz:=0) (own:=true) (fb:=false) (by simp) (by simp[qa]) (by simp[cn]) ?_;rw[cb];refine WP.loopN [37,7] A (λc st=>st.t 2=.ptr 2 0/\st.h 2=some (.box [.pv (.sl ns),.pv (Z start),.pv (Z goal),.pv (Z T),.pv (.fn (.func g) [] [.rptr x 0])] true false)/\st.t 5=.ptr 5 0/\st.h 5=some (.box [.ext (.barr 11 M M)] true false)/\st.t 6=.ptr 6 0/\st.h 6=some (.box [.pv (Z ((A:Int)-1-c))] true false)/\st.h 11=some (.box (jY n f (A-c) M) true false)/\st.h 37=none/\st.h 7=none) (by simp[pN]) ?_;rintro c st hi ⟨g2,E,g5,F,G,b6,b,o,b7⟩;by_cases ar:c<A
 .obtain⟨i,cz⟩:∃i,i=A-1-c:=⟨_,rfl⟩
  obtain⟨j,hj⟩:∃j,i+1=j:=⟨_,rfl⟩;obtain⟨cs,a⟩:∃cs,cs=jY n f j M:=⟨_,rfl⟩;rw[show(A:Int)-1-c=(i:Int) by omega]at b6;rw[show A-c=j by omega,<-a]at b
  have q:cs.length=M:=by rw[a,yU]
  have ad:i<A:=by omega
  have s:i<M:=by omega
  have ah:i+1<=M:=by omega
  have aj:(i:Int)<(M:Int):=by omega
  have cj:¬(i:Int)<0:=by omega
  have Y:0<=(i:Int):=by omega
  have cr:i64.wrap ((i:Int)-1)=(i:Int)-1:=aa
  have H:(A:Int)-1-((c:Int)+1)=(i:Int)-1:=by omega
  have K:A-(c+1)=i:=by omega
  have a8:cs.take i++AV.arr 37 n::cs.drop (i+1)=cs.set i (.arr 37 n):=ir (by omega);obtain⟨m,l⟩:∃m,m=cs.set i (.arr 37 n):=⟨_,rfl⟩;rw[<-l]at a8
  have cf:m.length=M:=by rw[l,yAe,q]
  have di:m[i]?=some (.arr 37 n):=by rw[l];simp[q,s]
  have b3:∀h,m[i]'h=.arr 37 n:=λh=>(th.1 di).2
  have U:m.map (dL [7])=m:=by rw[l,yAl,a,pN];rfl
  have cx:∀z,(m.set i (.pv (.sl z))).map (dL [6])=m.set i (.pv (.sl z)):=by intro z;rw[l,List.set_set,yAl,a,pN];rfl
  have ch:∀(h:Hp) r,r.length=n->h 37=some (.row 4 1 r 0)->eh h m=some ((List.range M).map λw=>.sl (DB n f i r w),[(37,.row 4 1 r r.length)]):=λh r h1 h2=>by rw[l,a,<-hj];exact O0 h1 h2 s
  have cp:m.flatMap mJ=[37]:=by rw[l,a,<-hj];exact MB s
  refine kp [37] (zAc hn g2 E g5 F G b6 b o b7 ar q s ah (s6 aj cj Y a8 H (show(n:Int)<=281474976710656 by omega) (show(n:Int)<=9223372036854775807 by omega))) ?_;refine WP.loopN [7] n (λv st=>st.t 2=.ptr 2 0/\st.h 2=some (.box [.pv (.sl ns),.pv (Z start),.pv (Z goal),.pv (Z T),.pv (.fn (.func g) [] [.rptr x 0])] true false)/\st.t 5=.ptr 5 0/\st.h 5=some (.box [.ext (.barr 11 M M)] true false)/\st.t 6=.ptr 6 0/\st.h 6=some (.box [.pv (Z i)] true false)/\st.t 40=.pv (.sl ns)/\st.t 41=.pv (Z n)/\st.t 42=.pv (Z v)/\st.h 11=some (.box m true false)/\st.h 37=some (.row 4 1 (bl n λx=>decide (x<v)&&f i x) 0)/\st.h 7=none) (by simp[U,g2,E,g5,F,G,b6,yT]) ?_;clear g2 E g5 F G b6 b o b7;rintro v st hv ⟨g2,E,g5,F,G,b6,b4,P,Q,b,o,b7⟩;by_cases p:v<n
  .have ct:=ae p (by omega)
   have O:=ck v p;have cM:=(th.1 O).1;have cu:=(th.1 O).2;have cD:=CK lg n v;have y:(bl n λx=>decide (x<v)&&f i x).length=n:=oN _ _;have hW:=λ(h:Hp)=>ch h _ y
   have ca:((List.range M).map λw=>PV.sl (DB n f i (bl n λx=>decide (x<v)&&f i x) w))[j]?=some (.sl (bl n (f j))):=by rw[Rq (by omega),DB,YR (by omega),YY (by omega)]
   have a7:(bl n λx=>decide (x<v)&&f i x).set v (B (f i v))=bl n λx=>decide (x<v+1)&&f i x:=BA p (by simp) (λx _ O=>by simp[show(x<v+1↔x<v) by omega]);generalize bl n (λx=>decide (x<v)&&f i x)=r1 at *;generalize bl n (λx=>decide (x<v+1)&&f i x)=r2 at *;generalize DB n f i r1=rows at *
   have a6:((gn lg n v).map λu=>((u:Nat):Int)).any (λu=>f j u.toNat&&ps i v u.toNat)=f i v:=by
    rw[cg i v ad,hj,List.any_map,gn,List.any_filter];rfl
   have cc:=Wt (λu=>f j u.toNat&&ps i v u.toNat) ((gn lg n v).map λu=>((u:Nat):Int)) 127 (.sl ((List.range M).map λw=>.sl (rows w))) (Z i) (FY (.sl ns) start goal T g x) (Z v) (by simp;omega) (λu hu=>by
    obtain⟨k,hk,rfl⟩:=Zg.1 hu;have ak:k<n:=Zw.1 (ZV.1 hk).1;simp only[Y9]
    exact Wu ((List.range M).map λw=>.sl (rows w)) (bl n (f j)) i v k (.sl ns) start goal T g x (f j k) (ps i v k) (by omega) (by rw[hj];exact ca) (by omega) (by rw[Y9];exact Bz _ ak) (λ_=>hg i v k ad p ak))
   rw[a6]at cc;generalize(gn lg n v).map (λu=>((u:Nat):Int))=tv at *;exact GS (zAc hn g2 E g5 F G b6 b4 P Q b o b7 p (zAb ct O cu s aj cf di b3 cp hW y (gA a7 U)))
  .have cq:v=n:=by omega
   subst cq;rw[lp (g:=f i) (λx O=>by simp[O])]at o;refine WP.freezeB 11 i (k:=37) (xs:=bl v (f i)) (cs:=m) (e:=4) (sz:=1) (fz:=0) (own:=true) (fb:=false) b (by rw[di,oN]) o ?_
   have V:m.set i (.pv (.sl (bl v (f i))))=jY v f i M:=by rw[l,a,<-hj];exact HS _
   rw[V];obtain⟨es,J⟩:∃es,es=jY v f i M:=⟨_,rfl⟩
   have W:∀ks,es.map (dL ks)=es:=λks=>by rw[J];exact pN _ _ _ _ _
   rw[<-J]
   with_reducible iterate 8 any_goals (first|refine Sp.h ?_|((first|refine Wd ?_|refine Ss.h ?_|(refine Sb.h ?_ ?_ ?_<;>(try intro hgd)<;>try exact Xy))<;>simp -implicitDefEqProofs (maxSteps:=2000000) [hP,hN,g2,E,g5,F,G,b6,P,Q,p]<;>try refine Ya ?_)|refine X2 ?_ ?_|(refine Xd ?_ ?_<;>intro hcd<;>try exact Xx))
   refine WP.forget [6] ?_;refine GT (zAa g2 E g5 F G b6 cr H K (gA W J)) ?_;rw[<-List.map_map,pN,pN]
 .have cd:c=A:=by omega
  subst cd;rw[yAD]at b;obtain⟨cs,a⟩:∃cs,cs=jY n f 0 M:=⟨_,rfl⟩
  have hW:eh st.h cs=some ((List.range M).map λi=>.sl (bl n (f i)),[]):=by rw[a,MA];exact Ap _ _ _
  have q:cs.length=M:=by rw[a,yU]
  rw[<-a]at b;exact GS (zAb g2 E g5 F G b6 b ar hW q (show(c:Int)-1-c<0 by omega) (show¬0<=(c:Int)-1-c by omega))
theorem WP.cut{id:Nat}(P:St->Prop)(h1:WP C c (nQ id λe st=>e=.normal/\P st) st)(h2:∀st,P st->Q .normal st):WP C c (nQ id Q) st:=by
 refine h1.mono λe st h=>?_
 cases e with
 |normal=>exact h2 st h.2
 |exit i=>
  simp only[nQ]at h|-;split at h
  .rename_i e;rw[YY e];exact h2 st h.2
  .cases h.1
 |goto l=>cases h.1
 |ret=>cases h.1
 |panic a=>cases h.1
 |outgrown=>cases h.1
theorem KL{α:Type}(p:α->Bool):∀xs:List α,xs[xs.findIdx p]?=xs.find? p
 |[]=>rfl
 |a::l=>by
  rw[List.findIdx_cons,List.find?_cons]
  cases h:p a with
  |true=>simp
  |false=>simpa using KL p l
def yV(n:Nat)(lg:Nat->Nat->Bool)(ps:Nat->Nat->Nat->Bool)(start goal T:Nat):Option (List Int):=(fq n lg ps start goal T).map λA=>(List.range (T+1)).map λi=>((fX n lg ps start goal A i:Nat):Int)
theorem Rt{start goal A:Nat}(hs:start<n)(b:fq n lg ps start goal T=some A)(c:goal<n)(hi:i<A):
 ∃k:Nat,oQ (λu:Int=>my n lg ps goal A (A-(i+1)) u.toNat&&ps i (fX n lg ps start goal A i) u.toNat) ((gn lg n (fX n lg ps start goal A i)).map λu=>((u:Nat):Int))=k/\(gn lg n (fX n lg ps start goal A i))[k]?=some (fX n lg ps start goal A (i+1)):=by
 obtain⟨h1,h2,h3⟩:=pO hs b c (i+1) (by omega);have h4:=h3 i (by omega)
 have hb:my n lg ps goal A (A-(i+1)) (fX n lg ps start goal A (i+1))=true:=by rw[xP (by omega)];rwa [show A-(A-(i+1))=i+1 from by omega]
 have e:fX n lg ps start goal A (i+1)=((List.range n).find? λu=>lg (fX n lg ps start goal A i) u&&(my n lg ps goal A (A-(i+1)) u&&ps i (fX n lg ps start goal A i) u)).getD 0:=by rw[fX,YY hi]
 generalize fX n lg ps start goal A (i+1)=y at *;generalize fX n lg ps start goal A i=v at *;obtain⟨x,a,d,f⟩:=BG (p:=λu=>lg v u&&(my n lg ps goal A (A-(i+1)) u&&ps i v u)) h1 (by simp[h4.1,h4.2,hb]);rw[a,Y8]at e;subst e;refine⟨(gn lg n v).findIdx λu=>my n lg ps goal A (A-(i+1)) u&&ps i v u,?_,?_⟩
 .rw[oQ,YY]
  .congr 1
   rw[List.findIdx_map];rfl
  .rw[yAF]
   refine⟨(y:Int),Zg.2 ⟨y,?_,rfl⟩,?_⟩
   .simp only[gn,ZV,Zw];exact⟨h1,h4.1⟩
   .simp[hb,h4.2]
 .rw[KL,gn,List.find?_filter,<-a];exact Jm λu _=>by rw[Bool.eq_iff_iff];simp
def jZ(n:Nat)(lg:Nat->Nat->Bool)(ps:Nat->Nat->Nat->Bool)(start goal A N:Nat):List Int:=(List.range N).map λi=>((fX n lg ps start goal A i:Nat):Int)
theorem Aq(n:Nat)(lg:Nat->Nat->Bool)(ps:Nat->Nat->Nat->Bool)(start goal A N:Nat):jZ n lg ps start goal A (N+1)=jZ n lg ps start goal A N++[((fX n lg ps start goal A N:Nat):Int)]:=by simp[jZ,yAd]
theorem HT(n:Nat)(lg:Nat->Nat->Bool)(ps:Nat->Nat->Nat->Bool)(start goal A N:Nat):(jZ n lg ps start goal A N).length=N:=by simp[jZ]
theorem Ru{start goal A:Nat}(h:i<N):(jZ n lg ps start goal A N)[i]?=some ((fX n lg ps start goal A i:Nat):Int):=by simp[jZ,h]
theorem XR(n:Nat)(lg:Nat->Nat->Bool)(ps:Nat->Nat->Nat->Bool)(ns:List PV)(start goal T:Nat)(g:FuncId)(x:PV)(hn:ns.length=n)(ad:∀v,v<n->ns[v]?=some (zs ((gn lg n v).map λu=>((u:Nat):Int))))(ca:n<=1024)(hT:T<=64)(hs:start<n)(z:goal<n)(hg:∀i v u,i<T->v<n->u<n->aS prog g [.pv (Z i),.pv (Z v),.pv (Z u),.pv (.rptr x 0)] [] [] (.pv (B (ps i v u)))):aT 37 (FY (.sl ns) start goal T g x) (.tup (match yV n lg ps start goal T with|some l=>[zs l,B true]|none=>[.sl [],B false])):=by
 have cr:=XM n lg ps ns start goal T g x hn ad ca hT hs hg;obtain⟨S,hS⟩:∃S,S=du ps goal T:=⟨_,rfl⟩
 have cN:S<=T:=by rw[hS];exact vT _ _ _
 obtain⟨f,hf⟩:∃f,f=wu n lg ps start:=⟨_,rfl⟩
 have b3:fq n lg ps start goal T=lq (λa=>f a goal) S (T+1-S):=by rw[fq,hS,hf]
 rw[<-hf]at cr;obtain⟨R,Q⟩:∃R,fq n lg ps start goal T=R:=⟨_,rfl⟩;rw[Q]at b3;obtain⟨rs,aj⟩:∃rs,rs=(List.range (T+1)).map λi=>PV.sl (bl n (f i)):=⟨_,rfl⟩;rw[show BB n f (T+1)=.sl rs by rw[aj]]at cr
 have cB:∀a,a<=T->rs[a]?=some (.sl (bl n (f a))):=λa ha=>by rw[aj];simp[show a<T+1 by omega]
 clear aj;refine Dp func37 λC hP hN=>?_;refine Gz ?_;refine WP.cut (λst=>st.t 1=.ptr 1 0/\st.h 1=some (.box [.pv (.sl ns),.pv (Z start),.pv (Z goal),.pv (Z T),.pv (.fn (.func g) [] [.rptr x 0])] true false)/\st.t 4=.pv (Z S)/\st.h 7=none/\st.h 9=none/\st.h 10=none/\st.h 58=none) ?_ ?_
 .refine WP.loop [] (λst=>∃s:Nat,st.t 1=.ptr 1 0/\st.h 1=some (.box [.pv (.sl ns),.pv (Z start),.pv (Z goal),.pv (Z T),.pv (.fn (.func g) [] [.rptr x 0])] true false)/\st.t 4=.pv (Z s)/\s<=T/\du ps goal s=S/\st.h 7=none/\st.h 9=none/\st.h 10=none/\st.h 58=none) (λst=>match st.t 4 with|.pv (.val (.int _ a))=>a.toNat|_=>0) (by exact⟨T,by simp[hS]⟩) ?_
  rintro st ⟨s,g1,b1,g4,cP,ak,o,e,d,b⟩
  cases s with
  |zero=>
   have:(0:Nat)=S:=ak;subst this;exact GS (s6 g1 b1 g4 o e d b)
  |succ s=>
   have b4:=hg s goal goal (by omega) z z
   have ar:i64.wrap (((s+1:Nat):Int)-1)=(s:Int):=by rw[IntKind.wrap_i64];omega
   obtain⟨j,hj⟩:∃j,s+1=j:=⟨_,rfl⟩
   have b5:0<(j:Int):=by omega
   have b8:0<j:=by omega
   rw[hj]at g4 ar
   cases hp:ps s goal goal with
   |true=>
    rw[hp]at b4
    have D:du ps goal s=S:=by rw[<-ak,du,YY hp]
    refine GT (zAa g1 b1 g4 o e d b ar b5 b8) ?_
    all_goals exact⟨⟨s,rfl,by omega,D⟩,by omega⟩
   |false=>
    rw[hp]at b4
    have D:j=S:=by rw[<-ak,du,YR (by rw[hp];decide),hj]
    subst D;exact GS (zAa g1 b1 g4 o e d b ar b5 b8)
 .rintro st ⟨g1,b1,g4,o,e,d,b⟩
  show WP C _ _ st;refine GT (s6 g1 b1 g4 o e d b) ?_;refine WP.cut (λst=>∃a:Nat,st.t 1=.ptr 1 0/\st.h 1=some (.box [.pv (.sl ns),.pv (Z start),.pv (Z goal),.pv (Z T),.pv (.fn (.func g) [] [.rptr x 0])] true false)/\st.t 6=.pv (Z a)/\st.h 7=none/\st.h 9=none/\st.h 10=none/\st.h 58=none/\((a=T+1/\R=none)\/(a<=T/\R=some a))) ?_ ?_
  .refine WP.loopN [] (T+1-S) (λc st=>st.t 1=.ptr 1 0/\st.h 1=some (.box [.pv (.sl ns),.pv (Z start),.pv (Z goal),.pv (Z T),.pv (.fn (.func g) [] [.rptr x 0])] true false)/\st.t 5=.pv (.sl rs)/\st.t 6=.pv (Z (S+c:Nat))/\st.h 7=none/\st.h 9=none/\st.h 10=none/\st.h 58=none/\lq (λa=>f a goal) (S+c) (T+1-(S+c))=R) (by simp[g1,b1,o,e,d,b,b3]) ?_
   clear g1 b1 g4 o e d b;rintro c st hc ⟨g1,b1,g5,J,o,e,d,b,r⟩;obtain⟨a,ha⟩:∃a,a=S+c:=⟨_,rfl⟩
   have cf:S+(c+1)=a+1:=by omega
   rw[cf];rw[<-ha]at J r;by_cases A:a<=T
   .have M:=cB a A
    have a6:=(th.1 M).1;have H:=(th.1 M).2;have hy:=Bz (f a) z
    have cc:goal<(bl n (f a)).length:=by rw[oN];exact z
    have I:∀h,(bl n (f a))[goal]'h=B (f a goal):=λh=>(th.1 hy).2
    have p:(a:Int)<=(T:Int):=by omega
    have cD:i64.wrap ((a:Int)+1)=(a:Int)+1:=aa
    have ck:c<T+1-S:=by omega
    rw[show T+1-a=(T+1-(a+1))+1 by omega,lq]at r;generalize bl n (f a)=ra at *
    cases hb:f a goal with
    |true=>
     rw[hb]at hy I;simp only[hb,Za]at r;refine GT (zAc g1 b1 g5 J o e d b A p M H a6 hy (gA cc I)) ?_;exact⟨a,rfl,.inr ⟨A,r.symm⟩⟩
    |false=>
     rw[hb]at hy I;simp only[hb,YU,Y5]at r;refine GT (zAc g1 b1 g5 J o e d b A p M H a6 hy (be cc I cD)) ?_;exact⟨ck,by rw[show T-a=T+1-(a+1) by omega];exact r⟩
   .have b2:a=T+1:=by omega
    rw[show T+1-a=0 by omega,lq]at r
    have p:¬(a:Int)<=(T:Int):=by omega
    refine GT (zAa g1 b1 g5 J o e d b A p) ?_;exact⟨a,rfl,.inl ⟨b2,r.symm⟩⟩
  clear g1 b1 g4 o e d b st;rintro st ⟨a,g1,b1,J,o,e,d,b,hR⟩;show WP C _ _ st;rcases hR with⟨ha,hR⟩|⟨ha,hR⟩
  .have p:(T:Int)<(a:Int):=by omega
   have cg:yV n lg ps start goal T=none:=by rw[yV,Q,hR];rfl
   rw[cg];exact GS (go g1 b1 J p)
  .have p:¬(T:Int)<(a:Int):=by omega
   have F:fq n lg ps start goal T=some a:=by rw[Q,hR]
   have cj:yV n lg ps start goal T=some (jZ n lg ps start goal a (T+1)):=by rw[yV,F];rfl
   rw[cj];have ch:=XN n lg ps ns start goal a T g x hn ad ca (by omega) z (λi v u hi=>hg i v u (by omega));obtain⟨qs,ah⟩:∃qs,qs=(List.range (a+1)).map λi=>PV.sl (bl n (my n lg ps goal a (a-i))):=⟨_,rfl⟩;rw[show BB n (λi=>my n lg ps goal a (a-i)) (a+1)=.sl qs by rw[ah]]at ch
   have cz:∀j,j<=a->qs[j]?=some (.sl (bl n (my n lg ps goal a (a-j)))):=λj hj=>by rw[ah];simp[show j<a+1 by omega]
   clear ah;refine kp [58] (s7 g1 b1 J o e d b p) ?_
   have a7:[PV.val (.int .i64 (start:Int))]=(jZ n lg ps start goal a (0+1)).map Z:=by simp[Aq,jZ,fX]
   rw[a7];refine WP.loopN [9,10] a (λi st=>st.t 1=.ptr 1 0/\st.h 1=some (.box [.pv (.sl ns),.pv (Z start),.pv (Z goal),.pv (Z T),.pv (.fn (.func g) [] [.rptr x 0])] true false)/\st.t 7=.ptr 7 0/\st.h 7=some (.box [.pv (.sl qs)] true false)/\st.t 8=.arr 58 (i+1)/\st.h 58=some (.row 3 1 ((jZ n lg ps start goal a (i+1)).map Z) 0)/\st.t 59=.pv (Z a)/\st.t 60=.pv (Z i)/\st.h 9=none/\st.h 10=none) (by simp[g1,b1,e,d]) ?_;clear g1 b1 J o e d b a7 st;rintro i st hi ⟨g1,b1,g7,o,E,b,N,O,e,d⟩;by_cases W:i<a
   .obtain⟨k,cq,ct⟩:=Rt (ps:=ps) (lg:=lg) hs F z W
    have U:=(pO hs F z i (by omega)).1;have G:=HT n lg ps start goal a (i+1)
    have a8:((jZ n lg ps start goal a (i+1)).map Z)[i]?=some (Z (fX n lg ps start goal a i)):=by rw[YS,Ru (by omega)];rfl
    have P:=Aq n lg ps start goal a (i+1);generalize fX n lg ps start goal a (i+1)=y at *;generalize fX n lg ps start goal a i=v at *;have M:=ad v U;have a6:=(th.1 M).1;have H:=(th.1 M).2;have cQ:=CK lg n v;have hq:=cz (i+1) (by omega)
    have ci:=Tj (λu=>my n lg ps goal a (a-(i+1)) u.toNat&&ps i v u.toNat) ((gn lg n v).map λu=>((u:Nat):Int)) 78 (.sl qs) (Z i) (FY (.sl ns) start goal T g x) (Z v) (by simp;omega) (λu hu=>by
     obtain⟨q,cx,rfl⟩:=Zg.1 hu;have cb:q<n:=Zw.1 (ZV.1 cx).1;simp only[Y9]
     exact XL qs (bl n (my n lg ps goal a (a-(i+1)))) i v q (.sl ns) start goal T g x (my n lg ps goal a (a-(i+1)) q) (ps i v q) (by omega) hq (by omega) (by rw[Y9];exact Bz _ cb) (λ_=>hg i v q (by omega) U cb))
    rw[cq]at ci
    have V:((gn lg n v).map λu=>((u:Nat):Int))[k]?=some (y:Int):=by rw[YS,ct];rfl
    generalize(gn lg n v).map (λu=>((u:Nat):Int))=tv at *;have cv:=(th.1 V).1;have cu:=(th.1 V).2;obtain⟨j,hj⟩:∃j,i+1=j:=⟨_,rfl⟩
    have K:((jZ n lg ps start goal a (i+1)).map Z).length=i+1:=by rw[Zm,G]
    have bq:((jZ n lg ps start goal a (i+1+1)).map Z)=((jZ n lg ps start goal a (i+1)).map Z)++[Z y]:=by rw[P,yAH];rfl
    generalize(jZ n lg ps start goal a (i+1+1)).map Z=L2 at *;generalize(jZ n lg ps start goal a (i+1)).map Z=L at *;rw[hj]at E K|-;have cd:=(th.1 a8).2
    have cp:i<j:=by omega
    have cM:i64.wrap ((i:Int)+1)=(j:Int):=by rw[IntKind.wrap_i64];omega
    have cO:(j:Int)=(i:Int)+1:=by omega
    refine GT (zAc hn g1 b1 g7 o E b N O e d W K a8 (zAb cd cp U M H V cv cu cM (show(j+1)*8<=140737488355328 by omega) (show j<=9223372036854775806 by omega) (show j+1<=9223372036854775807 by omega))) ?_;exact bq.symm
   .have cn:i=a:=by omega
    subst cn;refine GT (zAb hn g1 b1 g7 o E b N O e d W) ?_;refine WP.loopN [] (T-i) (λc st=>st.t 1=.ptr 1 0/\st.h 1=some (.box [.pv (.sl ns),.pv (Z start),.pv (Z goal),.pv (Z T),.pv (.fn (.func g) [] [.rptr x 0])] true false)/\st.t 8=.arr 58 (i+c+1)/\st.h 58=some (.row 3 1 ((jZ n lg ps start goal i (i+c+1)).map Z) 0)) (by simp[g1,b1,E,b]) ?_;clear g1 b1 g7 o E b N O e d st;rintro c st hc ⟨g1,b1,E,b⟩;obtain⟨m,hm⟩:∃m,m=i+c+1:=⟨_,rfl⟩;rw[show i+(c+1)+1=m+1 by omega];rw[<-hm]at E b
    have G:((jZ n lg ps start goal i m).map Z).length=m:=by rw[Zm,HT]
    by_cases cm:c<T-i
    .have X:m<=T:=by omega
     have Y:(m:Int)<=(T:Int):=by omega
     have P:((jZ n lg ps start goal i (m+1)).map Z)=((jZ n lg ps start goal i m).map Z)++[Z goal]:=by rw[Aq,nD hs F z (by omega),yAH];rfl
     generalize(jZ n lg ps start goal i (m+1)).map Z=L2 at *;generalize(jZ n lg ps start goal i m).map Z=L at *;refine GT (zAa g1 b1 E b G X Y (show(m+1)*8<=140737488355328 by omega) (show m<=9223372036854775806 by omega) (show m+1<=9223372036854775807 by omega)) ?_;exact⟨cm,P.symm⟩
    .have X:m=T+1:=by omega
     have Y:¬(m:Int)<=(T:Int):=by omega
     rw[<-X];rw[show(zs (jZ n lg ps start goal i m))=.sl ((jZ n lg ps start goal i m).map Z) from rfl];generalize(jZ n lg ps start goal i m).map Z=L at *;exact GS (so g1 b1 E b G Y)
def Rv(t:eG)(l:List Int)(k:Nat):Bool:=gp (gU t k) ((l[k]?).getD 0)
theorem O1(t:eG)(l:List Int):jU t l=(decide (l.length=t.maps.length)&&(List.range l.length).all (Rv t l)):=rfl
theorem Tk(t:eG)(l:List Int)(s:TmOk t):aH 33 (lN t) (zs l) (B (jU t l)):=by
 rw[O1];refine Dp func33 λC hP hN=>?_;by_cases a:l.length=t.maps.length
 .rw[Zs a,Zf,a]
  obtain⟨p,hp⟩:∃p,p=Rv t l:=⟨_,rfl⟩;rw[<-hp]
  have o:((l.length:Nat):Int)=((t.maps.length:Nat):Int):=by omega
  obtain⟨R,k⟩:∃R,(List.range t.maps.length).all p=R:=⟨_,rfl⟩;rw[k];refine Gz ?_;refine WP.loopN [] t.maps.length (λi st=>st.t 2=.ptr 2 0/\st.h 2=some (.box [.pv (.sl (t.maps.map bp)),.pv (.sl (t.conf.map dG))] true false)/\(st.t 13=.pv (zs l)/\st.t 14=.pv (Z t.maps.length))/\st.t 15=.pv (Z i)/\tA p i) (by simp[nA,a]) ?_;rintro i st hi ⟨g2,r,c,e,hq⟩;by_cases b:i<t.maps.length
  .have v:=ae b s.nl
   have hn:=nB (p:=p) hq;have n:=nC (p:=p) b;rw[k]at n;have j:t.maps[i]?=some t.maps[i]:=an b
   have g:i<l.length:=by omega
   have f:=l7 g
   have d:p i=gp t.maps[i].np.length l[i]:=by rw[hp];simp[Rv,gU,j,f]
   have u:=s.pl _ (Zd b);generalize x:t.maps[i]=m at *;generalize y:l[i]=z at *;by_cases h1:z<0
   .have h9:p i=false:=by rw[d,<-Bool.not_eq_true,dV];omega
    rw[n h9];exact Gy
   .by_cases h2:(m.np.length:Int)<=z
    .have h9:p i=false:=by rw[d,<-Bool.not_eq_true,dV];omega
     rw[n h9];exact Gy
    .have h9:p i=true:=by rw[d,dV];omega
     have q:=hn h9;refine GT (zAc g2 r @c.1 @c.2 e b v x j g f y h1 h2 a) ?_
     all_goals exact q
  .rw[qw hq b]at k
   rw[<-k];exact GS (s6 g2 r @c.1 @c.2 e b a)
 .rw[ZU a,Zt]
  have o:¬((l.length:Nat):Int)=((t.maps.length:Nat):Int):=by omega
  exact Gy
theorem F0(xs:List Int)(v:Int):xs.any (λx=>v==x)=xs.contains v:=by
 induction xs with
 |nil=>rfl
 |cons a l ih=>rw[List.any_cons,List.contains_cons,ih]
theorem Wv(xs:List Int)(v:Int)(n:xs.length<=9223372036854775807):aH 123 (zs xs) (Z v) (Z (oQ (λx=>v==x) xs)):=by
 obtain⟨p,hp⟩:∃p,p=λx:Int=>v==x:=⟨_,rfl⟩;rw[<-hp];refine Dp func123 λC hP hN=>?_;refine GT trivial ?_;refine WP.loopN [] xs.length (λi st=>st.t 0=.pv (zs xs)/\st.t 1=.pv (Z v)/\st.t 7=.pv (Z xs.length)/\st.t 8=.pv (Z i)/\pM p xs i) (by simp[tB]) ?_;rintro i st hi ⟨g0,g1,k,l,hq⟩;by_cases a:i<xs.length
 .have o:=ae a n
  have hn:=vQ a hq;have m:=CO a hq
  have b:p xs[i]=(v==xs[i]):=by rw[hp]
  generalize j:xs[i]=c at *
  have f:xs[i]?=some c:=by rw[an a,j]
  generalize oQ p xs=r at *;by_cases e:v=c
  .rw[m (by rw[b];simp[e])]
   exact Gy
  .have g:(v==c)=false:=by simp[e]
   have d:=hn (by rw[b,g]);refine GT (zAa g0 g1 k l a o j f e g) ?_
   all_goals exact d
 .rw[CP a hq]
  exact Gy
theorem XS(xs:List Int)(v:Int)(a:xs.length<=9223372036854775807):aH 71 (zs xs) (Z v) (B (xs.contains v)):=by
 have b:=Wv xs v a;rw[<-F0,<-CQ];refine Dp func71 λC hP hN=>?_;exact Gy
theorem XT(l:List Int)(n:Nat)(o:l.length<=9223372036854775807):aH 34 (zs l) (Z n) (B (kI l n)):=by
 rw[show kI l n=(decide (l.length=n)&&(List.range n).all λk=>l.contains (k:Int)) from rfl];obtain⟨p,hp⟩:∃p,p=λk:Nat=>l.contains (k:Int):=⟨_,rfl⟩;rw[<-hp];obtain⟨R,e⟩:∃R,(List.range n).all p=R:=⟨_,rfl⟩;rw[e];refine Dp func34 λC hP hN=>?_;by_cases b:l.length=n
 .rw[Zs b,Zf]
  have g:((l.length:Nat):Int)=(n:Int):=by omega
  refine Gz ?_;refine WP.loopN [] n (λi st=>st.t 0=.pv (zs l)/\st.t 10=.pv (Z n)/\st.t 11=.pv (Z i)/\tA p i) (by simp[nA]) ?_;rintro i st hi ⟨g0,c,d,hq⟩;by_cases a:i<n
  .have q:=ae a (by omega)
   have hn:=nB (p:=p) hq;have m:=nC (p:=p) a;rw[e]at m;have f:=XS l i o;rw[show l.contains (i:Int)=p i by rw[hp]]at f
   cases h9:p i with
   |true=>
    rw[h9]at f;have j:=hn h9;refine GT (it g0 c d a q) ?_
    all_goals exact j
   |false=>
    rw[h9]at f;rw[m h9];exact Gy
  .rw[qw hq a]at e
   rw[<-e];exact GS (go g0 c d a)
 .rw[ZU b,Zt]
  have g:¬((l.length:Nat):Int)=(n:Int):=by omega
  exact Gy
theorem F3:∀(n:Nat)(l:List Int),l.length<=n->(∀k,k<n->((k:Nat):Int)∈l)->l.Nodup/\∀x∈l,0<=x/\x<n:=by
 intro n
 induction n with
 |zero=>intro l c _;have:l=[]:=List.length_eq_zero_iff.1 (by omega)
        subst this;simp
 |succ n ih=>
  intro l c b;have a:=b n (by omega);have f:(l.erase ((n:Nat):Int)).length=l.length-1:=List.length_erase_of_mem a
  obtain⟨h1,h2⟩:=ih (l.erase ((n:Nat):Int)) (by omega) (λk g=>by
   rw[List.mem_erase_of_ne (by omega)];exact b k (by omega))
  refine⟨(List.perm_cons_erase a).nodup_iff.2 (yA3.2 ⟨λh=>?_,h1⟩),λx d=>?_⟩
  .have:=h2 _ h;omega
  .by_cases e:x=(n:Nat)
   .omega
   .have:=h2 x ((List.mem_erase_of_ne e).2 d);omega
theorem O2(h:kI order n=true):(order.map Int.toNat).Nodup:=by
 simp only[kI,up,Is,L4,Zw,List.contains_iff_mem]at h;obtain⟨h1,h2⟩:=F3 n order (by omega) h.2;show List.Pairwise _ _;rw[List.pairwise_map];refine List.Pairwise.imp_of_mem (λ{a b} ha hb c=>?_) h1;have:=h2 a ha;have:=h2 b hb;omega
theorem DD:∀(pl:List (List Int))(m x:Nat),pl.foldl (λm l=>max m (fY l)) (max m x)=max (pl.foldl (λm l=>max m (fY l)) m) x
 |[],m,x=>rfl
 |a::r,m,x=>by
  rw[yAh,yAh,show max (max m x) (fY a)=max (max m (fY a)) x by omega,DD]
theorem F4:∀{pl:List (List Int)}{k:Nat}{l:List Int}(m:Nat),pl[k]?=some []->(pl.set k l).foldl (λm l=>max m (fY l)) m=max (pl.foldl (λm l=>max m (fY l)) m) (fY l)
 |[],k,l,m,h=>by simp at h
 |a::r,0,l,m,h=>by
  simp only[Z4,YV]at h;subst h;rw[List.set_cons_zero,yAh,yAh,DD];have:fY []=0:=rfl;rw[this,Nat.max_zero]
 |a::r,k+1,l,m,h=>by
  rw[List.set_cons_succ,yAh,yAh];exact F4 _ (by simpa using h)
theorem KM(h:pl[k]?=some []):fZ (pl.set k l)=max (fZ pl) (fY l):=F4 1 h
theorem DE(l:List Int):∀i,oT l i<=i
 |0=>Y0 _
 |i+1=>by
  rw[oT];split
  .have:=DE l i;omega
  .exact Y0 _
theorem O3(l:List Int):fY l<=l.length-1:=DE _ _
theorem Jf(n:Nat):fZ (List.replicate n [])=1:=by
 unfold fZ
 induction n with
 |zero=>rfl
 |succ n ih=>rw[List.replicate_succ,yAh];exact ih
theorem MD(h1:1<=T)(h:∀l∈pl,l.length<=T+1):fZ pl<=T:=by
 obtain⟨_,_,h3⟩:=xR fY pl 1;unfold fZ;rcases h3 with h3|⟨x,a,h3⟩
 .omega
 .have:=h x a
  have:=O3 x;omega
structure PIn(t:eG)(T:Nat)(ks:List Nat)(j:Nat)(pl:List (List Int)):Prop where
 ok:t7 t T pl
 done:∀i,i<j->∀k,ks[i]?=some k->∃l,pl[k]?=some l/\l≠[]
 todo:∀i,j<=i->∀k,ks[i]?=some k->pl[k]?=some []
theorem PIn.init{t:eG}(a:∀k∈ks,k<t.maps.length):PIn t T ks 0 (List.replicate t.maps.length []):=
 ⟨t7.init t T,λi h=>absurd h (Nat.not_lt_zero _),λi _ k h=>by simp[a k (An h)]⟩
theorem PIn.set{t:eG}{j:Nat}(hn:ks.Nodup)(h:PIn t T ks j pl)(f:ks[j]?=some k)(n:l.length=T+1):PIn t T ks (j+1) (pl.set k l):=by
 have inj:∀i m,ks[i]?=some k->ks[m]?=some k->i=m:=λi m h1 h2=>by
  have b:=(th.1 h1).1;exact(List.getElem?_inj b hn).1 (h1.trans h2.symm)
 have b:k<pl.length:=(th.1 (h.todo j (Y0 _) k f)).1
 have g:l≠[]:=by intro e;subst e;simp at n
 refine⟨h.ok.set n,λi hi c a=>?_,λi hi c a=>?_⟩
 .by_cases e:c=k
  .subst e;exact⟨l,by rw[Y1,YY rfl,YY b],g⟩
  .have o:i≠j:=by rintro rfl;rw[f]at a;injection a with a;exact e a.symm
   rw[Y1,YR (λd=>e d.symm)];exact h.done i (by omega) c a
 .have e:c≠k:=by rintro rfl;have:=inj i j a f;omega
  rw[Y1,YR (λd=>e d.symm)];exact h.todo i (by omega) c a
abbrev NS(o:Option (List (List Int))):PV:=.tup (match o with|some p=>[.sl (p.map zs),B true]|none=>[.sl [],B false])
def kH(pl:List (List Int)):List AV:=pl.map λl=>match l with|[]=>gh|a::r=>.pv (zs (a::r))
theorem O4(pl:List (List Int)):(kH pl).length=pl.length:=by simp[kH]
theorem HU(h:Hp):∀pl:List (List Int),eh h (kH pl)=some (pl.map zs,[])
 |[]=>rfl
 |l::r=>by
  have:=HU h r;unfold kH at this|-;rw[Z0,eh,this];cases l<;>rfl
theorem F5:∀pl:List (List Int),(kH pl).flatMap mJ=[]
 |[]=>rfl
 |l::r=>by
  have:=F5 r;unfold kH at this|-;rw[Z0,List.flatMap_cons,this];cases l<;>rfl
theorem Ar(ks:List Nat):∀pl:List (List Int),(kH pl).map (dL ks)=kH pl
 |[]=>rfl
 |l::r=>by
  have:=Ar ks r;unfold kH at this|-;rw[Z0,Z0,this];cases l<;>rfl
theorem ME(n:Nat):List.replicate n gh=kH (List.replicate n []):=by simp[kH]
theorem O5(h:l≠[]):(kH pl).set k (.pv (zs l))=kH (pl.set k l):=by
 cases l with
 |nil=>exact absurd rfl h
 |cons a r=>unfold kH;rw[yAl]
theorem SC(b:k<=l.length)(z:Option Value)(e n:Nat)(y:Option Value):kw {size:=n,zero:=z,kind:=TK.slice e 1 8 y} (.pv (zs l)) none (some (.pv (.val (.int .i64 (k:Int)))))=some (.pv (zs (l.take k))):=by
 have a:(0:Int)<=(k:Int):=by omega
 have h3:0<=k/\k<=(l.map Z).length/\0<1/\(l.map Z).all (rH 1)=true:=⟨ZG _,by simpa using b,by decide,by rw[L4];intro x c;obtain⟨v,_,rfl⟩:=Zg.1 c;rfl⟩;simp only[kw,YY a,Y9,YY h3,yA7,zs,List.map_take]
def lT(pl:List (List Int))(L c:Nat):List AV:=(List.range pl.length).map λw=>.pv (zs (if w<c then((pl[w]?).getD []).take L else(pl[w]?).getD []))
theorem HV(pl:List (List Int))(L c:Nat):(lT pl L c).length=pl.length:=by simp[lT]
theorem F6(ks:List Nat)(pl:List (List Int))(L c:Nat):(lT pl L c).map (dL ks)=lT pl L c:=by
 unfold lT;rw[List.map_map]
 exact List.map_congr_left λw _=>by simp[o7,fA]
theorem MF{L:Nat}(h:∀l∈pl,l≠[]):kH pl=lT pl L 0:=by
 apply Zx;intro w;by_cases b:w<pl.length
 .have h9:=h _ (Zd b)
  simp only[kH,lT,YS,an b,List.getElem?_range b,ZD,Y8,Nat.not_lt_zero,Y5];generalize pl[w]=l at *
  cases l with
  |nil=>exact absurd rfl h9
  |cons a r=>rfl
 .simp[kH,lT,b]
theorem Rw{L c:Nat}(h:pl[c]?=some l):(lT pl L c)[c]?=some (.pv (zs l)):=by
 obtain⟨h1,h2⟩:=th.1 h;simp[lT,h1,h2]
theorem O6{L c:Nat}(h:pl[c]?=some l):(lT pl L c).set c (.pv (zs (l.take L)))=lT pl L (c+1):=by
 apply Zx;intro w;rw[Y1,HV];by_cases a:w<pl.length
 .by_cases e:c=w
  .subst e;simp[lT,a,(th.1 h).2]
  .simp[lT,a,e,show(w<c+1↔w<c) by omega]
 .by_cases e:c=w
  .subst e;simp[lT,a]
  .simp[lT,a,e]
theorem O7(h:Hp)(pl:List (List Int))(L:Nat):eh h (lT pl L pl.length)=some ((List.range pl.length).map λw=>zs (((pl[w]?).getD []).take L),[]):=by
 have key:∀(l:List Nat)(f:Nat->List Int),eh h (l.map λw=>AV.pv (zs (f w)))=some (l.map λw=>zs (f w),[]):=by
  intro l f
  induction l with
  |nil=>rfl
  |cons a l ih=>rw[Z0,eh,ih];rfl
 rw[lT,List.map_congr_left (g:=λw=>AV.pv (zs (((pl[w]?).getD []).take L))) (λw b=>by rw[YY (Zw.1 b)]),key]
theorem Tl(t:eG)(a goals order:List Int)(b:Int)(ht:TmOk t)(hl:order.length<=9223372036854775807):xW 12 (lN t) (zs a) (zs goals) (zs order) (Z b) (NS (oU t a goals order b)):=by
 have cc:=Rx t ht;have s:=Tk t a ht;have cg:=Tk t goals ht;have cp:=XT order t.maps.length hl;by_cases E:Ge t a goals order b=true
 .obtain⟨K,ei,hs,hg,ez,I,ef⟩:=tF E
  rw[K]at cc;rw[hs]at s;rw[hg]at cg;rw[I]at cp;obtain⟨T,rfl⟩:∃T:Nat,b=T:=⟨b.toNat,by omega⟩;have ah:=K;simp only[fy,up,Is]at ah;obtain⟨_,ep,H,cj,_⟩:=ah
  have t1:¬(T:Int)<1:=by omega
  have t2:¬(64:Int)<(T:Int):=by omega
  obtain⟨n,hn⟩:∃n,n=t.maps.length:=⟨_,rfl⟩;obtain⟨ks,Q⟩:∃ks,ks=order.map Int.toNat:=⟨_,rfl⟩;obtain⟨step,D⟩:∃step,step=λcS k=>tE t cS k (j0 a k) (j0 goals k) T:=⟨_,rfl⟩
  have cV:oU t a goals order T=(oS step ks (List.replicate n [])).map kr:=by
   rw[oU,YY E,D,Q,hn];rfl
  have cz:=O2 I;have b3:=H1 I;rw[<-Q]at cz b3;rw[cV]
  have q1:((n:Int))*24<=281474976710656:=by omega
  have q2:(24*(n:Int))<=281474976710656:=by omega
  have q3:(n:Int)<=9223372036854775807:=by omega
  obtain⟨rs,cN⟩:∃rs,rs=List.replicate n gh:=⟨_,rfl⟩;rw[<-hn]at cp;refine Dp func12 λC hP hN=>?_
  with_reducible repeat' (first|refine Sp.h ?_|((first|refine Wh [1000052] ?_|refine Wi [1000052] ?_|refine Ss.h ?_|refine Sc.h (cc) ?_|refine Sc.h (s) ?_|refine Sc.h (cg) ?_|refine Sc.h (cp) ?_|(refine Sb.h ?_ ?_ ?_<;>(try intro hgd)<;>try exact Xy))<;>simp -implicitDefEqProofs (maxSteps:=2000000) [hP,hN,t1,t2,hn.symm,q1,q2,q3,<-cN]<;>try refine Ya ?_)|refine X2 ?_ ?_|(refine Xd ?_ ?_<;>intro hcd<;>try exact Xx))
  obtain⟨J,ad⟩:∃J,oS step ks (List.replicate n [])=J:=⟨_,rfl⟩;rw[ad]
  have cM:order.length=n:=by
   have:=I;simp only[kI,up,Is]at this;rw[hn];exact this.1
  have et:a.length=n:=by simp only[jU,up,Is]at hs;rw[hn];exact hs.1
  have ej:goals.length=n:=by simp only[jU,up,Is]at hg;rw[hn];exact hg.1
  rw[cM,cN,ME]
  refine WP.loopN [16] n (λj st=>st.t 5=.ptr 5 0/\st.h 5=some (.box [.pv (.sl (t.maps.map bp)),.pv (.sl (t.conf.map dG))] true false)/\st.t 1=.pv (zs a)/\st.t 2=.pv (zs goals)/\st.t 4=.pv (Z T)/\st.t 12=.ext (.barr 52 n n)/\st.t 53=.pv (zs order)/\st.t 54=.pv (Z n)/\st.t 55=.pv (Z j)/\st.h 16=none/\∃pl,st.t 13=.pv (Z (fZ pl))/\st.h 52=some (.box (kH pl) true false)/\PIn t T ks j pl/\oS step (ks.drop j) pl=J) (by
   simp[Ar]
   exact⟨_,by rw[Jf];rfl,rfl,by rw[hn];exact PIn.init b3,ad⟩) ?_
  rintro j st hj ⟨g5,b5,g1,g2,g4,p,S,U,V,a6,pl,q,d,o,N⟩;by_cases X:j<n
  .have ec:=ae X (by omega)
   have W:j<order.length:=by omega
   have a7:=l7 W
   have r:ks[j]?=some order[j].toNat:=by rw[Q,YS,a7];rfl
   have O:=b3 _ (An r)
   have eA:0<=order[j]:=by
    have:=I;simp only[kI,up,Is,L4,Zw,List.contains_iff_mem]at this;exact((F3 _ _ (by omega) this.2).2 _ (Zd W)).1
   generalize cQ:order[j]=z at *;obtain⟨k,rfl⟩:∃k:Nat,z=k:=⟨z.toNat,by omega⟩;rw[Y9]at r O
   have cx:k<n:=by omega
   have bq:ks.drop j=k::ks.drop (j+1):=by
    have cu:=(th.1 r);rw[yBb cu.1,cu.2]
   rw[bq,oS]at N;have Y:t.maps[k]?=some t.maps[k]:=an O;have ck:dt t.maps[k]=true:=L4.1 cj _ (Zd O);generalize hx:t.maps[k]=m at *;obtain⟨e1,e2⟩:=BD Y;have cP:=ck;simp only[dt,up,Is]at cP;have c1:=Th m ck;obtain⟨ns,b9⟩:∃ns,ns=(List.range m.np.length).map λv=>zs (jl m v):=⟨_,rfl⟩;rw[<-b9]at c1
   have cB:ns.length=gU t k:=by rw[b9,e1];simp
   have cD:∀v,v<gU t k->ns[v]?=some (zs ((gn (sN t k) (gU t k) v).map λu=>((u:Nat):Int))):=by
    intro v hv;rw[e1]at hv;rw[b9,<-Rk Y hv,<-Bv ck hv];simp[hv]
   have c2:=XK t pl k T K H (by rw[o.ok.1]) o.ok.2 (by omega);have dj:=yZ hs O;have c7:=yZ hg O
   have c3:=XR (gU t k) (sN t k) (Gd t pl k) ns (j0 a k) (j0 goals k) T 74 (.sl (sL t.conf pl k T)) cB cD (by rw[e1];exact cP.1) (by omega) dj c7 (by
    intro i v u hi hv hu;have:=XJ (sL t.conf pl k T) i v u (oM t.conf pl k i t.conf.length) (t.conf.any (Au pl k i v u)) (by simp[sL,hi]) (by have h9:=HP t.conf pl k i v u t.conf.length;rw[yAE]at h9;exact h9)
    exact this)
   rw[show yV (gU t k) (sN t k) (Gd t pl k) (j0 a k) (j0 goals k) T=step pl k by rw[D];rfl]at c3
   have R:k<a.length:=by omega
   have P:k<goals.length:=by omega
   have ch:a[k]?=some ((j0 a k:Nat):Int):=by
    have:=hs;simp only[jU,up,Is,L4,Zw]at this;have h8:=this.2 k (by omega);rw[dV]at h8;unfold j0;rw[l7 R]at h8|-;simp only[Y8]at h8|-;rw[Int.toNat_of_nonneg h8.1]
   have b2:goals[k]?=some ((j0 goals k:Nat):Int):=by
    have:=hg;simp only[jU,up,Is,L4,Zw]at this;have h8:=this.2 k (by omega);rw[dV]at h8;unfold j0;rw[l7 P]at h8|-;simp only[Y8]at h8|-;rw[Int.toNat_of_nonneg h8.1]
   have ar:∀h,a[k]'h=((j0 a k:Nat):Int):=λh=>(th.1 ch).2;have aj:∀h,goals[k]'h=((j0 goals k:Nat):Int):=λh=>(th.1 b2).2;have A:=λh=>HU h pl;have cd:=F5 pl
   have f:(kH pl).length=n:=by rw[O4,o.ok.1,hn]
   have cf:=λ(l:List Int)(h:l≠[])=>O5 (pl:=pl) (k:=k) h
   have c9:(k:Int)<(n:Int):=by omega
   have cv:k+1<=n:=by omega
   have G:∀x,(kH pl).take k++x::(kH pl).drop (k+1)=(kH pl).set k x:=λx=>ir (by omega);have cO:=λl(h:step pl k=some l)=>DI (t:=t) (by rw[D]at h;exact h);have g:=λks=>Ar ks pl;generalize j0 a k=s0 at *;generalize j0 goals k=g0 at *;generalize eu:step pl k=sr at *
   cases sr with
   |none=>
    generalize kH pl=s at *;have:J=none:=N.symm;subst this
    with_reducible repeat' (first|refine Sp.h ?_|((first|refine Wd ?_|refine Ss.h ?_|refine Sc.h (c1) ?_|refine Sc.h (c2) ?_|refine Sc.h (c3) ?_|(refine Sb.h ?_ ?_ ?_<;>(try intro hgd)<;>try exact Xy))<;>simp -implicitDefEqProofs (maxSteps:=2000000) [hP,hN,g5,b5,g1,g2,g4,p,S,U,V,a6,q,d,X,a7,W,cQ,hx,Y,O,cx,R,P,ch,b2,ar,aj,A,cd,f]<;>try refine Ya ?_)|refine X2 ?_ ?_|(refine Xd ?_ ?_<;>intro hcd<;>try exact Xx))
    trace_state
   |some l=>
    have b7:=cO l rfl
    have dd:l≠[]:=by intro e;subst e;simp at b7
    have c4:=X4 l (by omega);have ct:=o.set cz r b7;have di:=KM (l:=l) (o.todo j (Y0 _) k r);have F:=cf l dd;obtain⟨s,M⟩:∃s,s=kH pl:=⟨_,rfl⟩;rw[<-M]at A cd f G g F d;refine GT (zAc g5 b5 g1 g2 g4 p S U V a6 q d X a7 (zAc W cQ hx Y O cx R P ch b2 ar aj A cd (it f c9 cv G ec))) ?_;exact⟨pl.set k l,by rw[di];split<;>omega,by rw[g,F],ct,N⟩
  .have c8:j=n:=by omega
   subst c8
   have ee:ks.length=j:=by rw[Q,Zm,cM]
   rw[List.drop_of_length_le (by omega)]at N;have hR:J=some pl:=N.symm;subst hR
   have ca:pl.length=j:=by rw[o.ok.1,hn]
   have full:∀k,k<j->∃l,pl[k]?=some l/\l.length=T+1:=λk O=>by
    have hm:=Gf I k (by omega);rw[<-Q]at hm;obtain⟨i,hi⟩:=Z6.1 hm;obtain⟨l,h1,h2⟩:=o.done i (by have:=(th.1 hi).1;omega) k hi;rcases o.ok.2 l (An h1)with h|h
    .exact absurd h h2
    .exact⟨l,h1,h⟩
   have hL:=MD (pl:=pl) (T:=T) (by omega) (λl hl=>by
    rcases o.ok.2 l hl with h|h
    .rw[h];exact ZG _
    .omega)
   have b4:∀l∈pl,l≠[]:=λl hl=>by
    obtain⟨k,O⟩:=Z6.1 hl;obtain⟨l',h1,h2⟩:=full k (by have:=(th.1 O).1;omega);rw[O]at h1;injection h1 with h1;subst h1;intro e;subst e;simp at h2
   rw[MF (L:=fZ pl+1) b4]at d
   have dn:(kr pl).map zs=(List.range j).map λw=>zs (((pl[w]?).getD []).take (fZ pl+1)):=by
    rw[kr,<-ca];apply Zx;intro w;by_cases hw:w<pl.length
    all_goals simp[hw]
   rw[ZD];show WP C _ (_:Exit->St->Prop) st;rw[show NS (some (kr pl))=.tup [.sl ((List.range j).map λw=>zs (((pl[w]?).getD []).take (fZ pl+1))),B true] by rw[<-dn]];generalize fZ pl=L at *;obtain⟨y,cT⟩:∃y,y=L+1:=⟨_,rfl⟩;rw[<-cT]at d|-
   have ea:i64.wrap ((L:Int)+1)=(y:Int):=by rw[IntKind.wrap_i64];omega
   refine GT (s7 g5 b5 p S U V q (gA d X)) ?_;refine WP.loopN [] j (λc st=>st.t 12=.ext (.barr 52 j j)/\st.t 13=.pv (Z L)/\st.t 97=.pv (Z j)/\st.t 98=.pv (Z c)/\st.h 52=some (.box (lT pl y c) true false)) (by simp[F6,p,q,d]) ?_;clear g5 b5 g1 g2 g4 p S U V a6 q d st;rintro c st hc ⟨p,q,cm,cn,d⟩;have g:=λks=>F6 ks pl y c
   have f:(lT pl y c).length=j:=by rw[HV,ca]
   by_cases H:c<j
   .have eb:=ae H (by omega)
    obtain⟨l,hx,b7⟩:=full c H;have a8:=Rw (L:=y) hx;have ak:=O6 (L:=y) hx;obtain⟨s,M⟩:∃s,s=lT pl y c:=⟨_,rfl⟩;rw[<-M]at a8 ak d g f;have cr:∀h,s[c]'h=.pv (zs l):=λh=>(th.1 a8).2;have G:∀x,s.take c++x::s.drop (c+1)=s.set c x:=λx=>ir (by omega)
    have cX:c+1<=j:=by omega
    have c5:(c:Int)<(j:Int):=by omega
    have cq:y<=l.length:=by omega
    have cU:(y:Int)<=(l.length:Int):=by omega
    have eB:(zs (l.take y))=.sl ((l.map Z).take y):=by rw[zs,List.map_take]
    refine GT (zAc p q cm cn d H eb a8 cr G cX c5 f ea (be cq cU (SC cq))) ?_;rw[g,ak]
   .have c0:c=j:=by omega
    subst c0;have A:=λh=>O7 h pl y;rw[ca]at A;obtain⟨s,M⟩:∃s,s=lT pl y c:=⟨_,rfl⟩;rw[<-M]at A d g f;exact GS (s7 p q cm cn d H f A)
 .have b8:oU t a goals order b=none:=by rw[oU,YR E]
  rw[b8];have cb:¬(fy t&&(jU t a&&(jU t goals&&(decide (1<=b)&&(decide (b<=64)&&kI order t.maps.length)))))=true:=E;generalize fy t=v1 at *;generalize jU t a=v2 at *;generalize jU t goals=v3 at *;generalize kI order t.maps.length=v4 at *;refine Dp func12 λC hP hN=>?_
  cases v1 with
  |false=>
   exact GS trivial
  |true=>
   cases v2 with
   |false=>
    exact GS trivial
   |true=>
    cases v3 with
    |false=>
     exact GS trivial
    |true=>
     by_cases h1:b<1
     .skip
      exact GS h1
     .by_cases h2:64<b
      .skip
       exact GS (gA h1 h2)
      .cases v4 with
       |false=>
        exact GS (gA h1 h2)
       |true=>exact absurd (by simp;omega) cb
def F7[DecidableEq α](xs ys:List α)(i:Nat):Bool:=decide (xs[i]?=ys[i]?)
theorem HW[DecidableEq α]{xs ys:List α}(h:xs.length=ys.length):decide (xs=ys)=(List.range xs.length).all (F7 xs ys):=by
 rw[Bool.eq_iff_iff,Is,L4];constructor
 .rintro rfl i _;simp[F7]
 .intro a
  apply Zx;intro i;by_cases hi:i<xs.length
  .simpa[F7]using a i (Zw.2 hi)
  .rw[Y2 (by omega),Y2 (by omega)]
theorem XU(xs ys:List Int)(l:xs.length<=9223372036854775807):aH 46 (zs xs) (zs ys) (B (decide (xs=ys))):=by
 refine Dp func46 λC hP hN=>?_;by_cases a:xs.length=ys.length
 .rw[HW a]
  obtain⟨p,hp⟩:∃p,p=F7 xs ys:=⟨_,rfl⟩;rw[<-hp];obtain⟨R,f⟩:∃R,(List.range xs.length).all p=R:=⟨_,rfl⟩;rw[f];refine Gz ?_;refine WP.loopN [] ys.length (λi st=>st.t 0=.pv (zs xs)/\st.t 1=.pv (zs ys)/\st.t 5=.pv (Z i)/\tA p i) (by simp[nA]) ?_;rintro i st hi ⟨g0,g1,g5,hq⟩;by_cases c:i<ys.length
  .have b:i<xs.length:=by omega
   have n:=ae b l;have hn:=nB (p:=p) hq;have k:=nC (p:=p) b;rw[f]at k;have a1:=l7 b;have j:=l7 c
   have d:p i=decide (xs[i]=ys[i]):=by rw[hp];simp[F7,a1,j]
   generalize o:xs[i]=x at *;generalize q:ys[i]=y at *;by_cases e:x=y
   .have g:=hn (by rw[d];simp[e])
    subst e;refine GT (zAa g0 g1 g5 c b n a1 j o (gA q a)) ?_
    all_goals exact g
   .rw[k (by rw[d];simp[e])]
    have r:(x !=y)=true:=by simp[e]
    have s:(x==y)=false:=by simp[e]
    exact Gy
  .rw[qw hq (show¬i<xs.length by omega)]at f
   rw[<-f];exact GS (it g0 g1 g5 c a)
 .rw[ZU (λe=>a (by rw[e]))]
  have m:¬((xs.length:Nat):Int)=((ys.length:Nat):Int):=by omega
  exact Gy
theorem XW(xs ys:List (List Int))(n:xs.length<=9223372036854775807)(k:∀x∈xs,x.length<=9223372036854775807):aH 19 (.sl (xs.map zs)) (.sl (ys.map zs)) (B (decide (xs=ys))):=by
 refine Dp func19 λC hP hN=>?_;by_cases b:xs.length=ys.length
 .rw[HW b]
  obtain⟨p,hp⟩:∃p,p=F7 xs ys:=⟨_,rfl⟩;rw[<-hp];obtain⟨R,d⟩:∃R,(List.range xs.length).all p=R:=⟨_,rfl⟩;rw[d];refine Gz ?_;refine WP.loopN [] ys.length (λi st=>st.t 0=.pv (.sl (xs.map zs))/\st.t 1=.pv (.sl (ys.map zs))/\st.t 5=.pv (Z i)/\tA p i) (by simp[nA]) ?_;rintro i st hi ⟨g0,g1,g5,hq⟩;by_cases c:i<ys.length
  .have a:i<xs.length:=by omega
   have q:=ae a n;have hn:=nB (p:=p) hq;have m:=nC (p:=p) a;rw[d]at m;have a1:xs[i]?=some xs[i]:=an a;have l:ys[i]?=some ys[i]:=an c
   have j:p i=decide (xs[i]=ys[i]):=by rw[hp];simp[F7,a1,l]
   have f:=XU xs[i] ys[i] (k _ (Zd a));rw[<-j]at f;generalize r:xs[i]=x at *;generalize s:ys[i]=y at *
   cases h9:p i with
   |true=>
    rw[h9]at f;have g:=hn h9;refine GT (zAa g0 g1 g5 c a q a1 l r (gA s b)) ?_
    all_goals exact g
   |false=>
    rw[h9]at f;rw[m h9];exact Gy
  .rw[qw hq (show¬i<xs.length by omega)]at d
   rw[<-d];exact GS (it g0 g1 g5 c b)
 .rw[ZU (λe=>b (by rw[e]))]
  have o:¬((xs.length:Nat):Int)=((ys.length:Nat):Int):=by omega
  exact Gy
def D6:eU:=⟨[zs [0],zs [1]],[vR 0 1 1]⟩
def oP:eG:=⟨[D6,D6],[(⟨0,0,1⟩,⟨1,0,1⟩)]⟩
theorem XX:BO 18 (lN oP):=by
 have c1:=XH;refine Dp func18 λC hP hN=>?_;refine Gz ?_
 all_goals exact⟨rfl,rfl⟩
theorem CN:TmOk oP:=by
 refine⟨λ_ _ _ _=>trivial,by decide,by decide,λm a=>?_,λm a=>?_⟩
 all_goals
  have:m=D6:=by simpa[oP]using a
  subst this;decide
theorem KN:oU oP [0,0] [1,1] [0,1] 5=some [[0,1,1],[0,0,1]]:=by decide +kernel
theorem MG:sO oP [0,0] [1,1] [[0,1,1],[0,0,1]]=true:=by decide +kernel
theorem MH:fy oP=true:=by decide +kernel
theorem d5:BO 5 (B true):=by
 have f:=XX;have c1:=Tl oP [0,0] [1,1] [0,1] 5 CN (by decide);rw[KN]at c1;have b:=XW [[0,1,1],[0,0,1]] [[0,1,1],[0,0,1]] (by decide) (by decide);rw[Zs rfl]at b;have c:=X6 oP [0,0] [1,1] [[0,1,1],[0,0,1]] CN ⟨by decide,by decide⟩ (by decide) (by decide);rw[MG]at c;have d:=Rx oP CN;rw[MH]at d;obtain⟨a,e⟩:∃a,a=lN oP:=⟨_,rfl⟩;refine Dp func5 λC hP hN=>?_;exact GS trivial
theorem KO{t:eG}{a goals:List Int}{b:Int}(h:oU t a goals order b=some q):q.length=t.maps.length/\t.maps.length<=4/\1<=t.maps.length/\∀l∈q,l.length<=65:=by
 obtain⟨r,h1,_⟩:=BL h;obtain⟨e,p,rfl,hP⟩:=BK h;obtain⟨c,_,n,m,o,_,d⟩:=tF e;refine⟨h1,(HY c).2,d,λl f=>?_⟩;rw[kr,Zg]at f;obtain⟨x,j,rfl⟩:=f;obtain⟨k,i⟩:=Z6.1 j;obtain⟨A,g⟩:=hP.lst k x i;have:=g.len;rw[ZA];omega
section
variable {C:Cx} {Q:Exit->St->Prop} {st:St}
theorem WP.fldAtG{hn:List Nat}{id:Nat}{ops:Array Oper}(n:Nat){o:Oper}{t:TypeId}{x:Operand}{f:Nat}(F:ops.toList[n]?=some o)(l:o.op=.field t x f)
 (hq:cw C.P hn C.N ops (λst=>dR ops st.t o.guard=some true/\PG C hn ops (Q .normal) t f x o.dst (ops.toList.drop (n+1)) st) (ops.toList.take n) st):WP C (.region id ops false) Q st:=by
 intro a w S;refine wp_region_list ?_;have R:=(th.1 F).1;have J:=(th.1 F).2;rw[show ops.toList=ops.toList.take n++o::ops.toList.drop (n+1) by rw[<-J,yAf,ZQ]];refine fh (λD a1 w1 r p=>?_) S hq;obtain⟨hgd,c,U,ps,v,M,A,H,j,b⟩:=p;obtain⟨L,E,hN,k,s⟩:=r;refine wpList_step (λK I=>?_);rw[dl s hgd,YY rfl];have g:=bB s x;rw[A]at g
 obtain⟨i,y,z⟩:∃i:Array Value,a1.eval x=.agg i/\i[c]?=some v:=by
  cases g with
  |pv G=>
   generalize a1.eval x=u at G
   cases G with
   |agg _ i O h=>
    have d:c<i.length:=by rw[<-O];exact(th.1 H).1
    have h9:=h c _ _ H (an d);refine⟨_,rfl,?_⟩;rw[<-aJ h9];simp[d]
 have e:=eJ (zn (σ:=a1.eval) l M y z) w1;unfold Oper.wp;rw[e];refine I _ _ ?_;refine fu (λB T V q m=>⟨B,q,m⟩) (st:=D.put o.dst (.pv (.val v)) []) ?_ b;exact dH.put E hN k s j (.refl E) (.pv (.val v))
end
structure SepF(X:List Sce)(Bs:List Vc)(Qs:List fJ)(q:List (List Int))(u v j:Nat)(s t:Sce)(x y:Vc)(Pu Pv:List (List Int))(eu ev:List aG)(lu lv:List Int)(f g f' g':Nat):Prop where
 h1:X[u]?=some s
 h2:X[v]?=some t
 h3:Bs[u]?=some x
 h4:Bs[v]?=some y
 h5:Qs[u]?=some (Pu,eu)
 h6:Qs[v]?=some (Pv,ev)
 h7:q[u]?=some lu
 h8:q[v]?=some lv
 h9:lu[j]?=some (f:Int)
 ha:lu[j+1]?=some (g:Int)
 hb:lv[j]?=some (f':Int)
 hc:lv[j+1]?=some (g':Int)
 k1:f<Pu.length
 k2:g<Pu.length
 k3:f'<Pv.length
 k4:g'<Pv.length
 s1:ScL s
 s2:ScL t
 e:gx [s,t] [x,y]=0
 i1:aX (gl [s,t] [x,y]).js (gl [s,t] [x,y]).ms (bF Pu f++bF Pv f')=true
 i2:aX (gl [s,t] [x,y]).js (gl [s,t] [x,y]).ms (bF Pu g++bF Pv g')=true
 p:(nF (gl [s,t] [x,y]) (bF Pu f++bF Pv f') (bF Pu g++bF Pv g') 3).kind=1
theorem yX{P:List (List Int)}{f:Nat}(h:f<P.length):bF P f∈P:=by
 unfold bF;rw[Y9,an h];exact Zd h
theorem Ph(l a b:List Int)(h:sO (⟨(gQ l (bS l)).map bX,qK (kC l (bS l)) (iY l (bS l)) (gQ l (bS l)) 3⟩:eG) a b q=true)(hq:q.length=bS l){u j:Nat}(z:u<v)(hv:v<bS l){lu lv:List Int}(h7:q[u]?=some lu)(h8:q[v]?=some lv)(hj:j+1<lu.length):
 ∃s t x y E F G ev f g m o,SepF (kC l (bS l)) (iY l (bS l)) (gQ l (bS l)) q u v j s t x y E F G ev lu lv f g m o:=by
 have hJ:=S5 l;have xl:=yA l (bS l);have bl:=z7 l (bS l);have ql:=vo l (bS l);have d:=Fe l (bS l);have S:=Ny l (bS l)
 have r:∀s∈kC l (bS l),s.js=ii 12 1/\s.ms=[]:=by
  intro s hs;obtain⟨i,_,rfl⟩:=Zg.1 hs;exact⟨rfl,rfl⟩
 generalize kC l (bS l)=X at *;generalize iY l (bS l)=e at *;generalize gQ l (bS l)=c at *;generalize bS l=k at *;have h1:X[u]?=some (X[u]'(by omega)):=an _;have h2:X[v]?=some (X[v]'(by omega)):=an _;have h3:e[u]?=some (e[u]'(by omega)):=an _;have h4:e[v]?=some (e[v]'(by omega)):=an _;have h5:c[u]?=some (c[u]'(by omega)):=an _;have h6:c[v]?=some (c[v]'(by omega)):=an _;obtain⟨b1,q1⟩:=d _ (An h5);obtain⟨W,q2⟩:=d _ (An h6);have C:=uJ h (k:=u) (by omega);have D:=uJ h (k:=v) (by omega);rw[h7]at C;rw[h8]at D;simp only[Y8]at C D;have N:lu[j]?=some (lu[j]'(by omega)):=an _;have O:lu[j+1]?=some (lu[j+1]'(by omega)):=an _;have P:lv[j]?=some (lv[j]'(by omega)):=an _;have Q:lv[j+1]?=some (lv[j+1]'(by omega)):=an _
 have hw:∀(i:Nat) q,c[i]?=some q->dt (bX q)=true:=λi q hi=>by
  obtain⟨b,rfl⟩:=d q (An hi);cases b<;>decide +kernel
 obtain⟨hk,m1,m2⟩:=MQ hw (by omega) h (by omega) z (by omega) h1 h2 h3 h4 h5 h6 h7 h8 hj N O P Q;generalize X[u]'(by omega)=s at *;generalize X[v]'(by omega)=t at *;generalize e[u]'(by omega)=x at *;generalize e[v]'(by omega)=y at *;generalize c[u]'(by omega)=T at *;generalize c[v]'(by omega)=U at *;generalize lu[j]'(by omega)=f at *;generalize lu[j+1]'(by omega)=g at *;generalize lv[j]'(by omega)=m at *;generalize lv[j+1]'(by omega)=o at *;obtain⟨a0,a1,V,L⟩:=m1;obtain⟨Y,c1,Z,M⟩:=m2;simp only at a0 a1 V L Y c1 Z M;obtain⟨f,rfl⟩:∃n:Nat,f=n:=⟨f.toNat,by omega⟩;obtain⟨g,rfl⟩:∃n:Nat,g=n:=⟨g.toNat,by omega⟩;obtain⟨m,rfl⟩:∃n:Nat,m=n:=⟨m.toNat,by omega⟩;obtain⟨o,rfl⟩:∃n:Nat,o=n:=⟨o.toNat,by omega⟩;have R:=Hq hJ h1 h3 h2 h4 z;obtain⟨H,J⟩:=r s (An h1);obtain⟨I,K⟩:=r t (An h2)
 have A:∀p∈T.1,aX s.js s.ms p=true:=λp hp=>by rw[H,J];rw[q1]at hp;exact IK b1 p hp
 have B:∀p∈U.1,aX t.js t.ms p=true:=λp hp=>by rw[I,K];rw[q2]at hp;exact IK W p hp
 obtain⟨E,G⟩:=T;obtain⟨F,ev⟩:=U;simp only at a1 L c1 M A B;refine⟨s,t,x,y,E,F,G,ev,f,g,m,o,h1,h2,h3,h4,h5,h6,h7,h8,N,O,P,Q,by omega,by omega,by omega,by omega,S _ (An h1),S _ (An h2),R,?_,?_,hk⟩
 all_goals exact xg R (A _ (yX (by omega))) (B _ (yX (by omega)))
theorem SE{P:St->Prop}{G:Prop}(h1:(∀st,P st->WP C c Q st)->G)(h2:∀st,P st->WP C c Q st):G:=h1 h2
theorem d4(l m n o:List Int)(tick i k:Int):Yl 4 (zs l) (zs m) (zs n) (zs o) (Z tick) (Z i) (Z k) (B true):=by
 have c0:=d5;have cX:=d8 l;have hk:=(Fd l).1;have c:=λa b q h hq u v j b2 hv lu lv=>Ph l a b (q:=q) h hq (u:=u) (v:=v) (j:=j) b2 hv (lu:=lu) (lv:=lv);have xL:=Ny l (bS l);have xl:=yA l (bS l);have bl:=z7 l (bS l);have ql:=vo l (bS l);have qP:=Fe l (bS l);have U:=P9 l
 have S:(qK (kC l (bS l)) (iY l (bS l)) (gQ l (bS l)) 3).length<=4096:=by
  refine Pl (by omega) λi q hi=>?_;obtain⟨b,rfl⟩:=qP q (An hi);exact⟨by cases b<;>decide +kernel,(Cl b).1⟩
 have cC:=Xe (kC l (bS l)) (iY l (bS l)) (gQ l (bS l)) 3 xL (by omega) (by omega) (by omega) λq hq=>by
  obtain⟨b,rfl⟩:=qP q hq;obtain⟨h1,h2,h3,h4⟩:=Cl b;exact⟨by omega,by omega,λx E=>by have:=h4 x E;omega⟩
 have ct:E8 (kC l (bS l)) (iY l (bS l)) (gQ l (bS l)) 3=.tup [.sl ((qK (kC l (bS l)) (iY l (bS l)) (gQ l (bS l)) 3).map dG),B true]:=by
  unfold E8;exact YY ⟨U,S⟩
 rw[ct]at cC;clear ct U;obtain⟨T,R⟩:∃T:eG,T=⟨(gQ l (bS l)).map bX,qK (kC l (bS l)) (iY l (bS l)) (gQ l (bS l)) 3⟩:=⟨_,rfl⟩
 have hM:vn (gQ l (bS l))=.sl (T.maps.map bp):=by rw[R];simp only[List.map_map];rfl
 have cr:qK (kC l (bS l)) (iY l (bS l)) (gQ l (bS l)) 3=T.conf:=by rw[R]
 have J:T.maps.length=bS l:=by rw[R];simp[ql]
 have Y:∀i:Nat,T.maps[i]?=((gQ l (bS l))[i]?).map bX:=λi=>by rw[R];simp
 have N:∀x∈T.maps,1<=x.np.length/\x.np.length<=3/\x.es.length<=2:=by
  intro x E;rw[R]at E;obtain⟨q,hq,rfl⟩:=Zg.1 E;obtain⟨b,rfl⟩:=qP q hq;obtain⟨h1,h2,h3,h4⟩:=Cl b;simp only[bX,Zm];exact⟨h2,h1,h3⟩
 rw[hM]at cX cC;rw[cr]at cC S;rw[<-R]at c;have a7:TmOk T:=⟨λ_ _ _ _=>trivial,by omega,by omega,λx E=>by have:=N x E;omega,λx E=>by have:=N x E;omega⟩;have cA:=Tg T m a7 (by omega) (λx E=>by have:=N x E;omega);have cB:=Tg T n a7 (by omega) (λx E=>by have:=N x E;omega);have ad:=CT T.maps m T.maps.length;have aj:=CT T.maps n T.maps.length;generalize zF T.maps m T.maps.length=a at *;generalize zF T.maps n T.maps.length=b at *;have cO:=XI (bS l) o (by omega);have a8:=At o (bS l);generalize ie o (bS l)=cz at *;have cP:=Tl T a b cz 5 a7 (by omega);clear R hM cr qP;generalize kC l (bS l)=X at *;generalize iY l (bS l)=Bs at *;generalize gQ l (bS l)=Qs at *;generalize bS l=d at *
 cases hp:oU T a b cz 5 with
 |none=>
  rw[hp]at cP;clear c hp;refine Dp func4 λC hP hN=>?_
  with_reducible repeat' (first|refine Sp.h ?_|((first|refine Wd ?_|refine Ss.h ?_|refine Sc.h (c0) ?_|refine Sc.h (cX) ?_|refine Sc.h (cC) ?_|refine Sc.h (cA) ?_|refine Sc.h (cB) ?_|refine Sc.h (cO) ?_|refine Sc.h (cP) ?_|(refine Sb.h ?_ ?_ ?_<;>(try intro hgd)<;>try exact Xy))<;>simp -implicitDefEqProofs (maxSteps:=2000000) [hP,hN,ad,aj,a8,xl,bl,ql,J]<;>try refine Ya ?_)|refine X2 ?_ ?_|(refine Xd ?_ ?_<;>intro hcd<;>try exact Xx))
 |some q=>
  rw[hp]at cP;obtain⟨hv,c9,l0,cu,h2,R,ar⟩:=BL hp
  have K:q.length=d:=by omega
  have qL:∀x∈q,x.length=l0.length:=λx E=>by
   obtain⟨i,hi⟩:=Zq E;have:=uJ hv (k:=i) (th.1 hi).1;rw[hi,cu]at this;exact this
  have c:=c a b q hv K;have dd:=(KO hp).2.2.2 _ (An cu);have r1:=tP i (k:=(d:Int)) (by omega) (by omega);have r2:=tP k (k:=(d:Int)-1) (by omega) (by omega);have b4:=d9 i d (by omega);have b5:=d9 k ((d:Int)-1) (by omega);generalize kW i d=a0 at *;generalize kW k ((d:Int)-1)=d0 at *;obtain⟨b0,ah⟩:∃b0:Int,b0=(a0+1+d0).tmod d:=⟨_,rfl⟩
  have c7:0<=b0/\b0<d/\b0≠a0:=by
   rw[ah,yA8 (by omega)];rcases hk with rfl|rfl<;>omega
  have w0:i64.wrap (a0+1)=a0+1:=by rw[IntKind.wrap_i64];omega
  have w1:i64.wrap (a0+1+d0)=a0+1+d0:=by rw[IntKind.wrap_i64];omega
  have w2:i64.wrap ((d:Int)-1)=(d:Int)-1:=by rw[IntKind.wrap_i64];omega
  have w5:(a0+1+d0).tmod d=b0:=ah.symm;obtain⟨a0,rfl⟩:∃n:Nat,a0=n:=⟨a0.toNat,by omega⟩;obtain⟨b0,rfl⟩:∃n:Nat,b0=n:=⟨b0.toNat,by omega⟩;obtain⟨z1,z2,z3⟩:=c7;obtain⟨u,hu⟩:∃u,u=min a0 b0:=⟨_,rfl⟩;obtain⟨v,c8⟩:∃v,v=max a0 b0:=⟨_,rfl⟩
  have b2:u<v:=by omega
  have b3:v<d:=by omega
  have m1:¬(d:Int)=0:=by omega
  have m2:¬d=0:=by omega
  have ak:(b0<a0/\u=b0/\v=a0)\/(¬b0<a0/\u=a0/\v=b0):=by omega
  clear hu c8;obtain⟨lu,h7⟩:∃lu,q[u]?=some lu:=⟨_,an (by omega)⟩;obtain⟨lv,h8⟩:∃lv,q[v]?=some lv:=⟨_,an (by omega)⟩;have n1:=qL _ (An h7);have n2:=qL _ (An h8);have r3:=tP tick (k:=(lu.length:Int)-1) (by omega) (by omega);have b7:=d9 tick ((lu.length:Int)-1) (by omega);obtain⟨j,hj⟩:∃j:Nat,kW tick ((lu.length:Int)-1)=j:=⟨(kW tick ((lu.length:Int)-1)).toNat,by omega⟩;rw[hj]at r3 b7;clear hj
  have w3:i64.wrap ((lu.length:Int)-1)=(lu.length:Int)-1:=by rw[IntKind.wrap_i64];omega
  have w4:i64.wrap ((j:Int)+1)=(j:Int)+1:=by rw[IntKind.wrap_i64];omega
  obtain⟨s,t,x,y,H,I,eu,ev,f,g,f',g',F⟩:=c u v j b2 b3 lu lv h7 h8 (by omega);obtain⟨f1,f2,f3,f4,f5,f6,f7,f8,f9,fa,fb,fc,k1,k2,k3,k4,s1,s2,e,i1,i2,pK⟩:=F;have c4:=(E7 e).1
  have c5:ScL (gl [s,t] [x,y]):=by
   unfold gl;rw[YY e];have o4:=(Bk e).2.2.2.1;exact(Bm (l:=[s,t]) (bs:=[x,y]) o4 2).L (by omega)
  have cj:=Xl [s,t] [x,y] (by intro z hz;simp at hz;rcases hz with rfl|rfl<;>assumption) (by simp) (by simp);rw[e]at cj;clear e;generalize gl [s,t] [x,y]=A at *;have cV:aH 15 (.sl [aW s,aW t]) (.sl [ai x,ai y]) (.tup [aW A,Z 0]):=cj
  have p1:bF H f=H[f]:=by rw[bF,Y9,an k1];rfl
  have p2:bF H g=H[g]:=by rw[bF,Y9,an k2];rfl
  have p3:bF I f'=I[f']:=by rw[bF,Y9,an k3];rfl
  have p4:bF I g'=I[g']:=by rw[bF,Y9,an k4];rfl
  rw[p1,p3]at i1;rw[p2,p4]at i2;rw[p1,p2,p3,p4]at pK;have x1:H[f]?=some H[f]:=an k1;have x2:H[g]?=some H[g]:=an k2;have x3:I[f']?=some I[f']:=an k3;have x4:I[g']?=some I[g']:=an k4;clear p1 p2 p3 p4 cj;generalize y1:H[f]=pf at *;generalize y2:H[g]=pg at *;generalize y3:I[f']=p at *;generalize y4:I[g']=D at *;have l1:=(lQ i1).2.2;have l2:=(lQ i2).2.2;have cE:=Tn A (pf++p) (pg++D) 3 c5 c4 i1 i2 (by omega) (by omega) (by omega)
  have d1:aT 16 (.sl [zs pf,zs p]) (zs (pf++p)):=by
   have h9:=S8 [pf,p] (by simp) (by simp only[List.flatten_cons,List.flatten_nil,yAJ];omega);simpa only[Z0,yA6,List.flatten_cons,List.flatten_nil,yAJ]using h9
  have d2:aT 16 (.sl [zs pg,zs D]) (zs (pg++D)):=by
   have h9:=S8 [pg,D] (by simp) (by simp only[List.flatten_cons,List.flatten_nil,yAJ];omega);simpa only[Z0,yA6,List.flatten_cons,List.flatten_nil,yAJ]using h9
  generalize nF A (pf++p) (pg++D) 3=r at *;obtain⟨rk,cD,cM,cN,G⟩:=r;simp only at pK;subst pK;have cU:mD 17 (aW A) (zs (pf++p)) (zs (pg++D)) (Z 3) (.agg [Z 1,.sl (cD.map jn),Z cM,Z cN,.sl [],Z G.pair,zs G.a,zs G.b]):=cE;generalize pf++p=q1 at *;generalize pg++D=q2 at *;have V:=Y u;have W:=Y v;rw[f5]at V;rw[f6]at W;have t1:T.maps[u]?=some ⟨H.map zs,eu⟩:=V;have t2:T.maps[v]?=some ⟨I.map zs,ev⟩:=W
  have cv:u<d:=by omega
  have cQ:=(th.1 t1).2;have cS:=(th.1 t2).2;have b8:=(th.1 f1).2;have b9:=(th.1 f2).2;have ca:=(th.1 f3).2;have cb:=(th.1 f4).2;have cc:=(th.1 f7).2;have cd:=(th.1 f8).2;have cf:=(th.1 f9).2;have c2:=(th.1 fa).2;have cg:=(th.1 fb).2;have c3:=(th.1 fc).2
  have n3:lv.length=lu.length:=by omega
  have n4:¬((lu.length:Int)<2):=by omega
  have n5:j<lu.length:=by omega
  have n6:j+1<lu.length:=by omega
  clear c cE V W ah ar hv hp qL Y;obtain⟨jj,a6⟩:∃jj,jj=j+1:=⟨_,rfl⟩
  have cT:i64.wrap ((j:Int)+1)=(jj:Int):=by rw[a6,w4];omega
  rw[<-a6]at fa fc n6;have O:lu[jj]=(g:Int):=(th.1 fa).2;have n7:jj<lv.length:=(th.1 fc).1;have Q:lv[jj]=(g':Int):=(th.1 fc).2
  have n8:j<lv.length:=by omega
  clear c2 c3 a6 w4;refine Dp func4 λC hP hN=>?_;apply SE (C:=C) (P:=λst=>st.t 15=.pv (.sl (X.map aW))/\st.t 16=.pv (aB Bs)/\st.t 17=.pv (.sl (T.maps.map bp))/\st.t 21=.pv (.sl (q.map zs))/\st.t 23=.pv (Z u)/\st.t 24=.pv (Z v)/\st.t 4=.pv (Z tick)/\st.h 26=none)
  .intro key
   rcases ak with⟨bq,e1,e2⟩|⟨bq,e1,e2⟩
   .have M:(b0:Int)<a0:=by omega
    with_reducible iterate 38 any_goals (first|refine Sp.h ?_|((first|refine Wd ?_|refine Ss.h ?_|refine Sc.h (c0) ?_|refine Sc.h (cX) ?_|refine Sc.h (cC) ?_|refine Sc.h (cA) ?_|refine Sc.h (cB) ?_|refine Sc.h (cO) ?_|refine Sc.h (cP) ?_|refine Sc.h (b4) ?_|refine Sc.h (b5) ?_|(refine Sb.h ?_ ?_ ?_<;>(try intro hgd)<;>try exact Xy))<;>simp -implicitDefEqProofs (maxSteps:=2000000) [hP,hN,ad,aj,a8,xl,bl,ql,J,K,w0,w1,w2,w5,bq,M,m1,m2]<;>try refine Ya ?_)|refine X2 ?_ ?_|(refine Xd ?_ ?_<;>intro hcd<;>try exact Xx))
    refine key _ ?_;simp[e1,e2]
   .have M:¬(b0:Int)<a0:=by omega
    with_reducible iterate 38 any_goals (first|refine Sp.h ?_|((first|refine Wd ?_|refine Ss.h ?_|refine Sc.h (c0) ?_|refine Sc.h (cX) ?_|refine Sc.h (cC) ?_|refine Sc.h (cA) ?_|refine Sc.h (cB) ?_|refine Sc.h (cO) ?_|refine Sc.h (cP) ?_|refine Sc.h (b4) ?_|refine Sc.h (b5) ?_|(refine Sb.h ?_ ?_ ?_<;>(try intro hgd)<;>try exact Xy))<;>simp -implicitDefEqProofs (maxSteps:=2000000) [hP,hN,ad,aj,a8,xl,bl,ql,J,K,w0,w1,w2,w5,bq,M,m1,m2]<;>try refine Ya ?_)|refine X2 ?_ ?_|(refine Xd ?_ ?_<;>intro hcd<;>try exact Xx))
    refine key _ ?_;simp[e1,e2]
  .rintro st ⟨ch,ck,cm,cn,cp,cq,g4,cx⟩
   with_reducible repeat' (first|refine Sp.h ?_|((with_unfolding_all refine WP.fldAtG (hn:=[]) 10 rfl rfl ?_);simp -implicitDefEqProofs (maxSteps:=2000000) [hP,hN,ch,ck,cm,cn,cp,cq,g4,cx,xl,bl,ql,J,K,w3,cT,cv,b3,n3,n4,n5,n6,n7,n8,t1,t2,cQ,cS,f1,f2,f3,f4,b8,b9,ca,cb,f7,f8,cc,cd,f9,fa,fb,fc,cf,O,cg,Q,k1,k2,k3,k4,x1,x2,x3,x4,y1,y2,y3,y4])|((first|refine Wd ?_|refine Ss.h ?_|refine Sc.h (c0) ?_|refine Sc.h (b7) ?_|refine Sc.h (cV) ?_|refine Sc.h (d1) ?_|refine Sc.h (d2) ?_|refine Sc.h (cU) ?_|(refine Sb.h ?_ ?_ ?_<;>(try intro hgd)<;>try exact Xy))<;>simp -implicitDefEqProofs (maxSteps:=2000000) [hP,hN,ch,ck,cm,cn,cp,cq,g4,cx,xl,bl,ql,J,K,w3,cT,cv,b3,n3,n4,n5,n6,n7,n8,t1,t2,cQ,cS,f1,f2,f3,f4,b8,b9,ca,cb,f7,f8,cc,cd,f9,fa,fb,fc,cf,O,cg,Q,k1,k2,k3,k4,x1,x2,x3,x4,y1,y2,y3,y4]<;>try refine Ya ?_)|refine X2 ?_ ?_|(refine Xd ?_ ?_<;>intro hcd<;>try exact Xx))
   refine⟨by simp[dR],0,1,[Z 1,.sl (cD.map jn),Z cM,Z cN,.sl [],Z G.pair,zs G.a,zs G.b],.int .i64 1,by rw[hP];exact P7,by simp,rfl,by rw[hN];kernel_rfl,?_⟩;simp -implicitDefEqProofs (maxSteps:=2000000) [hP,hN]
   with_reducible repeat' (first|refine Sp.h ?_|((first|refine Wd ?_|refine Ss.h ?_|(refine Sb.h ?_ ?_ ?_<;>(try intro hgd)<;>try exact Xy))<;>simp -implicitDefEqProofs (maxSteps:=2000000) [hP,hN]<;>try refine Ya ?_)|refine X2 ?_ ?_|(refine Xd ?_ ?_<;>intro hcd<;>try exact Xx))
end Go.Ab
