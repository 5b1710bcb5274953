/- The contracts and facts that the laws of this seat need, in one text (KR8, KR9, KR10, KR11, KR12, KR13, KR14, KR15, KR16, KR17, KR18, KR19, KR20, De1, De4, Ck0, De5, Dc9, Dl1, Ru2, So1). -/
import Derived.Test.YtdbgcnplnhmjgaaGreatS11
set_option linter.all false
set_option maxRecDepth 10000
set_option maxHeartbeats 16000000
namespace Go.Ab
open Go.Proofs
variable {PR:List (Nat×Nat)}{PT:List (List ax)}{s:Sce}{ws:List Int}
theorem S6(n:Nat)(hn:n<4611686018427387904):ab Tryz.prog 288 [.pv (Z n)] [] [] (.pv (Z (dQ n))):=by
 by_cases h0:n=0
 .subst h0
  have hs:dQ 0=0:=by decide +kernel
  rw[hs];refine Dp Tryz.func288 ?_;intro C hP hN;simp only[Tryz.f288]at hN|-;exact Gy
 have hn1:¬(n:Int)<1:=by omega
 have hn1':¬n<1:=by omega
 have hsq:=sH (n:=n) (by omega);refine Dp Tryz.func288 ?_;intro C hP hN;simp only[Tryz.f288]at hN|-;refine Gz ?_;refine WP.loopN [] 32 (λi st=>∃lo hi:Nat,st.t 0=.pv (Z n)∧st.t 3=.pv (Z lo)∧st.t 4=.pv (Z hi)∧1<=lo∧lo<hi∧hi<=4294967296∧lo*lo<=n∧n<hi*hi∧hi-lo<=2^(32-i)) ⟨1,4294967296,by simp;omega⟩ ?_;rintro i st hi ⟨lo,hi2,g0,g3,g4,b1,b2,b3,b4,b5,b6⟩;have w1:IntKind.i64.wrap ((hi2:Int)-(lo:Int))=((hi2-lo:Nat):Int):=(aa (by omega) (by omega)).trans (by omega);by_cases hc:1<hi2-lo
 .have hi32:i<32:=by
   by_cases h:i<32
   .exact h
   .have:i=32:=by omega
    subst this;simp at b6;omega
  have hp:2^(32-i)=2*2^(31-i):=by
   rw[show 32-i=(31-i)+1 by omega,VR];omega
  rw[hp]at b6;obtain⟨m,hm⟩:∃m:Nat,m=lo+(hi2-lo)/2:=⟨_,rfl⟩
  have hc':(1:Int)<((hi2-lo:Nat):Int):=by omega
  obtain⟨hf,hhf⟩:∃hf:Nat,hf=(hi2-lo)/2:=⟨_,rfl⟩
  have w2:IntKind.i64.wrap ((((hi2-lo:Nat):Int)).tdiv 2)=(hf:Int):=by
   rw[Kq (by omega)];exact(aa (by omega) (by omega)).trans (by omega)
  have w3:IntKind.i64.wrap ((lo:Int)+(hf:Int))=(m:Int):=(aa (by omega) (by omega)).trans (by omega)
  have hm0:0<m:=by omega
  have hmne:¬(m:Int)=0:=by omega
  have hmne':¬m=0:=by omega
  obtain⟨qt,hqt⟩:∃qt:Nat,qt=n/m:=⟨_,rfl⟩
  have hqn:qt<=n:=by rw[hqt];exact Nat.div_le_self n m
  have w4:IntKind.i64.wrap ((n:Int).tdiv (m:Int))=(qt:Int):=by
   rw[Kq (by omega),<-Int.natCast_ediv,<-hqt];exact aa (by omega) (by omega)
  have w5:IntKind.i64.wrap (((hi2-lo:Nat):Int)/2)=(hf:Int):=(aa (by omega) (by omega)).trans (by omega)
  have w6:IntKind.i64.wrap ((n:Int)/(m:Int))=(qt:Int):=by
   rw[<-Int.natCast_ediv,<-hqt];exact aa (by omega) (by omega)
  by_cases hle:m<=qt
  .have hmm:m*m<=n:=(VF hm0).1 (hqt▸hle)
   have hle':(m:Int)<=(qt:Int):=by omega
   with_reducible repeat' (first|refine Sp.h ?_|((first|refine Ss.h ?_|(refine Sb.h ?_ ?_ ?_<;>(try intro hgd)<;>try exact Xy))<;>simp -implicitDefEqProofs (maxSteps:=2000000) [hP,hN,g0,g3,g4,w1,w2,w3,w4,w5,w6,hc,hc',hmne,hmne',hle,hle'])|refine X2 ?_ ?_|(refine Xd ?_ ?_<;>intro hcd<;>try exact Xx))
   exact⟨hi32,m,rfl,hi2,rfl,by omega,by omega,by omega,by omega,by omega,by omega⟩
  .have hmm:n<m*m:=by
    rcases Nat.lt_or_ge n (m*m)with h|h
    .exact h
    .exact absurd (hqt▸(VF hm0).2 h) hle
   have hle':¬(m:Int)<=(qt:Int):=by omega
   with_reducible repeat' (first|refine Sp.h ?_|((first|refine Ss.h ?_|(refine Sb.h ?_ ?_ ?_<;>(try intro hgd)<;>try exact Xy))<;>simp -implicitDefEqProofs (maxSteps:=2000000) [hP,hN,g0,g3,g4,w1,w2,w3,w4,w5,w6,hc,hc',hmne,hmne',hle,hle'])|refine X2 ?_ ?_|(refine Xd ?_ ?_<;>intro hcd<;>try exact Xx))
   exact⟨hi32,lo,rfl,m,rfl,by omega,by omega,by omega,by omega,by omega,by omega⟩
 .have hhi:hi2=lo+1:=by omega
  subst hhi;have he:lo=dQ n:=Cb b4 b5 hsq.1 hsq.2
  have hc':¬(1:Int)<((lo+1-lo:Nat):Int):=by omega
  exact Gy
  all_goals simp[he]
theorem S7(n:Nat)(hn:n<4611686018427387904):ab Tryz.prog 267 [.pv (Z n)] [] [] (.pv (Z (tx n))):=by
 have cr:=S6 n hn;have hsq:=sH (n:=n) (by omega);have hsm:=tS hn
 have hd:tx n=if dQ n*dQ n<n then dQ n+1 else dQ n:=rfl
 have w1:IntKind.i64.wrap ((dQ n:Int)*(dQ n:Int))=((dQ n*dQ n:Nat):Int):=by
  rw[<-Int.natCast_mul];exact aa (by omega) (by omega)
 have w2:IntKind.i64.wrap ((dQ n:Int)+1)=((dQ n+1:Nat):Int):=(aa (by omega) (by omega)).trans (by omega);rw[hd];generalize dQ n=r at *;by_cases h0:0<n
 .have h0':(0:Int)<(n:Int):=by omega
  by_cases hc:r*r<n
  .have hc':((r*r:Nat):Int)<(n:Int):=by omega
   rw[IR hc];refine Dp Tryz.func267 ?_;intro C hP hN;simp only[Tryz.f267]at hN|-;exact Gy
  .have hc':¬((r*r:Nat):Int)<(n:Int):=by omega
   rw[Ik hc];refine Dp Tryz.func267 ?_;intro C hP hN;simp only[Tryz.f267]at hN|-;exact Gy
 .have h0':¬(0:Int)<(n:Int):=by omega
  rw[Ik (by omega)];refine Dp Tryz.func267 ?_;intro C hP hN;simp only[Tryz.f267]at hN|-;exact Gy
theorem OM(v:Vc):ab Tryz.prog 224 [.pv (au v)] [] [] (.pv (Z (gj v))):=by
 have cu:=Bl v;rw[uo]at cu
 cases hu:aW v with
 |false=>
  rw[hu]at cu
  have hr:gj v=0:=by simp[gj,hu]
  rw[hr];refine Dp Tryz.func224 ?_;intro C hP hN;simp only[Tryz.f224]at hN|-;exact Gy
 |true=>
  rw[hu]at cu
  have hn:aE 16384 v=true:=by simp only[aW,An]at hu;exact hu.1
  have hs:=II hn
  have hr:gj v=(tx (xi v):Int):=by simp[gj,hu]
  have cr:=S7 (xi v) (by omega);have h1:=yi (de.1 hn).1;have h2:=yi (de.1 hn).2.1;have h3:=yi (de.1 hn).2.2;have q1:=bZ (a:=v.1) (b:=v.1) 16384 16384 (by omega) (by omega) (by omega) (by omega);have q2:=bZ (a:=v.2.1) (b:=v.2.1) 16384 16384 (by omega) (by omega) (by omega) (by omega);have q3:=bZ (a:=v.2.2) (b:=v.2.2) 16384 16384 (by omega) (by omega) (by omega) (by omega);have p1:=Kl v.1;have p2:=Kl v.2.1;have p3:=Kl v.2.2;have w1:IntKind.i64.wrap (v.1*v.1)=v.1*v.1:=aa;have w2:IntKind.i64.wrap (v.2.1*v.2.1)=v.2.1*v.2.1:=aa;have w3:IntKind.i64.wrap (v.2.2*v.2.2)=v.2.2*v.2.2:=aa;have w4:IntKind.i64.wrap (v.1*v.1+v.2.1*v.2.1)=v.1*v.1+v.2.1*v.2.1:=aa;have w5:IntKind.i64.wrap (v.1*v.1+v.2.1*v.2.1+v.2.2*v.2.2)=(xi v:Int):=(aa (by omega) (by omega)).trans (by unfold xi;omega);rw[hr];refine Dp Tryz.func224 ?_;intro C hP hN;simp only[Tryz.f224]at hN|-;exact Gy
theorem Ly{n0 n1 n2 x0 x1 x2 x3 x4 x5:Int}(hu:aW (n0,n1,n2)=true)(hv:du ((x0,x1),(x2,x3),(x4,x5))=true):ab Tryz.prog 266 [.pv (au (n0,n1,n2)),.pv (V6 x0 x1 x2 x3 x4 x5)] [] [] (.pv (.tup [Z (gU (n0,n1,n2) ((x0,x1),(x2,x3),(x4,x5))),Z (gV (n0,n1,n2) ((x0,x1),(x2,x3),(x4,x5)))])):=by
 have cu:=Bl (n0,n1,n2);rw[uo,hu]at cu;have cr:=Cg (x0:=x0) (x1:=x1) (x2:=x2) (x3:=x3) (x4:=x4) (x5:=x5);rw[hv]at cr
 have hn:aE 16384 (n0,n1,n2)=true:=by simp only[aW,An]at hu;exact hu.1
 have i:=de.1 hn;have j:=gJ.1 hv;have m0:=oP i.1 j.1;have m1:=oP i.2.1 j.2.1;have m2:=oP i.2.2 j.2.2;simp only[qW,qX]at m0 m1 m2;have hlo:gU (n0,n1,n2) ((x0,x1),(x2,x3),(x4,x5))=min (n0*x0) (n0*x1)+min (n1*x2) (n1*x3)+min (n2*x4) (n2*x5):=rfl;have hhi:gV (n0,n1,n2) ((x0,x1),(x2,x3),(x4,x5))=max (n0*x0) (n0*x1)+max (n1*x2) (n1*x3)+max (n2*x4) (n2*x5):=rfl;rw[hlo,hhi];have w:∀y:Int,-100000000000000<=y->y<=100000000000000->IntKind.i64.wrap y=y:=λy a b=>aa (by omega) (by omega);have a0:=w (n0*x0) (by omega) (by omega);have a1:=w (n0*x1) (by omega) (by omega);have a2:=w (n1*x2) (by omega) (by omega);have a3:=w (n1*x3) (by omega) (by omega);have a4:=w (n2*x4) (by omega) (by omega);have a5:=w (n2*x5) (by omega) (by omega)
 have fm:∀a b:Int,(if b<a then b else a)=min a b:=λa b=>by omega
 have fM:∀a b:Int,(if a<b then b else a)=max a b:=λa b=>by omega
 have b0:=w (min (n0*x0) (n0*x1)) (by omega) (by omega);have b1:=w (min (n0*x0) (n0*x1)+min (n1*x2) (n1*x3)) (by omega) (by omega);have b2:=w (min (n0*x0) (n0*x1)+min (n1*x2) (n1*x3)+min (n2*x4) (n2*x5)) (by omega) (by omega);have d0:=w (max (n0*x0) (n0*x1)) (by omega) (by omega);have d1:=w (max (n0*x0) (n0*x1)+max (n1*x2) (n1*x3)) (by omega) (by omega);have d2:=w (max (n0*x0) (n0*x1)+max (n1*x2) (n1*x3)+max (n2*x4) (n2*x5)) (by omega) (by omega);refine Dp Tryz.func266 ?_;intro C hP hN;simp only[Tryz.f266]at hN|-;refine Gz ?_;refine WP.loopN [] 3 (λk st=>st.t 2=.ptr 2 0∧st.t 3=.ptr 3 0∧st.h 2=some (.box [.pv (Z n0),.pv (Z n1),.pv (Z n2)] true false)∧st.h 3=some (.box [.pv (Z x0),.pv (Z x1),.pv (Z x2),.pv (Z x3),.pv (Z x4),.pv (Z x5)] true false)∧st.t 8=.pv (Z k)∧st.t 6=.pv (Z (if k=0 then 0 else if k=1 then min (n0*x0) (n0*x1)else if k=2 then min (n0*x0) (n0*x1)+min (n1*x2) (n1*x3)else min (n0*x0) (n0*x1)+min (n1*x2) (n1*x3)+min (n2*x4) (n2*x5)))∧st.t 7=.pv (Z (if k=0 then 0 else if k=1 then max (n0*x0) (n0*x1)else if k=2 then max (n0*x0) (n0*x1)+max (n1*x2) (n1*x3)else max (n0*x0) (n0*x1)+max (n1*x2) (n1*x3)+max (n2*x4) (n2*x5)))) (by simp) ?_;rintro k st hk ⟨g2,g3,hb2,hb3,g8,g6,g7⟩;rcases cD hk with rfl|rfl|rfl|rfl
 all_goals (simp at g6 g7 g8)
 all_goals
  exact Gy
theorem S8(n:Vc)(xs:List ax)(hl:xs.length<=9223372036854775807):ab Tryz.prog 221 [.pv (au n),.pv (aL xs)] [] [] (.pv (.tup (if aW n&&aB xs then[Z (gW n xs).1,Z (gW n xs).2,B true]else[Z 0,Z 0,B false]))):=by
 have cu:=Bl n;rw[uo]at cu;have cp:=xm xs hl
 cases hu:aW n with
 |false=>
  rw[hu]at cu;cases hp:aB xs<;>rw[hp]at cp
  all_goals
   refine Dp Tryz.func221 ?_;intro C hP hN;simp only[Tryz.f221]at hN|-;exact Gy
 |true=>
 rw[hu]at cu
 cases hp:aB xs with
 |false=>
  rw[hp]at cp;refine Dp Tryz.func221 ?_;intro C hP hN;simp only[Tryz.f221]at hN|-;exact Gy
 |true=>
 rw[hp]at cp;obtain⟨hall,h8,_⟩:=cL hp;have hd:gW n xs=iu (gU n) ft xs xs.length:=rfl;rw[hd];refine Dp Tryz.func221 ?_;intro C hP hN;simp only[Tryz.f221]at hN|-;refine Gz ?_;refine WP.loopN [] xs.length (λi st=>st.t 2=.ptr 2 0∧st.h 2=some (.box [.pv (Z n.1),.pv (Z n.2.1),.pv (Z n.2.2)] true false)∧st.t 1=.pv (aL xs)∧st.t 9=.pv (Z i)∧st.t 7=.pv (Z (iu (gU n) ft xs i).1)∧st.t 8=.pv (Z (iu (gU n) ft xs i).2)) (by simp[iu]) ?_;rintro i st hi ⟨g2,hb2,g1,g9,g7,g8⟩;by_cases hlt:i<xs.length
 .have hw:=al hlt (by omega)
  have hlt':(i:Int)<(xs.length:Int):=by omega
  generalize hxe:xs[i]=v at *
  have hx:xs[i]?=some v:=by rw[an hlt,hxe]
  have hpv:du v=true:=Ij.1 hall v (HW hx);have cd:ab Tryz.prog 266 [.pv (au n),.pv (bY v)] [] [] (.pv (.tup [Z (gU n v),Z (gV n v)])):=Ly hu hpv;have hs:=xj (val:=gU n) (bet:=ft) hx;rw[hs];by_cases h0:i=0
  .subst h0
   exact Gy
  .have h0':((i:Int)==0)=false:=by simp;omega
   generalize hq:iu (gU n) ft xs i=q at *;obtain⟨q1,q2⟩:=q;by_cases hc:gU n v<q1
   .have hb:ft (gU n v) q1=true:=by simp only[ft,HX];exact hc
    simp only[hb,or_true,J4]at hs|-;exact Gy
   .have hb:ft (gU n v) q1=false:=by simp only[ft,Jw];exact hc
    simp only[hb,h0,IA,or_self,JE]at hs|-;exact Gy
 .have hlt':¬(i:Int)<(xs.length:Int):=by omega
  have hin:i=xs.length:=by omega
  subst hin;exact Gy
theorem S9(n:Vc)(xs:List ax)(hl:xs.length<=9223372036854775807):ab Tryz.prog 222 [.pv (au n),.pv (aL xs)] [] [] (.pv (.tup (if aW n&&aB xs then[Z (gX n xs).1,Z (gX n xs).2,B true]else[Z 0,Z 0,B false]))):=by
 have cu:=Bl n;rw[uo]at cu;have cp:=xm xs hl
 cases hu:aW n with
 |false=>
  rw[hu]at cu;cases hp:aB xs<;>rw[hp]at cp
  all_goals
   refine Dp Tryz.func222 ?_;intro C hP hN;simp only[Tryz.f222]at hN|-;exact Gy
 |true=>
 rw[hu]at cu
 cases hp:aB xs with
 |false=>
  rw[hp]at cp;refine Dp Tryz.func222 ?_;intro C hP hN;simp only[Tryz.f222]at hN|-;exact Gy
 |true=>
 rw[hp]at cp;obtain⟨hall,h8,_⟩:=cL hp;have hd:gX n xs=iu (gV n) fu xs xs.length:=rfl;rw[hd];refine Dp Tryz.func222 ?_;intro C hP hN;simp only[Tryz.f222]at hN|-;refine Gz ?_;refine WP.loopN [] xs.length (λi st=>st.t 2=.ptr 2 0∧st.h 2=some (.box [.pv (Z n.1),.pv (Z n.2.1),.pv (Z n.2.2)] true false)∧st.t 1=.pv (aL xs)∧st.t 9=.pv (Z i)∧st.t 7=.pv (Z (iu (gV n) fu xs i).1)∧st.t 8=.pv (Z (iu (gV n) fu xs i).2)) (by simp[iu]) ?_;rintro i st hi ⟨g2,hb2,g1,g9,g7,g8⟩;by_cases hlt:i<xs.length
 .have hw:=al hlt (by omega)
  have hlt':(i:Int)<(xs.length:Int):=by omega
  generalize hxe:xs[i]=v at *
  have hx:xs[i]?=some v:=by rw[an hlt,hxe]
  have hpv:du v=true:=Ij.1 hall v (HW hx);have cd:ab Tryz.prog 266 [.pv (au n),.pv (bY v)] [] [] (.pv (.tup [Z (gU n v),Z (gV n v)])):=Ly hu hpv;have hs:=xj (val:=gV n) (bet:=fu) hx;rw[hs];by_cases h0:i=0
  .subst h0
   exact Gy
  .have h0':((i:Int)==0)=false:=by simp;omega
   generalize hq:iu (gV n) fu xs i=q at *;obtain⟨q1,q2⟩:=q;by_cases hc:q1<gV n v
   .have hb:fu (gV n v) q1=true:=by simp only[fu,HX];exact hc
    simp only[hb,or_true,J4]at hs|-;exact Gy
   .have hb:fu (gV n v) q1=false:=by simp only[fu,Jw];exact hc
    simp only[hb,h0,IA,or_self,JE]at hs|-;exact Gy
 .have hlt':¬(i:Int)<(xs.length:Int):=by omega
  have hin:i=xs.length:=by omega
  subst hin;exact Gy
theorem Bz(r:Int):ab Tryz.prog 223 [.pv (Z r)] [] [] (.pv (B (bA r 0 1048576))):=by
 refine Dp Tryz.func223 ?_;intro C hP hN;simp only[Tryz.f223]at hN|-
 with_reducible repeat' (first|refine Sp.h ?_|((first|refine Ss.h ?_|(refine Sb.h ?_ ?_ ?_<;>(try intro hgd)<;>try exact Xy))<;>simp -implicitDefEqProofs (maxSteps:=2000000) [hP,hN])|refine X2 ?_ ?_|(refine Xd ?_ ?_<;>intro hcd<;>try exact Xx))
 all_goals (first|(simp_all[bA];done)|((try simp_all[bA])<;>(try omega)<;>grind))
theorem Ta(n:Vc)(a:List ax)(ra:Int)(b:List ax)(rb:Int)(hl:a.length<=9223372036854775807)(hl':b.length<=9223372036854775807):ab Tryz.prog 160 [.pv (au n),.pv (aL a),.pv (Z ra),.pv (aL b),.pv (Z rb)] [] [] (.pv (.tup (if lz n a ra b rb then[Z (mz n a ra b rb),B true]else[Z 0,B false]))):=by
 have c1:=S8 n a hl;have c2:=S9 n b hl';have c3:=Bz ra;have c4:=Bz rb;have c5:=OM n
 have hm:lz n a ra b rb=(aB a&&bA ra 0 1048576&&(aB b&&bA rb 0 1048576)&&aW n):=by
  simp only[lz,p9,bA,Bool.and_assoc]
 have nr:=vN n;have hI:mz n a ra b rb=(gW n a).1-(gX n b).1-gj n*(ra+rb):=rfl;cases hu:aW n<;>cases hpa:aB a<;>cases hpb:aB b<;>cases hra:bA ra 0 1048576<;>cases hrb:bA rb 0 1048576
 case true.true.true.true.true=>
  rw[hu,hpa,hpb,hra,hrb]at hm;rw[hu,hpa]at c1;rw[hu,hpb]at c2;rw[hra]at c3;rw[hrb]at c4
  have hn:aE 16384 n=true:=by simp only[aW,An]at hu;exact hu.1
  have r1:=Cc (n:=n) hn (cL hpa).1;have r2:=Cd (n:=n) hn (cL hpb).1;simp only[bA,An,HX]at hra hrb;have r3:=bZ (a:=gj n) (b:=ra+rb) 32768 2097152 (by omega) (by omega) (by omega) (by omega);have w1:IntKind.i64.wrap (ra+rb)=ra+rb:=aa;have w2:IntKind.i64.wrap (gj n*(ra+rb))=gj n*(ra+rb):=aa;have w3:IntKind.i64.wrap ((gW n a).1-(gX n b).1)=(gW n a).1-(gX n b).1:=aa;have w4:IntKind.i64.wrap ((gW n a).1-(gX n b).1-gj n*(ra+rb))=(gW n a).1-(gX n b).1-gj n*(ra+rb):=aa;rw[hm,hI];simp only[PC,J4]at c1 c2|-;generalize gW n a=x at *;generalize gX n b=y at *;generalize gj n=z at *;refine Dp Tryz.func160 ?_;intro C hP hN;simp only[Tryz.f160]at hN|-;exact Gy
 all_goals (
  rw[hu,hpa,hpb,hra,hrb]at hm;rw[hu,hpa]at c1;rw[hu,hpb]at c2;rw[hra]at c3;rw[hrb]at c4;rw[hm];simp only[PC,PI,Mi,KA,QR,J4,IA,JE]at c1 c2|-;clear hm hI nr c5;generalize gW n a=x at *
  generalize gX n b=y at *)
 all_goals
  refine Dp Tryz.func160 ?_;intro C hP hN;simp only[Tryz.f160]at hN|-;exact Gy
theorem Tb(n:Vc)(a:List ax)(ra:Int)(b:List ax)(rb:Int)(hl:a.length<=9223372036854775807)(hl':b.length<=9223372036854775807):ab Tryz.prog 106 [.pv (au n),.pv (aL a),.pv (Z ra),.pv (aL b),.pv (Z rb)] [] [] (.pv (B (jM n a ra b rb))):=by
 have cm:=Ta n a ra b rb hl hl';have hs:jM n a ra b rb=(lz n a ra b rb&&decide (0<mz n a ra b rb)):=rfl;rw[hs];generalize mz n a ra b rb=m at *;cases hb:lz n a ra b rb<;>rw[hb]at cm<;>simp only[IA,JE,J4,Mi,KA]at cm|-
 all_goals
  refine Dp Tryz.func106 ?_;intro C hP hN;simp only[Tryz.f106]at hN|-;exact Gy
@[simp] theorem O6(a b e c d f:Int)(fb:Option dl):Ha (.pv (.val (.agg #[.int .i64 a,.int .i64 b,.int .i64 e]))) (.pv (.val (.agg #[.int .i64 c,.int .i64 d,.int .i64 f]))) fb=some (.pv (.val (.bool (a==c&&b==d&&e==f))),[]):=rfl
theorem Mz(h:∀w∈ws,0<=w):∀{i j:Nat},i<=j->bn ws i<=bn ws j:=λhij=>iK h hij
theorem IM{w:Int}:wB w=true↔0<=w∧w<=65536:=by
 simp only[wB,Mp,OR,Jw];omega
theorem Kn{l:List ax}(hp:aB l=true)(hle:ws.length=l.length):eD l ws=true↔(∀w∈ws,0<=w∧w<=65536)∧1<=bn ws ws.length∧bn ws ws.length<=65536:=by
 simp only[eD,hp,hle,Tl,KA,An,Ij,IM,Mp,OR,Jw];rw[<-hle];constructor
 all_goals rintro⟨h1,h2⟩;exact⟨h1,by omega,by omega⟩
set_option maxRecDepth 4000 in
theorem Ou(l:List ax)(ws:List Int)(hl:l.length<=9223372036854775807)(hws:ws.length<=9223372036854775807):ab Tryz.prog 225 [.pv (aL l),.pv (zs ws)] [] [] (.pv (gk l ws)):=by
 have cp:=xm l hl;have z6:bY bG=V6 0 0 0 0 0 0:=rfl
 have hno:eD l ws=false->gk l ws=.tup [V6 0 0 0 0 0 0,Z 0,B false]:=λhf=>by unfold gk;rw[hf];rfl
 cases hp:aB l with
 |false=>
  rw[hp]at cp;rw[hno (by simp[eD,hp])];refine Dp Tryz.func225 ?_;intro C hP hN;simp only[Tryz.f225]at hN|-;exact Gy
 |true=>
 rw[hp]at cp;by_cases hle:ws.length=l.length
 case neg=>
  have hle':((ws.length:Int)!=(l.length:Int))=true:=by simp;omega
  have hle2:¬(ws.length:Int)=(l.length:Int):=by omega
  rw[hno (by simp[eD,hle])];refine Dp Tryz.func225 ?_;intro C hP hN;simp only[Tryz.f225]at hN|-;exact Gy
 have hle':((ws.length:Int)!=(l.length:Int))=false:=by simp[hle]
 have hcb:=Kn hp hle;have hp':=hp;simp only[aB,An,HX]at hp';obtain⟨⟨hp1,hp2⟩,hp3⟩:=hp';have hpv:=Ij.1 hp3;refine Dp Tryz.func225 ?_;intro C hP hN;simp only[Tryz.f225]at hN|-;refine Gz ?_;refine WP.loopN [] ws.length (λi st=>st.t 0=.pv (aL l)∧st.t 1=.pv (zs ws)∧st.t 4=.ptr 4 0∧st.h 4=some (.box (b6 bG) true false)∧st.t 7=.pv (Z (bn ws i))∧st.t 8=.pv (Z i)∧st.h 9=none∧(∀k w,k<i->ws[k]?=some w->0<=w∧w<=65536)∧0<=bn ws i∧bn ws i<=65536) (by simp[bn,bG]) ?_;rintro i st hi ⟨g0,g1,g4,hb4,g7,g8,hb9,hq,t0,t1⟩;by_cases hlt:i<ws.length
 .have hw:=al hlt hws
  have hlt':(i:Int)<(ws.length:Int):=by omega
  generalize hxe:ws[i]=w at *
  have hx:ws[i]?=some w:=by rw[an hlt,hxe]
  have hT:bn ws (i+1)=bn ws i+w:=by simp only[bn,hx,JX]
  have wS:IntKind.i64.wrap (65536-bn ws i)=65536-bn ws i:=aa;have hall:=hcb.1;have hmono:=Mz (ws:=ws);by_cases h9:w<0
  .rw[hno (by
    cases hc:eD l ws with
    |false=>rfl
    |true=>have:=((hcb.1 hc).1 w (HW hx));omega)]
   exact Gy
  .by_cases h10:65536-bn ws i<w
   .rw[hno (by
     cases hc:eD l ws with
     |false=>rfl
     |true=>
      obtain⟨c1,c2,c3⟩:=hcb.1 hc;have:=hmono (λw hw=>(c1 w hw).1) (show i+1<=ws.length by omega)
      omega)]
    exact Gy
   .have wT:IntKind.i64.wrap (bn ws i+w)=bn ws i+w:=aa
    have hst:∀k u,k<i+1->ws[k]?=some u->0<=u∧u<=65536:=λk u hk hu=>by
     by_cases e:k=i
     .subst e;rw[hx]at hu;injection hu with hu;subst hu;omega
     .exact hq k u (by omega) hu
    have t2:0<=bn ws i+w∧bn ws i+w<=65536:=by omega
    rw[hT];generalize bn ws i=T at *;refine GT (gA g0 (gA g1 (gA g4 (gA hb4 (gA g7 (gA g8 (gA hb9 (gA hlt (gA hlt' (gA hx (gA hxe (gA h9 (gA wS (gA h10 (gA wT hw))))))))))))))) ?_
    all_goals exact⟨hst,t2⟩
 .have hin:i=ws.length:=by omega
  have hlt':¬(i:Int)<(ws.length:Int):=by omega
  have hall:∀w∈ws,0<=w∧w<=65536:=λw hw=>by
   obtain⟨k,hk⟩:=LV hw;exact hq k w (by have:=(th.1 hk).1;omega) hk
  subst hin;by_cases h1:bn ws ws.length<1
  .rw[hno (by
    cases hc:eD l ws with
    |false=>rfl
    |true=>have:=hcb.1 hc;omega)]
   exact Gy
  .have hcT:eD l ws=true:=hcb.2 ⟨hall,by omega,by omega⟩
   have hR:gk l ws=.tup [bY (dP l ws ws.length),Z (bn ws ws.length),B true]:=by unfold gk;rw[hcT];rfl
   rw[hR];have hwB:∀w∈ws,wB w=true:=λw hw=>IM.2 (hall w hw);have hrng:=zC hpv hwB;have hb4':st.h 4=some (.box [.pv (Z 0),.pv (Z 0),.pv (Z 0),.pv (Z 0),.pv (Z 0),.pv (Z 0)] true false):=hb4;clear hb4 hcb hno hq z6;generalize bn ws ws.length=T at *;refine Gz ?_;refine WP.loopN [] l.length (λi st=>st.t 0=.pv (aL l)∧st.t 1=.pv (zs ws)∧st.t 4=.ptr 4 0∧st.h 4=some (.box [.pv (Z 0),.pv (Z 0),.pv (Z 0),.pv (Z 0),.pv (Z 0),.pv (Z 0)] true false)∧st.t 7=.pv (Z T)∧st.t 9=.ptr 9 0∧st.h 9=some (.box (b6 (dP l ws i)) true false)∧st.t 10=.pv (Z i)) (by simp[dP,bG,g0,g1,g4,hb4',g7]) ?_;clear g0 g1 g4 hb4' g7 g8 hb9 hlt' hlt hi;rintro i st hi ⟨g0,g1,g4,hb4,g7,g9,hb9,g10⟩;by_cases hlt:i<l.length
   .have hw:=al hlt (by omega)
    have hlt':(i:Int)<(l.length:Int):=by omega
    have hltw:i<ws.length:=by omega
    generalize hxe:ws[i]=w at *
    have hx:ws[i]?=some w:=by rw[an hltw,hxe]
    generalize hye:l[i]=x at *
    have hy:l[i]?=some x:=by rw[an hlt,hye]
    have hwb:=hall w (HW hx);have hpx:=hpv x (HW hy);rw[gJ]at hpx
    have hS:dP l ws (i+1)=rv w (dP l ws i) x:=by simp only[dP,hx,hy]
    obtain⟨r1,r2,r3⟩:=hrng i;have a1:=iY (w:=w) (x:=x.1) hwb hpx.1 r1;have a2:=iY (w:=w) (x:=x.2.1) hwb hpx.2.1 r2;have a3:=iY (w:=w) (x:=x.2.2) hwb hpx.2.2 r3;clear hrng hall hwB hpv;generalize dP l ws i=S at *;generalize dP l ws (i+1)=S' at *;subst hS;have d1:(dK w S.1 x.1).1=S.1.1+w*x.1.1:=rfl;have d2:(dK w S.1 x.1).2=S.1.2+w*x.1.2:=rfl;have d3:(dK w S.2.1 x.2.1).1=S.2.1.1+w*x.2.1.1:=rfl;have d4:(dK w S.2.1 x.2.1).2=S.2.1.2+w*x.2.1.2:=rfl;have d5:(dK w S.2.2 x.2.2).1=S.2.2.1+w*x.2.2.1:=rfl;have d6:(dK w S.2.2 x.2.2).2=S.2.2.2+w*x.2.2.2:=rfl;rw[d1,d2]at a1;rw[d3,d4]at a2;rw[d5,d6]at a3;have u1:IntKind.i64.wrap (w*x.1.1)=w*x.1.1:=aa;have u2:IntKind.i64.wrap (w*x.1.2)=w*x.1.2:=aa;have u3:IntKind.i64.wrap (w*x.2.1.1)=w*x.2.1.1:=aa;have u4:IntKind.i64.wrap (w*x.2.1.2)=w*x.2.1.2:=aa;have u5:IntKind.i64.wrap (w*x.2.2.1)=w*x.2.2.1:=aa;have u6:IntKind.i64.wrap (w*x.2.2.2)=w*x.2.2.2:=aa;have v1:IntKind.i64.wrap (S.1.1+w*x.1.1)=S.1.1+w*x.1.1:=aa;have v2:IntKind.i64.wrap (S.1.2+w*x.1.2)=S.1.2+w*x.1.2:=aa;have v3:IntKind.i64.wrap (S.2.1.1+w*x.2.1.1)=S.2.1.1+w*x.2.1.1:=aa;have v4:IntKind.i64.wrap (S.2.1.2+w*x.2.1.2)=S.2.1.2+w*x.2.1.2:=aa;have v5:IntKind.i64.wrap (S.2.2.1+w*x.2.2.1)=S.2.2.1+w*x.2.2.1:=aa;have v6:IntKind.i64.wrap (S.2.2.2+w*x.2.2.2)=S.2.2.2+w*x.2.2.2:=aa;clear a1 a2 a3 r1 r2 r3 d1 d2 d3 d4 d5 d6;refine Gz ?_;refine WP.loopN [] 3 (λk st=>st.t 0=.pv (aL l)∧st.t 1=.pv (zs ws)∧st.t 4=.ptr 4 0∧st.h 4=some (.box [.pv (Z 0),.pv (Z 0),.pv (Z 0),.pv (Z 0),.pv (Z 0),.pv (Z 0)] true false)∧st.t 7=.pv (Z T)∧st.t 9=.ptr 9 0∧st.h 9=some (.box (lJ S x w k) true false)∧st.t 10=.pv (Z i)∧st.t 11=.pv (Z k)) (by simp[g0,g1,g4,hb4,g7,g9,hb9,g10,lJ]) ?_;clear g0 g1 g4 hb4 g7 g9 hb9 g10;rintro k st hk ⟨g0,g1,g4,hb4,g7,g9,hb9,g10,g11⟩;rcases cD hk with rfl|rfl|rfl|rfl
    all_goals (simp[lJ,dK]at hb9 g11)
    .skip
     with_reducible repeat' (first|refine Sp.h ?_|((first|refine Wd ?_|refine Ss.h ?_|(refine Sb.h ?_ ?_ ?_<;>(try intro hgd)<;>try exact Xy))<;>simp -implicitDefEqProofs (maxSteps:=2000000) [hP,hN,g0,g1,g4,hb4,g7,g9,hb9,g10,g11,hx,hxe,hy,hye,hlt,hltw,u1,u2,v1,v2,lJ,dK]<;>try refine Ya ?_)|refine X2 ?_ ?_|(refine Xd ?_ ?_<;>intro hcd<;>try exact Xx))
    .skip
     with_reducible repeat' (first|refine Sp.h ?_|((first|refine Wd ?_|refine Ss.h ?_|(refine Sb.h ?_ ?_ ?_<;>(try intro hgd)<;>try exact Xy))<;>simp -implicitDefEqProofs (maxSteps:=2000000) [hP,hN,g0,g1,g4,hb4,g7,g9,hb9,g10,g11,hx,hxe,hy,hye,hlt,hltw,u3,u4,v3,v4,lJ,dK]<;>try refine Ya ?_)|refine X2 ?_ ?_|(refine Xd ?_ ?_<;>intro hcd<;>try exact Xx))
    .skip
     with_reducible repeat' (first|refine Sp.h ?_|((first|refine Wd ?_|refine Ss.h ?_|(refine Sb.h ?_ ?_ ?_<;>(try intro hgd)<;>try exact Xy))<;>simp -implicitDefEqProofs (maxSteps:=2000000) [hP,hN,g0,g1,g4,hb4,g7,g9,hb9,g10,g11,hx,hxe,hy,hye,hlt,hltw,u5,u6,v5,v6,lJ,dK]<;>try refine Ya ?_)|refine X2 ?_ ?_|(refine Xd ?_ ?_<;>intro hcd<;>try exact Xx))
    .skip
     with_reducible repeat' (first|refine Sp.h ?_|((first|refine Wd ?_|refine Ss.h ?_|(refine Sb.h ?_ ?_ ?_<;>(try intro hgd)<;>try exact Xy))<;>simp -implicitDefEqProofs (maxSteps:=2000000) [hP,hN,g0,g1,g4,hb4,g7,g9,hb9,g10,g11,hlt,hw,rv,dK]<;>try refine Ya ?_)|refine X2 ?_ ?_|(refine Xd ?_ ?_<;>intro hcd<;>try exact Xx))
   .have hin:i=l.length:=by omega
    have hlt':¬(i:Int)<(l.length:Int):=by omega
    subst hin;rw[<-hle]at hb9;exact Gy
theorem Bv(x:Int)(h1:-4611686018427387904<=x)(h2:x<=4611686018427387904):ab Tryz.prog 227 [.pv (Z x)] [] [] (.pv (Z (max x (-x)))):=by
 have w1:IntKind.i64.wrap (-x)=-x:=aa;have w2:IntKind.i64.wrap (0-x)=-x:=(aa (n:=0-x) (by omega) (by omega)).trans (by omega)
 have fM:∀a b:Int,(if a<b then b else a)=max a b:=λa b=>by omega
 refine Dp Tryz.func227 ?_;intro C hP hN;simp only[Tryz.f227]at hN|-;exact Gy
theorem Ko(x y z r:Int):po [x,y,z] r=if x<=r∧y<=r∧z<=r then r*r-x*x-y*y-z*z else -1:=by
 unfold po
 have:[x,y,z].all (λx=>decide (x<=r))=decide (x<=r∧y<=r∧z<=r):=by simp[Bool.and_assoc]
 rw[this];simp[jC]
theorem Kp{u v:Iv}{T:Int}(hT:1<=T∧T<=65536)(h1:-281474976710656<=u.1-v.2∧u.1-v.2<=281474976710656)(h2:-281474976710656<=u.2-v.1∧u.2-v.1<=281474976710656):
 ab Tryz.prog 226 [.pv (Z (max (u.1-v.2) (max (-(u.1-v.2)) (max (u.2-v.1) (-(u.2-v.1)))))),.pv (Z T)] [] [] (.pv (Z (dE u v T)))∧0<=dE u v T:=by
 have hf:max (u.1-v.2) (max (-(u.1-v.2)) (max (u.2-v.1) (-(u.2-v.1))))=mL (u.1-v.2) (u.2-v.1):=by unfold mL;omega
 have hr:=vn h1 h2;have:=Em (mL (u.1-v.2) (u.2-v.1)) T (by omega);rw[sJ (by omega) (by omega) (by omega),FZ (by omega)]at this;rw[hf];exact⟨this,(yc hr.1 (by omega) hT.1 hT.2).1⟩
set_option maxRecDepth 4000 in
theorem SK(left right:List Int)(a:List ax)(ra:Int)(b:List ax)(rb:Int)(h1:left.length<=9223372036854775807)(h2:right.length<=9223372036854775807)(h3:a.length<=9223372036854775807)(h4:b.length<=9223372036854775807):ab Tryz.prog 161 [.pv (zs left),.pv (zs right),.pv (aL a),.pv (Z ra),.pv (aL b),.pv (Z rb)] [] [] (.pv (.tup [Z (lX left right a ra b rb),B (oH left right a ra b rb)])):=by
 have ca:=Ou a left h3 h1;have cb:=Ou b right h4 h2;have cra:=Bz ra;have crb:=Bz rb;have z6:bY bG=V6 0 0 0 0 0 0:=rfl;have hE:oH left right a ra b rb=(eD a left&&eD b right&&decide (bn left left.length=bn right right.length)&&bA ra 0 1048576&&bA rb 0 1048576):=rfl
 have hX:lX left right a ra b rb=if oH left right a ra b rb then po (fp (dP a left left.length) (dP b right right.length) (bn left left.length)) (ra+rb)else 0:=rfl
 rw[hX]
 cases hA:eD a left with
 |false=>
  rw[hA]at hE;simp only[Mi]at hE;rw[hE];simp only[IA,JE];simp only[gk,hA,IA,JE,z6]at ca;cases hB:eD b right
  all_goals (simp only[gk,hB,IA,JE,J4,z6]at cb)
  .skip
   refine Dp Tryz.func161 ?_;intro C hP hN;simp only[Tryz.f161]at hN|-;exact Gy
  .skip
   generalize dP b right right.length=V at *;generalize bn right right.length=T2 at *;refine Dp Tryz.func161 ?_;intro C hP hN;simp only[Tryz.f161]at hN|-;exact Gy
 |true=>
 simp only[gk,hA,J4]at ca
 cases hB:eD b right with
 |false=>
  rw[hB]at hE;simp only[Mi,PI]at hE;rw[hE];simp only[IA,JE];simp only[gk,hB,IA,JE,z6]at cb;generalize dP a left left.length=U at *;generalize bn left left.length=T at *;refine Dp Tryz.func161 ?_;intro C hP hN;simp only[Tryz.f161]at hN|-;exact Gy
 |true=>
 simp only[gk,hB,J4]at cb;have hUr:=vm hA;have hVr:=vm hB;have hTr:=DU hA;rw[hA,hB]at hE;simp only[KA]at hE;clear hX hA hB z6;generalize dP a left left.length=U at *;generalize dP b right right.length=V at *;generalize bn left left.length=T at *;generalize bn right right.length=T2 at *;by_cases hT:T=T2
 case neg=>
  have hT':(T !=T2)=true:=by simp[hT]
  rw[Ok hT]at hE;simp only[Mi]at hE;rw[hE];simp only[IA,JE];clear hUr hVr;refine Dp Tryz.func161 ?_;intro C hP hN;simp only[Tryz.f161]at hN|-;exact Gy
 subst hT;simp only[Tl,KA]at hE
 cases hra:bA ra 0 1048576 with
 |false=>
  rw[hra]at hE cra;simp only[Mi]at hE;rw[hE];simp only[IA,JE];clear hUr hVr;refine Dp Tryz.func161 ?_;intro C hP hN;simp only[Tryz.f161]at hN|-;exact Gy
 |true=>
 cases hrb:bA rb 0 1048576 with
 |false=>
  rw[hrb]at hE crb;rw[hra]at cra;simp only[PI]at hE;rw[hE];simp only[IA,JE];clear hUr hVr;refine Dp Tryz.func161 ?_;intro C hP hN;simp only[Tryz.f161]at hN|-;exact Gy
 |true=>
 rw[hra,hrb]at hE;rw[hra]at cra;rw[hrb]at crb;simp only[PC]at hE;rw[hE];simp only[J4];simp only[bA,An,HX]at hra hrb;obtain⟨re,hre⟩:∃re,re=ra+rb:=⟨_,rfl⟩;have wre:IntKind.i64.wrap (ra+rb)=re:=(aa (by omega) (by omega)).trans hre.symm;rw[<-hre];have hrr:=mW (x:=re) (m:=2097152) (by omega) (by omega);have wrr:IntKind.i64.wrap (re*re)=re*re:=aa;obtain⟨⟨⟨a1,a2⟩,a3,a4⟩,⟨⟨b1,b2⟩,b3,b4⟩,⟨c1,c2⟩,c3,c4⟩:=hUr;obtain⟨⟨⟨d1,d2⟩,d3,d4⟩,⟨⟨e1,e2⟩,e3,e4⟩,⟨f1,f2⟩,f3,f4⟩:=hVr;have k0:=Kp (u:=U.1) (v:=V.1) hTr (by omega) (by omega);have k1:=Kp (u:=U.2.1) (v:=V.2.1) hTr (by omega) (by omega);have k2:=Kp (u:=U.2.2) (v:=V.2.2) hTr (by omega) (by omega)
 have fM:∀a b:Int,(if a<b then b else a)=max a b:=λa b=>by omega
 have w00:IntKind.i64.wrap (U.1.1-V.1.2)=U.1.1-V.1.2:=aa;have w01:IntKind.i64.wrap (U.1.2-V.1.1)=U.1.2-V.1.1:=aa;have w10:IntKind.i64.wrap (U.2.1.1-V.2.1.2)=U.2.1.1-V.2.1.2:=aa;have w11:IntKind.i64.wrap (U.2.1.2-V.2.1.1)=U.2.1.2-V.2.1.1:=aa;have w20:IntKind.i64.wrap (U.2.2.1-V.2.2.2)=U.2.2.1-V.2.2.2:=aa;have w21:IntKind.i64.wrap (U.2.2.2-V.2.2.1)=U.2.2.2-V.2.2.1:=aa;have s00:=Bv (U.1.1-V.1.2) (by omega) (by omega);have s01:=Bv (U.1.2-V.1.1) (by omega) (by omega);have s10:=Bv (U.2.1.1-V.2.1.2) (by omega) (by omega);have s11:=Bv (U.2.1.2-V.2.1.1) (by omega) (by omega);have s20:=Bv (U.2.2.1-V.2.2.2) (by omega) (by omega);have s21:=Bv (U.2.2.2-V.2.2.1) (by omega) (by omega);clear a1 a2 a3 a4 b1 b2 b3 b4 c1 c2 c3 c4 d1 d2 d3 d4 e1 e2 e3 e4 f1 f2 f3 f4;have hg:fp U V T=[dE U.1 V.1 T,dE U.2.1 V.2.1 T,dE U.2.2 V.2.2 T]:=rfl;rw[hg,Ko];generalize dE U.1 V.1 T=x at *;generalize dE U.2.1 V.2.1 T=y at *;generalize dE U.2.2 V.2.2 T=z at *;obtain⟨k0,x0⟩:=k0;obtain⟨k1,y0⟩:=k1;obtain⟨k2,z0⟩:=k2
 have qx:x<=re->0<=x*x∧x*x<=4398046511104:=λh=>by have:=mW (x:=x) (m:=2097152) x0 (by omega);omega
 have qy:y<=re->0<=y*y∧y*y<=4398046511104:=λh=>by have:=mW (x:=y) (m:=2097152) y0 (by omega);omega
 have qz:z<=re->0<=z*z∧z*z<=4398046511104:=λh=>by have:=mW (x:=z) (m:=2097152) z0 (by omega);omega
 refine Dp Tryz.func161 ?_;intro C hP hN;simp only[Tryz.f161]at hN|-;refine GT (gA wre wrr) ?_;refine WP.loopN [] 3 (λk st=>st.t 3=.pv (Z ra)∧st.t 5=.pv (Z rb)∧st.t 14=.ptr 14 0∧st.h 14=some (.box [.pv (Z U.1.1),.pv (Z U.1.2),.pv (Z U.2.1.1),.pv (Z U.2.1.2),.pv (Z U.2.2.1),.pv (Z U.2.2.2)] true false)∧st.t 17=.ptr 17 0∧st.h 17=some (.box [.pv (Z V.1.1),.pv (Z V.1.2),.pv (Z V.2.1.1),.pv (Z V.2.1.2),.pv (Z V.2.2.1),.pv (Z V.2.2.2)] true false)∧st.t 15=.pv (Z T)∧st.t 21=.pv (Z k)∧st.t 20=.pv (Z (if k=0 then re*re else if k=1 then re*re-x*x else if k=2 then re*re-x*x-y*y else re*re-x*x-y*y-z*z))∧(0<k->x<=re)∧(1<k->y<=re)∧(2<k->z<=re)) (by simp) ?_;rintro k st hk ⟨g3,g5,g14,hb14,g17,hb17,g15,g21,g20,p0,p1,p2⟩;rcases cD hk with rfl|rfl|rfl|rfl
 all_goals (simp at g20 g21)
 .by_cases hm:re<x
  .have hres:(if x<=re∧y<=re∧z<=re then re*re-x*x-y*y-z*z else -1)=-1:=Ik (by omega)
   rw[hres];exact GS (gA g3 (gA g5 (gA g14 (gA hb14 (gA g17 (gA hb17 (gA g15 (gA g20 (gA g21 (gA fM (gA w00 (gA w01 (gA wre hm)))))))))))))
  .have q:=qx (by omega)
   have u1:IntKind.i64.wrap (x*x)=x*x:=aa;have u2:IntKind.i64.wrap (re*re-x*x)=re*re-x*x:=aa;refine GT (gA g3 (gA g5 (gA g14 (gA hb14 (gA g17 (gA hb17 (gA g15 (gA g20 (gA g21 (gA fM (gA w00 (gA w01 (gA wre (gA hm (gA u1 u2))))))))))))))) ?_
   all_goals omega
 .have p0':=p0 (by omega)
  have q':=qx p0';by_cases hm:re<y
  .have hres:(if x<=re∧y<=re∧z<=re then re*re-x*x-y*y-z*z else -1)=-1:=Ik (by omega)
   rw[hres];exact Gy
  .have q:=qy (by omega)
   have u1:IntKind.i64.wrap (y*y)=y*y:=aa;have u2:IntKind.i64.wrap (re*re-x*x-y*y)=re*re-x*x-y*y:=aa;refine GT (gA g3 (gA g5 (gA g14 (gA hb14 (gA g17 (gA hb17 (gA g15 (gA g20 (gA g21 (gA fM (gA w10 (gA w11 (gA wre (gA hm (gA u1 u2))))))))))))))) ?_
   all_goals omega
 .have p0':=p0 (by omega)
  have p1':=p1 (by omega);have q':=qx p0';have q'':=qy p1';by_cases hm:re<z
  .have hres:(if x<=re∧y<=re∧z<=re then re*re-x*x-y*y-z*z else -1)=-1:=Ik (by omega)
   rw[hres];exact Gy
  .have q:=qz (by omega)
   have u1:IntKind.i64.wrap (z*z)=z*z:=aa;have u2:IntKind.i64.wrap (re*re-x*x-y*y-z*z)=re*re-x*x-y*y-z*z:=aa;refine GT (gA g3 (gA g5 (gA g14 (gA hb14 (gA g17 (gA hb17 (gA g15 (gA g20 (gA g21 (gA fM (gA w20 (gA w21 (gA wre (gA hm (gA u1 u2))))))))))))))) ?_
   all_goals omega
 .have hres:(if x<=re∧y<=re∧z<=re then re*re-x*x-y*y-z*z else -1)=re*re-x*x-y*y-z*z:=IR ⟨p0 (by omega),p1 (by omega),p2 (by omega)⟩
  rw[hres];exact Gy
theorem SL(left right:List Int)(a:List ax)(ra:Int)(b:List ax)(rb:Int)(h1:left.length<=9223372036854775807)(h2:right.length<=9223372036854775807)(h3:a.length<=9223372036854775807)(h4:b.length<=9223372036854775807):ab Tryz.prog 107 [.pv (zs left),.pv (zs right),.pv (aL a),.pv (Z ra),.pv (aL b),.pv (Z rb)] [] [] (.pv (B (oH left right a ra b rb&&decide (0<=lX left right a ra b rb)))):=by
 have ce:=SK left right a ra b rb h1 h2 h3 h4;generalize lX left right a ra b rb=e at *;cases hb:oH left right a ra b rb<;>rw[hb]at ce
 all_goals
  refine Dp Tryz.func107 ?_;intro C hP hN;simp only[Tryz.f107]at hN|-;exact Gy
abbrev Lu(p:List ax)(r:Int):PV:=.agg [aL p,Z r]
def yP(SH:List Sh)(PT:List (List ax))(p:Nat×Nat):PV:=Lu (dT PT p.1) (dF SH p.1)
def yQ(SH:List Sh)(PT:List (List ax))(p:Nat×Nat):PV:=Lu (dT PT p.2) (dF SH p.2)
abbrev Eo(s:Sce)(bx:List Iv):PV:=.sl ((dL s).map (yP s.shs (fX s bx)))
abbrev Ep(s:Sce)(bx:List Iv):PV:=.sl ((dL s).map (yQ s.shs (fX s bx)))
theorem FY{α β:Type}(f:α->β){l:List α}{k:Nat}{v:α}(h:l[k]?=some v):(l.take (k+1)).map f=(l.take k).map f++[f v]:=by
 rw[U5,h,Uo];rfl
theorem IP{α β:Type}(f:α->β){l:List α}{k:Nat}(h:k<=l.length):((l.take k).map f).length=k:=by
 rw[Lf,MD];omega
theorem SP(s:Sce)(bx:List Iv)(hs:ScL s)(hbl:bx.length<=9223372036854775807):ab Tryz.prog 105 [.pv (eT s),.pv (iv bx)] [] [] (.pv (.tup (if gx s bx then[Eo s bx,Ep s bx,B true]else[.sl [],.sl [],B false]))):=by
 have cc:=IC s hs;have ci:=OK s.js s.ms bx hs.js hbl;have hd:gx s bx=(decide (gv s=0)&&kG s.js bx):=rfl;by_cases h0:gv s=0
 case neg=>
  have h0':(gv s !=0)=true:=by simp[h0]
  rw[Ok h0,Mi]at hd;rw[hd];refine Dp Tryz.func105 ?_;intro C hP hN;simp only[Tryz.f105]at hN|-;exact Gy
 have h0':(gv s !=0)=false:=by simp[h0]
 rw[L4 h0,KA]at hd
 cases hbx:kG s.js bx with
 |false=>
  rw[hbx]at hd ci;rw[hd];refine Dp Tryz.func105 ?_;intro C hP hN;simp only[Tryz.f105]at hN|-;exact Gy
 |true=>
 have cp:=S5 s bx hs h0 hbx;have cr:=RC s hs;rw[hbx]at hd ci;have hb:=GU hd;rw[hd];simp only[Eo,Ep,J4];have hfew:=hb.few;generalize dL s=PR at *;generalize fX s bx=PT at *;obtain⟨js,ms,SH,sks⟩:=s;simp only at *;refine Dp Tryz.func105 ?_;intro C hP hN;simp only[Tryz.f105]at hN|-;refine ud [8,9] (gA h0 h0') ?_;refine WP.loopN [] PR.length (λi st=>st.t 2=.ptr 2 0∧st.h 2=some (.box [.pv (.sl (js.map bC)),.pv (.sl (ms.map IT)),.pv (.sl (SH.map cT)),.pv (.sl (sks.map aR))] true false)∧st.t 7=.pv (.sl (PT.map aL))∧st.t 8=.arr 8 i∧st.h 8=some (.row 179 2 ((PR.take i).map (yP SH PT)) 0)∧st.t 9=.arr 9 i∧st.h 9=some (.row 179 2 ((PR.take i).map (yQ SH PT)) 0)∧st.t 10=.pv (.sl (PR.map ru))∧st.t 11=.pv (Z i)) (by simp) ?_;rintro k st hi ⟨g2,hb2,g7,g8,hb8,g9,hb9,g10,g11⟩;by_cases hlt:k<PR.length
 .have hwr:=al hlt (by omega)
  obtain⟨p,hp⟩:∃p,PR[k]?=some p:=⟨_,an hlt⟩;have eA:=FY (yP SH PT) hp;have eB:=FY (yQ SH PT) hp;have zA:=IP (yP SH PT) (Nat.le_of_lt hlt);have zB:=IP (yQ SH PT) (Nat.le_of_lt hlt);rw[eA,eB];generalize(PR.take k).map (yP SH PT)=RA at *;generalize(PR.take k).map (yQ SH PT)=RB at *;clear eA eB;obtain⟨hlt',hpe⟩:=th.1 hp;obtain⟨i,j⟩:=p;have hpr:=hb.prs _ (HW hp);simp only at hpr;have hl:=hb.len;have hxk:∀h,PR[k]'h=(i,j):=λ_=>hpe
  have i1:i<PT.length:=by omega
  have j1:j<PT.length:=by omega
  obtain⟨a,ha⟩:∃x,PT[i]?=some x:=⟨_,an i1⟩;obtain⟨b,hb'⟩:∃x,PT[j]?=some x:=⟨_,an j1⟩;obtain⟨u,hu⟩:∃x,SH[i]?=some x:=⟨_,an hpr.1⟩;obtain⟨v,hv⟩:∃x,SH[j]?=some x:=⟨_,an hpr.2⟩
  have hxa:∀h,PT[i]'h=a:=λh=>by rw[an h]at ha;exact ME ha
  have hxb:∀h,PT[j]'h=b:=λh=>by rw[an h]at hb';exact ME hb'
  have hxu:∀h,SH[i]'h=u:=λh=>by rw[an h]at hu;exact ME hu
  have hxv:∀h,SH[j]'h=v:=λh=>by rw[an h]at hv;exact ME hv
  have e1:yP SH PT (i,j)=.agg [aL a,Z u.rad]:=by simp[yP,dT,dF,ha,hu]
  have e2:yQ SH PT (i,j)=.agg [aL b,Z v.rad]:=by simp[yQ,dT,dF,hb',hv]
  rw[e1,e2];obtain⟨h1,h2⟩:=hpr
  have k1:(k+1)*32<=140737488355328:=by omega
  have k2:k<=9223372036854775806:=by omega
  skip
  exact Gy
 .have hin:k=PR.length:=by omega
  subst hin;rw[T3]at hb8 hb9;exact Gy
theorem Ow{SH:List Sh}{i:Nat}{p:Nat×Nat}(h:PR[i]?=some p):(PR.map (yP SH PT))[i]?=some (.agg [aL (dT PT p.1),Z (dF SH p.1)]):=by
 rw[Is,h];rfl
theorem Ox{SH:List Sh}{i:Nat}{p:Nat×Nat}(h:PR[i]?=some p):(PR.map (yQ SH PT))[i]?=some (.agg [aL (dT PT p.2),Z (dF SH p.2)]):=by
 rw[Is,h];rfl
theorem HP(s:Sce)(bx:List Iv)(ns:List Vc)(hs:ScL s)(hbl:bx.length<=9223372036854775807)(hn:ns.length<=9223372036854775807):ab Tryz.prog 46 [.pv (eT s),.pv (iv bx),.pv (aU ns)] [] [] (.pv (B (DZ s bx ns))):=by
 have cp:=SP s bx hs hbl;have hd:DZ s bx ns=(gx s bx&&yd s.shs (dL s) (fX s bx) ns):=rfl
 cases hp:gx s bx with
 |false=>
  rw[hp]at cp hd;simp only[IA,JE,Mi]at cp hd;rw[hd];refine Dp Tryz.func46 ?_;intro C hP hN;simp only[Tryz.f46]at hN|-;exact GS trivial
 |true=>
 rw[hp]at cp hd;simp only[J4,KA]at cp hd;have hb:=GU hp;rw[hd];simp only[Eo,Ep]at cp;generalize dL s=PR at *;generalize fX s bx=PT at *;generalize s.shs=SH at *;have hfew:=hb.few;have hAt:=λ(i:Nat)(p:Nat×Nat)(h:PR[i]?=some p)=>Ow (SH:=SH) (PT:=PT) h;have hBt:=λ(i:Nat)(p:Nat×Nat)(h:PR[i]?=some p)=>Ox (SH:=SH) (PT:=PT) h
 have hLA:(PR.map (yP SH PT)).length=PR.length:=by simp
 have hLB:(PR.map (yQ SH PT)).length=PR.length:=by simp
 generalize PR.map (yP SH PT)=LA at *;generalize PR.map (yQ SH PT)=LB at *;by_cases hle:ns.length=PR.length
 case neg=>
  have h1:((ns.length:Int)!=(PR.length:Int))=true:=by simp;omega
  have h2:¬(ns.length:Int)=(PR.length:Int):=by omega
  have hf:yd SH PR PT ns=false:=by simp[yd,hle]
  rw[hf];refine Dp Tryz.func46 ?_;intro C hP hN;simp only[Tryz.f46]at hN|-;exact GS (gA h1 (gA h2 hLA))
 have h1:((ns.length:Int)!=(PR.length:Int))=false:=by simp[hle]
 refine Dp Tryz.func46 ?_;intro C hP hN;simp only[Tryz.f46]at hN|-;refine GT (gA h1 (gA hle hLA)) ?_;refine WP.loopN [] PR.length (λi st=>st.t 2=.pv (aU ns)∧st.t 7=.pv (.sl LA)∧st.t 8=.pv (.sl LB)∧st.t 10=.pv (Z i)∧Pv SH PR PT ns i) ?_ ?_
 .simp
  exact λk n p hk=>by omega
 rintro i st hi ⟨g2,g7,g8,g10,hq⟩;by_cases hlt:i<PR.length
 .have hwr:=al hlt (by omega)
  have hltn:i<ns.length:=by omega
  have hlt':(i:Int)<(PR.length:Int):=by omega
  generalize hxe:ns[i]=v at *
  have hx:ns[i]?=some v:=by rw[an hltn,hxe]
  obtain⟨p,hp⟩:∃p,PR[i]?=some p:=⟨_,an hlt⟩;have hA:=hAt i p hp;have hB:=hBt i p hp
  have hAe:∀h,LA[i]'h=.agg [aL (dT PT p.1),Z (dF SH p.1)]:=λh=>by rw[an h]at hA;exact ME hA
  have hBe:∀h,LB[i]'h=.agg [aL (dT PT p.2),Z (dF SH p.2)]:=λh=>by rw[an h]at hB;exact ME hB
  have cs:=Tb v (dT PT p.1) (dF SH p.1) (dT PT p.2) (dF SH p.2) (qg hb _) (qg hb _);have hsk:J2 SH PT v p=jM v (dT PT p.1) (dF SH p.1) (dT PT p.2) (dF SH p.2):=rfl;rw[<-hsk]at cs
  cases hsp:J2 SH PT v p with
  |true=>
   rw[hsp]at cs
   have hst:Pv SH PR PT ns (i+1):=λk n q hk hn hq'=>by
    by_cases e:k=i
    .subst e;rw[hx]at hn;rw[hp]at hq';injection hn with hn;injection hq' with hq';subst hn;subst hq';exact hsp
    .exact hq k n q (by omega) hn hq'
   refine GT (gA g2 (gA g7 (gA g8 (gA g10 (gA hlt (gA hlt' (gA hltn (gA hle (gA hx (gA hxe (gA hwr (gA hA (gA hAe (gA hB (gA hBe (gA hLA hLB)))))))))))))))) ?_
   all_goals exact hst
  |false=>
   rw[hsp]at cs;rw[B0 hx hp hsp];exact GS (gA g2 (gA g7 (gA g8 (gA g10 (gA hlt (gA hlt' (gA hltn (gA hle (gA hx (gA hxe (gA hwr (gA hA (gA hAe (gA hB (gA hBe (gA hLA hLB))))))))))))))))
 .have hin:i=PR.length:=by omega
  subst hin;rw[Iy hle (by rw[hle];exact hq)];exact GS (gA g2 (gA g7 (gA g8 (gA g10 (gA hLA hLB)))))
theorem HQ(s:Sce)(bx:List Iv)(w:Wit)(hs:ScL s)(hbl:bx.length<=9223372036854775807)(ha:w.a.length<=9223372036854775807)(hwb:w.b.length<=9223372036854775807):ab Tryz.prog 47 [.pv (eT s),.pv (iv bx),.pv (Pw w)] [] [] (.pv (B (D0 s bx w))):=by
 have cp:=SP s bx hs hbl;have hd:D0 s bx w=(gx s bx&&J3 s.shs (dL s) (fX s bx) w):=rfl
 cases hp:gx s bx with
 |false=>
  rw[hp]at cp hd;simp only[IA,JE,Mi]at cp hd;rw[hd];refine Dp Tryz.func47 ?_;intro C hP hN;simp only[Tryz.f47]at hN|-;exact GS trivial
 |true=>
 rw[hp]at cp hd;simp only[J4,KA]at cp hd;have hb:=GU hp;rw[hd];simp only[Eo,Ep]at cp;generalize dL s=PR at *;generalize fX s bx=PT at *;generalize s.shs=SH at *;have hpl:=hb.few;have hAt:=λ(i:Nat)(p:Nat×Nat)(h:PR[i]?=some p)=>Ow (SH:=SH) (PT:=PT) h;have hBt:=λ(i:Nat)(p:Nat×Nat)(h:PR[i]?=some p)=>Ox (SH:=SH) (PT:=PT) h
 have hLA:(PR.map (yP SH PT)).length=PR.length:=by simp
 have hLB:(PR.map (yQ SH PT)).length=PR.length:=by simp
 generalize PR.map (yP SH PT)=LA at *;generalize PR.map (yQ SH PT)=LB at *;by_cases h0:w.pair<0
 .have hf:J3 SH PR PT w=false:=by unfold J3;rw[Ok (by omega)];rfl
  rw[hf];refine Dp Tryz.func47 ?_;intro C hP hN;simp only[Tryz.f47]at hN|-;exact GS (gA h0 hLA)
 obtain⟨k,hk⟩:∃k:Nat,w.pair=k:=⟨w.pair.toNat,by omega⟩
 have hcd:J3 SH PR PT w=match PR[k]? with
  |some p=>ss SH PT w.a w.b p
  |none=>false:=by unfold J3;rw[hk,L4 (by omega)];simp only[KA,JY];rfl
 by_cases h1:k<PR.length
 .obtain⟨p,hp⟩:∃p,PR[k]?=some p:=⟨_,an h1⟩
  rw[hp]at hcd;simp only at hcd
  have h1':¬(PR.length:Int)<=k:=by omega
  have h1'':¬PR.length<=k:=by omega
  have hA:=hAt k p hp;have hB:=hBt k p hp
  have hAe:∀h,LA[k]'h=.agg [aL (dT PT p.1),Z (dF SH p.1)]:=λh=>by rw[an h]at hA;exact ME hA
  have hBe:∀h,LB[k]'h=.agg [aL (dT PT p.2),Z (dF SH p.2)]:=λh=>by rw[an h]at hB;exact ME hB
  have co:=SL w.a w.b (dT PT p.1) (dF SH p.1) (dT PT p.2) (dF SH p.2) ha hwb (qg hb _) (qg hb _);have hod:ss SH PT w.a w.b p=(oH w.a w.b (dT PT p.1) (dF SH p.1) (dT PT p.2) (dF SH p.2)&&decide (0<=lX w.a w.b (dT PT p.1) (dF SH p.1) (dT PT p.2) (dF SH p.2))):=rfl;rw[<-hod]at co;rw[hcd];generalize ss SH PT w.a w.b p=o at *;refine Dp Tryz.func47 ?_;intro C hP hN;simp only[Tryz.f47]at hN|-;exact GS (gA hk (gA h1 (gA h1' (gA h1'' (gA hA (gA hAe (gA hB (gA hBe (gA hLA hLB)))))))))
 .have hn:PR[k]?=none:=Jr (by omega)
  rw[hn]at hcd;simp only at hcd;rw[hcd]
  have h1':(PR.length:Int)<=k:=by omega
  have h1'':PR.length<=k:=by omega
  refine Dp Tryz.func47 ?_;intro C hP hN;simp only[Tryz.f47]at hN|-;exact GS (gA hk (gA h1' (gA h1'' hLA)))
theorem HR(w:Wit):ab Tryz.prog 45 [.pv (Pw w)] [] [] (.pv (B (decide (w.pair=0)&&decide (w.a.length=0)&&decide (w.b.length=0)))):=by
 refine Dp Tryz.func45 ?_;intro C hP hN;simp only[Tryz.f45]at hN|-
 with_reducible repeat' (first|refine Sp.h ?_|((first|refine Ss.h ?_|(refine Sb.h ?_ ?_ ?_<;>(try intro hgd)<;>try exact Xy))<;>simp -implicitDefEqProofs (maxSteps:=2000000) [hP,hN])|refine X2 ?_ ?_|(refine Xd ?_ ?_<;>intro hcd<;>try exact Xx))
 all_goals ((try simp only[Ex]at *);simp_all)
theorem HU(s:Sce)(bx:List Iv)(v:Vd)(hs:ScL s)(hbl:bx.length<=9223372036854775807)(hn:v.ns.length<=9223372036854775807)(ha:v.w.a.length<=9223372036854775807)(hb:v.w.b.length<=9223372036854775807):ab Tryz.prog 17 [.pv (eT s),.pv (iv bx),.pv (AK v)] [] [] (.pv (B (kA s bx v))):=by
 have c1:=HP s bx v.ns hs hbl hn;have c2:=HQ s bx v.w hs hbl ha hb;have ce:=HR v.w
 have hd:kA s bx v=if v.kind=1∧v.w.pair=0∧v.w.a.length=0∧v.w.b.length=0 then DZ s bx v.ns else if v.kind=2∧v.ns.length=0 then D0 s bx v.w else false:=rfl
 rw[hd];obtain⟨k,ns,⟨pr,A,D⟩⟩:=v;simp only at *;generalize DZ s bx ns=h1 at *;generalize D0 s bx ⟨pr,A,D⟩=h2 at *;by_cases e1:k=1
 .subst e1
  by_cases e2:pr=0∧A.length=0∧D.length=0
  .obtain⟨e2,e3,e4⟩:=e2
   rw[IR ⟨rfl,e2,e3,e4⟩];rw[L4 e2,L4 e3,L4 e4]at ce;refine Dp Tryz.func17 ?_;intro C hP hN;simp only[Tryz.f17]at hN|-;exact GS trivial
  .rw[Ik (λh=>e2 h.2),Ik (λh=>by have:=h.1;omega)]
   have ef:(decide (pr=0)&&decide (A.length=0)&&decide (D.length=0))=false:=by
    rw[Bool.eq_false_iff];simp only[ne_eq,An,HX];exact λh=>e2 ⟨h.1.1,h.1.2,h.2⟩
   rw[ef]at ce;refine Dp Tryz.func17 ?_;intro C hP hN;simp only[Tryz.f17]at hN|-;exact GS trivial
 .have b1:(k==1)=false:=by simp[e1]
  rw[Ik (λh=>e1 h.1)];by_cases e2:k=2
  .subst e2
   by_cases e3:ns.length=0
   .have hnn:ns=[]:=LC e3
    subst hnn;rw[IR ⟨rfl,rfl⟩];refine Dp Tryz.func17 ?_;intro C hP hN;simp only[Tryz.f17]at hN|-;exact GS trivial
   .have e3':¬(ns.length:Int)=0:=by omega
    have e3'':((ns.length:Int)==0)=false:=by rw[Om];omega
    rw[Ik (λh=>e3 h.2)];refine Dp Tryz.func17 ?_;intro C hP hN;simp only[Tryz.f17]at hN|-;exact GS (gA e3 (gA e3' e3''))
  .have b2:(k==2)=false:=by simp[e2]
   rw[Ik (λh=>e2 h.1)];refine Dp Tryz.func17 ?_;intro C hP hN;simp only[Tryz.f17]at hN|-;exact GS (gA e1 (gA e2 (gA b1 b2)))
def HV(hi:Int)(i:Nat):J:=⟨zi i,4+(i:Int).tmod 2,(i:Int)-1,0,0,0,0,hi,1,65536,65536,65536⟩
def se(hi:Int)(k:Nat):List J:=(List.range k).map (HV hi)
theorem JD(hi:Int)(k:Nat):(se hi (k+1)).map bC=(se hi k).map bC++[bC (HV hi k)]:=by simp[se,PK]
theorem xX(hi:Int)(k:Nat):(se hi k).length=k:=by simp[se]
theorem P7(n:Nat)(hi:Int)(h0:0<n)(hn:n<=3):ab Tryz.prog 20 [.pv (Z n),.pv (Z hi)] [] [] (.pv (gF (se hi n) [])):=by
 refine Dp Tryz.func20 ?_;intro C hP hN;simp only[Tryz.f20]at hN|-;refine Gz ?_
 refine WP.loopN [] n (λi st=>st.t 0=.pv (Z n)∧st.t 1=.pv (Z hi)∧st.t 4=.ptr 4 0∧st.h 4=some (.box [fT,fT] true false)∧st.t 5=.ptr 5 0∧st.t 6=.pv (Z i)∧
  ((i=0∧st.h 5=some (.box [fT,fT] true false)∧st.h 24=none)∨(0<i∧st.h 5=some (.box [.arr 24 i,fT] true false)∧st.h 24=some (.row 81 12 ((se hi i).map bC) 0)))) (by simp) ?_
 rintro i st hi' ⟨g0,g1,g4,hb4,g5,g6,hor⟩;by_cases hlt:i<n
 .have hw:IntKind.i64.wrap ((i:Int)+1)=(i:Int)+1:=by rw[IntKind.wrap_i64];omega
  have hlt':(i:Int)<(n:Int):=by omega
  have hJ:=JD hi i;have hr1:=Int.tmod_nonneg 2 (Int.natCast_nonneg i);have hr2:=SQ (i:Int) (b:=2) (by decide);have h2:IntKind.i64.wrap ((i:Int).tmod 2)=(i:Int).tmod 2:=aa;have h3:IntKind.i64.wrap (4+(i:Int).tmod 2)=4+(i:Int).tmod 2:=aa;have h4:IntKind.i64.wrap ((i:Int)-1)=(i:Int)-1:=aa;have hz:=xX hi i;rcases hor with⟨hi0,hb5,hb24⟩|⟨hi0,hb5,hb24⟩
  .subst hi0
   have cl:=Ni 0 (by omega);rw[show((0:Nat):Int)=0 from rfl]at cl
   have v1:IntKind.i64.wrap 0=0:=by decide
   have v2:IntKind.i64.wrap 4=4:=by decide
   have v3:IntKind.i64.wrap (-1)=-1:=by decide
   have v4:IntKind.i64.wrap (0+1)=1:=by decide
   have v5:IntKind.i64.wrap (0-1)=-1:=by decide
   have v6:Int.tmod 0 2=0:=by decide
   refine Gz ?_
   all_goals simp[se,HV]
  .have cl:=Ni i (by omega)
   refine GT (gA g0 (gA g1 (gA g4 (gA hb4 (gA g5 (gA g6 (gA hb5 (gA hb24 (gA hlt (gA hlt' (gA hw (gA h2 (gA h3 (gA h4 (gA hz (gA (show(i+1)*104<=140737488355328 by omega) (show i<=9223372036854775806 by omega))))))))))))))))) ?_
   all_goals simp[hJ,HV]
 .have hir:i=n:=by omega
  subst hir;rcases hor with⟨hi0,_⟩|⟨hi0,hb5,hb24⟩
  .omega
  have hz:=xX hi i;exact Gy
def eZ(shs:List Sh):Sce:=⟨se 8 1,[],shs,[]⟩
abbrev Fz:List Sh:=[⟨0,1,[(0,0,0)]⟩,⟨-1,1,[(4,0,0)]⟩]
def yL(shs:List Sh)(cells:Int):Spc×Int:=(oG (eZ shs) [0] [8] 1 cells 60 (kW (eZ shs) 1)).getD (kW (eZ shs) 1,0)
def GI(shs:List Sh)(cells:Int):Bool:=decide (gv (eZ shs)=0)&&cG (eZ shs).js (eZ shs).ms [0]&&cG (eZ shs).js (eZ shs).ms [8]&&dG (ah (eZ shs).js (eZ shs).ms)&&gY (eZ shs).js (eZ shs).ms (ah (eZ shs).js (eZ shs).ms)&&aX (mT (ah (eZ shs).js (eZ shs).ms) br) &&
 dc (mT (ah (eZ shs).js (eZ shs).ms) br) 0 (aZ (bM (eZ shs) (ah (eZ shs).js (eZ shs).ms) []))&&aX (mT (ah (eZ shs).js (eZ shs).ms) (aZ (bM (eZ shs) (ah (eZ shs).js (eZ shs).ms) [])))&&decide ((ah (eZ shs).js (eZ shs).ms).length<=16)&&(oG (eZ shs) [0] [8] 1 cells 60 (kW (eZ shs) 1)).isSome &&
 decide ((bM (eZ shs) (ah (eZ shs).js (eZ shs).ms) []).ns.length<=100)&&decide ((bM (eZ shs) (ah (eZ shs).js (eZ shs).ms) []).w.a.length<=100)&&decide ((bM (eZ shs) (ah (eZ shs).js (eZ shs).ms) []).w.b.length<=100)
set_option maxRecDepth 100000 in
theorem Ur:GI [] 9=true:=by kernel_rfl
set_option maxRecDepth 100000 in
theorem Us:GI Fz 40=true:=by kernel_rfl
set_option maxRecDepth 100000 in
theorem Ut:(yL [] 9).2=1∧(yL [] 9).1.cells.length=1∧(yL Fz 40).2=2:=by
 refine⟨by kernel_rfl,by kernel_rfl,by kernel_rfl⟩
theorem Li(shs:List Sh)(cells:Int)(hs:ScL (eZ shs))(h4:1<=cells)(h5:cells<=2048)(hok:GI shs cells=true):ab Tryz.prog 13 [.pv (eT (eZ shs)),.pv (zs [0]),.pv (zs [8]),.pv (Z 1),.pv (Z cells)] [] [] (.pv (.tup [.agg [iv (yL shs cells).1.root,.sl ((yL shs cells).1.cells.map bD)],Z (yL shs cells).2])):=by
 simp only[GI,An,HX]at hok;obtain⟨⟨⟨⟨⟨⟨⟨⟨⟨⟨⟨⟨q1,q2⟩,q3⟩,q4⟩,q5⟩,q6⟩,q7⟩,q8⟩,q9⟩,q10⟩,q11⟩,q12⟩,q13⟩:=hok;obtain⟨R,hR⟩:=Le.1 q10
 have hRe:yL shs cells=R:=by unfold yL;rw[hR];rfl
 rw[hRe];exact P9 (eZ shs) [0] [8] 1 cells 60 R hs q1 q2 q3 (by omega) h4 h5 (by simp) (by simp) q4 q5 q6 q7 ⟨by simp only[aZ];omega,by simp only[aZ];omega,by simp only[aZ];omega⟩ ⟨by show(ah (eZ shs).js (eZ shs).ms).length<=_;omega,by simp,λc hc=>by simp at hc;subst hc;simp[tD,br,aH]⟩ q8 q9 hR
theorem d7:ab Tryz.prog 7 [] [] [] (.pv (B true)):=by
 have cs:=P7 1 8 (by omega) (by omega);have r1:=Li [] 9 ⟨by simp[eZ,se],by simp[eZ],by simp[eZ],by simp[eZ],by simp[eZ]⟩ (by omega) (by omega) Ur;have r2:=Li Fz 40 ⟨by simp[eZ,se],by simp[eZ],by simp[eZ,Fz],by simp[eZ],by simp[eZ,Fz]⟩ (by omega) (by omega) Us;obtain⟨f1,f2,f3⟩:=Ut;rw[f1]at r1;rw[f3]at r2;simp only[eZ,Fz,eT,cT,aU,zs,Ot,VS]at r1 r2;generalize yL [] 9=R1 at *;generalize hRR:(yL [⟨0,1,[(0,0,0)]⟩,⟨-1,1,[(4,0,0)]⟩] 40).1=R2 at *;generalize se 8 1=J at *;refine Dp Tryz.func7 ?_;intro C hP hN;simp only[Tryz.f7]at hN|-;exact GS f2
theorem zh{t:Tr}(h:jB 600 t)(i:Int):jB 600 (gQ s t i):=by
 unfold gQ;split
 .have hl:=vB s (dB t i) (eM t i.toNat).nor
  exact B8 h i ⟨by simp only[km,aZ];omega,by simp only[km,aZ];omega,by simp only[km,aZ];omega⟩
 .exact h
theorem G3{t:Tr}(h:jB 600 t)(i j:Int):jB 600 (qm s t i j)∧(qm s t i j).cells.length<=t.cells.length+2∧(qm s t i j).root=t.root:=by
 unfold qm;split
 .have a:=un s (mV s t i j) ((t.cells.length:Int)+1)
  have b:=un s (db t i j) (t.cells.length:Int);have hA:mV s t i j=gQ s (db t i j) (t.cells.length:Int):=rfl;rw[hA]at a|-;refine⟨zh (zh (DR h i j) _) _,?_⟩;rw[a.1,a.2,b.1,b.2];unfold db;split
  .rw[mC];exact⟨IX _,rfl⟩
  .exact⟨by omega,rfl⟩
 .exact⟨h,by show t.cells.length<=_;omega,rfl⟩
theorem Ch{s:Sce}{p q:List Int}{w cells:Int}:∀(f:Nat)(t:Tr),jB 600 t->jB 600 (mF s p q w cells f t).1∧(mF s p q w cells f t).1.cells.length<=t.cells.length+2*f∧(mF s p q w cells f t).1.root=t.root
 |0,t,h=>⟨h,IX _,rfl⟩
 |f+1,t,h=>by
  simp only[mF];split
  .split
   .exact⟨h,by show t.cells.length<=_;omega,rfl⟩
   .obtain⟨r1,r2,r3⟩:=G3 (s:=s) h (lV s.js s.ms t p q w).1 (lV s.js s.ms t p q w).2.1
    obtain⟨a,b,c⟩:=Ch (s:=s) (p:=p) (q:=q) (w:=w) (cells:=cells) f _ r1;exact⟨a,by omega,c.trans r3⟩
  .exact⟨h,by show t.cells.length<=_;omega,rfl⟩
theorem F0{p q:List Int}{w cells:Int}(hj:s.js.length<=9223372036854775807):jB 600 (oA s p q w cells).1∧(oA s p q w cells).1.cells.length<=5000∧(oA s p q w cells).1.root.length<=9223372036854775807:=by
 unfold oA;split
 .have hz:jB 600 (iw (ah s.js s.ms))∧(iw (ah s.js s.ms)).cells.length<=1∧(iw (ah s.js s.ms)).root.length<=9223372036854775807:=by
   unfold iw;split
   .refine⟨λc hc=>?_,by simp,?_⟩
    .simp at hc;subst hc;simp[aH,br,tD]
    .simp only[ah];split<;>simp;omega
   .exact⟨λc hc=>by simp at hc,by simp,by simp⟩
  have h0:jB 600 (tf s):=zh hz.1 0;have hl:=un s (iw (ah s.js s.ms)) 0;have hd:tf s=gQ s (iw (ah s.js s.ms)) 0:=rfl;rw[<-hd]at hl;obtain⟨r1,r2,r3⟩:=Ch (s:=s) (p:=p) (q:=q) (w:=w) (cells:=cells) 2048 (tf s) h0;exact⟨r1,by omega,by rw[r3,hl.2];exact hz.2.2⟩
 .exact⟨λc hc=>by simp at hc,by simp,by simp⟩
theorem d4(l m o:List Int)(width cells:Int):ab Tryz.prog 4 [.pv (zs l),.pv (zs m),.pv (zs o),.pv (Z width),.pv (Z cells)] [] [] (.pv (B true)):=by
 have c0:=d7;have ct:=d8 l;have hL:=FL l;have h0:=DP l;have hj:=pw l 0;have cm:=Ld m (cU l 0) (jo l 0) (by omega) (sf l 0);have co:=Ld o (cU l 0) (jo l 0) (by omega) (sf l 0);have hjs:(gi l).js=cU l 0:=rfl;have hms:(gi l).ms=jo l 0:=rfl;have hi1:=pd m (kn h0) (by rw[hjs];exact sf l 0);have hi2:=pd o (kn h0) (by rw[hjs];exact sf l 0);rw[<-hjs,<-hms]at cm co;rw[<-hjs]at hj;clear hjs hms
 have hml:(ki m (gi l).js).length=(gi l).js.length:=by simp[ki]
 have hol:(ki o (gi l).js).length=(gi l).js.length:=by simp[ki]
 generalize gi l=s at *;generalize ki m s.js=a at *;generalize ki o s.js=b at *;have c1:=M8 width 30000 (by decide);have r1:=yD width (k:=30000) (by decide) (by decide);have c2:=M8 cells 40 (by decide);have r2:=yD cells (k:=40) (by decide) (by decide);generalize ow width 30000=w at *;generalize ow cells 40=n at *;have w1:IntKind.i64.wrap (1+w)=1+w:=aa;have w2:IntKind.i64.wrap (1+n)=1+n:=aa;have cR:=GK s a b (1+w) (1+n) hL (by omega) (by omega) (by omega);have hS:=F2 h0 hi1 hi2 (by omega:1<=1+w) (by omega:1<=1+n) (by omega);obtain⟨z1,z2,z3⟩:=F0 (s:=s) (p:=a) (q:=b) (w:=1+w) (cells:=1+n) hL.js;generalize oA s a b (1+w) (1+n)=D at *;obtain⟨t,x⟩:=D;simp only at cR z1 z2 z3;have hv:aX t=true:=hS.di.valid;have cb:=LD t (by omega);rw[hv]at cb;have cl:=P0 s.js s.ms hL.js hL.ms;rw[<-hS.di.root]at cl;have csm:=Hv t.root t.root z3 z3;rw[Bm]at csm;have hlen:(t.cells.length:Int)<=1+n:=hS.len
 have hlen':¬1+n<(t.cells.length:Int):=by omega
 have hst:=hS.st;have hbl:(aj t).length=t.cells.length:=fI hv
 have hbx:∀i,i<t.cells.length->(aj t)[i]?=some (bj t (i:Int)):=λi hi=>by
  have:=(iZ hv (c:=(i:Int)) (by simpa using hi)).1
  rwa [JY]at this
 have hck:∀(i:Nat)(c:Cel),t.cells[i]?=some c->ab Tryz.prog 17 [.pv (eT s),.pv (iv (bj t (i:Int))),.pv (nu c.v)] [] [] (.pv (B (decide (c.v.kind≠0)))):=λi c hc=>by
  have hvl:=z1 c (HW hc);have hbl2:=(iZ hv (c:=(i:Int)) (by simpa using(th.1 hc).1)).2.1;have:=HU s (bj t (i:Int)) (r5 c.v) hL (by omega) (by have:=hvl.1;simp only[r5];omega) (by have:=hvl.2.1;simp only[r5];omega) (by have:=hvl.2.2;simp only[r5];omega)
  have e:kA s (bj t (i:Int)) (r5 c.v)=decide (c.v.kind≠0):=by
   by_cases hk:c.v.kind=0
   .simp[kA,r5,hk]
   .obtain⟨h,e⟩:=hS.ver i c hc hk
    have e2:r5 c.v=bM s (bj t (i:Int)) h:=by rw[e];rfl
    have e3:c.v.kind=(bM s (bj t (i:Int)) h).kind:=by rw[e];rfl
    have h3:=si s (bj t (i:Int)) h;rw[e2,Bu,L4 hk];rw[HX];omega
  rw[e]at this;exact this
 clear hS h0 hi1 hi2 z1 z3 hL;generalize aj t=bs at *;obtain⟨root,cs⟩:=t;simp only at *;obtain⟨js,ms,SH,sks⟩:=s;simp only at *;refine Dp Tryz.func4 ?_;intro C hP hN;simp only[Tryz.f4]at hN|-
 with_reducible repeat' (first|refine Sp.h ?_|((first|refine Wd ?_|refine Ss.h ?_|refine Sc.h (ct) ?_|refine Sc.h (cm) ?_|refine Sc.h (co) ?_|refine Sc.h (c1) ?_|refine Sc.h (c2) ?_|refine Sc.h (cR) ?_|refine Sc.h (cb) ?_|refine Sc.h (cl) ?_|refine Sc.h (csm) ?_|(refine Sb.h ?_ ?_ ?_<;>(try intro hgd)<;>try exact Xy))<;>simp -implicitDefEqProofs (maxSteps:=2000000) [hP,hN,w1,w2,hlen,hlen']<;>try refine Ya ?_)|refine X2 ?_ ?_|(refine Xd ?_ ?_<;>intro hcd<;>try exact Xx))
 refine WP.loopN [17] cs.length (λi st=>st.t 11=.ptr 11 0∧st.h 11=some (.box [.pv (.sl (js.map bC)),.pv (.sl (ms.map IT)),.pv (.sl (SH.map cT)),.pv (.sl (sks.map aR))] true false)∧st.t 12=.ptr 12 0∧st.h 12=some (.box [.pv (iv root),.pv (.sl (cs.map bD))] true false)∧st.t 13=.pv (Z x)∧st.t 14=.pv (.sl (bs.map iv))∧st.t 16=.pv (Z i)∧st.h 17=none) (by simp) ?_;rintro i st hi ⟨g11,b11,g12,b12,g13,g14,g16,b17⟩;by_cases hlt:i<cs.length
 .have hw:=al hlt (by omega)
  have hlb:i<bs.length:=by omega
  have hx:cs[i]?=some cs[i]:=an hlt;have hy:=hbx i hlt;have hye:=bW hy hlb;have c4:=hck i _ hx;generalize hxe:cs[i]=c at *;generalize bj ⟨root,cs⟩ (i:Int)=bi at *;obtain⟨j1,j2,j3,⟨k,nr,pr,A,D⟩⟩:=c;simp only at c4;by_cases hk:k=0
  .subst hk
   with_reducible repeat' (first|refine Sp.h ?_|((first|refine Wd ?_|refine Ss.h ?_|refine Sc.h (c4) ?_|(refine Sb.h ?_ ?_ ?_<;>(try intro hgd)<;>try exact Xy))<;>simp -implicitDefEqProofs (maxSteps:=2000000) [hP,hN,g11,b11,g12,b12,g13,g14,g16,b17,hlt,hlb,hw,hx,hxe,hy,hye]<;>try refine Ya ?_)|refine X2 ?_ ?_|(refine Xd ?_ ?_<;>intro hcd<;>try exact Xx))
  .have hk':(k !=0)=true:=by simp[hk]
   rw[L4 hk]at c4
   with_reducible repeat' (first|refine Sp.h ?_|((first|refine Wd ?_|refine Ss.h ?_|refine Sc.h (c4) ?_|(refine Sb.h ?_ ?_ ?_<;>(try intro hgd)<;>try exact Xy))<;>simp -implicitDefEqProofs (maxSteps:=2000000) [hP,hN,g11,b11,g12,b12,g13,g14,g16,b17,hlt,hlb,hw,hx,hxe,hy,hye,hk,hk']<;>try refine Ya ?_)|refine X2 ?_ ?_|(refine Xd ?_ ?_<;>intro hcd<;>try exact Xx))
 .have hie:i=cs.length:=by omega
  subst hie
  have hnb:¬cs.length<bs.length:=by omega
  rcases hst with rfl|rfl|rfl|rfl
  all_goals
   with_reducible repeat' (first|refine Sp.h ?_|((first|refine Wd ?_|refine Ss.h ?_|refine Sc.h (c0) ?_|(refine Sb.h ?_ ?_ ?_<;>(try intro hgd)<;>try exact Xy))<;>simp -implicitDefEqProofs (maxSteps:=2000000) [hP,hN,g11,b11,g12,b12,g13,g14,g16,b17,hnb,hbl]<;>try refine Ya ?_)|refine X2 ?_ ?_|(refine Xd ?_ ?_<;>intro hcd<;>try exact Xx))
end Go.Ab
