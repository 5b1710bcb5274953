/- The contracts and facts that the laws of this seat need, in one text (DlL, Dc4, DcR, Dc12, Dc14, Gr1, Gr2, Gr3, Gr4, Gr5, Gr6, Gr7, KM1, KM2, KM3, KM4, K15, K15b, K16, K17, KM5, L28a, TrW, TrY, L28d, L28b, L28e, TC1, DeQ, Gr8, De2, De3, Gs1, Gs2, Ru1, KR1, KR2, KR3, KR4, KR5, K18, KR6, KR7, KR8, KR9, KR10, KR11, KR12, KR13, KR14, KR15, KR16, KR17). -/
import Derived.Test.YtidomjacfogjlaaGreatT9
import Derived.Test.YtidomjacfogjlaaGreatProg
import Derived.Shelf.Slices.Delete
set_option linter.all false
set_option maxRecDepth 10000
set_option maxHeartbeats 16000000
namespace Go.Ab
open IntKind (i64)
open Go.Proofs.Tryz
open Go.Proofs
variable {PR:List (Nat×Nat)}{PT:List (List aq)}{SH:List Sh}{a a0 a1 a10 a11 a12 a13 a14 a15 a16 a17 a2 a3 a4 a5 a6 a7 a8 a9 b b0 b1 b2 b3 b4 b5 c d ra rb v0 v1 v2 v3 v4 v5 w:Int}{a' b':List aq}{aft:Array Edge}{dst:Option Nat}{f i j k r:Nat}{js:List J}{ms:List Ms}{n v:Vc}{op:List Bool}{p q ws:List Int}{pos:String}{s:Sce}{t:Tr}{ts:Array TypeId}{ty:TypeId}{x x' y:Iv}{ρ:Operand->AV}
set_option maxRecDepth 100000 in
@[simp] theorem YI:dR prog 77:=by
 have hf:=func77;have nt:=ntmps77;have rs:=results77;exact BJ
section
variable {n:Nat} {may has hasF:Nat->Bool} {tch:Nat->Nat->Bool}
inductive Pth(n:Nat)(may:Nat->Bool)(tch:Nat->Nat->Bool):Nat->Nat->Prop
 |nil {i:Nat}:i<n->may i=true->Pth n may tch i i
 |cons {i p j:Nat}:Pth n may tch p j->i<n->may i=true->tch i p=true->Pth n may tch i j
theorem Pth.ends(h:Pth n may tch i j):(i<n/\may i=true)/\j<n/\may j=true:=by
 induction h with
 |nil a b=>exact⟨⟨a,b⟩,a,b⟩
 |cons _ a b _ ih=>exact⟨⟨a,b⟩,ih.2⟩
theorem Pth.snoc{p:Nat}(h:Pth n may tch i p)(d:j<n)(e:may j=true)(c:tch p j=true):Pth n may tch i j:=by
 induction h with
 |nil a b=>exact .cons (.nil d e) a b c
 |cons _ a b t ih=>exact .cons (ih c) a b t
theorem IH{far:List Int}(h:FarOk n may has tch far):1<=aK far i↔∃j,has j=true/\Pth n may tch i j:=by
 constructor
 .intro hi
  have key:∀(m:Nat)(i:Nat),aK far i<=m->1<=aK far i->∃j,has j=true/\Pth n may tch i j:=by
   intro m
   induction m with
   |zero=>intro i k d;omega
   |succ m ih=>
    intro i k d;obtain⟨g,f⟩:=h.rng i d;rcases h.back i d with⟨_,o⟩|⟨p,hp,r,l,q⟩
    .exact⟨i,o,.nil g f⟩
    .obtain⟨j,c,e⟩:=ih p (by omega) l
     exact⟨j,c,.cons e g f q⟩
  exact key (aK far i).toNat i (by omega) hi
 .rintro⟨j,c,hp⟩
  induction hp with
  |nil a b=>have:=h.start _ a b c;omega
  |cons _ a b t ih=>exact(h.clo _ _ (ih c) a b t).1
theorem PK{far:List Int}:∀m,(0<=aS far hasF m↔∃i,i<m/\0<aK far i/\hasF i=true)
 |0=>by simp[aS]
 |m+1=>by
  have ih:=PK (far:=far) m;simp only[aS];split
  .rename_i a
   simp only[An,Is]at a;exact⟨λ_=>⟨m,by omega,a.1.1,a.1.2⟩,λ_=>by omega⟩
  .rename_i a
   rw[ih];constructor
   .rintro⟨i,f,b⟩;exact⟨i,by omega,b⟩
   .rintro⟨i,f,b,c⟩
    by_cases e:i=m
    .subst e
     by_cases d:0<=aS far hasF i
     .exact ih.1 d
     .exfalso;apply a;simp[b,c];omega
    .exact⟨i,by omega,b,c⟩
theorem NP:mh n may has hasF tch=true↔∃i j,hasF i=true/\has j=true/\Pth n may tch i j:=by
 have c:=Sj (n:=n) (may:=may) (has:=has) (tch:=tch);unfold mh pH;rw[Is,PK];constructor
 .rintro⟨i,_,b,a⟩
  obtain⟨j,e,hp⟩:=(IH c (i:=i)).1 (by omega);exact⟨i,j,a,e,hp⟩
 .rintro⟨i,j,d,b,a⟩
  have:=(IH c).2 ⟨j,b,a⟩;exact⟨i,a.ends.1.1,by omega,d⟩
theorem Pth.map{l:Nat}{may':Nat->Bool}{f:Nat->Nat->Bool}{d:Nat->Nat->Prop}(h:∀i,i<n->may i=true->∃c,d i c/\c<l/\may' c=true)(q:∀i j c e,i<n->j<n->c<l->e<l->d i c->d j e->tch i j=true->f c e=true)(hp:Pth n may tch i j):∃c e,d i c/\d j e/\Pth l may' f c e:=by
 induction hp with
 |nil a b=>
  obtain⟨c,g,m,k⟩:=h _ a b;exact⟨c,c,g,g,.nil m k⟩
 |cons hp a b t ih=>
  obtain⟨r,e,g,m,k⟩:=ih;obtain⟨c,o,p,g3⟩:=h _ a b;exact⟨c,e,o,m,.cons k p g3 (q _ _ _ _ a hp.ends.1.1 p k.ends.1.1 o g t)⟩
end
structure SubI(x y:Iv):Prop where
 vx:al x.1 x.2=true
 vy:al y.1 y.2=true
 lo:y.1<=x.1
 hi:x.2<=y.2
theorem fQ(h1:-2147483648<=y.1)(a:y.1<=x.1)(c:x.1<=x.2)(b:x.2<=y.2)(d:y.2<=2147483648):SubI x y:=⟨bm.2 (by omega),bm.2 (by omega),a,b⟩
theorem SubI.all(h:SubI x y):-2147483648<=y.1/\y.1<=x.1/\x.1<=x.2/\x.2<=y.2/\y.2<=2147483648:=by
 have a:=bm.1 h.vx;have b:=bm.1 h.vy;have c:=h.lo;have d:=h.hi;omega
theorem SubI.refl(h:al x.1 x.2=true):SubI x x:=⟨h,h,yCc _,yCc _⟩
theorem SubI.trans{z:Iv}(h:SubI x y)(g:SubI y z):SubI x z:=⟨h.vx,g.vy,Int.le_trans g.lo h.lo,Int.le_trans h.hi g.hi⟩
theorem v8{c:Iv}(a:SubI x x')(b:SubI y c):SubI (eK x y) (eK x' c):=by
 have d:=a.all;have e:=b.all;simp only[eK,a.vx,a.vy,b.vx,b.vy,yBj,yAn];apply fQ<;>simp only[eQ]<;>omega
theorem Od(a:SubI x x'):SubI (fu x) (fu x'):=by
 have b:=a.all;simp only[fu,a.vx,a.vy,yAn];apply fQ<;>(try simp only[])<;>omega
theorem G0{x:Int}(h1:a<=x)(d:x<=b):min (a*c) (b*c)<=x*c/\x*c<=max (a*c) (b*c):=by
 rcases yB3 0 c with h|h
 .have e:=Int.mul_le_mul_of_nonneg_right h1 h
  have f:=Int.mul_le_mul_of_nonneg_right d h;omega
 .have e:=Int.mul_le_mul_of_nonpos_right h1 h
  have f:=Int.mul_le_mul_of_nonpos_right d h;omega
theorem J7{x y:Int}(h1:a<=x)(i:x<=b)(e:c<=y)(f:y<=d):min (a*c) (min (a*d) (min (b*c) (b*d)))<=x*y/\x*y<=max (a*c) (max (a*d) (max (b*c) (b*d))):=by
 have j:=G0 (c:=y) h1 i;have g:=G0 (c:=a) e f;have g3:=G0 (c:=b) e f;rw[Int.mul_comm c a,Int.mul_comm d a,Int.mul_comm y a]at g;rw[Int.mul_comm c b,Int.mul_comm d b,Int.mul_comm y b]at g3;omega
theorem Oe{e:Iv}(f:SubI x x')(g:SubI y e):SubI (dX x y) (dX x' e):=by
 have i:=f.all;have j:=g.all;have m1:=J7 (x:=x.1) (y:=y.1) (a:=x'.1) (b:=x'.2) (c:=e.1) (d:=e.2) (by omega) (by omega) (by omega) (by omega);have m2:=J7 (x:=x.1) (y:=y.2) (a:=x'.1) (b:=x'.2) (c:=e.1) (d:=e.2) (by omega) (by omega) (by omega) (by omega);have k:=J7 (x:=x.2) (y:=y.1) (a:=x'.1) (b:=x'.2) (c:=e.1) (d:=e.2) (by omega) (by omega) (by omega) (by omega);have l:=J7 (x:=x.2) (y:=y.2) (a:=x'.1) (b:=x'.2) (c:=e.1) (d:=e.2) (by omega) (by omega) (by omega) (by omega);simp only[dX,f.vx,f.vy,g.vx,g.vy,yBj,yAn];apply fQ<;>simp only[eQ,dC]<;>omega
theorem Dz(x:Int):SubI (iW x) (iW x):=by
 apply SubI.refl;rw[bm];simp only[iW,eQ];omega
theorem QJ(a:al x.1 x.2=true)(b:al y.1 y.2=true):SubI x (bV x y):=by
 have c:=bm.1 a;have d:=bm.1 b;simp only[bV,a,b,yBj,yAn];apply fQ<;>(try simp only[])<;>omega
theorem DA(a:al x.1 x.2=true)(b:al y.1 y.2=true):SubI y (bV x y):=by
 have c:=bm.1 a;have d:=bm.1 b;simp only[bV,a,b,yBj,yAn];apply fQ<;>(try simp only[])<;>omega
theorem jN{z:Iv}(a:SubI x z)(b:SubI y z):SubI (bV x y) z:=by
 have c:=a.all;have d:=b.all;simp only[bV,a.vx,b.vx,yBj,yAn];apply fQ<;>(try simp only[])<;>omega
def Cm(t u:Nat):Nat×Nat:=
 let a2:=t*t/1073741824
 let a3:=a2*t/1073741824
 let a4:=a3*t/1073741824
 let a5:=a4*t/1073741824
 let a6:=a5*t/1073741824
 let a7:=a6*t/1073741824
 let b2:=(u*u+1073741823)/1073741824
 let b3:=(b2*u+1073741823)/1073741824
 let b4:=(b3*u+1073741823)/1073741824
 let b5:=(b4*u+1073741823)/1073741824
 let b6:=(b5*u+1073741823)/1073741824
 let a:=(b6*u+1073741823)/1073741824
 let b:=(a*u+1073741823)/1073741824
 let c:=(b*u+1073741823)/1073741824
 (((t+a5/120)-((b3+5)/6+(a+5039)/5040))/16384,((u+(b5+119)/120+(c+362879)/362880)-(a3/6+a7/5040)+16383)/16384)
def Co(t u:Nat):Nat×Nat:=
 let a2:=t*t/1073741824
 let a3:=a2*t/1073741824
 let a4:=a3*t/1073741824
 let a5:=a4*t/1073741824
 let a6:=a5*t/1073741824
 let a7:=a6*t/1073741824
 let a8:=a7*t/1073741824
 let b2:=(u*u+1073741823)/1073741824
 let b3:=(b2*u+1073741823)/1073741824
 let b4:=(b3*u+1073741823)/1073741824
 let b5:=(b4*u+1073741823)/1073741824
 let b6:=(b5*u+1073741823)/1073741824
 let c:=(b6*u+1073741823)/1073741824
 let b:=(c*u+1073741823)/1073741824
 let d:=(b*u+1073741823)/1073741824
 let a:=(d*u+1073741823)/1073741824
 (((1073741824+a4/24+a8/40320)-((b2+1)/2+(b6+719)/720+(a+3628799)/3628800))/16384,((1073741824+(b4+23)/24+(b+40319)/40320)-(a2/2+a6/720)+16383)/16384)
def tN(x:Nat):Nat:=x*6746518852/65536
def uN(x:Nat):Nat:=(x*6746518853+65535)/65536
def tQ(r:Nat):Nat×Nat:=bif Nat.ble r 8192 then Cm (tN r) (uN r)else Co (tN (16384-r)) (uN (16384-r))
def J8(r:Nat):Bool:=(Nat.ble (tQ r).1 (tQ (r+1)).1).and ((Nat.ble (tQ r).2 (tQ (r+1)).2).and ((Nat.ble (tQ r).1 (tQ r).2).and (Nat.ble (tQ r).1 65536)))
def se(s:Nat):Nat->Bool
 |0=>true
 |n+1=>(J8 (s+n)).and (se s n)
theorem kF{s:Nat}:∀{n:Nat},se s n=true->∀i,i<n->J8 (s+i)=true
 |0,_,i,hi=>by omega
 |n+1,h,i,hi=>by
  simp only[se,An]at h;by_cases a:i=n
  .subst a;exact h.1
  .exact kF h.2 i (by omega)
def aN(t:Nat):Nat->Nat
 |0=>1073741824
 |1=>t
 |k+2=>aN t (k+1)*t/1073741824
def oL(u:Nat):Nat->Nat
 |0=>1073741824
 |1=>u
 |k+2=>(oL u (k+1)*u+1073741823)/1073741824
theorem Uw(n:Nat):dC (n:Int) 1073741824=(((n+1073741823)/1073741824:Nat):Int):=by unfold dC;omega
theorem zn(x:Nat):∀k,eh (x:Int) k=((aN (tN x) k:Nat):Int)
 |0=>rfl
 |1=>by simp only[eh,aN,tN];omega
 |k+2=>by
  have ih:=zn x (k+1);have a:=zn x 1;simp only[eh,aN]at a ih|-;rw[ih,a,<-Int.natCast_mul];generalize aN (tN x) (k+1)*tN x=p;omega
theorem zo(x:Nat):∀k,ej (x:Int) k=((oL (uN x) k:Nat):Int)
 |0=>rfl
 |1=>by simp only[ej,oL,uN,dC];omega
 |k+2=>by
  have ih:=zo x (k+1);have a:=zo x 1;simp only[ej,oL]at a ih|-;rw[ih,a,<-Int.natCast_mul];generalize oL (uN x) (k+1)*uN x=p;exact Uw p
theorem Cp(t:Nat)(a:t<=1073741824):∀k,aN t (k+1)<=t
 |0=>yAd _
 |k+1=>by
  have ih:=Cp t a k;simp only[aN];exact Nat.div_le_of_le_mul (yAr t (by omega))
theorem zp{x:Nat}(h:x<=8192):tN x<=1073741824/\tN x<=uN x:=by unfold tN uN;omega
theorem Cq(b d:Nat)(hd:0<d):((b:Int)+d-1)/d=(((b+(d-1))/d:Nat):Int):=by
 rw[show(b:Int)+d-1=((b+(d-1):Nat):Int) by omega,Int.natCast_ediv]
theorem Vg(p n:Nat):max 0 (((p:Int)-n)/16384)=(((p-n)/16384:Nat):Int):=by omega
theorem Af(p n:Nat)(h:n<=p):dC ((p:Int)-n) 16384=(((p-n+16383)/16384:Nat):Int):=by unfold dC;omega
theorem Of(j a c b i d e f g:Nat)(h:a/6+b/5040<=i):ov ((j:Int)-av d 6+(c:Int)/120-av f 5040) ((i:Int)-(a:Int)/6+av e 120-(b:Int)/5040+av g 362880)=
 (((((j+c/120)-((d+5)/6+(f+5039)/5040))/16384:Nat):Int),min 65536 ((((i+(e+119)/120+(g+362879)/362880)-(a/6+b/5040)+16383)/16384:Nat):Int)):=by
 have r:av d 6=(((d+5)/6:Nat):Int):=Cq d 6 (by decide);have s:av e 120=(((e+119)/120:Nat):Int):=Cq e 120 (by decide);have u:av f 5040=(((f+5039)/5040:Nat):Int):=Cq f 5040 (by decide);have v:av g 362880=(((g+362879)/362880:Nat):Int):=Cq g 362880 (by decide);have d3:(a:Int)/6=((a/6:Nat):Int):=(Int.natCast_ediv a 6).symm;have d5:(c:Int)/120=((c/120:Nat):Int):=(Int.natCast_ediv c 120).symm;have d7:(b:Int)/5040=((b/5040:Nat):Int):=(Int.natCast_ediv b 5040).symm;rw[r,s,u,v,d3,d5,d7];generalize(d+5)/6=k at *;generalize(e+119)/120=l at *;generalize(f+5039)/5040=m at *;generalize(g+362879)/362880=n at *;generalize a/6=o at *;generalize c/120=p at *;generalize b/5040=q at *;unfold ov;rw[show(j:Int)-k+p-m=((j+p:Nat):Int)-((k+m:Nat):Int) by omega,show(i:Int)-o+l-q+n=((i+l+n:Nat):Int)-((o+q:Nat):Int) by omega,Vg,Af _ _ (by omega)]
theorem Og(b d c e f g b6 i a:Nat)(h:b/2+c/720<=1073741824):ov (1073741824-av f 2+(d:Int)/24-av b6 720+(e:Int)/40320-av a 3628800) (1073741824-(b:Int)/2+av g 24-(c:Int)/720+av i 40320)=
 (((((1073741824+d/24+e/40320)-((f+1)/2+(b6+719)/720+(a+3628799)/3628800))/16384:Nat):Int),min 65536 ((((1073741824+(g+23)/24+(i+40319)/40320)-(b/2+c/720)+16383)/16384:Nat):Int)):=by
 have u:av f 2=(((f+1)/2:Nat):Int):=Cq f 2 (by decide);have v:av g 24=(((g+23)/24:Nat):Int):=Cq g 24 (by decide);have c6:av b6 720=(((b6+719)/720:Nat):Int):=Cq b6 720 (by decide);have x:av i 40320=(((i+40319)/40320:Nat):Int):=Cq i 40320 (by decide);have k:av a 3628800=(((a+3628799)/3628800:Nat):Int):=Cq a 3628800 (by decide);have d2:(b:Int)/2=((b/2:Nat):Int):=(Int.natCast_ediv b 2).symm;have d4:(d:Int)/24=((d/24:Nat):Int):=(Int.natCast_ediv d 24).symm;have d6:(c:Int)/720=((c/720:Nat):Int):=(Int.natCast_ediv c 720).symm;have d8:(e:Int)/40320=((e/40320:Nat):Int):=(Int.natCast_ediv e 40320).symm;rw[u,v,c6,x,k,d2,d4,d6,d8];generalize(f+1)/2=l at *;generalize(g+23)/24=m at *;generalize(b6+719)/720=n at *;generalize(i+40319)/40320=o at *;generalize(a+3628799)/3628800=j at *;generalize b/2=p at *;generalize d/24=q at *;generalize c/720=r at *;generalize e/40320=s at *;unfold ov;rw[show(1073741824:Int)-l+q-n+s-j=((1073741824+q+s:Nat):Int)-((l+n+j:Nat):Int) by omega,show(1073741824:Int)-p+m-r+o=((1073741824+m+o:Nat):Int)-((p+r:Nat):Int) by omega,Vg,Af _ _ (by omega)]
theorem QK(t u:Nat):Cm t u=(((aN t 1+aN t 5/120)-((oL u 3+5)/6+(oL u 7+5039)/5040))/16384,((oL u 1+(oL u 5+119)/120+(oL u 9+362879)/362880)-(aN t 3/6+aN t 7/5040)+16383)/16384):=by
 simp only[Cm,aN,oL]
theorem QL(t u:Nat):Co t u=(((1073741824+aN t 4/24+aN t 8/40320)-((oL u 2+1)/2+(oL u 6+719)/720+(oL u 10+3628799)/3628800))/16384,((1073741824+(oL u 4+23)/24+(oL u 8+40319)/40320)-(aN t 2/2+aN t 6/720)+16383)/16384):=by
 simp only[Co,aN,oL]
theorem SP(a b c d:Int):eL [a,b,c,d]=a-b+c-d:=by simp[eL,ou,mV];omega
theorem J9(a b c d e:Int):eL [a,b,c,d,e]=a-b+c-d+e:=by simp[eL,ou,mV];omega
theorem SQ(a b c d e f:Int):eL [a,b,c,d,e,f]=a-b+c-d+e-f:=by simp[eL,ou,mV];omega
theorem QM{x:Nat}(h:x<=8192):qP (x:Int)=(((Cm (tN x) (uN x)).1:Int),min 65536 ((Cm (tN x) (uN x)).2:Int)):=by
 have a:=Cp (tN x) (zp h).1 2;have b:=Cp (tN x) (zp h).1 6;have d:=(zp h).2;have c:oL (uN x) 1=uN x:=rfl;rw[QK];simp only[qP,m9,ly,SP,J9,zn,zo];exact Of _ _ _ _ _ _ _ _ _ (by simp only[Nat.reduceAdd]at a b;rw[c];omega)
theorem QN{x:Nat}(h:x<=8192):vT (x:Int)=(((Co (tN x) (uN x)).1:Int),min 65536 ((Co (tN x) (uN x)).2:Int)):=by
 have a:=Cp (tN x) (zp h).1 1;have b:=Cp (tN x) (zp h).1 5;have c:=(zp h).1;rw[QL];simp only[vT,qj,ow,J9,SQ,zn,zo];exact Og _ _ _ _ _ _ _ _ _ (by simp only[Nat.reduceAdd]at a b;omega)
theorem EH(h:r<=16384):aT (r:Int)=(((tQ r).1:Int),min 65536 ((tQ r).2:Int)):=by
 unfold aT tQ;by_cases a:r<=8192
 .rw[yAb (by omega),show Nat.ble r 8192=true from Nat.ble_eq_true_of_le a]
  exact QM a
 .rw[L4 (by omega)]
  have:Nat.ble r 8192=false:=by
   cases b:Nat.ble r 8192 with
   |false=>rfl
   |true=>exact absurd (Nat.le_of_ble_eq_true b) a
  rw[this,show(16384:Int)-(r:Int)=((16384-r:Nat):Int) by omega];exact QN (by omega)
set_option maxRecDepth 100000
theorem Ux:se 0 2048=true:=by decide +kernel
theorem Uy:se 2048 2048=true:=by decide +kernel
theorem Xt:se 4096 2048=true:=by decide +kernel
theorem Xu:se 6144 2048=true:=by decide +kernel
theorem Xv:se 8192 2048=true:=by decide +kernel
theorem Xw:se 10240 2048=true:=by decide +kernel
theorem Xz:se 12288 2048=true:=by decide +kernel
theorem XA:se 14336 2048=true:=by decide +kernel
theorem Uz(h:r<16384):J8 r=true:=by
 by_cases a:r<2048
 .exact(show 0+r=r by omega)▸kF Ux r a
 by_cases b:r<4096
 .exact(show 2048+(r-2048)=r by omega)▸kF Uy (r-2048) (by omega)
 by_cases c:r<6144
 .exact(show 4096+(r-4096)=r by omega)▸kF Xt (r-4096) (by omega)
 by_cases d:r<8192
 .exact(show 6144+(r-6144)=r by omega)▸kF Xu (r-6144) (by omega)
 by_cases e:r<10240
 .exact(show 8192+(r-8192)=r by omega)▸kF Xv (r-8192) (by omega)
 by_cases c6:r<12288
 .exact(show 10240+(r-10240)=r by omega)▸kF Xw (r-10240) (by omega)
 by_cases f:r<14336
 .exact(show 12288+(r-12288)=r by omega)▸kF Xz (r-12288) (by omega)
 by_cases g:r<16384
 .exact(show 14336+(r-14336)=r by omega)▸kF XA (r-14336) (by omega)
 omega
theorem IS(h:r<16384):0<=(aT r).1/\(aT r).1<=(aT r).2/\(aT r).2<=65536/\(aT r).1<=(aT ((r+1:Nat):Int)).1/\(aT r).2<=(aT ((r+1:Nat):Int)).2:=by
 have:=Uz h;simp only[J8,An]at this;have a:=Nat.le_of_ble_eq_true this.1;have b:=Nat.le_of_ble_eq_true this.2.1;have c:=Nat.le_of_ble_eq_true this.2.2.1;have d:=Nat.le_of_ble_eq_true this.2.2.2;rw[EH (r:=r) (by omega),EH (r:=r+1) (by omega)];simp only[];omega
theorem LV:aT 16384=(65536,65536):=by decide +kernel
theorem Ka:aT 0=(0,0):=by decide +kernel
theorem pY{r:Int}(b:0<=r)(h:r<=16384):0<=(aT r).1/\(aT r).1<=(aT r).2/\(aT r).2<=65536:=by
 by_cases a:r=16384
 .subst a;rw[LV];simp
 .have:=IS (r:=r.toNat) (by omega)
  simp only[show((r.toNat:Nat):Int)=r by omega]at this;omega
theorem Cr(r:Nat):∀k:Nat,r+k<=16384->(aT r).1<=(aT ((r+k:Nat):Int)).1/\(aT r).2<=(aT ((r+k:Nat):Int)).2
 |0,_=>⟨yCc _,yCc _⟩
 |k+1,h=>by
  have a:=Cr r k (by omega);have:=IS (r:=r+k) (by omega);rw[show r+(k+1)=r+k+1 by omega];omega
theorem G1(c:0<=a)(h1:a<=b)(d:b<=16384):(aT a).1<=(aT b).1/\(aT a).2<=(aT b).2:=by
 have:=Cr a.toNat (b-a).toNat (by omega);rw[show((a.toNat+(b-a).toNat:Nat):Int)=b by omega,show((a.toNat:Nat):Int)=a by omega]at this;exact this
def sS(m:Int):Iv:=if 0<=m then aT m else fu (aT (-m))
theorem xP{r:Int}(a:0<=r)(h:r<=16384):fu (aT r)=(-(aT r).2,-(aT r).1):=by
 have b:=pY a h;have:al (aT r).1 (aT r).2=true:=bm.2 (by omega);simp only[fu,this,yAn]
theorem LW{m:Int}(a:-16384<=m)(h1:m<=16384):-65536<=(sS m).1/\(sS m).1<=(sS m).2/\(sS m).2<=65536:=by
 unfold sS;split
 .have:=pY (r:=m) (by omega) (by omega);omega
 .have:=pY (r:=-m) (by omega) (by omega)
  rw[xP (by omega) (by omega)]
  try simp only[]
  omega
theorem Fk(f:-16384<=a)(h1:a<=b)(e:b<=16384):(sS a).1<=(sS b).1/\(sS a).2<=(sS b).2:=by
 unfold sS;by_cases c:0<=a
 .rw[yAb c,yAb (by omega)]
  exact G1 c h1 e
 .rw[L4 c]
  have g:=pY (r:=-a) (by omega) (by omega);rw[xP (r:=-a) (by omega) (by omega)];by_cases d:0<=b
  .rw[yAb d]
   have i:=pY (r:=b) (by omega) (by omega)
   try simp only[]
   omega
  .rw[L4 d,xP (r:=-b) (by omega) (by omega)]
   have:=G1 (a:=-b) (b:=-a) (by omega) (by omega) (by omega)
   try simp only[]
   omega
theorem xQ{x k:Int}(b:-16384<=x-65536*k)(h1:x-65536*k<=16384):fc x=sS (x-65536*k):=by
 unfold fc sS;by_cases hp:0<=x-65536*k
 .rw[yAb hp,show x%65536=x-65536*k by omega]
  generalize x-65536*k=d at *;unfold nv;by_cases a:d=16384
  .subst a;rfl
  .rw[yAb (by omega),show d%16384=d by omega]
 .rw[L4 hp,show x%65536=x-65536*k+65536 by omega]
  generalize x-65536*k=d at *;unfold nv;rw[L4 (by omega),L4 (by omega),L4 (by omega),show 16384-(d+65536)%16384=-d by omega]
theorem xR{x k:Int}(b:16384<=x-65536*k)(h1:x-65536*k<=49152):fc x=sS (32768-(x-65536*k)):=by
 unfold fc sS;rw[show x%65536=x-65536*k by omega];generalize x-65536*k=d at *;unfold nv;by_cases h:d<32768
 .rw[yAb (show 0<=32768-d by omega),L4 (by omega),yAb (by omega),show 16384-d%16384=32768-d by omega]
 .by_cases a:d=32768
  .subst a
   show fu (aT 0)=aT 0;rw[Ka];rfl
  .rw[L4 (show¬0<=32768-d by omega),show -(32768-d)=d-32768 by omega]
   by_cases hf:d=49152
   .subst hf;rfl
   .rw[L4 (by omega),L4 (by omega),yAb (by omega),show d%16384=d-32768 by omega]
theorem IT(x:Int):-65536<=(fc x).1/\(fc x).1<=(fc x).2/\(fc x).2<=65536:=by
 by_cases h:x-65536*((x+16384)/65536)<=16384
 .rw[xQ (k:=(x+16384)/65536) (by omega) h]
  exact LW (by omega) (by omega)
 .rw[xR (k:=(x+16384)/65536) (by omega) (by omega)]
  exact LW (by omega) (by omega)
theorem SR{lo x hi:Int}(h1:lo<=x)(e:x<=hi)(hn:∀n,lo<=n->n<=hi->n%65536≠16384):(fc x).2<=max (fc lo).2 (fc hi).2:=by
 by_cases h:x-65536*((x+16384)/65536)<=16384
 .have hp:=hn (65536*((x+16384)/65536)+16384) (by omega)
  have d:hi<65536*((x+16384)/65536)+16384:=by
   have:(65536*((x+16384)/65536)+16384)%65536=16384:=by omega
   by_cases c:65536*((x+16384)/65536)+16384<=hi
   .exact absurd this (hp c)
   .omega
  rw[xQ (x:=x) (k:=(x+16384)/65536) (by omega) h,xQ (x:=hi) (k:=(x+16384)/65536) (by omega) (by omega)];have:=Fk (a:=x-65536*((x+16384)/65536)) (b:=hi-65536*((x+16384)/65536)) (by omega) (by omega) (by omega);omega
 .have hp:=hn (65536*((x+16384)/65536)+16384)
  have d:65536*((x+16384)/65536)+16384<lo:=by
   have:(65536*((x+16384)/65536)+16384)%65536=16384:=by omega
   by_cases c:lo<=65536*((x+16384)/65536)+16384
   .exact absurd this (hp c (by omega))
   .omega
  rw[xR (x:=x) (k:=(x+16384)/65536) (by omega) (by omega),xR (x:=lo) (k:=(x+16384)/65536) (by omega) (by omega)];have:=Fk (a:=32768-(x-65536*((x+16384)/65536))) (b:=32768-(lo-65536*((x+16384)/65536))) (by omega) (by omega) (by omega);omega
theorem SS{lo x hi:Int}(h1:lo<=x)(e:x<=hi)(hn:∀n,lo<=n->n<=hi->n%65536≠49152):min (fc lo).1 (fc hi).1<=(fc x).1:=by
 by_cases h:x-65536*((x+16384)/65536)<=16384
 .have hp:=hn (65536*((x+16384)/65536)-16384)
  have d:65536*((x+16384)/65536)-16384<lo:=by
   have:(65536*((x+16384)/65536)-16384)%65536=49152:=by omega
   by_cases c:lo<=65536*((x+16384)/65536)-16384
   .exact absurd this (hp c (by omega))
   .omega
  rw[xQ (x:=x) (k:=(x+16384)/65536) (by omega) h,xQ (x:=lo) (k:=(x+16384)/65536) (by omega) (by omega)];have:=Fk (a:=lo-65536*((x+16384)/65536)) (b:=x-65536*((x+16384)/65536)) (by omega) (by omega) (by omega);omega
 .have hp:=hn (65536*((x+16384)/65536)+49152) (by omega)
  have d:hi<65536*((x+16384)/65536)+49152:=by
   have:(65536*((x+16384)/65536)+49152)%65536=49152:=by omega
   by_cases c:65536*((x+16384)/65536)+49152<=hi
   .exact absurd this (hp c)
   .omega
  rw[xR (x:=x) (k:=(x+16384)/65536) (by omega) (by omega),xR (x:=hi) (k:=(x+16384)/65536) (by omega) (by omega)];have:=Fk (a:=32768-(hi-65536*((x+16384)/65536))) (b:=32768-(x-65536*((x+16384)/65536))) (by omega) (by omega) (by omega);omega
theorem DB{a:Iv}{t n:Int}(b:al a.1 a.2=true)(h1:a.1<=n)(c:n<=a.2)(h:(n-t)%65536=0):en a t=true:=by
 simp only[en,b,yAs,An,Is];omega
theorem Cs{a b:Iv}{t:Int}(h:SubI a b)(c:en a t=true):en b t=true:=by
 have:=h.all;simp only[en,h.vx,yAs,An,Is]at c;exact DB (n:=a.1+(t-a.1)%65536) h.vy (by omega) (by omega) (by omega)
theorem Vh:iW 65536=(65536,65536):=by decide
theorem ST:iW (-65536)=(-65536,-65536):=by decide
section over
variable {v:Int->Iv} {c t u:Int}
theorem sf{a:Iv}(c:al a.1 a.2=true)(d:a.2-a.1<65536):eU a v t u=(let b:=if en a t then bV (bV (v a.1) (v a.2)) (iW 65536)else bV (v a.1) (v a.2);if en a u then bV b (iW (-65536))else b):=by
 unfold eU;rw[L4 (by simp[c]),L4 (by omega)]
theorem AS{a:Iv}(b:al a.1 a.2=true)(c:65536<=a.2-a.1):eU a v t u=(-65536,65536):=by
 unfold eU;rw[L4 (by simp[b]),yAb c]
theorem IU(d:∀x,v x=fc (x+c))(z:(t+c-16384)%65536=0)(A:(u+c-49152)%65536=0){a:Iv}(e:al a.1 a.2=true){x:Int}(h1:a.1<=x)(s:x<=a.2):SubI (v x) (eU a v t u):=by
 have i:∀x,-65536<=(v x).1/\(v x).1<=(v x).2/\(v x).2<=65536:=λx=>by rw[d];exact IT _
 have B:=i x;have ra:=i a.1;have rb:=i a.2;by_cases p:65536<=a.2-a.1
 .rw[AS e p]
  apply fQ<;>(try simp only[])<;>omega
 .have j:al (v a.1).1 (v a.1).2=true:=bm.2 (by omega)
  have k:al (v a.2).1 (v a.2).2=true:=bm.2 (by omega)
  have m:en a t=false->(v x).2<=max (v a.1).2 (v a.2).2:=λb=>by
   rw[d,d,d];refine SR (by omega) (by omega) λn q r o=>?_;rw[DB (n:=n-c) e (by omega) (by omega) (by omega)]at b;cases b
  have hL:en a u=false->min (v a.1).1 (v a.2).1<=(v x).1:=λb=>by
   rw[d,d,d];refine SS (by omega) (by omega) λn q r o=>?_;rw[DB (n:=n-c) e (by omega) (by omega) (by omega)]at b;cases b
  have f:bV (v a.1) (v a.2)=(min (v a.1).1 (v a.2).1,max (v a.1).2 (v a.2).2):=by simp only[bV,j,k,yBj,yAn]
  have l:al (bV (v a.1) (v a.2)).1 (bV (v a.1) (v a.2)).2=true:=by rw[f,bm];simp only[];omega
  have hP:bV (bV (v a.1) (v a.2)) (iW 65536)=(min (v a.1).1 (v a.2).1,65536):=by
   rw[Vh];unfold bV at *;simp only[j,k,yBj,yAn]at l|-;rw[l];simp only[show al 65536 65536=true from rfl,yBj,yAn]
   ext<;>(try simp only[])<;>omega
  rw[sf e (by omega)]
  try simp only[]
  cases b:en a t with
  |true=>
   simp only[yAn];rw[hP]
   cases g:en a u with
   |true=>
    simp only[yAn]
    have:bV (min (v a.1).1 (v a.2).1,65536) (iW (-65536))=(-65536,65536):=by
     rw[ST];have:al (min (v a.1).1 (v a.2).1) 65536=true:=bm.2 (by omega);simp only[bV,this,show al (-65536) (-65536)=true from rfl,yBj,yAn]
     ext<;>(try simp only[])<;>omega
    rw[this];apply fQ<;>(try simp only[])<;>omega
   |false=>
    have:=hL g;simp only[ZY,yAi];apply fQ<;>(try simp only[])<;>omega
  |false=>
   have y:=m b;simp only[ZY,yAi]
   cases g:en a u with
   |true=>
    simp only[yAn]
    have:bV (bV (v a.1) (v a.2)) (iW (-65536))=(-65536,max (v a.1).2 (v a.2).2):=by
     rw[ST,f];have:al (min (v a.1).1 (v a.2).1) (max (v a.1).2 (v a.2).2)=true:=bm.2 (by omega);simp only[bV,this,show al (-65536) (-65536)=true from rfl,yBj,yAn]
     ext<;>(try simp only[])<;>omega
    rw[this];apply fQ<;>(try simp only[])<;>omega
   |false=>
    have:=hL g;simp only[ZY,yAi];rw[f];apply fQ<;>(try simp only[])<;>omega
theorem G2(l:∀x,v x=fc (x+c))(o:(t+c-16384)%65536=0)(p:(u+c-49152)%65536=0){a b:Iv}(h:SubI a b):SubI (eU a v t u) (eU b v t u):=by
 have q:∀x,-65536<=(v x).1/\(v x).1<=(v x).2/\(v x).2<=65536:=λx=>by rw[l];exact IT _
 have s:=h.all;have C:∀x,al (v x).1 (v x).2=true:=λx=>bm.2 (by have:=q x;omega)
 have j:∀x,SubI (v x) (-65536,65536):=λx=>by have:=q x;apply fQ<;>(try simp only[])<;>omega
 have n:SubI (iW 65536) (-65536,65536):=by rw[Vh];apply fQ<;>(try simp only[])<;>omega
 have i:SubI (iW (-65536)) (-65536,65536):=by rw[ST];apply fQ<;>(try simp only[])<;>omega
 by_cases y:65536<=b.2-b.1
 .rw[AS h.vy y]
  by_cases m:65536<=a.2-a.1
  .rw[AS h.vx m];exact SubI.refl rfl
  .rw[sf h.vx (by omega)]
   try simp only[]
   have d:=jN (j a.1) (j a.2);have f:=jN d n;split
   .split
    .exact jN f i
    .exact jN d i
   .split
    .exact f
    .exact d
 .have z:=IU l o p h.vy (x:=a.1) (by omega) (by omega)
  have A:=IU l o p h.vy (x:=a.2) (by omega) (by omega);have d:=jN z A;have b1:=jN (j b.1) (j b.2);have b2:=jN b1 n
  have B:en a t=true->SubI (iW 65536) (eU b v t u):=λe=>by
   rw[sf h.vy (by omega)];simp only[Cs h e,yAn];have g:=DA b1.vx n.vx;split
   .exact g.trans (QJ b2.vx i.vx)
   .exact g
  have r:en a u=true->SubI (iW (-65536)) (eU b v t u):=λe=>by
   rw[sf h.vy (by omega)];simp only[Cs h e,yAn];split
   .exact DA b2.vx i.vx
   .exact DA b1.vx i.vx
  rw[sf h.vx (by omega)]
  try simp only[]
  cases e:en a t with
  |true=>
   have f:=jN d (B e);simp only[yAn];split
   .rename_i k;exact jN f (r k)
   .exact f
  |false=>
   simp only[ZY,yAi];split
   .rename_i k;exact jN d (r k)
   .exact d
end over
theorem Oh{x y:Int}(h:(x-y)%65536=0):fc x=fc y:=by
 unfold fc;rw[show x%65536=y%65536 by omega]
theorem Oi{a b:Iv}(h:SubI a b):SubI (pi a) (pi b):=G2 (v:=fc) (c:=0) (λx=>by rw[Int.add_zero]) (by decide) (by decide) h
theorem Oj{a b:Iv}(h:SubI a b):SubI (pj a) (pj b):=G2 (v:=rW) (c:=16384) (λx=>by unfold rW;exact Oh (by omega)) (by decide) (by decide) h
structure SubV(x y:aq):Prop where
 a:SubI x.1 y.1
 b:SubI x.2.1 y.2.1
 c:SubI x.2.2 y.2.2
structure SubM(x y:kO):Prop where
 a:SubV x.1 y.1
 b:SubV x.2.1 y.2.1
 c:SubV x.2.2 y.2.2
structure SubP(x y:jP):Prop where
 m:SubM x.1 y.1
 v:SubV x.2 y.2
theorem SubV.g{x y:aq}(h:SubV x y):∀k,SubI (g3 x k) (g3 y k)
 |0=>h.a
 |1=>h.b
 |_+2=>h.c
theorem SubM.g{x y:kO}(h:SubM x y):∀k,SubV (g3 x k) (g3 y k)
 |0=>h.a
 |1=>h.b
 |_+2=>h.c
theorem eI:SubI (0,0) (0,0):=SubI.refl rfl
theorem zq:SubI (65536,65536) (65536,65536):=SubI.refl rfl
theorem uE:SubV aM aM:=⟨eI,eI,eI⟩
theorem LX:SubM (aM,aM,aM) (aM,aM,aM):=⟨uE,uE,uE⟩
theorem IW:SubM kP kP:=⟨⟨zq,eI,eI⟩,⟨eI,zq,eI⟩,⟨eI,eI,zq⟩⟩
theorem Ct:SubP fO fO:=⟨IW,uE⟩
theorem LY:SubP zP zP:=⟨LX,uE⟩
theorem sg{m c v d:aq}(a:SubV m c)(b:SubV v d):∀n,SubI (iX m v n) (iX c d n)
 |0=>eI
 |n+1=>v8 (sg a b n) (Oe (a.g n) (b.g n))
theorem G3{a f b g:aq}(d:SubV a f)(e:SubV b g):SubV (pm a b) (pm f g):=⟨v8 d.a e.a,v8 d.b e.b,v8 d.c e.c⟩
theorem Cu{m f:kO}{v g:aq}(d:SubM m f)(e:SubV v g):SubV (pX m v) (pX f g):=⟨sg d.a e 3,sg d.b e 3,sg d.c e 3⟩
theorem Ol(h:SubI x y):SubI (AN x) (AN y):=by
 have:=h.all;apply fQ<;>simp only[AN,vU]<;>omega
theorem Om{b d:kO}(h:SubM b d)(c:Nat):SubV (eM b c) (eM d c):=⟨h.a.g c,h.b.g c,h.c.g c⟩
theorem mC{a d b e:kO}(f:SubM a d)(i:SubM b e)(r c:Nat):SubI (rX a b r c) (rX d e r c):=Ol (sg (f.g r) (Om i c) 3)
theorem LZ{a e b f:kO}(c:SubM a e)(d:SubM b f):SubM (vV a b) (vV e f):=
 ⟨⟨mC c d 0 0,mC c d 0 1,mC c d 0 2⟩,⟨mC c d 1 0,mC c d 1 1,mC c d 1 2⟩,⟨mC c d 2 0,mC c d 2 1,mC c d 2 2⟩⟩
theorem Cv(v:Int×Int×Int):SubV (dm v) (dm v):=⟨Dz _,Dz _,Dz _⟩
theorem L0(c:Int){a b:Iv}(h:SubI a b):SubM (eu c a) (eu c b):=by
 have hs:=Oi h;have d:=Oj h;have e:=Od hs;simp only[eu,h.vx,h.vy,yAn];split
 .exact⟨⟨zq,eI,eI⟩,⟨eI,d,e⟩,⟨eI,hs,d⟩⟩
 .split
  .exact⟨⟨d,eI,hs⟩,⟨eI,zq,eI⟩,⟨e,eI,d⟩⟩
  .split
   .exact⟨⟨d,e,eI⟩,⟨hs,d,eI⟩,⟨eI,eI,zq⟩⟩
   .exact LX
theorem qQ{v w:aq}(h:SubV v w):SubP (dn v) (dn w):=⟨IW,h⟩
theorem xS(c:Int){a b:Iv}(h:SubI a b):SubP (gb c a) (gb c b):=⟨L0 c h,uE⟩
theorem EI{a d b e:jP}(c:SubP a d)(f:SubP b e):SubP (mw a b) (mw d e):=⟨LZ c.m f.m,G3 c.v (Cu c.m f.v)⟩
theorem Kb{p a:jP}{v b:aq}(hp:SubP p a)(c:SubV v b):SubV (gE p v) (gE a b):=G3 hp.v (Cu hp.m c)
theorem On(k:Int){a b:Iv}(h:SubI a b):SubP (eV k a) (eV k b):=by
 unfold eV
 repeat' split
 .exact xS _ h
 .exact xS _ h
 .exact xS _ h
 .exact qQ ⟨h,eI,eI⟩
 .exact qQ ⟨eI,h,eI⟩
 .exact qQ ⟨eI,eI,h⟩
 .exact Ct
theorem Cw(j:J){a b:Iv}(h:SubI a b):SubP (kQ j a) (kQ j b):=EI (qQ (Cv _)) (On _ h)
def gv(a b:List Iv):Prop:=a.length=b.length/\∀(k:Nat) x y,a[k]?=some x->b[k]?=some y->SubI x y
def G4(a b:List jP):Prop:=a.length=b.length/\∀k:Nat,SubP ((a[k]?).getD zP) ((b[k]?).getD zP)
theorem L3{a b:List jP}{x y:jP}(h:G4 a b)(d:SubP x y):G4 (a++[x]) (b++[y]):=by
 refine⟨by simp[h.1],λk=>?_⟩;by_cases c:k<a.length
 .rw[ZX c,ZX (by rw[<-h.1];exact c)]
  exact h.2 k
 .rw[yAa (by omega),yAa (by rw[<-h.1];omega),<-h.1]
  cases hd:k-a.length with
  |zero=>exact d
  |succ n=>exact LY
theorem L5{L L':List jP}(h:G4 L L')(j:J){a b:Iv}(c:SubI a b):SubP (zk L j a) (zk L' j b):=by
 unfold zk;split
 .exact Cw j c
 .exact EI (h.2 _) (Cw j c)
theorem Cy(js:List J){a b:List Iv}(h:gv a b):∀i,G4 (iy js a i) (iy js b i)
 |0=>⟨rfl,λk=>LY⟩
 |i+1=>by
  have ih:=Cy js h i;simp only[iy]
  cases e:js[i]? with
  |none=>exact ih
  |some j=>
   cases c:a[i]? with
   |none=>
    have:b[i]?=none:=by rw[List.getElem?_eq_none_iff]at c|-;rw[<-h.1];exact c
    rw[this];exact ih
   |some v=>
    cases d:b[i]? with
    |none=>
     rw[List.getElem?_eq_none_iff,<-h.1]at d;rw[List.getElem?_eq_none_iff.2 d]at c;cases c
    |some w=>exact L3 ih (L5 ih j (h.2 i v w c d))
def jc(a b:List aq):Prop:=a.length=b.length/\∀(k:Nat) x y,a[k]?=some x->b[k]?=some y->SubV x y
theorem Kc(h:Sh){p q:jP}(hp:SubP p q):jc (dp h p) (dp h q):=by
 refine⟨by simp[dp],λk x y b c=>?_⟩;simp only[dp,ZW,II]at b c;obtain⟨u,d,rfl⟩:=b;obtain⟨w,a,rfl⟩:=c;rw[d]at a;cases a;exact Kb hp (Cv _)
theorem Kd{L L':List jP}(h:G4 L L')(s:Sh):SubP (fP L s) (fP L' s):=by
 unfold fP;split
 .exact Ct
 .exact h.2 _
theorem HY(s:Sce){a b:List Iv}(h:gv a b)(i:Nat):jc (((bQ s a)[i]?).getD []) (((bQ s b)[i]?).getD []):=by
 simp only[bQ,ZW]
 cases s.shs[i]? with
 |none=>exact⟨rfl,λk x y c=>by simp at c⟩
 |some x=>exact Kc x (Kd (Cy s.js h _) x)
theorem tR(h:SubI x y)(a:de y=true):de x=true:=by
 rw[eO]at a|-;have:=h.all;omega
theorem HZ{x y:aq}(h:SubV x y)(d:dj y=true):dj x=true:=by
 rw[fY]at d|-;exact⟨tR h.a d.1,tR h.b d.2.1,tR h.c d.2.2⟩
theorem jc.get{a b:List aq}(h:jc a b){x:aq}(d:a[k]?=some x):∃y,b[k]?=some y/\SubV x y:=by
 have e:k<a.length:=(th.1 d).1;have c:b[k]?=some (b[k]'(by rw[<-h.1];exact e)):=an _;exact⟨_,c,h.2 k _ _ d c⟩
theorem tS{a b:List aq}(h:jc a b)(c:aw b=true):aw a=true:=by
 simp only[aw,An,Is,IV]at c|-;refine⟨by rw[h.1];exact c.1,λx e=>?_⟩;obtain⟨k,d⟩:=yAD e;obtain⟨y,f,hs⟩:=h.get d;exact HZ hs (c.2 y (In f))
theorem DC{n:Int}(h:SubI x y):oC n y<=oC n x/\oD n x<=oD n y:=by
 have f:=h.all;have d:=G0 (c:=n) (a:=y.1) (b:=y.2) (x:=x.1) (by omega) (by omega);have e:=G0 (c:=n) (a:=y.1) (b:=y.2) (x:=x.2) (by omega) (by omega);simp only[oC,oD];rw[Int.mul_comm y.1 n,Int.mul_comm y.2 n,Int.mul_comm x.1 n]at d;rw[Int.mul_comm y.1 n,Int.mul_comm y.2 n,Int.mul_comm x.2 n]at e;omega
theorem IX{x y:aq}(h:SubV x y):d9 n y<=d9 n x/\ed n x<=ed n y:=by
 have d:=DC (n:=n.1) h.a;have e:=DC (n:=n.2.1) h.b;have f:=DC (n:=n.2.2) h.c;simp only[d9,ed];omega
theorem EJ{n:Vc}{a b:List aq}(h:jc a b):∀i,i<=a.length->(gu (d9 n) gf b i).1<=(gu (d9 n) gf a i).1
 |0,_=>yCc _
 |i+1,hi=>by
  have ih:=EJ (n:=n) h i (by omega);have c:a[i]?=some a[i]:=an (by omega);obtain⟨y,d,hs⟩:=h.get c;have hd:=(IX (n:=n) hs).1;rw[ko c,ko d];simp only[gf,Is];split<;>split<;>(try simp only[])<;>omega
theorem EK{n:Vc}{a b:List aq}(h:jc a b):∀i,i<=a.length->(gu (ed n) gg a i).1<=(gu (ed n) gg b i).1
 |0,_=>yCc _
 |i+1,hi=>by
  have ih:=EK (n:=n) h i (by omega);have c:a[i]?=some a[i]:=an (by omega);obtain⟨y,d,hs⟩:=h.get c;have hd:=(IX (n:=n) hs).2;rw[ko c,ko d];simp only[gg,Is];split<;>split<;>(try simp only[])<;>omega
theorem Ke{a b:List aq}(c:jc a a')(d:jc b b'):mz n a' ra b' rb<=mz n a ra b rb:=by
 have e:=EJ (n:=n) c a.length (yAd _);have f:=EK (n:=n) d b.length (yAd _);simp only[mz,iA,iB,Ob];rw[c.1]at e|-;rw[d.1]at f|-;omega
theorem H0{a b:List aq}(c:jc a a')(d:jc b b')(h:k8 n a' ra b' rb=true):k8 n a ra b rb=true:=by
 simp only[k8,Cl,An]at h|-;exact⟨⟨⟨⟨tS c h.1.1.1.1,h.1.1.1.2⟩,h.1.1.2⟩,⟨tS d h.1.2.1.1,h.1.2.1.2⟩,h.1.2.2⟩,h.2⟩
theorem Oo{a b:List aq}(c:jc a a')(d:jc b b')(h:kE n a' ra b' rb=true):kE n a ra b rb=true:=by
 simp only[kE,An,Is]at h|-;have:=Ke (n:=n) (ra:=ra) (rb:=rb) c d;exact⟨H0 c d h.1,by omega⟩
structure SumI(x y:Iv):Prop where
 lo:y.1<=x.1
 md:x.1<=x.2
 hi:x.2<=y.2
theorem AT{s f:Iv}(d:0<=w)(hs:SumI s f)(e:SubI x x'):SumI (bX w s x) (bX w f x'):=by
 have h:=e.all;have g:=yA9 e.lo d;have i:=yA9 e.hi d;have j:=yA9 (show x.1<=x.2 by omega) d;have a:=hs.lo;have b:=hs.md;have c:=hs.hi;constructor<;>simp only[bX]<;>omega
structure SumV(x y:aq):Prop where
 a:SumI x.1 y.1
 b:SumI x.2.1 y.2.1
 c:SumI x.2.2 y.2.2
theorem AU{a b:List aq}{ws:List Int}(h:jc a b)(d:∀w∈ws,wB w=true):∀i,i<=a.length->SumV (bo a ws i) (bo b ws i)
 |0,_=>⟨⟨yCc _,yCc _,yCc _⟩,⟨yCc _,yCc _,yCc _⟩,⟨yCc _,yCc _,yCc _⟩⟩
 |i+1,hi=>by
  have ih:=AU h d i (by omega);have e:a[i]?=some a[i]:=an (by omega);obtain⟨y,g,hs⟩:=h.get e;simp only[bo,e,g]
  cases f:ws[i]? with
  |none=>exact ih
  |some w=>
   have hp:0<=w:=by
    have:=d w (In f);simp only[wB,yAI,yBf,yAh]at this;omega
   exact⟨AT hp ih.a hs.a,AT hp ih.b hs.b,AT hp ih.c hs.c⟩
theorem EL{a b:List aq}(h:jc a b)(c:dh b ws=true):dh a ws=true:=by
 simp only[dh,An]at c|-;rw[h.1];exact⟨⟨⟨tS h c.1.1.1,c.1.1.2⟩,c.1.2⟩,c.2⟩
theorem v9{a:List aq}(h:dh a ws=true):(∀w∈ws,wB w=true)/\ws.length=a.length/\aw a=true:=by
 simp only[dh,An,IV,Is]at h;exact⟨h.1.2,h.1.1.2,h.1.1.1⟩
theorem AW{u d v e:Iv}{t:Int}(f:SumI u d)(g:SumI v e)(i:0<t):0<=bt u v t/\bt u v t<=bt d e t:=by
 have a:=f.lo;have b:=f.md;have c:=f.hi;have a':=g.lo;have b':=g.md;have j:=g.hi
 have k:ga (u.1-v.2) (u.2-v.1)<=ga (d.1-e.2) (d.2-e.1):=by unfold ga;omega
 have l:0<=ga (u.1-v.2) (u.2-v.1):=by unfold ga;omega
 exact⟨yBV (by omega) (by omega),Int.ediv_le_ediv i (by omega)⟩
theorem IY(x y z r:Int):nk [x,y,z] r=if x<=r/\y<=r/\z<=r then r*r-x*x-y*y-z*z else -1:=by
 unfold nk
 have:[x,y,z].all (λx=>decide (x<=r))=decide (x<=r/\y<=r/\z<=r):=by simp[Bool.and_assoc]
 rw[this];simp[iG]
theorem Kf{x y:Int}(a:0<=x)(h:x<=y):x*x<=y*y:=yCj h h a (by omega)
theorem Kg{l r:List Int}{a b:List aq}(f:jc a a')(g:jc b b')(h:jk l r a' ra b' rb=true)(n:0<=ii l r a' ra b' rb):jk l r a ra b rb=true/\0<=ii l r a ra b rb:=by
 have o:jk l r a ra b rb=true:=by
  simp only[jk,An]at h|-;exact⟨⟨⟨⟨EL f h.1.1.1.1,EL g h.1.1.1.2⟩,h.1.1.2⟩,h.1.2⟩,h.2⟩
 refine⟨o,?_⟩;have d:=h;simp only[jk,An]at d;have wl:=v9 d.1.1.1.1;have e:=v9 d.1.1.1.2;have p:=vH d.1.1.1.1;have i:=AU f wl.1 l.length (by rw[wl.2.1,f.1];exact yAd _);have j:=AU g e.1 r.length (by rw[e.2.1,g.1];exact yAd _);simp only[ii,h,o,yAn,dN,IY]at n|-;have k:=AW i.a j.a (t:=aF l l.length) (by omega);have m:=AW i.b j.b (t:=aF l l.length) (by omega);have g3:=AW i.c j.c (t:=aF l l.length) (by omega);generalize bt (bo a l l.length).1 (bo b r r.length).1 (aF l l.length)=x at *;generalize bt (bo a l l.length).2.1 (bo b r r.length).2.1 (aF l l.length)=y at *;generalize bt (bo a l l.length).2.2 (bo b r r.length).2.2 (aF l l.length)=z at *;generalize bt (bo a' l l.length).1 (bo b' r r.length).1 (aF l l.length)=x' at *;generalize bt (bo a' l l.length).2.1 (bo b' r r.length).2.1 (aF l l.length)=v at *;generalize bt (bo a' l l.length).2.2 (bo b' r r.length).2.2 (aF l l.length)=A at *;have q:=Kf k.1 k.2;have s:=Kf m.1 m.2;have u:=Kf g3.1 g3.2;split at n
 .rename_i d
  rw[yAb (by omega)];omega
 .omega
theorem DD{n:Int}{s:Iv}(a:0<=w):oC n s+w*oC n x<=oC n (bX w s x)/\oD n (bX w s x)<=oD n s+w*oD n x:=by
 have b:n*(s.1+w*x.1)=n*s.1+w*(n*x.1):=by rw[Int.mul_add,<-Int.mul_assoc,<-Int.mul_assoc,Int.mul_comm n w]
 have c:n*(s.2+w*x.2)=n*s.2+w*(n*x.2):=by rw[Int.mul_add,<-Int.mul_assoc,<-Int.mul_assoc,Int.mul_comm n w]
 have a1:=yA9 (show min (n*x.1) (n*x.2)<=n*x.1 by omega) a;have a2:=yA9 (show min (n*x.1) (n*x.2)<=n*x.2 by omega) a;have a3:=yA9 (show n*x.1<=max (n*x.1) (n*x.2) by omega) a;have a4:=yA9 (show n*x.2<=max (n*x.1) (n*x.2) by omega) a;simp only[oC,oD,bX,b,c];omega
theorem Oq{s x:aq}(a:0<=w):d9 n s+w*d9 n x<=d9 n (nd w s x)/\ed n (nd w s x)<=ed n s+w*ed n x:=by
 have b:=DD (n:=n.1) (s:=s.1) (x:=x.1) a;have c:=DD (n:=n.2.1) (s:=s.2.1) (x:=x.2.1) a;have d:=DD (n:=n.2.2) (s:=s.2.2) (x:=x.2.2) a;simp only[d9,ed,nd,Int.mul_add];omega
theorem G5{n:Vc}{a:List aq}:∀i,i<=a.length->∀k x,k<i->a[k]?=some x->(gu (d9 n) gf a i).1<=d9 n x
 |0,_,k,x,e,_=>by omega
 |i+1,hi,k,x,e,c=>by
  have b:a[i]?=some a[i]:=an (by omega);rw[ko b];simp only[gf,Is];by_cases d:k=i
  .subst d
   rw[c]at b;cases b;split<;>(try simp only[])<;>omega
  .have:=G5 (n:=n) i (by omega) k x (by omega) c
   split<;>(try simp only[])<;>omega
theorem G6{n:Vc}{a:List aq}:∀i,i<=a.length->∀k x,k<i->a[k]?=some x->ed n x<=(gu (ed n) gg a i).1
 |0,_,k,x,e,_=>by omega
 |i+1,hi,k,x,e,c=>by
  have b:a[i]?=some a[i]:=an (by omega);rw[ko b];simp only[gg,Is];by_cases d:k=i
  .subst d
   rw[c]at b;cases b;split<;>(try simp only[])<;>omega
  .have:=G6 (n:=n) i (by omega) k x (by omega) c
   split<;>(try simp only[])<;>omega
theorem AY{n:Vc}{a:List aq}{ws:List Int}{L H:Int}(hL:∀(k:Nat) x,a[k]?=some x->L<=d9 n x)(c:∀(k:Nat) x,a[k]?=some x->ed n x<=H)(d:∀w∈ws,wB w=true)(f:ws.length=a.length):∀i,i<=ws.length->aF ws i*L<=d9 n (bo a ws i)/\ed n (bo a ws i)<=aF ws i*H
 |0,_=>by simp[aF,bo,d9,ed,oC,oD,aM]
 |i+1,hi=>by
  have ih:=AY hL c d f i (by omega);have b:a[i]?=some (a[i]'(by omega)):=an _;have e:ws[i]?=some ws[i]:=an (by omega)
  have hp:0<=ws[i]:=by
   have:=d _ (yAq (l:=ws) (n:=i) (by omega));simp only[wB,yAI,yBf,yAh]at this;omega
  have hd:=Oq (n:=n) (s:=bo a ws i) (x:=a[i]'(by omega)) hp;have g:=yA9 (hL i _ b) hp;have j:=yA9 (c i _ b) hp;simp only[bo,aF,b,e,yAl,Int.add_mul];omega
theorem DE{n t:Int}{u v:Iv}(c:0<t):oC n u-oD n v<=t*(max n (-n)*bt u v t):=by
 have a:ga (u.1-v.2) (u.2-v.1)<=t*bt u v t:=by
  have e:=Int.mul_ediv_add_emod (ga (u.1-v.2) (u.2-v.1)+t-1) t;have d:=yBd (ga (u.1-v.2) (u.2-v.1)+t-1) c;simp only[bt];omega
 have f:oC n u-oD n v<=max n (-n)*ga (u.1-v.2) (u.2-v.1):=by
  rcases yB3 0 n with h|h
  .have g:=yA9 (show u.1-v.2<=ga (u.1-v.2) (u.2-v.1) by unfold ga;omega) h
   rw[Int.mul_sub]at g;rw[show max n (-n)=n by omega];simp only[oC,oD];omega
  .have g:=yA9 (show -(u.2-v.1)<=ga (u.1-v.2) (u.2-v.1) by unfold ga;omega) (show 0<=-n by omega)
   rw[Int.neg_mul_neg,Int.mul_sub]at g;rw[show max n (-n)=-n by omega];simp only[oC,oD];omega
 have b:=yA9 a (show 0<=max n (-n) by omega);rw[<-Int.mul_assoc,Int.mul_comm (max n (-n)) t,Int.mul_assoc]at b;omega
theorem SU(p q r x y z:Int):(p*x+q*y+r*z)*(p*x+q*y+r*z)<=(p*p+q*q+r*r)*(x*x+y*y+z*z):=by
 have a:=mv (p*y-q*x);have b:=mv (p*z-r*x);have c:=mv (q*z-r*y)
 have e:(p*p+q*q+r*r)*(x*x+y*y+z*z)=(p*x+q*y+r*z)*(p*x+q*y+r*z)+(p*y-q*x)*(p*y-q*x)+(p*z-r*x)*(p*z-r*x)+(q*z-r*y)*(q*z-r*y):=by grind
 omega
theorem G7(n:Int):max n (-n)*max n (-n)=n*n:=by
 rcases yB3 0 n with h|h
 .rw[show max n (-n)=n by omega]
 .rw[show max n (-n)=-n by omega,Int.neg_mul_neg]
theorem QO(h:bB n=true):n.1*n.1+n.2.1*n.2.1+n.2.2*n.2.2<=eH n*eH n:=by
 have a:aG 16384 n=true:=by simp only[bB,An]at h;exact h.1
 have hs:=GW a;have hq:=r9 (n:=oK n) (by omega)
 have b:0<=n.1*n.1+n.2.1*n.2.1+n.2.2*n.2.2:=by
  have:=mv n.1;have:=mv n.2.1;have:=mv n.2.2;omega
 have e:n.1*n.1+n.2.1*n.2.1+n.2.2*n.2.2=((oK n:Nat):Int):=by unfold oK;omega
 have c:oK n<=pG (oK n)*pG (oK n):=by
  unfold pG;split
  all_goals omega
 rw[e];simp only[eH,h,yAn]
 have:((oK n:Nat):Int)<=((pG (oK n)*pG (oK n):Nat):Int):=by omega
 rw[Int.natCast_mul]at this;exact this
theorem QP{x y:Int}(b:0<=y)(h:x*x<=y*y):x<=y:=by
 by_cases a:x<=y
 .exact a
 .have c:=yA9 (show y<=x by omega) b
  have d:=Int.mul_lt_mul_of_pos_right (show y<x by omega) (show 0<x by omega);omega
theorem QQ{l r:List Int}{a b:List aq}(hs:kE n a ra b rb=true)(h:jk l r a ra b rb=true)(C:0<=ii l r a ra b rb):False:=by
 have d:=h;simp only[jk,An,Is]at d;have wl:=v9 d.1.1.1.1;have j:=v9 d.1.1.1.2;have W:=vH d.1.1.1.1;have F:=d.1.1.2;simp only[kE,k8,Cl,An,Is]at hs;obtain⟨⟨⟨⟨⟨D,N⟩,O⟩,⟨pb,P⟩,Q⟩,i⟩,G⟩:=hs
 have E:=(AY (n:=n) (a:=a) (L:=(iA n a).1) (H:=16777216*16777216*16777216) (λk x c=>G5 a.length (yAd _) k x (th.1 c).1 c) (λk x c=>by
  have m:aG 16384 n=true:=by simp only[bB,An]at i;exact i.1
  have:=(zm (n:=n) (v:=x) m (by simp only[aw,An,IV]at D;exact D.2 x (In c))).2
  omega) wl.1 wl.2.1 l.length (yAd _)).1
 have B:=(AY (n:=n) (a:=b) (L:=-(16777216*16777216*16777216)) (H:=(iB n b).1) (λk x c=>by
  have m:aG 16384 n=true:=by simp only[bB,An]at i;exact i.1
  have:=(zm (n:=n) (v:=x) m (by simp only[aw,An,IV]at pb;exact pb.2 x (In c))).1
  omega) (λk x c=>G6 b.length (yAd _) k x (th.1 c).1 c) j.1 j.2.1 r.length (yAd _)).2
 rw[<-F]at B;simp only[ii,h,yAn,dN,IY]at C;generalize bo a l l.length=U at *;generalize bo b r r.length=V at *;generalize aF l l.length=T at *;have R:=DE (n:=n.1) (u:=U.1) (v:=V.1) (t:=T) (by omega);have S:=DE (n:=n.2.1) (u:=U.2.1) (v:=V.2.1) (t:=T) (by omega);have g3:=DE (n:=n.2.2) (u:=U.2.2) (v:=V.2.2) (t:=T) (by omega);have f:=SU (max n.1 (-n.1)) (max n.2.1 (-n.2.1)) (max n.2.2 (-n.2.2)) (bt U.1 V.1 T) (bt U.2.1 V.2.1 T) (bt U.2.2 V.2.2 T);rw[G7,G7,G7]at f;have s:=QO i;have o:=AQ n;simp only[mz]at G;simp only[d9,ed]at E B;generalize bt U.1 V.1 T=x at *;generalize bt U.2.1 V.2.1 T=y at *;generalize bt U.2.2 V.2.2 T=z at *;generalize max n.1 (-n.1)=p at *;generalize max n.2.1 (-n.2.1)=q at *;generalize max n.2.2 (-n.2.2)=w at *;split at C
 case isFalse=>omega
 have g:(p*x+q*y+w*z)<=eH n*(ra+rb):=by
  refine QP (yA3 o.1 (by omega)) ?_;refine Int.le_trans f ?_
  have A:0<=x*x+y*y+z*z:=by
   have:=mv x;have:=mv y;have:=mv z;omega
  have I:=Int.mul_le_mul_of_nonneg_right s A;have J:=yA9 (show x*x+y*y+z*z<=(ra+rb)*(ra+rb) by omega) (mv (eH n))
  have e:eH n*(ra+rb)*(eH n*(ra+rb))=eH n*eH n*((ra+rb)*(ra+rb)):=by grind
  rw[e];exact Int.le_trans I J
 have K:=yA9 g (show 0<=T by omega);have M:=yA9 (show eH n*(ra+rb)+1<=(iA n a).1-(iB n b).1 by omega) (show 0<=T by omega);rw[Int.mul_add,Int.mul_add]at K;rw[Int.mul_add,Int.mul_sub]at M;omega
def PQ(v:Vc):Bool:=!(v.1==0&&v.2.1==0&&v.2.2==0)&&fB v.1 v.2.1 v.2.2 16384
theorem Ds(v:Vc):aV 296 (aW v) (B (PQ v)):=by
 have a:=xm v.1 v.2.1 v.2.2 16384 (by decide) (by decide);have hd:PQ v=(!(v.1==0&&v.2.1==0&&v.2.2==0)&&fB v.1 v.2.1 v.2.2 16384):=rfl;rw[hd];generalize fB v.1 v.2.1 v.2.2 16384=b at *;refine Dp func296 λC hP hN=>?_;exact Gy
 all_goals (try (cases b<;>simp_all))
theorem uy:PQ v=bB v:=by
 unfold PQ bB nz;rw[Bool.and_comm];rfl
theorem zf(l:List Int)(n:Nat)(c:Vc):(xI l n c).length<=4:=by
 have a:=ar l n (k:=4) (by decide) (by decide)
 have:oJ l n<4:=by unfold oJ;omega
 unfold xI;rw[IK];omega
theorem Dt(l:List Int)(n:Nat):∀i,∀h∈(gS l n i).1,h.pts.length<=4
 |0,h,a=>by cases a
 |i+1,h,a=>by
  simp only[gS]at a;split at a
  .rcases yAk.1 a with a|a
   .exact Dt l n i h a
   .rw[yAE]at a;subst a;exact zf _ _ _
  .exact Dt l n i h a
theorem IL(l:List Int)(xs:List Sh)(n:Nat)(b:∀h∈xs,h.pts.length<=4):∀i,∀h∈(jC l xs n i).1,h.pts.length<=4
 |0,h,a=>b h a
 |i+1,h,a=>by
  simp only[jC]at a;rcases yAk.1 a with a|a
  .exact IL l xs n b i h a
  .rw[yAE]at a;subst a;exact zf _ _ _
theorem Sz(l:List Int):ScL (nq l):=by
 have c:=yU l 0;have n:=ar l (rM l 0) (k:=3) (by decide) (by decide);have d:(nI l 0).length=rK l 0:=yT _ _ _ _
 have e:rK l 0<3:=by unfold rK;omega
 have hN:=ar l 0 (k:=3) (by decide) (by decide)
 have f:rN l 0<=3:=by unfold rN;omega
 have g:=(Cj l (vw l 0) (rN l 0)).2;have i:=(Ck l (mA l).1 (nn l (mA l).2) (s9 l (mA l).2)).2;have b:=ar l (mA l).2 (k:=3) (by decide) (by decide)
 have j:s9 l (mA l).2<=3:=by unfold s9;omega
 have m:(mA l).1.length<=3:=by unfold mA;omega
 refine⟨by show(im l 0).length<=_;omega,by show(nI l 0).length<=_;omega,by show(mB l).1.length<=_;unfold mB;omega,?_,?_⟩
 .show(if nx l (mB l).2 5=1 then[((-1:Int),nx l (nn l (mB l).2) (rN l 0))]else[]).length<=_
  split<;>simp
 .intro h a
  have:h.pts.length<=4:=IL l _ _ (Dt l _ _) _ h a;omega
theorem AL{SH:List Sh}{PR:List (Nat×Nat)}{PT:List (List aq)}{c:List Vc}(hf:PR.length<=576):∀f k d,(ln SH PR PT c f k d).ns.length<=576/\(ln SH PR PT c f k d).w.a.length<=8/\(ln SH PR PT c f k d).w.b.length<=8
 |0,k,d=>by
  simp only[ln];split<;>simp[eT,hf]
 |f+1,k,d=>by
  simp only[ln];split
  .split
   .exact AL hf f _ _
   .split
    .exact⟨by simp,ED _ _ _ _⟩
    .exact AL hf f _ _
  .split<;>simp[eT,hf]
theorem rU(s:Sce)(bx:List Iv)(c:List Vc):(eD s bx c).ns.length<=576/\(eD s bx c).w.a.length<=8/\(eD s bx c).w.b.length<=8:=by
 unfold eD;split
 .rename_i h;exact AL (Dr h).few _ _ _
 .simp
theorem NV{a b:List aq}{h:List Vc}(hf:(sZ a ra b rb h).2=true):kE (sZ a ra b rb h).1 a ra b rb=true:=by
 unfold sZ at hf|-;split
 .rename_i n e;have:=yBF e;exact this
 .rename_i e;rw[e]at hf;cases hf
theorem G8{a b:List Iv}(h:gv a b)(hp:dr s b=true):dr s a=true:=by
 simp only[dr,iw,au,An,Is,IV]at hp|-;refine⟨hp.1,by rw[h.1];exact hp.2.1,λx f=>?_⟩;obtain⟨k,d⟩:=yAD f;have c:k<a.length:=(th.1 d).1;have e:b[k]?=some (b[k]'(by rw[<-h.1];exact c)):=an _;exact(h.2 k _ _ d e).vx
theorem zt(s:Sce){a b:List Iv}(h:gv a b)(i:Nat):jc (cZ (bQ s a) i) (cZ (bQ s b) i):=HY s h i
theorem Ot{a b:List Iv}(h:gv a b){p:Nat×Nat}(hs:tL s.shs (bQ s b) n p=true):tL s.shs (bQ s a) n p=true:=Oo (zt s h _) (zt s h _) hs
theorem Ou{a b:List Iv}(h:gv a b){x y:List Int}{p:Nat×Nat}(hs:kc s.shs (bQ s b) x y p=true):kc s.shs (bQ s a) x y p=true:=by
 simp only[kc,An,Is]at hs|-;exact Kg (zt s h _) (zt s h _) hs.1 hs.2
theorem L6{p:Nat×Nat}{x y:List Int}(h1:tL SH PT n p=true)(a:kc SH PT x y p=true):False:=by
 simp only[kc,An,Is]at a;exact QQ h1 a.1 a.2
theorem Cz{ns:List Vc}:jp SH PR PT ns=true↔ns.length=PR.length/\Fg SH PR PT ns ns.length:=by
 constructor
 .intro h
  have a:ns.length=PR.length:=by simp only[jp,An,Is]at h;exact h.1
  refine⟨a,λk n p c b hp=>?_⟩
  cases hs:tL SH PT n p with
  |true=>rfl
  |false=>rw[EC b hp hs]at h;cases h
 .exact λh=>xF h.1 h.2
theorem G9{a b:List Iv}(h:gv a b){ns:List Vc}(hs:dg s b ns=true):dg s a ns=true:=by
 simp only[dg,An]at hs|-;refine⟨G8 h hs.1,?_⟩;rw[Cz]at hs|-;exact⟨hs.2.1,λk n p c d hp=>Ot h (hs.2.2 k n p c d hp)⟩
theorem DF{w:Wit}:np SH PR PT w=true↔∃p,0<=w.pair/\PR[w.pair.toNat]?=some p/\kc SH PT w.a w.b p=true:=by
 unfold np
 cases h:PR[w.pair.toNat]? with
 |none=>simp
 |some p=>simp
theorem Ha{a b:List Iv}(h:gv a b){w:Wit}(hs:dO s b w=true):dO s a w=true:=by
 simp only[dO,An]at hs|-;refine⟨G8 h hs.1,?_⟩;rw[DF]at hs|-;obtain⟨_,p,c,hp,d⟩:=hs;exact⟨p,c,hp,Ou h d⟩
theorem H1{b:List Iv}{ns:List Vc}{w:Wit}(h1:dg s b ns=true):dO s b w=false:=by
 cases a:dO s b w with
 |false=>rfl
 |true=>
  exfalso;simp only[dg,dO,An,Cz,DF]at h1 a;obtain⟨_,d,hs⟩:=h1;obtain⟨_,p,f,hp,e⟩:=a
  have c:w.pair.toNat<ns.length:=by rw[d];exact(th.1 hp).1
  exact L6 (hs _ _ p c (an c) hp) e
theorem H2{b:List Iv}{ns:List Vc}{w:Wit}(h1:dO s b w=true):dg s b ns=false:=by
 cases a:dg s b ns with
 |false=>rfl
 |true=>rw[H1 a]at h1;cases h1
section
variable {SH:List Sh} {PR:List (Nat×Nat)} {PT:List (List aq)} {hs:List Vc}
theorem DG:∀f k a,k+f=PR.length->(∃(j:Nat)(p:Nat×Nat),PR[j]?=some p/\ln SH PR PT hs f k a=⟨2,[],⟨j,(tM SH PT p).2.w,(tM SH PT p).2.v⟩⟩/\kc SH PT (tM SH PT p).2.w (tM SH PT p).2.v p=true)\/(ln SH PR PT hs f k a=⟨1,eT SH PR PT hs,⟨0,[],[]⟩⟩/\a=true/\∀j p,k<=j->PR[j]?=some p->(Ad SH PT hs j p).2=true)\/ln SH PR PT hs f k a=⟨0,eT SH PR PT hs,⟨0,[],[]⟩⟩
 |0,k,a,l=>by
  right
  cases a with
  |true=>
   left
   refine⟨rfl,rfl,λj p i hp=>?_⟩;have:=(th.1 hp).1;omega
  |false=>right;rfl
 |f+1,k,a,l=>by
  have hp:PR[k]?=some (PR[k]'(by omega)):=an _;simp only[ln,hp];split
  .rename_i hf
   rcases DG f (k+1) a (by omega)with h|⟨d,c,e⟩|h
   .exact .inl h
   .refine .inr (.inl ⟨d,c,λj p i b=>?_⟩)
    by_cases g:j=k
    .subst g;rw[hp]at b;cases b;exact hf
    .exact e j p (by omega) b
   .exact .inr (.inr h)
  .split
   .rename_i m
    exact .inl ⟨k,_,hp,rfl,m⟩
   .rcases DG f (k+1) false (by omega)with h|⟨d,c,e⟩|h
    .exact .inl h
    .cases c
    .exact .inr (.inr h)
theorem H3{p:Nat×Nat}(h:PR[k]?=some p):(eT SH PR PT hs)[k]?=some (Ad SH PT hs k p).1:=by
 simp[eT,List.getElem?_mapIdx,h]
theorem Ag:(eT SH PR PT hs).length=PR.length:=by simp[eT]
theorem QR{p:Nat×Nat}(h:(Ad SH PT hs k p).2=true):tL SH PT (Ad SH PT hs k p).1 p=true:=NV h
theorem L7(h:∀j p,PR[j]?=some p->(Ad SH PT hs j p).2=true):jp SH PR PT (eT SH PR PT hs)=true:=by
 refine xF Ag λk n p b a hp=>?_;rw[H3 hp]at a;cases a;exact QR (h k p hp)
end
theorem DH(s:Sce)(bx:List Iv)(hs:List Vc):(∃w,eD s bx hs=⟨2,[],w⟩/\dO s bx w=true)\/(∃ns,eD s bx hs=⟨1,ns,⟨0,[],[]⟩⟩/\dg s bx ns=true)\/(∃ns,eD s bx hs=⟨0,ns,⟨0,[],[]⟩⟩/\(ns.length=(bY s).length\/dr s bx=false)):=by
 unfold eD
 cases hp:dr s bx with
 |false=>exact .inr (.inr ⟨[],rfl,.inr rfl⟩)
 |true=>
  simp only[yAn];rcases DG (SH:=s.shs) (PR:=bY s) (PT:=bQ s bx) (hs:=hs) (bY s).length 0 true (by omega)with⟨j,p,a,c,b⟩|⟨a,_,b⟩|h
  .refine .inl ⟨_,c,?_⟩
   simp only[dO,hp,yAs,DF];exact⟨p,by omega,by simpa using a,b⟩
  .refine .inr (.inl ⟨_,a,?_⟩)
   simp only[dg,hp,yAs];exact L7 λj p hp=>b j p (by omega) hp
  .exact .inr (.inr ⟨_,h,.inl Ag⟩)
theorem Me{i:Int}{n:Nat}(hn:0<n)(b:n<1000000):∃k:Nat,lQ i n=(k:Int)/\k<n:=by
 have h:=zX i (k:=(n:Int)) (by omega) (by omega);obtain⟨k,a⟩:=yBn h.1;exact⟨k,a,by omega⟩
theorem xY(a:am t=true)(h:i<t.cells.length):jd t (i:Int)=true/\gj t (i:Int)=ao t (i:Int):=by
 have:jd t (i:Int)=true:=by simp[jd,a,h]
 exact⟨this,by simp[gj,this]⟩
def Hh(x y:AV)(c:Option bF):Option bF:=match yV x y with
 |some (a,b)=>some (.pv (.val (.bool (!(a==b)))),[])
 |none=>c
@[simp] theorem Ub(a b:Bool)(c:Option bF):Hh (.pv (.val (.bool a))) (.pv (.val (.bool b))) c=some (.pv (.val (.bool (!(a==b)))),[]):=rfl
@[simp] theorem X0{g:Option (Nat×Bool)}(x y:Operand):
 bf prog ⟨dst,.binOp .neq 4 x y 4,ty,pos,aft,g⟩ ρ=Hh (ρ x) (ρ y) (gk prog ⟨dst,.binOp .neq 4 x y 4,ty,pos,aft,g⟩ ρ):=by
 unfold Hh;split
 .rename_i a b h
  unfold yV at h;split at h
  .rename_i a' b' e f
   injection h with h;injection h with c d;subst c;subst d;refine dq (by simp[Op.operands,e,f,dV]) ?_;unfold execOp;simp only[(bg e).2,(bg f).2]
   have c:aj prog (eqGuard .neq 4 x y (.bool a') (.bool b'))=some ():=by kernel_rfl
   have d:aj prog (binOp .neq 4 (.bool a') (.bool b'))=some (.bool (!(a'==b'))):=by
    simp only[binOp,ae];rw[show aj prog (Op.equal 4 (.bool a') (.bool b'))=some (a'==b') from Dd 9999 4 a' b' Tryz.underlying4];rfl
   simp only[ae,c,d,yAg];rfl
  .cases h
 .rfl
def ma(n:Nat)(t:Tr):Prop:=∀c∈t.cells,Jd n c.v
theorem si(n:Nat):Jd n bi:=by simp[Jd,bi]
theorem Tn{n:Nat}(h:ma n t)(i:Nat):Jd n (er t i):=by
 unfold er;split
 .rename_i c a;exact h c (In a)
 .exact si n
theorem OK{n:Nat}(h:ma n t)(i j:Int):ma n (bh t i j):=by
 unfold bh;split
 .intro c a
  simp only[fv,yAk,yAv,yAB,yAZ]at a;rcases a with a|rfl|rfl
  .rcases yAR a with b|rfl
   .exact h c b
   .exact si n
  all_goals exact Tn h _
 .exact h
theorem Mf{n:Nat}(h:ma n t)(i:Int){v:Verd}(d:Jd n v):ma n (dT t i v):=by
 unfold dT;split
 .intro c b
  rcases yAR b with a|rfl
  .exact h c a
  .exact d
 .exact h
theorem Mg(y:am t=true){k:Nat}{j:Int}(hs:cG t (k:Int) j=true):
 af (bh t k j)=af t++[br (ao t (k:Int)) j,bv (ao t (k:Int)) j]/\(bh t k j).cells.length=t.cells.length+2/\∃v,bh t (k:Int) j=fv t k j v:=by
 have l:=hs;simp only[cG,An,Is,yAm]at hs;obtain⟨⟨⟨⟨⟨z,o⟩,d⟩,q⟩,r⟩,p⟩:=hs;obtain⟨L,hL⟩:=yAy.1 y;obtain⟨c,s,u,n⟩:=yh q
 have i:k<t.cells.length:=by omega
 obtain⟨b,a⟩:=(nP hL).pre k i
 have f:(af t)[k]?=some b:=by
  have:=jF hL;rw[this]at a;simpa using a
 have g:ao t (k:Int)=b:=mi hL a;rw[f]at p;have m:=Al hL s u r a p
 have e:bh t (k:Int) j=fv t k j c.v:=by simp[bh,l,n]
 refine⟨?_,?_,c.v,e⟩
 .rw[e,g]
  have:=jF m;rw[jF hL]at this
  have o:((af t).map some++[some (br b j),some (bv b j)])=(af t++[br b j,bv b j]).map some:=by simp
  rw[o]at this;have d:=yBt (List.map (λx:Option Bx=>x.getD [])) this;simp[Function.comp_def]at d;exact d.symm
 .rw[e,kI]
theorem Mx(s:Sce)(b:List Iv)(hs:List Vc):dt (kS (eD s b hs))=true:=by
 rcases DH s b hs with⟨w,a,_⟩|⟨ns,a,_⟩|⟨ns,a,_⟩<;>rw[a]<;>simp[kS,dt,kg]
theorem ER{b:Bx}{j:Int}(h:aY b j=true):gv (br b j) b/\gv (bv b j) b:=by
 obtain⟨x,l,d,n,g,i⟩:=ny h;have f:=(kG.1 h).2.1
 have key:∀z:Int×Int,SubI z x->gv (b.set j.toNat z) b:=λz m=>⟨by simp,λk u v c a=>by
  rw[yAe]at c;by_cases e:j.toNat=k
  .subst e
   rw[yAb rfl]at c;split at c
   .injection c with c;subst c
    rw[l]at a;injection a with a;subst a;exact m
   .cases c
  .rw[L4 e,a]at c;injection c with c;subst c
   exact SubI.refl (bE.1 f _ (In a))⟩
 have o:=bH.1 d;rw[g,i];exact⟨key _ ⟨bH.2 (by omega),d,by simp only;omega,by simp only;omega⟩,key _ ⟨bH.2 (by omega),d,by simp only;omega,by simp only;omega⟩⟩
theorem My{b:Bx}(a:dQ b=true):gP b=⟨b,[bn bi]⟩:=by rw[gP,yAb a]
theorem IF{a b c:List Iv}(h:gv a b)(g:gv b c):gv a c:=⟨h.1.trans g.1,λk x z d i=>by
 obtain⟨f,_⟩:=th.1 d;have e:b[k]?=some (b[k]'(by rw[<-h.1];exact f)):=an _
 exact(h.2 k _ _ d e).trans (g.2 k _ _ e i)⟩
theorem QC{b:List Iv}(d:au vI b=true):gv b b:=⟨rfl,λk x y c a=>by
 rw[c]at a;injection a with a;subst a
 exact SubI.refl (bE.1 d _ (In c))⟩
theorem Ez(o:am t=true)(hi:i<t.cells.length):gv (ao t (i:Int)) t.root:=by
 have g:=(ba.1 (bP o)).2.2.2.2
 have key:∀(k:Nat)(L:OL),(∀(j:Nat) b,L[j]?=some (some b)->gv b t.root)->∀c d,fD t.cells.length k c L=some d->L.length=t.cells.length->(∀(j:Nat) b,d[j]?=some (some b)->gv b t.root):=by
  intro k L hL c d hs q j b a;obtain⟨b0,e,⟨_,_,rfl⟩|⟨_,f,m,_,_,rfl⟩⟩:=eX hs
  .exact hL j b a
  .have l:=hL k b0 e
   rw[i8 q f]at a;split at a
   .injection a with a;injection a with a;subst a
    exact IF (ER m).2 l
   .split at a
    .injection a with a;injection a with a;subst a
     exact IF (ER m).1 l
    .exact hL j b a
 obtain⟨L,hL⟩:=yAy.1 o
 have hP:=iM (P:=λk M=>BOk t k M/\∀(j:Nat) b,M[j]?=some (some b)->gv b t.root) hL ⟨me (gX hL),λj b a=>by
  cases j with
  |zero=>simp[fE]at a;subst a;exact QC g
  |succ j=>simp[fE,yAx]at a⟩ (λk c M p _ hp n=>⟨mf hp.1 n,key k M hp.2 c p n hp.1.len⟩)
 obtain⟨b,a⟩:=hP.1.pre i hi;rw[mi hL a];exact hP.2 i b a
theorem IG{b:Bx}(d:aD js ms=0)(h:gv b (aC js ms)):mo js ms b=true:=by
 have f:aC js ms=js.map ic:=by simp[aC,d]
 rw[f]at h;obtain⟨c,e⟩:=h;rw[yAz]at c;simp only[mo,d,c,yBJ,yAs];rw[kw];intro i hi a;have:=e i b[i] (ic js[i]) (an a) (by rw[ZW,an hi];rfl);simp only[eE,An,Is];exact⟨⟨⟨this.vx,this.vy⟩,this.lo⟩,this.hi⟩
theorem HV(h:aD js ms=0):∀(i:Nat) j,js[i]?=some j->bS js i j=0:=by
 unfold aD at h;split at h
 .cases h
 .split at h
  .rename_i c;exact absurd h c
  .rename_i k
   intro i j b
   have a:iT js=0:=by simpa using k
   rw[pP]at a;by_cases d:bS js i j=0
   .exact d
   .exfalso
    cases hf:(js.mapIdx (bS js)).find? (λe=>e !=0)with
    |none=>
     rw[yBc]at hf
     have l:bS js i j∈js.mapIdx (bS js):=by
      rw[List.mem_mapIdx];obtain⟨f,g⟩:=th.1 b;exact⟨i,f,by rw[g]⟩
     exact hf _ l (by simpa using d)
    |some e=>
     rw[hf]at a;have:=yBF hf;simp only at a;rw[a]at this;simp at this
theorem NO{j:J}(h:bS js i j=0):-4194304<=j.lo/\j.lo<=j.hi/\j.hi<=4194304:=by
 have:=tI j.kind;unfold bS at h
 repeat' split at h
 all_goals (try (cases h;done))
 all_goals omega
theorem GB(h:aD js ms=0):dQ (aC js ms)=true:=by
 have c:aC js ms=js.map ic:=by simp[aC,h]
 have a:=mn h;rw[c];simp only[dQ,yAz,An,Is];refine⟨⟨by omega,by omega⟩,bE.2 λx d=>?_⟩;obtain⟨j,b,rfl⟩:=yAt.1 d;obtain⟨i,hi⟩:=yAD b;have:=NO (HV h i j hi);exact bH.2 ⟨by simp only[ic];omega,by simp only[ic];omega,by simp only[ic];omega⟩
theorem kA(h:az s=0):aD s.js s.ms=0:=Decidable.byContradiction λa=>by
 unfold az at h;rw[yAb a]at h;exact a h
theorem JX(d:am t=true)(b:bd t k=true)(c:k<t.cells.length)(a:(er t k).kind=0){V:Verd}(hf:dt V=true):di t (k:Int) V=true:=by
 unfold di;rw[d,yAm,b,a,hf,yAF (by omega:(0:Int)<=(k:Int)),yAF (by omega:(k:Int)<(t.cells.length:Int))];rfl
structure TL(t:Tr):Prop where
 c:t.cells.length<=1000000
 r:t.root.length<=1000000
 v:∀c∈t.cells,c.v.nor.length<=9223372036854775807
theorem AG(h:TL t)(a:t.cells.length<=999990)(i j:Int):TL (bh t i j):=by
 unfold bh;split
 .refine⟨by rw[kI];omega,h.r,λc a=>?_⟩
  simp only[fv,yAk]at a
  have b:(er t i.toNat).nor.length<=9223372036854775807:=by
   unfold er;split
   .rename_i c a;exact h.v c (In a)
   .simp[bi]
  rcases a with a|a
  .rcases yAR a with a|rfl
   .exact h.v c a
   .simp[bi]
  .simp only[yAv,yAB,yAZ]at a
   rcases a with rfl|rfl<;>exact b
 .exact h
theorem LC(h:TL t)(i:Int){v:Verd}(b:v.nor.length<=9223372036854775807):TL (dT t i v):=by
 unfold dT;split
 .refine⟨by simpa[dS]using h.c,h.r,λc a=>?_⟩
  simp only[dS]at a;rcases yAR a with a|rfl
  .exact h.v c a
  .exact b
 .exact h
theorem LD(h:TL t)(i:Int):TL (eS s t i):=by
 unfold eS;split
 .refine LC h i ?_
  have:=(rU s (gj t i) (er t i.toNat).nor).1;simp only[lm,kS];omega
 .exact h
theorem ut(s:Sce)(t:Tr)(i:Int):(eS s t i).cells.length=t.cells.length/\(eS s t i).root=t.root:=by
 unfold eS dT;split
 .split<;>simp[dS]
 .simp
theorem Di{sort:Int}(c:am t=true):(iV t op p q sort).length<=t.cells.length/\∀k∈iV t op p q sort,k<t.cells.length/\nA t.cells op sort k=true:=by
 unfold iV
 cases h:mh t.cells.length (nA t.cells op sort) (mO (af t) q) (mO (af t) p) (oH (af t))with
 |true=>
  obtain⟨b1,b2,b3,_⟩:=Ku (Mz c) h;refine⟨b2,λk b=>?_⟩;obtain⟨j,a⟩:=yAD b;obtain⟨d,e,_⟩:=b3 j k a;exact⟨d,e⟩
 |false=>simp[we,h]
theorem Lv{L:List PV}{n:Nat}{z v:PV}(hL:L.length=n)(hi:i<n)(b:L[i]?=some v):(L.take i++List.replicate (n-i) z).set i v=L.take (i+1)++List.replicate (n-(i+1)) z:=by
 have a:(L.take i).length=i:=by rw[yAN];omega
 rw[yBq _ _ (by omega),a,yBO,show n-i=(n-(i+1))+1 by omega,List.replicate_succ,List.set_cons_zero,yB0,b];simp
theorem NJ{L:List PV}{n:Nat}{z:PV}(hL:L.length=n)(hi:i<=n):(L.take i++List.replicate (n-i) z).length=n:=by
 rw[yAo,yAN,List.length_replicate];omega
theorem Gs{b:Bx}(h:nh js ms b=-1):sM js ms w b=false:=by simp[sM,h]
theorem Lx{b:Bx}{j:Nat}{x:Int×Int}(h:nh js ms b=(j:Int))(c:b[j]?=some x):sM js ms w b=decide (w<x.2-x.1):=by
 have a:(0:Int)<=(j:Int):=by omega
 unfold sM;rw[h,yAm,c,yAF a,yAs]
theorem Eu(a:am t=true):(jU js ms w t).length=t.cells.length:=by rw[jU,yAz,ef a]
theorem QB(js:List J)(ms:List Ms)(t:Tr)(w:Int)(N:js.length<=9223372036854775807)(O:ms.length<=9223372036854775807)(W:t.cells.length<=9223372036854775807):jQ 105 (gH js ms) (eo t) (Z w) (.tup [if am t then Kv t.cells (af t) (jU js ms w t)else .agg [.sl [],.sl [],.sl []],B (am t)]):=by
 have T:=P2 t W
 cases E:am t with
 |false=>
  rw[E]at T;refine Dp func105 λC hP hN=>?_;exact Gy
 |true=>
  rw[E]at T;have g:=ef E;have hz:=ba.1 (bP E);have D:=Eu (js:=js) (ms:=ms) (w:=w) E
  have Q:∀i b,(af t)[i]?=some b->(jU js ms w t)[i]?=some (sM js ms w b):=λi b h=>by rw[jU,ZW,h];rfl
  generalize V:jU js ms w t=OL at *;simp only[yAn];generalize X:t.cells.length=n at *
  have r:(OL.map B).length=n:=by rw[yAz,D]
  refine Dp func105 λC hP hN=>?_;refine GT (it g X (show(1:Int)*n<=281474976710656 by omega) (show(n:Int)<=281474976710656 by omega) (show(n:Int)<=9223372036854775807 by omega)) ?_;refine WP.loopN [] n (λi e=>e.t 2=.pv (Z w)/\e.t 3=.ptr 3 0/\e.t 6=.ptr 6 0/\e.t 8=.pv (.sl ((af t).map iv))/\e.t 10=.ptr 10 0/\e.t 11=.pv (Z i)/\e.h 3=some (.box [.pv (.sl (js.map bj)),.pv (.sl (ms.map bN))] true false)/\e.h 6=some (.box [.pv (.val (.slice none 0 0)),.pv (.val (.slice none 0 0)),.pv (.val (.slice none 0 0))] true false)/\e.h 10=some (.box [.pv (.sl (t.cells.map bD)),.pv (.sl ((af t).map iv)),.arr 26 n] true false)/\e.h 26=some (.row 4 1 ((OL.map B).take i++List.replicate (n-i) (B false)) 0)) (by simp) ?_;rintro i e hi ⟨H,g3,I,K,l,m,o,p,c,a⟩;have v:=NJ (z:=B false) r hi;by_cases d:i<n
  .have U:=ai d (by omega)
   have q:i<(af t).length:=by omega
   have f:(af t)[i]?=some (af t)[i]:=an q;have s:=iN f;generalize u:(af t)[i]=b at *;have P:=Q i b f;have F:=Nc js ms b N O (by omega)
   have L:(OL.map B)[i]?=some (B (sM js ms w b)):=by rw[ZW,P];rfl
   have k:=Lv (z:=B false) r d L;rcases Gx js ms b with y|⟨j,y,A,_,_,x,G,ad⟩
   .rw[Gs y]at k
    rw[y]at F
    with_reducible repeat' (first|refine Sp.h ?_|((first|refine Wd ?_|refine Ss.h ?_|refine Sc.h (F) ?_|(refine Sb.h ?_ ?_ ?_<;>(try intro hgd)<;>try exact Xy))<;>simp -implicitDefEqProofs (maxSteps:=2000000) [hP,hN,H,g3,I,K,l,m,o,p,c,a,d,U,q,g,f,u,v,k]<;>try refine Ya ?_)|refine X2 ?_ ?_|(refine Xd ?_ ?_<;>intro hcd<;>try exact Xx))
   .rw[Lx y G]at k
    rw[y]at F;have S:∀h,b[j]'h=x:=λh=>aJ G h;have Y:=bH.1 (bE.1 s.2 _ (In G));have R:i64.wrap (x.2-x.1)=x.2-x.1:=aa
    with_reducible repeat' (first|refine Sp.h ?_|((first|refine Wd ?_|refine Ss.h ?_|refine Sc.h (F) ?_|(refine Sb.h ?_ ?_ ?_<;>(try intro hgd)<;>try exact Xy))<;>simp -implicitDefEqProofs (maxSteps:=2000000) [hP,hN,H,g3,I,K,l,m,o,p,c,a,d,U,q,g,f,u,v,A,G,S,R,k]<;>try refine Ya ?_)|refine X2 ?_ ?_|(refine Xd ?_ ?_<;>intro hcd<;>try exact Xx))
  .have M:i=n:=by omega
   subst M;rw[yAu (by omega),yBO,List.replicate_zero,yBU]at a
   with_reducible repeat' (first|refine Sp.h ?_|((first|refine Wd ?_|refine Ss.h ?_|(refine Sb.h ?_ ?_ ?_<;>(try intro hgd)<;>try exact Xy))<;>simp -implicitDefEqProofs (maxSteps:=2000000) [hP,hN,H,g3,I,K,l,m,o,p,c,a,d,g,D]<;>try refine Ya ?_)|refine X2 ?_ ?_|(refine Xd ?_ ?_<;>intro hcd<;>try exact Xx))
theorem JW(t:Tr)(op:List Bool)(p q:List Int)(sort:Int)(a:am t=true)(e:op.length=t.cells.length)(hp:p.length<=9223372036854775807)(hq:q.length<=9223372036854775807):aO prog 106 [.pv (Kv t.cells (af t) op),.pv (zs p),.pv (zs q),.pv (Z sort)] [] [] (.pv (.tup [.sl ((iV t op p q sort).map zN),B (jV t op p q sort)])):=by
 have f:=ba.1 (bP a)
 exact Yh t.cells (af t) op p q sort (by omega) (ef a) e (λb c=>by
  obtain⟨j,d⟩:=yAD c;have:=(iN d).1
  omega) hp hq (Mz a)
def Ew(t:Tr)(op:List Bool)(c:List Nat)(i:Nat):Prop:=∀j x,j<i->c[j]?=some x->xy t op x=false
theorem Ex{c:List Nat}(h:Ew t op c c.length):oX js ms t op c=(-1,-1,0):=by
 have:c.find? (xy t op)=none:=LH λj x a b=>h j x a b;rw[oX,this]
theorem Ey{c:List Nat}(h:Ew t op c i)(a:c[i]?=some k)(hp:xy t op k=true):oX js ms t op c=((k:Int),nh js ms (ao t (k:Int)),3):=by
 have:c.find? (xy t op)=some k:=xE a hp h;rw[oX,this]
theorem Zg(js:List J)(ms:List Ms)(t:Tr)(p q:List Int)(w:Int)(E:js.length<=9223372036854775807)(G:ms.length<=9223372036854775807)(hl:t.cells.length<=9223372036854775807)(hr:t.root.length<=9223372036854775807)(A:p.length<=9223372036854775807)(D:q.length<=9223372036854775807):Ao 52 (gH js ms) (eo t) (zs p) (zs q) (Z w) (.tup [Z (gD js ms t p q w).1,Z (gD js ms t p q w).2.1,Z (gD js ms t p q w).2.2]):=by
 have cr:=sE js ms E G;have W:=JK t.root p hr A;have X:=JK t.root q hr D;rw[Ik]at W X;have co:=QB js ms t w E G hl
 have hN:gD js ms t p q w=if Ca js ms t p q w&&am t then GA js ms t (jU js ms w t) p q else(-1,-1,0):=rfl
 have hP:Ca js ms t p q w=(decide (aD js ms=0)&&decide (t.root.length=js.length)&&decide (1<=w)&&aR t.root p&&aR t.root q):=rfl;by_cases U:aD js ms=0
 case neg=>
  rw[yA4 U,yAG,yAG,yAG,yAG]at hP;rw[hP,yAG,L4 (by simp)]at hN
  have ay:(aD js ms !=0)=true:=by simp[U]
  rw[hN];refine Dp func52 λC hP hN=>?_;exact Gy
 have ay:(aD js ms !=0)=false:=by simp[U]
 rw[yAF U,yAs]at hP;by_cases h1:t.root.length=js.length
 case neg=>
  rw[yA4 h1,yAG,yAG,yAG]at hP;rw[hP,yAG,L4 (by simp)]at hN
  have a1:((t.root.length:Int)!=(js.length:Int))=true:=by simp;omega
  rw[hN];refine Dp func52 λC hP hN=>?_;exact Gy
 have a1:((t.root.length:Int)!=(js.length:Int))=false:=by simp[h1]
 rw[yAF h1,yAs]at hP;by_cases h2:1<=w
 case neg=>
  rw[yA4 h2,yAG,yAG]at hP;rw[hP,yAG,L4 (by simp)]at hN
  have a2:w<1:=by omega
  rw[hN];refine Dp func52 λC hP hN=>?_;exact Gy
 have a2:¬w<1:=by omega
 rw[yAF h2,yAs]at hP
 cases V:aR t.root p with
 |false=>
  rw[V,yAG]at hP;rw[hP,yAG,L4 (by simp)]at hN;rw[V]at W;rw[hN];refine Dp func52 λC hP hN=>?_;exact Gy
 |true=>
 rw[V,yAs]at hP;rw[V]at W
 cases h4:aR t.root q with
 |false=>
  rw[h4]at hP X;rw[hP,yAG,L4 (by simp)]at hN;rw[hN];refine Dp func52 λC hP hN=>?_;exact Gy
 |true=>
 rw[h4]at hP X;rw[hP,yAs]at hN
 cases f:am t with
 |false=>
  rw[f,L4 (by simp)]at hN;rw[f,L4 (by simp)]at co;rw[hN];refine Dp func52 λC hP hN=>?_;exact Gy
 |true=>
 rw[f,yAb rfl]at hN co;rw[hN];clear hN hP;have hz:=ba.1 (bP f);have bs:=ef f;have H:=Eu (js:=js) (ms:=ms) (w:=w) f;generalize jU js ms w t=OL at *;have b0:=JW t OL p q 0 f H A D;have b1:=JW t OL p q 1 f H A D;have b2:=JW t OL p q 2 f H A D;have b3:=JW t OL p q 3 f H A D
 have hG:GA js ms t OL p q=if jV t OL p q 0=true then(-1,-1,1)else if jV t OL p q 3=false then(-1,-1,2)else if jV t OL p q 1=true then oX js ms t OL (iV t OL p q 1)else if jV t OL p q 2=true then(-1,-1,5)else oX js ms t OL (iV t OL p q 3):=rfl
 rw[hG];clear hG;have m1:=Di (op:=OL) (p:=p) (q:=q) (sort:=1) f;have m3:=Di (op:=OL) (p:=p) (q:=q) (sort:=3) f
 cases e0:jV t OL p q 0 with
 |true=>
  rw[e0]at b0;simp only[yAn];generalize iV t OL p q 0=T at *;refine Dp func52 λC hP hN=>?_;exact Gy
 |false=>
 rw[e0]at b0;simp only[ZY,yAi]
 cases e3:jV t OL p q 3 with
 |false=>
  rw[e3]at b3;simp only[yAn];generalize iV t OL p q 0=T at *;generalize iV t OL p q 3=r at *;refine Dp func52 λC hP hN=>?_;exact Gy
 |true=>
 rw[e3]at b3;simp only[Bool.true_eq_false,yAi]
 cases e1:jV t OL p q 1 with
 |true=>
  rw[e1]at b1;simp only[yAn];obtain⟨Q,z⟩:=m1;generalize iV t OL p q 0=T at *;generalize iV t OL p q 1=s at *;generalize iV t OL p q 3=r at *;refine Dp func52 λC hP hN=>?_;refine Gz ?_;refine WP.loopN [] (s).length (λi n=>n.t 5=.ptr 5 0/\n.h 5=some (.box [.pv (.sl (js.map bj)),.pv (.sl (ms.map bN))] true false)/\n.t 13=.ptr 13 0/\n.h 13=some (.box [.pv (.sl (t.cells.map bD)),.pv (.sl ((af t).map iv)),.pv (.sl (OL.map B))] true false)/\n.t 17=.pv (.sl ((s).map zN))/\n.t 23=.pv (Z i)/\Ew t OL (s) i) ?_ ?_
  .simp
   exact λj x P=>by omega
  rintro i n hi ⟨g5,a5,Y,N,ad,ax,d⟩;by_cases y:i<(s).length
  .have R:(i:Int)<((s).length:Int):=by omega
   have bq:=ai y (by omega);generalize L:(s)[i]=k at *
   have F:(s)[i]?=some k:=by rw[an y,L]
   obtain⟨g,_⟩:=z k (In F);obtain⟨c,O⟩:∃c,t.cells[k]?=some c:=⟨_,an g⟩;have a7:∀h,t.cells[k]'h=c:=λh=>aJ O h
   have M:k<OL.length:=by omega
   obtain⟨o,S⟩:∃o,OL[k]?=some o:=⟨_,an M⟩;have bk:∀h,OL[k]'h=o:=λh=>aJ S h
   have a8:k<(af t).length:=by omega
   have I:(af t)[k]?=some (ao t (k:Int)):=(dF f (c:=(k:Int)) g).1;have a6:∀h,(af t)[k]'h=ao t (k:Int):=λh=>aJ I h;have cw:=Nc js ms (ao t (k:Int)) E G (by have:=(dF f (c:=(k:Int)) g).2.1;omega)
   have l:xy t OL k=(decide (c.v.kind=0)&&o):=by simp[xy,er,O,S]
   by_cases b:c.v.kind=0
   .have u:(c.v.kind==0)=true:=by simp[b]
    cases o with
    |true=>
     have:=Ey (js:=js) (ms:=ms) d F (by rw[l,b];rfl);rw[this];exact Gy
    |false=>
     have m:Ew t OL (s) (i+1):=λj x P a=>by
      by_cases e:j=i
      .subst e;rw[F]at a;injection a with a;subst a;rw[l,yBm]
      .exact d j x (by omega) a
     exact Gy
     all_goals exact m
   .have u:(c.v.kind==0)=false:=by simp[b]
    have m:Ew t OL (s) (i+1):=λj x P a=>by
     by_cases e:j=i
     .subst e;rw[F]at a;injection a with a;subst a;rw[l,yA4 b,yAG]
     .exact d j x (by omega) a
    exact Gy
    all_goals exact m
  .have K:i=(s).length:=by omega
   subst K;rw[Ex d];exact Gy
 |false=>
 rw[e1]at b1;simp only[ZY,yAi]
 cases e2:jV t OL p q 2 with
 |true=>
  rw[e2]at b2;simp only[yAn];generalize iV t OL p q 0=T at *;generalize iV t OL p q 1=s at *;generalize iV t OL p q 2=C2 at *;generalize iV t OL p q 3=r at *;refine Dp func52 λC hP hN=>?_;exact Gy
 |false=>
  rw[e2]at b2;simp only[ZY,yAi];obtain⟨Q,z⟩:=m3;generalize iV t OL p q 0=T at *;generalize iV t OL p q 1=s at *;generalize iV t OL p q 2=C2 at *;generalize iV t OL p q 3=r at *;refine Dp func52 λC hP hN=>?_;refine Gz ?_;refine WP.loopN [] (r).length (λi n=>n.t 5=.ptr 5 0/\n.h 5=some (.box [.pv (.sl (js.map bj)),.pv (.sl (ms.map bN))] true false)/\n.t 13=.ptr 13 0/\n.h 13=some (.box [.pv (.sl (t.cells.map bD)),.pv (.sl ((af t).map iv)),.pv (.sl (OL.map B))] true false)/\n.t 17=.pv (.sl ((r).map zN))/\n.t 23=.pv (Z i)/\Ew t OL (r) i) ?_ ?_
  .simp
   exact λj x P=>by omega
  rintro i n hi ⟨g5,a5,Y,N,ad,ax,d⟩;by_cases y:i<(r).length
  .have R:(i:Int)<((r).length:Int):=by omega
   have bq:=ai y (by omega);generalize L:(r)[i]=k at *
   have F:(r)[i]?=some k:=by rw[an y,L]
   obtain⟨g,_⟩:=z k (In F);obtain⟨c,O⟩:∃c,t.cells[k]?=some c:=⟨_,an g⟩;have a7:∀h,t.cells[k]'h=c:=λh=>aJ O h
   have M:k<OL.length:=by omega
   obtain⟨o,S⟩:∃o,OL[k]?=some o:=⟨_,an M⟩;have bk:∀h,OL[k]'h=o:=λh=>aJ S h
   have a8:k<(af t).length:=by omega
   have I:(af t)[k]?=some (ao t (k:Int)):=(dF f (c:=(k:Int)) g).1;have a6:∀h,(af t)[k]'h=ao t (k:Int):=λh=>aJ I h;have cw:=Nc js ms (ao t (k:Int)) E G (by have:=(dF f (c:=(k:Int)) g).2.1;omega)
   have l:xy t OL k=(decide (c.v.kind=0)&&o):=by simp[xy,er,O,S]
   by_cases b:c.v.kind=0
   .have u:(c.v.kind==0)=true:=by simp[b]
    cases o with
    |true=>
     have:=Ey (js:=js) (ms:=ms) d F (by rw[l,b];rfl);rw[this];exact Gy
    |false=>
     have m:Ew t OL (r) (i+1):=λj x P a=>by
      by_cases e:j=i
      .subst e;rw[F]at a;injection a with a;subst a;rw[l,yBm]
      .exact d j x (by omega) a
     exact Gy
     all_goals exact m
   .have u:(c.v.kind==0)=false:=by simp[b]
    have m:Ew t OL (r) (i+1):=λj x P a=>by
     by_cases e:j=i
     .subst e;rw[F]at a;injection a with a;subst a;rw[l,yA4 b,yAG]
     .exact d j x (by omega) a
    exact Gy
    all_goals exact m
  .have K:i=(r).length:=by omega
   subst K;rw[Ex d];exact Gy
theorem Sl{C:List Nat}(h:oX js ms t op C=(a,b,3)):∃k,k∈C/\a=(k:Int)/\b=nh js ms (ao t (k:Int))/\xy t op k=true:=by
 unfold oX at h;split at h
 .rename_i k c
  injection h with h1 h2;injection h2 with h2 _;exact⟨k,List.mem_of_find?_eq_some c,h1.symm,h2.symm,by have:=yBF c;exact this⟩
 .injection h with _ h2;injection h2 with _ h3;cases h3
structure Nx(t:Tr)(a b:Int):Prop where
 ex:∃k j:Nat,a=(k:Int)/\b=(j:Int)/\k<t.cells.length/\bd t k=true/\(er t k).kind=0/\aY (ao t (k:Int)) (j:Int)=true
theorem Ly{sort:Int}(h:nA t.cells op sort k=true):bd t k=true:=by
 unfold nA at h;unfold bd;split at h
 .rename_i c a
  simp only[An]at h;rw[a];exact h.1
 .cases h
theorem Gt(h:gD js ms t p q w=(a,b,3)):Nx t a b:=by
 unfold gD at h;split at h
 case isFalse=>injection h with _ d;injection d with _ h3;cases h3
 rename_i n;simp only[An,Ca,Is]at n;obtain⟨⟨⟨⟨⟨_,_⟩,B⟩,_⟩,_⟩,o⟩:=n
 have fin:∀sort,oX js ms t (jU js ms w t) (iV t (jU js ms w t) p q sort)=(a,b,3)->Nx t a b:=λsort h=>by
  obtain⟨k,v,r,s,hp⟩:=Sl h;obtain⟨g,y⟩:=(Di o).2 k v;simp only[xy,An,Is]at hp;obtain⟨f,u,l⟩:=dF o (c:=(k:Int)) (by simpa using g)
  have i:sM js ms w (ao t (k:Int))=true:=by
   have d:=hp.2;rw[jU,ZW]at d;rw[yAm]at f;rw[f]at d;simpa using d
  rcases Gx js ms (ao t (k:Int))with e|⟨j,e,A,_,_,x,z,m⟩
  .rw[Gs e]at i;cases i
  .refine⟨k,j,r,s.trans e,g,Ly y,hp.1,kG.2 ⟨by omega,l,x,by simpa using z,m⟩⟩
 unfold GA at h;split at h
 .injection h with _ d;injection d with _ h3;cases h3
 .split at h
  .injection h with _ d;injection d with _ h3;cases h3
  .split at h
   .exact fin 1 h
   .split at h
    .injection h with _ d;injection d with _ h3;cases h3
    .exact fin 3 h
structure DeI(s:Sce)(t:Tr):Prop where
 valid:am t=true
 root:t.root=aC s.js s.ms
 tl:TL t
theorem uq(e:az s=0)(a:DeI s t)(g:bd t k=true)(b:k<t.cells.length)(i:(er t k).kind=0):jW s t (k:Int)=true/\eS s t (k:Int)=dS t k (lm s t (k:Int))/\DeI s (eS s t (k:Int)):=by
 obtain⟨b1,b2⟩:=xY a.valid b
 have d:mo s.js s.ms (gj t (k:Int))=true:=by
  rw[b2];exact IG (kA e) (by rw[<-a.root];exact Ez a.valid b)
 have hp:oo s t (k:Int)=true:=by simp[oo,e,b1,d]
 have hs:di t (k:Int) (lm s t (k:Int))=true:=JX a.valid g b i (Mx _ _ _)
 have c:eS s t (k:Int)=dT t (k:Int) (lm s t (k:Int)):=by rw[eS,yAb hp]
 have f:dT t (k:Int) (lm s t (k:Int))=dS t k (lm s t (k:Int)):=by rw[dT,yAb hs,yAm]
 obtain⟨v1,v2,v3,_⟩:=yi a.valid (k:Int) (lm s t (k:Int));refine⟨by rw[jW,hp,hs];rfl,c.trans f,?_⟩;refine⟨by rw[c];exact v1,by rw[c,v2];exact a.root,LD a.tl _⟩
theorem Gu(A:az s=0)(d:DeI s t)(hn:Nx t a b)(M:t.cells.length+2<=2048):vF s t a b=true/\DeI s (rS s t a b)/\(rS s t a b).cells.length=t.cells.length+2:=by
 obtain⟨k,j,rfl,rfl,o,L,C,K⟩:=hn.ex;have n:(af t)[k]?=some (ao t (k:Int)):=(dF d.valid (c:=(k:Int)) (by simpa using o)).1
 have f:cG t (k:Int) (j:Int)=true:=by
  simp only[cG,d.valid,yAm,L,n,yAl,K,yBz,yAs,An,Is];exact⟨⟨by omega,by omega⟩,M⟩
 have q:bh t (k:Int) (j:Int)=fv t k (j:Int) (er t k):=by rw[bh,yAb f,yAm]
 obtain⟨v1,v2,v3⟩:=Am d.valid (k:Int) (j:Int);have m:DeI s (bh t (k:Int) (j:Int)):=⟨v1,by rw[v2];exact d.root,AG d.tl (by omega) _ _⟩
 have F:(bh t (k:Int) (j:Int)).cells[t.cells.length]?=some (bn (er t k)):=by
  rw[q];simp only[fv];rw[yAa (by simp)];simp
 have G:(bh t (k:Int) (j:Int)).cells[t.cells.length+1]?=some (bn (er t k)):=by
  rw[q];simp only[fv];rw[yAa (by simp)];simp
 have r:(bh t (k:Int) (j:Int)).cells.length=t.cells.length+2:=by rw[q,kI]
 have p:pR s t (k:Int) (j:Int)=eS s (bh t (k:Int) (j:Int)) (t.cells.length:Int):=rfl;have J:vF s t (k:Int) (j:Int)=(cG t (k:Int) (j:Int)&&jW s (bh t (k:Int) (j:Int)) (t.cells.length:Int)&&jW s (pR s t (k:Int) (j:Int)) ((t.cells.length:Int)+1)):=rfl
 have B:rS s t (k:Int) (j:Int)=if vF s t (k:Int) (j:Int)then eS s (pR s t (k:Int) (j:Int)) ((t.cells.length:Int)+1)else t:=rfl
 generalize bh t (k:Int) (j:Int)=u at *;have D:∀(x:Tr)(i:Nat) V,x.cells[i]?=some (bn V)->bd x i=true/\er x i=V:=λx i V h=>⟨by simp only[bd,h];exact gY V,by simp[er,h,bn]⟩;obtain⟨N,Q⟩:=D u t.cells.length _ F;obtain⟨P,l,y⟩:=uq A m N (by omega) (by rw[Q];exact C);rw[<-p]at l y;generalize pR s t (k:Int) (j:Int)=v at *
 have H:v.cells[t.cells.length+1]?=some (bn (er t k)):=by
  rw[l];simp only[dS];rw[yAe,L4 (by omega)];exact G
 have g:v.cells.length=t.cells.length+2:=by rw[l];simp[dS,r]
 obtain⟨O,R⟩:=D v (t.cells.length+1) _ H;obtain⟨E,I,z⟩:=uq A y O (by omega) (by rw[R];exact C);rw[Int.natCast_add,Int.natCast_one]at E I z
 have e:vF s t (k:Int) (j:Int)=true:=by rw[J,f,P,E];rfl
 rw[e,yAb rfl]at B;rw[B];refine⟨e,z,?_⟩;rw[(ut _ _ _).1,g]
theorem Gv(e:az s=0):DeI s (ur s)/\(ur s).cells.length=1/\gP (aC s.js s.ms)=⟨aC s.js s.ms,[bn bi]⟩/\TL (gP (aC s.js s.ms)):=by
 have d:=GB (kA e);have a:=My d
 have g:(aC s.js s.ms).length<=10:=by
  simp only[dQ,An,Is]at d;omega
 have i:TL (gP (aC s.js s.ms)):=by
  rw[a];refine⟨by simp,by simp only;omega,λc f=>?_⟩;simp at f;subst f;simp[bn,bi]
 have k:DeI s (gP (aC s.js s.ms)):=⟨by rw[a,yj];exact d,by rw[a],i⟩
 have b:bd (gP (aC s.js s.ms)) 0=true/\(er (gP (aC s.js s.ms)) 0).kind=0:=by
  rw[a];exact⟨gY _,rfl⟩
 obtain⟨_,_,j⟩:=uq e k b.1 (by rw[a];simp) b.2;refine⟨j,?_,a,i⟩;rw[ur,(ut _ _ _).1,a];rfl
theorem NK{cells:Int}(h:(gD s.js s.ms t p q w).2.2≠3):j9 s p q w cells (f+1) t=(t,(gD s.js s.ms t p q w).2.2):=by
 simp only[j9,L4 h]
theorem NL{cells:Int}(h:(gD s.js s.ms t p q w).2.2=3)(a:cells-2<t.cells.length):j9 s p q w cells (f+1) t=(t,4):=by
 simp only[j9,yAb h,yAb a]
theorem NM{cells:Int}(h:(gD s.js s.ms t p q w).2.2=3)(a:¬cells-2<t.cells.length):j9 s p q w cells (f+1) t=j9 s p q w cells f (rS s t (gD s.js s.ms t p q w).1 (gD s.js s.ms t p q w).2.1):=by
 simp only[j9,yAb h,L4 a]
theorem Dj(k:au vI (aC js ms)=true)(h:bb js ms p=true):aR (aC js ms) p=true:=by
 simp only[bb,An,Is]at h;obtain⟨⟨c,d⟩,e⟩:=h
 have g:aC js ms=js.map ic:=by simp[aC,c]
 rw[dU k,g];refine⟨by simpa using d,λi x y b l=>?_⟩;rw[ZW,II]at b;obtain⟨j,f,rfl⟩:=b;obtain⟨hi,rfl⟩:=th.1 f;obtain⟨a,rfl⟩:=th.1 l;have:=(kw.1 e) i hi a;simp only[ud,An,Is]at this;simp only[ic];omega
section
variable {sc:Sce} {w:Int} {s:Spc} {t:Tr} {P:Nat->List Bool} {I:List (List Bool)}
end
def IZ(a b:Int):Int:=if a.tmod b<0 then wr (wr (a.tdiv b)-1)else wr (a.tdiv b)
def L8(a b:Int):Int:=if 0<a.tmod b then wr (wr (a.tdiv b)+1)else wr (a.tdiv b)
theorem I3(a b:Int)(c:b≠0):aL 228 (Z a) (Z b) (Z (IZ a b)):=by
 refine Dp func228 λC hP hN=>?_
 with_reducible repeat' (first|refine Sp.h ?_|((first|refine Ss.h ?_|(refine Sb.h ?_ ?_ ?_<;>(try intro hgd)<;>try exact Xy))<;>simp -implicitDefEqProofs (maxSteps:=2000000) [hP,hN,c])|refine X2 ?_ ?_|(refine Xd ?_ ?_<;>intro hcd<;>try exact Xx))
 all_goals (first|(simp_all[IZ];done)|((try simp_all[IZ])<;>(try omega)<;>grind))
theorem Hb(a b:Int)(c:b≠0):aL 211 (Z a) (Z b) (Z (L8 a b)):=by
 refine Dp func211 λC hP hN=>?_
 with_reducible repeat' (first|refine Sp.h ?_|((first|refine Ss.h ?_|(refine Sb.h ?_ ?_ ?_<;>(try intro hgd)<;>try exact Xy))<;>simp -implicitDefEqProofs (maxSteps:=2000000) [hP,hN,c])|refine X2 ?_ ?_|(refine Xd ?_ ?_<;>intro hcd<;>try exact Xx))
 all_goals (first|(simp_all[L8];done)|((try simp_all[L8])<;>(try omega)<;>grind))
theorem uF{k:Int}(c:0<b)(h1:k*b<=a)(d:a<(k+1)*b):a/b=k:=by
 have:=(yB4 c).2 h1;have:=(yB5 c).2 d;omega
theorem I4{B:Int}(c:0<b)(d:0<=B)(h1:-B<=a)(e:a<=B):-B<=a/b/\a/b<=B:=by
 constructor
 .refine(yB4 c).2 ?_
  have:B*1<=B*b:=yA9 (by omega) d;rw[yCb];omega
 .have f:a/b<B+1:=(yB5 c).2 (by
   have:(B+1)*1<=(B+1)*b:=yA9 (by omega) (by omega)
   omega)
  omega
theorem uG(c:0<b)(h1:-4611686018427387904<=a)(d:a<=4611686018427387904):IZ a b=a/b:=by
 have hq:=yB8 a b;have g:-b<a.tmod b:=yBW a c;have i:a.tmod b<b:=yBE a c;have f:=I4 (a:=a) (b:=b) (B:=4611686018427387904) c (by decide) h1 d;rw[Int.mul_comm]at hq;unfold IZ;split
 .have e:a/b=a.tdiv b-1:=uF c (by rw[Int.sub_mul];omega) (by rw[show a.tdiv b-1+1=a.tdiv b by omega];omega)
  rw[aa (n:=a.tdiv b) (by omega) (by omega),aa (by omega) (by omega),e]
 .have e:a/b=a.tdiv b:=uF c (by omega) (by rw[Int.add_mul];omega)
  rw[aa (n:=a.tdiv b) (by omega) (by omega),e]
theorem sh(c:0<b)(h1:-4611686018427387904<=a)(f:a<=4611686018427387904):L8 a b=dC a b:=by
 have hq:=yB8 a b;have g:-b<a.tmod b:=yBW a c;have i:a.tmod b<b:=yBE a c;have d:=I4 (a:=-a) (b:=b) (B:=4611686018427387904) c (by decide) (by omega) (by omega);rw[Int.mul_comm]at hq;unfold L8 dC;split
 .have e:-a/b=-a.tdiv b-1:=uF c (by rw[Int.sub_mul,yCb];omega) (by rw[show -a.tdiv b-1+1=-a.tdiv b by omega,yCb];omega)
  rw[aa (n:=a.tdiv b) (by omega) (by omega),aa (by omega) (by omega),e];omega
 .have e:-a/b=-a.tdiv b:=uF c (by rw[yCb];omega) (by rw[Int.add_mul,yCb];omega)
  rw[aa (n:=a.tdiv b) (by omega) (by omega),e];omega
theorem SV(x:Int×Int):aV 164 (aA x) (Z (f7 x)):=by
 cases a:al x.1 x.2 with
 |false=>
  have b:f7 x=0:=by simp[f7,a]
  rw[b];refine Dp func164 λC hP hN=>?_;have d:=@lg;exact GS a
 |true=>
  have c:=bm.1 a
  have b:f7 x=IZ (wr (x.1+x.2)) 2:=by
   rw[f7,a];simp only[yAn];rw[aa (by omega) (by omega),uG (by decide) (by omega) (by omega),Int.fdiv_eq_ediv_of_nonneg _ (by decide)]
  rw[b];refine Dp func164 λC hP hN=>?_
  with_reducible repeat' (first|refine Sp.h ?_|((first|refine Ss.h ?_|refine Sc.h (lg _ _) ?_|refine Sc.h (I3 _ _ (by decide)) ?_|(refine Sb.h ?_ ?_ ?_<;>(try intro hgd)<;>try exact Xy))<;>simp -implicitDefEqProofs (maxSteps:=2000000) [hP,hN,a])|refine X2 ?_ ?_|(refine Xd ?_ ?_<;>intro hcd<;>try exact Xx))
def Kj(x y z u:AV)(e:Option bF):Option bF:=match x,y,z,u with
 |.pv (.val (.int .i64 a)),.pv (.val (.int .i64 b)),.pv (.val (.int .i64 c)),.pv (.val (.int .i64 d))=>some (.pv (Z (max a (max b (max c d)))),[])
 |_,_,_,_=>e
@[simp] theorem UB(a b c d:Int)(e:Option bF):Kj (.pv (.val (.int .i64 a))) (.pv (.val (.int .i64 b))) (.pv (.val (.int .i64 c))) (.pv (.val (.int .i64 d))) e=some (.pv (Z (max a (max b (max c d)))),[]):=rfl
@[simp] theorem Zw{g:Option (Nat×Bool)}(x y z u:Operand):
 bf prog ⟨dst,.call ⟨.builtin .max,#[x,y,z,u],ts⟩,ty,pos,aft,g⟩ ρ=Kj (ρ x) (ρ y) (ρ z) (ρ u) (gk prog ⟨dst,.call ⟨.builtin .max,#[x,y,z,u],ts⟩,ty,pos,aft,g⟩ ρ):=by
 unfold Kj;split
 .rename_i a b c d f i j e
  refine dq (by simp[Op.operands,Call.operands,f,i,j,e,dV]) ?_;unfold execOp;simp[resolve,invoke,builtin,Builtin.max_,f,i,j,e,pB,dV,Builtin.max2,ae,dl]
  try omega
 .rfl
def Kk(x y z u:AV)(e:Option bF):Option bF:=match x,y,z,u with
 |.pv (.val (.int .i64 a)),.pv (.val (.int .i64 b)),.pv (.val (.int .i64 c)),.pv (.val (.int .i64 d))=>some (.pv (Z (min a (min b (min c d)))),[])
 |_,_,_,_=>e
@[simp] theorem UC(a b c d:Int)(e:Option bF):Kk (.pv (.val (.int .i64 a))) (.pv (.val (.int .i64 b))) (.pv (.val (.int .i64 c))) (.pv (.val (.int .i64 d))) e=some (.pv (Z (min a (min b (min c d)))),[]):=rfl
@[simp] theorem Zx{g:Option (Nat×Bool)}(x y z u:Operand):
 bf prog ⟨dst,.call ⟨.builtin .min,#[x,y,z,u],ts⟩,ty,pos,aft,g⟩ ρ=Kk (ρ x) (ρ y) (ρ z) (ρ u) (gk prog ⟨dst,.call ⟨.builtin .min,#[x,y,z,u],ts⟩,ty,pos,aft,g⟩ ρ):=by
 unfold Kk;split
 .rename_i a b c d f i j e
  refine dq (by simp[Op.operands,Call.operands,f,i,j,e,dV]) ?_;unfold execOp;simp[resolve,invoke,builtin,Builtin.min_,f,i,j,e,pB,dV,Builtin.min2,ae,dl]
  try omega
 .rfl
theorem OC(a:Int):aV 335 (Z a) (Z (eQ a)):=by
 refine Dp func335 λC hP hN=>?_;refine Gz ?_
 all_goals (try simp[eQ])<;>(try omega)
theorem PZ(a b:Int):aL 350 (Z a) (Z b) (I (eQ a) (eQ b)):=by
 have c:=OC a;have d:=OC b;refine Dp func350 λC hP hN=>?_;exact Gy
 all_goals (try simp[eQ])<;>(try omega)
theorem Hf(a:Int):aV 312 (Z a) (I (eQ a) (eQ a)):=by
 have b:=OC a;refine Dp func312 λC hP hN=>?_;exact Gy
 all_goals (try simp[eQ])<;>(try omega)
theorem Hg:aL 333 (I a b) (I c d) (aA (eK (a,b) (c,d))):=by
 have v1:=lg a b;have v2:=lg c d;cases e:al a b<;>cases f:al c d<;>rw[e]at v1<;>rw[f]at v2
 case true.true=>
  have g:eK (a,b) (c,d)=(eQ (a+c),eQ (b+d)):=by simp only[eK,e,f,yBj,yAn]
  rw[g];rw[bm]at e f;have i:i64.wrap (a+c)=a+c:=aa;have j:i64.wrap (b+d)=b+d:=aa;refine Dp func333 λC hP hN=>?_
  with_reducible repeat' (first|refine Sp.h ?_|((first|refine Ss.h ?_|refine Sc.h (v1) ?_|refine Sc.h (v2) ?_|refine Sc.h (PZ _ _) ?_)<;>simp -implicitDefEqProofs [hP,hN,i,j]))
 all_goals (
  have g:eK (a,b) (c,d)=(0,0):=by simp[eK,e,f]
  rw[g])
 all_goals
  refine Dp func333 λC hP hN=>?_;exact Gy
theorem OD:aV 349 (I a b) (aA (fu (a,b))):=by
 have v1:=lg a b;cases c:al a b<;>rw[c]at v1
 .have d:fu (a,b)=(0,0):=by simp[fu,c]
  rw[d];refine Dp func349 λC hP hN=>?_;exact Gy
 .have d:fu (a,b)=(-b,-a):=by simp only[fu,c,yAn]
  rw[d];rw[bm]at c;have e:i64.wrap (0-a)=-a:=(aa (n:=0-a) (by omega) (by omega)).trans (by omega);have f:i64.wrap (0-b)=-b:=(aa (n:=0-b) (by omega) (by omega)).trans (by omega);have g:i64.wrap (-a)=-a:=aa;have i:i64.wrap (-b)=-b:=aa;refine Dp func349 λC hP hN=>?_;exact Gy
theorem Kl:aL 334 (I a b) (I c d) (aA (dX (a,b) (c,d))):=by
 have v1:=lg a b;have v2:=lg c d;cases e:al a b<;>cases f:al c d<;>rw[e]at v1<;>rw[f]at v2
 case true.true=>
  have j:=bm.1 e;have k:=bm.1 f;have p:=cT (a:=a) (b:=c) 2147483648 2147483648 (by omega) (by omega) (by omega) (by omega);have q:=cT (a:=a) (b:=d) 2147483648 2147483648 (by omega) (by omega) (by omega) (by omega);have r:=cT (a:=b) (b:=c) 2147483648 2147483648 (by omega) (by omega) (by omega) (by omega);have s:=cT (a:=b) (b:=d) 2147483648 2147483648 (by omega) (by omega) (by omega) (by omega);have l:i64.wrap (a*c)=a*c:=aa;have m:i64.wrap (a*d)=a*d:=aa;have n:i64.wrap (b*c)=b*c:=aa;have o:i64.wrap (b*d)=b*d:=aa;have i:=I3 (min (a*c) (min (a*d) (min (b*c) (b*d)))) 65536 (by decide);have cc:=Hb (max (a*c) (max (a*d) (max (b*c) (b*d)))) 65536 (by decide);rw[uG (by decide) (by omega) (by omega)]at i;rw[sh (by decide) (by omega) (by omega)]at cc
  have g:dX (a,b) (c,d)=(eQ (min (a*c) (min (a*d) (min (b*c) (b*d)))/65536),eQ (dC (max (a*c) (max (a*d) (max (b*c) (b*d)))) 65536)):=by simp only[dX,e,f,yBj,yAn]
  rw[g];refine Dp func334 λC hP hN=>?_
  with_reducible repeat' (first|refine Sp.h ?_|((first|refine Wd ?_|refine Ss.h ?_|refine Sc.h (v1) ?_|refine Sc.h (v2) ?_|refine Sc.h (i) ?_|refine Sc.h (cc) ?_|refine Sc.h (PZ _ _) ?_)<;>simp -implicitDefEqProofs [hP,hN,l,m,n,o]<;>try refine Ya ?_))
 all_goals (
  have g:dX (a,b) (c,d)=(0,0):=by simp[dX,e,f]
  rw[g])
 all_goals
  refine Dp func334 λC hP hN=>?_;exact Gy
theorem OE(a:Int):aV 379 (Z a) (Z (a%65536)):=by
 have c:a.tmod 65536=a-65536*a.tdiv 65536:=by have:=yB8 a 65536;omega
 have d:-65536<a.tmod 65536:=yBW a (by decide);have f:a.tmod 65536<65536:=yBE a (by decide);have b:i64.wrap (a.tmod 65536+65536)=a.tmod 65536+65536:=aa
 have e:(a.tmod 65536+65536).tmod 65536=a%65536:=by
  rw[yCi (by omega)];omega
 refine Dp func379 λC hP hN=>?_;exact GS (gA b e)
theorem S7(x:Int)(A:0<=x)(h1:x<=8192):aV 387 (Z x) (.tup [Fi (λk=>if k=0 then 0 else eh x k),Fi (λk=>if k=0 then 0 else ej x k)]):=by
 have w1:i64.wrap (x*6746518852)=x*6746518852:=aa;have w2:i64.wrap (x*6746518853)=x*6746518853:=aa
 have Y:aO prog 228 [.pv (Z (x*6746518852)),.pv (Z 65536)] [] [] (.pv (Z (eh x 1))):=by
  have:=I3 (x*6746518852) 65536 (by decide);rw[uG (by decide) (by omega) (by omega)]at this;exact this
 have c2:aO prog 211 [.pv (Z (x*6746518853)),.pv (Z 65536)] [] [] (.pv (Z (ej x 1))):=by
  have:=Hb (x*6746518853) 65536 (by decide);rw[sh (by decide) (by omega) (by omega)]at this;exact this
 have m1:∀j,i64.wrap (eh x j*eh x 1)=eh x j*eh x 1:=λj=>aa (by have:=uA A h1 j;omega) (by have:=uA A h1 j;omega);have m2:∀j,i64.wrap (ej x j*ej x 1)=ej x j*ej x 1:=λj=>aa (by have:=pe A h1 j;omega) (by have:=pe A h1 j;omega)
 have W:∀j,aO prog 228 [.pv (Z (eh x (j+1)*eh x 1)),.pv (Z 1073741824)] [] [] (.pv (Z (eh x (j+2)))):=λj=>by
  have:=I3 (eh x (j+1)*eh x 1) 1073741824 (by decide);have hm:=uA A h1 (j+1);rw[uG (by decide) (by omega) (by omega)]at this;exact this
 have X:∀j,aO prog 211 [.pv (Z (ej x (j+1)*ej x 1)),.pv (Z 1073741824)] [] [] (.pv (Z (ej x (j+2)))):=λj=>by
  have:=Hb (ej x (j+1)*ej x 1) 1073741824 (by decide);have hm:=pe A h1 (j+1);rw[sh (by decide) (by omega) (by omega)]at this;exact this
 generalize hf:eh x=f at *;generalize hg:ej x=g at *
 obtain⟨e,y⟩:∃e:Nat->Int,e=λk=>if k=0 then 0 else f k:=⟨_,rfl⟩
 obtain⟨l,z⟩:∃l:Nat->Int,l=λk=>if k=0 then 0 else g k:=⟨_,rfl⟩
 rw[<-y,<-z]
 have q:e 0=0:=by rw[y];rfl
 have r:l 0=0:=by rw[z];rfl
 have U:∀k,f (k+1)=e (k+1):=λk=>by rw[y];simp
 have V:∀k,g (k+1)=l (k+1):=λk=>by rw[z];simp
 rw[show f 1=e 1 from U 0]at Y m1 W;rw[show g 1=l 1 from V 0]at c2 m2 X
 have n:∀j,i64.wrap (e (j+1)*e 1)=e (j+1)*e 1:=λj=>by rw[<-U j];exact m1 _
 have o:∀j,i64.wrap (l (j+1)*l 1)=l (j+1)*l 1:=λj=>by rw[<-V j];exact m2 _
 have d3:∀j,aO prog 228 [.pv (Z (e (j+1)*e 1)),.pv (Z 1073741824)] [] [] (.pv (Z (e (j+2)))):=λj=>by have:=W j;rw[U j,U (j+1)]at this;exact this
 have d4:∀j,aO prog 211 [.pv (Z (l (j+1)*l 1)),.pv (Z 1073741824)] [] [] (.pv (Z (l (j+2)))):=λj=>by have:=X j;rw[V j,V (j+1)]at this;exact this
 have B:=n 0;have D:=n 1;have E:=n 2;have F:=n 3;have G:=n 4;have H:=n 5;have I:=n 6;have J:=n 7;have K:=n 8;have L:=o 0;have M:=o 1;have N:=o 2;have O:=o 3;have P:=o 4;have Q:=o 5;have R:=o 6;have S:=o 7;have T:=o 8;simp only[Nat.reduceAdd]at B D E F G H I J K L M N O P Q R S T;clear n o m1 m2 W X U V hf hg y z;refine Dp func387 λC hP hN=>?_;refine Gz ?_;refine WP.loopN [] 9 (λi p=>p.t 2=.ptr 2 0/\p.t 3=.ptr 3 0/\p.t 4=.ptr 4 0/\p.t 5=.ptr 5 0/\p.t 6=.pv (Z (i+2:Nat))/\p.h 2=some (.box (jg e 0) true false)/\p.h 3=some (.box (jg e 0) true false)/\p.h 4=some (.box (jg e (i+2)) true false)/\p.h 5=some (.box (jg l (i+2)) true false)) (by simp[jg,q,r]) ?_;rintro i p hi ⟨s,g3,u,v,m,a,b,c,d⟩
 have hc:i=0\/i=1\/i=2\/i=3\/i=4\/i=5\/i=6\/i=7\/i=8\/i=9:=by omega
 rcases hc with rfl|rfl|rfl|rfl|rfl|rfl|rfl|rfl|rfl|rfl
 all_goals (simp only[jg]at a b c d;simp at m a b c d)
 .skip
  with_reducible repeat' (first|refine Sp.h ?_|((first|refine Wd ?_|refine Ss.h ?_|refine Sc.h (d3 0) ?_|refine Sc.h (d4 0) ?_)<;>simp -implicitDefEqProofs [hP,hN,s,g3,u,v,m,a,b,c,d,q,r,B,L,jg]<;>try refine Ya ?_))
 .skip
  with_reducible repeat' (first|refine Sp.h ?_|((first|refine Wd ?_|refine Ss.h ?_|refine Sc.h (d3 1) ?_|refine Sc.h (d4 1) ?_)<;>simp -implicitDefEqProofs [hP,hN,s,g3,u,v,m,a,b,c,d,q,r,D,M,jg]<;>try refine Ya ?_))
 .skip
  with_reducible repeat' (first|refine Sp.h ?_|((first|refine Wd ?_|refine Ss.h ?_|refine Sc.h (d3 2) ?_|refine Sc.h (d4 2) ?_)<;>simp -implicitDefEqProofs [hP,hN,s,g3,u,v,m,a,b,c,d,q,r,E,N,jg]<;>try refine Ya ?_))
 .skip
  with_reducible repeat' (first|refine Sp.h ?_|((first|refine Wd ?_|refine Ss.h ?_|refine Sc.h (d3 3) ?_|refine Sc.h (d4 3) ?_)<;>simp -implicitDefEqProofs [hP,hN,s,g3,u,v,m,a,b,c,d,q,r,F,O,jg]<;>try refine Ya ?_))
 .skip
  with_reducible repeat' (first|refine Sp.h ?_|((first|refine Wd ?_|refine Ss.h ?_|refine Sc.h (d3 4) ?_|refine Sc.h (d4 4) ?_)<;>simp -implicitDefEqProofs [hP,hN,s,g3,u,v,m,a,b,c,d,q,r,G,P,jg]<;>try refine Ya ?_))
 .skip
  with_reducible repeat' (first|refine Sp.h ?_|((first|refine Wd ?_|refine Ss.h ?_|refine Sc.h (d3 5) ?_|refine Sc.h (d4 5) ?_)<;>simp -implicitDefEqProofs [hP,hN,s,g3,u,v,m,a,b,c,d,q,r,H,Q,jg]<;>try refine Ya ?_))
 .skip
  with_reducible repeat' (first|refine Sp.h ?_|((first|refine Wd ?_|refine Ss.h ?_|refine Sc.h (d3 6) ?_|refine Sc.h (d4 6) ?_)<;>simp -implicitDefEqProofs [hP,hN,s,g3,u,v,m,a,b,c,d,q,r,I,R,jg]<;>try refine Ya ?_))
 .skip
  with_reducible repeat' (first|refine Sp.h ?_|((first|refine Wd ?_|refine Ss.h ?_|refine Sc.h (d3 7) ?_|refine Sc.h (d4 7) ?_)<;>simp -implicitDefEqProofs [hP,hN,s,g3,u,v,m,a,b,c,d,q,r,J,S,jg]<;>try refine Ya ?_))
 .skip
  with_reducible repeat' (first|refine Sp.h ?_|((first|refine Wd ?_|refine Ss.h ?_|refine Sc.h (d3 8) ?_|refine Sc.h (d4 8) ?_)<;>simp -implicitDefEqProofs [hP,hN,s,g3,u,v,m,a,b,c,d,q,r,K,T,jg]<;>try refine Ya ?_))
 .skip
  exact Gy
theorem S8(lo hi:Int)(h1:-4611686018427387904<=hi)(c:hi<=4611686018427387904)(d:-4611686018427387904<=lo)(e:lo<=4611686018427387904):aL 388 (Z lo) (Z hi) (aA (ov lo hi)):=by
 have a:=I3 lo 16384 (by decide);have b:=Hb hi 16384 (by decide);rw[uG (by decide) d e]at a;rw[sh (by decide) h1 c]at b;have f:ov lo hi=(max 0 (lo/16384),min 65536 (dC hi 16384)):=rfl;rw[f];generalize lo/16384=u at *;generalize dC hi 16384=v at *;refine Dp func388 λC hP hN=>?_;exact Gy
 all_goals (try simp)<;>(try omega)
theorem I6{n:Int}(hd:0<d):dC n d=av n d:=by
 unfold dC av;have e:=Int.mul_ediv_add_emod (n+d-1) d;have a:=yBb (n+d-1) (show d≠0 by omega);have b:=yBd (n+d-1) hd
 have:-n/d=-((n+d-1)/d):=by
  refine uF hd ?_ ?_
  .rw[yCb,Int.mul_comm];omega
  .rw[Int.add_mul,yCb,Int.mul_comm];omega
 omega
theorem cR{g:Nat->Int}(b:∀j,0<=g j/\g j<=1073741824)(j:Nat)(d:Int)(a:0<d):aO prog 211 [.pv (Z (g j)),.pv (Z d)] [] [] (.pv (Z (av (g j) d))):=by
 have:=Hb (g j) d (by omega);have h:=b j;rw[sh a (by omega) (by omega),I6 a]at this;exact this
theorem fR{f:Nat->Int}(hf:∀j,0<=f j/\f j<=1073741824)(j:Nat)(d:Int)(a:0<d):aO prog 228 [.pv (Z (f j)),.pv (Z d)] [] [] (.pv (Z (f j/d))):=by
 have:=I3 (f j) d (by omega);have h:=hf j;rw[uG a (by omega) (by omega)]at this;exact this
theorem XG(x:Int)(b:0<=x)(h1:x<=8192):aV 382 (Z x) (aA (qP x)):=by
 have m:=S7 x b h1;have hf:=pc b h1;have a:=pd b h1;have c:qP x=ov (eL (m9 (eh x) (ej x))) (eL (ly (eh x) (ej x))):=rfl;rw[c];generalize eh x=f at *;generalize ej x=g at *;simp only[m9,ly,SP,J9];have A:=hf 1;have u:=ey (a 3).1 (a 3).2 (d:=6) (by decide) (by decide);have e:=cR a 3 6 (by decide);have r:=rV hf 5 (d:=120) (by decide);have o:=fR hf 5 120 (by decide);have y:=ey (a 7).1 (a 7).2 (d:=5040) (by decide) (by decide);have j:=cR a 7 5040 (by decide);have v1:=a 1;have q:=rV hf 3 (d:=6) (by decide);have n:=fR hf 3 6 (by decide);have v:=ey (a 5).1 (a 5).2 (d:=120) (by decide) (by decide);have i:=cR a 5 120 (by decide);have s:=rV hf 7 (d:=5040) (by decide);have p:=fR hf 7 5040 (by decide);have z:=ey (a 9).1 (a 9).2 (d:=362880) (by decide) (by decide);have k:=cR a 9 362880 (by decide);have w0:i64.wrap (f 1-av (g 3) 6)=f 1-av (g 3) 6:=aa;have B:i64.wrap (f 1-av (g 3) 6+f 5/120)=f 1-av (g 3) 6+f 5/120:=aa;have D:i64.wrap (f 1-av (g 3) 6+f 5/120-av (g 7) 5040)=f 1-av (g 3) 6+f 5/120-av (g 7) 5040:=aa;have E:i64.wrap (g 1-f 3/6)=g 1-f 3/6:=aa;have F:i64.wrap (g 1-f 3/6+av (g 5) 120)=g 1-f 3/6+av (g 5) 120:=aa;have G:i64.wrap (g 1-f 3/6+av (g 5) 120-f 7/5040)=g 1-f 3/6+av (g 5) 120-f 7/5040:=aa;have H:i64.wrap (g 1-f 3/6+av (g 5) 120-f 7/5040+av (g 9) 362880)=g 1-f 3/6+av (g 5) 120-f 7/5040+av (g 9) 362880:=aa;have l:=S8 (f 1-av (g 3) 6+f 5/120-av (g 7) 5040) (g 1-f 3/6+av (g 5) 120-f 7/5040+av (g 9) 362880) (by omega) (by omega) (by omega) (by omega);refine Dp func382 λC hP hN=>?_;exact Gy
theorem XH(x:Int)(b:0<=x)(h1:x<=8192):aV 383 (Z x) (aA (vT x)):=by
 have n:=S7 x b h1;have hf:=pc b h1;have a:=pd b h1;have e:vT x=ov (eL (qj (eh x) (ej x))) (eL (ow (eh x) (ej x))):=rfl;rw[e];generalize eh x=f at *;generalize ej x=g at *;simp only[qj,ow,J9,SQ];have z:=ey (a 2).1 (a 2).2 (d:=2) (by decide) (by decide);have j:=cR a 2 2 (by decide);have u:=rV hf 4 (d:=24) (by decide);have p:=fR hf 4 24 (by decide);have B:=ey (a 6).1 (a 6).2 (d:=720) (by decide) (by decide);have c6:=cR a 6 720 (by decide);have y:=rV hf 8 (d:=40320) (by decide);have r:=fR hf 8 40320 (by decide);have i:=ey (a 10).1 (a 10).2 (d:=3628800) (by decide) (by decide);have c:=cR a 10 3628800 (by decide);have s:=rV hf 2 (d:=2) (by decide);have o:=fR hf 2 2 (by decide);have A:=ey (a 4).1 (a 4).2 (d:=24) (by decide) (by decide);have k:=cR a 4 24 (by decide);have v:=rV hf 6 (d:=720) (by decide);have q:=fR hf 6 720 (by decide);have D:=ey (a 8).1 (a 8).2 (d:=40320) (by decide) (by decide);have l:=cR a 8 40320 (by decide);have w0:i64.wrap (1073741824-av (g 2) 2)=1073741824-av (g 2) 2:=aa;have E:i64.wrap (1073741824-av (g 2) 2+f 4/24)=1073741824-av (g 2) 2+f 4/24:=aa;have F:i64.wrap (1073741824-av (g 2) 2+f 4/24-av (g 6) 720)=1073741824-av (g 2) 2+f 4/24-av (g 6) 720:=aa;have G:i64.wrap (1073741824-av (g 2) 2+f 4/24-av (g 6) 720+f 8/40320)=1073741824-av (g 2) 2+f 4/24-av (g 6) 720+f 8/40320:=aa;have H:i64.wrap (1073741824-av (g 2) 2+f 4/24-av (g 6) 720+f 8/40320-av (g 10) 3628800)=1073741824-av (g 2) 2+f 4/24-av (g 6) 720+f 8/40320-av (g 10) 3628800:=aa;have I:i64.wrap (1073741824-f 2/2)=1073741824-f 2/2:=aa;have J:i64.wrap (1073741824-f 2/2+av (g 4) 24)=1073741824-f 2/2+av (g 4) 24:=aa;have K:i64.wrap (1073741824-f 2/2+av (g 4) 24-f 6/720)=1073741824-f 2/2+av (g 4) 24-f 6/720:=aa;have L:i64.wrap (1073741824-f 2/2+av (g 4) 24-f 6/720+av (g 8) 40320)=1073741824-f 2/2+av (g 4) 24-f 6/720+av (g 8) 40320:=aa;have m:=S8 (1073741824-av (g 2) 2+f 4/24-av (g 6) 720+f 8/40320-av (g 10) 3628800) (1073741824-f 2/2+av (g 4) 24-f 6/720+av (g 8) 40320) (by omega) (by omega) (by omega) (by omega);refine Dp func383 λC hP hN=>?_;exact Gy
theorem S9(r:Int)(b:0<=r)(h1:r<=16384):aV 380 (Z r) (aA (aT r)):=by
 by_cases h:r<=8192
 .have a:aT r=qP r:=by simp[aT,h]
  rw[a];have c:=XG r b h;refine Dp func380 λC hP hN=>?_;exact Gy
 .have a:aT r=vT (16384-r):=by simp[aT,h]
  rw[a];have c:=XH (16384-r) (by omega) (by omega);have w:i64.wrap (16384-r)=16384-r:=aa;refine Dp func380 λC hP hN=>?_;exact Gy
theorem OG(a:Int):aV 368 (Z a) (aA (fc a)):=by
 have b:fc a=nv (a%65536):=rfl;have f:=OE a;have m0:0<=a%65536:=yBb _ (by decide);have m1:a%65536<65536:=yBd _ (by decide);rw[b];generalize a%65536=m at *;have j:m.tdiv 16384=m/16384:=yAp m0;have k:m.tmod 16384=m%16384:=yCi m0;have n:i64.wrap (m/16384)=m/16384:=aa;have c:0<=m%16384:=yBb _ (by decide);have l:m%16384<16384:=yBd _ (by decide);have d:=S9 (m%16384) c (by omega);have e:=S9 (16384-m%16384) (by omega) (by omega);have o:i64.wrap (16384-m%16384)=16384-m%16384:=aa
 have hq:m/16384=0\/m/16384=1\/m/16384=2\/m/16384=3:=by omega
 unfold nv;generalize aT (m%16384)=u at *;generalize aT (16384-m%16384)=v at *;have g:aO prog 349 [.pv (aA u)] [] [] (.pv (aA (fu u))):=OD;have i:aO prog 349 [.pv (aA v)] [] [] (.pv (aA (fu v))):=OD;rcases hq with hq|hq|hq|hq<;>rw[hq]
 all_goals
  refine Dp func368 λC hP hN=>?_;exact Gy
theorem Ta(a:Int):aV 367 (Z a) (aA (rW a)):=by
 have c:=OE a;have m0:0<=a%65536:=yBb _ (by decide);have m1:a%65536<65536:=yBd _ (by decide);have d:=OG (a%65536+16384);have w:i64.wrap (a%65536+16384)=a%65536+16384:=aa;have b:rW a=fc (a%65536+16384):=rfl;rw[b];refine Dp func367 λC hP hN=>?_;exact Gy
def p9(a:Iv)(t:Int):Bool:=decide (a.1+(t-a.1)%65536<=a.2)
theorem Tb(t:Int)(h1:-2147483648<=a)(d:a<=2147483648)(e:-2147483648<=t)(f:t<=2147483648):aL 378 (I a b) (Z t) (B (p9 (a,b) t)):=by
 have c:=OE (t-a);have m0:0<=(t-a)%65536:=yBb _ (by decide);have m1:(t-a)%65536<65536:=yBd _ (by decide);have g:i64.wrap (t-a)=t-a:=aa;have i:i64.wrap (a+(t-a)%65536)=a+(t-a)%65536:=aa;refine Dp func378 λC hP hN=>?_;refine Gz ?_
 all_goals rfl
theorem EN{a:Iv}{t:Int}(b:al a.1 a.2=true):en a t=p9 a t:=by
 have m0:0<=(t-a.1)%65536:=yBb _ (by decide);simp only[en,p9,b,yAs];rw[yAF (show a.1<=a.1+(t-a.1)%65536 by omega),yAs]
theorem Tc(v:Int->Iv)(t u:Int)(o:-2147483648<=t)(i:t<=2147483648)(p:-2147483648<=u)(j:u<=2147483648):Ao 366 (I a b) (aA (v a)) (aA (v b)) (Z t) (Z u) (aA (eU (a,b) v t u)):=by
 have k:=lg a b
 cases c:al a b with
 |false=>
  rw[c]at k
  have e:eU (a,b) v t u=(0,0):=by simp[eU,c]
  rw[e];refine Dp func366 λC hP hN=>?_;exact Gy
 |true=>
  rw[c]at k;have f:=bm.1 c;have w:i64.wrap (b-a)=b-a:=aa;have m:=Tb (b:=b) t f.1 (by omega) o i;have n:=Tb (b:=b) u f.1 (by omega) p j;by_cases l:65536<=b-a
  .have e:eU (a,b) v t u=(-65536,65536):=by simp only[eU,c];rw[L4 (by simp),yAb l]
   rw[e];refine Dp func366 λC hP hN=>?_;exact Gy
  .have e:eU (a,b) v t u=(if p9 (a,b) u then bV (if p9 (a,b) t then bV (bV (v a) (v b)) (iW 65536)else bV (v a) (v b)) (iW (-65536))else(if p9 (a,b) t then bV (bV (v a) (v b)) (iW 65536)else bV (v a) (v b))):=by
    simp only[eU,c];rw[L4 (by simp),L4 l,EN c,EN c]
   rw[e];have s:=JJ (v a).1 (v a).2 (v b).1 (v b).2;have x:=Hf 65536;have y:=Hf (-65536);have q:iW 65536=(eQ 65536,eQ 65536):=rfl;have r:iW (-65536)=(eQ (-65536),eQ (-65536)):=rfl;rw[q,r];generalize eQ 65536=d at *;generalize eQ (-65536)=g at *;generalize B:bV (v a) (v b)=H at *;have z:=JJ H.1 H.2 d d;have A:=JJ H.1 H.2 g g;have c6:=JJ (bV H (d,d)).1 (bV H (d,d)).2 g g;cases m1:p9 (a,b) t<;>cases m2:p9 (a,b) u<;>rw[m1]at m<;>rw[m2]at n<;>simp only[ZY,yAi,yAn]
   all_goals
    refine Dp func366 λC hP hN=>?_;exact Gy
theorem XI:aV 348 (I a b) (aA (pi (a,b))):=by
 have h:pi (a,b)=eU (a,b) fc 16384 49152:=rfl;rw[h];have c:=Tc (a:=a) (b:=b) fc 16384 49152 (by decide) (by decide) (by decide) (by decide);have d:=OG a;have e:=OG b;generalize fc a=u at *;generalize fc b=v at *;refine Dp func348 λC hP hN=>?_;exact Gy
theorem XJ:aV 347 (I a b) (aA (pj (a,b))):=by
 have h:pj (a,b)=eU (a,b) rW 0 32768:=rfl;rw[h];have c:=Tc (a:=a) (b:=b) rW 0 32768 (by decide) (by decide) (by decide) (by decide);have d:=Ta a;have e:=Ta b;generalize rW a=u at *;generalize rW b=v at *;refine Dp func347 λC hP hN=>?_;exact Gy
theorem Md(h:al x.1 x.2=true):eK (0,0) x=x:=by
 have a:=bm.1 h;simp only[eK,h,show al 0 0=true from rfl,yBj,yAn,eQ]
 ext<;>(try simp only[])<;>omega
theorem Km(x y:Iv):al (dX x y).1 (dX x y).2=true:=by
 unfold dX;split
 .rw[bm];simp only[eQ,dC];omega
 .rfl
theorem zu(m v:aq):iX m v 3=eK (eK (dX m.1 v.1) (dX m.2.1 v.2.1)) (dX m.2.2 v.2.2):=by
 show eK (eK (eK (0,0) (dX m.1 v.1)) (dX m.2.1 v.2.1)) (dX m.2.2 v.2.2)=_;rw[Md (Km _ _)]
theorem P0:eQ 65536=65536:=by decide
theorem Td(x y z:Int):aV 267 (De x y z) (bL (dm (x,y,z))):=by
 have hp:dm (x,y,z)=((eQ x,eQ x),(eQ y,eQ y),(eQ z,eQ z)):=rfl;rw[hp];refine Dp func267 λC hP hN=>?_;have a:=@Hf;exact GS trivial
theorem Te:aL 310 (V6 a0 a1 a2 a3 a4 a5) (V6 b0 b1 b2 b3 b4 b5) (bL (pm ((a0,a1),(a2,a3),(a4,a5)) ((b0,b1),(b2,b3),(b4,b5)))):=by
 refine Dp func310 λC hP hN=>?_;have a:=@Hg;refine GT trivial ?_
 all_goals (try simp[pm])
theorem Tf:EW 264 (zh kP):=by
 have a:=Hf 65536;rw[P0]at a;refine Dp func264 λC hP hN=>?_;refine Gz ?_
 all_goals (try simp[kP])
theorem XK(x:Int):aL 332 (Z x) (I a b) (zh (eu x (a,b))):=by
 have k:=Hf 65536;rw[P0]at k;have j:=lg a b
 cases e:al a b with
 |false=>
  rw[e]at j
  have c:eu x (a,b)=(aM,aM,aM):=by simp[eu,e]
  rw[c];refine Dp func332 λC hP hN=>?_
  with_reducible repeat' (first|refine Sp.h ?_|((first|refine Ss.h ?_|refine Sc.h (j) ?_)<;>simp -implicitDefEqProofs [hP,hN,aM]))
 |true=>
  rw[e]at j;have m:=XI (a:=a) (b:=b);have cc:=XJ (a:=a) (b:=b);generalize hS:pi (a,b)=S at *;generalize d:pj (a,b)=Q at *;have l:=OD (a:=S.1) (b:=S.2);by_cases f:x=0
  .have c:eu x (a,b)=(((65536,65536),(0,0),(0,0)),((0,0),Q,fu S),((0,0),S,Q)):=by simp[eu,e,f,hS,d]
   rw[c];subst f;refine Dp func332 λC hP hN=>?_;exact Gy
  by_cases g:x=1
  .have c:eu x (a,b)=((Q,(0,0),S),((0,0),(65536,65536),(0,0)),(fu S,(0,0),Q)):=by simp[eu,e,g,hS,d]
   rw[c];subst g;refine Dp func332 λC hP hN=>?_;exact Gy
  by_cases i:x=2
  .have c:eu x (a,b)=((Q,fu S,(0,0)),(S,Q,(0,0)),((0,0),(0,0),(65536,65536))):=by simp[eu,e,i,hS,d]
   rw[c];subst i;refine Dp func332 λC hP hN=>?_;exact Gy
  have c:eu x (a,b)=(aM,aM,aM):=by simp[eu,e,f,g,i]
  rw[c]
  have n:(x==0)=false:=by simp[f]
  have o:(x==1)=false:=by simp[g]
  have p:(x==2)=false:=by simp[i]
  refine Dp func332 λC hP hN=>?_
  with_reducible repeat' (first|refine Sp.h ?_|((first|refine Wd ?_|refine Ss.h ?_|refine Sc.h (j) ?_|refine Sc.h (m) ?_|refine Sc.h (cc) ?_|refine Sc.h (l) ?_|refine Sc.h (k) ?_)<;>simp -implicitDefEqProofs [hP,hN,aM,n,o,p,f,g,i]<;>try refine Ya ?_))
theorem Tg:aL 311 (GP a0 a1 a2 a3 a4 a5 a6 a7 a8 a9 a10 a11 a12 a13 a14 a15 a16 a17) (V6 v0 v1 v2 v3 v4 v5) (bL (pX (((a0,a1),(a2,a3),(a4,a5)),((a6,a7),(a8,a9),(a10,a11)),((a12,a13),(a14,a15),(a16,a17))) ((v0,v1),(v2,v3),(v4,v5)))):=by
 obtain⟨D,g⟩:∃D:aq,D=pX (((a0,a1),(a2,a3),(a4,a5)),((a6,a7),(a8,a9),(a10,a11)),((a12,a13),(a14,a15),(a16,a17))) ((v0,v1),(v2,v3),(v4,v5)):=⟨_,rfl⟩
 have n:eK (eK (dX (a0,a1) (v0,v1)) (dX (a2,a3) (v2,v3))) (dX (a4,a5) (v4,v5))=D.1:=by rw[g];exact(zu ((a0,a1),(a2,a3),(a4,a5)) ((v0,v1),(v2,v3),(v4,v5))).symm
 have o:eK (eK (dX (a6,a7) (v0,v1)) (dX (a8,a9) (v2,v3))) (dX (a10,a11) (v4,v5))=D.2.1:=by rw[g];exact(zu ((a6,a7),(a8,a9),(a10,a11)) ((v0,v1),(v2,v3),(v4,v5))).symm
 have p:eK (eK (dX (a12,a13) (v0,v1)) (dX (a14,a15) (v2,v3))) (dX (a16,a17) (v4,v5))=D.2.2:=by rw[g];exact(zu ((a12,a13),(a14,a15),(a16,a17)) ((v0,v1),(v2,v3),(v4,v5))).symm
 rw[<-g];clear g;refine Dp func311 λC hP hN=>?_;refine Gz ?_;refine WP.loopN [] 3 (λi a=>a.t 2=.ptr 2 0/\a.t 3=.ptr 3 0/\a.t 4=.ptr 4 0/\a.t 5=.ptr 5 0/\a.h 2=some (.box [.pv (Z a0),.pv (Z a1),.pv (Z a2),.pv (Z a3),.pv (Z a4),.pv (Z a5),.pv (Z a6),.pv (Z a7),.pv (Z a8),.pv (Z a9),.pv (Z a10),.pv (Z a11),.pv (Z a12),.pv (Z a13),.pv (Z a14),.pv (Z a15),.pv (Z a16),.pv (Z a17)] true false)/\a.h 3=some (.box [.pv (Z v0),.pv (Z v1),.pv (Z v2),.pv (Z v3),.pv (Z v4),.pv (Z v5)] true false)/\a.h 4=some (.box (c6 D 0) true false)/\a.t 6=.pv (Z i)/\a.h 5=some (.box (c6 D i) true false)) (by simp[c6]) ?_;rintro i a hi ⟨k,d,l,m,e,f,b,j,c⟩;rcases gx hi with rfl|rfl|rfl|rfl
 all_goals (simp[c6]at j b c)
 .skip
  with_reducible repeat' (first|refine Sp.h ?_|((first|refine Wd ?_|refine Ss.h ?_|refine Sc.h (Kl) ?_|refine Sc.h (Hg) ?_)<;>simp -implicitDefEqProofs [hP,hN,k,d,l,m,j,e,f,b,c,n,c6]<;>try refine Ya ?_))
 .skip
  with_reducible repeat' (first|refine Sp.h ?_|((first|refine Wd ?_|refine Ss.h ?_|refine Sc.h (Kl) ?_|refine Sc.h (Hg) ?_)<;>simp -implicitDefEqProofs [hP,hN,k,d,l,m,j,e,f,b,c,o,c6]<;>try refine Ya ?_))
 .skip
  with_reducible repeat' (first|refine Sp.h ?_|((first|refine Wd ?_|refine Ss.h ?_|refine Sc.h (Kl) ?_|refine Sc.h (Hg) ?_)<;>simp -implicitDefEqProofs [hP,hN,k,d,l,m,j,e,f,b,c,p,c6]<;>try refine Ya ?_))
 .skip
  exact Gy
theorem Th(x:Int):max (-65536) (min x 65536)=vU x:=by unfold vU;omega
theorem XL{b6 J K L q r s u v y z D:Int}:aL 309 (GP a0 a1 a2 a3 a4 a5 a6 a7 a8 a9 a10 a11 a12 a13 a14 a15 a16 a17) (GP b0 b1 b2 b3 b4 b5 b6 J K L q r s u v y z D) (zh (vV (((a0,a1),(a2,a3),(a4,a5)),((a6,a7),(a8,a9),(a10,a11)),((a12,a13),(a14,a15),(a16,a17))) (((b0,b1),(b2,b3),(b4,b5)),((b6,J),(K,L),(q,r)),((s,u),(v,y),(z,D))))):=by
 obtain⟨A,M⟩:∃A:kO,A=(((a0,a1),(a2,a3),(a4,a5)),((a6,a7),(a8,a9),(a10,a11)),((a12,a13),(a14,a15),(a16,a17))):=⟨_,rfl⟩;obtain⟨B,N⟩:∃B:kO,B=(((b0,b1),(b2,b3),(b4,b5)),((b6,J),(K,L),(q,r)),((s,u),(v,y),(z,D))):=⟨_,rfl⟩;rw[<-M,<-N];obtain⟨R,j⟩:∃l:List AV,l=[a0,a1,a2,a3,a4,a5,a6,a7,a8,a9,a10,a11,a12,a13,a14,a15,a16,a17].map λx=>.pv (Z x):=⟨_,rfl⟩;obtain⟨lb,m⟩:∃l:List AV,l=[b0,b1,b2,b3,b4,b5,b6,J,K,L,q,r,s,u,v,y,z,D].map λx=>.pv (Z x):=⟨_,rfl⟩;simp only[yBa,yCg]at j m
 have S:g3 (g3 A 0) 0=(a0,a1)/\g3 (g3 A 0) 1=(a2,a3)/\g3 (g3 A 0) 2=(a4,a5)/\g3 (g3 A 1) 0=(a6,a7)/\g3 (g3 A 1) 1=(a8,a9)/\g3 (g3 A 1) 2=(a10,a11)/\g3 (g3 A 2) 0=(a12,a13)/\g3 (g3 A 2) 1=(a14,a15)/\g3 (g3 A 2) 2=(a16,a17)/\g3 (eM B 0) 0=(b0,b1)/\g3 (eM B 1) 0=(b2,b3)/\g3 (eM B 2) 0=(b4,b5)/\g3 (eM B 0) 1=(b6,J)/\g3 (eM B 1) 1=(K,L)/\g3 (eM B 2) 1=(q,r)/\g3 (eM B 0) 2=(s,u)/\g3 (eM B 1) 2=(v,y)/\g3 (eM B 2) 2=(z,D):=by
  rw[M,N]
  repeat' (first|rfl|constructor)
 have f:∀i k,vU (eK (eK (dX (g3 (g3 A i) 0) (g3 (eM B k) 0)) (dX (g3 (g3 A i) 1) (g3 (eM B k) 1))) (dX (g3 (g3 A i) 2) (g3 (eM B k) 2))).1=(rX A B i k).1/\vU (eK (eK (dX (g3 (g3 A i) 0) (g3 (eM B k) 0)) (dX (g3 (g3 A i) 1) (g3 (eM B k) 1))) (dX (g3 (g3 A i) 2) (g3 (eM B k) 2))).2=(rX A B i k).2:=λi k=>by
  have e:=yBt AN (zu (g3 A i) (eM B k));exact⟨(yBt Prod.fst e).symm,(yBt Prod.snd e).symm⟩
 clear M N;refine Dp func309 λC hP hN=>?_
 with_reducible repeat' (first|refine Sp.h ?_|((first|refine Wd ?_|refine Ss.h ?_|(refine Sb.h ?_ ?_ ?_<;>(try intro hgd)<;>try exact Xy))<;>simp -implicitDefEqProofs (maxSteps:=2000000) [hP,hN,j,m]<;>try refine Ya ?_)|refine X2 ?_ ?_|(refine Xd ?_ ?_<;>intro hcd<;>try exact Xx))
 refine WP.loopN [8] 3 (λi p=>ta R lb A B p/\p.t 6=.pv (Z i)/\p.h 5=some (.box (cC A B i 0) true false)/\p.h 8=none) (by simp[ta,cC,iK,j,m]) ?_;rintro i p hi ⟨⟨G,n,H,I,b,c,d⟩,F,g,E⟩;rw[j]at b;rw[m]at c;by_cases Q:i=3
 .simp[cC,iK,Q]at F d g
  with_reducible repeat' (first|refine Sp.h ?_|((first|refine Wd ?_|refine Ss.h ?_|(refine Sb.h ?_ ?_ ?_<;>(try intro hgd)<;>try exact Xy))<;>simp -implicitDefEqProofs (maxSteps:=2000000) [hP,hN,G,n,H,I,F,b,c,d,g,E,vV,Q]<;>try refine Ya ?_)|refine X2 ?_ ?_|(refine Xd ?_ ?_<;>intro hcd<;>try exact Xx))
 have a:i=0\/i=1\/i=2:=by omega
 rcases a with a|a|a
 all_goals
  with_reducible repeat' (first|refine Sp.h ?_|((first|refine Wd ?_|refine Ss.h ?_|(refine Sb.h ?_ ?_ ?_<;>(try intro hgd)<;>try exact Xy))<;>simp -implicitDefEqProofs (maxSteps:=2000000) [hP,hN,G,n,H,I,F,b,c,d,g,E,a]<;>try refine Ya ?_)|refine X2 ?_ ?_|(refine Xd ?_ ?_<;>intro hcd<;>try exact Xx))
  refine WP.loopN [8] 3 (λk p=>ta R lb A B p/\p.t 6=.pv (Z i)/\p.t 7=.pv (Z k)/\p.h 5=some (.box (cC A B i k) true false)/\p.h 8=none) (by simp[ta,cC,iK,j,m,G,n,H,I,F,b,c,d,g,a]) ?_;clear G n H I F b c d g E;rintro k p T ⟨⟨G,n,H,I,b,c,d⟩,F,P,g,E⟩;rw[j]at b;rw[m]at c;have O:=f i k;rcases gx T with o|o|o|o
  all_goals
   simp only[a,o,S]at O;simp[cC,iK,a,o]at P d g
   with_reducible repeat' (first|refine Sp.h ?_|((first|refine Wd ?_|refine Ss.h ?_|refine Sc.h (Kl) ?_|refine Sc.h (Hg) ?_|(refine Sb.h ?_ ?_ ?_<;>(try intro hgd)<;>try exact Xy))<;>simp -implicitDefEqProofs (maxSteps:=2000000) [hP,hN,G,n,H,I,F,P,b,c,d,g,E,ta,j,m,cC,iK,Th,O,a,o]<;>try refine Ya ?_)|refine X2 ?_ ?_|(refine Xd ?_ ?_<;>intro hcd<;>try exact Xx))
theorem OH:EW 205 (bO fO):=by
 refine Dp func205 λC hP hN=>?_;have a:=@Tf;refine GT trivial ?_
 all_goals (try simp[fO,aM,kP])
theorem Kn:aV 308 (V6 v0 v1 v2 v3 v4 v5) (bO (dn ((v0,v1),(v2,v3),(v4,v5)))):=by
 refine Dp func308 λC hP hN=>?_;have a:=@Tf;refine GT trivial ?_
 all_goals (try simp[dn])
theorem OI(x:Int):aL 307 (Z x) (I a b) (bO (gb x (a,b))):=by
 have d:=XK (a:=a) (b:=b) x;have c:gb x (a,b)=(eu x (a,b),aM):=rfl;rw[c];generalize eu x (a,b)=m at *;refine Dp func307 λC hP hN=>?_;refine Gz ?_
 all_goals (try simp[aM])
theorem XM{a b c d e f:Int}:aL 266 (Ae a0 a1 a2 a3 a4 a5 a6 a7 a8 a9 a10 a11 a12 a13 a14 a15 a16 a17 a b c d e f) (V6 v0 v1 v2 v3 v4 v5) (bL (gE ((((a0,a1),(a2,a3),(a4,a5)),((a6,a7),(a8,a9),(a10,a11)),((a12,a13),(a14,a15),(a16,a17))),((a,b),(c,d),(e,f))) ((v0,v1),(v2,v3),(v4,v5)))):=by
 refine Dp func266 λC hP hN=>?_;have g:=@Tg;have i:=@Te;refine GT trivial ?_
 all_goals (try simp[gE])
theorem xW{a b c d e f b6 x y z g i j k l m n o p q r s u v:Int}:aL 263 (Ae a0 a1 a2 a3 a4 a5 a6 a7 a8 a9 a10 a11 a12 a13 a14 a15 a16 a17 a b c d e f) (Ae b0 b1 b2 b3 b4 b5 b6 x y z g i j k l m n o p q r s u v) (bO (mw ((((a0,a1),(a2,a3),(a4,a5)),((a6,a7),(a8,a9),(a10,a11)),((a12,a13),(a14,a15),(a16,a17))),((a,b),(c,d),(e,f))) ((((b0,b1),(b2,b3),(b4,b5)),((b6,x),(y,z),(g,i)),((j,k),(l,m),(n,o))),((p,q),(r,s),(u,v))))):=by
 refine Dp func263 λC hP hN=>?_;have A:=@Tg;have B:=@Te;have D:=@XL;refine GT trivial ?_
 all_goals (try simp[mw,gE])
theorem XN(j:J)(o:0<=j.kind)(p:j.kind<=6):aL 262 (bj j) (I a b) (bO (kQ j (a,b))):=by
 have n:=Td j.ox j.oy j.oz;have l:=OH;have m:kQ j (a,b)=mw (dn (dm (j.ox,j.oy,j.oz))) (eV j.kind (a,b)):=rfl;rw[m];generalize dm (j.ox,j.oy,j.oz)=pv at *;have k:=Kn (v0:=pv.1.1) (v1:=pv.1.2) (v2:=pv.2.1.1) (v3:=pv.2.1.2) (v4:=pv.2.2.1) (v5:=pv.2.2.2);have k:aO prog 308 [.pv (bL pv)] [] [] (.pv (bO (dn pv))):=k;generalize dn pv=sp at *;generalize i:fO=g at *
 have key:j.kind=0\/j.kind=1\/j.kind=2\/j.kind=3\/j.kind=4\/j.kind=5\/j.kind=6:=by omega
 rcases key with c|c|c|c|c|c|c
 .have d:eV j.kind (a,b)=g:=by simp[eV,c,i]
  have e:=l;rw[d];generalize g=mp at *;refine Dp func262 λC hP hN=>?_;have f:=@xW;exact GS c
 .have d:eV j.kind (a,b)=gb 0 (a,b):=by simp[eV,c]
  have e:=OI (a:=a) (b:=b) 0;rw[d];generalize gb 0 (a,b)=mp at *;refine Dp func262 λC hP hN=>?_;have f:=@xW;exact GS c
 .have d:eV j.kind (a,b)=gb 1 (a,b):=by simp[eV,c]
  have e:=OI (a:=a) (b:=b) 1;rw[d];generalize gb 1 (a,b)=mp at *;refine Dp func262 λC hP hN=>?_;have f:=@xW;exact GS c
 .have d:eV j.kind (a,b)=gb 2 (a,b):=by simp[eV,c]
  have e:=OI (a:=a) (b:=b) 2;rw[d];generalize gb 2 (a,b)=mp at *;refine Dp func262 λC hP hN=>?_;have f:=@xW;exact GS c
 .have d:eV j.kind (a,b)=dn ((a,b),(0,0),(0,0)):=by simp[eV,c]
  have e:=Kn (v0:=((a,b),(0,0),(0,0)).1.1) (v1:=((a,b),(0,0),(0,0)).1.2) (v2:=((a,b),(0,0),(0,0)).2.1.1) (v3:=((a,b),(0,0),(0,0)).2.1.2) (v4:=((a,b),(0,0),(0,0)).2.2.1) (v5:=((a,b),(0,0),(0,0)).2.2.2);rw[d];generalize dn ((a,b),(0,0),(0,0))=mp at *;refine Dp func262 λC hP hN=>?_;have f:=@xW;exact GS c
 .have d:eV j.kind (a,b)=dn ((0,0),(a,b),(0,0)):=by simp[eV,c]
  have e:=Kn (v0:=((0,0),(a,b),(0,0)).1.1) (v1:=((0,0),(a,b),(0,0)).1.2) (v2:=((0,0),(a,b),(0,0)).2.1.1) (v3:=((0,0),(a,b),(0,0)).2.1.2) (v4:=((0,0),(a,b),(0,0)).2.2.1) (v5:=((0,0),(a,b),(0,0)).2.2.2);rw[d];generalize dn ((0,0),(a,b),(0,0))=mp at *;refine Dp func262 λC hP hN=>?_;have f:=@xW;exact GS c
 .have d:eV j.kind (a,b)=dn ((0,0),(0,0),(a,b)):=by simp[eV,c]
  have e:=Kn (v0:=((0,0),(0,0),(a,b)).1.1) (v1:=((0,0),(0,0),(a,b)).1.2) (v2:=((0,0),(0,0),(a,b)).2.1.1) (v3:=((0,0),(0,0),(a,b)).2.1.2) (v4:=((0,0),(0,0),(a,b)).2.2.1) (v5:=((0,0),(0,0),(a,b)).2.2.2);rw[d];generalize dn ((0,0),(0,0),(a,b))=mp at *;refine Dp func262 λC hP hN=>?_;have f:=@xW;exact GS c
theorem xJ(js:List J)(ms:List Ms)(l:Int)(a:js.length<=9223372036854775807):aL 103 (gH js ms) (Z l) (B (cJ js.length l)):=by
 refine Dp func103 λC hP hN=>?_
 with_reducible repeat' (first|refine Sp.h ?_|((first|refine Ss.h ?_|(refine Sb.h ?_ ?_ ?_<;>(try intro hgd)<;>try exact Xy))<;>simp -implicitDefEqProofs (maxSteps:=2000000) [hP,hN])|refine X2 ?_ ?_|(refine Xd ?_ ?_<;>intro hcd<;>try exact Xx))
 all_goals (simp only[cJ,Is,yAh]at *;first|done|(simp;intros;omega)|(simp;omega)|omega)
theorem WE(a b:Bool):aj prog (Op.equal 4 (.bool a) (.bool b))=some (a==b):=by cases a<;>cases b<;>kernel_rfl
def PS(x:AV):Option Bool:=match x with
 |.pv (.val (.bool a))=>some a
 |_=>none
theorem GH{x:AV}{a:Bool}(h:PS x=some a):x=.pv (B a):=by
 unfold PS at h;split at h
 .injection h with h;subst h;rfl
 .cases h
def J1(x y:AV)(c:Option bF):Option bF:=match PS x,PS y with
 |some a,some b=>some (.pv (.val (.bool !(a==b))),[])
 |_,_=>c
@[simp] theorem Us(a b:Bool)(c:Option bF):J1 (.pv (.val (.bool a))) (.pv (.val (.bool b))) c=some (.pv (.val (.bool !(a==b))),[]):=rfl
@[simp] theorem ZZ{g:Option (Nat×Bool)}(x y:Operand):
 bf prog ⟨dst,.binOp .neq 4 x y 4,ty,pos,aft,g⟩ ρ=J1 (ρ x) (ρ y) (gk prog ⟨dst,.binOp .neq 4 x y 4,ty,pos,aft,g⟩ ρ):=by
 unfold J1;split
 .rename_i a b c d
  exact HH rfl (GH c) (GH d) (by kernel_rfl) (WE a b)
 .rfl
def kB(xs:List Int)(x:Int):Bool:=xs.any (λy=>y==x)
theorem SA(xs:List Int)(x:Int)(n:xs.length<=9223372036854775807):aL 314 (zs xs) (Z x) (B (kB xs x)):=by
 have hd:kB xs x=xs.any (λy=>y==x):=rfl;rw[hd];refine Dp func314 λC hP hN=>?_;refine Gz ?_;refine WP.loopN [] xs.length (λi c=>c.t 0=.pv (zs xs)/\c.t 1=.pv (Z x)/\c.t 5=.pv (Z i)/\∀k y,k<i->xs[k]?=some y->(y==x)=false) (by simp) ?_;rintro i c hi ⟨o,q,r,hq⟩;by_cases a:i<xs.length
 .have u:=ai a n
  generalize e:xs[i]=v at *
  have g:xs[i]?=some v:=by rw[an a,e]
  have d:=J4 (p:=λy=>y==x) g hq;have l:=N7 (p:=λy=>y==x) g
  cases f:(v==x)with
  |true=>
   have j:=l f;exact Gy
  |false=>
   have b:=d f;refine Gz ?_
   all_goals (intro k y m j;simpa using b k y m j)
 .have s:=N8 hq a
  exact Gy
def tO(js:List J)(k:Int):Int:=((js[k.toNat]?).map J.parent).getD (-1)
def fN(js:List J):Nat->Int->List Int
 |0,_=>[]
 |f+1,k=>if k=-1 then[]else fN js f (tO js k)++[k]
theorem zg(b:rZ js){k:Int}(c:0<=k)(h1:k<js.length):∃j,js[k.toNat]?=some j/\tO js k=j.parent/\-1<=j.parent/\j.parent<k:=by
 have a:js[k.toNat]?=some (js[k.toNat]'(by omega)):=an _;have:=b _ _ a;unfold Dv at this;refine⟨_,a,by simp[tO,a],by omega,by omega⟩
theorem GI{js:List J}(e:rZ js):∀(f:Nat)(k:Int),-1<=k->k<js.length->(k+1).toNat<=f->fN js (f+1) k=fN js f k
 |0,k,g,d,hf=>by
  have:k=-1:=by omega
  subst this;simp[fN]
 |f+1,k,g,d,hf=>by
  by_cases c:k=-1
  .subst c;simp[fN]
  .obtain⟨j,_,hp,a,b⟩:=zg e (by omega) d
   rw[fN,L4 c,GI e f (tO js k) (by omega) (by omega) (by omega),fN,L4 c]
theorem GJ(c:rZ js)(e:js.length<=10){k:Int}(d:0<=k)(h1:k<js.length):fN js 11 k=fN js 11 (tO js k)++[k]:=by
 obtain⟨j,_,hp,a,b⟩:=zg c d h1;rw[fN,L4 (by omega),GI c 10 (tO js k) (by omega) (by omega) (by omega)]
theorem Du{js:List J}:∀(f:Nat)(k:Int),(fN js f k).length<=f
 |0,k=>by simp[fN]
 |f+1,k=>by
  have:=Du (js:=js) f (tO js k);rw[fN];split
  .simp
  .simp;omega
theorem SB(js:List J)(ms:List Ms)(l:Int)(I:js.length<=10)(K:ms.length<=9223372036854775807)(y:aD js ms=0)(D:cJ js.length l=true):aL 313 (gH js ms) (Z l) (zs (fN js 11 l)):=by
 have G:=sE js ms (by omega) K;have F:=xJ js ms l (by omega);rw[y]at G;rw[D]at F;obtain⟨B,_,_⟩:=tc y;simp only[cJ,An,Is]at D;refine Dp func313 λC hP hN=>?_;refine Gz ?_;refine WP.nilsl 5 (by simp) ?_;refine WP.loopN [26] (l+1).toNat (λi f=>∃(A:List Int)(k:Int),f.t 2=.ptr 2 0/\f.h 2=some (.box [.pv (.sl (js.map bj)),.pv (.sl (ms.map bN))] true false)/\f.t 5=.pv (zs A)/\f.t 6=.pv (Z k)/\f.h 26=none/\f.h 28=none/\fN js 11 k++A=fN js 11 l/\-1<=k/\k<js.length/\(k+1).toNat+i<=(l+1).toNat/\A.length<=i) ⟨[],l,by simp;omega⟩ ?_;rintro i f hi ⟨A,k,u,g,v,x,b,c,q,N,E,O,H⟩;by_cases a:k=-1
 .subst a
  have r:A=fN js 11 l:=by rw[<-q];simp[fN]
  subst r;exact Gy
 .obtain⟨j,o,hp,L,pb⟩:=zg B (by omega) E
  have d:(k != -1)=true:=by simp[a]
  obtain⟨n,rfl⟩:∃n:Nat,k=n:=⟨k.toNat,by omega⟩
  have m:n<js.length:=by omega
  have p:∀h,js[n]'h=j:=λh=>by rw[yAm,an h]at o;exact yAO o
  rw[yAm]at o;have s:=GJ B I (k:=n) (by omega) E;rw[s,yA8,hp]at q
  have z:A.length<=9:=by omega
  have M:(A.map Z).length=A.length:=by simp
  with_reducible iterate 8 any_goals (first|refine Sp.h ?_|((first|refine Wh [26] ?_|refine Ss.h ?_|(refine Sb.h ?_ ?_ ?_<;>(try intro hgd)<;>try exact Xy))<;>simp -implicitDefEqProofs (maxSteps:=2000000) [hP,hN,u,g,v,x,b,c,a,d,o,p,m,show(1+A.length)*8<=140737488355328 by omega,show(A.length+1)*8<=140737488355328 by omega,show 1+A.length<=9223372036854775807 by omega,show A.length+1<=9223372036854775807 by omega])|refine X2 ?_ ?_|(refine Xd ?_ ?_<;>intro hcd<;>try exact Xx))
  refine WP.freeze 5 (k:=26) (e:=3) (sz:=1) (fz:=0) (xs:=((n:Int)::A).map Z) (by simp) (by simp;omega) ?_;refine GT (zAc u g v x b c a d o (gA p m)) ?_;exact⟨by omega,(n:Int)::A,by simp,by simpa using q,L,by omega,by omega,by simp;omega⟩
def LK(js:List J)(a b:Int)(k:Nat):Bool:=kB (fN js 11 a) k !=kB (fN js 11 b) k
def qB(js:List J)(a b:Int)(n:Nat):List Int:=((List.range n).filter (LK js a b)).map Int.ofNat
theorem NW(js:List J)(a b:Int)(n:Nat):qB js a b (n+1)=qB js a b n++(if LK js a b n=true then[(n:Int)]else[]):=by
 simp only[qB,yBo,yBD,yBS]
 congr 1
 cases h:LK js a b n<;>simp[h]
theorem IM(js:List J)(a b:Int)(n:Nat):(qB js a b n).length<=n:=by
 simp only[qB,yAz];exact yBC (yB7 _ _) (by simp)
theorem WF(js:List J)(ms:List Ms)(a b:Int)(v:js.length<=10)(o:ms.length<=9223372036854775807)(m:aD js ms=0)(s:cJ js.length a=true)(u:cJ js.length b=true):jQ 268 (gH js ms) (Z a) (Z b) (zs (qB js a b js.length)):=by
 have D:=sE js ms (by omega) o;have z:=xJ js ms a (by omega);have B:=xJ js ms b (by omega);have G:=SB js ms a v o m s;have H:=SB js ms b v o m u;have I:=Du (js:=js) 11 a;have K:=Du (js:=js) 11 b;rw[m]at D;rw[s]at z;rw[u]at B;refine Dp func268 λC hP hN=>?_;refine rG [9] trivial ?_;refine WP.loopN [] js.length (λi d=>d.t 3=.ptr 3 0/\d.h 3=some (.box [.pv (.sl (js.map bj)),.pv (.sl (ms.map bN))] true false)/\d.t 7=.pv (zs (fN js 11 a))/\d.t 8=.pv (zs (fN js 11 b))/\d.t 10=.pv (Z i)/\d.t 9=.arr 9 (qB js a b i).length/\d.h 9=some (.row 3 1 ((qB js a b i).map Z) 0)) (by simp[qB]) ?_;rintro i d hi ⟨g3,g,p,q,f,r,j⟩;by_cases e:i<js.length
 .have x:=ai e (by omega)
  have hS:=NW js a b i;have hL:=IM js a b i;have hd:LK js a b i=(kB (fN js 11 a) i !=kB (fN js 11 b) i):=rfl;have k:=SA (fN js 11 a) i (by omega);have l:=SA (fN js 11 b) i (by omega)
  have c:(i:Int)<(js.length:Int):=by omega
  generalize fN js 11 a=A at *;generalize fN js 11 b=y at *;cases E:kB A i<;>cases F:kB y i<;>rw[E]at k hd<;>rw[F]at l hd<;>rw[hd]at hS<;>simp only[bne_self_eq_false,ZY,yAi,yBU,show(true !=false)=true from rfl,show(false !=true)=true from rfl,yAn]at hS
  all_goals (generalize qB js a b i=P at *;rw[hS])
  .skip
   exact Gy
  .skip
   with_reducible repeat' (first|refine Sp.h ?_|((first|refine Wd ?_|refine Ss.h ?_|refine Sc.h (k) ?_|refine Sc.h (l) ?_|(refine Sb.h ?_ ?_ ?_<;>(try intro hgd)<;>try exact Xy))<;>simp -implicitDefEqProofs (maxSteps:=2000000) [hP,hN,g3,g,p,q,f,r,j,e,c,x,show(P.length+1)*8<=140737488355328 by omega,show P.length<=9223372036854775806 by omega]<;>try refine Ya ?_)|refine X2 ?_ ?_|(refine Xd ?_ ?_<;>intro hcd<;>try exact Xx))
  .skip
   with_reducible repeat' (first|refine Sp.h ?_|((first|refine Wd ?_|refine Ss.h ?_|refine Sc.h (k) ?_|refine Sc.h (l) ?_|(refine Sb.h ?_ ?_ ?_<;>(try intro hgd)<;>try exact Xy))<;>simp -implicitDefEqProofs (maxSteps:=2000000) [hP,hN,g3,g,p,q,f,r,j,e,c,x,show(P.length+1)*8<=140737488355328 by omega,show P.length<=9223372036854775806 by omega]<;>try refine Ya ?_)|refine X2 ?_ ?_|(refine Xd ?_ ?_<;>intro hcd<;>try exact Xx))
  .skip
   exact Gy
 .have n:i=js.length:=by omega
  subst n;exact Gy
def pW(js:List J)(k:Nat):Bool:=match js[k]? with
 |some j=>decide (j.lo<j.hi)
 |none=>false
def wy(js:List J)(a b:Int):Bool:=(qB js a b js.length).all λk=>!pW js k.toNat
theorem WG(js:List J)(ms:List Ms)(a b:Int)(M:js.length<=10)(E:ms.length<=9223372036854775807)(y:aD js ms=0)(z:cJ js.length a=true)(A:cJ js.length b=true):jQ 207 (gH js ms) (Z a) (Z b) (B (wy js a b)):=by
 have H:=sE js ms (by omega) E;have F:=xJ js ms a (by omega);have G:=xJ js ms b (by omega);have S:=WF js ms a b M E y z A;have T:=IM js a b js.length;rw[y]at H;rw[z]at F;rw[A]at G;have hd:wy js a b=(qB js a b js.length).all λk=>!pW js k.toNat:=rfl
 have f:∀x∈qB js a b js.length,∃n:Nat,x=n/\n<js.length:=λx d=>by
  simp only[qB,yAt,yA5,yAJ]at d;obtain⟨n,N,rfl⟩:=d;exact⟨n,rfl,N.1⟩
 rw[hd];generalize qB js a b js.length=P at *;refine Dp func207 λC hP hN=>?_;refine Gz ?_;refine WP.loopN [] P.length (λi m=>m.t 3=.ptr 3 0/\m.h 3=some (.box [.pv (.sl (js.map bj)),.pv (.sl (ms.map bN))] true false)/\m.t 7=.pv (zs P)/\m.t 8=.pv (Z i)/\∀k x,k<i->P[k]?=some x->(!pW js x.toNat)=true) (by simp) ?_;rintro i m hi ⟨g3,I,O,Q,hq⟩;by_cases c:i<P.length
 .have R:=ai c (by omega)
  obtain⟨n,u,q⟩:=f P[i] (yAq c);generalize s:P[i]=v at *
  have d:P[i]?=some v:=by rw[an c,s]
  have r:=oA (p:=λk=>!pW js k.toNat) d hq;subst u;obtain⟨j,o⟩:∃j,js[n]?=some j:=⟨_,an q⟩
  have K:∀h,js[n]'h=j:=λh=>by rw[an h]at o;exact yAO o
  have g:pW js n=decide (j.lo<j.hi):=by simp[pW,o]
  by_cases D:j.lo<j.hi
  .have e:(P.all λk=>!pW js k.toNat)=false:=by
    rw[yBw];exact⟨_,In d,by simp[g,D]⟩
   exact Gy
  .have l:=r (by simp[g,D])
   refine Gz ?_
   all_goals (intro k x L d;simpa using l k x L d)
 .have e:(P.all λk=>!pW js k.toNat)=true:=ql hq c
  exact Gy
theorem WH(s:Sce)(a b:Int)(G:s.sks.length<=9223372036854775807):jQ 208 (dZ s) (Z a) (Z b) (B (ke s a b)):=by
 have q:ke s a b=s.sks.any (xM a b):=rfl;rw[q];refine Dp func208 λC hP hN=>?_;refine Gz ?_;refine WP.loopN [8] s.sks.length (λi f=>f.t 3=.ptr 3 0/\f.h 3=some (.box [.pv (.sl (s.js.map bj)),.pv (.sl (s.ms.map bN)),.pv (.sl (s.shs.map bU)),.pv (.sl (s.sks.map aA))] true false)/\f.t 1=.pv (Z a)/\f.t 2=.pv (Z b)/\f.t 7=.pv (Z i)/\f.h 8=none/\∀k x,k<i->s.sks[k]?=some x->xM a b x=false) (by simp) ?_;rintro i f hi ⟨g3,n,D,E,F,o,hq⟩;by_cases c:i<s.sks.length
 .have H:=ai c G
  have d:(i:Int)<(s.sks.length:Int):=by omega
  generalize l:s.sks[i]=v at *
  have g:s.sks[i]?=some v:=by rw[an c,l]
  have e:=J4 (p:=xM a b) g hq;have m:=N7 (p:=xM a b) g;have hp:xM a b v=((v.1==a&&v.2==b)||(v.1==b&&v.2==a)):=rfl;cases r:(v.1==a)<;>cases y:(v.2==b)<;>cases z:(v.1==b)<;>cases A:(v.2==a)<;>rw[r,y,z,A]at hp<;>simp only[yBj,yBm,yAG,Bool.or_false,Bool.false_or,Bool.or_self,Bool.or_true,Bool.true_or]at hp
  all_goals (first|(have j:=e hp;clear e m)|(have J:=m hp;clear e m))
  all_goals
   with_reducible repeat' (first|refine Sp.h ?_|((first|refine Ss.h ?_|(refine Sb.h ?_ ?_ ?_<;>(try intro hgd)<;>try exact Xy))<;>simp -implicitDefEqProofs (maxSteps:=2000000) [hP,hN,g3,n,D,E,F,o,c,d,H,g,l,r,y,z,A])|refine X2 ?_ ?_|(refine Xd ?_ ?_<;>intro hcd<;>try exact Xx))
  all_goals (first|exact λk u v I g=>j k (u,v) (by omega) g|exact⟨_,_,In g,hp⟩)
 .have:=N8 hq c
  have d:¬(i:Int)<(s.sks.length:Int):=by omega
  exact Gy
theorem EF(s:Sce)(hs:ScL s):aV 50 (dZ s) (Z (az s)):=by
 have cr:=sE s.js s.ms hs.js hs.ms;obtain⟨T,l2,l3,l4,l5⟩:=hs;by_cases J:aD s.js s.ms=0
 case neg=>
  have hf:az s=aD s.js s.ms:=by simp[az,J]
  have ad:(aD s.js s.ms !=0)=true:=by simp[J]
  rw[hf];generalize aD s.js s.ms=r at *;refine Dp func50 λC hP hN=>?_;exact Gy
 rw[J]at cr;by_cases Y:24<s.shs.length
 .have hf:az s=901:=by simp[az,J,Y]
  have Q:(24:Int)<s.shs.length:=by omega
  rw[hf];refine Dp func50 λC hP hN=>?_;exact Gy
 have Q:¬(24:Int)<s.shs.length:=by omega
 have hf:az s=if gl s.js.length s.shs≠0 then gl s.js.length s.shs else if 64<s.sks.length then 903 else if s.sks.all (jb s.js.length)=true then 0 else 903:=by simp only[az,J,Y,yAi,ne_eq,yBs]
 rw[hf];refine Dp func50 λC hP hN=>?_;refine Gz ?_;refine WP.loopN [5] s.shs.length (λi l=>l.t 1=.ptr 1 0/\l.h 1=some (.box [.pv (.sl (s.js.map bj)),.pv (.sl (s.ms.map bN)),.pv (.sl (s.shs.map bU)),.pv (.sl (s.sks.map aA))] true false)/\l.t 4=.pv (Z i)/\l.h 5=none/\∀k x,k<i->s.shs[k]?=some x->cW s.js.length x=0) (by simp) ?_;rintro i l hi ⟨F,q,O,G,hq⟩;by_cases g:i<s.shs.length
 .have hw:=ai g l3
  have m:(i:Int)<(s.shs.length:Int):=by omega
  have u:=wz (n:=s.js.length) g hq;have z:=λhe=>oA (p:=λx=>cW s.js.length x==0) (an g) (λk x E y=>by simp[hq k x E y]) he;generalize D:s.shs[i]=v at *
  have y:s.shs[i]?=some v:=by rw[an g,D]
  have X:=xJ s.js s.ms v.link T;have W:=Px v.rad 1 1048576;have lv:=l5 v (In y)
  cases E:cJ s.js.length v.link with
  |false=>
   have e:cW s.js.length v=902:=by simp[cW,E]
   have d:=u (by rw[e];decide);rw[e]at d;rw[E]at X;exact Gy
   all_goals simp[d]
  |true=>
   rw[E]at X
   cases M:bw v.rad 1 1048576 with
   |false=>
    have e:cW s.js.length v=902:=by
     unfold cW;rw[L4];simp only[bw]at M;simp only[An,Is];simp at M;omega
    have d:=u (by rw[e];decide);rw[e]at d;rw[M]at W;exact Gy
    all_goals simp[d]
   |true=>
    rw[M]at W;by_cases h3:(v.pts.length:Int)<1
    .have e:cW s.js.length v=902:=by
      unfold cW;rw[L4];simp only[An,Is];omega
     have d:=u (by rw[e];decide);rw[e]at d;exact Gy
     all_goals simp[d]
    by_cases h4:(8:Int)<v.pts.length
    .have e:cW s.js.length v=902:=by
      unfold cW;rw[L4];simp only[An,Is];omega
     have d:=u (by rw[e];decide);rw[e]at d;exact Gy
     all_goals simp[d]
    have ax:¬v.pts.length<1:=by omega
    have ay:¬8<v.pts.length:=by omega
    have e:cW s.js.length v=if v.pts.all (aG 4194304)=true then 0 else 805:=by
     unfold cW;rw[yAb];simp only[bw,An,Is]at M|-;exact⟨⟨⟨⟨E,by omega⟩,by omega⟩,by omega⟩,by omega⟩
    rw[e]at u z;refine Gz ?_;refine WP.loopN [] v.pts.length (λk l=>l.t 1=.ptr 1 0/\l.h 1=some (.box [.pv (.sl (s.js.map bj)),.pv (.sl (s.ms.map bN)),.pv (.sl (s.shs.map bU)),.pv (.sl (s.sks.map aA))] true false)/\l.t 4=.pv (Z i)/\l.t 5=.ptr 5 0/\l.h 5=some (.box [.pv (Z v.link),.pv (Z v.rad),.pv (bA v.pts)] true false)/\l.t 6=.pv (Z k)/\∀j x,j<k->v.pts[j]?=some x->aG 4194304 x=true) (by simp[F,q,O]) ?_;clear F q O G;rintro k l a2 ⟨F,q,O,g5,G,g6,hn⟩;by_cases H:k<v.pts.length
    .have a5:=ai H lv
     have L:(k:Int)<(v.pts.length:Int):=by omega
     generalize S:v.pts[k]=p at *
     have hy:v.pts[k]?=some p:=by rw[an H,S]
     have P:=xm p.1 p.2.1 p.2.2 4194304 (by decide) (by decide);have R:aG 4194304 p=fB p.1 p.2.1 p.2.2 4194304:=rfl;rw[<-R]at P;have N:=oA (p:=aG 4194304) hy hn
     cases A:aG 4194304 p with
     |true=>
      rw[A]at P;have o:=N A;refine Gz ?_
      all_goals (intro j a b c hj I;exact o j (a,b,c) (by omega) I)
     |false=>
      rw[A]at P
      have f:v.pts.all (aG 4194304)=false:=by
       rw[yBw];exact⟨p,In hy,by simp[A]⟩
      rw[f]at u;have d:=u (by decide);simp only[ZY,yAi]at d;exact Gy
      all_goals simp[d]
    .have f:v.pts.all (aG 4194304)=true:=ql hn H
     have L:¬(k:Int)<(v.pts.length:Int):=by omega
     rw[f]at z
     have o:∀k x,k<i+1->s.shs[k]?=some x->cW s.js.length x=0:=λk x E y=>by simpa using z (by simp) k x E y
     refine Gz ?_
     all_goals exact o
 .have hz:gl s.js.length s.shs=0:=oB (λk x y=>hq k x (by have:=(th.1 y).1;omega) y)
  have m:¬(i:Int)<(s.shs.length:Int):=by omega
  rw[hz];by_cases a1:64<s.sks.length
  .have K:(64:Int)<s.sks.length:=by omega
   exact Gy
  .have K:¬(64:Int)<s.sks.length:=by omega
   refine Gz ?_;refine WP.loopN [] s.sks.length (λi l=>l.t 1=.ptr 1 0/\l.h 1=some (.box [.pv (.sl (s.js.map bj)),.pv (.sl (s.ms.map bN)),.pv (.sl (s.shs.map bU)),.pv (.sl (s.sks.map aA))] true false)/\l.t 7=.pv (Z i)/\∀k x,k<i->s.sks[k]?=some x->jb s.js.length x=true) (by simp[F,q]) ?_;clear F q O G hq g m;rintro i l hi ⟨F,q,g7,hq⟩;by_cases g:i<s.sks.length
   .have hw:=ai g l4
    have m:(i:Int)<(s.sks.length:Int):=by omega
    generalize D:s.sks[i]=v at *
    have y:s.sks[i]?=some v:=by rw[an g,D]
    have z:=oA (p:=jb s.js.length) y hq;have hp:jb s.js.length v=(cJ s.js.length v.1&&cJ s.js.length v.2):=rfl;have U:=xJ s.js s.ms v.1 T;have V:=xJ s.js s.ms v.2 T
    cases A:jb s.js.length v with
    |true=>
     have B:=hp;rw[A]at B;simp only[Bool.true_eq,An]at B;rw[B.1]at U;rw[B.2]at V;have o:=z A;refine Gz ?_
     all_goals (intro j a b hj I;exact o j (a,b) (by omega) I)
    |false=>
     have f:s.sks.all (jb s.js.length)=false:=by
      rw[yBw];exact⟨v,In y,by simp[A]⟩
     rw[f];rw[A]at hp
     cases k1:cJ s.js.length v.1<;>cases k2:cJ s.js.length v.2<;>rw[k1]at U hp<;>rw[k2]at V hp<;>try (exact absurd hp (by decide))
     all_goals
      exact GS (zAb F q g7 g m hw y D)
   .have f:s.sks.all (jb s.js.length)=true:=ql hq g
    have m:¬(i:Int)<(s.sks.length:Int):=by omega
    rw[f];exact Gy
theorem XO(s:Sh)(G:s.pts.length<=9223372036854775807):aV 265 (bU s) (B (gc s)):=by
 have hd:gc s=(decide (1<=s.rad)&&decide (s.rad<=1048576)&&decide (1<=s.pts.length)&&decide (s.pts.length<=8)&&s.pts.all (aG 4194304)):=rfl;by_cases E:s.rad<1\/1048576<s.rad\/(s.pts.length:Int)<1\/(8:Int)<s.pts.length
 .have hf:gc s=false:=by
   cases h:gc s with
   |false=>rfl
   |true=>
    rw[hd]at h;simp only[An,Is]at h;omega
  rw[hf];rcases E with l|l|l|l
  all_goals
   refine Dp func265 λC hP hN=>?_;exact Gy
 have l:¬s.rad<1:=by omega
 have J:¬1048576<s.rad:=by omega
 have K:¬(s.pts.length:Int)<1:=by omega
 have L:¬(8:Int)<s.pts.length:=by omega
 have z:¬s.pts.length<1:=by omega
 have A:¬8<s.pts.length:=by omega
 have hf:gc s=s.pts.all (aG 4194304):=by
  rw[hd,yAF (by omega),yAF (by omega),yAF (by omega),yAF (by omega)];rfl
 rw[hf];refine Dp func265 λC hP hN=>?_;refine Gz ?_;refine WP.loopN [] s.pts.length (λk n=>n.t 1=.ptr 1 0/\n.h 1=some (.box [.pv (Z s.link),.pv (Z s.rad),.pv (bA s.pts)] true false)/\n.t 3=.pv (Z k)/\∀j x,j<k->s.pts[j]?=some x->aG 4194304 x=true) (by simp) ?_;rintro k n F ⟨I,D,g3,v⟩;by_cases d:k<s.pts.length
 .have H:=ai d G
  have f:(k:Int)<(s.pts.length:Int):=by omega
  generalize u:s.pts[k]=p at *
  have y:s.pts[k]?=some p:=by rw[an d,u]
  have o:=xm p.1 p.2.1 p.2.2 4194304 (by decide) (by decide);have q:aG 4194304 p=fB p.1 p.2.1 p.2.2 4194304:=rfl;rw[<-q]at o;have i:=oA (p:=aG 4194304) y v
  cases m:aG 4194304 p with
  |true=>
   rw[m]at o;have g:=i m;refine Gz ?_
   all_goals (intro j a b c M r;exact g j (a,b,c) (by omega) r)
  |false=>
   rw[m]at o
   have e:s.pts.all (aG 4194304)=false:=by
    rw[yBw];exact⟨p,In y,by simp[m]⟩
   exact Gy
 .have e:s.pts.all (aG 4194304)=true:=ql v d
  have f:¬(k:Int)<(s.pts.length:Int):=by omega
  exact Gy
theorem XP(h:Sh)(p:jP)(hs:gc h=true):aL 206 (bU h) (bO p) (aU (dp h p)):=by
 have D:h.pts.length<=8:=by
  simp only[gc,An,Is]at hs;omega
 have cc:=XO h (by omega);rw[hs]at cc;have c:dp h p=h.pts.map λq=>gE p (dm q):=rfl;have u:∀v:aq,aO prog 266 [.pv (bO p),.pv (bL v)] [] [] (.pv (bL (gE p v))):=λv=>XM;have x:∀q:Vc,aO prog 267 [.pv (aW q)] [] [] (.pv (bL (dm q))):=λq=>Td q.1 q.2.1 q.2.2;have l:(bO p).cells=[Z p.1.1.1.1,Z p.1.1.1.2,Z p.1.1.2.1.1,Z p.1.1.2.1.2,Z p.1.1.2.2.1,Z p.1.1.2.2.2,Z p.1.2.1.1.1,Z p.1.2.1.1.2,Z p.1.2.1.2.1.1,Z p.1.2.1.2.1.2,Z p.1.2.1.2.2.1,Z p.1.2.1.2.2.2,Z p.1.2.2.1.1,Z p.1.2.2.1.2,Z p.1.2.2.2.1.1,Z p.1.2.2.2.1.2,Z p.1.2.2.2.2.1,Z p.1.2.2.2.2.2,Z p.2.1.1,Z p.2.1.2,Z p.2.2.1.1,Z p.2.2.1.2,Z p.2.2.2.1,Z p.2.2.2.2]:=rfl;refine Dp func206 λC hP hN=>?_;refine rG [5] trivial ?_;refine WP.loopN [] h.pts.length (λi d=>d.t 2=.ptr 2 0/\d.t 3=.ptr 3 0/\d.h 2=some (.box [.pv (Z h.link),.pv (Z h.rad),.pv (bA h.pts)] true false)/\d.h 3=some (.box ((bO p).cells.map .pv) true false)/\d.t 6=.pv (Z i)/\d.t 5=.arr 5 i/\d.h 5=some (.row 281 6 (((dp h p).map bL).take i) 0)) (by simp) ?_;rintro i d hi ⟨n,g3,j,e,r,o,f⟩
 have m:min i (dp h p).length=i:=by rw[c,yAz];omega
 by_cases b:i<h.pts.length
 .have A:=ai b (by omega)
  have a:(i:Int)<(h.pts.length:Int):=by omega
  generalize k:h.pts[i]=q at *
  have s:h.pts[i]?=some q:=by rw[an b,k]
  have hS:((dp h p).map bL).take (i+1)=((dp h p).map bL).take i++[bL (gE p (dm q))]:=by
   rw[List.take_succ,ZW,c,ZW,s];rfl
  have y:=x q;have z:=u (dm q);rw[hS]
  have hL:(((dp h p).map bL).take i).length=i:=by simp[m]
  generalize((dp h p).map bL).take i=R at *;generalize gE p (dm q)=B at *;generalize dm q=w at *;rw[l]at e
  with_reducible repeat' (first|refine Sp.h ?_|((first|refine Wd ?_|refine Ss.h ?_|refine Sc.h (y) ?_|refine Sc.h (z) ?_|(refine Sb.h ?_ ?_ ?_<;>(try intro hgd)<;>try exact Xy))<;>simp -implicitDefEqProofs (maxSteps:=2000000) [hP,hN,n,g3,j,e,r,o,f,b,a,s,k,A,hL,show(i+1)*48<=140737488355328 by omega,show i<=9223372036854775806 by omega]<;>try refine Ya ?_)|refine X2 ?_ ?_|(refine Xd ?_ ?_<;>intro hcd<;>try exact Xx))
 .have a:¬(i:Int)<(h.pts.length:Int):=by omega
  have g:((dp h p).map bL).take i=(dp h p).map bL:=yAu (by rw[yAz,c,yAz];omega);rw[g]at f
  have hL:(dp h p).length=i:=by rw[c,yAz];omega
  with_reducible repeat' (first|refine Sp.h ?_|((first|refine Wd ?_|refine Ss.h ?_|(refine Sb.h ?_ ?_ ?_<;>(try intro hgd)<;>try exact Xy))<;>simp -implicitDefEqProofs (maxSteps:=2000000) [hP,hN,n,g3,j,e,r,o,f,b,a,hL]<;>try refine Ya ?_)|refine X2 ?_ ?_|(refine Xd ?_ ?_<;>intro hcd<;>try exact Xx))
theorem Ko(h:de x=false):x.1< -268435456\/x.2<x.1\/268435456<x.2:=by
 by_cases a:x.1< -268435456\/x.2<x.1\/268435456<x.2
 .exact a
 .have:de x=true:=by rw[eO];omega
  rw[h]at this;cases this
theorem EO{x0 x1 x2 x3 x4 x5:Int}:aV 301 (V6 x0 x1 x2 x3 x4 x5) (B (dj ((x0,x1),(x2,x3),(x4,x5)))):=by
 have hd:dj ((x0,x1),(x2,x3),(x4,x5))=(de (x0,x1)&&de (x2,x3)&&de (x4,x5)):=rfl;rw[hd];obtain⟨m,b⟩:∃m:Nat,m=(if de (x0,x1)then(if de (x2,x3)then(if de (x4,x5)then 3 else 2)else 1)else 0):=⟨_,rfl⟩;refine Dp func301 λC hP hN=>?_;refine Gz ?_;refine WP.loopN [] 3 (λk c=>c.t 1=.ptr 1 0/\c.h 1=some (.box [.pv (Z x0),.pv (Z x1),.pv (Z x2),.pv (Z x3),.pv (Z x4),.pv (Z x5)] true false)/\c.t 3=.pv (Z k)/\k<=m) (by simp) ?_;rintro k c j ⟨r,i,g3,l⟩;cases d:de (x0,x1)<;>rw[d]at b
 .simp only[ZY,yAi]at b
  have:k=0:=by omega
  subst this;have a:=Ko d;simp only at a;rcases a with q|q|q
  all_goals
   exact Gy
 simp only[yAn]at b;have n:=eO.1 d;simp only at n;cases e:de (x2,x3)<;>rw[e]at b
 .simp only[ZY,yAi]at b
  have g:k=0\/k=1:=by omega
  rcases g with rfl|rfl
  .skip
   exact Gy
   all_goals omega
  .have a:=Ko e
   simp only at a;rcases a with q|q|q
   all_goals
    exact Gy
 simp only[yAn]at b;have o:=eO.1 e;simp only at o;cases f:de (x4,x5)<;>rw[f]at b
 .simp only[ZY,yAi]at b
  have g:k=0\/k=1\/k=2:=by omega
  rcases g with rfl|rfl|rfl
  .skip
   exact Gy
   all_goals omega
  .skip
   exact Gy
   all_goals omega
  .have a:=Ko f
   simp only at a;rcases a with q|q|q
   all_goals
    exact Gy
 simp only[yAn]at b;have p:=eO.1 f;simp only at p;rcases gx j with rfl|rfl|rfl|rfl
 .skip
  exact Gy
  all_goals omega
 .skip
  exact Gy
  all_goals omega
 .skip
  exact Gy
  all_goals omega
 .skip
  exact Gy
theorem Ti(v:aq):aV 301 (bL v) (B (dj v)):=EO
theorem xX(xs:List aq)(O:xs.length<=9223372036854775807):aV 244 (aU xs) (B (aw xs)):=by
 by_cases K:xs.length<=8
 .have PX:∀i:Nat,i<xs.length->i64.wrap ((i:Int)+1)=(i:Int)+1:=λi h=>aa (by omega) (by omega)
  refine Dp func244 λC hP hN=>?_;refine Gz ?_;refine WP.loopN [] xs.length (λi o=>o.t 0=.pv (aU xs)/\o.t 3=.pv (Z i)/\∀k x,k<i->xs[k]?=some x->dj x=true) (by simp) ?_;rintro i o hi ⟨I,g3,hq⟩;by_cases g:i<xs.length
  .have L:=PX i g
   have m:(i:Int)<(xs.length:Int):=by omega
   have D:(i:Int)<=8:=by omega
   have s:i<=8:=by omega
   generalize n:xs[i]=v at *
   have G:xs[i]?=some v:=by rw[an g,n]
   have y:=Ti v;have F:=oA (p:=dj) G hq
   cases q:dj v with
   |true=>
    rw[q]at y;have u:=F q;refine Gz ?_
    all_goals exact λk a b c d e f N H=>u k ((a,b),(c,d),(e,f)) (by omega) H
   |false=>
    rw[q]at y
    have j:xs.all dj=false:=by
     rw[yBw];exact⟨v,In G,by simp[q]⟩
    have l:aw xs=false:=by simp[aw,j]
    rw[l];exact Gy
  .have j:xs.all dj=true:=ql hq g
   have m:¬(i:Int)<(xs.length:Int):=by omega
   have l:aw xs=decide (1<=xs.length):=by
    rw[aw,j,yAF K,yBz,yBz]
   rw[l];by_cases J:1<=xs.length
   .have r:(1:Int)<=(xs.length:Int):=by omega
    have z:(xs.length:Int)<=8:=by omega
    exact Gy
   .have r:¬(1:Int)<=(xs.length:Int):=by omega
    exact Gy
 .have l:aw xs=false:=by
   cases h:aw xs with
   |false=>rfl
   |true=>simp only[aw,An,Is]at h;omega
  rw[l];refine Dp func244 λC hP hN=>?_;refine Gz ?_;refine WP.loopN [] 9 (λi o=>o.t 0=.pv (aU xs)/\o.t 3=.pv (Z i)) (by simp) ?_;rintro i o hi ⟨I,g3⟩
  have g:i<xs.length\/i=9:=by omega
  by_cases D:i<=8
  .have g:i<xs.length:=by omega
   have L:i64.wrap ((i:Int)+1)=(i:Int)+1:=aa
   have m:(i:Int)<(xs.length:Int):=by omega
   have s:(i:Int)<=8:=by omega
   generalize n:xs[i]=v at *
   have G:xs[i]?=some v:=by rw[an g,n]
   have y:=Ti v;cases q:dj v<;>rw[q]at y
   .skip
    exact Gy
   .skip
    refine Gz ?_
    all_goals omega
  .have E:i=9:=by omega
   subst E
   have z:¬(xs.length:Int)<=8:=by omega
   have r:(1:Int)<=(xs.length:Int):=by omega
   have J:1<=xs.length:=by omega
   by_cases M:(9:Int)<(xs.length:Int)
   .have A:9<xs.length:=by omega
    exact Gy
   .have A:¬9<xs.length:=by omega
    exact Gy
theorem Tj(x:Iv):f7 x=tP x:=by
 unfold f7 tP;split
 .rename_i h
  have h:=bm.1 h;rw[aa (by omega) (by omega),Int.fdiv_eq_ediv_of_nonneg _ (by decide)]
 .rfl
theorem DL(xs:List aq)(r:xs.length<=9223372036854775807):aV 178 (aU xs) (bA (bc xs)):=by
 have n:=xX xs r
 cases hp:aw xs with
 |false=>
  rw[hp]at n
  have g:bc xs=[]:=by simp[bc,hp]
  rw[g];refine Dp func178 λC hP hN=>?_;exact Gy
 |true=>
  rw[hp]at n
  have u:xs.length<=8:=by
   simp only[aw,An,Is]at hp;omega
  have g:bc xs=xs.map my:=by simp[bc,hp]
  rw[g];refine Dp func178 λC hP hN=>?_;refine rG [3] trivial ?_;refine WP.loopN [] xs.length (λi f=>f.t 0=.pv (aU xs)/\f.t 4=.pv (Z i)/\f.t 3=.arr 3 i/\f.h 3=some (.row 84 3 (((xs.map my).map aW).take i) 0)) (by simp) ?_;rintro i f hi ⟨p,q,g3,d⟩
  have j:min i xs.length=i:=by omega
  by_cases c:i<xs.length
  .have s:=ai c (by omega)
   have a:(i:Int)<(xs.length:Int):=by omega
   generalize e:xs[i]=v at *
   have o:xs[i]?=some v:=by rw[an c,e]
   have k:=SV v.1;have l:=SV v.2.1;have m:=SV v.2.2;rw[Tj]at k l m
   have hS:((xs.map my).map aW).take (i+1)=((xs.map my).map aW).take i++[aW (tP v.1,tP v.2.1,tP v.2.2)]:=by
    rw[List.take_succ,ZW,ZW,o];rfl
   rw[hS]
   have hL:(((xs.map my).map aW).take i).length=i:=by simp[j]
   generalize((xs.map my).map aW).take i=R at *
   with_reducible repeat' (first|refine Sp.h ?_|((first|refine Wd ?_|refine Ss.h ?_|refine Sc.h (k) ?_|refine Sc.h (l) ?_|refine Sc.h (m) ?_|(refine Sb.h ?_ ?_ ?_<;>(try intro hgd)<;>try exact Xy))<;>simp -implicitDefEqProofs (maxSteps:=2000000) [hP,hN,p,q,g3,d,c,a,o,e,s,hL,show(i+1)*24<=140737488355328 by omega,show i<=9223372036854775806 by omega]<;>try refine Ya ?_)|refine X2 ?_ ?_|(refine Xd ?_ ?_<;>intro hcd<;>try exact Xx))
  .have a:¬(i:Int)<(xs.length:Int):=by omega
   have b:((xs.map my).map aW).take i=(xs.map my).map aW:=yAu (by simp;omega);rw[b]at d
   have hL:xs.length=i:=by omega
   exact Gy
theorem Tk(js:List J)(ms:List Ms)(bx:List Iv)(d:js.length<=9223372036854775807)(a:bx.length<=9223372036854775807):aL 132 (gH js ms) (iv bx) (B (iw js bx)):=by
 have hd:iw js bx=(decide (bx.length=js.length)&&au vI bx):=rfl;have c:=gr bx a;by_cases h:bx.length=js.length
 .rw[hd,yAF h,yAs]
  have b:((bx.length:Int)==(js.length:Int))=true:=by simp[h]
  generalize au vI bx=r at *;refine Dp func132 λC hP hN=>?_;exact Gy
 .rw[hd,yA4 h,yAG]
  have b:((bx.length:Int)==(js.length:Int))=false:=by simp;omega
  refine Dp func132 λC hP hN=>?_;exact Gy
set_option maxRecDepth 4000 in
theorem XQ(js:List J)(ms:List Ms)(bx:List Iv)(hm:ms.length<=9223372036854775807)(h0:aD js ms=0)(G:iw js bx=true):aL 204 (gH js ms) (iv bx) (.sl ((ij js bx).map bO)):=by
 obtain⟨hj,hl,_⟩:=tc h0;have hb:=(vX.1 G).1;have cr:=sE js ms (by omega) hm;have cb:=Tk js ms bx (by omega) (by omega);rw[h0]at cr;rw[G]at cb;have Q:(ij js bx).length=js.length:=kD hb _ (yAd _);have S:=λi j v(h1:js[i]?=some j)(h2:bx[i]?=some v)=>GV hb h1 h2 (hj i j h1);generalize ij js bx=l at *;generalize A:l.map bO=e at *
 have ax:e.length=js.length:=by rw[<-A];simpa using Q
 have D:∀k p,l[k]?=some p->e[k]?=some (bO p):=λk p h=>by rw[<-A,ZW,h];rfl
 refine Dp func204 λC hP hN=>?_;refine rG [5] trivial ?_;refine WP.loopN [7] bx.length (λi m=>m.t 2=.ptr 2 0/\m.h 2=some (.box [.pv (.sl (js.map bj)),.pv (.sl (ms.map bN))] true false)/\m.t 1=.pv (iv bx)/\m.t 6=.pv (Z i)/\m.h 7=none/\m.t 5=.arr 5 i/\m.h 5=some (.row 283 24 (e.take i) 0)) (by simp) ?_;rintro i m hi ⟨N,n,M,P,o,O,f⟩
 have g:(e.take i).length=i:=by simp;omega
 by_cases c:i<bx.length
 .have hw:=ai c (by omega)
  have u:i<js.length:=by omega
  have d:(i:Int)<(bx.length:Int):=by omega
  generalize z:js[i]=j at *
  have L:js[i]?=some j:=by rw[an u,z]
  generalize y:bx[i]=v at *
  have hv:bx[i]?=some v:=by rw[an c,y]
  obtain⟨⟨U,V⟩,ay,a1⟩:=hj i j L;have cj:=XN (a:=v.1) (b:=v.2) j U V;have F:=S i j v L hv;generalize hq:kQ j (v.1,v.2)=q at *
  have key:∀x,l[i]?=some x->e.take (i+1)=e.take i++[bO x]:=λx ad=>by
   rw[List.take_succ,D i x ad];rfl
  by_cases K:j.parent=-1
  .rw[yAb K]at F
   have k1:=key q F;rw[k1]
   have r:(j.parent != -1)=false:=by simp[K]
   generalize e.take i=R at *;exact GS (zAe N n M P o O f g u c d hw L z (it hv y r (show(i+1)*192<=140737488355328 by omega) (show i<=9223372036854775806 by omega)))
  .rw[L4 K]at F
   obtain⟨p,hp⟩:∃p:Nat,j.parent=p:=⟨j.parent.toNat,by omega⟩
   have r:(j.parent != -1)=true:=by simp[K]
   have W:(0:Int)<=j.parent:=by omega
   have I:j.parent.toNat=p:=by omega
   have H:p<i:=by omega
   have Y:p<l.length:=by omega
   have B:l[p]?=some l[p]:=an Y;rw[I,B,yAl]at F
   have E:(e.take i)[p]?=some (bO l[p]):=by rw[yAw,yAb H];exact D p _ B
   have T:=uC E;generalize l[p]=pp at *;have k1:=key _ F;rw[k1];have cc:aO prog 263 [.pv (bO pp),.pv (bO q)] [] [] (.pv (bO (mw pp q))):=xW;generalize mw pp q=a2 at *;generalize e.take i=R at *
   have X:p<R.length:=by omega
   exact GS (zAe N n M P o O f g u c d hw L z (zAc hv y r W I H E T X (gA (show(i+1)*192<=140737488355328 by omega) (show i<=9223372036854775806 by omega))))
 .have s:e.take i=e:=yAu (by omega)
  have d:¬(i:Int)<(bx.length:Int):=by omega
  rw[s]at f g;exact GS (zAc N n M P o O f c d g)
set_option maxRecDepth 4000 in
theorem XR(s:Sce)(bx:List Iv)(hs:ScL s)(z:az s=0)(n:iw s.js bx=true):aL 133 (dZ s) (iv bx) (.sl ((bQ s bx).map aU)):=by
 have cc:=EF s hs;rw[z]at cc
 have hr:aD s.js s.ms=0:=by
  unfold az at z;split at z
  .rename_i h;exact absurd z h
  .rename_i h;simpa using h
 obtain⟨v1,v2,v3,v4,v5,v6,v7⟩:=nK z;have M:=(vX.1 n).1;have W:=Tk s.js s.ms bx hs.js (by omega);have cl:=XQ s.js s.ms bx hs.ms hr n;rw[n]at W;have X:(ij s.js bx).length=s.js.length:=kD M _ (yAd _);have D:bQ s bx=s.shs.map λh=>dp h (fP (ij s.js bx) h):=rfl;rw[D];generalize ij s.js bx=b at *;generalize j:(s.shs.map λh=>dp h (fP b h)).map aU=d
 have Y:d.length=s.shs.length:=by rw[<-j];simp
 have B:∀k h,s.shs[k]?=some h->d[k]?=some (aU (dp h (fP b h))):=λk q hk=>by rw[<-j,ZW,ZW,hk];rfl
 refine Dp func133 λC hP hN=>?_;refine rG [6] trivial ?_;refine WP.loopN [8] s.shs.length (λi g=>g.t 2=.ptr 2 0/\g.h 2=some (.box [.pv (.sl (s.js.map bj)),.pv (.sl (s.ms.map bN)),.pv (.sl (s.shs.map bU)),.pv (.sl (s.sks.map aA))] true false)/\g.t 5=.pv (.sl (b.map bO))/\g.t 7=.pv (Z i)/\g.h 8=none/\g.t 6=.arr 6 i/\g.h 6=some (.row 146 1 (d.take i) 0)) (by simp) ?_;rintro i g hi ⟨I,l,J,L,m,K,e⟩
 have f:(d.take i).length=i:=by simp;omega
 by_cases c:i<s.shs.length
 .have U:=ai c (by omega)
  have a:(i:Int)<(s.shs.length:Int):=by omega
  generalize x:s.shs[i]=h at *
  have F:s.shs[i]?=some h:=by rw[an c,x]
  have hm:=In F;obtain⟨N,Q⟩:=v6 h hm;simp only[cJ,An,Is]at N;have T:=λp=>XP h p Q
  have k2:d.take (i+1)=d.take i++[aU (dp h (fP b h))]:=by rw[List.take_succ,B i h F];rfl
  rw[k2];clear B j D;by_cases y:h.link=-1
  .have o:(h.link==-1)=true:=by simp[y]
   have r:(h.link != -1)=false:=by simp[y]
   have v:fP b h=fO:=by simp[fP,y]
   rw[v];have G:=T fO;have H:=OH;generalize dp h fO=pl at *;generalize fO=S at *;generalize d.take i=R at *;exact GS (zAe I l J L m K e f c a U F x o (be r (show(i+1)*24<=140737488355328 by omega) (show i<=9223372036854775806 by omega)))
  .have o:(h.link==-1)=false:=by simp[y]
   have r:(h.link != -1)=true:=by simp[y]
   have O:(0:Int)<=h.link:=by omega
   obtain⟨p,hp⟩:∃p:Nat,h.link.toNat=p:=⟨_,rfl⟩
   have E:p<b.length:=by omega
   have A:b[p]?=some b[p]:=an E
   have v:fP b h=b[p]:=by simp only[fP,L4 y,hp,A,yAl]
   rw[v];generalize P:b[p]=V at *;have G:=T V;have H:=OH;generalize dp h V=pl at *;generalize fO=S at *;generalize d.take i=R at *;exact GS (zAe I l J L m K e f c a U F x o (zAb r O hp E A P (show(i+1)*24<=140737488355328 by omega) (show i<=9223372036854775806 by omega)))
 .have u:d.take i=d:=yAu (by omega)
  have a:¬(i:Int)<(s.shs.length:Int):=by omega
  rw[u]at e f;exact GS (zAc I l J L m K e c a f)
theorem XS(n:Nat)(hn:n<4611686018427387904):aV 331 (Z n) (Z (fh n)):=by
 by_cases F:n=0
 .subst F
  have hs:fh 0=0:=by decide +kernel
  rw[hs];refine Dp func331 λC hP hN=>?_;exact Gy
 have I:¬(n:Int)<1:=by omega
 have x:¬n<1:=by omega
 have o:=r9 (n:=n) (by omega);refine Dp func331 λC hP hN=>?_;refine Gz ?_;refine WP.loopN [] 32 (λi p=>∃lo hi:Nat,p.t 0=.pv (Z n)/\p.t 3=.pv (Z lo)/\p.t 4=.pv (Z hi)/\1<=lo/\lo<hi/\hi<=4294967296/\lo*lo<=n/\n<hi*hi/\hi-lo<=2^(32-i)) ⟨1,4294967296,by simp;omega⟩ ?_;rintro i p hi ⟨lo,a,s,g3,u,b1,b2,b3,b4,b5,b6⟩;have y:i64.wrap ((a:Int)-(lo:Int))=((a-lo:Nat):Int):=(aa (by omega) (by omega)).trans (by omega);by_cases v:1<a-lo
 .have f:i<32:=by
   by_cases h:i<32
   .exact h
   .have:i=32:=by omega
    subst this;simp at b6;omega
  have hp:2^(32-i)=2*2^(31-i):=by
   rw[show 32-i=(31-i)+1 by omega,yCf];omega
  rw[hp]at b6;obtain⟨m,K⟩:∃m:Nat,m=lo+(a-lo)/2:=⟨_,rfl⟩
  have k:(1:Int)<((a-lo:Nat):Int):=by omega
  obtain⟨hf,H⟩:∃hf:Nat,hf=(a-lo)/2:=⟨_,rfl⟩
  have z:i64.wrap ((((a-lo:Nat):Int)).tdiv 2)=(hf:Int):=by
   rw[yAp (by omega)];exact(aa (by omega) (by omega)).trans (by omega)
  have A:i64.wrap ((lo:Int)+(hf:Int))=(m:Int):=(aa (by omega) (by omega)).trans (by omega)
  have l:0<m:=by omega
  have g:¬(m:Int)=0:=by omega
  have c:¬m=0:=by omega
  obtain⟨j,d⟩:∃j:Nat,j=n/m:=⟨_,rfl⟩
  have J:j<=n:=by rw[d];exact Nat.div_le_self n m
  have B:i64.wrap ((n:Int).tdiv (m:Int))=(j:Int):=by
   rw[yAp (by omega),<-Int.natCast_ediv,<-d];exact aa (by omega) (by omega)
  have D:i64.wrap (((a-lo:Nat):Int)/2)=(hf:Int):=(aa (by omega) (by omega)).trans (by omega)
  have E:i64.wrap ((n:Int)/(m:Int))=(j:Int):=by
   rw[<-Int.natCast_ediv,<-d];exact aa (by omega) (by omega)
  by_cases e:m<=j
  .have r:m*m<=n:=(Nat.le_div_iff_mul_le l).1 (d▸e)
   have b:(m:Int)<=(j:Int):=by omega
   with_reducible repeat' (first|refine Sp.h ?_|((first|refine Ss.h ?_|(refine Sb.h ?_ ?_ ?_<;>(try intro hgd)<;>try exact Xy))<;>simp -implicitDefEqProofs (maxSteps:=2000000) [hP,hN,s,g3,u,y,z,A,B,D,E,v,k,g,c,e,b])|refine X2 ?_ ?_|(refine Xd ?_ ?_<;>intro hcd<;>try exact Xx))
   exact⟨f,m,rfl,a,rfl,by omega,by omega,by omega,by omega,by omega,by omega⟩
  .have r:n<m*m:=by
    rcases Nat.lt_or_ge n (m*m)with h|h
    .exact h
    .exact absurd (d▸(Nat.le_div_iff_mul_le l).2 h) e
   have b:¬(m:Int)<=(j:Int):=by omega
   with_reducible repeat' (first|refine Sp.h ?_|((first|refine Ss.h ?_|(refine Sb.h ?_ ?_ ?_<;>(try intro hgd)<;>try exact Xy))<;>simp -implicitDefEqProofs (maxSteps:=2000000) [hP,hN,s,g3,u,y,z,A,B,D,E,v,k,g,c,e,b])|refine X2 ?_ ?_|(refine Xd ?_ ?_<;>intro hcd<;>try exact Xx))
   exact⟨f,lo,rfl,m,rfl,by omega,by omega,by omega,by omega,by omega,by omega⟩
 .have q:a=lo+1:=by omega
  subst q;have G:lo=fh n:=LQ b4 b5 o.1 o.2
  have k:¬(1:Int)<((lo+1-lo:Nat):Int):=by omega
  exact Gy
  all_goals simp[G]
theorem XT(n:Nat)(hn:n<4611686018427387904):aV 300 (Z n) (Z (pG n)):=by
 have f:=XS n hn;have e:=r9 (n:=n) (by omega);have d:=HX hn
 have hd:pG n=if fh n*fh n<n then fh n+1 else fh n:=rfl
 have i:i64.wrap ((fh n:Int)*(fh n:Int))=((fh n*fh n:Nat):Int):=by
  rw[<-Int.natCast_mul];exact aa (by omega) (by omega)
 have j:i64.wrap ((fh n:Int)+1)=((fh n+1:Nat):Int):=(aa (by omega) (by omega)).trans (by omega);rw[hd];generalize fh n=r at *;by_cases g:0<n
 .have a:(0:Int)<(n:Int):=by omega
  by_cases c:r*r<n
  .have b:((r*r:Nat):Int)<(n:Int):=by omega
   rw[yAb c];refine Dp func300 λC hP hN=>?_;exact Gy
  .have b:¬((r*r:Nat):Int)<(n:Int):=by omega
   rw[L4 c];refine Dp func300 λC hP hN=>?_;exact Gy
 .have a:¬(0:Int)<(n:Int):=by omega
  rw[L4 (by omega)];refine Dp func300 λC hP hN=>?_;exact Gy
theorem Tl(v:Vc):aV 242 (aW v) (Z (eH v)):=by
 have e:=Ds v;rw[uy]at e
 cases c:bB v with
 |false=>
  rw[c]at e
  have f:eH v=0:=by simp[eH,c]
  rw[f];refine Dp func242 λC hP hN=>?_;exact Gy
 |true=>
  rw[c]at e
  have d:aG 16384 v=true:=by simp only[bB,An]at c;exact c.1
  have hs:=GW d
  have f:eH v=(pG (oK v):Int):=by simp[eH,c]
  have g:=XT (oK v) (by omega);have i:=zl (dJ.1 d).1;have j:=zl (dJ.1 d).2.1;have k:=zl (dJ.1 d).2.2;have o:=cT (a:=v.1) (b:=v.1) 16384 16384 (by omega) (by omega) (by omega) (by omega);have p:=cT (a:=v.2.1) (b:=v.2.1) 16384 16384 (by omega) (by omega) (by omega) (by omega);have q:=cT (a:=v.2.2) (b:=v.2.2) 16384 16384 (by omega) (by omega) (by omega) (by omega);have l:=mv v.1;have m:=mv v.2.1;have n:=mv v.2.2;have r:i64.wrap (v.1*v.1)=v.1*v.1:=aa;have s:i64.wrap (v.2.1*v.2.1)=v.2.1*v.2.1:=aa;have u:i64.wrap (v.2.2*v.2.2)=v.2.2*v.2.2:=aa;have x:i64.wrap (v.1*v.1+v.2.1*v.2.1)=v.1*v.1+v.2.1*v.2.1:=aa;have y:i64.wrap (v.1*v.1+v.2.1*v.2.1+v.2.2*v.2.2)=(oK v:Int):=(aa (by omega) (by omega)).trans (by unfold oK;omega);rw[f];refine Dp func242 λC hP hN=>?_;exact Gy
theorem P1{c d e x0 x1 x2 x3 x4 x5:Int}(m:bB (c,d,e)=true)(n:dj ((x0,x1),(x2,x3),(x4,x5))=true):aL 365 (aW (c,d,e)) (V6 x0 x1 x2 x3 x4 x5) (.tup [Z (d9 (c,d,e) ((x0,x1),(x2,x3),(x4,x5))),Z (ed (c,d,e) ((x0,x1),(x2,x3),(x4,x5)))]):=by
 have p:=Ds (c,d,e);rw[uy,m]at p;have o:=EO (x0:=x0) (x1:=x1) (x2:=x2) (x3:=x3) (x4:=x4) (x5:=x5);rw[n]at o
 have z:aG 16384 (c,d,e)=true:=by simp only[bB,An]at m;exact m.1
 have i:=dJ.1 z;have j:=fY.1 n;have m0:=uD i.1 j.1;have m1:=uD i.2.1 j.2.1;have m2:=uD i.2.2 j.2.2;simp only[oC,oD]at m0 m1 m2;have l:d9 (c,d,e) ((x0,x1),(x2,x3),(x4,x5))=min (c*x0) (c*x1)+min (d*x2) (d*x3)+min (e*x4) (e*x5):=rfl;have g:ed (c,d,e) ((x0,x1),(x2,x3),(x4,x5))=max (c*x0) (c*x1)+max (d*x2) (d*x3)+max (e*x4) (e*x5):=rfl;rw[l,g];have w:∀y:Int,-100000000000000<=y->y<=100000000000000->i64.wrap y=y:=λy a b=>aa (by omega) (by omega);have a0:=w (c*x0) (by omega) (by omega);have a1:=w (c*x1) (by omega) (by omega);have a2:=w (d*x2) (by omega) (by omega);have a3:=w (d*x3) (by omega) (by omega);have a4:=w (e*x4) (by omega) (by omega);have a5:=w (e*x5) (by omega) (by omega)
 have B:∀a b:Int,(if b<a then b else a)=min a b:=λa b=>by omega
 have A:∀a b:Int,(if a<b then b else a)=max a b:=λa b=>by omega
 have b0:=w (min (c*x0) (c*x1)) (by omega) (by omega);have b1:=w (min (c*x0) (c*x1)+min (d*x2) (d*x3)) (by omega) (by omega);have b2:=w (min (c*x0) (c*x1)+min (d*x2) (d*x3)+min (e*x4) (e*x5)) (by omega) (by omega);have d0:=w (max (c*x0) (c*x1)) (by omega) (by omega);have d1:=w (max (c*x0) (c*x1)+max (d*x2) (d*x3)) (by omega) (by omega);have d2:=w (max (c*x0) (c*x1)+max (d*x2) (d*x3)+max (e*x4) (e*x5)) (by omega) (by omega);refine Dp func365 λC hP hN=>?_;refine Gz ?_;refine WP.loopN [] 3 (λk f=>f.t 2=.ptr 2 0/\f.t 3=.ptr 3 0/\f.h 2=some (.box [.pv (Z c),.pv (Z d),.pv (Z e)] true false)/\f.h 3=some (.box [.pv (Z x0),.pv (Z x1),.pv (Z x2),.pv (Z x3),.pv (Z x4),.pv (Z x5)] true false)/\f.t 8=.pv (Z k)/\f.t 6=.pv (Z (if k=0 then 0 else if k=1 then min (c*x0) (c*x1)else if k=2 then min (c*x0) (c*x1)+min (d*x2) (d*x3)else min (c*x0) (c*x1)+min (d*x2) (d*x3)+min (e*x4) (e*x5)))/\f.t 7=.pv (Z (if k=0 then 0 else if k=1 then max (c*x0) (c*x1)else if k=2 then max (c*x0) (c*x1)+max (d*x2) (d*x3)else max (c*x0) (c*x1)+max (d*x2) (d*x3)+max (e*x4) (e*x5)))) (by simp) ?_;rintro k f x ⟨D,g3,u,v,s,q,r⟩;rcases gx x with rfl|rfl|rfl|rfl
 all_goals (simp at q r s)
 all_goals
  exact Gy
theorem XU(n:Vc)(xs:List aq)(y:xs.length<=9223372036854775807):aL 345 (aW n) (aU xs) (.tup (if bB n&&aw xs then[Z (iA n xs).1,Z (iA n xs).2,B true]else[Z 0,Z 0,B false])):=by
 have f:=Ds n;rw[uy]at f;have e:=xX xs y
 cases l:bB n with
 |false=>
  rw[l]at f;cases hp:aw xs<;>rw[hp]at e
  all_goals
   refine Dp func345 λC hP hN=>?_;exact Gy
 |true=>
 rw[l]at f
 cases hp:aw xs with
 |false=>
  rw[hp]at e;refine Dp func345 λC hP hN=>?_;exact Gy
 |true=>
 rw[hp]at e;obtain⟨b,H,_⟩:=eP hp;have hd:iA n xs=gu (d9 n) gf xs xs.length:=rfl;rw[hd];refine Dp func345 λC hP hN=>?_;refine Gz ?_;refine WP.loopN [] xs.length (λi a=>a.t 2=.ptr 2 0/\a.h 2=some (.box [.pv (Z n.1),.pv (Z n.2.1),.pv (Z n.2.2)] true false)/\a.t 1=.pv (aU xs)/\a.t 9=.pv (Z i)/\a.t 7=.pv (Z (gu (d9 n) gf xs i).1)/\a.t 8=.pv (Z (gu (d9 n) gf xs i).2)) (by simp[gu]) ?_;rintro i a hi ⟨D,x,A,G,E,F⟩;by_cases c:i<xs.length
 .have I:=ai c (by omega)
  have d:(i:Int)<(xs.length:Int):=by omega
  generalize m:xs[i]=v at *
  have s:xs[i]?=some v:=by rw[an c,m]
  have k:dj v=true:=IV.1 b v (In s);have z:aO prog 365 [.pv (aW n),.pv (bL v)] [] [] (.pv (.tup [Z (d9 n v),Z (ed n v)])):=P1 l k;have hs:=ko (val:=d9 n) (bet:=gf) s;rw[hs];by_cases p:i=0
  .subst p
   exact Gy
  .have u:((i:Int)==0)=false:=by simp;omega
   generalize hq:gu (d9 n) gf xs i=q at *;obtain⟨o,J⟩:=q;by_cases r:d9 n v<o
   .have g:gf (d9 n v) o=true:=by simp only[gf,Is];exact r
    simp only[g,or_true,yAn]at hs|-;exact Gy
   .have g:gf (d9 n v) o=false:=by simp only[gf,yAh];exact r
    simp only[g,p,ZY,or_self,yAi]at hs|-;exact Gy
 .have d:¬(i:Int)<(xs.length:Int):=by omega
  have j:i=xs.length:=by omega
  subst j;exact Gy
theorem XW(n:Vc)(xs:List aq)(y:xs.length<=9223372036854775807):aL 346 (aW n) (aU xs) (.tup (if bB n&&aw xs then[Z (iB n xs).1,Z (iB n xs).2,B true]else[Z 0,Z 0,B false])):=by
 have f:=Ds n;rw[uy]at f;have e:=xX xs y
 cases l:bB n with
 |false=>
  rw[l]at f;cases hp:aw xs<;>rw[hp]at e
  all_goals
   refine Dp func346 λC hP hN=>?_;exact Gy
 |true=>
 rw[l]at f
 cases hp:aw xs with
 |false=>
  rw[hp]at e;refine Dp func346 λC hP hN=>?_;exact Gy
 |true=>
 rw[hp]at e;obtain⟨b,H,_⟩:=eP hp;have hd:iB n xs=gu (ed n) gg xs xs.length:=rfl;rw[hd];refine Dp func346 λC hP hN=>?_;refine Gz ?_;refine WP.loopN [] xs.length (λi a=>a.t 2=.ptr 2 0/\a.h 2=some (.box [.pv (Z n.1),.pv (Z n.2.1),.pv (Z n.2.2)] true false)/\a.t 1=.pv (aU xs)/\a.t 9=.pv (Z i)/\a.t 7=.pv (Z (gu (ed n) gg xs i).1)/\a.t 8=.pv (Z (gu (ed n) gg xs i).2)) (by simp[gu]) ?_;rintro i a hi ⟨D,x,A,G,E,F⟩;by_cases c:i<xs.length
 .have I:=ai c (by omega)
  have d:(i:Int)<(xs.length:Int):=by omega
  generalize m:xs[i]=v at *
  have s:xs[i]?=some v:=by rw[an c,m]
  have k:dj v=true:=IV.1 b v (In s);have z:aO prog 365 [.pv (aW n),.pv (bL v)] [] [] (.pv (.tup [Z (d9 n v),Z (ed n v)])):=P1 l k;have hs:=ko (val:=ed n) (bet:=gg) s;rw[hs];by_cases p:i=0
  .subst p
   exact Gy
  .have u:((i:Int)==0)=false:=by simp;omega
   generalize hq:gu (ed n) gg xs i=q at *;obtain⟨o,J⟩:=q;by_cases r:o<ed n v
   .have g:gg (ed n v) o=true:=by simp only[gg,Is];exact r
    simp only[g,or_true,yAn]at hs|-;exact Gy
   .have g:gg (ed n v) o=false:=by simp only[gg,yAh];exact r
    simp only[g,p,ZY,or_self,yAi]at hs|-;exact Gy
 .have d:¬(i:Int)<(xs.length:Int):=by omega
  have j:i=xs.length:=by omega
  subst j;exact Gy
theorem DM(r:Int):aV 210 (Z r) (B (bw r 0 1048576)):=by
 refine Dp func210 λC hP hN=>?_
 with_reducible repeat' (first|refine Sp.h ?_|((first|refine Ss.h ?_|(refine Sb.h ?_ ?_ ?_<;>(try intro hgd)<;>try exact Xy))<;>simp -implicitDefEqProofs (maxSteps:=2000000) [hP,hN])|refine X2 ?_ ?_|(refine Xd ?_ ?_<;>intro hcd<;>try exact Xx))
 all_goals (first|(simp_all[bw];done)|((try simp_all[bw])<;>(try omega)<;>grind))
theorem XX(n:Vc)(a:List aq)(ra:Int)(b:List aq)(rb:Int)(s:a.length<=9223372036854775807)(l:b.length<=9223372036854775807):Ao 330 (aW n) (aU a) (Z ra) (aU b) (Z rb) (.tup (if k8 n a ra b rb then[Z (mz n a ra b rb),B true]else[Z 0,B false])):=by
 have j:=XU n a s;have k:=XW n b l;have m:=DM ra;have o:=DM rb;have r:=Tl n
 have i:k8 n a ra b rb=(aw a&&bw ra 0 1048576&&(aw b&&bw rb 0 1048576)&&bB n):=by
  simp only[k8,Cl,bw,Bool.and_assoc]
 have u:=AQ n;have p:mz n a ra b rb=(iA n a).1-(iB n b).1-eH n*(ra+rb):=rfl;cases g:bB n<;>cases c:aw a<;>cases d:aw b<;>cases e:bw ra 0 1048576<;>cases f:bw rb 0 1048576
 case true.true.true.true.true=>
  rw[g,c,d,e,f]at i;rw[g,c]at j;rw[g,d]at k;rw[e]at m;rw[f]at o
  have q:aG 16384 n=true:=by simp only[bB,An]at g;exact g.1
  have v:=LS (n:=n) q (eP c).1;have A:=LT (n:=n) q (eP d).1;simp only[bw,An,Is]at e f;have D:=cT (a:=eH n) (b:=ra+rb) 32768 2097152 (by omega) (by omega) (by omega) (by omega);have E:i64.wrap (ra+rb)=ra+rb:=aa;have F:i64.wrap (eH n*(ra+rb))=eH n*(ra+rb):=aa;have G:i64.wrap ((iA n a).1-(iB n b).1)=(iA n a).1-(iB n b).1:=aa;have H:i64.wrap ((iA n a).1-(iB n b).1-eH n*(ra+rb))=(iA n a).1-(iB n b).1-eH n*(ra+rb):=aa;rw[i,p];simp only[yBj,yAn]at j k|-;generalize iA n a=x at *;generalize iB n b=y at *;generalize eH n=z at *;refine Dp func330 λC hP hN=>?_;exact Gy
 all_goals (
  rw[g,c,d,e,f]at i;rw[g,c]at j;rw[g,d]at k;rw[e]at m;rw[f]at o;rw[i];simp only[yBj,yBm,yAG,yAs,yBz,yAn,ZY,yAi]at j k|-;clear i p u r;generalize iA n a=x at *
  generalize iB n b=y at *)
 all_goals
  refine Dp func330 λC hP hN=>?_;exact Gy
theorem Tm(n:Vc)(a:List aq)(ra:Int)(b:List aq)(rb:Int)(f:a.length<=9223372036854775807)(c:b.length<=9223372036854775807):Ao 299 (aW n) (aU a) (Z ra) (aU b) (Z rb) (B (kE n a ra b rb)):=by
 have d:=XX n a ra b rb f c;have hs:kE n a ra b rb=(k8 n a ra b rb&&decide (0<mz n a ra b rb)):=rfl;rw[hs];generalize mz n a ra b rb=m at *;cases e:k8 n a ra b rb<;>rw[e]at d<;>simp only[ZY,yAi,yAn,yAG,yAs]at d|-
 all_goals
  refine Dp func299 λC hP hN=>?_;exact Gy
theorem XY(l:List Vc)(a:List aq)(ra:Int)(b:List aq)(rb:Int)(s:l.length<=9223372036854775807)(F:a.length<=9223372036854775807)(r:b.length<=9223372036854775807):Ao 234 (bA l) (aU a) (Z ra) (aU b) (Z rb) (.tup (match l.findIdx? (λn=>kE n a ra b rb)with|some i=>[Z i,B true]|none=>[Z 0,B false])):=by
 refine Dp func234 λC hP hN=>?_;refine Gz ?_;refine WP.loopN [] l.length (λi e=>e.t 0=.pv (bA l)/\e.t 1=.pv (aU a)/\e.t 2=.pv (Z ra)/\e.t 3=.pv (aU b)/\e.t 4=.pv (Z rb)/\e.t 12=.pv (Z i)/\∀k x,k<i->l[k]?=some x->kE x a ra b rb=false) (by simp) ?_;rintro i e hi ⟨G,H,I,g3,J,D,hq⟩;by_cases d:i<l.length
 .have K:=ai d s
  have f:(i:Int)<(l.length:Int):=by omega
  generalize m:l[i]=v at *
  have y:l[i]?=some v:=by rw[an d,m]
  have A:=Tm v a ra b rb F r;have u:=J4 (p:=λn=>kE n a ra b rb) y hq
  cases o:kE v a ra b rb with
  |true=>
   rw[o]at A
   have hf:l.findIdx? (λn=>kE n a ra b rb)=some i:=by
    rw[yBY];refine⟨d,by rw[m];exact o,λj E=>?_⟩;have:=hq j l[j] E (an (by omega));simp[this]
   rw[hf];exact Gy
  |false=>
   rw[o]at A;have g:=u o;refine Gz ?_
   all_goals exact λk a b c q z=>g k (a,b,c) (by omega) z
 .have f:¬(i:Int)<(l.length:Int):=by omega
  have hf:l.findIdx? (λn=>kE n a ra b rb)=none:=by
   rw[List.findIdx?_eq_none_iff];intro x y;obtain⟨k,q⟩:=yAD y;exact hq k x (by have:=(th.1 q).1;omega) q
  rw[hf];exact Gy
theorem XZ:EW 298 (bA sW):=by
 refine Dp func298 λC hP hN=>?_;exact Gy
theorem Ov(v w:Vc)(a:gT 1152921504606846976 v)(b:gT 1152921504606846976 w):aL 236 (aW v) (aW w) (aW (bz v w)):=by
 have d:i64.wrap (v.1-w.1)=v.1-w.1:=aa (by have:=a.1;have:=b.1;omega) (by have:=a.1;have:=b.1;omega);have e:i64.wrap (v.2.1-w.2.1)=v.2.1-w.2.1:=aa (by have:=a.2.1;have:=b.2.1;omega) (by have:=a.2.1;have:=b.2.1;omega);have f:i64.wrap (v.2.2-w.2.2)=v.2.2-w.2.2:=aa (by have:=a.2.2;have:=b.2.2;omega) (by have:=a.2.2;have:=b.2.2;omega);have c:bz v w=(v.1-w.1,v.2.1-w.2.1,v.2.2-w.2.2):=rfl;rw[c];refine Dp func236 λC hP hN=>?_;exact Gy
theorem DI(v w:Vc)(m n:Nat)(c:gT m v)(d:gT n w)(a:3*(m*n)<=9223372036854775807):aL 241 (aW v) (aW w) (Z (dk v w)):=by
 have h:=sP c d;have e:i64.wrap (v.1*w.1)=v.1*w.1:=aa;have f:i64.wrap (v.2.1*w.2.1)=v.2.1*w.2.1:=aa;have g:i64.wrap (v.2.2*w.2.2)=v.2.2*w.2.2:=aa;have i:i64.wrap (v.1*w.1+v.2.1*w.2.1)=v.1*w.1+v.2.1*w.2.1:=aa;have j:i64.wrap (v.1*w.1+v.2.1*w.2.1+v.2.2*w.2.2)=v.1*w.1+v.2.1*w.2.1+v.2.2*w.2.2:=aa;have b:dk v w=v.1*w.1+v.2.1*w.2.1+v.2.2*w.2.2:=rfl;rw[b];refine Dp func241 λC hP hN=>?_;exact Gy
theorem SW(l:List Vc)(N:l.length<=9223372036854775807):aV 235 (bA l) (B (jl l)):=by
 by_cases I:l.length<=8
 .skip
  refine Dp func235 λC hP hN=>?_;refine Gz ?_;refine WP.loopN [] l.length (λi m=>m.t 0=.pv (bA l)/\m.t 3=.pv (Z i)/\∀k x,k<i->l[k]?=some x->aG 268435456 x=true) (by simp) ?_;rintro i m hi ⟨G,g3,hq⟩;by_cases f:i<l.length
  .have K:i64.wrap ((i:Int)+1)=(i:Int)+1:=aa
   have g:(i:Int)<(l.length:Int):=by omega
   have y:(i:Int)<=8:=by omega
   have r:i<=8:=by omega
   generalize j:l[i]=v at *
   have E:l[i]?=some v:=by rw[an f,j]
   have o:=xm v.1 v.2.1 v.2.2 268435456 (by decide) (by decide);have A:aG 268435456 v=fB v.1 v.2.1 v.2.2 268435456:=rfl;rw[<-A]at o;have D:=oA (p:=aG 268435456) E hq
   cases n:aG 268435456 v with
   |true=>
    rw[n]at o;have s:=D n;refine Gz ?_
    all_goals exact λk a b c M F=>s k (a,b,c) (by omega) F
   |false=>
    rw[n]at o
    have d:l.all (aG 268435456)=false:=by
     rw[yBw];exact⟨v,In E,by simp[n]⟩
    have e:jl l=false:=by simp[jl,d]
    rw[e];exact Gy
  .have d:l.all (aG 268435456)=true:=ql hq f
   have g:¬(i:Int)<(l.length:Int):=by omega
   have e:jl l=decide (1<=l.length):=by
    rw[jl,d,yAF I,yBz,yBz]
   rw[e];by_cases H:1<=l.length
   .have q:(1:Int)<=(l.length:Int):=by omega
    have u:(l.length:Int)<=8:=by omega
    exact Gy
   .have q:¬(1:Int)<=(l.length:Int):=by omega
    exact Gy
 .have e:jl l=false:=by
   cases h:jl l with
   |false=>rfl
   |true=>simp only[jl,An,Is]at h;omega
  rw[e];refine Dp func235 λC hP hN=>?_;refine Gz ?_;refine WP.loopN [] 9 (λi m=>m.t 0=.pv (bA l)/\m.t 3=.pv (Z i)) (by simp) ?_;rintro i m hi ⟨G,g3⟩;by_cases y:i<=8
  .have f:i<l.length:=by omega
   have K:i64.wrap ((i:Int)+1)=(i:Int)+1:=aa
   have g:(i:Int)<(l.length:Int):=by omega
   have r:(i:Int)<=8:=by omega
   generalize j:l[i]=v at *
   have E:l[i]?=some v:=by rw[an f,j]
   have o:=xm v.1 v.2.1 v.2.2 268435456 (by decide) (by decide);cases n:fB v.1 v.2.1 v.2.2 268435456<;>rw[n]at o
   .skip
    exact Gy
   .skip
    refine Gz ?_
    all_goals omega
  .have z:i=9:=by omega
   subst z
   have u:¬(l.length:Int)<=8:=by omega
   have q:(1:Int)<=(l.length:Int):=by omega
   have H:1<=l.length:=by omega
   by_cases L:9<l.length
   .have J:(9:Int)<(l.length:Int):=by omega
    exact Gy
   .skip
    exact Gy
theorem XB(v:Vc)(rho:Int)(e:gT 35184372088832 v)(H:0<=rho/\rho<=2097152):aL 238 (aW v) (Z rho) (B (ze v rho)):=by
 have r:=Dm e.1;have s:=Dm e.2.1;have u:=Dm e.2.2;have G:=cT (a:=rho) (b:=rho) 2097152 2097152 (by omega) (by omega) (by omega) (by omega);have w0:i64.wrap (rho*rho)=rho*rho:=aa;have mx:∀x:Int,-35184372088832<=x->x<=35184372088832->i64.wrap (-x)=-x/\i64.wrap (0-x)=-x:=λx a b=>⟨aa (by omega) (by omega),(aa (n:=0-x) (by omega) (by omega)).trans (by omega)⟩;have m0:=mx v.1 e.1.1 e.1.2;have m1:=mx v.2.1 e.2.1.1 e.2.1.2;have m2:=mx v.2.2 e.2.2.1 e.2.2.2
 have cc:∀x:Int,-35184372088832<=x->x<=35184372088832->aO prog 211 [.pv (Z (max x (-x))),.pv (Z 65536)] [] [] (.pv (Z (dC (max x (-x)) 65536))):=λx a b=>by
  have:=Hb (max x (-x)) 65536 (by decide);rw[sh (by decide) (by omega) (by omega)]at this;exact this
 have y:=cc v.1 e.1.1 e.1.2;have z:=cc v.2.1 e.2.1.1 e.2.1.2;have A:=cc v.2.2 e.2.2.1 e.2.2.2
 have D:∀a b:Int,(if a<b then b else a)=max a b:=λa b=>by omega
 have hd:ze v rho=decide (wx v.1+wx v.2.1+wx v.2.2<=rho*rho):=rfl;have i:wx v.1=dC (max v.1 (-v.1)) 65536*dC (max v.1 (-v.1)) 65536:=rfl;have j:wx v.2.1=dC (max v.2.1 (-v.2.1)) 65536*dC (max v.2.1 (-v.2.1)) 65536:=rfl;have l:wx v.2.2=dC (max v.2.2 (-v.2.2)) 65536*dC (max v.2.2 (-v.2.2)) 65536:=rfl;rw[hd];generalize dC (max v.1 (-v.1)) 65536=c at *;generalize dC (max v.2.1 (-v.2.1)) 65536=d at *;generalize dC (max v.2.2 (-v.2.2)) 65536=f at *;rw[i,j,l];rw[i]at r;rw[j]at s;rw[l]at u;have I:i64.wrap (c*c)=c*c:=aa;have J:i64.wrap (d*d)=d*d:=aa;have K:i64.wrap (f*f)=f*f:=aa;have L:i64.wrap (c*c+d*d)=c*c+d*d:=aa;have M:i64.wrap (c*c+d*d+f*f)=c*c+d*d+f*f:=aa;refine Dp func238 λC hP hN=>?_;refine Gz ?_;refine WP.loopN [] 3 (λk g=>g.t 2=.ptr 2 0/\g.h 2=some (.box [.pv (Z v.1),.pv (Z v.2.1),.pv (Z v.2.2)] true false)/\g.t 1=.pv (Z rho)/\g.t 6=.pv (Z k)/\g.t 5=.pv (Z (if k=0 then 0 else if k=1 then c*c else if k=2 then c*c+d*d else c*c+d*d+f*f))) (by simp) ?_;rintro k g q ⟨F,p,E,o,m⟩;rcases gx q with rfl|rfl|rfl|rfl
 all_goals (simp at m o)
 all_goals
  exact Gy
theorem SX(l:List Vc)(ws:List Int)(V:l.length<=8)(L:ws.length=l.length)(E:l.all (aG 268435456)=true)(x:WgOk ws):aL 237 (bA l) (zs ws) (aW (eG l ws l.length)):=by
 refine Dp func237 λC hP hN=>?_;refine Gz ?_;refine WP.loopN [] l.length (λi c=>c.t 0=.pv (bA l)/\c.t 1=.pv (zs ws)/\c.t 4=.ptr 4 0/\c.h 4=some (.box [.pv (Z 0),.pv (Z 0),.pv (Z 0)] true false)/\c.t 5=.ptr 5 0/\c.h 5=some (.box [.pv (Z (eG l ws i).1),.pv (Z (eG l ws i).2.1),.pv (Z (eG l ws i).2.2)] true false)/\c.t 6=.pv (Z i)) (by simp[eG]) ?_;rintro i c hi ⟨q,r,s,g,u,d,v⟩;by_cases m:i<l.length
 .have M:=ai m (by omega)
  have e:(i:Int)<(l.length:Int):=by omega
  have f:i<ws.length:=by omega
  generalize n:l[i]=p at *
  have A:l[i]?=some p:=by rw[an m,n]
  generalize o:ws[i]=k at *
  have y:ws[i]?=some k:=by rw[an f,o]
  have O:=oY E x i (by omega);have P:=oY E x (i+1) (by omega);have J:=x.pos k (In y)
  have K:k<=65536:=by
   have a1:=vK y;have a2:=GC x.pos i;have a3:=kj x.pos (show i+1<=ws.length by omega);have a4:=x.tot;omega
  have hp:=gO (IV.1 E p (In A))
  have hS:eG l ws (i+1)=((eG l ws i).1+k*p.1,(eG l ws i).2.1+k*p.2.1,(eG l ws i).2.2+k*p.2.2):=by simp only[eG,A,y]
  have m1:=cT (a:=k) (b:=p.1) 65536 268435456 (by omega) (by omega) hp.1.1 hp.1.2;have m2:=cT (a:=k) (b:=p.2.1) 65536 268435456 (by omega) (by omega) hp.2.1.1 hp.2.1.2;have N:=cT (a:=k) (b:=p.2.2) 65536 268435456 (by omega) (by omega) hp.2.2.1 hp.2.2.2;generalize eG l ws i=S at *;generalize eG l ws (i+1)=U at *;subst hS;obtain⟨F,G,H⟩:=P;simp only at F G H;have Q:i64.wrap (k*p.1)=k*p.1:=aa;have R:i64.wrap (k*p.2.1)=k*p.2.1:=aa;have T:i64.wrap (k*p.2.2)=k*p.2.2:=aa;have v1:i64.wrap (S.1+k*p.1)=S.1+k*p.1:=aa;have v2:i64.wrap (S.2.1+k*p.2.1)=S.2.1+k*p.2.1:=aa;have v3:i64.wrap (S.2.2+k*p.2.2)=S.2.2+k*p.2.2:=aa;clear O F G H m1 m2 N hp;have z:[AV.pv (Z S.1),AV.pv (Z S.2.1),AV.pv (Z S.2.2)]=vL S p k 0:=rfl;rw[z]at d;refine Gz ?_;refine WP.loopN [] 3 (λj c=>c.t 0=.pv (bA l)/\c.t 1=.pv (zs ws)/\c.t 4=.ptr 4 0/\c.h 4=some (.box [.pv (Z 0),.pv (Z 0),.pv (Z 0)] true false)/\c.t 5=.ptr 5 0/\c.h 5=some (.box (vL S p k j) true false)/\c.t 6=.pv (Z i)/\c.t 7=.pv (Z j)) (by simp[q,r,s,g,u,v,d,vL]) ?_;clear q r s g u v d;rintro j c I ⟨q,r,s,g,u,d,v,B⟩;rcases gx I with rfl|rfl|rfl|rfl
  all_goals (simp[vL]at d B)
  .skip
   with_reducible repeat' (first|refine Sp.h ?_|((first|refine Wd ?_|refine Ss.h ?_)<;>simp -implicitDefEqProofs [hP,hN,q,r,s,g,u,d,v,B,A,n,y,o,m,e,f,Q,v1,vL]<;>try refine Ya ?_))
  .skip
   with_reducible repeat' (first|refine Sp.h ?_|((first|refine Wd ?_|refine Ss.h ?_)<;>simp -implicitDefEqProofs [hP,hN,q,r,s,g,u,d,v,B,A,n,y,o,m,e,f,R,v2,vL]<;>try refine Ya ?_))
  .skip
   with_reducible repeat' (first|refine Sp.h ?_|((first|refine Wd ?_|refine Ss.h ?_)<;>simp -implicitDefEqProofs [hP,hN,q,r,s,g,u,d,v,B,A,n,y,o,m,e,f,T,v3,vL]<;>try refine Ya ?_))
  .skip
   exact Gy
 .have D:i=l.length:=by omega
  have e:¬(i:Int)<(l.length:Int):=by omega
  subst D;exact Gy
theorem EM(l:List Int)(i:Nat)(y:Int):(List.map Z l).set i (PV.val (Value.int i64 y))=List.map Z (l.set i y):=by simp
theorem SY(w:List Int)(t:Int)(q:Nat)(X:w.length<=8)(c:WgOk w)(hq:q<w.length)(B:0<=t)(n:t<=256):jQ 243 (zs w) (Z t) (Z q) (zs (mM w q t)):=by
 have P:mM w q t=(fC w t w.length).set q (((fC w t w.length)[q]?).getD 0+fT w t w.length):=rfl
 have d:∀k∈w,0<=k/\k<=65536:=λk l=>by
  obtain⟨i,hi⟩:=yAD l;have a1:=vK hi;have a2:=GC c.pos i;have a3:=kj c.pos (show i+1<=w.length by have:=(th.1 hi).1;omega);have a4:=c.tot;exact⟨c.pos k l,by omega⟩
 have a:=AK c.pos B n
 have f1:w.length*8<=140737488355328:=by omega
 have f2:w.length<=9223372036854775807:=by omega
 refine Dp func243 λC hP hN=>?_;refine GT (gA f1 f2) ?_;refine WP.loopN [] w.length (λi o=>o.t 1=.pv (Z t)/\o.t 2=.pv (Z q)/\o.t 7=.arr 12 w.length/\o.h 12=some (.row 2 1 ((fC w t i).map Z) 0)/\o.t 8=.pv (Z (fT w t i))/\o.t 9=.pv (Z i)) (by simp[Cc,fT]) ?_;rintro i o hi ⟨G,H,I,N,J,M⟩;have j:=pU w t i;have Q:=a i
 have R:aF w i<=65536:=by
  have:=kj c.pos (show i<=w.length by omega);have:=c.tot;omega
 by_cases m:i<w.length
 .have D:=ai m (by omega)
  have b:(i:Int)<(w.length:Int):=by omega
  generalize E:w[i]=k at *
  have p:w[i]?=some k:=by rw[an m,E]
  have l:=d k (In p);have hp:=vO l.1 B n
  have g:(fC w t i)[i]?=some k:=by rw[lZ,p];simp
  have r:=Cd (t:=t) p
  have y:fT w t (i+1)=fT w t i+k*t/256:=by simp[fT,p]
  have x:=a (i+1)
  have O:aF w (i+1)<=65536:=by
   have:=kj c.pos (show i+1<=w.length by omega);have:=c.tot;omega
  rw[r];rw[y]at x|-;have z:(List.map Z (fC w t i)).set i (PV.val (Value.int i64 (k-k*t/256)))=List.map Z ((fC w t i).set i (k-k*t/256)):=EM _ _ _;generalize fC w t i=K at *
  have f:∀h,K[i]'h=k:=λh=>by rw[an h]at g;exact yAO g
  have T:i64.wrap (k*t)=k*t:=aa;have U:(k*t).tdiv 256=k*t/256:=yAp (by omega);have V:i64.wrap (k*t/256)=k*t/256:=aa;have W:i64.wrap (k-k*t/256)=k-k*t/256:=aa;have F:i64.wrap (fT w t i+k*t/256)=fT w t i+k*t/256:=aa;generalize fT w t i=L at *
  with_reducible repeat' (first|refine Sp.h ?_|((first|refine Ss.h ?_)<;>simp -implicitDefEqProofs [hP,hN,G,H,I,N,J,M,m,b,g,f,j,T,U,V,W,F,D,z,-List.map_set]))
 .have s:i=w.length:=by omega
  have b:¬(i:Int)<(w.length:Int):=by omega
  subst s
  have A:(q:Int)<(w.length:Int):=by omega
  obtain⟨u,e⟩:∃u,(fC w t w.length)[q]?=some u:=⟨_,an (by rw[j];exact hq)⟩
  have S:0<=u/\u<=65536:=by
   rw[lZ]at e;obtain⟨k,l⟩:∃k,w[q]?=some k:=⟨_,an hq⟩;rw[l]at e;simp only[yAQ,Z9]at e;have v:=d k (In l);have hp:=vO v.1 B n;split at e<;>omega
  rw[P,e];have z:(List.map Z (fC w t w.length)).set q (PV.val (Value.int i64 (u+fT w t w.length)))=List.map Z ((fC w t w.length).set q (u+fT w t w.length)):=EM _ _ _;have F:i64.wrap (u+fT w t w.length)=u+fT w t w.length:=aa;generalize fC w t w.length=K at *
  have f:∀h,K[q]'h=u:=λh=>by rw[an h]at e;exact yAO e
  generalize fT w t w.length=L at *
  with_reducible repeat' (first|refine Sp.h ?_|((first|refine Ss.h ?_)<;>simp -implicitDefEqProofs [hP,hN,G,H,I,N,J,M,b,hq,A,e,f,j,F,z,-List.map_set]))
theorem UA(x:Int)(a:Nat):(x.tdiv (a:Int)).tdiv 2=x.tdiv ((a*2:Nat):Int):=by
 have h:∀n:Nat,((n:Int).tdiv (a:Int)).tdiv 2=(n:Int).tdiv ((a*2:Nat):Int):=λn=>by
  have e:∀p q:Nat,(p:Int).tdiv (q:Int)=((p/q:Nat):Int):=λp q=>by rw[yAp (by omega),Int.natCast_ediv]
  rw[e n a,show(2:Int)=((2:Nat):Int) from rfl,e,e,Nat.div_div_eq_div_mul]
 rcases yB3 0 x with b|b
 .have:=h x.toNat
  rw[Int.toNat_of_nonneg b]at this;exact this
 .have:=h (-x).toNat
  rw[Int.toNat_of_nonneg (by omega)]at this;rw[Int.neg_tdiv,Int.neg_tdiv,Int.neg_tdiv]at this;omega
def jE(i:Nat)(v:Vc):Vc:=(v.1.tdiv ((2^i:Nat):Int),v.2.1.tdiv ((2^i:Nat):Int),v.2.2.tdiv ((2^i:Nat):Int))
theorem Ow(v:Vc):jE 0 v=v:=by simp[jE]
theorem Ox(i:Nat)(v:Vc):vY (jE i v)=jE (i+1) v:=by
 simp only[vY,jE,UA,yCf]
theorem CB{v:Vc}:∀(i:Nat),i<=64->(∀j,j<i->aG 16384 (jE j v)=false)->nc 64 v=nc (64-i) (jE i v)
 |0,_,_=>by rw[Ow]
 |i+1,hi,h=>by
  rw[CB i (by omega) (λj a=>h j (by omega)),show 64-i=(64-(i+1))+1 by omega,nc,L4 (by rw[h i (by omega)];simp),Ox]
theorem H4{n:Nat}(h:aG 16384 v=true):nc n v=v:=by
 cases n with
 |zero=>rfl
 |succ n=>rw[nc,yAb h]
theorem L9(hi:i<=64)(h:∀j,j<i->aG 16384 (jE j v)=false)(hn:aG 16384 (jE i v)=true):bT v=jE i v:=by
 unfold bT;rw[CB i hi h,H4 hn]
theorem QS(h:aG 16384 v=false):nz (vY v)=true:=by
 have e:¬(aG 16384 v=true):=by rw[h];simp
 rw[dJ,bM,bM,bM]at e
 cases d:nz (vY v)with
 |true=>rfl
 |false=>
  exfalso;simp only[nz,vY,Bool.not_eq_false',An,yAU]at d;obtain⟨⟨f,g⟩,i⟩:=d
  have t:∀x:Int,x.tdiv 2=0->-2<x/\x<2:=λx j=>by
   have:=yB8 x 2;have:=yBW x (show(0:Int)<2 by decide);have:=yBE x (show(0:Int)<2 by decide);omega
  have a:=t _ f;have b:=t _ g;have c:=t _ i;omega
theorem Hc:∀(n:Nat)(v:Vc),nz v=true->nz (nc n v)=true
 |0,v,h=>h
 |n+1,v,h=>by
  rw[nc];split
  .exact h
  .rename_i a
   exact Hc n _ (QS (by simpa using a))
theorem QT(h:gT 1099511627776 v):aG 16384 (jE 26 v)=true:=by
 have t:∀x:Int,-1099511627776<=x->x<=1099511627776->-16384<=x.tdiv ((2^26:Nat):Int)/\x.tdiv ((2^26:Nat):Int)<=16384:=λx a b=>by
  have e:=yB8 x ((2^26:Nat):Int);have d:=yBW x (show(0:Int)<((2^26:Nat):Int) by decide);have f:=yBE x (show(0:Int)<((2^26:Nat):Int) by decide)
  have g:((2^26:Nat):Int)=67108864:=by decide
  rw[g]at e d f|-;omega
 have a:=t _ h.1.1 h.1.2;have b:=t _ h.2.1.1 h.2.1.2;have c:=t _ h.2.2.1 h.2.2.2;rw[dJ,bM,bM,bM];simp only[jE];omega
@[simp] theorem YJ{g:Option (Nat×Bool)}(x y:Operand):
 bf prog ⟨dst,.binOp .eql 84 x y 84,ty,pos,aft,g⟩ ρ=Kq (ρ x) (ρ y) (gk prog ⟨dst,.binOp .eql 84 x y 84,ty,pos,aft,g⟩ ρ):=by
 unfold Kq;split
 .rename_i a b e c d f i j
  exact qI rfl (mD i) (mD j) (by kernel_rfl) (Kp a b e c d f)
 .rfl
@[simp] theorem Ua(a b e c d f:Int)(g:Option bF):Kq (.pv (.val (.agg #[.int .i64 a,.int .i64 b,.int .i64 e]))) (.pv (.val (.agg #[.int .i64 c,.int .i64 d,.int .i64 f]))) g=some (.pv (.val (.bool (a==c&&b==d&&e==f))),[]):=rfl
theorem SZ(v:Vc)(h:gT 1099511627776 v):aV 239 (aW v) (.tup [aW (bT v),B (nz (bT v))]):=by
 cases A:nz v with
 |false=>
  have m:(v.1==0&&v.2.1==0&&v.2.2==0)=true:=by simpa[nz]using A
  have I:v=(0,0,0):=by
   simp only[An,yAU]at m;obtain⟨⟨a,b⟩,c⟩:=m;exact Prod.ext a (Prod.ext b c)
  subst I
  have E:bT (0,0,0)=(0,0,0):=by decide +kernel
  rw[E,A];refine Dp func239 λC hP hN=>?_;exact Gy
 |true=>
  have m:(v.1==0&&v.2.1==0&&v.2.2==0)=false:=by
   have:=A;simp only[nz,yAI]at this;exact this
  have G:nz (bT v)=true:=Hc 64 v A;rw[G];have S:∀i,i<=26->(2^i:Nat)<=67108864:=λi hi=>Nat.pow_le_pow_right (by decide) hi;have R:∀i,0<(2^i:Nat):=λi=>Nat.pow_pos (by decide);refine Dp func239 λC hP hN=>?_;refine Gz ?_;refine WP.loopN [5] 26 (λi n=>n.t 1=.ptr 1 0/\n.h 1=some (.box [.pv (Z v.1),.pv (Z v.2.1),.pv (Z v.2.2)] true false)/\n.t 2=.ptr 2 0/\n.h 2=some (.box [.pv (Z 0),.pv (Z 0),.pv (Z 0)] true false)/\n.t 4=.pv (Z ((2^i:Nat):Int))/\n.h 5=none/\∀j,j<i->aG 16384 (jE j v)=false) (by simp) ?_;rintro i n hi ⟨K,q,L,r,M,s,hq⟩;have W:=S i hi;have X:=R i
  have y:¬((2^i:Nat):Int)=0:=by omega
  have d:¬(2^i:Nat)=0:=by omega
  have o:=xm (jE i v).1 (jE i v).2.1 (jE i v).2.2 16384 (by decide) (by decide);have F:aG 16384 (jE i v)=fB (jE i v).1 (jE i v).2.1 (jE i v).2.2 16384:=rfl;rw[<-F]at o;have g:(jE i v).1=v.1.tdiv ((2^i:Nat):Int):=rfl;have k:(jE i v).2.1=v.2.1.tdiv ((2^i:Nat):Int):=rfl;have l:(jE i v).2.2=v.2.2.tdiv ((2^i:Nat):Int):=rfl
  have J:∀x:Int,-1099511627776<=x->x<=1099511627776->i64.wrap (x.tdiv ((2^i:Nat):Int))=x.tdiv ((2^i:Nat):Int):=λx a b=>by
   have e:=Int.natAbs_tdiv_le_natAbs x ((2^i:Nat):Int);exact aa (by omega) (by omega)
  have t1:=J _ h.1.1 h.1.2;have t2:=J _ h.2.1.1 h.2.1.2;have t3:=J _ h.2.2.1 h.2.2.2;rw[<-g]at t1;rw[<-k]at t2;rw[<-l]at t3;have Q:(2^(i+1):Nat)=2^i*2:=yCf 2 i;have U:i64.wrap (((2^i:Nat):Int)*2)=((2^(i+1):Nat):Int):=(aa (by omega) (by omega)).trans (by omega);have D:=λE=>L9 (v:=v) (i:=i) (by omega) hq E
  have p:aG 16384 (jE i v)=false->i<26:=λhf=>by
   by_cases f:i<26
   .exact f
   .have:i=26:=by omega
    subst this;rw[QT h]at hf;cases hf
  have H:aG 16384 (jE i v)=false->∀j,j<i+1->aG 16384 (jE j v)=false:=λhf j Y=>by
   by_cases e:j=i
   .subst e;exact hf
   .exact hq j (by omega)
  generalize V:jE i v=N at *;generalize O:(2^(i+1):Nat)=T at *;generalize(2^i:Nat)=pw at *
  cases u:aG 16384 N with
  |true=>
   rw[u]at o;have P:=D u;rw[P]
   with_reducible repeat' (first|refine Sp.h ?_|((first|refine Wd ?_|refine Ss.h ?_|refine Sc.h (o) ?_)<;>simp -implicitDefEqProofs [hP,hN,K,q,L,r,M,s,y,d,<-g,<-k,<-l,t1,t2,t3]<;>try refine Ya ?_))
  |false=>
   rw[u]at o;have f:=p u;have z:=H u
   with_reducible repeat' (first|refine Sp.h ?_|((first|refine Wd ?_|refine Ss.h ?_|refine Sc.h (o) ?_|(refine Sb.h ?_ ?_ ?_<;>(try intro hgd)<;>try exact Xy))<;>simp -implicitDefEqProofs [hP,hN,K,q,L,r,M,s,y,d,<-g,<-k,<-l,t1,t2,t3,U]<;>try refine Ya ?_)|refine X2 ?_ ?_|(refine Xd ?_ ?_<;>intro hcd<;>try exact Xx))
   all_goals exact⟨f,z⟩
theorem pZ{bet:Int->Int->Bool}{n p0:Vc}{l:List Vc}(b:l[0]?=some p0):∀i,∃p,l[(fg bet n p0 l i).2]?=some p/\(fg bet n p0 l i).1=dk n p
 |0=>⟨p0,b,rfl⟩
 |i+1=>by
  obtain⟨p,hp,c⟩:=pZ (bet:=bet) (n:=n) b i
  cases a:l[i]? with
  |none=>simp only[fg,a];exact⟨p,hp,c⟩
  |some v=>
   rw[vM a];split
   .exact⟨v,a,rfl⟩
   .exact⟨p,hp,c⟩
theorem S0(n:Vc)(l:List Vc)(hn:aG 16384 n=true)(h1:1<=l.length)(h8:l.length<=8)(hl:l.all (aG 268435456)=true):jQ 240 (aW n) (bA l) (Z 1) (Z (em gf n l).2):=by
 obtain⟨p0,e⟩:∃p0,l[0]?=some p0:=⟨_,an (by omega)⟩
 have Y:em gf n l=fg gf n p0 l l.length:=by simp[em,e]
 have z:=pZ (bet:=gf) (n:=n) e;have r:=vN (bet:=gf) (n:=n) (p0:=p0) (l:=l) (by omega);have u:=xD hn
 have b:∀p∈l,aO prog 241 [.pv (aW n),.pv (aW p)] [] [] (.pv (Z (dk n p)))/\-13194139533312<=dk n p/\dk n p<=13194139533312:=λp hp=>by
  have hq:=gO (IV.1 hl p hp);exact⟨DI n p 16384 268435456 u hq (by decide),sV u hq⟩
 rw[Y];refine Dp func240 λC hP hN=>?_;refine Gz ?_;refine WP.loopN [] (l.length-1) (λi g=>g.t 3=.ptr 3 0/\g.h 3=some (.box [.pv (Z n.1),.pv (Z n.2.1),.pv (Z n.2.2)] true false)/\g.t 1=.pv (bA l)/\g.t 2=.pv (Z 1)/\g.t 8=.pv (Z ((i+1:Nat):Int))/\g.t 7=.pv (Z (fg gf n p0 l (i+1)).2)) (by simp[fg,e,gf]) ?_;rintro i g hi ⟨g3,j,I,J,D,B⟩;obtain⟨m,hm⟩:∃m,m=i+1:=⟨_,rfl⟩
 have F:i+1+1=m+1:=by omega
 rw[<-hm]at D B;rw[F];by_cases d:m<l.length
 .have L:i64.wrap ((m:Int)+1)=((m+1:Nat):Int):=(aa (by omega) (by omega)).trans (by omega)
  have a:(m:Int)<(l.length:Int):=by omega
  have k:i<l.length-1:=by omega
  obtain⟨p,hp,G⟩:=z m;have o:=r m;generalize f:l[m]=v at *
  have A:l[m]?=some v:=by rw[an d,f]
  obtain⟨d1,U,V⟩:=b v (In A);obtain⟨d2,W,X⟩:=b p (In hp);have hs:=vM (bet:=gf) (n:=n) (p0:=p0) A;rw[hs,G];generalize H:(fg gf n p0 l m).2=q at *
  have s:∀h,l[q]'h=p:=λh=>by rw[an h]at hp;exact yAO hp
  generalize dk n v=x at *;generalize dk n p=y at *;have M:i64.wrap x=x:=aa;have N:i64.wrap y=y:=aa;have O:i64.wrap (-x)=-x:=aa;have P:i64.wrap (-y)=-y:=aa;have Q:i64.wrap (-1*x)=-x:=(aa (by omega) (by omega)).trans (by omega);have R:i64.wrap (-1*y)=-y:=(aa (by omega) (by omega)).trans (by omega);have S:i64.wrap (1*x)=x:=(aa (by omega) (by omega)).trans (by omega);have T:i64.wrap (1*y)=y:=(aa (by omega) (by omega)).trans (by omega);by_cases K:x<y
  .have c:gf x y=true:=by simp only[gf,Is];omega
   rw[c];simp only[yAn];exact GS (zAe g3 j I J D B d a L A f hp s o (zAc k M N O P Q R S T K))
  .have c:gf x y=false:=by simp only[gf,yAh];omega
   rw[c];simp only[ZY,yAi];refine GT (zAe g3 j I J D B d a L A f hp s o (zAc k M N O P Q R S T K)) ?_
   all_goals rw[H]
 .have E:m=l.length:=by omega
  have a:¬(m:Int)<(l.length:Int):=by omega
  subst E;exact Gy
theorem S3(n:Vc)(l:List Vc)(hn:aG 16384 n=true)(h1:1<=l.length)(h8:l.length<=8)(hl:l.all (aG 268435456)=true):jQ 240 (aW n) (bA l) (Z (-1)) (Z (em gg n l).2):=by
 obtain⟨p0,e⟩:∃p0,l[0]?=some p0:=⟨_,an (by omega)⟩
 have Y:em gg n l=fg gg n p0 l l.length:=by simp[em,e]
 have z:=pZ (bet:=gg) (n:=n) e;have r:=vN (bet:=gg) (n:=n) (p0:=p0) (l:=l) (by omega);have u:=xD hn
 have b:∀p∈l,aO prog 241 [.pv (aW n),.pv (aW p)] [] [] (.pv (Z (dk n p)))/\-13194139533312<=dk n p/\dk n p<=13194139533312:=λp hp=>by
  have hq:=gO (IV.1 hl p hp);exact⟨DI n p 16384 268435456 u hq (by decide),sV u hq⟩
 rw[Y];refine Dp func240 λC hP hN=>?_;refine Gz ?_;refine WP.loopN [] (l.length-1) (λi g=>g.t 3=.ptr 3 0/\g.h 3=some (.box [.pv (Z n.1),.pv (Z n.2.1),.pv (Z n.2.2)] true false)/\g.t 1=.pv (bA l)/\g.t 2=.pv (Z (-1))/\g.t 8=.pv (Z ((i+1:Nat):Int))/\g.t 7=.pv (Z (fg gg n p0 l (i+1)).2)) (by simp[fg,e,gg]) ?_;rintro i g hi ⟨g3,j,I,J,D,B⟩;obtain⟨m,hm⟩:∃m,m=i+1:=⟨_,rfl⟩
 have F:i+1+1=m+1:=by omega
 rw[<-hm]at D B;rw[F];by_cases d:m<l.length
 .have L:i64.wrap ((m:Int)+1)=((m+1:Nat):Int):=(aa (by omega) (by omega)).trans (by omega)
  have a:(m:Int)<(l.length:Int):=by omega
  have k:i<l.length-1:=by omega
  obtain⟨p,hp,G⟩:=z m;have o:=r m;generalize f:l[m]=v at *
  have A:l[m]?=some v:=by rw[an d,f]
  obtain⟨d1,U,V⟩:=b v (In A);obtain⟨d2,W,X⟩:=b p (In hp);have hs:=vM (bet:=gg) (n:=n) (p0:=p0) A;rw[hs,G];generalize H:(fg gg n p0 l m).2=q at *
  have s:∀h,l[q]'h=p:=λh=>by rw[an h]at hp;exact yAO hp
  generalize dk n v=x at *;generalize dk n p=y at *;have M:i64.wrap x=x:=aa;have N:i64.wrap y=y:=aa;have O:i64.wrap (-x)=-x:=aa;have P:i64.wrap (-y)=-y:=aa;have Q:i64.wrap (-1*x)=-x:=(aa (by omega) (by omega)).trans (by omega);have R:i64.wrap (-1*y)=-y:=(aa (by omega) (by omega)).trans (by omega);have S:i64.wrap (1*x)=x:=(aa (by omega) (by omega)).trans (by omega);have T:i64.wrap (1*y)=y:=(aa (by omega) (by omega)).trans (by omega);by_cases K:y<x
  .have c:gg x y=true:=by simp only[gg,Is];omega
   rw[c];simp only[yAn];exact GS (zAe g3 j I J D B d a L A f hp s o (zAc k M N O P Q R S T K))
  .have c:gg x y=false:=by simp only[gg,yAh];omega
   rw[c];simp only[ZY,yAi];refine GT (zAe g3 j I J D B d a L A f hp s o (zAc k M N O P Q R S T K)) ?_
   all_goals rw[H]
 .have E:m=l.length:=by omega
  have a:¬(m:Int)<(l.length:Int):=by omega
  subst E;exact Gy
theorem QU(h:∀w∈ws,0<=w):∀{i j:Nat},i<=j->aF ws i<=aF ws j:=λa=>kj h a
theorem Ma:wB w=true↔0<=w/\w<=65536:=by
 simp only[wB,yAI,yBf,yAh];omega
theorem Oy{l:List aq}(hp:aw l=true)(a:ws.length=l.length):dh l ws=true↔(∀w∈ws,0<=w/\w<=65536)/\1<=aF ws ws.length/\aF ws ws.length<=65536:=by
 simp only[dh,hp,a,yBJ,yAs,An,IV,Ma,yAI,yBf,yAh];rw[<-a];constructor
 all_goals rintro⟨b,c⟩;exact⟨b,by omega,by omega⟩
set_option maxRecDepth 4000 in
theorem S4(l:List aq)(ws:List Int)(hl:l.length<=9223372036854775807)(ax:ws.length<=9223372036854775807):aL 209 (aU l) (zs ws) (fo l ws):=by
 have cp:=xX l hl;have z6:bL aM=V6 0 0 0 0 0 0:=rfl
 have p:dh l ws=false->fo l ws=.tup [V6 0 0 0 0 0 0,Z 0,B false]:=λhf=>by unfold fo;rw[hf];rfl
 cases hp:aw l with
 |false=>
  rw[hp]at cp;rw[p (by simp[dh,hp])];refine Dp func209 λC hP hN=>?_;exact Gy
 |true=>
 rw[hp]at cp;by_cases A:ws.length=l.length
 case neg=>
  have P:((ws.length:Int)!=(l.length:Int))=true:=by simp;omega
  have ay:¬(ws.length:Int)=(l.length:Int):=by omega
  rw[p (by simp[dh,A])];refine Dp func209 λC hP hN=>?_;exact Gy
 have P:((ws.length:Int)!=(l.length:Int))=false:=by simp[A]
 have o:=Oy hp A;have Q:=hp;simp only[aw,An,Is]at Q;obtain⟨⟨a5,a6⟩,Y⟩:=Q;have L:=IV.1 Y;refine Dp func209 λC hP hN=>?_;refine Gz ?_;refine WP.loopN [] ws.length (λi a=>a.t 0=.pv (aU l)/\a.t 1=.pv (zs ws)/\a.t 4=.ptr 4 0/\a.h 4=some (.box (b6 aM) true false)/\a.t 7=.pv (Z (aF ws i))/\a.t 8=.pv (Z i)/\a.h 9=none/\(∀k w,k<i->ws[k]?=some w->0<=w/\w<=65536)/\0<=aF ws i/\aF ws i<=65536) (by simp[aF,aM]) ?_;rintro i a hi ⟨q,r,v,c,y,g8,b,hq,t0,t1⟩;by_cases d:i<ws.length
 .have E:=ai d ax
  have g:(i:Int)<(ws.length:Int):=by omega
  generalize m:ws[i]=w at *
  have z:ws[i]?=some w:=by rw[an d,m]
  have hT:aF ws (i+1)=aF ws i+w:=by simp only[aF,z,yAl]
  have wS:i64.wrap (65536-aF ws i)=65536-aF ws i:=aa;have f:=o.1;have K:=QU (ws:=ws);by_cases h9:w<0
  .rw[p (by
    cases N:dh l ws with
    |false=>rfl
    |true=>have:=((o.1 N).1 w (In z));omega)]
   exact Gy
  .by_cases W:65536-aF ws i<w
   .rw[p (by
     cases N:dh l ws with
     |false=>rfl
     |true=>
      obtain⟨c1,c2,c3⟩:=o.1 N;have:=K (λw E=>(c1 w E).1) (show i+1<=ws.length by omega)
      omega)]
    exact Gy
   .have wT:i64.wrap (aF ws i+w)=aF ws i+w:=aa
    have ad:∀k u,k<i+1->ws[k]?=some u->0<=u/\u<=65536:=λk u O R=>by
     by_cases e:k=i
     .subst e;rw[z]at R;injection R with R;subst R;omega
     .exact hq k u (by omega) R
    have t2:0<=aF ws i+w/\aF ws i+w<=65536:=by omega
    rw[hT];generalize aF ws i=T at *;refine GT (zAe q r v c y g8 b d g z m h9 wS W (gA wT E)) ?_
    all_goals exact⟨ad,t2⟩
 .have J:i=ws.length:=by omega
  have g:¬(i:Int)<(ws.length:Int):=by omega
  have f:∀w∈ws,0<=w/\w<=65536:=λw E=>by
   obtain⟨k,O⟩:=yAD E;exact hq k w (by have:=(th.1 O).1;omega) O
  subst J;by_cases h1:aF ws ws.length<1
  .rw[p (by
    cases N:dh l ws with
    |false=>rfl
    |true=>have:=o.1 N;omega)]
   exact Gy
  .have X:dh l ws=true:=o.2 ⟨f,by omega,by omega⟩
   have hR:fo l ws=.tup [bL (bo l ws ws.length),Z (aF ws ws.length),B true]:=by unfold fo;rw[X];rfl
   rw[hR];have U:∀w∈ws,wB w=true:=λw E=>Ma.2 (f w E);have H:=AR L U;have G:a.h 4=some (.box [.pv (Z 0),.pv (Z 0),.pv (Z 0),.pv (Z 0),.pv (Z 0),.pv (Z 0)] true false):=c;clear c o p hq z6;generalize aF ws ws.length=T at *;refine Gz ?_;refine WP.loopN [] l.length (λi a=>a.t 0=.pv (aU l)/\a.t 1=.pv (zs ws)/\a.t 4=.ptr 4 0/\a.h 4=some (.box [.pv (Z 0),.pv (Z 0),.pv (Z 0),.pv (Z 0),.pv (Z 0),.pv (Z 0)] true false)/\a.t 7=.pv (Z T)/\a.t 9=.ptr 9 0/\a.h 9=some (.box (b6 (bo l ws i)) true false)/\a.t 10=.pv (Z i)) (by simp[bo,aM,q,r,v,G,y]) ?_;clear q r v G y g8 b g d hi;rintro i a hi ⟨q,r,v,c,y,I,b,j⟩;by_cases d:i<l.length
   .have E:=ai d (by omega)
    have g:(i:Int)<(l.length:Int):=by omega
    have n:i<ws.length:=by omega
    generalize m:ws[i]=w at *
    have z:ws[i]?=some w:=by rw[an n,m]
    generalize F:l[i]=x at *
    have V:l[i]?=some x:=by rw[an d,F]
    have M:=f w (In z);have D:=L x (In V);rw[fY]at D
    have hS:bo l ws (i+1)=nd w (bo l ws i) x:=by simp only[bo,z,V]
    obtain⟨r1,r2,r3⟩:=H i;have a1:=ip (w:=w) (x:=x.1) M D.1 r1;have a2:=ip (w:=w) (x:=x.2.1) M D.2.1 r2;have a3:=ip (w:=w) (x:=x.2.2) M D.2.2 r3;clear H f U L;generalize bo l ws i=S at *;generalize bo l ws (i+1)=S' at *;subst hS;have d1:(bX w S.1 x.1).1=S.1.1+w*x.1.1:=rfl;have d2:(bX w S.1 x.1).2=S.1.2+w*x.1.2:=rfl;have d3:(bX w S.2.1 x.2.1).1=S.2.1.1+w*x.2.1.1:=rfl;have d4:(bX w S.2.1 x.2.1).2=S.2.1.2+w*x.2.1.2:=rfl;have d5:(bX w S.2.2 x.2.2).1=S.2.2.1+w*x.2.2.1:=rfl;have d6:(bX w S.2.2 x.2.2).2=S.2.2.2+w*x.2.2.2:=rfl;rw[d1,d2]at a1;rw[d3,d4]at a2;rw[d5,d6]at a3;have u1:i64.wrap (w*x.1.1)=w*x.1.1:=aa;have u2:i64.wrap (w*x.1.2)=w*x.1.2:=aa;have u3:i64.wrap (w*x.2.1.1)=w*x.2.1.1:=aa;have u4:i64.wrap (w*x.2.1.2)=w*x.2.1.2:=aa;have u5:i64.wrap (w*x.2.2.1)=w*x.2.2.1:=aa;have u6:i64.wrap (w*x.2.2.2)=w*x.2.2.2:=aa;have v1:i64.wrap (S.1.1+w*x.1.1)=S.1.1+w*x.1.1:=aa;have v2:i64.wrap (S.1.2+w*x.1.2)=S.1.2+w*x.1.2:=aa;have v3:i64.wrap (S.2.1.1+w*x.2.1.1)=S.2.1.1+w*x.2.1.1:=aa;have v4:i64.wrap (S.2.1.2+w*x.2.1.2)=S.2.1.2+w*x.2.1.2:=aa;have v5:i64.wrap (S.2.2.1+w*x.2.2.1)=S.2.2.1+w*x.2.2.1:=aa;have v6:i64.wrap (S.2.2.2+w*x.2.2.2)=S.2.2.2+w*x.2.2.2:=aa;clear a1 a2 a3 r1 r2 r3 d1 d2 d3 d4 d5 d6;refine Gz ?_;refine WP.loopN [] 3 (λk a=>a.t 0=.pv (aU l)/\a.t 1=.pv (zs ws)/\a.t 4=.ptr 4 0/\a.h 4=some (.box [.pv (Z 0),.pv (Z 0),.pv (Z 0),.pv (Z 0),.pv (Z 0),.pv (Z 0)] true false)/\a.t 7=.pv (Z T)/\a.t 9=.ptr 9 0/\a.h 9=some (.box (lA S x w k) true false)/\a.t 10=.pv (Z i)/\a.t 11=.pv (Z k)) (by simp[q,r,v,c,y,I,b,j,lA]) ?_;clear q r v c y I b j;rintro k a O ⟨q,r,v,c,y,I,b,j,s⟩;rcases gx O with rfl|rfl|rfl|rfl
    all_goals (simp[lA,bX]at b s)
    .skip
     with_reducible repeat' (first|refine Sp.h ?_|((first|refine Wd ?_|refine Ss.h ?_|(refine Sb.h ?_ ?_ ?_<;>(try intro hgd)<;>try exact Xy))<;>simp -implicitDefEqProofs (maxSteps:=2000000) [hP,hN,q,r,v,c,y,I,b,j,s,z,m,V,F,d,n,u1,u2,v1,v2,lA,bX]<;>try refine Ya ?_)|refine X2 ?_ ?_|(refine Xd ?_ ?_<;>intro hcd<;>try exact Xx))
    .skip
     with_reducible repeat' (first|refine Sp.h ?_|((first|refine Wd ?_|refine Ss.h ?_|(refine Sb.h ?_ ?_ ?_<;>(try intro hgd)<;>try exact Xy))<;>simp -implicitDefEqProofs (maxSteps:=2000000) [hP,hN,q,r,v,c,y,I,b,j,s,z,m,V,F,d,n,u3,u4,v3,v4,lA,bX]<;>try refine Ya ?_)|refine X2 ?_ ?_|(refine Xd ?_ ?_<;>intro hcd<;>try exact Xx))
    .skip
     with_reducible repeat' (first|refine Sp.h ?_|((first|refine Wd ?_|refine Ss.h ?_|(refine Sb.h ?_ ?_ ?_<;>(try intro hgd)<;>try exact Xy))<;>simp -implicitDefEqProofs (maxSteps:=2000000) [hP,hN,q,r,v,c,y,I,b,j,s,z,m,V,F,d,n,u5,u6,v5,v6,lA,bX]<;>try refine Ya ?_)|refine X2 ?_ ?_|(refine Xd ?_ ?_<;>intro hcd<;>try exact Xx))
    .skip
     with_reducible repeat' (first|refine Sp.h ?_|((first|refine Wd ?_|refine Ss.h ?_|(refine Sb.h ?_ ?_ ?_<;>(try intro hgd)<;>try exact Xy))<;>simp -implicitDefEqProofs (maxSteps:=2000000) [hP,hN,q,r,v,c,y,I,b,j,s,d,E,nd,bX]<;>try refine Ya ?_)|refine X2 ?_ ?_|(refine Xd ?_ ?_<;>intro hcd<;>try exact Xx))
   .have J:i=l.length:=by omega
    have g:¬(i:Int)<(l.length:Int):=by omega
    subst J;rw[<-A]at b;exact Gy
theorem DJ(x:Int)(h1:-4611686018427387904<=x)(d:x<=4611686018427387904):aV 212 (Z x) (Z (max x (-x))):=by
 have e:i64.wrap (-x)=-x:=aa;have f:i64.wrap (0-x)=-x:=(aa (n:=0-x) (by omega) (by omega)).trans (by omega)
 have c:∀a b:Int,(if a<b then b else a)=max a b:=λa b=>by omega
 refine Dp func212 λC hP hN=>?_;exact Gy
theorem Oz(x y z r:Int):nk [x,y,z] r=if x<=r/\y<=r/\z<=r then r*r-x*x-y*y-z*z else -1:=by
 unfold nk
 have:[x,y,z].all (λx=>decide (x<=r))=decide (x<=r/\y<=r/\z<=r):=by simp[Bool.and_assoc]
 rw[this];simp[iG]
theorem OA{u v:Iv}{T:Int}(a:1<=T/\T<=65536)(h1:-281474976710656<=u.1-v.2/\u.1-v.2<=281474976710656)(b:-281474976710656<=u.2-v.1/\u.2-v.1<=281474976710656):
 aO prog 211 [.pv (Z (max (u.1-v.2) (max (-(u.1-v.2)) (max (u.2-v.1) (-(u.2-v.1)))))),.pv (Z T)] [] [] (.pv (Z (bt u v T)))/\0<=bt u v T:=by
 have hf:max (u.1-v.2) (max (-(u.1-v.2)) (max (u.2-v.1) (-(u.2-v.1))))=ga (u.1-v.2) (u.2-v.1):=by unfold ga;omega
 have c:=vJ h1 b;have:=Hb (ga (u.1-v.2) (u.2-v.1)) T (by omega);rw[sh (by omega) (by omega) (by omega),I6 (by omega)]at this;rw[hf];exact⟨this,(zd c.1 (by omega) a.1 a.2).1⟩
set_option maxRecDepth 4000 in
theorem XC(left right:List Int)(a:List aq)(ra:Int)(b:List aq)(rb:Int)(h1:left.length<=9223372036854775807)(h2:right.length<=9223372036854775807)(h3:a.length<=9223372036854775807)(h4:b.length<=9223372036854775807):MC 135 (zs left) (zs right) (aU a) (Z ra) (aU b) (Z rb) (.tup [Z (ii left right a ra b rb),B (jk left right a ra b rb)]):=by
 have ca:=S4 a left h3 h1;have Y:=S4 b right h4 h2;have G:=DM ra;have L:=DM rb;have W:bL aM=V6 0 0 0 0 0 0:=rfl;have e:jk left right a ra b rb=(dh a left&&dh b right&&decide (aF left left.length=aF right right.length)&&bw ra 0 1048576&&bw rb 0 1048576):=rfl
 have hX:ii left right a ra b rb=if jk left right a ra b rb then nk (dN (bo a left left.length) (bo b right right.length) (aF left left.length)) (ra+rb)else 0:=rfl
 rw[hX]
 cases H:dh a left with
 |false=>
  rw[H]at e;simp only[yAG]at e;rw[e];simp only[ZY,yAi];simp only[fo,H,ZY,yAi,W]at ca;cases F:dh b right
  all_goals (simp only[fo,F,ZY,yAi,yAn,W]at Y)
  .skip
   refine Dp func135 λC hP hN=>?_;exact Gy
  .skip
   generalize bo b right right.length=V at *;generalize aF right right.length=X at *;refine Dp func135 λC hP hN=>?_;exact Gy
 |true=>
 simp only[fo,H,yAn]at ca
 cases F:dh b right with
 |false=>
  rw[F]at e;simp only[yAG,yBm]at e;rw[e];simp only[ZY,yAi];simp only[fo,F,ZY,yAi,W]at Y;generalize bo a left left.length=U at *;generalize aF left left.length=T at *;refine Dp func135 λC hP hN=>?_;exact Gy
 |true=>
 simp only[fo,F,yAn]at Y;have A:=vG H;have D:=vG F;have I:=vH H;rw[H,F]at e;simp only[yAs]at e;clear hX H F W;generalize bo a left left.length=U at *;generalize bo b right right.length=V at *;generalize aF left left.length=T at *;generalize aF right right.length=X at *;by_cases hT:T=X
 case neg=>
  have a8:(T !=X)=true:=by simp[hT]
  rw[yA4 hT]at e;simp only[yAG]at e;rw[e];simp only[ZY,yAi];clear A D;refine Dp func135 λC hP hN=>?_;exact Gy
 subst hT;simp only[yBJ,yAs]at e
 cases l:bw ra 0 1048576 with
 |false=>
  rw[l]at e G;simp only[yAG]at e;rw[e];simp only[ZY,yAi];clear A D;refine Dp func135 λC hP hN=>?_;exact Gy
 |true=>
 cases E:bw rb 0 1048576 with
 |false=>
  rw[E]at e L;rw[l]at G;simp only[yBm]at e;rw[e];simp only[ZY,yAi];clear A D;refine Dp func135 λC hP hN=>?_;exact Gy
 |true=>
 rw[l,E]at e;rw[l]at G;rw[E]at L;simp only[yBj]at e;rw[e];simp only[yAn];simp only[bw,An,Is]at l E;obtain⟨c,M⟩:∃c,c=ra+rb:=⟨_,rfl⟩;have n:i64.wrap (ra+rb)=c:=(aa (by omega) (by omega)).trans M.symm;rw[<-M];have bk:=oq (x:=c) (m:=2097152) (by omega) (by omega);have a7:i64.wrap (c*c)=c*c:=aa;obtain⟨⟨⟨a1,a2⟩,a3,a4⟩,⟨⟨b1,b2⟩,b3,b4⟩,⟨c1,c2⟩,c3,c4⟩:=A;obtain⟨⟨⟨d1,d2⟩,d3,d4⟩,⟨⟨e1,e2⟩,e3,e4⟩,⟨f1,f2⟩,f3,f4⟩:=D;have k0:=OA (u:=U.1) (v:=V.1) I (by omega) (by omega);have k1:=OA (u:=U.2.1) (v:=V.2.1) I (by omega) (by omega);have k2:=OA (u:=U.2.2) (v:=V.2.2) I (by omega) (by omega)
 have R:∀a b:Int,(if a<b then b else a)=max a b:=λa b=>by omega
 have P:i64.wrap (U.1.1-V.1.2)=U.1.1-V.1.2:=aa;have Q:i64.wrap (U.1.2-V.1.1)=U.1.2-V.1.1:=aa;have ax:i64.wrap (U.2.1.1-V.2.1.2)=U.2.1.1-V.2.1.2:=aa;have ay:i64.wrap (U.2.1.2-V.2.1.1)=U.2.1.2-V.2.1.1:=aa;have a5:i64.wrap (U.2.2.1-V.2.2.2)=U.2.2.1-V.2.2.2:=aa;have a6:i64.wrap (U.2.2.2-V.2.2.1)=U.2.2.2-V.2.2.1:=aa;have bs:=DJ (U.1.1-V.1.2) (by omega) (by omega);have b0:=DJ (U.1.2-V.1.1) (by omega) (by omega);have b5:=DJ (U.2.1.1-V.2.1.2) (by omega) (by omega);have b7:=DJ (U.2.1.2-V.2.1.1) (by omega) (by omega);have b8:=DJ (U.2.2.1-V.2.2.2) (by omega) (by omega);have b9:=DJ (U.2.2.2-V.2.2.1) (by omega) (by omega);clear a1 a2 a3 a4 b1 b2 b3 b4 c1 c2 c3 c4 d1 d2 d3 d4 e1 e2 e3 e4 f1 f2 f3 f4;have hg:dN U V T=[bt U.1 V.1 T,bt U.2.1 V.2.1 T,bt U.2.2 V.2.2 T]:=rfl;rw[hg,Oz];generalize bt U.1 V.1 T=x at *;generalize bt U.2.1 V.2.1 T=y at *;generalize bt U.2.2 V.2.2 T=z at *;obtain⟨k0,x0⟩:=k0;obtain⟨k1,y0⟩:=k1;obtain⟨k2,z0⟩:=k2
 have qx:x<=c->0<=x*x/\x*x<=4398046511104:=λh=>by have:=oq (x:=x) (m:=2097152) x0 (by omega);omega
 have qy:y<=c->0<=y*y/\y*y<=4398046511104:=λh=>by have:=oq (x:=y) (m:=2097152) y0 (by omega);omega
 have qz:z<=c->0<=z*z/\z*z<=4398046511104:=λh=>by have:=oq (x:=z) (m:=2097152) z0 (by omega);omega
 refine Dp func135 λC hP hN=>?_;refine GT (gA n a7) ?_;refine WP.loopN [] 3 (λk o=>o.t 3=.pv (Z ra)/\o.t 5=.pv (Z rb)/\o.t 14=.ptr 14 0/\o.h 14=some (.box [.pv (Z U.1.1),.pv (Z U.1.2),.pv (Z U.2.1.1),.pv (Z U.2.1.2),.pv (Z U.2.2.1),.pv (Z U.2.2.2)] true false)/\o.t 17=.ptr 17 0/\o.h 17=some (.box [.pv (Z V.1.1),.pv (Z V.1.2),.pv (Z V.2.1.1),.pv (Z V.2.1.2),.pv (Z V.2.2.1),.pv (Z V.2.2.2)] true false)/\o.t 15=.pv (Z T)/\o.t 21=.pv (Z k)/\o.t 20=.pv (Z (if k=0 then c*c else if k=1 then c*c-x*x else if k=2 then c*c-x*x-y*y else c*c-x*x-y*y-z*z))/\(0<k->x<=c)/\(1<k->y<=c)/\(2<k->z<=c)) (by simp) ?_;rintro k o hk ⟨g3,S,p,f,s,g,r,j,i,p0,p1,p2⟩;rcases gx hk with rfl|rfl|rfl|rfl
 all_goals (simp at i j)
 .by_cases K:c<x
  .have d:(if x<=c/\y<=c/\z<=c then c*c-x*x-y*y-z*z else -1)=-1:=L4 (by omega)
   rw[d];exact GS (zAd g3 S p f s g r i j R P (be Q n K))
  .have q:=qx (by omega)
   have N:i64.wrap (x*x)=x*x:=aa;have O:i64.wrap (c*c-x*x)=c*c-x*x:=aa;refine GT (zAe g3 S p f s g r i j R P Q n K (gA N O)) ?_
   all_goals omega
 .have J:=p0 (by omega)
  have q':=qx J;by_cases K:c<y
  .have d:(if x<=c/\y<=c/\z<=c then c*c-x*x-y*y-z*z else -1)=-1:=L4 (by omega)
   rw[d];exact Gy
  .have q:=qy (by omega)
   have N:i64.wrap (y*y)=y*y:=aa;have O:i64.wrap (c*c-x*x-y*y)=c*c-x*x-y*y:=aa;refine GT (zAe g3 S p f s g r i j R ax ay n K (gA N O)) ?_
   all_goals omega
 .have J:=p0 (by omega)
  have ad:=p1 (by omega);have q':=qx J;have bq:=qy ad;by_cases K:c<z
  .have d:(if x<=c/\y<=c/\z<=c then c*c-x*x-y*y-z*z else -1)=-1:=L4 (by omega)
   rw[d];exact Gy
  .have q:=qz (by omega)
   have N:i64.wrap (z*z)=z*z:=aa;have O:i64.wrap (c*c-x*x-y*y-z*z)=c*c-x*x-y*y-z*z:=aa;refine GT (zAe g3 S p f s g r i j R a5 a6 n K (gA N O)) ?_
   all_goals omega
 .have d:(if x<=c/\y<=c/\z<=c then c*c-x*x-y*y-z*z else -1)=c*c-x*x-y*y-z*z:=yAb ⟨p0 (by omega),p1 (by omega),p2 (by omega)⟩
  rw[d];exact Gy
theorem Vi(left right:List Int)(a:List aq)(ra:Int)(b:List aq)(rb:Int)(h1:left.length<=9223372036854775807)(d:right.length<=9223372036854775807)(f:a.length<=9223372036854775807)(g:b.length<=9223372036854775807):MC 75 (zs left) (zs right) (aU a) (Z ra) (aU b) (Z rb) (B (jk left right a ra b rb&&decide (0<=ii left right a ra b rb))):=by
 have c:=XC left right a ra b rb h1 d f g;generalize ii left right a ra b rb=e at *;cases i:jk left right a ra b rb<;>rw[i]at c
 all_goals
  refine Dp func75 λC hP hN=>?_;exact Gy
theorem S5(a b:List Vc)(rho steps:Int)(ha:a.length<=9223372036854775807)(hb:b.length<=9223372036854775807):yn 177 (bA a) (bA b) (Z rho) (Z steps) (Uo (mu a b rho steps)):=by
 have ca:=SW a ha;have cb:=SW b hb
 have b4:vP a b rho steps=false->mu a b rho steps=(0,⟨[],[],(0,0,0),0⟩):=λh=>by simp[mu,h]
 have hd:vP a b rho steps=(jl a&&jl b&&bw rho 0 2097152&&bw steps 0 64):=rfl
 cases hA:jl a with
 |false=>
  rw[hA]at ca;rw[b4 (by rw[hd,hA];rfl)];refine Dp func177 λC hP hN=>?_;exact GS trivial
 |true=>
 rw[hA]at ca
 cases hB:jl b with
 |false=>
  rw[hB]at cb;rw[b4 (by rw[hd,hB,yBm];rfl)];refine Dp func177 λC hP hN=>?_;exact GS trivial
 |true=>
 rw[hB]at cb;by_cases b8:rho<0\/2097152<rho\/steps<0\/64<steps
 .have hf:vP a b rho steps=false:=by
   cases h:vP a b rho steps with
   |false=>rfl
   |true=>
    rw[hd]at h;simp only[bw,An,Is]at h;omega
  rw[b4 hf];rcases b8 with h|h|h|h
  all_goals
   refine Dp func177 λC hP hN=>?_;exact GS h
 have q1:¬rho<0:=by omega
 have q2:¬2097152<rho:=by omega
 have q3:¬steps<0:=by omega
 have q4:¬64<steps:=by omega
 have ia:=oZ.1 hA;have ib:=oZ.1 hB;obtain⟨O,cx⟩:∃O:Nat,steps=O:=⟨steps.toNat,by omega⟩;subst cx
 have hr:mu a b rho O=sQ a b rho O (O+1) (Ch a b):=by
  have:vP a b rho O=true:=by
   rw[hd,hA,hB];simp[bw];omega
  simp[mu,this]
 rw[hr];obtain⟨R,hR⟩:∃R,R=sQ a b rho O (O+1) (Ch a b):=⟨_,rfl⟩;rw[<-hR]
 have f1:(8:Int)*(a.length:Int)<=281474976710656:=by omega
 have f2:(8:Int)*(b.length:Int)<=281474976710656:=by omega
 have f3:(a.length:Int)<=9223372036854775807:=by omega
 have f4:(b.length:Int)<=9223372036854775807:=by omega
 have f5:0<a.length:=by omega
 have f6:0<b.length:=by omega
 refine Dp func177 λC hP hN=>?_;refine GT (zAc q1 q2 q3 q4 f1 f2 f3 f4 f5 f6) ?_;refine WP.loopN [10,11,12,16] O (λi V=>∃(s:NSt)(X Y:AV),NsOk a b s/\s.r=i/\sQ a b rho O (O+1-i) s=R/\V.t 0=.pv (bA a)/\V.t 1=.pv (bA b)/\V.t 2=.pv (Z rho)/\V.t 3=.pv (Z O)/\V.t 8=.ptr 8 0/\V.h 8=some (.box [.pv (Z 0),.pv (Z 0),.pv (Z 0),.pv (Z 0),.pv (.val (.slice none 0 0)),.pv (.val (.slice none 0 0)),.pv (Z 0)] true false)/\V.t 9=.ptr 9 0/\V.h 10=none/\V.h 11=none/\V.h 12=none/\V.h 16=none/\V.h 9=some (.box [.pv (Z 0),.pv (Z s.n.1),.pv (Z s.n.2.1),.pv (Z s.n.2.2),X,Y,.pv (Z s.r)] true false)/\((X=.arr 47 a.length/\Y=.arr 50 b.length/\V.h 47=some (.row 2 1 (s.w.map Z) 0)/\V.h 50=some (.row 2 1 (s.v.map Z) 0))\/(X=.pv (zs s.w)/\Y=.pv (zs s.v)))) ?_ ?_
 .refine⟨Ch a b,.arr 47 a.length,.arr 50 b.length,LG ia.1 ib.1,rfl,hR.symm,?_⟩
  simp[Ch]
 rintro i V hi ⟨s,X,Y,hs,ck,c,W,g1,g2,g3,g8,F,g9,A,B,D,E,l,P⟩
 have cw:O+1-i=(O-i)+1:=by omega
 rw[cw,sQ]at c;obtain⟨U,T,n0,r⟩:=s;have b2:=hs.w;have b1:=hs.v;have k:=hs.wl;have j:=hs.vl;simp only at b2 b1 k j ck l P;subst ck;have f:=Cf (rho:=rho) (steps:=O) hA hB hs;have Q:=NT hA hB hs;have c2:=SX a U ia.2.1 k ia.2.2 b2;have c3:=SX b T ib.2.1 j ib.2.2 b1;have cD:=oY ia.2.2 b2 a.length (by omega);have cL:=oY ib.2.2 b1 b.length (by omega);have cM:=Ov (eG a U a.length) (eG b T b.length) (pE cD (by decide)) (pE cL (by decide));have hT:bz (eG a U a.length) (eG b T b.length)=dY a U b T:=rfl;rw[hT]at cM;have cN:=XB (dY a U b T) rho Q ⟨by omega,by omega⟩;have ay:=Sx Q;have b5:=SZ (kl (dY a U b T)) (pE ay (by decide));have ad:=LF (kl (dY a U b T)) (pE ay (by decide));have cr:kl (dY a U b T)=((dY a U b T).1.tdiv 65536,(dY a U b T).2.1.tdiv 65536,(dY a U b T).2.2.tdiv 65536):=rfl;rw[uw]at c f;simp only at c f
 have xw:∀y:Int,-35184372088832<=y->y<=35184372088832->i64.wrap (y.tdiv 65536)=y.tdiv 65536:=λy p q=>by
  have e:=Int.natAbs_tdiv_le_natAbs y 65536;exact aa (by omega) (by omega)
 have x1:=xw _ Q.1.1 Q.1.2;have x2:=xw _ Q.2.1.1 Q.2.1.2;have x3:=xw _ Q.2.2.1 Q.2.2.2;clear xw hs;generalize eG a U a.length=S1 at *;generalize eG b T b.length=S2 at *;generalize dY a U b T=d at *
 cases hc:ze d rho with
 |true=>
  rw[hc]at cN c;simp only[yAn]at c;rw[<-c];rcases P with⟨rfl,rfl,G,H⟩|⟨rfl,rfl⟩
  .skip
   exact GS (zAe W g1 g2 g3 g8 F g9 A B D E l G H (gA k j))
  .skip
   exact GS (zAd W g1 g2 g3 g8 F g9 A B D E (be l k j))
 |false=>
 rw[hc]at cN c f;simp only[ZY,yAi]at c f
 have cd:bT (kl d)=bT ((d.1.tdiv 65536,d.2.1.tdiv 65536,d.2.2.tdiv 65536)):=by rw[<-cr]
 generalize c7:kl d=x at *;subst cr;generalize c4:bT (d.1.tdiv 65536,d.2.1.tdiv 65536,d.2.2.tdiv 65536)=n at *;clear cd
 cases cf:nz n with
 |false=>
  rw[cf]at b5 c;simp only[yAn]at c;rw[<-c];rcases P with⟨rfl,rfl,G,H⟩|⟨rfl,rfl⟩
  .skip
   exact GS (zAe W g1 g2 g3 g8 F g9 A B D E l G H (it k j x1 x2 x3))
  .skip
   exact GS (zAe W g1 g2 g3 g8 F g9 A B D E l k j (be x1 x2 x3))
 |true=>
 rw[cf]at b5 c f;simp only[Bool.true_eq_false,yAi]at c f;have cO:=S0 n a ad ia.1 ia.2.1 ia.2.2;have cP:=S3 n b ad ib.1 ib.2.1 ib.2.2;have cQ:=Tl n;have hq:=AQ n;have l1:=Cg (bet:=gf) ad ia.2.2;have l2:=Cg (bet:=gg) ad ib.2.2;have i1:=sR (bet:=gf) (n:=n) ia.1;have i2:=sR (bet:=gg) (n:=n) ib.1;obtain⟨p0,ch⟩:∃p0,a[0]?=some p0:=⟨_,an (by omega)⟩;obtain⟨p1,cj⟩:∃p1,b[0]?=some p1:=⟨_,an (by omega)⟩;obtain⟨I,o,cn⟩:=pZ (bet:=gf) (n:=n) ch a.length;obtain⟨pb,z,cp⟩:=pZ (bet:=gg) (n:=n) cj b.length
 have b7:em gf n a=fg gf n p0 a a.length:=by simp[em,ch]
 have b9:em gg n b=fg gg n p1 b b.length:=by simp[em,cj]
 rw[<-b7]at o cn;rw[<-b9]at z cp;clear b7 b9;generalize em gf n a=lo at *;generalize em gg n b=N at *;generalize eH n=q at *;have c5:=cT (a:=q) (b:=rho) 32768 2097152 (by omega) (by omega) (by omega) (by omega);have e4:i64.wrap (lo.1-N.1)=lo.1-N.1:=aa;have e5:i64.wrap (q*rho)=q*rho:=aa;generalize J:q*rho=qr at *
 have K:∀h,a[lo.2]'h=I:=λh=>by rw[an h]at o;exact yAO o
 have L:∀h,b[N.2]'h=pb:=λh=>by rw[an h]at z;exact yAO z
 have sa:=gO (IV.1 ia.2.2 I (In o));have sb:=gO (IV.1 ib.2.2 pb (In z));have cu:=DI n I 16384 268435456 (xD ad) sa (by decide);have cv:=DI n pb 16384 268435456 (xD ad) sb (by decide);rw[<-cn]at cu;rw[<-cp]at cv;have cA:=Ov I pb (pE sa (by decide)) (pE sb (by decide));have ct:=AH sa sb;have bq:gT 536870912 (d.1.tdiv 65536,d.2.1.tdiv 65536,d.2.2.tdiv 65536):=ay;have b3:=ot (d.1.tdiv 65536,d.2.1.tdiv 65536,d.2.2.tdiv 65536) (bz I pb);rw[o,z]at c f;simp only[yAl]at c f;have w1:i64.wrap lo.1=lo.1:=aa;have w2:i64.wrap N.1=N.1:=aa;by_cases g:qr<lo.1-N.1
 .rw[yAb g]at c
  simp only at c;rw[<-c];rcases P with⟨rfl,rfl,G,H⟩|⟨rfl,rfl⟩
  .skip
   exact GS (zAe W g1 g2 g3 g8 F g9 A B D E l G H (zAe k j x1 x2 x3 o z K L i1 i2 e4 e5 J g))
  .skip
   exact GS (zAe W g1 g2 g3 g8 F g9 A B D E l k j (zAd x1 x2 x3 o z K L i1 i2 e4 e5 (gA J g)))
 rw[L4 g]at c f;have cB:=Ov (d.1.tdiv 65536,d.2.1.tdiv 65536,d.2.2.tdiv 65536) (bz I pb) (pE bq (by decide)) (pE ct (by decide));have he:=AH bq ct;have cU:=DI (d.1.tdiv 65536,d.2.1.tdiv 65536,d.2.2.tdiv 65536) (bz (d.1.tdiv 65536,d.2.1.tdiv 65536,d.2.2.tdiv 65536) (bz I pb)) 536870912 1073741824 bq he (by decide);have cV:=DI (bz (d.1.tdiv 65536,d.2.1.tdiv 65536,d.2.2.tdiv 65536) (bz I pb)) (bz (d.1.tdiv 65536,d.2.1.tdiv 65536,d.2.2.tdiv 65536) (bz I pb)) 1073741824 1073741824 he he (by decide);obtain⟨r1,r2,r3⟩:=sP (m:=536870912) (n:=1073741824) bq he;obtain⟨t1,t2,t3⟩:=sP (m:=1073741824) (n:=1073741824) he he
 have hu:-1729382256910270464<=dk (d.1.tdiv 65536,d.2.1.tdiv 65536,d.2.2.tdiv 65536) (bz (d.1.tdiv 65536,d.2.1.tdiv 65536,d.2.2.tdiv 65536) (bz I pb))/\dk (d.1.tdiv 65536,d.2.1.tdiv 65536,d.2.2.tdiv 65536) (bz (d.1.tdiv 65536,d.2.1.tdiv 65536,d.2.2.tdiv 65536) (bz I pb))<=1729382256910270464:=by unfold dk;omega
 have hv:dk (bz (d.1.tdiv 65536,d.2.1.tdiv 65536,d.2.2.tdiv 65536) (bz I pb)) (bz (d.1.tdiv 65536,d.2.1.tdiv 65536,d.2.2.tdiv 65536) (bz I pb))<=3458764513820540928:=by unfold dk;omega
 have cz:=JZ (bz (d.1.tdiv 65536,d.2.1.tdiv 65536,d.2.2.tdiv 65536) (bz I pb))
 have b0:pT (d.1.tdiv 65536,d.2.1.tdiv 65536,d.2.2.tdiv 65536) (bz I pb)=if dk (d.1.tdiv 65536,d.2.1.tdiv 65536,d.2.2.tdiv 65536) (bz (d.1.tdiv 65536,d.2.1.tdiv 65536,d.2.2.tdiv 65536) (bz I pb))<=0 then 0 else min 256 (dk (d.1.tdiv 65536,d.2.1.tdiv 65536,d.2.2.tdiv 65536) (bz (d.1.tdiv 65536,d.2.1.tdiv 65536,d.2.2.tdiv 65536) (bz I pb))/max 1 (dk (bz (d.1.tdiv 65536,d.2.1.tdiv 65536,d.2.2.tdiv 65536) (bz I pb)) (bz (d.1.tdiv 65536,d.2.1.tdiv 65536,d.2.2.tdiv 65536) (bz I pb))/256)):=rfl
 clear r1 r2 r3 t1 t2 t3 he;generalize pT (d.1.tdiv 65536,d.2.1.tdiv 65536,d.2.2.tdiv 65536) (bz I pb)=t at *;generalize dk (d.1.tdiv 65536,d.2.1.tdiv 65536,d.2.2.tdiv 65536) (bz (d.1.tdiv 65536,d.2.1.tdiv 65536,d.2.2.tdiv 65536) (bz I pb))=u at *;generalize dk (bz (d.1.tdiv 65536,d.2.1.tdiv 65536,d.2.2.tdiv 65536) (bz I pb)) (bz (d.1.tdiv 65536,d.2.1.tdiv 65536,d.2.2.tdiv 65536) (bz I pb))=v at *;generalize bz (d.1.tdiv 65536,d.2.1.tdiv 65536,d.2.2.tdiv 65536) (bz I pb)=e at *;generalize bz I pb=c8 at *;by_cases a8:r=O
 .rw[yAb a8]at c
  simp only at c;rw[<-c];subst a8;rcases P with⟨rfl,rfl,G,H⟩|⟨rfl,rfl⟩
  .skip
   exact GS (zAe W g1 g2 g3 g8 F g9 A B D E l G H (zAe k j x1 x2 x3 o z K L i1 i2 e4 e5 J g))
  .skip
   exact GS (zAe W g1 g2 g3 g8 F g9 A B D E l k j (zAd x1 x2 x3 o z K L i1 i2 e4 e5 (gA J g)))
 rw[L4 a8]at c f
 have ax:¬(O:Int)<=(r:Int):=by omega
 have M:¬O<=r:=by omega
 by_cases S:u<=0
 .rw[yAb S]at b0
  rw[yAb b0]at c;simp only at c;rw[<-c];rcases P with⟨rfl,rfl,G,H⟩|⟨rfl,rfl⟩
  .skip
   exact GS (zAe W g1 g2 g3 g8 F g9 A B D E l G H (zAe k j x1 x2 x3 o z K L i1 i2 e4 e5 J (go g ax M S)))
  .skip
   exact GS (zAe W g1 g2 g3 g8 F g9 A B D E l k j (zAe x1 x2 x3 o z K L i1 i2 e4 e5 J g ax (gA M S)))
 rw[L4 S]at b0;have a1:v.tdiv 256=v/256:=yAp cz;have a2:i64.wrap (v/256)=v/256:=aa
 have hm:1<=max 1 (v/256):=by omega
 generalize bs:max 1 (v/256)=m at *;have a3:u.tdiv m=u/m:=yAp (by omega);have h4:u/m<=u:=yCn m (by omega);have h5:0<=u/m:=yBV (by omega) (by omega);have a4:i64.wrap (u/m)=u/m:=aa
 have a5:¬m=0:=by omega
 have a6:(m==0)=false:=by simp;omega
 have a7:=b0.symm;by_cases bk:t=0
 .rw[yAb bk]at c
  simp only at c;rw[<-c];rw[bk]at a7;rcases P with⟨rfl,rfl,G,H⟩|⟨rfl,rfl⟩
  .skip
   exact GS (zAe W g1 g2 g3 g8 F g9 A B D E l G H (zAe k j x1 x2 x3 o z K L i1 i2 e4 e5 J (zAd g ax M S a1 a2 bs a3 a4 a5 a6 a7)))
  .skip
   exact GS (zAe W g1 g2 g3 g8 F g9 A B D E l k j (zAe x1 x2 x3 o z K L i1 i2 e4 e5 J g ax (zAc M S a1 a2 bs a3 a4 a5 a6 a7)))
 rw[L4 bk]at c f;have cg:=f.2 _ rfl;simp only at c
 have cm:(t==0)=false:=by simp;omega
 have c0:=SY U t lo.2 (by omega) b2 (by omega) b3.1 b3.2;have c1:=SY T t N.2 (by omega) b1 (by omega) b3.1 b3.2;have cq:i64.wrap ((r:Int)+1)=(r:Int)+1:=aa;rcases P with⟨rfl,rfl,G,H⟩|⟨rfl,rfl⟩
 .skip
  refine GT (zAe W g1 g2 g3 g8 F g9 A B D E l G H (zAe k j x1 x2 x3 o z K L i1 i2 e4 e5 J (zAe g ax M S a1 a2 bs a3 a4 a5 a6 a7 bk cm cq))) ?_;refine⟨by omega,⟨mM U lo.2 t,mM T N.2 t,n,r+1⟩,cg,by simp only,c,?_⟩;simp;exact⟨_,_,⟨rfl,rfl⟩,Or.inr ⟨rfl,rfl⟩⟩
 .skip
  refine GT (zAe W g1 g2 g3 g8 F g9 A B D E l k j (zAe x1 x2 x3 o z K L i1 i2 e4 e5 J g ax (zAd M S a1 a2 bs a3 a4 a5 a6 a7 bk (gA cm cq)))) ?_;refine⟨by omega,⟨mM U lo.2 t,mM T N.2 t,n,r+1⟩,cg,by simp only,c,?_⟩;simp;exact⟨_,_,⟨rfl,rfl⟩,Or.inr ⟨rfl,rfl⟩⟩
def DK(v:Vc)(j:Nat):List AV:=[.pv (Z (if 0<j then v.1 else 0)),.pv (Z (if 1<j then v.2.1 else 0)),.pv (Z (if 2<j then v.2.2 else 0))]
theorem XD(a b:List aq)(ha:a.length<=9223372036854775807)(hb:b.length<=9223372036854775807):aL 297 (aU a) (aU b) (.tup [aW (sX a b),B (vQ a b)]):=by
 have ca:=xX a ha;have cb:=xX b hb
 have hN:sX a b=if aw a&&aw b then bT (qN a b)else(0,0,0):=rfl
 have hM:vQ a b=(aw a&&aw b&&nz (bT (qN a b))):=rfl;rw[hN,hM]
 cases P:aw a with
 |false=>
  rw[P]at ca;refine Dp func297 λC hP hN=>?_;exact Gy
 |true=>
 rw[P]at ca
 cases Q:aw b with
 |false=>
  rw[Q]at cb;refine Dp func297 λC hP hN=>?_;exact Gy
 |true=>
 rw[Q]at cb;have c1:=DL a ha;have c2:=DL b hb;have ax:=QE P Q;have c5:=SZ (qN a b) ax;have W:=(eP P).2.1;have X:=(eP Q).2.1;have U:qN a b=((aI (bc a) a.length).1*b.length-(aI (bc b) b.length).1*a.length,(aI (bc a) a.length).2.1*b.length-(aI (bc b) b.length).2.1*a.length,(aI (bc a) a.length).2.2*b.length-(aI (bc b) b.length).2.2*a.length):=rfl;simp only[yBj,yAn,yAs];have S:=pF P;have T:=pF Q;have n1:=rT (l:=a);have n2:=rT (l:=b);generalize bc a=g at *;generalize bc b=j at *;generalize qN a b=V at *;generalize bT V=n at *;have wa:i64.wrap (a.length:Int)=(a.length:Int):=aa;have wb:i64.wrap (b.length:Int)=(b.length:Int):=aa;refine Dp func297 λC hP hN=>?_;refine Gz ?_;refine WP.loopN [] 3 (λk c=>c.t 0=.pv (aU a)/\c.t 1=.pv (aU b)/\c.t 4=.ptr 4 0/\c.h 4=some (.box [.pv (Z 0),.pv (Z 0),.pv (Z 0)] true false)/\c.t 5=.pv (B false)/\c.t 6=.ptr 6 0/\c.h 6=some (.box (DK V k) true false)/\c.t 7=.pv (bA g)/\c.t 8=.pv (bA j)/\c.t 9=.pv (Z k)) ?_ ?_
 .simp[DK]
 rintro k c hk ⟨q,r,s,f,u,v,d,z,A,o⟩
 have e:∀x:Int,-2147483648<=x/\x<=2147483648->∀n:Nat,n<=8->-17179869184<=x*n/\x*n<=17179869184:=λx m n hn=>by
  have:=cT (a:=x) (b:=(n:Int)) 2147483648 8 (by omega) (by omega) (by omega) (by omega);omega
 rcases gx hk with rfl|rfl|rfl|rfl
 all_goals (simp[DK]at d o)
 .skip
  have I:∀i:Nat,i<=8->-17179869184<=(aI g i).1*b.length/\(aI g i).1*b.length<=17179869184:=λi hi=>by
   have h:=km n1 i;obtain⟨q1,q2,q3⟩:=h;exact e (aI g i).1 (by omega) _ X
  have J:∀i:Nat,i<=8->-17179869184<=(aI j i).1*a.length/\(aI j i).1*a.length<=17179869184:=λi hi=>by
   have h:=km n2 i;obtain⟨q1,q2,q3⟩:=h;exact e (aI j i).1 (by omega) _ W
  skip
  refine GT (zAc q r s u f d v z A o) ?_;refine WP.loopN [] a.length (λi c=>c.t 0=.pv (aU a)/\c.t 1=.pv (aU b)/\c.t 4=.ptr 4 0/\c.h 4=some (.box [.pv (Z 0),.pv (Z 0),.pv (Z 0)] true false)/\c.t 5=.pv (B false)/\c.t 6=.ptr 6 0/\c.h 6=some (.box [.pv (Z ((aI g i).1*b.length)),.pv (Z 0),.pv (Z 0)] true false)/\c.t 7=.pv (bA g)/\c.t 8=.pv (bA j)/\c.t 9=.pv (Z 0)/\c.t 10=.pv (Z i)) ?_ ?_
  .simp[aI,q,r,s,f,u,v,d,z,A,o]
  clear q r s f u v d z A o;rintro i c hi ⟨q,r,s,f,u,v,d,z,A,o,F⟩;by_cases D:i<a.length
  .have E:i<g.length:=by omega
   have K:=ai D (by omega);obtain⟨p,m⟩:∃p,g[i]?=some p:=⟨_,an E⟩
   have L:∀h,g[i]'h=p:=λh=>by rw[an h]at m;exact yAO m
   have H:=I (i+1) (by omega);have O:=I i (by omega);have hp:=gO (IV.1 n1 p (In m));obtain⟨p1,p2,p3⟩:=hp;have R:=e p.1 (by omega) _ X
   have hS:(aI g (i+1)).1*(b.length:Int)=(aI g i).1*b.length+p.1*b.length:=by
    rw[<-Int.add_mul];simp only[aI,m]
   rw[hS]at H|-;have v1:i64.wrap (p.1*b.length)=p.1*b.length:=aa;generalize(aI g i).1*(b.length:Int)=y at *;have v2:i64.wrap (y+p.1*b.length)=y+p.1*b.length:=aa;exact GS (zAe q r s f u v d z A o F D E K (zAa m L v1 v2 wb S T))
  have G:i=a.length:=by omega
  subst G;have ad:=I a.length (by omega);generalize hy:(aI g a.length).1*(b.length:Int)=Y at *
  skip
  refine GT (zAd q r s u f d v z A o F (gA S T)) ?_;refine WP.loopN [] b.length (λi c=>c.t 0=.pv (aU a)/\c.t 1=.pv (aU b)/\c.t 4=.ptr 4 0/\c.h 4=some (.box [.pv (Z 0),.pv (Z 0),.pv (Z 0)] true false)/\c.t 5=.pv (B false)/\c.t 6=.ptr 6 0/\c.h 6=some (.box [.pv (Z (Y-(aI j i).1*a.length)),.pv (Z 0),.pv (Z 0)] true false)/\c.t 7=.pv (bA g)/\c.t 8=.pv (bA j)/\c.t 9=.pv (Z 0)/\c.t 11=.pv (Z i)) ?_ ?_
  .simp[aI,q,r,s,f,u,v,d,z,A,o]
  clear q r s f u v d z A o F;rintro i c hi ⟨q,r,s,f,u,v,d,z,A,o,M⟩;by_cases D:i<b.length
  .have E:i<j.length:=by omega
   have K:=ai D (by omega);obtain⟨p,m⟩:∃p,j[i]?=some p:=⟨_,an E⟩
   have L:∀h,j[i]'h=p:=λh=>by rw[an h]at m;exact yAO m
   have H:=J (i+1) (by omega);have O:=J i (by omega);have hp:=gO (IV.1 n2 p (In m));obtain⟨p1,p2,p3⟩:=hp;have R:=e p.1 (by omega) _ W
   have hS:(aI j (i+1)).1*(a.length:Int)=(aI j i).1*a.length+p.1*a.length:=by
    rw[<-Int.add_mul];simp only[aI,m]
   rw[hS]at H|-;have v1:i64.wrap (p.1*a.length)=p.1*a.length:=aa;generalize(aI j i).1*(a.length:Int)=y at *;have v2:i64.wrap (Y-y-p.1*a.length)=Y-(y+p.1*a.length):=(aa (by omega) (by omega)).trans (by omega);exact Gy
  have G:i=b.length:=by omega
  subst G
  have N:Y-(aI j b.length).1*(a.length:Int)=V.1:=by rw[U,<-hy]
  rw[N]at d
  skip
  with_reducible repeat' (first|refine Sp.h ?_|((first|refine Wd ?_|refine Ss.h ?_|(refine Sb.h ?_ ?_ ?_<;>(try intro hgd)<;>try exact Xy))<;>simp -implicitDefEqProofs (maxSteps:=2000000) [hP,hN,q,r,s,u,f,d,v,z,A,o,M,S,T,DK]<;>try refine Ya ?_)|refine X2 ?_ ?_|(refine Xd ?_ ?_<;>intro hcd<;>try exact Xx))
 .skip
  have I:∀i:Nat,i<=8->-17179869184<=(aI g i).2.1*b.length/\(aI g i).2.1*b.length<=17179869184:=λi hi=>by
   have h:=km n1 i;obtain⟨q1,q2,q3⟩:=h;exact e (aI g i).2.1 (by omega) _ X
  have J:∀i:Nat,i<=8->-17179869184<=(aI j i).2.1*a.length/\(aI j i).2.1*a.length<=17179869184:=λi hi=>by
   have h:=km n2 i;obtain⟨q1,q2,q3⟩:=h;exact e (aI j i).2.1 (by omega) _ W
  skip
  refine GT (zAc q r s u f d v z A o) ?_;refine WP.loopN [] a.length (λi c=>c.t 0=.pv (aU a)/\c.t 1=.pv (aU b)/\c.t 4=.ptr 4 0/\c.h 4=some (.box [.pv (Z 0),.pv (Z 0),.pv (Z 0)] true false)/\c.t 5=.pv (B false)/\c.t 6=.ptr 6 0/\c.h 6=some (.box [.pv (Z V.1),.pv (Z ((aI g i).2.1*b.length)),.pv (Z 0)] true false)/\c.t 7=.pv (bA g)/\c.t 8=.pv (bA j)/\c.t 9=.pv (Z 1)/\c.t 10=.pv (Z i)) ?_ ?_
  .simp[aI,q,r,s,f,u,v,d,z,A,o]
  clear q r s f u v d z A o;rintro i c hi ⟨q,r,s,f,u,v,d,z,A,o,F⟩;by_cases D:i<a.length
  .have E:i<g.length:=by omega
   have K:=ai D (by omega);obtain⟨p,m⟩:∃p,g[i]?=some p:=⟨_,an E⟩
   have L:∀h,g[i]'h=p:=λh=>by rw[an h]at m;exact yAO m
   have H:=I (i+1) (by omega);have O:=I i (by omega);have hp:=gO (IV.1 n1 p (In m));obtain⟨p1,p2,p3⟩:=hp;have R:=e p.2.1 (by omega) _ X
   have hS:(aI g (i+1)).2.1*(b.length:Int)=(aI g i).2.1*b.length+p.2.1*b.length:=by
    rw[<-Int.add_mul];simp only[aI,m]
   rw[hS]at H|-;have v1:i64.wrap (p.2.1*b.length)=p.2.1*b.length:=aa;generalize(aI g i).2.1*(b.length:Int)=y at *;have v2:i64.wrap (y+p.2.1*b.length)=y+p.2.1*b.length:=aa;exact GS (zAe q r s f u v d z A o F D E K (zAa m L v1 v2 wb S T))
  have G:i=a.length:=by omega
  subst G;have ad:=I a.length (by omega);generalize hy:(aI g a.length).2.1*(b.length:Int)=Y at *
  skip
  refine GT (zAd q r s u f d v z A o F (gA S T)) ?_;refine WP.loopN [] b.length (λi c=>c.t 0=.pv (aU a)/\c.t 1=.pv (aU b)/\c.t 4=.ptr 4 0/\c.h 4=some (.box [.pv (Z 0),.pv (Z 0),.pv (Z 0)] true false)/\c.t 5=.pv (B false)/\c.t 6=.ptr 6 0/\c.h 6=some (.box [.pv (Z V.1),.pv (Z (Y-(aI j i).2.1*a.length)),.pv (Z 0)] true false)/\c.t 7=.pv (bA g)/\c.t 8=.pv (bA j)/\c.t 9=.pv (Z 1)/\c.t 11=.pv (Z i)) ?_ ?_
  .simp[aI,q,r,s,f,u,v,d,z,A,o]
  clear q r s f u v d z A o F;rintro i c hi ⟨q,r,s,f,u,v,d,z,A,o,M⟩;by_cases D:i<b.length
  .have E:i<j.length:=by omega
   have K:=ai D (by omega);obtain⟨p,m⟩:∃p,j[i]?=some p:=⟨_,an E⟩
   have L:∀h,j[i]'h=p:=λh=>by rw[an h]at m;exact yAO m
   have H:=J (i+1) (by omega);have O:=J i (by omega);have hp:=gO (IV.1 n2 p (In m));obtain⟨p1,p2,p3⟩:=hp;have R:=e p.2.1 (by omega) _ W
   have hS:(aI j (i+1)).2.1*(a.length:Int)=(aI j i).2.1*a.length+p.2.1*a.length:=by
    rw[<-Int.add_mul];simp only[aI,m]
   rw[hS]at H|-;have v1:i64.wrap (p.2.1*a.length)=p.2.1*a.length:=aa;generalize(aI j i).2.1*(a.length:Int)=y at *;have v2:i64.wrap (Y-y-p.2.1*a.length)=Y-(y+p.2.1*a.length):=(aa (by omega) (by omega)).trans (by omega);exact Gy
  have G:i=b.length:=by omega
  subst G
  have N:Y-(aI j b.length).2.1*(a.length:Int)=V.2.1:=by rw[U,<-hy]
  rw[N]at d
  skip
  with_reducible repeat' (first|refine Sp.h ?_|((first|refine Wd ?_|refine Ss.h ?_|(refine Sb.h ?_ ?_ ?_<;>(try intro hgd)<;>try exact Xy))<;>simp -implicitDefEqProofs (maxSteps:=2000000) [hP,hN,q,r,s,u,f,d,v,z,A,o,M,S,T,DK]<;>try refine Ya ?_)|refine X2 ?_ ?_|(refine Xd ?_ ?_<;>intro hcd<;>try exact Xx))
 .skip
  have I:∀i:Nat,i<=8->-17179869184<=(aI g i).2.2*b.length/\(aI g i).2.2*b.length<=17179869184:=λi hi=>by
   have h:=km n1 i;obtain⟨q1,q2,q3⟩:=h;exact e (aI g i).2.2 (by omega) _ X
  have J:∀i:Nat,i<=8->-17179869184<=(aI j i).2.2*a.length/\(aI j i).2.2*a.length<=17179869184:=λi hi=>by
   have h:=km n2 i;obtain⟨q1,q2,q3⟩:=h;exact e (aI j i).2.2 (by omega) _ W
  skip
  refine GT (zAc q r s u f d v z A o) ?_;refine WP.loopN [] a.length (λi c=>c.t 0=.pv (aU a)/\c.t 1=.pv (aU b)/\c.t 4=.ptr 4 0/\c.h 4=some (.box [.pv (Z 0),.pv (Z 0),.pv (Z 0)] true false)/\c.t 5=.pv (B false)/\c.t 6=.ptr 6 0/\c.h 6=some (.box [.pv (Z V.1),.pv (Z V.2.1),.pv (Z ((aI g i).2.2*b.length))] true false)/\c.t 7=.pv (bA g)/\c.t 8=.pv (bA j)/\c.t 9=.pv (Z 2)/\c.t 10=.pv (Z i)) ?_ ?_
  .simp[aI,q,r,s,f,u,v,d,z,A,o]
  clear q r s f u v d z A o;rintro i c hi ⟨q,r,s,f,u,v,d,z,A,o,F⟩;by_cases D:i<a.length
  .have E:i<g.length:=by omega
   have K:=ai D (by omega);obtain⟨p,m⟩:∃p,g[i]?=some p:=⟨_,an E⟩
   have L:∀h,g[i]'h=p:=λh=>by rw[an h]at m;exact yAO m
   have H:=I (i+1) (by omega);have O:=I i (by omega);have hp:=gO (IV.1 n1 p (In m));obtain⟨p1,p2,p3⟩:=hp;have R:=e p.2.2 (by omega) _ X
   have hS:(aI g (i+1)).2.2*(b.length:Int)=(aI g i).2.2*b.length+p.2.2*b.length:=by
    rw[<-Int.add_mul];simp only[aI,m]
   rw[hS]at H|-;have v1:i64.wrap (p.2.2*b.length)=p.2.2*b.length:=aa;generalize(aI g i).2.2*(b.length:Int)=y at *;have v2:i64.wrap (y+p.2.2*b.length)=y+p.2.2*b.length:=aa;exact GS (zAe q r s f u v d z A o F D E K (zAa m L v1 v2 wb S T))
  have G:i=a.length:=by omega
  subst G;have ad:=I a.length (by omega);generalize hy:(aI g a.length).2.2*(b.length:Int)=Y at *
  skip
  refine GT (zAd q r s u f d v z A o F (gA S T)) ?_;refine WP.loopN [] b.length (λi c=>c.t 0=.pv (aU a)/\c.t 1=.pv (aU b)/\c.t 4=.ptr 4 0/\c.h 4=some (.box [.pv (Z 0),.pv (Z 0),.pv (Z 0)] true false)/\c.t 5=.pv (B false)/\c.t 6=.ptr 6 0/\c.h 6=some (.box [.pv (Z V.1),.pv (Z V.2.1),.pv (Z (Y-(aI j i).2.2*a.length))] true false)/\c.t 7=.pv (bA g)/\c.t 8=.pv (bA j)/\c.t 9=.pv (Z 2)/\c.t 11=.pv (Z i)) ?_ ?_
  .simp[aI,q,r,s,f,u,v,d,z,A,o]
  clear q r s f u v d z A o F;rintro i c hi ⟨q,r,s,f,u,v,d,z,A,o,M⟩;by_cases D:i<b.length
  .have E:i<j.length:=by omega
   have K:=ai D (by omega);obtain⟨p,m⟩:∃p,j[i]?=some p:=⟨_,an E⟩
   have L:∀h,j[i]'h=p:=λh=>by rw[an h]at m;exact yAO m
   have H:=J (i+1) (by omega);have O:=J i (by omega);have hp:=gO (IV.1 n2 p (In m));obtain⟨p1,p2,p3⟩:=hp;have R:=e p.2.2 (by omega) _ W
   have hS:(aI j (i+1)).2.2*(a.length:Int)=(aI j i).2.2*a.length+p.2.2*a.length:=by
    rw[<-Int.add_mul];simp only[aI,m]
   rw[hS]at H|-;have v1:i64.wrap (p.2.2*a.length)=p.2.2*a.length:=aa;generalize(aI j i).2.2*(a.length:Int)=y at *;have v2:i64.wrap (Y-y-p.2.2*a.length)=Y-(y+p.2.2*a.length):=(aa (by omega) (by omega)).trans (by omega);exact Gy
  have G:i=b.length:=by omega
  subst G
  have N:Y-(aI j b.length).2.2*(a.length:Int)=V.2.2:=by rw[U,<-hy]
  rw[N]at d
  skip
  with_reducible repeat' (first|refine Sp.h ?_|((first|refine Wd ?_|refine Ss.h ?_|(refine Sb.h ?_ ?_ ?_<;>(try intro hgd)<;>try exact Xy))<;>simp -implicitDefEqProofs (maxSteps:=2000000) [hP,hN,q,r,s,u,f,d,v,z,A,o,M,S,T,DK]<;>try refine Ya ?_)|refine X2 ?_ ?_|(refine Xd ?_ ?_<;>intro hcd<;>try exact Xx))
 .skip
  exact GS (zAc q r s f u v d z A o)
theorem CC{n:Nat}(h:n<=100000000000)(m:Nat)(a:m<=10):(n+m)*24<=140737488355328:=by omega
theorem QV{α:Type}{p:α->Bool}{l:List α}{v:α}(h:l[k]?=some v):(l.take (k+1)).filter p=(l.take k).filter p++(if p v=true then[v]else[]):=by
 rw[yB0,h,yBD];simp only[Option.toList_some,List.filter_cons,List.filter_nil]
theorem XE(a:List aq)(ra:Int)(b:List aq)(rb:Int)(c:List Vc)(U:a.length<=9223372036854775807)(V:b.length<=9223372036854775807)(hl:c.length<=100000000000):Ao 233 (aU a) (Z ra) (aU b) (Z rb) (bA c) (bA (sY a ra b rb c)):=by
 have ca:=xX a U;have cb:=xX b V;have z:=DM ra;have A:=DM rb
 have W:sY a ra b rb c=if Fe a ra b rb then c.filter bB++((if vQ a b then[sX a b]else[])++(sW++(if bB (qO a ra b rb)then[qO a ra b rb]else[])))else[]:=rfl
 have D:Fe a ra b rb=(aw a&&aw b&&bw ra 0 1048576&&bw rb 0 1048576):=rfl;rw[W,D]
 cases r:aw a with
 |false=>
  rw[r]at ca;refine Dp func233 λC hP hN=>?_;exact Gy
 |true=>
 rw[r]at ca
 cases s:aw b with
 |false=>
  rw[s]at cb;refine Dp func233 λC hP hN=>?_;exact Gy
 |true=>
 rw[s]at cb
 cases x:bw ra 0 1048576 with
 |false=>
  rw[x]at z;refine Dp func233 λC hP hN=>?_;exact Gy
 |true=>
 rw[x]at z
 cases y:bw rb 0 1048576 with
 |false=>
  rw[y]at A;refine Dp func233 λC hP hN=>?_;exact Gy
 |true=>
 rw[y]at A;simp only[yBj,yAn];have c1:=DL a U;have c2:=DL b V;have a1:=(eP r).2.1;have a2:=(eP s).2.1;have ay:=pF r;have D:=pF s;simp only[bw,An,Is]at x y;have N:i64.wrap (ra+rb)=ra+rb:=aa;have c3:=S5 (bc a) (bc b) (ra+rb) 64 (by omega) (by omega);have Y:(mu (bc a) (bc b) (ra+rb) 64).2.n=qO a ra b rb:=rfl;rw[<-Y];generalize mu (bc a) (bc b) (ra+rb) 64=R at *;have cm:=XD a b U V;have ax:=XZ;have o:sW.length=6:=rfl;have q:=IJ sW;generalize sW=AX at *;generalize bc a=xa at *;generalize bc b=xb at *;have B:=Ds R.2.n;rw[uy]at B;have E:∀i:Nat,((c.take i).filter bB).length<=100000000000:=λi=>yBC (yB7 _ _) (by rw[yAN];omega);refine Dp func233 λC hP hN=>?_;refine rG [11] trivial ?_;refine WP.loopN [] c.length (λi k=>k.t 0=.pv (aU a)/\k.t 1=.pv (Z ra)/\k.t 2=.pv (aU b)/\k.t 3=.pv (Z rb)/\k.t 4=.pv (bA c)/\k.t 12=.pv (Z i)/\k.t 11=.arr 11 ((c.take i).filter bB).length/\k.h 11=some (.row 84 3 (((c.take i).filter bB).map aW) 0)/\k.h 13=none/\k.h 15=none) (by simp) ?_;rintro i k hi ⟨J,K,L,g3,M,l,j,e,f,g⟩;by_cases F:i<c.length
 .have a5:=ai F (by omega)
  generalize ad:c[i]=v at *
  have hx:c[i]?=some v:=by rw[an F,ad]
  have T:=Ds v;rw[uy]at T;have hs:=QV (p:=bB) hx;rw[hs];have d:=E i;generalize(c.take i).filter bB=P at *
  cases u:bB v with
  |true=>
   rw[u]at T;simp only[yAn]
   have H:(P.length+1)*24<=140737488355328:=by omega
   have I:P.length<=9223372036854775806:=by omega
   skip
   exact Gy
  |false=>
   rw[u]at T;simp only[ZY,yAi,yBU];exact Gy
 .have X:i=c.length:=by omega
  subst X;rw[yBP]at j e;have d:=E c.length;rw[yBP]at d;generalize c.filter bB=P at *
  have H:(P.length+1)*24<=140737488355328:=by omega
  have I:P.length<=9223372036854775806:=by omega
  have O:P.length<=9223372036854775799:=yBC d (by decide);have Q:P.length<=9223372036854775800:=yBC d (by decide);have S:P.length<=9223372036854775801:=yBC d (by decide);have k3:(P.length+1+1)*24<=140737488355328:=CC d 2 (by decide);have k4:(P.length+6)*24<=140737488355328:=CC d 6 (by decide);have k5:(P.length+6+1)*24<=140737488355328:=CC d 7 (by decide);have k6:(P.length+1+6)*24<=140737488355328:=CC d 7 (by decide);have k7:(P.length+1+6+1)*24<=140737488355328:=CC d 8 (by decide)
  cases G:vQ a b with
  |true=>
   rw[G]at cm;generalize sX a b=m at *;simp only[yAn]
   cases u:bB R.2.n with
   |true=>
    rw[u]at B;simp only[yAn]
    skip
    exact GS (zAe J K L g3 M l j e f g H I k6 k7 (so N o q O Q S))
   |false=>
    rw[u]at B;simp only[ZY,yAi];exact GS (zAe J K L g3 M l j e f g H I k6 k7 (so N o q O Q S))
  |false=>
   rw[G]at cm;generalize sX a b=m at *;simp only[ZY,yAi]
   cases u:bB R.2.n with
   |true=>
    rw[u]at B;simp only[yAn]
    skip
    exact GS (zAe J K L g3 M l j e f g H I k4 k5 (so N o q O Q S))
   |false=>
    rw[u]at B;simp only[ZY,yAi];exact GS (zAe J K L g3 M l j e f g H I k4 k5 (so N o q O Q S))
end Go.Ab
