/- The contracts and facts that the laws of this seat need, in one text (KR19, KR20, De1, De4, Ck0, De5, Dc9, Dl1, Ru2, Cg1, Dl2, Dl3, KL1, KL2, PlR, KL5, L28f, Cg3, RdS, RdT, TlS, Cg2, Cg4). -/
import Derived.Test.YtidomjacfogjlaaGreatU11
set_option linter.all false
set_option maxRecDepth 10000
set_option maxHeartbeats 16000000
namespace Go.Ab
open IntKind (i64)
open Go.Proofs.Tryz
open Go.Proofs
variable {PR:List (Nat×Nat)}{PT:List (List aq)}{SH:List Sh}{hints:List Vc}{i n:Nat}{t:Tr}
theorem La(a:List Vc)(i:Nat)(hi:i<a.length)(z:Option Value)(e n:Nat)(y:Option Value):lE {size:=n,zero:=z,kind:=TK.slice e 3 24 y} (.pv (aG a)) (some (.pv (.val (.int .i64 (i:Int))))) (some (.pv (.val (.int .i64 ((i:Int)+1)))))=some (.pv (aG (j6 a i))):=by
 have b:(0:Int)<=(i:Int):=by omega
 have c:(0:Int)<=(i:Int)+1:=by omega
 have d:((i:Int)).toNat=i:=by omega
 have f:((i:Int)+1).toNat=i+1:=by omega
 simp only[lE,T8 b,T8 c,d,f,Ux];rw[T8 ⟨by omega,by omega,by decide,Aq a⟩]
 congr 3
 rw[<-List.map_take,<-WL]
 congr 1
 unfold j6;rw[List.drop_take,show i+1-i=1 by omega]
theorem F6(h:¬i<hints.length):j6 hints i=[]:=by
 unfold j6;rw[Wn (by omega)];rfl
theorem M7{p:Nat×Nat}(h:PR[i]?=some p):(PR.map (xp SH PT))[i]?=some (.agg [aB (dM PT p.1),Z (dw SH p.1)]):=by
 rw[TR,h];rfl
theorem M8{p:Nat×Nat}(h:PR[i]?=some p):(PR.map (xq SH PT))[i]?=some (.agg [aB (dM PT p.2),Z (dw SH p.2)]):=by
 rw[TR,h];rfl
def vN(a:Bool):Int:=if a then 1 else 0
def OO(a:List PV)(kd:Int)(i:Nat)(h:Hp):Prop:=(i=0/\h 10=some (.box [.pv (Z kd),.pv (.val (.slice none 0 0)),.pv (Z 0),.pv (.val (.slice none 0 0)),.pv (.val (.slice none 0 0))] true false)/\h 71=none)\/(0<i/\h 10=some (.box [.pv (Z kd),.arr 71 i,.pv (Z 0),.pv (.val (.slice none 0 0)),.pv (.val (.slice none 0 0))] true false)/\h 71=some (.row 84 3 (a.take i) 0))
def OP(SH:List Sh)(c:List (Nat×Nat))(PT:List (List aq))(a:List Vc)(e:List PV)(b:Vd)(i:Nat)(h:Hp):Prop:=∃d,kw SH c PT a (c.length-i) i d=b/\OO e (vN d) i h
theorem qj{c:List PV}{a:Vd}{h:Hp}(b:Bool)(h1:kw SH PR PT hints (PR.length-i) i b=a)(d:OO c (vN b) i h):OP SH PR PT hints c a i h:=⟨b,h1,d⟩
set_option maxRecDepth 20000 in
theorem Tm(s:Sce)(bx:List Iv)(b:List Vc)(hs:ScL s)(a9:bx.length<=9223372036854775807)(hh:b.length<=9223372036854775807):kY 98 (eM s) (iv bx) (aG b) (zz (dI s bx b)):=by
 have cp:=Tl s bx hs a9
 have hd:dI s bx b=if iY s bx then kw s.shs (eE s) (gB s bx) b (eE s).length 0 true else⟨0,[],⟨0,[],[]⟩⟩:=rfl
 cases hp:iY s bx with
 |false=>
  rw[hp]at cp hd;simp only[T5,Uf]at cp hd;rw[hd];refine Dp func98 λC hP hN=>?_;exact GS trivial
 |true=>
 rw[hp]at cp hd;simp only[Ul]at cp hd;have hb:=FV hp;have a5:=EN hp;rw[hd];simp only[Dn,Dq]at cp;generalize eE s=PR at *;generalize gB s bx=PT at *;generalize s.shs=SH at *;have bs:=hb.few;generalize a:kw SH PR PT b PR.length 0 true=a6 at *;generalize Y:(fL SH PR PT b).map am=W
 have bH:W.length=PR.length:=by rw[<-Y];simp[fL]
 have a2:∀k p,PR[k]?=some p->W[k]?=some (am (vB SH PT b k p).1):=λk q hk=>by rw[<-Y,fL,TR,List.getElem?_mapIdx,hk];rfl
 have ad:=λ(i:Nat)(p:Nat×Nat)(h:PR[i]?=some p)=>M7 (SH:=SH) (PT:=PT) h;have a1:=λ(i:Nat)(p:Nat×Nat)(h:PR[i]?=some p)=>M8 (SH:=SH) (PT:=PT) h
 have l:(PR.map (xp SH PT)).length=PR.length:=by simp
 have m:(PR.map (xq SH PT)).length=PR.length:=by simp
 generalize PR.map (xp SH PT)=LA at *;generalize PR.map (xq SH PT)=LB at *;refine Dp func98 λC hP hN=>?_;refine GT (gA l m) ?_;refine WP.loopN [13,15] PR.length (λi V=>V.t 2=.pv (aG b)/\V.t 6=.ptr 6 0/\V.h 6=some (.box [.pv (Z 0),.pv (.val (.slice none 0 0)),.pv (Z 0),.pv (.val (.slice none 0 0)),.pv (.val (.slice none 0 0))] true false)/\V.t 7=.pv (.sl LA)/\V.t 8=.pv (.sl LB)/\V.t 10=.ptr 10 0/\V.t 11=.pv (Z i)/\V.h 13=none/\V.h 15=none/\OP SH PR PT b W a6 i V.h) ?_ ?_
 .simp
  exact qj true a (.inl ⟨rfl,by simp[vN],by simp⟩)
 rintro i V hi ⟨g2,L,r,M,N,n,o,e,f,ap,a,U⟩;by_cases x:i<PR.length
 .have B:=aj x (by omega)
  have j:(i:Int)<(PR.length:Int):=by omega
  obtain⟨p,hp⟩:∃p,PR[i]?=some p:=⟨_,an x⟩;have P:=ad i p hp;have Q:=a1 i p hp
  have z:∀h,LA[i]'h=.agg [aB (dM PT p.1),Z (dw SH p.1)]:=λh=>by rw[an h]at P;exact UM P
  have A:∀h,LB[i]'h=.agg [aB (dM PT p.2),Z (dw SH p.2)]:=λh=>by rw[an h]at Q;exact UM Q
  have r1:=a5 p.1;have r2:=a5 p.2;have l1:=ud hb p.1;have l2:=ud hb p.2;have T:=Rt (dM PT p.1) (dw SH p.1) (dM PT p.2) (dw SH p.2) (j6 b i) (by omega) (by omega) (by simp[j6];omega);have ba:vB SH PT b i p=mI (dM PT p.1) (dw SH p.1) (dM PT p.2) (dw SH p.2) (j6 b i):=rfl;rw[<-ba]at T;rw[show PR.length-i=(PR.length-i-1)+1 by omega]at a;simp only[kw,hp]at a;have a7:=a2 i p hp;generalize vB SH PT b i p=F at *
  have I:W.take (i+1)=W.take i++[am F.1]:=by rw[Wj,a7];rfl
  have D:(W.take i).length=i:=by rw[UL];omega
  have E:i<=W.length:=by omega
  have c1:=AD (dM PT p.1) (by omega);have c2:=AD (dM PT p.2) (by omega);have z1:=nQ l1;have z2:=nQ l2;have c3:=M6 (aw (dM PT p.1)) (aw (dM PT p.2)) (dw SH p.1+dw SH p.2) 64 (by omega) (by omega);have a8:vD SH PT p=ji (aw (dM PT p.1)) (aw (dM PT p.2)) (dw SH p.1+dw SH p.2) 64:=rfl;have bc:=vE (aw (dM PT p.1)) (aw (dM PT p.2)) (dw SH p.1+dw SH p.2) 64;rw[<-a8]at c3 bc;have hw:i64.wrap (dw SH p.1+dw SH p.2)=dw SH p.1+dw SH p.2:=aa;generalize vD SH PT p=K at *;have X:=Tk K.2.w K.2.v (dM PT p.1) (dw SH p.1) (dM PT p.2) (dw SH p.2) (by omega) (by omega) (by omega) (by omega);have bq:vA SH PT K.2.w K.2.v p=(nN K.2.w K.2.v (dM PT p.1) (dw SH p.1) (dM PT p.2) (dw SH p.2)&&decide (0<=lq K.2.w K.2.v (dM PT p.1) (dw SH p.1) (dM PT p.2) (dw SH p.2))):=rfl;rw[<-bq]at X
  have R:(i+1)*24<=140737488355328:=by omega
  have S:i<=9223372036854775806:=by omega
  clear a2 Y ad a1;by_cases u:i<b.length
  .have y:=La b i u
   have J:(i:Int)<(b.length:Int):=by omega
   rcases U with⟨g,c,d⟩|⟨g,c,d⟩
   .have O:W.take i=[]:=by rw[g];rfl
    rw[O,List.nil_append]at I
    cases G:F.2 with
    |true=>
     rw[G]at T a;simp only[Ul]at a;refine GT (zAa g2 L r M N n o e f c d u J x (s7 j B P z Q A l m y D E (gA R S))) ?_;rw[show PR.length-i-1=PR.length-(i+1) by omega]at a
     all_goals exact qj ap a (.inr ⟨by omega,by simp[g],by simp[I]⟩)
    |false=>
     rw[G]at T a;simp only[T5,Uf]at a
     cases H:vA SH PT K.2.w K.2.v p with
     |true=>
      rw[H]at X a;simp only[Ul]at a;subst a;exact GS (zAa g2 L r M N n o e f c d u J x (s7 j B P z Q A l m y D E (be R S hw)))
     |false=>
      rw[H]at X a;simp only[T5,Uf]at a;rw[show PR.length-i-1=PR.length-(i+1) by omega]at a;refine GT (zAa g2 L r M N n o e f c d u J x (s7 j B P z Q A l m y D E (be R S hw))) ?_
      all_goals exact qj false a (.inr ⟨by omega,by simp[vN,g],by simp[I]⟩)
   .have O:0<i:=g
    cases G:F.2 with
    |true=>
     rw[G]at T a;simp only[Ul]at a;refine GT (zAa g2 L r M N n o e f c d u J x (s7 j B P z Q A l m y D E (gA R S))) ?_;rw[show PR.length-i-1=PR.length-(i+1) by omega]at a
     all_goals exact qj ap a (.inr ⟨by omega,by simp[g],by simp[I]⟩)
    |false=>
     rw[G]at T a;simp only[T5,Uf]at a
     cases H:vA SH PT K.2.w K.2.v p with
     |true=>
      rw[H]at X a;simp only[Ul]at a;subst a;exact GS (zAa g2 L r M N n o e f c d u J x (s7 j B P z Q A l m y D E (be R S hw)))
     |false=>
      rw[H]at X a;simp only[T5,Uf]at a;rw[show PR.length-i-1=PR.length-(i+1) by omega]at a;refine GT (zAa g2 L r M N n o e f c d u J x (s7 j B P z Q A l m y D E (be R S hw))) ?_
      all_goals exact qj false a (.inr ⟨by omega,by simp[vN,g],by simp[I]⟩)
  .have y:¬(i:Int)<(b.length:Int):=by omega
   rw[F6 u]at T;simp only[aG,WE]at T;rcases U with⟨g,c,d⟩|⟨g,c,d⟩
   .have O:W.take i=[]:=by rw[g];rfl
    rw[O,List.nil_append]at I
    cases G:F.2 with
    |true=>
     rw[G]at T a;simp only[Ul]at a;refine GT (zAa g2 L r M N n o e f c d u x j (s7 B P z Q A l m y D E R S)) ?_;rw[show PR.length-i-1=PR.length-(i+1) by omega]at a
     all_goals exact qj ap a (.inr ⟨by omega,by simp[g],by simp[I]⟩)
    |false=>
     rw[G]at T a;simp only[T5,Uf]at a
     cases H:vA SH PT K.2.w K.2.v p with
     |true=>
      rw[H]at X a;simp only[Ul]at a;subst a;exact GS (zAa g2 L r M N n o e f c d u x j (s7 B P z Q A l m y D E R (gA S hw)))
     |false=>
      rw[H]at X a;simp only[T5,Uf]at a;rw[show PR.length-i-1=PR.length-(i+1) by omega]at a;refine GT (zAa g2 L r M N n o e f c d u x j (s7 B P z Q A l m y D E R (gA S hw))) ?_
      all_goals exact qj false a (.inr ⟨by omega,by simp[vN,g],by simp[I]⟩)
   .have O:0<i:=g
    cases G:F.2 with
    |true=>
     rw[G]at T a;simp only[Ul]at a;refine GT (zAa g2 L r M N n o e f c d u x j (s7 B P z Q A l m y D E R S)) ?_;rw[show PR.length-i-1=PR.length-(i+1) by omega]at a
     all_goals exact qj ap a (.inr ⟨by omega,by simp[g],by simp[I]⟩)
    |false=>
     rw[G]at T a;simp only[T5,Uf]at a
     cases H:vA SH PT K.2.w K.2.v p with
     |true=>
      rw[H]at X a;simp only[Ul]at a;subst a;exact GS (zAa g2 L r M N n o e f c d u x j (s7 B P z Q A l m y D E R (gA S hw)))
     |false=>
      rw[H]at X a;simp only[T5,Uf]at a;rw[show PR.length-i-1=PR.length-(i+1) by omega]at a;refine GT (zAa g2 L r M N n o e f c d u x j (s7 B P z Q A l m y D E R (gA S hw))) ?_
      all_goals exact qj false a (.inr ⟨by omega,by simp[vN,g],by simp[I]⟩)
 .have bb:i=PR.length:=by omega
  subst bb;rw[VV]at a;simp only[kw]at a
  have ar:(fL SH PR PT b).length=PR.length:=by simp[fL]
  rcases U with⟨g,c,d⟩|⟨g,c,d⟩
  .have O:fL SH PR PT b=[]:=Uy (by omega)
   rw[O]at a
   cases ap with
   |true=>
    simp only[Ul]at a;subst a;simp only[vN,Ul]at c;exact GS (s7 g2 L r M N n o c d e f (be l m g))
   |false=>
    simp only[T5,Uf]at a;subst a;simp only[vN,T5,Uf]at c;exact GS (s7 g2 L r M N n o c d e f (be l m g))
  .rw[Us (by omega),<-Y]at d
   cases ap with
   |true=>
    simp only[Ul]at a;subst a;simp only[vN,Ul]at c;exact GS (s7 g2 L r M N n o c d e f (be l m ar))
   |false=>
    simp only[T5,Uf]at a;subst a;simp only[vN,T5,Uf]at c;exact GS (s7 g2 L r M N n o c d e f (be l m ar))
theorem KV{js:List J}{ms:List Ms}(b:List (Int×Int)):(om b (al js ms)&&decide (0<b.length))=io js ms b:=by
 unfold io al;by_cases c:aW js ms=0
 .have f:=qc c
  simp only[c,Ul,VQ,Uq];by_cases d:js.length=b.length
  .have l:fl dV b (js.map iM)=fl (λj x=>dV x (iM j)) js b:=by
    have e:fl dV b (js.map iM)=true↔fl (λj x=>dV x (iM j)) js b=true:=by
     rw[yb,yb];constructor
     .intro H i h a;have:=H i a (by simpa using h);simpa using this
     .intro H i h a;have:=H i (by simpa using a) h;simpa using this
    cases x:fl dV b (js.map iM)<;>cases y:fl (λj x=>dV x (iM j)) js b<;>simp_all
   simp only[om,Ux,l]
   have m:decide (b.length=js.length)=true:=by simp[d]
   have n:decide (js.length=b.length)=true:=by simp[d]
   have o:decide (0<b.length)=true:=by simp;omega
   simp only[m,n,o,Uq,VC]
  .have g:decide (b.length=js.length)=false:=by simp;omega
   have k:decide (js.length=b.length)=false:=by simp;omega
   simp[om,g,k]
 .simp only[c,Uf,decide_false,UE]
  unfold om;cases b<;>simp
theorem SX(js:List J)(ms:List Ms)(b:List (Int×Int))(e:js.length<=9223372036854775807)(f:ms.length<=9223372036854775807)(d:b.length<=9223372036854775807):aK 97 (iN js ms) (iv b) (B (io js ms b)):=by
 have a:(al js ms).length<=9223372036854775807:=by unfold al;split<;>simp;omega
 have g:=LJ js ms e f;have c:=Pv b (al js ms) d a;rw[FA]at c;rw[<-KV];generalize al js ms=u at *;generalize om b u=v at *;refine Dp func97 λC hP hN=>?_;exact Gy
 all_goals simp_all
theorem Mh(s:Sce)(t:Tr)(i:Int)(j:ScL s)(G:t.cells.length<=9223372036854775807)(M:t.root.length<=9223372036854775807)(z:∀c∈t.cells,c.v.nor.length<=9223372036854775807):kY 45 (eM s) (bZ t) (Z i) (.tup [bZ (gE s t i),B (gU s t i)]):=by
 have r:=j.js;have x:=j.ms
 have f:(bO t i).length<=9223372036854775807:=by
  unfold bO;split
  .rename_i h
   simp only[dn,An,L4]at h;have:=(mQ h.1.1 (c:=i) (by omega)).2.1;omega
  .simp
 have l:=Tu t i G;have L:=Kg s j;have E:=SX s.js s.ms (bO t i) r x f
 cases hp:pm s t i with
 |true=>
  have g:=hp;simp only[pm,An,L4]at hp;obtain⟨⟨d,a⟩,n⟩:=hp;have m:=a;simp only[dn,An,L4]at m;obtain⟨k,rfl⟩:∃k:Nat,i=k:=⟨i.toNat,by omega⟩
  have u:k<t.cells.length:=by omega
  obtain⟨c,q⟩:∃c,t.cells[k]?=some c:=⟨_,an u⟩;have H:∀h,t.cells[k]'h=c:=λh=>dx q h
  have y:lV t k=c.v:=by simp[lV,q]
  have J:=Tm s (bO t k) c.v.nor j f (z c (Is q))
  have F:su s t k=cy (dI s (bO t k) c.v.nor):=by rw[su,Uk,y]
  have p:gE s t k=bP t k (cy (dI s (bO t k) c.v.nor)):=by rw[gE,T8 g,F]
  have o:gU s t k=aV t k (cy (dI s (bO t k) c.v.nor)):=by rw[gU,g,Uq,F]
  rw[p,o]
  have e:(bi s !=0)=false:=by simp[d]
  rw[a]at l;rw[n]at E;generalize dI s (bO t k) c.v.nor=V at *;generalize bO t (k:Int)=b at *;obtain⟨I,nl,⟨pr,A,D⟩⟩:=V;simp only[cy];have K:=OV t k ⟨I,nl,pr,A,D⟩ G;refine Dp func45 λC hP hN=>?_;exact Gy
 |false=>
  have p:gE s t i=t:=by rw[gE,TQ (by simp[hp])]
  have o:gU s t i=false:=by rw[gU,hp,UE]
  rw[p,o];by_cases d:bi s=0
  .have e:(bi s !=0)=false:=by simp[d]
   cases a:dn t i with
   |false=>
    rw[a]at l;refine Dp func45 λC hP hN=>?_;exact Gy
   |true=>
    have n:io s.js s.ms (bO t i)=false:=by simpa[pm,d,a]using hp
    rw[a]at l;rw[n]at E;refine Dp func45 λC hP hN=>?_;exact Gy
  .have e:(bi s !=0)=true:=by simp[d]
   refine Dp func45 λC hP hN=>?_;exact Gy
theorem SY(s:Sce)(t:Tr)(i j:Int)(M:ScL s)(D:TL t)(Q:t.cells.length<=999990):BB 49 (eM s) (bZ t) (Z i) (Z j) (.tup [bZ (vr s t i j),B (vq s t i j)]):=by
 have O:=D.c;have P:=D.r;have G:=OU t i j (by omega);have z:=IL D Q i j;have e:vq s t i j=(bU t i j&&gU s (cL t i j) t.cells.length&&gU s (oa s t i j) (t.cells.length+1)):=rfl
 have hF:vr s t i j=if vq s t i j then gE s (oa s t i j) (t.cells.length+1)else t:=rfl
 cases F:bU t i j with
 |false=>
  rw[F,UE,UE]at e;rw[e,TQ (by simp)]at hF;rw[F]at G;rw[e,hF];refine Dp func49 λC hP hN=>?_;exact Gy
 |true=>
 rw[F]at G e;have K:oa s t i j=gE s (cL t i j) t.cells.length:=rfl;have E:=Mh s (cL t i j) t.cells.length M (by have:=z.c;omega) (by have:=z.r;omega) z.v;rw[<-K]at E;have l:TL (oa s t i j):=Mi z _;have H:=Mh s (oa s t i j) (t.cells.length+1) M (by have:=l.c;omega) (by have:=l.r;omega) l.v;clear K z l D;generalize R:cL t i j=u at *;generalize oa s t i j=m at *;have w0:i64.wrap ((t.cells.length:Int)+2)=(t.cells.length:Int)+2:=aa;have S:i64.wrap ((t.cells.length:Int)+1)=(t.cells.length:Int)+1:=aa;have T:i64.wrap ((t.cells.length:Int)+1+1)=(t.cells.length:Int)+2:=aa;generalize hn:(t.cells.length:Int)=n at *;obtain⟨root,cells⟩:=t;simp only at *
 cases A:gU s u n with
 |false=>
  rw[A,Vo,UE]at e;rw[e,TQ (by simp)]at hF;rw[A]at E;rw[e,hF];refine Dp func49 λC hP hN=>?_;refine Gz ?_;refine WP.loopN [] 1 (λk a=>a.t 4=.ptr 4 0/\a.h 4=some (.box [.pv (.sl (s.js.map bu)),.pv (.sl (s.ms.map cG)),.pv (.sl (s.shs.map cE)),.pv (.sl (s.sks.map aC))] true false)/\a.t 5=.ptr 5 0/\a.h 5=some (.box [.pv (iv root),.pv (.sl (cells.map br))] true false)/\a.t 8=.ptr 8 0/\a.h 8=some (.box [.pv (.val (.slice none 0 0)),.pv (.val (.slice none 0 0))] true false)/\a.t 10=.pv (Z n)/\a.t 11=.ptr 11 0/\a.h 11=some (.box [.pv (iv u.root),.pv (.sl (u.cells.map br))] true false)/\a.t 13=.pv (Z n)/\k=0) (by simp) ?_;rintro k a L ⟨g4,q,g5,x,I,y,o,p,d,f,b⟩;subst b
  have g:n<n+2:=by omega
  exact Gy
 |true=>
 rw[A,VC,Uq]at e;rw[A]at E
 cases J:gU s m (n+1)with
 |false=>
  rw[J]at e H;rw[e,TQ (by simp)]at hF;rw[e,hF];refine Dp func49 λC hP hN=>?_;refine Gz ?_;refine WP.loopN [] 2 (λk a=>a.t 4=.ptr 4 0/\a.h 4=some (.box [.pv (.sl (s.js.map bu)),.pv (.sl (s.ms.map cG)),.pv (.sl (s.shs.map cE)),.pv (.sl (s.sks.map aC))] true false)/\a.t 5=.ptr 5 0/\a.h 5=some (.box [.pv (iv root),.pv (.sl (cells.map br))] true false)/\a.t 8=.ptr 8 0/\a.h 8=some (.box [.pv (.val (.slice none 0 0)),.pv (.val (.slice none 0 0))] true false)/\a.t 10=.pv (Z n)/\a.t 11=.ptr 11 0/\((k=0/\a.h 11=some (.box [.pv (iv u.root),.pv (.sl (u.cells.map br))] true false)/\a.t 13=.pv (Z n))\/(k=1/\a.h 11=some (.box [.pv (iv m.root),.pv (.sl (m.cells.map br))] true false)/\a.t 13=.pv (Z (n+1))))) (by simp) ?_;rintro k a L ⟨g4,q,g5,x,I,y,o,p,⟨b,d,f⟩|⟨b,d,f⟩⟩
  .subst b
   have g:n<n+2:=by omega
   exact Gy
  .subst b
   have g:n+1<n+2:=by omega
   exact Gy
 |true=>
  rw[J]at e H;rw[e,T8 rfl]at hF;rw[e,hF];generalize gE s m (n+1)=N at *;refine Dp func49 λC hP hN=>?_;refine Gz ?_;refine WP.loopN [] 3 (λk a=>a.t 4=.ptr 4 0/\a.h 4=some (.box [.pv (.sl (s.js.map bu)),.pv (.sl (s.ms.map cG)),.pv (.sl (s.shs.map cE)),.pv (.sl (s.sks.map aC))] true false)/\a.t 5=.ptr 5 0/\a.h 5=some (.box [.pv (iv root),.pv (.sl (cells.map br))] true false)/\a.t 8=.ptr 8 0/\a.h 8=some (.box [.pv (.val (.slice none 0 0)),.pv (.val (.slice none 0 0))] true false)/\a.t 10=.pv (Z n)/\a.t 11=.ptr 11 0/\((k=0/\a.h 11=some (.box [.pv (iv u.root),.pv (.sl (u.cells.map br))] true false)/\a.t 13=.pv (Z n))\/(k=1/\a.h 11=some (.box [.pv (iv m.root),.pv (.sl (m.cells.map br))] true false)/\a.t 13=.pv (Z (n+1)))\/(k=2/\a.h 11=some (.box [.pv (iv N.root),.pv (.sl (N.cells.map br))] true false)/\a.t 13=.pv (Z (n+2))))) (by simp) ?_;rintro k a L ⟨g4,q,g5,x,I,y,o,p,⟨b,d,f⟩|⟨b,d,f⟩|⟨b,d,f⟩⟩
  .subst b
   have g:n<n+2:=by omega
   exact Gy
  .subst b
   have g:n+1<n+2:=by omega
   exact Gy
  .subst b
   exact Gy
def J1(hi:Int)(i:Nat):J:=⟨qU i,4+(i:Int).tmod 2,(i:Int)-1,0,0,0,0,hi,1,65536,65536,65536⟩
def uI(hi:Int)(k:Nat):List J:=(List.range k).map (J1 hi)
theorem It(hi:Int)(k:Nat):(uI hi (k+1)).map bu=(uI hi k).map bu++[bu (J1 hi k)]:=by simp[uI,Vq]
theorem EA(hi:Int)(k:Nat):(uI hi k).length=k:=by simp[uI]
theorem SP(n:Nat)(hi:Int)(z:0<n)(hn:n<=3):aK 31 (Z n) (Z hi) (iN (uI hi n) []):=by
 refine Dp func31 λC hP hN=>?_;refine Gz ?_
 refine WP.loopN [] n (λi c=>c.t 0=.pv (Z n)/\c.t 1=.pv (Z hi)/\c.t 4=.ptr 4 0/\c.h 4=some (.box [gl,gl] true false)/\c.t 5=.ptr 5 0/\c.t 6=.pv (Z i)/\
  ((i=0/\c.h 5=some (.box [gl,gl] true false)/\c.h 24=none)\/(0<i/\c.h 5=some (.box [.arr 24 i,gl] true false)/\c.h 24=some (.row 97 12 ((uI hi i).map bu) 0)))) (by simp) ?_
 rintro i c u ⟨g0,g1,g4,j,g5,o,g⟩;by_cases l:i<n
 .have y:i64.wrap ((i:Int)+1)=(i:Int)+1:=by rw[IntKind.wrap_i64];omega
  have f:(i:Int)<(n:Int):=by omega
  have s:=It hi i;have v:=Int.tmod_nonneg 2 (Int.natCast_nonneg i);have x:=VK (i:Int) (b:=2) (by decide);have p:i64.wrap ((i:Int).tmod 2)=(i:Int).tmod 2:=aa;have q:i64.wrap (4+(i:Int).tmod 2)=4+(i:Int).tmod 2:=aa;have r:i64.wrap ((i:Int)-1)=(i:Int)-1:=aa;have m:=EA hi i;rcases g with⟨d,e,a⟩|⟨d,e,a⟩
  .subst d
   have cl:=LU 0 (by omega);rw[show((0:Nat):Int)=0 from rfl]at cl
   have A:i64.wrap 0=0:=by decide
   have B:i64.wrap 4=4:=by decide
   have v3:i64.wrap (-1)=-1:=by decide
   have v4:i64.wrap (0+1)=1:=by decide
   have D:i64.wrap (0-1)=-1:=by decide
   have E:Int.tmod 0 2=0:=by decide
   refine Gz ?_
   all_goals simp[uI,J1]
  .have cl:=LU i (by omega)
   refine GT (zAa g0 g1 g4 j g5 o e a l f y p q r (be m (show(i+1)*104<=140737488355328 by omega) (show i<=9223372036854775806 by omega))) ?_
   all_goals simp[s,J1]
 .have k:i=n:=by omega
  subst k;rcases g with⟨d,_⟩|⟨d,e,a⟩
  .omega
  have m:=EA hi i;exact Gy
def eC(shs:List Sh):Sce:=⟨uI 8 1,[],shs,[]⟩
abbrev EK:List Sh:=[⟨0,1,[(0,0,0)]⟩,⟨-1,1,[(4,0,0)]⟩]
def xm(shs:List Sh)(cells:Int):Spc×Int:=(tV (eC shs) [0] [8] 1 cells 60 (ye (eC shs) 1)).getD (ye (eC shs) 1,0)
def FM(shs:List Sh)(cells:Int):Bool:=decide (bi (eC shs)=0)&&lK (eC shs).js (eC shs).ms [0]&&lK (eC shs).js (eC shs).ms [8]&&dj (al (eC shs).js (eC shs).ms)&&io (eC shs).js (eC shs).ms (al (eC shs).js (eC shs).ms)&&aO (nM (al (eC shs).js (eC shs).ms) aN) &&
 aV (nM (al (eC shs).js (eC shs).ms) aN) 0 (cy (dI (eC shs) (al (eC shs).js (eC shs).ms) []))&&aO (nM (al (eC shs).js (eC shs).ms) (cy (dI (eC shs) (al (eC shs).js (eC shs).ms) [])))&&decide ((al (eC shs).js (eC shs).ms).length<=16)&&(tV (eC shs) [0] [8] 1 cells 60 (ye (eC shs) 1)).isSome &&
 decide ((dI (eC shs) (al (eC shs).js (eC shs).ms) []).ns.length<=100)&&decide ((dI (eC shs) (al (eC shs).js (eC shs).ms) []).w.a.length<=100)&&decide ((dI (eC shs) (al (eC shs).js (eC shs).ms) []).w.b.length<=100)
set_option maxRecDepth 100000 in
theorem SZ:FM [] 9=true:=by kernel_rfl
set_option maxRecDepth 100000 in
theorem S3:FM EK 40=true:=by kernel_rfl
set_option maxRecDepth 100000 in
theorem S4:(xm [] 9).2=1/\(xm [] 9).1.cells.length=1/\(xm EK 40).2=2:=by
 refine⟨by kernel_rfl,by kernel_rfl,by kernel_rfl⟩
theorem J5(shs:List Sh)(cells:Int)(i:ScL (eC shs))(g:1<=cells)(h5:cells<=2048)(a:FM shs cells=true):xF 32 (eM (eC shs)) (zs [0]) (zs [8]) (Z 1) (Z cells) (.tup [.agg [iv (xm shs cells).1.root,.sl ((xm shs cells).1.cells.map br)],Z (xm shs cells).2]):=by
 simp only[FM,An,L4]at a;obtain⟨⟨⟨⟨⟨⟨⟨⟨⟨⟨⟨⟨j,n⟩,o⟩,p⟩,q⟩,r⟩,s⟩,u⟩,v⟩,d⟩,k⟩,l⟩,m⟩:=a;obtain⟨R,e⟩:=Uw.1 d
 have b:xm shs cells=R:=by unfold xm;rw[e];rfl
 rw[b];exact SS (eC shs) [0] [8] 1 cells 60 R i j n o (by omega) g h5 (by simp) (by simp) p q r s ⟨by simp only[cy];omega,by simp only[cy];omega,by simp only[cy];omega⟩ ⟨by show(al (eC shs).js (eC shs).ms).length<=_;omega,by simp,λc f=>by simp at f;subst f;simp[rD,aN,aD]⟩ u v e
theorem d9:BA 9 (B true):=by
 have j:=SP 1 8 (by omega) (by omega);have a:=J5 [] 9 ⟨by simp[eC,uI],by simp[eC],by simp[eC],by simp[eC],by simp[eC]⟩ (by omega) (by omega) SZ;have b:=J5 EK 40 ⟨by simp[eC,uI],by simp[eC],by simp[eC,EK],by simp[eC],by simp[eC,EK]⟩ (by omega) (by omega) S3;obtain⟨c,d,e⟩:=S4;rw[c]at a;rw[e]at b;simp only[eC,EK,eM,cE,aG,zs,U9,WE]at a b;generalize xm [] 9=g at *;generalize f:(xm [⟨0,1,[(0,0,0)]⟩,⟨-1,1,[(4,0,0)]⟩] 40).1=i at *;generalize uI 8 1=J at *;refine Dp func9 λC hP hN=>?_;exact GS d
def ut(s:Sce):Bool:=decide ((s.js.length:Int)<=4)&&decide ((s.ms.length:Int)<=6)&&decide ((s.shs.length:Int)<=6)&&decide ((s.sks.length:Int)<=8)
theorem d8(s:Sce):aR 8 (eM s) (B (ut s)):=by
 unfold ut;obtain⟨js,ms,SH,sks⟩:=s;simp only;generalize e:decide ((js.length:Int)<=4)=a;generalize f:decide ((ms.length:Int)<=6)=b;generalize g:decide ((SH.length:Int)<=6)=c;generalize hd:decide ((sks.length:Int)<=8)=d;cases a<;>cases b<;>cases c
 all_goals
  refine Dp func8 λC hP hN=>?_
  with_reducible repeat' (first|refine Sp.h ?_|((first|refine Ss.h ?_|(refine Sb.h ?_ ?_ ?_<;>(try intro hgd)<;>try exact Xy))<;>simp -implicitDefEqProofs (maxSteps:=2000000) [hP,hN,e,f,g,hd])|refine X2 ?_ ?_|(refine Xd ?_ ?_<;>intro hcd<;>try exact Xx))
theorem G0(t:Tr)(i:Int)(a:t.root.length<=16777216):(bO t i).length<=16777216:=by
 unfold bO;split
 .rename_i h
  simp only[dn,An,L4]at h;have:=(mQ h.1.1 (c:=i) (by omega)).2.1;omega
 .simp
theorem G1(t:Tr):aV t (-1) aN=false/\bP t (-1) aN=t:=by
 have h:aV t (-1) aN=false:=by simp[aV]
 exact⟨h,by unfold bP;rw[h];rfl⟩
theorem OH(t:Tr)(d:TSm t):aR 95 (bZ t) (bZ t):=by
 have a:=OW t (-1) aN d (by simp[rD,aN]);obtain⟨b,c⟩:=G1 t;rw[b,c]at a;clear b c;simp only[jT,aN,aG,zs,WE]at a;refine Dp func95 λC hP hN=>?_
 with_reducible repeat' (first|refine Sp.h ?_|((first|refine Ss.h ?_|refine Sc.h (a) ?_|(refine Sb.h ?_ ?_ ?_<;>(try intro hgd)<;>try exact Xy))<;>simp -implicitDefEqProofs (maxSteps:=2000000) [hP,hN])|refine X2 ?_ ?_|(refine Xd ?_ ?_<;>intro hcd<;>try exact Xx))
theorem L8(s:Sce)(t:Tr)(i:Int)(r:ScL s)(g:TSm t):kY 44 (eM s) (bZ t) (Z i) (.tup [bZ (gE s t i),B (gU s t i)]):=by
 have L:=G0 t i g.root;have M:=g.cells
 have f:∀c∈t.cells,c.v.nor.length<=9223372036854775807:=λc m=>by have:=(g.vs c m).1;omega
 have e:=NE t i (by omega);have q:=ET s r;have j:=Oz s.js s.ms (bO t i) r.js r.ms;have u:=OH t g
 cases hp:pm s t i with
 |true=>
  have p:=hp;simp only[pm,An,L4]at hp;obtain⟨⟨d,l⟩,y⟩:=hp;have x:=l;simp only[dn,An,L4]at x;obtain⟨k,rfl⟩:∃k:Nat,i=k:=⟨i.toNat,by omega⟩
  have n:k<t.cells.length:=by omega
  obtain⟨c,m⟩:∃c,t.cells[k]?=some c:=⟨_,an n⟩;have F:∀h,t.cells[k]'h=c:=λh=>dx m h
  have G:lV t k=c.v:=by simp[lV,m]
  have J:=Mv s (bO t k) c.v.nor r (by omega) (f c (Is m))
  have I:su s t k=cy (dI s (bO t k) c.v.nor):=by rw[su,Uk,G]
  have E:gE s t k=bP t k (cy (dI s (bO t k) c.v.nor)):=by rw[gE,T8 p,I]
  have z:gU s t k=aV t k (cy (dI s (bO t k) c.v.nor)):=by rw[gU,p,Uq,I]
  rw[E,z]
  have a:(bi s !=0)=false:=by simp[d]
  rw[l]at e;rw[y]at j;have H:=ym s (bO t k) c.v.nor;generalize dI s (bO t k) c.v.nor=V at *;generalize bO t (k:Int)=b at *;obtain⟨N,nl,⟨pr,A,D⟩⟩:=V;simp only[cy];simp only at H;have K:=OW t k ⟨N,nl,pr,A,D⟩ g ⟨by simp only;omega,by simp only;omega,by simp only;omega⟩;clear g f
  have o:¬t.cells.length<=k:=by omega
  refine Dp func44 λC hP hN=>?_
  with_reducible repeat' (first|refine Sp.h ?_|((first|refine Wd ?_|refine Ss.h ?_|refine Sc.h (e) ?_|refine Sc.h (q) ?_|refine Sc.h (j) ?_|refine Sc.h (J) ?_|refine Sc.h (K) ?_|(refine Sb.h ?_ ?_ ?_<;>(try intro hgd)<;>try exact Xy))<;>simp -implicitDefEqProofs (maxSteps:=2000000) [hP,hN,n,o,m,F,d,a]<;>try refine Ya ?_)|refine X2 ?_ ?_|(refine Xd ?_ ?_<;>intro hcd<;>try exact Xx))
 |false=>
  have E:gE s t i=t:=by rw[gE,TQ (by simp[hp])]
  have z:gU s t i=false:=by rw[gU,hp,UE]
  rw[E,z];clear g f;by_cases d:bi s=0
  .have a:(bi s !=0)=false:=by simp[d]
   cases l:dn t i with
   |false=>
    rw[l]at e;refine Dp func44 λC hP hN=>?_
    with_reducible repeat' (first|refine Sp.h ?_|((first|refine Wd ?_|refine Ss.h ?_|refine Sc.h (e) ?_|refine Sc.h (q) ?_|refine Sc.h (j) ?_|refine Sc.h (u) ?_|(refine Sb.h ?_ ?_ ?_<;>(try intro hgd)<;>try exact Xy))<;>simp -implicitDefEqProofs (maxSteps:=2000000) [hP,hN,d,a]<;>try refine Ya ?_)|refine X2 ?_ ?_|(refine Xd ?_ ?_<;>intro hcd<;>try exact Xx))
   |true=>
    have y:io s.js s.ms (bO t i)=false:=by simpa[pm,d,l]using hp
    rw[l]at e;rw[y]at j;refine Dp func44 λC hP hN=>?_
    with_reducible repeat' (first|refine Sp.h ?_|((first|refine Wd ?_|refine Ss.h ?_|refine Sc.h (e) ?_|refine Sc.h (q) ?_|refine Sc.h (j) ?_|refine Sc.h (u) ?_|(refine Sb.h ?_ ?_ ?_<;>(try intro hgd)<;>try exact Xy))<;>simp -implicitDefEqProofs (maxSteps:=2000000) [hP,hN,d,a]<;>try refine Ya ?_)|refine X2 ?_ ?_|(refine Xd ?_ ?_<;>intro hcd<;>try exact Xx))
  .have a:(bi s !=0)=true:=by simp[d]
   refine Dp func44 λC hP hN=>?_
   with_reducible repeat' (first|refine Sp.h ?_|((first|refine Wd ?_|refine Ss.h ?_|refine Sc.h (e) ?_|refine Sc.h (q) ?_|refine Sc.h (j) ?_|refine Sc.h (u) ?_|(refine Sb.h ?_ ?_ ?_<;>(try intro hgd)<;>try exact Xy))<;>simp -implicitDefEqProofs (maxSteps:=2000000) [hP,hN,d,a]<;>try refine Ya ?_)|refine X2 ?_ ?_|(refine Xd ?_ ?_<;>intro hcd<;>try exact Xx))
theorem Hh(t:Tr):aR 7 (bZ t) (B (decide (t.root.length<=12)&&decide (t.cells.length<=60))):=by
 have a:decide ((t.root.length:Int)<=12)=decide (t.root.length<=12):=by rw[decide_eq_decide];omega
 have b:decide ((t.cells.length:Int)<=60)=decide (t.cells.length<=60):=by rw[decide_eq_decide];omega
 rw[<-a,<-b];generalize c:decide ((t.root.length:Int)<=12)=x at *;generalize d:decide ((t.cells.length:Int)<=60)=y at *;cases x
 all_goals
  refine Dp func7 λC hP hN=>?_;exact GS (gA c d)
theorem Jk(h:i<3):jh (qU i)=true:=by
 have:i=0\/i=1\/i=2:=by omega
 rcases this with rfl|rfl|rfl<;>decide +kernel
theorem Nr{k:Nat}(h:i<3)(a:k<i):kT (qU k) (qU i)=false:=by
 have:(i=1/\k=0)\/(i=2/\k=0)\/(i=2/\k=1):=by omega
 rcases this with⟨rfl,rfl⟩|⟨rfl,rfl⟩|⟨rfl,rfl⟩<;>decide +kernel
theorem zJ(l:List Int)(n:Nat):0<=jC l n/\jC l n<=5:=by
 unfold jC Cv
 repeat' split
 all_goals omega
theorem D6(l:List Int)(n i:Nat):(eI l n i).lo<=(eI l n i).hi/\-dL (eI l n i).kind<=(eI l n i).lo/\(eI l n i).hi<=dL (eI l n i).kind:=by
 have x:=aQ l (jm l n i) (k:=3) (by decide) (by decide);have m:=aQ l (jm l n i) (k:=5) (by decide) (by decide);have o:=aQ l (nn l (jm l n i)) (k:=4) (by decide) (by decide);have q:=aQ l (nn l (nn l (jm l n i))) (k:=3) (by decide) (by decide);have y:=zJ l n;have ok:=Il l n i;simp only[eI]at ok|-;refine⟨by have:=ok.1.2.1;exact this,?_⟩;unfold Ex Ey dL;generalize jC l n=e at *;generalize nx l (jm l n i) 3=a at *;generalize nx l (jm l n i) 5=b at *;generalize nx l (nn l (jm l n i)) 4=c at *;generalize nx l (nn l (nn l (jm l n i))) 3=d at *
 have r:∀b:Int,0<=b->b<5->-32768<=wr ((wr (wr (-b)*65536)).tdiv 8):=by
  intro b p h5
  have:b=0\/b=1\/b=2\/b=3\/b=4:=by omega
  rcases this with rfl|rfl|rfl|rfl|rfl<;>decide
 have u:∀c:Int,0<=c->c<4->0<=wr ((wr (wr (1+c)*65536)).tdiv 8)/\wr ((wr (wr (1+c)*65536)).tdiv 8)<=32768:=by
  intro c p q
  have:c=0\/c=1\/c=2\/c=3:=by omega
  rcases this with rfl|rfl|rfl|rfl<;>decide
 have s:=r b m.1 m.2;have v:=u c o.1 o.2
 have hd:e=0\/e=1\/e=2\/e=3\/e=4\/e=5:=by omega
 have g:wr (wr (-a)*65536)=-a*65536:=by rw[aa (n:=-a) (by omega) (by omega),aa (by omega) (by omega)]
 have j:wr (c*32768)=c*32768:=aa;have f:wr (wr ((wr (wr (1+c)*65536)).tdiv 8)+d)=wr ((wr (wr (1+c)*65536)).tdiv 8)+d:=aa;rcases hd with rfl|rfl|rfl|rfl|rfl|rfl
 .simp
 .simp only[f];simp;omega
 .simp only[f];simp;omega
 .simp only[f];simp;omega
 .simp only[g,j];simp;omega
 .simp only[g,j];simp;omega
theorem HE(l:List Int)(n i:Nat)(h:i<3)(js:List J)(hd:qW js i (qU i)=false):cD js i (eI l n i)=0:=by
 have m:=zJ l n;obtain⟨o,p,q⟩:=D6 l n i;have g:=aQ l n (k:=4) (by decide) (by decide);have j:=aQ l (nn l n) (k:=3) (by decide) (by decide);have a3:=aQ l (rP l n) (k:=5) (by decide) (by decide);have a4:=aQ l (nn l (rP l n)) (k:=3) (by decide) (by decide);have b:wr (1+nx l n 4)=1+nx l n 4:=aa;have c:wr (65536+nx l (nn l n) 3)=65536+nx l (nn l n) 3:=aa
 have d:wr (wr (nx l (rP l n) 5-2)*32768)=(nx l (rP l n) 5-2)*32768:=by rw[aa (n:=nx l (rP l n) 5-2) (by omega) (by omega),aa (by omega) (by omega)]
 have e:wr (wr (nx l (nn l (rP l n)) 3-1)*32768)=(nx l (nn l (rP l n)) 3-1)*32768:=by rw[aa (n:=nx l (nn l (rP l n)) 3-1) (by omega) (by omega),aa (by omega) (by omega)]
 have f:wr ((i:Int)-1)=(i:Int)-1:=aa
 have hp:¬((eI l n i).parent< -1\/(i:Int)<=(eI l n i).parent):=by
  simp only[eI,f];split<;>omega
 have a:fS (eI l n i).ox (eI l n i).oy (eI l n i).oz 4194304=true:=by
  simp only[eI,d,e,fS,fU,An,L4]
  repeat' split
  all_goals omega
 rw[cD,TQ (by simp[eI,Jk h,hd]),TQ (by show¬(jC l n<0\/6<jC l n);omega),TQ hp,TQ (by simp[a]),TQ (by omega),TQ];simp only[eI,b,c,bf];simp;omega
theorem xu(l:List Int)(h:i<(jR l 0).length):(jR l 0)[i]=eI l (qV l (nn l 0) i) i:=by simp[jR,zj]
theorem Jl(l:List Int):aW (jR l 0) (pO l 0)=0:=by
 have f:=Ag l 0
 have hf:jb (jR l 0)=0:=by
  refine tT (λk x o=>?_);have e:=(th.1 o);have g:=e.1;rw[<-e.2,xu l e.1];refine HE l _ k (by omega) _ (GY (λm y d p=>?_));have c:=(th.1 p);rw[<-c.2,xu l c.1];exact Nr (by omega) d
 have j:(pO l 0).length<=2:=by
  have:=aQ l (rM l 0) (k:=3) (by decide) (by decide);rw[pO,wx,rK];omega
 have b:((pO l 0).any λm=>!f8 (jR l 0).length m)=false:=by
  rw[VO];intro m d;simp only[pO,xh,Ur]at d;obtain⟨i,_,rfl⟩:=d
  have hn:(rN l 0:Int)=((jR l 0).length:Int):=by rw[jR,ol]
  generalize mZ l (nn l (rM l 0)) i=a;have u:=aQ l a (k:=(rN l 0:Int)) (by omega) (by omega);have v:=aQ l (nn l a) (k:=9000) (by decide) (by decide);have z:=aQ l (nn l (nn l a)) (k:=7) (by decide) (by decide);have A:=aQ l (nn l (nn l (nn l a))) (k:=5) (by decide) (by decide);have q:wr (1+nx l (nn l a) 9000)=1+nx l (nn l a) 9000:=aa
  have r:wr (wr (nx l (nn l (nn l a)) 7-3)*32768)=(nx l (nn l (nn l a)) 7-3)*32768:=by rw[aa (n:=nx l (nn l (nn l a)) 7-3) (by omega) (by omega),aa (by omega) (by omega)]
  have s:wr (wr (nx l (nn l (nn l (nn l a))) 5-2)*32768)=(nx l (nn l (nn l (nn l a))) 5-2)*32768:=by rw[aa (n:=nx l (nn l (nn l (nn l a))) 5-2) (by omega) (by omega),aa (by omega) (by omega)]
  have:f8 (jR l 0).length (ww l a (rN l 0))=true:=by
   simp only[f8,ww,q,r,s,bf,fS,fU,An,L4];omega
  simp[this]
 unfold aW;rw[TQ (by omega),hf,TQ (by simp),b];simp;omega
theorem Ki{c:Int}(a:0<=c)(b:c<5):1<=wr ((wr (wr (1+c)*65536)).tdiv 8)/\wr ((wr (wr (1+c)*65536)).tdiv 8)<=1048576:=by
 have:c=0\/c=1\/c=2\/c=3\/c=4:=by omega
 rcases this with rfl|rfl|rfl|rfl|rfl<;>decide
theorem EX{c k:Int}(a:-20<=c-k)(b:c-k<=20):wr (wr (c-k)*32768)=(c-k)*32768:=by
 rw[aa (n:=c-k) (by omega) (by omega),aa (by omega) (by omega)]
theorem Dg{l:List Int}{c:Vc}(h1:-655360<=c.1/\c.1<=655360)(q:-655360<=c.2.1/\c.2.1<=655360)(r:-655360<=c.2.2/\c.2.2<=655360):∀p∈vF l n c,av 4194304 p=true:=by
 intro p hp
 have hN:∀v:Vc,(-1310720<=v.1/\v.1<=1310720)->(-1310720<=v.2.1/\v.2.1<=1310720)->(-1310720<=v.2.2/\v.2.2<=1310720)->av 4194304 v=true:=λv a b d=>by
  rw[bV,aY,aY,aY];omega
 rcases Ut.1 hp with rfl|hp
 .exact hN _ (by omega) (by omega) (by omega)
 .obtain⟨i,_,rfl⟩:=Ur.1 hp
  generalize pQ l (nn l n) i=m;have j:=aQ l m (k:=7) (by decide) (by decide);have o:=aQ l (nn l m) (k:=5) (by decide) (by decide);have a3:=aQ l (nn l (nn l m)) (k:=5) (by decide) (by decide);have e:=EX (c:=nx l m 7) (k:=3) (by omega) (by omega);have f:=EX (c:=nx l (nn l m) 5) (k:=2) (by omega) (by omega);have g:=EX (c:=nx l (nn l (nn l m)) 5) (k:=2) (by omega) (by omega);refine hN _ ?_ ?_ ?_<;>simp only[Kd,e,f,g]<;>rw[aa (by omega) (by omega)]<;>omega
theorem Dh{h:Sh}(h1:dt n h.link=true)(a:1<=h.rad)(b:h.rad<=1048576)(c:1<=h.pts.length)(h5:h.pts.length<=8)(h6:∀p∈h.pts,av 4194304 p=true):di n h=0:=by
 unfold di;rw[T8 (by simp only[An,L4];exact⟨⟨⟨⟨h1,a⟩,b⟩,c⟩,h5⟩),T8 (TP.2 h6)]
theorem Di(l:List Int)(n:Nat)(c:Vc):1<=(vF l n c).length:=by simp[vF,zC]
theorem Dj(l:List Int)(n m:Nat):∀i,i<=m->∀h∈(gS l n i).1,di m h=0
 |0,_,h,a=>by cases a
 |i+1,hi,h,a=>by
  simp only[gS]at a;split at a
  .rcases Ui.1 a with a|a
   .exact Dj l n m i (by omega) h a
   .rw[UC]at a
    subst a;generalize nn l (gS l n i).2=q;have f:=aQ l q (k:=3) (by decide) (by decide);have g:=aQ l (nn l q) (k:=4) (by decide) (by decide);have d:wr (nx l (nn l q) 4*32768)=nx l (nn l q) 4*32768:=aa;have b:=Ki (c:=nx l q 3) (by omega) (by omega);have e:=wG l (nn l (nn l q)) (wr (nx l (nn l q) 4*32768),0,0);refine Dh (by show dt m (i:Int)=true;simp only[dt,An,L4];omega) b.1 b.2 (Di _ _ _) (by show(vF _ _ _).length<=8;omega) (Dg ?_ ?_ ?_)
    .simp only[d];omega
    .simp
    .simp
  .exact Dj l n m i (by omega) h a
theorem Hw(l:List Int)(xs:List Sh)(n m:Nat)(d:∀h∈xs,di m h=0):∀i,∀h∈(jG l xs n i).1,di m h=0
 |0,h,a=>d h a
 |i+1,h,a=>by
  simp only[jG]at a;rcases Ui.1 a with a|a
  .exact Hw l xs n m d i h a
  .rw[UC]at a
   subst a;generalize(jG l xs n i).2=q;have j:=aQ l q (k:=19) (by decide) (by decide);have o:=aQ l (nn l q) (k:=19) (by decide) (by decide);have a3:=aQ l (nn l (nn l q)) (k:=5) (by decide) (by decide);have a4:=aQ l (nn l (nn l (nn l q))) (k:=4) (by decide) (by decide);have b:=Ki (c:=nx l (nn l (nn l (nn l q))) 4) (by omega) (by omega);have e:=EX (c:=nx l q 19) (k:=9) (by omega) (by omega);have f:=EX (c:=nx l (nn l q) 19) (k:=9) (by omega) (by omega);have g:=EX (c:=nx l (nn l (nn l q)) 5) (k:=2) (by omega) (by omega)
   refine Dh (by show dt m (-1)=true;simp only[dt,An,L4];omega) b.1 b.2 (Di _ _ _) (by
    show(vF _ _ _).length<=8;have:=wG l (nn l (nn l (nn l (nn l q)))) (wr (wr (nx l q 19-9)*32768),wr (wr (nx l (nn l q) 19-9)*32768),wr (wr (nx l (nn l (nn l q)) 5-2)*32768))
    omega) (Dg ?_ ?_ ?_)
   .simp only[e];omega
   .simp only[f];omega
   .simp only[g];omega
theorem Dk(l:List Int):bi (nR l)=0:=by
 have c:=Jl l;have g:=Ag l 0
 have hN:(rN l 0:Int)=((jR l 0).length:Int):=by rw[jR,ol]
 have h5:=(zD l (tS l 0) (rN l 0)).2;have h6:=(zE l (mA l).1 (nn l (mA l).2) (rW l (mA l).2)).2;have e:=aQ l (mA l).2 (k:=3) (by decide) (by decide)
 have h7:rW l (mA l).2<=3:=by unfold rW;omega
 have h8:(mA l).1.length<=3:=by unfold mA;omega
 have i:(nR l).shs.length<=24:=by show(mB l).1.length<=24;unfold mB;omega
 have hf:gP (nR l).js.length (nR l).shs=0:=by
  refine ro λk x d=>?_;refine Hw l _ _ _ ?_ _ x (Is d);intro h b;refine Dj l _ _ (rN l 0) ?_ h b;show rN l 0<=(jR l 0).length;omega
 have a:(nR l).sks.length<=1/\(nR l).sks.all (jl (nR l).js.length)=true:=by
  show(if nx l (mB l).2 5=1 then[((-1:Int),nx l (nn l (mB l).2) (rN l 0))]else[]).length<=1/\(if nx l (mB l).2 5=1 then[((-1:Int),nx l (nn l (mB l).2) (rN l 0))]else[]).all (jl (jR l 0).length)=true;split
  .have f:=aQ l (nn l (mB l).2) (k:=(rN l 0:Int)) (by omega) (by omega)
   refine⟨by simp,?_⟩;simp only[List.all_cons,List.all_nil,jl,dt,VC,An,L4];omega
  .simp
 unfold bi;rw[show aW (nR l).js (nR l).ms=0 from c,hf,TQ (by simp),TQ (by omega),TQ (by simp),TQ (by omega),T8 a.2]
structure TLe(n:Nat)(t:Tr):Prop where
 root:t.root.length<=n
 cells:t.cells.length<=n
 vs:iC n t
theorem TLe.sm(h:TLe n t)(hn:n<=16777216):TSm t:=⟨by have:=h.root;omega,by have:=h.cells;omega,λc a=>by
 obtain⟨b,d,e⟩:=h.vs c a
 exact⟨by omega,by omega,by omega⟩⟩
theorem xr(t:Tr)(i j:Int):(cL t i j).root=t.root:=by unfold cL;split<;>rfl
theorem zI(t:Tr)(i j:Int):(cL t i j).cells.length<=t.cells.length+2:=by
 unfold cL;split
 .rw[qp];exact Ua _
 .omega
theorem E3(h:iC n t)(hn:n<=16777216):∀c∈t.cells,ND c.v:=λc a=>by
 obtain⟨b,d,e⟩:=h c a;exact⟨by omega,by omega,by omega⟩
theorem wA{s:Sce}(h:iC n t)(hn:600<=n)(i:Int):iC n (gE s t i):=by
 unfold gE;split
 .have a:=ym s (bO t i) (lV t i.toNat).nor
  exact Bm h i ⟨by simp only[su,cy];omega,by simp only[su,cy];omega,by simp only[su,cy];omega⟩
 .exact h
theorem G2{r:Bx}(f:dj r=true)(m:List Int)(n:Nat):(mP ⟨r,[aD aN]⟩ m n).root=r/\(mP ⟨r,[aD aN]⟩ m n).cells.length<=1+2*n/\iC 16 (mP ⟨r,[aD aN]⟩ m n):=by
 have g:aO ⟨r,[aD aN]⟩=true:=by rw[lA];exact f
 have a:=AJ m g n;have b:=AK (dq ⟨r,[aD aN]⟩ m n).2 (bh (dq ⟨r,[aD aN]⟩ m n).1) m a.1 (bh (dq ⟨r,[aD aN]⟩ m n).1).length;have e:=a.2.2.1;simp only[UZ]at e;refine⟨by rw[mP,b.2.1,a.2.1],by rw[mP,b.2.2.1];omega,?_⟩;unfold mP;refine AG _ _ _ (AF _ ?_ _) _;intro c d;simp at d;subst d;exact uq 16
theorem iC.up{m:Nat}(h:iC n t)(f:n<=m):iC m t:=λc a=>by
 obtain⟨b,d,e⟩:=h c a;exact⟨by omega,by omega,by omega⟩
theorem J0(s:Sce)(t:Tr)(i:Int)(b:ScL s)(a:TLe 16777216 t):kY 15 (eM s) (bZ t) (Z i) (B true):=by
 have m:=a.root;have n:=a.cells;have d:=L8 s t i b (a.sm (Ua _));have e:=Mh s t i b (by omega) (by omega) (λc k=>by have:=(a.vs c k).1;omega);obtain⟨g,j⟩:=wE s t i;have f:=DM (gE s t i) (by rw[j];omega) (by rw[g];omega) (E3 (wA a.vs (by decide) i) (Ua _));generalize gE s t i=T at *;generalize gU s t i=o at *
 have l:(o==o)=true:=by simp
 refine Dp func15 λC hP hN=>?_
 with_reducible repeat' (first|refine Sp.h ?_|((first|refine Ss.h ?_|refine Sc.h (d) ?_|refine Sc.h (e) ?_|refine Sc.h (f) ?_|(refine Sb.h ?_ ?_ ?_<;>(try intro hgd)<;>try exact Xy))<;>simp -implicitDefEqProofs (maxSteps:=2000000) [hP,hN,l])|refine X2 ?_ ?_|(refine Xd ?_ ?_<;>intro hcd<;>try exact Xx))
theorem d3(c:Sce)(a:Tr)(i:Int)(l m:List Int)(times:Int)(d:ScL c)(o:TLe 16777216 a):HN 3 (eM c) (bZ a) (Z i) (zs l) (zs m) (Z times) (B true):=by
 have j:=d9;have k:=Hh a;have e:=d8 c;generalize(decide (a.root.length<=12)&&decide (a.cells.length<=60))=z at *;generalize ut c=A at *
 cases z with
 |false=>
  refine Dp func3 λC hP hN=>?_
  with_reducible repeat' (first|refine Sp.h ?_|((first|refine Wd ?_|refine Ss.h ?_|refine Sc.h (j) ?_|refine Sc.h (k) ?_|(refine Sb.h ?_ ?_ ?_<;>(try intro hgd)<;>try exact Xy))<;>simp -implicitDefEqProofs (maxSteps:=2000000) [hP,hN]<;>try refine Ya ?_)|refine X2 ?_ ?_|(refine Xd ?_ ?_<;>intro hcd<;>try exact Xx))
 |true=>
 cases A with
 |false=>
  refine Dp func3 λC hP hN=>?_
  with_reducible repeat' (first|refine Sp.h ?_|((first|refine Wd ?_|refine Ss.h ?_|refine Sc.h (j) ?_|refine Sc.h (k) ?_|refine Sc.h (e) ?_|(refine Sb.h ?_ ?_ ?_<;>(try intro hgd)<;>try exact Xy))<;>simp -implicitDefEqProofs (maxSteps:=2000000) [hP,hN]<;>try refine Ya ?_)|refine X2 ?_ ?_|(refine Xd ?_ ?_<;>intro hcd<;>try exact Xx))
 |true=>
 have hL:=Hn l;have G:=Dk l;have F:=ON l;generalize nR l=s at *;have b:=Hf (CN G);have cl:=LJ s.js s.ms hL.js hL.ms;have q:=NA (al s.js s.ms);rw[b,Bo b]at q
 have v:(al s.js s.ms).length<=10:=by
  have:=b;simp only[dj,An,L4]at this;omega
 obtain⟨n,hn,H⟩:=vR (i:=times) (n:=8) (by decide) (by decide);have p:=Ev times 8 (by decide);rw[show jZ times 8=(n:Int) from hn]at p;have E:=NB ⟨al s.js s.ms,[aD aN]⟩ m n (by omega) (by rw[lA];exact b) (by simp);obtain⟨P,V,v3⟩:=G2 b m n;generalize mP ⟨al s.js s.ms,[aD aN]⟩ m n=t at *;generalize(⟨al s.js s.ms,[aD aN]⟩:Tr)=U at *;obtain⟨y,x,J⟩:=vR (i:=i) (n:=t.cells.length+2) (by omega) (by omega);rw[Int.natCast_add]at x;have r:=Ev i ((t.cells.length:Int)+2) (by omega);rw[show jZ i ((t.cells.length:Int)+2)=(y:Int) from x]at r;have Q:i64.wrap ((t.cells.length:Int)+2)=(t.cells.length:Int)+2:=aa;have S:i64.wrap ((y:Int)-1)=(y:Int)-1:=aa;have D:=Tt m;have g:=HJ m;have f:=HD m;have K:=dv.1 (gz g.valid);have u:=g.cells;have I:=g.three;generalize lB m=T at *;have L:=J0 c a i d o;have M:=J0 s t ((y:Int)-1) hL ⟨by rw[P];omega,by omega,v3.up (by decide)⟩;have N:=J0 s a ((y:Int)-1) hL o;have O:=J0 s T ((y:Int)-1) hL ⟨by omega,by omega,f.up (by decide)⟩;generalize al s.js s.ms=R at *;clear K f g v3 o d;obtain⟨js,ms,SH,sks⟩:=s;simp only at *;refine Dp func3 λC hP hN=>?_
 with_reducible repeat' (first|refine Sp.h ?_|((first|refine Wd ?_|refine Ss.h ?_|refine Sc.h (j) ?_|refine Sc.h (k) ?_|refine Sc.h (e) ?_|refine Sc.h (F) ?_|refine Sc.h (cl) ?_|refine Sc.h (q) ?_|refine Sc.h (p) ?_|refine Sc.h (E) ?_|refine Sc.h (r) ?_|refine Sc.h (D) ?_|refine Sc.h (L) ?_|refine Sc.h (M) ?_|refine Sc.h (N) ?_|refine Sc.h (O) ?_|(refine Sb.h ?_ ?_ ?_<;>(try intro hgd)<;>try exact Xy))<;>simp -implicitDefEqProofs (maxSteps:=2000000) [hP,hN,Q,S]<;>try refine Ya ?_)|refine X2 ?_ ?_|(refine Xd ?_ ?_<;>intro hcd<;>try exact Xx))
open Go.Proofs.YtidomjacfogjlaaGreat
section
variable {H:Type}
theorem tc{t b:TypeId}{d:DataW H}{l:List PV}(a:prog.underlying t=some (.slice b))(hf:mi prog t d)(h:eS d=.sl l):fo d=[.sl l]:=by
 obtain⟨n,hf⟩:=hf
 cases n with
 |zero=>exact hf.elim
 |succ n=>
  simp only[gO,a]at hf;rcases hf with rfl|⟨c,sp,rfl,_⟩
  all_goals simp only[eS]at h;simp[fo,<-h]
theorem Le:iQ H prog 84 am (λ_=>True) (λ_=>1):=by
 intro d h;obtain⟨x,y,z,rfl⟩:=wC (H:=H) Tryz.underlying84 Tryz.underlying2 (d:=d) h;exact⟨(x,y,z),by simp[eS,n9,fo,fF,dD],trivial,by simp[fB]⟩
theorem Lf:iQ H prog 74 aG (λl=>l.length<=9223372036854775807) (λl=>l.length):=by
 intro d h;obtain⟨l,e,q,s⟩:=ge (H:=H) Tryz.underlying74 Le d h;have a:=kM (λ_:Int×Int×Int=>1) (λ_=>Ua _) l;simp only at s;refine⟨l,e,q.1,?_⟩;simp only;omega
theorem Jo:iQ H prog 86 cE (λs=>s.pts.length<=9223372036854775807) (λs=>s.pts.length+1):=by
 intro d h;obtain⟨j,rfl,g,a⟩:=gm Tryz.underlying86 h;obtain⟨a0,i,b,rfl⟩:=Ai g;obtain⟨k,rfl,_⟩:=dW (H:=H) Tryz.underlying3 (a 0 _ _ rfl rfl);obtain⟨r,rfl,_⟩:=dW (H:=H) Tryz.underlying2 (a 1 _ _ rfl rfl);have c:mi prog 74 b:=a 2 _ _ rfl rfl;obtain⟨l,e,q,s⟩:=Lf (H:=H) b c;have f:=tc Tryz.underlying74 c e;refine⟨⟨k,r,l⟩,by simp[eS,n9,fo,f,fF,dD],q,?_⟩;simp only[fB,iP]at *;omega
theorem Lg:iQ H prog 94 aC (λ_=>True) (λ_=>1):=by
 intro d h;obtain⟨f,rfl,e,c⟩:=gm Tryz.underlying94 h;obtain⟨a,b,rfl⟩:=FC e;obtain⟨x,rfl,_⟩:=dW (H:=H) Tryz.underlying3 (c 0 _ _ rfl rfl);obtain⟨y,rfl,_⟩:=dW (H:=H) Tryz.underlying3 (c 1 _ _ rfl rfl);exact⟨(x,y),by simp[eS,n9,fo,fF,dD],trivial,by simp[fB]⟩
theorem Du:iQ H prog 29 eM ScL (λs=>s.js.length+s.shs.length+s.sks.length):=by
 intro d h;obtain⟨C,rfl,x,a⟩:=gm Tryz.underlying29 h;obtain⟨a0,b,c,rfl⟩:=Ai x;have v:mi prog 25 a0:=a 0 _ _ rfl rfl;have g:mi prog 26 b:=a 1 _ _ rfl rfl;have i:mi prog 27 c:=a 2 _ _ rfl rfl;obtain⟨M,rfl,B,k⟩:=gm Tryz.underlying25 v;obtain⟨e,f,rfl⟩:=FC B;have g0:mi prog 22 e:=k 0 _ _ rfl rfl;have g1:mi prog 23 f:=k 1 _ _ rfl rfl;obtain⟨js,p,y,G⟩:=ge (H:=H) Tryz.underlying22 Jn e g0;obtain⟨ms,q,z,I⟩:=ge (H:=H) Tryz.underlying23 Ld f g1;obtain⟨shs,r,j,K⟩:=ge (H:=H) Tryz.underlying26 Jo b g;obtain⟨sks,u,A,L⟩:=ge (H:=H) Tryz.underlying27 Lg c i;have l:=tc Tryz.underlying22 g0 p;have m:=tc Tryz.underlying23 g1 q;have n:=tc Tryz.underlying26 g r;have o:=tc Tryz.underlying27 i u;have D:=kM (λ_:J=>1) (λ_=>Ua _) js;have E:=kM (λs:Sh=>s.pts.length+1) (λ_=>by omega) shs;have F:=kM (λ_:Int×Int=>1) (λ_=>Ua _) sks;refine⟨⟨js,ms,shs,sks⟩,by simp[eS,n9,fo,l,m,n,o,fF,dD],⟨y.1,z.1,j.1,A.1,j.2⟩,?_⟩;simp only[fB,iP]at *;omega
end
section
variable {H:Type}
theorem vT{t b:TypeId}{d:DataW H}{l:List PV}(a:prog.underlying t=some (.slice b))(hf:mi prog t d)(h:eS d=.sl l):fo d=[.sl l]:=by
 obtain⟨n,hf⟩:=hf
 cases n with
 |zero=>exact hf.elim
 |succ n=>
  simp only[gO,a]at hf;rcases hf with rfl|⟨c,sp,rfl,_⟩
  all_goals simp only[eS]at h;simp[fo,<-h]
theorem RS{α:Type}{l:List α}(h:l.length=4):∃a b c d,l=[a,b,c,d]:=by
 match l,h with
 |[a,b,c,d],_=>exact⟨a,b,c,d,rfl⟩
theorem Nt:iQ H prog 84 am (λ_=>True) (λ_=>1):=by
 intro d h;obtain⟨x,y,z,rfl⟩:=wC (H:=H) Tryz.underlying84 Tryz.underlying2 (d:=d) h;exact⟨(x,y,z),by simp[eS,n9,fo,fF,dD],trivial,by simp[fB]⟩
def xv(v:Verd):Nat:=v.nor.length+v.left.length+v.right.length+1
def vQ(v:Verd):Prop:=v.nor.length<=9223372036854775807/\v.left.length<=9223372036854775807/\v.right.length<=9223372036854775807
theorem Jp{d:DataW H}(h:mi prog 78 d):∃v:Verd,fo d=[Z v.kind,aG v.nor,Z v.pair,zs v.left,zs v.right]/\eS d=jT v/\vQ v/\xv v<=fB d:=by
 obtain⟨E,rfl,y,a⟩:=gm Tryz.underlying78 h;obtain⟨a0,c,q,rfl⟩:=Ai y;obtain⟨k,rfl,_⟩:=dW (H:=H) Tryz.underlying3 (a 0 _ _ rfl rfl);have l:mi prog 74 c:=a 1 _ _ rfl rfl;have x:mi prog 76 q:=a 2 _ _ rfl rfl;obtain⟨nor,r,z,J⟩:=ge (H:=H) Tryz.underlying74 Nt c l;obtain⟨M,rfl,C,b⟩:=gm Tryz.underlying76 x;obtain⟨D,e,f,rfl⟩:=Ai C;obtain⟨pr,rfl,_⟩:=dW (H:=H) Tryz.underlying3 (b 0 _ _ rfl rfl);have m:mi prog 49 e:=b 1 _ _ rfl rfl;have n:mi prog 49 f:=b 2 _ _ rfl rfl;obtain⟨o,s,A,K⟩:=Bn (H:=H) e m;obtain⟨p,u,B,L⟩:=Bn (H:=H) f n;have g:=vT Tryz.underlying74 l r;have i:=vT Tryz.underlying49 m s;have j:=vT Tryz.underlying49 n u;have F:=kM (λ_:Int×Int×Int=>1) (λ_=>Ua _) nor;have G:=kM (λ_:Int=>1) (λ_=>Ua _) o;have I:=kM (λ_:Int=>1) (λ_=>Ua _) p;refine⟨⟨k,nor,pr,o,p⟩,by simp[fo,n9,g,i,j],by simp[eS,fo,n9,g,i,j,fF,dD],⟨z.1,A.1,B.1⟩,?_⟩;simp only[xv,fB,iP]at *;omega
theorem Lh:iQ H prog 80 br (λc=>vQ c.v) (λc=>xv c.v):=by
 intro d h;obtain⟨l,rfl,e,a⟩:=gm Tryz.underlying80 h;obtain⟨a0,j,k,a3,rfl⟩:=RS e;obtain⟨f,rfl,_⟩:=dW (H:=H) Tryz.underlying3 (a 0 _ _ rfl rfl);obtain⟨g,rfl,_⟩:=dW (H:=H) Tryz.underlying3 (a 1 _ _ rfl rfl);obtain⟨i,rfl,_⟩:=dW (H:=H) Tryz.underlying3 (a 2 _ _ rfl rfl);obtain⟨v,b,_,q,s⟩:=Jp (H:=H) (a 3 _ _ rfl rfl);refine⟨⟨f,g,i,v⟩,by simp[eS,fo,n9,b,fF,dD],q,?_⟩;simp only[fB,iP];omega
def tQ(t:Tr):Prop:=t.root.length<=9223372036854775807/\t.cells.length<=9223372036854775807/\∀c∈t.cells,vQ c.v
def Ko(t:Tr):Nat:=t.root.length+(t.cells.map λc=>xv c.v).sum
theorem E4:iQ H prog 33 bZ tQ Ko:=by
 intro d h;obtain⟨s,rfl,n,c⟩:=gm Tryz.underlying33 h;obtain⟨a,b,rfl⟩:=FC n;have e:mi prog 30 a:=c 0 _ _ rfl rfl;have f:mi prog 31 b:=c 1 _ _ rfl rfl;obtain⟨r,j,o,p⟩:=Ns (H:=H) a e;obtain⟨i,k,g,q⟩:=ge (H:=H) Tryz.underlying31 Lh b f;have l:=vT Tryz.underlying30 e j;have m:=vT Tryz.underlying31 f k;have u:=kM (λ_:Int×Int=>1) (λ_=>Ua _) r;refine⟨⟨r,i⟩,by simp[eS,n9,l,m,fF,dD],⟨o.1,g.1,g.2⟩,?_⟩;simp only at p q;simp only[fB,iP,Ko];omega
end
end Go.Ab
namespace Go.Ab
open IntKind (i64)
open Go.Proofs.Tryz
theorem E5{α:Type}{f:α->Nat}:∀{l:List α}{x:α},x∈l->f x<=(l.map f).sum
 |y::l,x,h=>by
  rcases Ut.1 h with rfl|h
  .simp
  .have:=E5 (f:=f) h
   simp;omega
theorem Nu{t:Tr}{b:Nat}(h:Ko t<=b)(i:b<=1048576):TLe 16777216 t:=by
 unfold Ko at h;have d:=kM (λc:Cel=>xv c.v) (λc=>by unfold xv;omega) t.cells;refine⟨by omega,by omega,λc a=>?_⟩;have e:xv c.v<=(t.cells.map λc=>xv c.v).sum:=E5 (f:=λc:Cel=>xv c.v) a;have g:xv c.v=c.v.nor.length+c.v.left.length+c.v.right.length+1:=rfl;exact⟨by omega,by omega,by omega⟩
open Go.Proofs
set_option maxRecDepth 100000 in
@[simp] theorem PL:ew prog 101:=by
 have hf:=func101;have nt:=ntmps101;have rs:=results101;exact xg
theorem zo{t:Tr}(c:t.root.length<=1000000)(b:t.cells.length<=2000000)(a:iC 16777216 t):TSm t:=⟨by omega,by omega,a⟩
theorem SO(s:Sce)(t:Tr)(i j:Int)(A:ScL s)(o:t.root.length<=1000000)(S:t.cells.length<=1000000)(p:iC 16777216 t):BB 48 (eM s) (bZ t) (Z i) (Z j) (.tup [bZ (vr s t i j),B (vq s t i j)]):=by
 have E:=xr t i j;have Q:=zI t i j;have G:=yx p i j;obtain⟨K,F⟩:=wE s (cL t i j) (t.cells.length:Int);have L:iC 16777216 (oa s t i j):=wA G (by decide) _;have z:oa s t i j=gE s (cL t i j) (t.cells.length:Int):=rfl;rw[<-z]at K F;have N:=R9 t i j (zo o (by omega) p);have I:=L8 s (cL t i j) (t.cells.length:Int) A (zo (by rw[E];exact o) (by omega) G);have O:=L8 s (oa s t i j) ((t.cells.length:Int)+1) A (zo (by rw[F,E];exact o) (by omega) L);have P:=OH t (zo o (by omega) p);have J:vq s t i j=(bU t i j&&gU s (cL t i j) (t.cells.length:Int)&&gU s (oa s t i j) ((t.cells.length:Int)+1)):=rfl
 have hF:vr s t i j=if vq s t i j then gE s (oa s t i j) ((t.cells.length:Int)+1)else t:=rfl
 rw[hF,J];rw[<-z]at I;clear hF J z E Q G K F L p A;generalize gE s (oa s t i j) ((t.cells.length:Int)+1)=H at *;generalize gU s (oa s t i j) ((t.cells.length:Int)+1)=D at *;generalize oa s t i j=n at *;generalize gU s (cL t i j) (t.cells.length:Int)=m at *;generalize cL t i j=l at *;generalize bU t i j=b at *;have R:i64.wrap ((t.cells.length:Int)+1)=(t.cells.length:Int)+1:=aa;obtain⟨X,M,q,r⟩:∃X:Nat->Tr×Bool,X 0=(l,b)/\X 1=(if b then(n,m)else(l,false))/\X 2=(if(X 1).2 then(H,D)else X 1):=⟨λk=>if k=0 then(l,b)else if k=1 then(if b then(n,m)else(l,false))else if(if b then(n,m)else(l,false)).2 then(H,D)else(if b then(n,m)else(l,false)),rfl,rfl,rfl⟩;obtain⟨js,ms,SH,sks⟩:=s;refine Dp func48 λC hP hN=>?_
 with_reducible repeat' (first|refine Sp.h ?_|((first|refine Ss.h ?_|refine Sc.h (N) ?_|(refine Sb.h ?_ ?_ ?_<;>(try intro hgd)<;>try exact Xy))<;>simp -implicitDefEqProofs (maxSteps:=2000000) [hP,hN,R])|refine X2 ?_ ?_|(refine Xd ?_ ?_<;>intro hcd<;>try exact Xx))
 refine WP.loopN [] 2 (λk a=>a.t 4=.ptr 4 0/\a.h 4=some (.box [.pv (.sl (js.map bu)),.pv (.sl (ms.map cG)),.pv (.sl (SH.map cE)),.pv (.sl (sks.map aC))] true false)/\a.t 5=.ptr 5 0/\a.h 5=some (.box [.pv (iv t.root),.pv (.sl (t.cells.map br))] true false)/\a.t 8=.ptr 8 0/\a.h 8=some (.box [.pv (iv (X k).1.root),.pv (.sl ((X k).1.cells.map br))] true false)/\a.t 9=.ptr 9 0/\a.h 9=some (.box [.pv (B (X k).2)] true false)/\a.t 27=.pv (.sl [Z (t.cells.length:Int),Z ((t.cells.length:Int)+1)])/\a.t 28=.pv (Z 2)/\a.t 29=.pv (Z k)) (by simp[M]) ?_;rintro k a T ⟨g4,u,g5,v,x,c,y,d,e,f,g⟩;rcases(show k=0\/k=1\/k=2 by omega)with rfl|rfl|rfl
 .rw[M]at c d
  cases b
  all_goals
   simp only[T5,Ul,Uf]at q
   with_reducible repeat' (first|refine Sp.h ?_|((first|refine Ss.h ?_|refine Sc.h (I) ?_|(refine Sb.h ?_ ?_ ?_<;>(try intro hgd)<;>try exact Xy))<;>simp -implicitDefEqProofs (maxSteps:=2000000) [hP,hN,g4,u,g5,v,x,c,y,d,e,f,g,q])|refine X2 ?_ ?_|(refine Xd ?_ ?_<;>intro hcd<;>try exact Xx))
 .rw[q]at r c d
  cases b
  case' true=>cases m
  all_goals
   simp only[T5,Ul,Uf]at r c d
   with_reducible repeat' (first|refine Sp.h ?_|((first|refine Ss.h ?_|refine Sc.h (O) ?_|(refine Sb.h ?_ ?_ ?_<;>(try intro hgd)<;>try exact Xy))<;>simp -implicitDefEqProofs (maxSteps:=2000000) [hP,hN,g4,u,g5,v,x,c,y,d,e,f,g,r])|refine X2 ?_ ?_|(refine Xd ?_ ?_<;>intro hcd<;>try exact Xx))
 .rw[r,q]at c d
  cases b
  case' true=>cases m
  case' true.true=>cases D
  all_goals
   simp only[T5,Ul,Uf]at c d
   with_reducible repeat' (first|refine Sp.h ?_|((first|refine Ss.h ?_|refine Sc.h (P) ?_|(refine Sb.h ?_ ?_ ?_<;>(try intro hgd)<;>try exact Xy))<;>simp -implicitDefEqProofs (maxSteps:=2000000) [hP,hN,g4,u,g5,v,x,c,y,d,e,f,g])|refine X2 ?_ ?_|(refine Xd ?_ ?_<;>intro hcd<;>try exact Xx))
theorem L9{s:Sce}{t:Tr}(h:iC 16777216 t)(i j:Int):iC 16777216 (vr s t i j):=by
 unfold vr;split
 .exact wA (wA (yx h i j) (by decide) _) (by decide) _
 .exact h
theorem KM(s:Sce)(t:Tr)(i j:Int):(vr s t i j).cells.length<=t.cells.length+2/\(vr s t i j).root=t.root:=by
 unfold vr;split
 .have a:=wE s (oa s t i j) ((t.cells.length:Int)+1)
  have b:=wE s (cL t i j) (t.cells.length:Int);have c:oa s t i j=gE s (cL t i j) (t.cells.length:Int):=rfl;rw[c]at a|-;rw[a.1,a.2,b.1,b.2];exact⟨zI t i j,xr t i j⟩
 .exact⟨by omega,rfl⟩
theorem Ma(s:Sce)(t:Tr)(i j:Int)(d:ScL s)(n:t.root.length<=1000)(b:t.cells.length<=1000)(a:iC 16777216 t):BB 17 (eM s) (bZ t) (Z i) (Z j) (B true):=by
 have e:=SO s t i j d (by omega) (by omega) a;have f:=SY s t i j d ⟨by omega,by omega,λc b=>by have:=(a c b).1;omega⟩ (by omega);obtain⟨m,k⟩:=KM s t i j;have g:=DM (vr s t i j) (by rw[k];omega) (by omega) (E3 (L9 a i j) (Ua _));generalize vr s t i j=T at *;generalize vq s t i j=o at *
 have l:(o==o)=true:=by simp
 refine Dp func17 λC hP hN=>?_
 with_reducible repeat' (first|refine Sp.h ?_|((first|refine Ss.h ?_|refine Sc.h (e) ?_|refine Sc.h (f) ?_|refine Sc.h (g) ?_|(refine Sb.h ?_ ?_ ?_<;>(try intro hgd)<;>try exact Xy))<;>simp -implicitDefEqProofs (maxSteps:=2000000) [hP,hN,l])|refine X2 ?_ ?_|(refine Xd ?_ ?_<;>intro hcd<;>try exact Xx))
theorem d4(c:Sce)(a:Tr)(i joint:Int)(l m:List Int)(times:Int)(d:ScL c)(p:iC 16777216 a):Tw 4 (eM c) (bZ a) (Z i) (Z joint) (zs l) (zs m) (Z times) (B true):=by
 have o:=d9;have f:=Hh a;have g:=d8 c;generalize ut c=A at *;by_cases k:a.root.length<=12/\a.cells.length<=60
 case neg=>
  have e:(decide (a.root.length<=12)&&decide (a.cells.length<=60))=false:=by
   rw[Bool.eq_false_iff];simpa using k
  rw[e]at f;refine Dp func4 λC hP hN=>?_
  with_reducible repeat' (first|refine Sp.h ?_|((first|refine Wd ?_|refine Ss.h ?_|refine Sc.h (o) ?_|refine Sc.h (f) ?_|(refine Sb.h ?_ ?_ ?_<;>(try intro hgd)<;>try exact Xy))<;>simp -implicitDefEqProofs (maxSteps:=2000000) [hP,hN]<;>try refine Ya ?_)|refine X2 ?_ ?_|(refine Xd ?_ ?_<;>intro hcd<;>try exact Xx))
 obtain⟨S,T⟩:=k;rw[UD S,UD T]at f;simp only[Vl]at f
 cases A with
 |false=>
  refine Dp func4 λC hP hN=>?_
  with_reducible repeat' (first|refine Sp.h ?_|((first|refine Wd ?_|refine Ss.h ?_|refine Sc.h (o) ?_|refine Sc.h (f) ?_|refine Sc.h (g) ?_|(refine Sb.h ?_ ?_ ?_<;>(try intro hgd)<;>try exact Xy))<;>simp -implicitDefEqProofs (maxSteps:=2000000) [hP,hN]<;>try refine Ya ?_)|refine X2 ?_ ?_|(refine Xd ?_ ?_<;>intro hcd<;>try exact Xx))
 |true=>
 have hL:=Hn l;have F:=Dk l;have E:=ON l;generalize nR l=s at *;have b:=Hf (CN F);have cl:=LJ s.js s.ms hL.js hL.ms;have r:=NA (al s.js s.ms);rw[b,Bo b]at r
 have j:(al s.js s.ms).length<=10:=by
  have:=b;simp only[dj,An,L4]at this;omega
 obtain⟨n,hn,G⟩:=vR (i:=times) (n:=6) (by decide) (by decide);have c6:=Ev times 6 (by decide);rw[show jZ times 6=(n:Int) from hn]at c6;have D:=NB ⟨al s.js s.ms,[aD aN]⟩ m n (by omega) (by rw[lA];exact b) (by simp);obtain⟨x,M,v3⟩:=G2 b m n;generalize mP ⟨al s.js s.ms,[aD aN]⟩ m n=t at *;generalize(⟨al s.js s.ms,[aD aN]⟩:Tr)=U at *;rw[<-x]at j;obtain⟨y,v,H⟩:=vR (i:=i) (n:=t.cells.length+2) (by omega) (by omega);rw[Int.natCast_add]at v;have u:=Ev i ((t.cells.length:Int)+2) (by omega);rw[show jZ i ((t.cells.length:Int)+2)=(y:Int) from v]at u;obtain⟨z,k,I⟩:=vR (i:=joint) (n:=t.root.length+2) (by omega) (by omega);rw[Int.natCast_add]at k;have q:=Ev joint ((t.root.length:Int)+2) (by omega);rw[show jZ joint ((t.root.length:Int)+2)=(z:Int) from k]at q;have N:i64.wrap ((t.cells.length:Int)+2)=(t.cells.length:Int)+2:=aa;have O:i64.wrap ((y:Int)-1)=(y:Int)-1:=aa;have P:i64.wrap ((t.root.length:Int)+2)=(t.root.length:Int)+2:=aa;have Q:i64.wrap ((z:Int)-1)=(z:Int)-1:=aa;have J:=Ma c a i joint d (by omega) (by omega) p;have K:=Ma s t ((y:Int)-1) ((z:Int)-1) hL (by omega) (by omega) (v3.up (by decide));have L:=Ma s a i joint hL (by omega) (by omega) p;generalize al s.js s.ms=R at *;clear x M v3 p d;obtain⟨js,ms,SH,sks⟩:=s;simp only at *;refine Dp func4 λC hP hN=>?_
 with_reducible repeat' (first|refine Sp.h ?_|((first|refine Wd ?_|refine Ss.h ?_|refine Sc.h (o) ?_|refine Sc.h (f) ?_|refine Sc.h (g) ?_|refine Sc.h (E) ?_|refine Sc.h (cl) ?_|refine Sc.h (r) ?_|refine Sc.h (c6) ?_|refine Sc.h (D) ?_|refine Sc.h (u) ?_|refine Sc.h (q) ?_|refine Sc.h (J) ?_|refine Sc.h (K) ?_|refine Sc.h (L) ?_|(refine Sb.h ?_ ?_ ?_<;>(try intro hgd)<;>try exact Xy))<;>simp -implicitDefEqProofs (maxSteps:=2000000) [hP,hN,N,O,P,Q]<;>try refine Ya ?_)|refine X2 ?_ ?_|(refine Xd ?_ ?_<;>intro hcd<;>try exact Xx))
end Go.Ab
