/- The contracts and facts that the laws of this seat need, in one text (K9, K11, K10, K11b, K11c, K11d, K11e, K5c, K5d, K5e, K5f, K5g, K12, Ab28, Ab30, Ab31, K12b, K12c, K13, K13b, K13c, K13d, K13e, K14, K14b, Ck0, K15, K15b, K16, KM1, KM2, KM3, KM4, K17, KM5, XpA). -/
import Derived.Test.YtfpagjchfipjkaaGreatV8
set_option linter.all false
set_option maxRecDepth 10000
set_option maxHeartbeats 16000000
namespace Go.Ab
open IntKind (i64)
open Go.Proofs.Tryz
open Go.Proofs
variable {A B' l ns:List Vc}{D i id m n q:Nat}{P:Program}{PR:List (Nat×Nat)}{PT:List (List aq)}{SH shs:List Sh}{a b:List aq}{aft:Array Edge}{bet:Int->Int->Bool}{bx:List Iv}{c y:Code}{dst:Option Nat}{g:Option (Nat×Bool)}{hn:List Nat}{js:List J}{k ra rb t:Int}{o:Oper}{ops:Array Oper}{post pre:List Oper}{s:Sce}{v:Vc}{w:List Int}{α:Type}{ρ:Operand->AV}{p:α->Bool}{xs:List α}
def bZ(w:Int)(s x:Iv):Iv:=(s.1+w*x.1,s.2+w*x.2)
def rl(w:Int)(s x:aq):aq:=(bZ w s.1 x.1,bZ w s.2.1 x.2.1,bZ w s.2.2 x.2.2)
def cY(l:List aq)(ws:List Int):Nat->aq
 |0=>aY
 |i+1=>match l[i]?,ws[i]? with
  |some x,some w=>rl w (cY l ws i) x
  |_,_=>cY l ws i
def aN(ws:List Int):Nat->Int
 |0=>0
 |i+1=>aN ws i+(ws[i]?).getD 0
def wB(w:Int):Bool:=!(decide (w<0)||decide (65536<w))
def dv(l:List aq)(ws:List Int):Bool:=au l&&decide (ws.length=l.length)&&ws.all wB&& !(decide (aN ws ws.length<1)||decide (65536<aN ws ws.length))
abbrev eZ(l:List aq)(ws:List Int):PV:=.tup (if dv l ws then[bh (cY l ws ws.length),Z (aN ws ws.length),B true]else[bh aY,Z 0,B false])
theorem ic{w:Int}{s x:Iv}{m:Nat}(d:0<=w/\w<=65536)(c:dc x=true)(hs:(-((m:Int)*17592186044416)<=s.1/\s.1<=(m:Int)*17592186044416)/\(-((m:Int)*17592186044416)<=s.2/\s.2<=(m:Int)*17592186044416)):
 ((-17592186044416<=w*x.1/\w*x.1<=17592186044416)/\(-17592186044416<=w*x.2/\w*x.2<=17592186044416))/\(-(((m+1:Nat):Int)*17592186044416)<=(bZ w s x).1/\(bZ w s x).1<=((m+1:Nat):Int)*17592186044416)/\(-(((m+1:Nat):Int)*17592186044416)<=(bZ w s x).2/\(bZ w s x).2<=((m+1:Nat):Int)*17592186044416):=by
 rw[fg]at c;have m1:=bi (a:=w) (b:=x.1) 65536 268435456 (by omega) (by omega) (by omega) (by omega);have m2:=bi (a:=w) (b:=x.2) 65536 268435456 (by omega) (by omega) (by omega) (by omega);simp only[bZ];omega
def CC(m:Nat)(s:Iv):Prop:=(-((m:Int)*17592186044416)<=s.1/\s.1<=(m:Int)*17592186044416)/\(-((m:Int)*17592186044416)<=s.2/\s.2<=(m:Int)*17592186044416)
def sI(m:Nat)(s:aq):Prop:=CC m s.1/\CC m s.2.1/\CC m s.2.2
theorem Am{l:List aq}{ws:List Int}(a:∀v∈l,bK v=true)(h:∀w∈ws,wB w=true):∀i:Nat,sI i (cY l ws i)
 |0=>by simp[cY,sI,CC,aY]
 |i+1=>by
  have ih:=Am a h i;simp only[cY];split
  .rename_i x w c b
   have h1:=a x (An c);have h2:=h w (An b);rw[fF]at h1;simp only[wB,Zv,Z5,Y4]at h2;exact⟨(ic ⟨by omega,by omega⟩ h1.1 ih.1).2,(ic ⟨by omega,by omega⟩ h1.2.1 ih.2.1).2,(ic ⟨by omega,by omega⟩ h1.2.2 ih.2.2).2⟩
  .obtain⟨⟨⟨a1,d⟩,e,f⟩,⟨⟨b1,g⟩,j,k⟩,⟨c1,m⟩,n,o⟩:=ih
   refine⟨⟨⟨?_,?_⟩,?_,?_⟩,⟨⟨?_,?_⟩,?_,?_⟩,⟨?_,?_⟩,?_,?_⟩<;>omega
def kG(s x:aq)(w:Int)(k:Nat):List AV:=[.pv (Z (if 0<k then(bZ w s.1 x.1).1 else s.1.1)),.pv (Z (if 0<k then(bZ w s.1 x.1).2 else s.1.2)),.pv (Z (if 1<k then(bZ w s.2.1 x.2.1).1 else s.2.1.1)),.pv (Z (if 1<k then(bZ w s.2.1 x.2.1).2 else s.2.1.2)),.pv (Z (if 2<k then(bZ w s.2.2 x.2.2).1 else s.2.2.1)),.pv (Z (if 2<k then(bZ w s.2.2 x.2.2).2 else s.2.2.2))]
abbrev b6(s:aq):List AV:=[.pv (Z s.1.1),.pv (Z s.1.2),.pv (Z s.2.1.1),.pv (Z s.2.1.2),.pv (Z s.2.2.1),.pv (Z s.2.2.2)]
set_option maxRecDepth 4000 in
theorem QQ(l:List aq)(ws:List Int)(hl:l.length<=9223372036854775807)(W:ws.length<=9223372036854775807):aH 257 (aD l) (zs ws) (eZ l ws):=by
 have cp:=vK l hl;have hc:dv l ws=(au l&&decide (ws.length=l.length)&&ws.all wB&& !(decide (aN ws ws.length<1)||decide (65536<aN ws ws.length))):=rfl;have z6:bh aY=V6 0 0 0 0 0 0:=rfl
 cases hp:au l with
 |false=>
  have hf:dv l ws=false:=by rw[hc,hp];simp
  rw[hp]at cp
  have H:eZ l ws=.tup [V6 0 0 0 0 0 0,Z 0,B false]:=by unfold eZ;rw[hf];rfl
  rw[H];refine Dp func257 λC hP hN=>?_;exact Gy
 |true=>
 rw[hp]at cp;by_cases I:ws.length=l.length
 case neg=>
  have hf:dv l ws=false:=by rw[hc];simp[I]
  have E:((ws.length:Int)!=(l.length:Int))=true:=by simp;omega
  have bq:¬(ws.length:Int)=(l.length:Int):=by omega
  have H:eZ l ws=.tup [V6 0 0 0 0 0 0,Z 0,B false]:=by unfold eZ;rw[hf];rfl
  rw[H];refine Dp func257 λC hP hN=>?_;exact Gy
 have E:((ws.length:Int)!=(l.length:Int))=false:=by simp[I]
 simp only[au,up,Is]at hp;obtain⟨⟨ak,ar⟩,R⟩:=hp;have U:=L4.1 R
 have Q:dv l ws=(ws.all wB&& !(decide (aN ws ws.length<1)||decide (65536<aN ws ws.length))):=by
  have e1:au l=true:=by simp only[au,up,Is];exact⟨⟨ak,ar⟩,R⟩
  rw[hc,e1,Zs I];simp
 clear hc
 cases s:ws.all wB with
 |false=>
  have hf:dv l ws=false:=by rw[Q,s];rfl
  have H:eZ l ws=.tup [V6 0 0 0 0 0 0,Z 0,B false]:=by unfold eZ;rw[hf];rfl
  rw[H];refine Dp func257 λC hP hN=>?_;refine GT E ?_;refine WP.loopN [12] ws.length (λi st=>st.t 0=.pv (aD l)/\st.t 4=.ptr 4 0/\st.h 4=some (.box (b6 aY) true false)/\st.t 7=.ptr 7 0/\st.h 7=some (.box (b6 (cY l ws i)) true false)/\st.t 8=.pv (Z (aN ws i))/\st.t 24=.pv (zs ws)/\st.t 25=.pv (Z ws.length)/\st.t 26=.pv (Z i)/\st.h 12=none/\(∀k x,k<i->ws[k]?=some x->wB x=true)/\sI i (cY l ws i)/\0<=aN ws i/\aN ws i<=(i:Int)*65536) (by simp[cY,aN,aY,sI,CC]) ?_;rintro i st hi ⟨g0,g4,f,m,b,n,c,d,e,a,hq,K,a7,a8⟩;by_cases g:i<ws.length
  .have hw:=ae g W
   generalize z:ws[i]=w at *
   have F:ws[i]?=some w:=by rw[an g,z]
   have u:i<l.length:=by omega
   generalize G:l[i]=x at *
   have L:l[i]?=some x:=by rw[an u,G]
   have a6:=mZ (p:=wB) F hq
   cases v:wB w with
   |false=>
    have y:w<0\/65536<w:=by
     simp only[wB,Bool.not_eq_false',ZI,Is]at v;exact v
    rcases y with h9|h9
    .skip
     exact GS (zAb g0 g4 f m b n c d e a g (be F z h9))
    .have h10:¬w<0:=by omega
     exact GS (zAc g0 g4 f m b n c d e a g F z h9 h10)
   |true=>
    have V:=a6 v
    have y:¬w<0/\¬65536<w:=by
     simp only[wB,Zv,Z5,Y4]at v;exact v
    obtain⟨h9,h10⟩:=y;have r:=U x (An L);rw[fF]at r
    have hS:cY l ws (i+1)=rl w (cY l ws i) x:=by simp only[cY,F,L]
    have M:aN ws (i+1)=aN ws i+w:=by simp only[aN,F,Y8]
    obtain⟨X,Y,r3⟩:=K;have a1:=ic (w:=w) (x:=x.1) ⟨by omega,by omega⟩ r.1 X;have N:=ic (w:=w) (x:=x.2.1) ⟨by omega,by omega⟩ r.2.1 Y;have O:=ic (w:=w) (x:=x.2.2) ⟨by omega,by omega⟩ r.2.2 r3;have J:sI (i+1) (rl w (cY l ws i) x):=⟨a1.2,N.2,O.2⟩;generalize cY l ws i=S at *;generalize cY l ws (i+1)=S' at *;generalize aN ws i=T at *;generalize aN ws (i+1)=T' at *;subst hS;subst M;have wT:i64.wrap (T+w)=T+w:=aa;have d1:(bZ w S.1 x.1).1=S.1.1+w*x.1.1:=rfl;have d2:(bZ w S.1 x.1).2=S.1.2+w*x.1.2:=rfl;have d3:(bZ w S.2.1 x.2.1).1=S.2.1.1+w*x.2.1.1:=rfl;have d4:(bZ w S.2.1 x.2.1).2=S.2.1.2+w*x.2.1.2:=rfl;have d5:(bZ w S.2.2 x.2.2).1=S.2.2.1+w*x.2.2.1:=rfl;have d6:(bZ w S.2.2 x.2.2).2=S.2.2.2+w*x.2.2.2:=rfl;have u1:i64.wrap (w*x.1.1)=w*x.1.1:=aa;have u2:i64.wrap (w*x.1.2)=w*x.1.2:=aa;have u3:i64.wrap (w*x.2.1.1)=w*x.2.1.1:=aa;have u4:i64.wrap (w*x.2.1.2)=w*x.2.1.2:=aa;have u5:i64.wrap (w*x.2.2.1)=w*x.2.2.1:=aa;have u6:i64.wrap (w*x.2.2.2)=w*x.2.2.2:=aa;have v1:i64.wrap (S.1.1+w*x.1.1)=(bZ w S.1 x.1).1:=(aa (by rw[<-d1];omega) (by rw[<-d1];omega)).trans d1.symm;have v2:i64.wrap (S.1.2+w*x.1.2)=(bZ w S.1 x.1).2:=(aa (by rw[<-d2];omega) (by rw[<-d2];omega)).trans d2.symm;have v3:i64.wrap (S.2.1.1+w*x.2.1.1)=(bZ w S.2.1 x.2.1).1:=(aa (by rw[<-d3];omega) (by rw[<-d3];omega)).trans d3.symm;have v4:i64.wrap (S.2.1.2+w*x.2.1.2)=(bZ w S.2.1 x.2.1).2:=(aa (by rw[<-d4];omega) (by rw[<-d4];omega)).trans d4.symm;have v5:i64.wrap (S.2.2.1+w*x.2.2.1)=(bZ w S.2.2 x.2.2).1:=(aa (by rw[<-d5];omega) (by rw[<-d5];omega)).trans d5.symm;have v6:i64.wrap (S.2.2.2+w*x.2.2.2)=(bZ w S.2.2 x.2.2).2:=(aa (by rw[<-d6];omega) (by rw[<-d6];omega)).trans d6.symm;have D:b6 (rl w S x)=kG S x w 3:=rfl;have A:b6 S=kG S x w 0:=rfl;rw[A]at b;rw[D];refine GT (zAc g0 g4 f m n c d e a g u F z L (it G h9 h10 wT b)) ?_;refine WP.loopN [12] 3 (λk st=>st.t 0=.pv (aD l)/\st.t 4=.ptr 4 0/\st.h 4=some (.box (b6 aY) true false)/\st.t 7=.ptr 7 0/\st.h 7=some (.box (kG S x w k) true false)/\st.t 8=.pv (Z (T+w))/\st.t 10=.pv (Z w)/\st.t 24=.pv (zs ws)/\st.t 25=.pv (Z ws.length)/\st.t 26=.pv (Z i)/\st.h 12=none/\st.t 44=.pv (bh x)/\st.t 45=.pv (Z k)) (by simp[g0,g4,f,m,n,c,d,e,a,b,kG]) ?_;clear g0 g4 f m b n c d e a hq;rintro k st hk ⟨g0,g4,f,m,b,n,o,c,d,e,a,q,j⟩;clear d1 d2 d3 d4 d5 d6 a1 N O X Y r3;rcases dC hk with rfl|rfl|rfl|rfl
    all_goals (simp[kG]at b j)
    .skip
     exact GS (zAc g0 g4 f m n o c d e a q j b u1 (go u2 v1 v2 @kG.eq_1))
    .skip
     exact GS (zAc g0 g4 f m n o c d e a q j b u3 (go u4 v3 v4 @kG.eq_1))
    .skip
     exact GS (zAc g0 g4 f m n o c d e a q j b u5 (go u6 v5 v6 @kG.eq_1))
    .skip
     refine GT (zAc g0 g4 f m n o c d e a q j b hw (gA g @kG.eq_1)) ?_
     all_goals exact⟨V,J,by omega,by omega⟩
  .have:=pJ hq g
   rw[this]at s;cases s
 |true=>
  refine Dp func257 λC hP hN=>?_;refine GT E ?_;refine WP.loopN [12] ws.length (λi st=>st.t 0=.pv (aD l)/\st.t 4=.ptr 4 0/\st.h 4=some (.box (b6 aY) true false)/\st.t 7=.ptr 7 0/\st.h 7=some (.box (b6 (cY l ws i)) true false)/\st.t 8=.pv (Z (aN ws i))/\st.t 24=.pv (zs ws)/\st.t 25=.pv (Z ws.length)/\st.t 26=.pv (Z i)/\st.h 12=none/\sI i (cY l ws i)/\0<=aN ws i/\aN ws i<=(i:Int)*65536) (by simp[cY,aN,aY,sI,CC]) ?_;rintro i st hi ⟨g0,g4,f,m,b,n,c,d,e,a,K,a7,a8⟩;by_cases g:i<ws.length
  .have hw:=ae g W
   generalize z:ws[i]=w at *
   have F:ws[i]?=some w:=by rw[an g,z]
   have u:i<l.length:=by omega
   generalize G:l[i]=x at *
   have L:l[i]?=some x:=by rw[an u,G]
   have v:=L4.1 s w (An F)
   have y:¬w<0/\¬65536<w:=by
    simp only[wB,Zv,Z5,Y4]at v;exact v
   obtain⟨h9,h10⟩:=y;have r:=U x (An L);rw[fF]at r
   have hS:cY l ws (i+1)=rl w (cY l ws i) x:=by simp only[cY,F,L]
   have M:aN ws (i+1)=aN ws i+w:=by simp only[aN,F,Y8]
   obtain⟨X,Y,r3⟩:=K;have a1:=ic (w:=w) (x:=x.1) ⟨by omega,by omega⟩ r.1 X;have N:=ic (w:=w) (x:=x.2.1) ⟨by omega,by omega⟩ r.2.1 Y;have O:=ic (w:=w) (x:=x.2.2) ⟨by omega,by omega⟩ r.2.2 r3;have J:sI (i+1) (rl w (cY l ws i) x):=⟨a1.2,N.2,O.2⟩;generalize cY l ws i=S at *;generalize cY l ws (i+1)=S' at *;generalize aN ws i=T at *;generalize aN ws (i+1)=T' at *;subst hS;subst M;have wT:i64.wrap (T+w)=T+w:=aa;have d1:(bZ w S.1 x.1).1=S.1.1+w*x.1.1:=rfl;have d2:(bZ w S.1 x.1).2=S.1.2+w*x.1.2:=rfl;have d3:(bZ w S.2.1 x.2.1).1=S.2.1.1+w*x.2.1.1:=rfl;have d4:(bZ w S.2.1 x.2.1).2=S.2.1.2+w*x.2.1.2:=rfl;have d5:(bZ w S.2.2 x.2.2).1=S.2.2.1+w*x.2.2.1:=rfl;have d6:(bZ w S.2.2 x.2.2).2=S.2.2.2+w*x.2.2.2:=rfl;have u1:i64.wrap (w*x.1.1)=w*x.1.1:=aa;have u2:i64.wrap (w*x.1.2)=w*x.1.2:=aa;have u3:i64.wrap (w*x.2.1.1)=w*x.2.1.1:=aa;have u4:i64.wrap (w*x.2.1.2)=w*x.2.1.2:=aa;have u5:i64.wrap (w*x.2.2.1)=w*x.2.2.1:=aa;have u6:i64.wrap (w*x.2.2.2)=w*x.2.2.2:=aa;have v1:i64.wrap (S.1.1+w*x.1.1)=(bZ w S.1 x.1).1:=(aa (by rw[<-d1];omega) (by rw[<-d1];omega)).trans d1.symm;have v2:i64.wrap (S.1.2+w*x.1.2)=(bZ w S.1 x.1).2:=(aa (by rw[<-d2];omega) (by rw[<-d2];omega)).trans d2.symm;have v3:i64.wrap (S.2.1.1+w*x.2.1.1)=(bZ w S.2.1 x.2.1).1:=(aa (by rw[<-d3];omega) (by rw[<-d3];omega)).trans d3.symm;have v4:i64.wrap (S.2.1.2+w*x.2.1.2)=(bZ w S.2.1 x.2.1).2:=(aa (by rw[<-d4];omega) (by rw[<-d4];omega)).trans d4.symm;have v5:i64.wrap (S.2.2.1+w*x.2.2.1)=(bZ w S.2.2 x.2.2).1:=(aa (by rw[<-d5];omega) (by rw[<-d5];omega)).trans d5.symm;have v6:i64.wrap (S.2.2.2+w*x.2.2.2)=(bZ w S.2.2 x.2.2).2:=(aa (by rw[<-d6];omega) (by rw[<-d6];omega)).trans d6.symm;have D:b6 (rl w S x)=kG S x w 3:=rfl;have A:b6 S=kG S x w 0:=rfl;rw[A]at b;rw[D];refine GT (zAc g0 g4 f m n c d e a g u F z L (it G h9 h10 wT b)) ?_;refine WP.loopN [12] 3 (λk st=>st.t 0=.pv (aD l)/\st.t 4=.ptr 4 0/\st.h 4=some (.box (b6 aY) true false)/\st.t 7=.ptr 7 0/\st.h 7=some (.box (kG S x w k) true false)/\st.t 8=.pv (Z (T+w))/\st.t 10=.pv (Z w)/\st.t 24=.pv (zs ws)/\st.t 25=.pv (Z ws.length)/\st.t 26=.pv (Z i)/\st.h 12=none/\st.t 44=.pv (bh x)/\st.t 45=.pv (Z k)) (by simp[g0,g4,f,m,n,c,d,e,a,b,kG]) ?_;clear g0 g4 f m b n c d e a;rintro k st hk ⟨g0,g4,f,m,b,n,o,c,d,e,a,q,j⟩;clear d1 d2 d3 d4 d5 d6 a1 N O X Y r3;rcases dC hk with rfl|rfl|rfl|rfl
   all_goals (simp[kG]at b j)
   .skip
    exact GS (zAc g0 g4 f m n o c d e a q j b u1 (go u2 v1 v2 @kG.eq_1))
   .skip
    exact GS (zAc g0 g4 f m n o c d e a q j b u3 (go u4 v3 v4 @kG.eq_1))
   .skip
    exact GS (zAc g0 g4 f m n o c d e a q j b u5 (go u6 v5 v6 @kG.eq_1))
   .skip
    refine GT (zAc g0 g4 f m n o c d e a q j b hw (gA g @kG.eq_1)) ?_
    all_goals exact⟨J,by omega,by omega⟩
  .have aj:i=ws.length:=by omega
   subst aj
   have P:dv l ws=!(decide (aN ws ws.length<1)||decide (65536<aN ws ws.length)):=by rw[Q,s];simp
   generalize ah:aN ws ws.length=T at *;generalize ad:cY l ws ws.length=S at *;by_cases M:T<1\/65536<T
   .have hf:dv l ws=false:=by
     rw[P];rcases M with h|h
     all_goals simp[h]
    have H:eZ l ws=.tup [V6 0 0 0 0 0 0,Z 0,B false]:=by unfold eZ;rw[hf];rfl
    rw[H];rcases M with h|h
    .skip
     exact GS (zAa g0 g4 f m b n c d e (gA a h))
    .have h2:¬T<1:=by omega
     exact GS (zAb g0 g4 f m b n c d e a h h2)
   .have h1:¬T<1:=by omega
    have h2:¬65536<T:=by omega
    have hf:dv l ws=true:=by rw[P];simp[h1,h2]
    have H:eZ l ws=.tup [bh S,Z T,B true]:=by unfold eZ;rw[hf,ad,ah];rfl
    rw[H];exact GS (zAb g0 g4 f m b n c d e a h1 h2)
def eP(l:List Vc):Bool:=decide (1<=l.length)&&decide (l.length<=8)&&l.all (ax 268435456)
theorem Qo(l:List Vc)(P:l.length<=9223372036854775807):aT 211 (aB l) (B (eP l)):=by
 by_cases O:l.length<1\/8<l.length
 .have hf:eP l=false:=by
   cases hb:eP l with
   |false=>rfl
   |true=>
    exfalso;unfold eP at hb;simp only[up,Is]at hb;obtain⟨⟨M,N⟩,_⟩:=hb;omega
  rw[hf]
  have y:(l.length:Int)<1\/(8:Int)<l.length:=by omega
  rcases y with h|h
  all_goals
   refine Dp func211 λC hP hN=>?_;exact Gy
 have h3:¬(l.length:Int)<1:=by omega
 have h4:¬(8:Int)<l.length:=by omega
 have s:1<=l.length:=by omega
 have u:l.length<=8:=by omega
 have J:eP l=l.all (ax 268435456):=by
  unfold eP;rw[Zs s,Zs u];simp
 rw[J];refine Dp func211 λC hP hN=>?_
 cases e:l.all (ax 268435456)with
 |true=>
  refine Gz ?_;refine WP.loopN [4] l.length (λi st=>True/\st.t 15=.pv (aB l)/\st.t 16=.pv (Z l.length)/\st.t 17=.pv (Z i)/\st.h 4=none) (by simp) ?_;rintro i st hi ⟨g1,g,j,f,m⟩;by_cases d:i<l.length
  .have r:=ae d (by omega)
   have K:=br.1 (L4.1 e _ (Zd d));obtain⟨D,E,F⟩:=K;rw[aU]at D E F;generalize n:l[i]=v at *
   have H:l[i]?=some v:=by rw[an d,n]
   refine Gz ?_;refine WP.loopN [] 3 (λk st=>True/\st.t 15=.pv (aB l)/\st.t 16=.pv (Z l.length)/\st.t 17=.pv (Z i)/\st.t 21=.pv (ai v)/\st.t 22=.pv (Z k)) (by simp[g1,g,j,f]) ?_;clear g1 g j f m;rintro k st z ⟨g1,g,j,f,gA,q⟩;rcases dC z with rfl|rfl|rfl|rfl
   all_goals
    exact Gy
  .skip
   exact Gy
 |false=>
  refine Gz ?_;refine WP.loopN [4] l.length (λi st=>True/\st.t 15=.pv (aB l)/\st.t 16=.pv (Z l.length)/\st.t 17=.pv (Z i)/\st.h 4=none/\∀k x,k<i->l[k]?=some x->ax 268435456 x=true) (by simp) ?_;rintro i st hi ⟨g1,g,j,f,m,hq⟩;by_cases d:i<l.length
  .have r:=ae d (by omega)
   generalize n:l[i]=v at *
   have H:l[i]?=some v:=by rw[an d,n]
   have A:=mZ (p:=ax 268435456) H hq;refine Gz ?_;refine WP.loopN [] 3 (λk st=>True/\st.t 15=.pv (aB l)/\st.t 16=.pv (Z l.length)/\st.t 17=.pv (Z i)/\st.t 21=.pv (ai v)/\st.t 22=.pv (Z k)/\(0<k->fv v.1 268435456=true)/\(1<k->fv v.2.1 268435456=true)/\(2<k->fv v.2.2 268435456=true)) (by simp[g1,g,j,f]) ?_;clear g1 g j f m hq;rintro k st z ⟨g1,g,j,f,gA,q,G,I,L⟩;rcases dC z with rfl|rfl|rfl|rfl
   .skip
    with_reducible repeat' (first|refine Sp.h ?_|((first|refine Ss.h ?_|(refine Sb.h ?_ ?_ ?_<;>(try intro hgd)<;>try exact Xy))<;>simp -implicitDefEqProofs (maxSteps:=2000000) [hP,hN,g1,g,j,f,gA,q,r])|refine X2 ?_ ?_|(refine Xd ?_ ?_<;>intro hcd<;>try exact Xx))
    all_goals (try (rw[aU];simp only[Y4,Is]at hgd hcd;omega))
   .skip
    with_reducible repeat' (first|refine Sp.h ?_|((first|refine Ss.h ?_|(refine Sb.h ?_ ?_ ?_<;>(try intro hgd)<;>try exact Xy))<;>simp -implicitDefEqProofs (maxSteps:=2000000) [hP,hN,g1,g,j,f,gA,q,r])|refine X2 ?_ ?_|(refine Xd ?_ ?_<;>intro hcd<;>try exact Xx))
    all_goals (try (exact⟨G (by omega),by rw[aU];simp only[Y4,Is]at hgd hcd;omega⟩))
   .skip
    with_reducible repeat' (first|refine Sp.h ?_|((first|refine Ss.h ?_|(refine Sb.h ?_ ?_ ?_<;>(try intro hgd)<;>try exact Xy))<;>simp -implicitDefEqProofs (maxSteps:=2000000) [hP,hN,g1,g,j,f,gA,q,r])|refine X2 ?_ ?_|(refine Xd ?_ ?_<;>intro hcd<;>try exact Xx))
    all_goals (try (exact⟨G (by omega),I (by omega),by rw[aU];simp only[Y4,Is]at hgd hcd;omega⟩))
   .have hn:ax 268435456 v=true:=br.2 ⟨G (by omega),I (by omega),L (by omega)⟩
    have o:=A hn;refine Gz ?_
    all_goals (try exact λk a b c=>o k (a,b,c))
  .have:=pJ hq d
   rw[this]at e;cases e
def aL(v w:Vc):Vc:=(v.1-w.1,v.2.1-w.2.1,v.2.2-w.2.2)
def bf(v w:Vc):Int:=v.1*w.1+v.2.1*w.2.1+v.2.2*w.2.2
theorem LW(v w:Vc)(b:er 1152921504606846976 v)(c:er 1152921504606846976 w):aH 246 (ai v) (ai w) (ai (aL v w)):=by
 obtain⟨g,i,j⟩:=b;obtain⟨w1,w2,k⟩:=c;have d:i64.wrap (v.1-w.1)=v.1-w.1:=aa;have e:i64.wrap (v.2.1-w.2.1)=v.2.1-w.2.1:=aa;have f:i64.wrap (v.2.2-w.2.2)=v.2.2-w.2.2:=aa;have a:aL v w=(v.1-w.1,v.2.1-w.2.1,v.2.2-w.2.2):=rfl;rw[a];refine Dp func246 λC hP hN=>?_;exact Gy
theorem ld{w:Vc}(a:er m v)(b:er n w):(-((m*n:Nat):Int)<=v.1*w.1/\v.1*w.1<=((m*n:Nat):Int))/\(-((m*n:Nat):Int)<=v.2.1*w.2.1/\v.2.1*w.2.1<=((m*n:Nat):Int))/\(-((m*n:Nat):Int)<=v.2.2*w.2.2/\v.2.2*w.2.2<=((m*n:Nat):Int)):=
 ⟨bi m n a.1.1 a.1.2 b.1.1 b.1.2,bi m n a.2.1.1 a.2.1.2 b.2.1.1 b.2.1.2,bi m n a.2.2.1 a.2.2.2 b.2.2.1 b.2.2.2⟩
theorem Cr(v w:Vc)(m n:Nat)(c:er m v)(d:er n w)(a:3*(m*n)<=9223372036854775807):aH 285 (ai v) (ai w) (Z (bf v w)):=by
 obtain⟨l,o,p⟩:=ld c d;have b:bf v w=v.1*w.1+v.2.1*w.2.1+v.2.2*w.2.2:=rfl;rw[b];generalize m*n=k at *;have e:i64.wrap (v.1*w.1)=v.1*w.1:=aa;have f:i64.wrap (v.2.1*w.2.1)=v.2.1*w.2.1:=aa;have g:i64.wrap (v.2.2*w.2.2)=v.2.2*w.2.2:=aa;have i:i64.wrap (v.1*w.1+v.2.1*w.2.1)=v.1*w.1+v.2.1*w.2.1:=aa;have j:i64.wrap (v.1*w.1+v.2.1*w.2.1+v.2.2*w.2.2)=v.1*w.1+v.2.1*w.2.1+v.2.2*w.2.2:=aa;refine Dp func285 λC hP hN=>?_;exact Gy
abbrev IN(l:List Vc)(w:List Int):PV:=.agg [aB l,zs w]
theorem ND(l:List Vc)(h1:1<=l.length)(h2:l.length<=8):aS prog 212 [.pv (aB l)] [] [] (.srow [aB l] 2 1 (((List.replicate l.length 0).set 0 65536).map Z)):=by
 refine Dp func212 λC hP hN=>?_;exact GS (go (show(0:Int)<l.length by omega) (show 0<l.length by omega) (show(8:Int)*(l.length:Int)<=281474976710656 by omega) (show(l.length:Int)<=9223372036854775807 by omega))
def bO(l:List Vc)(w:List Int):Nat->Vc
 |0=>(0,0,0)
 |i+1=>match l[i]?,w[i]? with
  |some p,some k=>((bO l w i).1+k*p.1,(bO l w i).2.1+k*p.2.1,(bO l w i).2.2+k*p.2.2)
  |_,_=>bO l w i
structure WgOk(w:List Int):Prop where
 pos:∀k∈w,0<=k
 tot:aN w w.length<=65536
theorem mY(h:w[i]?=some k):aN w (i+1)=aN w i+k:=by simp[aN,h]
theorem gR(h:∀k∈w,0<=k){j:Nat}(a:i<=j):aN w i<=aN w j:=by
 induction a with
 |refl=>exact Int.le_refl _
 |step h1 ih=>
  rename_i m
  cases b:w[m]? with
  |none=>simp only[aN,b,Option.getD_none];omega
  |some k=>
   have:=h k (An b);rw[mY b];omega
theorem sg(h:∀k∈w,0<=k)(i:Nat):0<=aN w i:=gR h (ZG i)
theorem xu{x m:Int}(a:0<=k)(b:-m<=x/\x<=m):-(k*m)<=k*x/\k*x<=k*m:=by
 refine⟨?_,ZZ b.2 a⟩;have:=ZZ b.1 a;rw[Int.mul_neg]at this;exact this
theorem dD(h:ax 268435456 v=true):er 268435456 v:=by
 rw[br,aU,aU,aU]at h;exact⟨⟨by omega,by omega⟩,⟨by omega,by omega⟩,⟨by omega,by omega⟩⟩
theorem Dm{l:List Vc}{w:List Int}(f:l.all (ax 268435456)=true)(d:∀k∈w,0<=k):∀i:Nat,er (aN w i*268435456) (bO l w i)
 |0=>by simp[bO,aN,er]
 |i+1=>by
  have ih:=Dm f d i;have g:=gR d (Nat.le_succ i);simp only[bO];split
  .rename_i p k hp e
   have h1:=dD (L4.1 f p (An hp));have h2:=d k (An e);rw[mY e];obtain⟨a,b,c⟩:=h1;have n:=xu h2 a;have o:=xu h2 b;have q:=xu h2 c;obtain⟨i1,i2,m⟩:=ih;exact⟨⟨by simp only;omega,by simp only;omega⟩,⟨by simp only;omega,by simp only;omega⟩,⟨by simp only;omega,by simp only;omega⟩⟩
  .obtain⟨i1,i2,m⟩:=ih
   have j:aN w i<=aN w (i+1):=g;exact⟨⟨by omega,by omega⟩,⟨by omega,by omega⟩,⟨by omega,by omega⟩⟩
theorem jv(b:l.all (ax 268435456)=true)(a:WgOk w)(i:Nat)(hi:i<=w.length):er 17592186044416 (bO l w i):=by
 have h1:=Dm b a.pos i;have h2:=gR a.pos hi;have h3:=a.tot;obtain⟨i1,i2,c⟩:=h1;exact⟨⟨by omega,by omega⟩,⟨by omega,by omega⟩,⟨by omega,by omega⟩⟩
def kD(s p:Vc)(k:Int)(j:Nat):List AV:=[.pv (Z (if 0<j then s.1+k*p.1 else s.1)),.pv (Z (if 1<j then s.2.1+k*p.2.1 else s.2.1)),.pv (Z (if 2<j then s.2.2+k*p.2.2 else s.2.2))]
theorem Qp(l:List Vc)(ws:List Int)(h8:l.length<=8)(K:ws.length=l.length)(A:l.all (ax 268435456)=true)(u:WgOk ws):aT 247 (IN l ws) (ai (bO l ws l.length)):=by
 refine Dp func247 λC hP hN=>?_;refine Gz ?_;refine WP.loopN [5] l.length (λi st=>st.t 1=.ptr 1 0/\st.h 1=some (.box [.pv (aB l),.pv (zs ws)] true false)/\st.t 2=.ptr 2 0/\st.h 2=some (.box [.pv (Z 0),.pv (Z 0),.pv (Z 0)] true false)/\st.t 3=.ptr 3 0/\st.h 3=some (.box [.pv (Z (bO l ws i).1),.pv (Z (bO l ws i).2.1),.pv (Z (bO l ws i).2.2)] true false)/\st.t 9=.pv (aB l)/\st.t 10=.pv (Z l.length)/\st.t 11=.pv (Z i)/\st.h 5=none) (by simp[bO]) ?_;rintro i st hi ⟨g1,g,g2,m,g3,c,s,e,f,y⟩;by_cases n:i<l.length
 .have L:=ae n (by omega)
  have d:i<ws.length:=by omega
  generalize B:l[i]=p at *
  have D:l[i]?=some p:=by rw[an n,B]
  generalize q:ws[i]=k at *
  have v:ws[i]?=some k:=by rw[an d,q]
  have N:=jv A u i (by omega);have O:=jv A u (i+1) (by omega);have I:=u.pos k (An v)
  have J:k<=65536:=by
   have a1:=mY v;have X:=sg u.pos i;have Y:=gR u.pos (show i+1<=ws.length by omega);have a4:=u.tot;omega
  have hp:=dD (L4.1 A p (An D))
  have hS:bO l ws (i+1)=((bO l ws i).1+k*p.1,(bO l ws i).2.1+k*p.2.1,(bO l ws i).2.2+k*p.2.2):=by simp only[bO,D,v]
  have m1:=bi (a:=k) (b:=p.1) 65536 268435456 (by omega) (by omega) hp.1.1 hp.1.2;have m2:=bi (a:=k) (b:=p.2.1) 65536 268435456 (by omega) (by omega) hp.2.1.1 hp.2.1.2;have M:=bi (a:=k) (b:=p.2.2) 65536 268435456 (by omega) (by omega) hp.2.2.1 hp.2.2.2;generalize bO l ws i=S at *;generalize bO l ws (i+1)=W at *;subst hS;obtain⟨E,F,G⟩:=O;simp only at E F G;have P:i64.wrap (k*p.1)=k*p.1:=aa;have Q:i64.wrap (k*p.2.1)=k*p.2.1:=aa;have R:i64.wrap (k*p.2.2)=k*p.2.2:=aa;have T:i64.wrap (S.1+k*p.1)=S.1+k*p.1:=aa;have U:i64.wrap (S.2.1+k*p.2.1)=S.2.1+k*p.2.1:=aa;have V:i64.wrap (S.2.2+k*p.2.2)=S.2.2+k*p.2.2:=aa;clear N E F G m1 m2 M hp;have x:[AV.pv (Z S.1),AV.pv (Z S.2.1),AV.pv (Z S.2.2)]=kD S p k 0:=rfl;rw[x]at c;refine Gz ?_;refine WP.loopN [] 3 (λj st=>st.t 1=.ptr 1 0/\st.h 1=some (.box [.pv (aB l),.pv (zs ws)] true false)/\st.t 2=.ptr 2 0/\st.h 2=some (.box [.pv (Z 0),.pv (Z 0),.pv (Z 0)] true false)/\st.t 3=.ptr 3 0/\st.h 3=some (.box (kD S p k j) true false)/\st.t 4=.pv (Z i)/\st.t 9=.pv (aB l)/\st.t 10=.pv (Z l.length)/\st.t 11=.pv (Z i)/\st.t 16=.pv (ai p)/\st.t 17=.pv (Z j)) (by simp[g1,g,g2,m,g3,s,e,f,c,kD]) ?_;clear g1 g g2 m g3 s e f c y;rintro j st H ⟨g1,g,g2,m,g3,c,g4,s,e,f,r,o⟩;rcases dC H with rfl|rfl|rfl|rfl
  all_goals (simp[kD]at c o)
  .skip
   with_reducible repeat' (first|refine Sp.h ?_|((first|refine Wd ?_|refine Ss.h ?_|(refine Sb.h ?_ ?_ ?_<;>(try intro hgd)<;>try exact Xy))<;>simp -implicitDefEqProofs (maxSteps:=2000000) [hP,hN,g1,g,g2,m,g3,c,g4,s,e,f,r,o,n,d,v,q,P,T,kD]<;>try refine Ya ?_)|refine X2 ?_ ?_|(refine Xd ?_ ?_<;>intro hcd<;>try exact Xx))
  .skip
   with_reducible repeat' (first|refine Sp.h ?_|((first|refine Wd ?_|refine Ss.h ?_|(refine Sb.h ?_ ?_ ?_<;>(try intro hgd)<;>try exact Xy))<;>simp -implicitDefEqProofs (maxSteps:=2000000) [hP,hN,g1,g,g2,m,g3,c,g4,s,e,f,r,o,n,d,v,q,Q,U,kD]<;>try refine Ya ?_)|refine X2 ?_ ?_|(refine Xd ?_ ?_<;>intro hcd<;>try exact Xx))
  .skip
   with_reducible repeat' (first|refine Sp.h ?_|((first|refine Wd ?_|refine Ss.h ?_|(refine Sb.h ?_ ?_ ?_<;>(try intro hgd)<;>try exact Xy))<;>simp -implicitDefEqProofs (maxSteps:=2000000) [hP,hN,g1,g,g2,m,g3,c,g4,s,e,f,r,o,n,d,v,q,R,V,kD]<;>try refine Ya ?_)|refine X2 ?_ ?_|(refine Xd ?_ ?_<;>intro hcd<;>try exact Xx))
  .skip
   exact Gy
 .have z:i=l.length:=by omega
  subst z;exact Gy
def cJ(bet:Int->Int->Bool)(n p0:Vc)(l:List Vc):Nat->Int×Nat
 |0=>(bf n p0,0)
 |i+1=>match l[i]? with
  |some v=>if bet (bf n v) (cJ bet n p0 l i).1=true then(bf n v,i)else cJ bet n p0 l i
  |none=>cJ bet n p0 l i
theorem oD{n p0:Vc}(h:l[i]?=some v):cJ bet n p0 l (i+1)=if bet (bf n v) (cJ bet n p0 l i).1=true then(bf n v,i)else cJ bet n p0 l i:=by simp only[cJ,h]
theorem vw{bet:Int->Int->Bool}{n p0:Vc}{l:List Vc}(a:0<l.length):∀i,(cJ bet n p0 l i).2<l.length
 |0=>a
 |i+1=>by
  have:=vw (bet:=bet) (n:=n) (p0:=p0) a i;simp only[cJ];split
  .rename_i v b
   obtain⟨h,_⟩:=th.1 b;split
   .exact h
   .exact this
  .exact this
def bN(bet:Int->Int->Bool)(n:Vc)(l:List Vc):Int×Nat:=cJ bet n ((l[0]?).getD (0,0,0)) l l.length
theorem UB(n:Vc)(l:List Vc)(ws:List Int)(hn:ax 16384 n=true)(h1:1<=l.length)(h8:l.length<=8)(o:l.all (ax 268435456)=true):aH 250 (IN l ws) (ai n) (.tup [Z (bN dO n l).1,Z (bN dO n l).2]):=by
 have e:er ((16384:Nat):Int) n:=by
  rw[br,aU,aU,aU]at hn;exact⟨⟨by omega,by omega⟩,⟨by omega,by omega⟩,⟨by omega,by omega⟩⟩
 have c:0<l.length:=by omega
 generalize g:l[0]=p0 at *
 have f:l[0]?=some p0:=by rw[an c,g]
 have q:=Cr n p0 16384 268435456 e (dD (L4.1 o p0 (An f))) (by decide)
 have hb:bN dO n l=cJ dO n p0 l l.length:=by simp only[bN,f,Y8]
 rw[hb];have m:cJ dO n p0 l 0=(bf n p0,0):=rfl;generalize A:bf n p0=d0 at *;refine Dp func250 λC hP hN=>?_;refine Gz ?_;refine WP.loopN [9] l.length (λi st=>st.t 3=.ptr 3 0/\st.h 3=some (.box [.pv (Z n.1),.pv (Z n.2.1),.pv (Z n.2.2)] true false)/\st.t 20=.pv (aB l)/\st.t 21=.pv (Z l.length)/\st.t 22=.pv (Z i)/\st.h 9=none/\st.t 6=.pv (Z (cJ dO n p0 l i).1)/\st.t 7=.pv (Z (cJ dO n p0 l i).2)) (by simp[m]) ?_;rintro i st hi ⟨g3,y,r,u,x,z,D,E⟩;by_cases b:i<l.length
 .have F:=ae b (by omega)
  generalize k:l[i]=v at *
  have p:l[i]?=some v:=by rw[an b,k]
  have B:=Cr n v 16384 268435456 e (dD (L4.1 o v (An p))) (by decide);have hs:=oD (bet:=dO) (n:=n) (p0:=p0) p;generalize cJ dO n p0 l i=s at *;generalize cJ dO n p0 l (i+1)=G at *;generalize bf n v=d at *;by_cases a:dO d s.1=true
  .rw[YY a]at hs
   subst hs;simp only[dO,Is]at a;exact Gy
  .rw[YR a]at hs
   subst hs;simp only[dO,Is]at a;exact Gy
 .have j:i=l.length:=by omega
  subst j;exact Gy
  all_goals exact⟨rfl,rfl⟩
theorem UC(n:Vc)(l:List Vc)(ws:List Int)(hn:ax 16384 n=true)(h1:1<=l.length)(h8:l.length<=8)(o:l.all (ax 268435456)=true):aH 251 (IN l ws) (ai n) (.tup [Z (bN dP n l).1,Z (bN dP n l).2]):=by
 have e:er ((16384:Nat):Int) n:=by
  rw[br,aU,aU,aU]at hn;exact⟨⟨by omega,by omega⟩,⟨by omega,by omega⟩,⟨by omega,by omega⟩⟩
 have c:0<l.length:=by omega
 generalize g:l[0]=p0 at *
 have f:l[0]?=some p0:=by rw[an c,g]
 have q:=Cr n p0 16384 268435456 e (dD (L4.1 o p0 (An f))) (by decide)
 have hb:bN dP n l=cJ dP n p0 l l.length:=by simp only[bN,f,Y8]
 rw[hb];have m:cJ dP n p0 l 0=(bf n p0,0):=rfl;generalize A:bf n p0=d0 at *;refine Dp func251 λC hP hN=>?_;refine Gz ?_;refine WP.loopN [9] l.length (λi st=>st.t 3=.ptr 3 0/\st.h 3=some (.box [.pv (Z n.1),.pv (Z n.2.1),.pv (Z n.2.2)] true false)/\st.t 20=.pv (aB l)/\st.t 21=.pv (Z l.length)/\st.t 22=.pv (Z i)/\st.h 9=none/\st.t 6=.pv (Z (cJ dP n p0 l i).1)/\st.t 7=.pv (Z (cJ dP n p0 l i).2)) (by simp[m]) ?_;rintro i st hi ⟨g3,y,r,u,x,z,D,E⟩;by_cases b:i<l.length
 .have F:=ae b (by omega)
  generalize k:l[i]=v at *
  have p:l[i]?=some v:=by rw[an b,k]
  have B:=Cr n v 16384 268435456 e (dD (L4.1 o v (An p))) (by decide);have hs:=oD (bet:=dP) (n:=n) (p0:=p0) p;generalize cJ dP n p0 l i=s at *;generalize cJ dP n p0 l (i+1)=G at *;generalize bf n v=d at *;by_cases a:dP d s.1=true
  .rw[YY a]at hs
   subst hs;simp only[dP,Is]at a;exact Gy
  .rw[YR a]at hs
   subst hs;simp only[dP,Is]at a;exact Gy
 .have j:i=l.length:=by omega
  subst j;exact Gy
  all_goals exact⟨rfl,rfl⟩
def IM(x y z:AV)(fb:Option bP):Option bP:=match x,y,z with
 |.pv (.val (.int .i64 a)),.pv (.val (.int .i64 b)),.pv (.val (.int .i64 c))=>some (.pv (Z (max a (max b c))),[])
 |_,_,_=>fb
@[simp] theorem Si(a b c:Int)(fb:Option bP):IM (.pv (.val (.int .i64 a))) (.pv (.val (.int .i64 b))) (.pv (.val (.int .i64 c))) fb=some (.pv (Z (max a (max b c))),[]):=rfl
@[simp] theorem Xn{ty:TypeId}{i:Array TypeId}{pos:String}(x y z:Operand):
 aV prog ⟨dst,.call ⟨.builtin .max,#[x,y,z],i⟩,ty,pos,aft,g⟩ ρ=IM (ρ x) (ρ y) (ρ z) (lD prog ⟨dst,.call ⟨.builtin .max,#[x,y,z],i⟩,ty,pos,aft,g⟩ ρ):=by
 unfold IM;split
 .rename_i a b c d e f
  refine dW (by simp[Op.operands,Call.operands,d,e,f,eN]) ?_;unfold execOp;simp[resolve,invoke,builtin,Builtin.max_,d,e,f,qU,eN,Builtin.max2,af,cK]
  try omega
 .rfl
def lZ(x y:Int):Int:=max (max (max (max 0 x) (-x)) y) (-y)
theorem LV(x y:Int)(k:-4611686018427387904<=x/\x<=4611686018427387904)(l:-4611686018427387904<=y/\y<=4611686018427387904):aT 259 (.sl [Z x,Z y]) (Z (lZ x y)):=by
 have w1:i64.wrap (-x)=-x:=aa;have w2:i64.wrap (-y)=-y:=aa;have g:i64.wrap (0-x)=-x:=(aa (n:=0-x) (by omega) (by omega)).trans (by omega);have j:i64.wrap (0-y)=-y:=(aa (n:=0-y) (by omega) (by omega)).trans (by omega)
 have f0:∀a b c:Int,max a (max b c)=max (max a b) c:=λ_ _ _=>by omega
 have f2:lZ x y=max 0 (max x (max (-x) (max y (-y)))):=by unfold lZ;omega
 rw[f2];refine Dp func259 λC hP hN=>?_;refine GT trivial ?_;refine WP.loopN [] 2 (λi st=>st.t 6=.pv (.sl [Z x,Z y])/\st.t 7=.pv (Z 2)/\st.t 8=.pv (Z i)/\st.t 3=.pv (Z (if i=0 then 0 else if i=1 then max 0 (max x (-x))else max 0 (max x (max (-x) (max y (-y))))))) (by simp) ?_;rintro i st hi ⟨e,f,d,g3⟩
 have hc:i=0\/i=1\/i=2:=by omega
 rcases hc with rfl|rfl|rfl
 all_goals (simp at g3 d)
 .skip
  with_reducible repeat' (first|refine Sp.h ?_|((first|refine Ss.h ?_|(refine Sb.h ?_ ?_ ?_<;>(try intro hgd)<;>try exact Xy))<;>simp -implicitDefEqProofs (maxSteps:=2000000) [hP,hN,e,f,d,g3,w1,w2,g,j])|refine X2 ?_ ?_|(refine Xd ?_ ?_<;>intro hcd<;>try exact Xx))
  all_goals (try (first|omega|(simp;omega)))
 .skip
  with_reducible repeat' (first|refine Sp.h ?_|((first|refine Ss.h ?_|(refine Sb.h ?_ ?_ ?_<;>(try intro hgd)<;>try exact Xy))<;>simp -implicitDefEqProofs (maxSteps:=2000000) [hP,hN,e,f,d,g3,w1,w2,g,j])|refine X2 ?_ ?_|(refine Xd ?_ ?_<;>intro hcd<;>try exact Xx))
  all_goals (try (first|omega|(simp;omega)))
 .skip
  with_reducible repeat' (first|refine Sp.h ?_|((first|refine Ss.h ?_|(refine Sb.h ?_ ?_ ?_<;>(try intro hgd)<;>try exact Xy))<;>simp -implicitDefEqProofs (maxSteps:=2000000) [hP,hN,e,f,d,g3])|refine X2 ?_ ?_|(refine Xd ?_ ?_<;>intro hcd<;>try exact Xx))
set_option maxRecDepth 100000 in
@[simp] theorem Ux:gW prog 256:=by
 have hf:=func256;have nt:=ntmps256;have rs:=results256;exact PI
set_option maxRecDepth 100000 in
@[simp] theorem Uy:gW prog 216:=by
 have hf:=func216;have nt:=ntmps216;have rs:=results216;exact PH
def bU(u v:Iv)(tot:Int):Int:=(lZ (u.1-v.2) (u.2-v.1)+tot-1)/tot
def iJ(m:List Int)(reach:Int):Nat->Int
 |0=>reach*reach
 |k+1=>iJ m reach k-(m[k]?).getD 0*(m[k]?).getD 0
def dM(U V:aq)(tot:Int):List Int:=[bU U.1 V.1 tot,bU U.2.1 V.2.1 tot,bU U.2.2 V.2.2 tot]
def pn(m:List Int)(reach:Int):Int:=if m.all (λx=>decide (x<=reach))then iJ m reach 3 else -1
def oC(left right:List Int)(a:List aq)(c:Int)(b:List aq)(d:Int):Bool:=
 dv a left&&dv b right&&decide (aN left left.length=aN right right.length)&&aP c 0 1048576&&aP d 0 1048576
def lc(left right:List Int)(a:List aq)(c:Int)(b:List aq)(d:Int):Int:=
 if oC left right a c b d then pn (dM (cY a left left.length) (cY b right right.length) (aN left left.length)) (c+d)else 0
theorem vt(h:dv a w=true):sI 8 (cY a w w.length):=by
 simp only[dv,au,up,Is,L4]at h;obtain⟨⟨⟨⟨⟨h1,h2⟩,h3⟩,h4⟩,h5⟩,h6⟩:=h;obtain⟨⟨⟨a1,b⟩,c,d⟩,⟨⟨b1,e⟩,f,g⟩,⟨c1,i⟩,j,k⟩:=Am h3 h5 w.length;refine⟨⟨⟨?_,?_⟩,?_,?_⟩,⟨⟨?_,?_⟩,?_,?_⟩,⟨?_,?_⟩,?_,?_⟩<;>omega
theorem Fp(h:dv a w=true):1<=aN w w.length/\aN w w.length<=65536:=by
 simp only[dv,up,Zv,Z5,Y4]at h;omega
theorem vu{x y:Int}{m:Int}(a:-m<=x/\x<=m)(b:-m<=y/\y<=m):0<=lZ x y/\lZ x y<=m:=by
 unfold lZ;omega
theorem yF{h:Int}(a:0<=h)(h1:h<=4503599627370496)(t1:1<=t)(t2:t<=65536):0<=(h+t-1)/t/\(h+t-1)/t<=4503599627370496:=by
 refine⟨yAK (by omega) (by omega),?_⟩
 have:(h+t-1)/t<4503599627370496+1:=Int.ediv_lt_of_lt_mul (by omega) (by
  have h2:(4503599627370496+1)*1<=(4503599627370496+1)*t:=by omega
  omega)
 omega
theorem mm{x m:Int}(a:0<=x)(h1:x<=m):0<=x*x/\x*x<=m*m:=⟨ZT a a,yA9 h1 h1 a (by omega)⟩
set_option maxRecDepth 4000 in
theorem Uz(left right:List Int)(a:List aq)(I:Int)(b:List aq)(J:Int)(h1:left.length<=9223372036854775807)(h2:right.length<=9223372036854775807)(h3:a.length<=9223372036854775807)(h4:b.length<=9223372036854775807):NV 217 (zs left) (zs right) (aD a) (Z I) (aD b) (Z J) (.tup [Z (lc left right a I b J),B (oC left right a I b J)]):=by
 have ca:=QQ a left h3 h1;have cb:=QQ b right h4 h2;have M:=QH I;have ah:=QH J;have z6:bh aY=V6 0 0 0 0 0 0:=rfl;have e:oC left right a I b J=(dv a left&&dv b right&&decide (aN left left.length=aN right right.length)&&aP I 0 1048576&&aP J 0 1048576):=rfl
 have i:lc left right a I b J=if oC left right a I b J then pn (dM (cY a left left.length) (cY b right right.length) (aN left left.length)) (I+J)else 0:=rfl
 cases Y:dv a left with
 |false=>
  rw[Y]at e;simp only[Zt]at e;rw[e]at i;simp only[YU,Y5]at i;rw[e,i];simp only[eZ,Y,YU,Y5,z6]at ca;cases hB:dv b right
  all_goals (simp only[eZ,hB,YU,Y5,Za,z6]at cb)
  .skip
   refine Dp func217 λC hP hN=>?_;exact Gy
  .skip
   generalize cY b right right.length=V at *;generalize aN right right.length=T2 at *;refine Dp func217 λC hP hN=>?_;exact Gy
 |true=>
 simp only[eZ,Y,Za]at ca;generalize hU:cY a left left.length=U at *;generalize hT:aN left left.length=T at *
 cases hB:dv b right with
 |false=>
  rw[Y,hB]at e;simp only[Zt,yAc]at e;rw[e]at i;simp only[YU,Y5]at i;rw[e,i];simp only[eZ,hB,YU,Y5,z6]at cb;refine Dp func217 λC hP hN=>?_;exact Gy
 |true=>
 simp only[eZ,hB,Za]at cb;rw[Y,hB]at e;simp only[Zf]at e;generalize hV:cY b right right.length=V at *;generalize ar:aN right right.length=T2 at *;by_cases q:T=T2
 case neg=>
  have e1:(T !=T2)=true:=by simp[q]
  simp only[q,decide_false,Zt]at e;rw[e]at i;simp only[YU,Y5]at i;rw[e,i];refine Dp func217 λC hP hN=>?_;exact Gy
 have e0:(T !=T2)=false:=by simp[q]
 simp only[q,yAz,Zf]at e
 cases L:aP I 0 1048576 with
 |false=>
  rw[L]at M e;simp only[Zt]at e;rw[e]at i;simp only[YU,Y5]at i;rw[e,i];refine Dp func217 λC hP hN=>?_;exact Gy
 |true=>
 cases ad:aP J 0 1048576 with
 |false=>
  rw[L]at M e;rw[ad]at ah e;simp only[yAc]at e;rw[e]at i;simp only[YU,Y5]at i;rw[e,i];refine Dp func217 λC hP hN=>?_;exact Gy
 |true=>
 rw[L]at M e;rw[ad]at ah e;simp only[Z9]at e;rw[e]at i;simp only[Za]at i;rw[e]
 have a6:sI 8 U:=by rw[<-hU];exact vt Y
 have a7:sI 8 V:=by rw[<-hV];exact vt hB
 have o:=Fp Y;rw[hT]at o;subst q;clear hT ar;simp only[aP,up,Is]at L ad;generalize b5:I+J=c at *;have b9:i64.wrap c=c:=aa;have b7:=mm (x:=c) (m:=2097152) (by omega) (by omega);have b8:i64.wrap (c*c)=c*c:=aa;rw[i];refine Dp func217 λC hP hN=>?_;refine Gz ?_;refine WP.loopN [] 3 (λk st=>st.t 14=.ptr 14 0/\st.h 14=some (.box (b6 U) true false)/\st.t 17=.ptr 17 0/\st.h 17=some (.box (b6 V) true false)/\st.t 18=.pv (Z T)/\st.t 15=.pv (Z T)/\st.t 20=.pv (Z c)/\st.t 12=.ptr 12 0/\st.h 12=some (.box [.pv (Z (iJ (dM U V T) c k))] true false)/\st.t 13=.ptr 13 0/\st.h 13=some (.box [.pv (B false)] true false)/\st.t 66=.pv (Z k)/\(-(k*4398046511104:Int)<=iJ (dM U V T) c k/\iJ (dM U V T) c k<=4398046511104)/\∀j<k,∀x,(dM U V T)[j]?=some x->0<=x/\x<=c) ?_ ?_
 .simp[iJ]
  omega
 rintro k st hk ⟨P,u,R,v,S,Q,W,N,r,O,s,X,bq,hpr⟩;obtain⟨⟨⟨a1,a2⟩,a3,a4⟩,⟨⟨b1,b2⟩,b3,b4⟩,⟨c1,c2⟩,c3,c4⟩:=a6;obtain⟨⟨⟨d1,d2⟩,d3,d4⟩,⟨⟨e1,e2⟩,e3,e4⟩,⟨f1,f2⟩,f3,f4⟩:=a7;rcases dC hk with rfl|rfl|rfl|rfl
 .have D:-281474976710656<=U.1.1-V.1.2/\U.1.1-V.1.2<=281474976710656:=by omega
  have z:-281474976710656<=U.1.2-V.1.1/\U.1.2-V.1.1<=281474976710656:=by omega
  have cf:=LV (U.1.1-V.1.2) (U.1.2-V.1.1) (by omega) (by omega);have y:=vu D z;have aj:=yF y.1 (by omega) o.1 o.2;have hgd:bU U.1 V.1 T=(lZ (U.1.1-V.1.2) (U.1.2-V.1.1)+T-1)/T:=rfl;have w1:i64.wrap (U.1.1-V.1.2)=U.1.1-V.1.2:=aa;have w2:i64.wrap (U.1.2-V.1.1)=U.1.2-V.1.1:=aa;generalize lZ (U.1.1-V.1.2) (U.1.2-V.1.1)=f at *;have w3:i64.wrap (f+T)=f+T:=aa;have w4:i64.wrap (f+T-1)=f+T-1:=aa;have w5:(f+T-1).tdiv T=(f+T-1)/T:=Zc (by omega);have w6:i64.wrap ((f+T-1)/T)=(f+T-1)/T:=aa
  have w7:¬T=0:=by omega
  have w8:(T==0)=false:=by simp;omega
  by_cases F:c<bU U.1 V.1 T
  .have H:pn (dM U V T) c=-1:=by
    have G:¬bU U.1 V.1 T<=c:=by omega
    unfold pn dM;simp[G]
   rw[H];rw[hgd]at F;exact Gy
  .have n:=mm (x:=bU U.1 V.1 T) (m:=c) (by omega) (by omega)
   have p:iJ (dM U V T) c (0+1)=iJ (dM U V T) c 0-bU U.1 V.1 T*bU U.1 V.1 T:=by simp[iJ,dM]
   have d:∀j<0+1,∀x,(dM U V T)[j]?=some x->0<=x/\x<=c:=λj hj x l=>by
    by_cases A:j<0
    .exact hpr j A x l
    .have:j=0:=by omega
     subst this
     have:x=bU U.1 V.1 T:=by simpa[dM]using l.symm
     omega
   generalize iJ (dM U V T) c (0+1)=E' at *;generalize iJ (dM U V T) c 0=E at *;subst p;rw[hgd]at F n;have w9:i64.wrap ((f+T-1)/T*((f+T-1)/T))=(f+T-1)/T*((f+T-1)/T):=aa;have K:i64.wrap (E-(f+T-1)/T*((f+T-1)/T))=E-bU U.1 V.1 T*bU U.1 V.1 T:=(aa (by omega) (by omega)).trans (by rw[hgd]);rw[<-hgd]at n
   have g:-(0+1:Nat)*4398046511104<=E-bU U.1 V.1 T*bU U.1 V.1 T/\E-bU U.1 V.1 T*bU U.1 V.1 T<=4398046511104:=by omega
   refine GT (zAc P u R v S Q W N r O s X w1 w2 (s7 w3 w4 w5 w6 w7 w8 w9 (gA K F))) ?_
   all_goals first|exact⟨g,d⟩|exact⟨g.1,g.2,d⟩|exact⟨by omega,λx l=>d 0 (by omega) x l⟩
 .have D:-281474976710656<=U.2.1.1-V.2.1.2/\U.2.1.1-V.2.1.2<=281474976710656:=by omega
  have z:-281474976710656<=U.2.1.2-V.2.1.1/\U.2.1.2-V.2.1.1<=281474976710656:=by omega
  have cf:=LV (U.2.1.1-V.2.1.2) (U.2.1.2-V.2.1.1) (by omega) (by omega);have y:=vu D z;have aj:=yF y.1 (by omega) o.1 o.2;have hgd:bU U.2.1 V.2.1 T=(lZ (U.2.1.1-V.2.1.2) (U.2.1.2-V.2.1.1)+T-1)/T:=rfl;have w1:i64.wrap (U.2.1.1-V.2.1.2)=U.2.1.1-V.2.1.2:=aa;have w2:i64.wrap (U.2.1.2-V.2.1.1)=U.2.1.2-V.2.1.1:=aa;generalize lZ (U.2.1.1-V.2.1.2) (U.2.1.2-V.2.1.1)=f at *;have w3:i64.wrap (f+T)=f+T:=aa;have w4:i64.wrap (f+T-1)=f+T-1:=aa;have w5:(f+T-1).tdiv T=(f+T-1)/T:=Zc (by omega);have w6:i64.wrap ((f+T-1)/T)=(f+T-1)/T:=aa
  have w7:¬T=0:=by omega
  have w8:(T==0)=false:=by simp;omega
  by_cases F:c<bU U.2.1 V.2.1 T
  .have H:pn (dM U V T) c=-1:=by
    have G:¬bU U.2.1 V.2.1 T<=c:=by omega
    unfold pn dM;simp[G]
   rw[H];rw[hgd]at F;exact Gy
  .have n:=mm (x:=bU U.2.1 V.2.1 T) (m:=c) (by omega) (by omega)
   have p:iJ (dM U V T) c (1+1)=iJ (dM U V T) c 1-bU U.2.1 V.2.1 T*bU U.2.1 V.2.1 T:=by simp[iJ,dM]
   have d:∀j<1+1,∀x,(dM U V T)[j]?=some x->0<=x/\x<=c:=λj hj x l=>by
    by_cases A:j<1
    .exact hpr j A x l
    .have:j=1:=by omega
     subst this
     have:x=bU U.2.1 V.2.1 T:=by simpa[dM]using l.symm
     omega
   generalize iJ (dM U V T) c (1+1)=E' at *;generalize iJ (dM U V T) c 1=E at *;subst p;rw[hgd]at F n;have w9:i64.wrap ((f+T-1)/T*((f+T-1)/T))=(f+T-1)/T*((f+T-1)/T):=aa;have K:i64.wrap (E-(f+T-1)/T*((f+T-1)/T))=E-bU U.2.1 V.2.1 T*bU U.2.1 V.2.1 T:=(aa (by omega) (by omega)).trans (by rw[hgd]);rw[<-hgd]at n
   have g:-(1+1:Nat)*4398046511104<=E-bU U.2.1 V.2.1 T*bU U.2.1 V.2.1 T/\E-bU U.2.1 V.2.1 T*bU U.2.1 V.2.1 T<=4398046511104:=by omega
   refine GT (zAc P u R v S Q W N r O s X w1 w2 (s7 w3 w4 w5 w6 w7 w8 w9 (gA K F))) ?_
   all_goals first|exact⟨g,d⟩|exact⟨g.1,g.2,d⟩|exact⟨by omega,λx l=>d 0 (by omega) x l⟩
 .have D:-281474976710656<=U.2.2.1-V.2.2.2/\U.2.2.1-V.2.2.2<=281474976710656:=by omega
  have z:-281474976710656<=U.2.2.2-V.2.2.1/\U.2.2.2-V.2.2.1<=281474976710656:=by omega
  have cf:=LV (U.2.2.1-V.2.2.2) (U.2.2.2-V.2.2.1) (by omega) (by omega);have y:=vu D z;have aj:=yF y.1 (by omega) o.1 o.2;have hgd:bU U.2.2 V.2.2 T=(lZ (U.2.2.1-V.2.2.2) (U.2.2.2-V.2.2.1)+T-1)/T:=rfl;have w1:i64.wrap (U.2.2.1-V.2.2.2)=U.2.2.1-V.2.2.2:=aa;have w2:i64.wrap (U.2.2.2-V.2.2.1)=U.2.2.2-V.2.2.1:=aa;generalize lZ (U.2.2.1-V.2.2.2) (U.2.2.2-V.2.2.1)=f at *;have w3:i64.wrap (f+T)=f+T:=aa;have w4:i64.wrap (f+T-1)=f+T-1:=aa;have w5:(f+T-1).tdiv T=(f+T-1)/T:=Zc (by omega);have w6:i64.wrap ((f+T-1)/T)=(f+T-1)/T:=aa
  have w7:¬T=0:=by omega
  have w8:(T==0)=false:=by simp;omega
  by_cases F:c<bU U.2.2 V.2.2 T
  .have H:pn (dM U V T) c=-1:=by
    have G:¬bU U.2.2 V.2.2 T<=c:=by omega
    unfold pn dM;simp[G]
   rw[H];rw[hgd]at F;exact Gy
  .have n:=mm (x:=bU U.2.2 V.2.2 T) (m:=c) (by omega) (by omega)
   have p:iJ (dM U V T) c (2+1)=iJ (dM U V T) c 2-bU U.2.2 V.2.2 T*bU U.2.2 V.2.2 T:=by simp[iJ,dM]
   have d:∀j<2+1,∀x,(dM U V T)[j]?=some x->0<=x/\x<=c:=λj hj x l=>by
    by_cases A:j<2
    .exact hpr j A x l
    .have:j=2:=by omega
     subst this
     have:x=bU U.2.2 V.2.2 T:=by simpa[dM]using l.symm
     omega
   generalize iJ (dM U V T) c (2+1)=E' at *;generalize iJ (dM U V T) c 2=E at *;subst p;rw[hgd]at F n;have w9:i64.wrap ((f+T-1)/T*((f+T-1)/T))=(f+T-1)/T*((f+T-1)/T):=aa;have K:i64.wrap (E-(f+T-1)/T*((f+T-1)/T))=E-bU U.2.2 V.2.2 T*bU U.2.2 V.2.2 T:=(aa (by omega) (by omega)).trans (by rw[hgd]);rw[<-hgd]at n
   have g:-(2+1:Nat)*4398046511104<=E-bU U.2.2 V.2.2 T*bU U.2.2 V.2.2 T/\E-bU U.2.2 V.2.2 T*bU U.2.2 V.2.2 T<=4398046511104:=by omega
   refine GT (zAc P u R v S Q W N r O s X w1 w2 (s7 w3 w4 w5 w6 w7 w8 w9 (gA K F))) ?_
   all_goals first|exact⟨g,d⟩|exact⟨g.1,g.2,d⟩|exact⟨by omega,λx l=>d 0 (by omega) x l⟩
 .have ak:pn (dM U V T) c=iJ (dM U V T) c 3:=by
   have:(dM U V T).all (λx=>decide (x<=c))=true:=by
    rw[L4];intro x l;obtain⟨j,hj,l⟩:=yAb.1 l
    have a8:j<3:=by simpa[dM]using hj
    have:=hpr j a8 x (by rw[an hj,l]);simp;omega
   unfold pn;rw[this];rfl
  rw[ak];exact Gy
theorem UA(left right:List Int)(a:List aq)(c:Int)(b:List aq)(d:Int)(h1:left.length<=9223372036854775807)(h2:right.length<=9223372036854775807)(h3:a.length<=9223372036854775807)(h4:b.length<=9223372036854775807):NV 171 (zs left) (zs right) (aD a) (Z c) (aD b) (Z d) (B (oC left right a c b d&&decide (0<=lc left right a c b d))):=by
 have f:=Uz left right a c b d h1 h2 h3 h4;generalize oC left right a c b d=k at *;generalize lc left right a c b d=e at *;cases k
 all_goals (by_cases h:0<=e)
 all_goals
  refine Dp func171 λC hP hN=>?_;exact Gy
def mo(x:Int):Int:=da (max x (-x)) 65536*da (max x (-x)) 65536
def po(v:Vc)(rho:Int):Bool:=decide (mo v.1+mo v.2.1+mo v.2.2<=rho*rho)
theorem rE{x:Int}(h:-35184372088832<=x/\x<=35184372088832):(0<=da (max x (-x)) 65536/\da (max x (-x)) 65536<=536870912)/\0<=mo x/\mo x<=288230376151711744:=by
 have h1:0<=da (max x (-x)) 65536/\da (max x (-x)) 65536<=536870912:=by unfold da;omega
 have h2:=mm h1.1 h1.2;exact⟨h1,h2.1,by unfold mo;omega⟩
theorem UD(v:Vc)(rho:Int)(g:er 35184372088832 v)(c:0<=rho/\rho<=2097152):aH 248 (ai v) (Z rho) (B (po v rho)):=by
 obtain⟨q,r,s⟩:=g;have c1:=Fo (max v.1 (-v.1)) (by omega) (by omega);have u:=Fo (max v.2.1 (-v.2.1)) (by omega) (by omega);have x:=Fo (max v.2.2 (-v.2.2)) (by omega) (by omega);have m:=rE q;have o:=rE r;have p:=rE s;have A:=mm c.1 c.2;have n1:i64.wrap (0-v.1)=-v.1:=(aa (n:=0-v.1) (by omega) (by omega)).trans (by omega);have n2:i64.wrap (0-v.2.1)=-v.2.1:=(aa (n:=0-v.2.1) (by omega) (by omega)).trans (by omega);have z:i64.wrap (0-v.2.2)=-v.2.2:=(aa (n:=0-v.2.2) (by omega) (by omega)).trans (by omega);have i:i64.wrap (-v.1)=-v.1:=(aa (n:=-v.1) (by omega) (by omega));have j:i64.wrap (-v.2.1)=-v.2.1:=(aa (n:=-v.2.1) (by omega) (by omega));have l:i64.wrap (-v.2.2)=-v.2.2:=(aa (n:=-v.2.2) (by omega) (by omega));have hd:po v rho=decide (mo v.1+mo v.2.1+mo v.2.2<=rho*rho):=rfl;rw[hd];have d1:mo v.1=da (max v.1 (-v.1)) 65536*da (max v.1 (-v.1)) 65536:=rfl;have d2:mo v.2.1=da (max v.2.1 (-v.2.1)) 65536*da (max v.2.1 (-v.2.1)) 65536:=rfl;have d3:mo v.2.2=da (max v.2.2 (-v.2.2)) 65536*da (max v.2.2 (-v.2.2)) 65536:=rfl;generalize mo v.1=s1 at *;generalize mo v.2.1=s2 at *;generalize mo v.2.2=a at *;generalize da (max v.1 (-v.1)) 65536=t1 at *;generalize da (max v.2.1 (-v.2.1)) 65536=t2 at *;generalize da (max v.2.2 (-v.2.2)) 65536=t3 at *;generalize f:rho*rho=d at *;have D:i64.wrap (t1*t1)=s1:=(aa (by rw[<-d1];omega) (by rw[<-d1];omega)).trans d1.symm;have E:i64.wrap (t2*t2)=s2:=(aa (by rw[<-d2];omega) (by rw[<-d2];omega)).trans d2.symm;have F:i64.wrap (t3*t3)=a:=(aa (by rw[<-d3];omega) (by rw[<-d3];omega)).trans d3.symm;have G:i64.wrap d=d:=aa;have x1:i64.wrap s1=s1:=aa;have H:i64.wrap (s1+s2)=s1+s2:=aa;have I:i64.wrap (s1+s2+a)=s1+s2+a:=aa;clear d1 d2 d3 m o p;refine Dp func248 λC hP hN=>?_;refine Gz ?_;refine WP.loopN [] 3 (λk st=>st.t 9=.pv (ai v)/\st.t 10=.pv (Z k)/\st.t 1=.pv (Z rho)/\st.t 5=.pv (Z (if k=0 then 0 else if k=1 then s1 else if k=2 then s1+s2 else s1+s2+a))) (by simp) ?_;rintro k st e ⟨y,b,g1,g5⟩;rcases dC e with rfl|rfl|rfl|rfl
 all_goals (simp at g5 b)
 all_goals
  exact Gy
def lf(x s:Vc):Int:=if bf x (aL x s)<=0 then 0 else min 256 (bf x (aL x s)/max 1 (bf (aL x s) (aL x s)/256))
theorem sh{w:Vc}{a b:Int}(c:er a v)(d:er b w):er (a+b) (aL v w):=by
 obtain⟨e,f,g⟩:=c;obtain⟨w1,w2,i⟩:=d;refine⟨?_,?_,?_⟩<;>(simp only[aL];omega)
theorem lI(x s:Vc):0<=lf x s/\lf x s<=256:=by
 unfold lf;split
 .omega
 .rename_i h
  have h1:0<=bf x (aL x s)/max 1 (bf (aL x s) (aL x s)/256):=yAK (by omega) (by omega);omega
theorem jf{a b:Int}(h:er a v)(c:a<=b):er b v:=by
 obtain⟨d,e,f⟩:=h;exact⟨by omega,by omega,by omega⟩
theorem Bn(v:Vc):0<=bf v v:=by
 have h:∀x:Int,0<=x*x:=λx=>by
  rcases yAT 0 x with h|h
  .exact ZT h h
  .have:=ZT (show 0<=-x by omega) (show 0<=-x by omega)
   rw[Int.neg_mul_neg]at this;exact this
 have h1:=h v.1;have h2:=h v.2.1;have h3:=h v.2.2;unfold bf;omega
theorem UE(x s:Vc)(b:er 536870912 x)(hs:er 536870912 s):aH 253 (ai x) (ai s) (Z (lf x s)):=by
 have a:=sh b hs;have z:=LW x s (jf b (by decide)) (jf hs (by decide));have r:=Cr x (aL x s) 536870912 1073741824 b a (by decide);have y:=Cr (aL x s) (aL x s) 1073741824 1073741824 a a (by decide);obtain⟨g,i,j⟩:=ld (m:=536870912) (n:=1073741824) b a;obtain⟨t1,t2,t3⟩:=ld (m:=1073741824) (n:=1073741824) a a
 have B:-1729382256910270464<=bf x (aL x s)/\bf x (aL x s)<=1729382256910270464:=by unfold bf;omega
 have D:bf (aL x s) (aL x s)<=3458764513820540928:=by unfold bf;omega
 have c:=Bn (aL x s)
 have hp:lf x s=if bf x (aL x s)<=0 then 0 else min 256 (bf x (aL x s)/max 1 (bf (aL x s) (aL x s)/256)):=rfl
 rw[hp];clear g i j t1 t2 t3 a;generalize bf x (aL x s)=u at *;generalize bf (aL x s) (aL x s)=v at *;generalize aL x s=e at *;by_cases d:u<=0
 .rw[YY d]
  refine Dp func253 λC hP hN=>?_;exact Gy
 .rw[YR d]
  have a1:v.tdiv 256=v/256:=Zc c;have k:i64.wrap (v/256)=v/256:=aa
  have A:1<=max 1 (v/256):=by omega
  generalize f:max 1 (v/256)=m at *;have l:u.tdiv m=u/m:=Zc (by omega);have h4:u/m<=u:=yBc m (by omega);have h5:0<=u/m:=yAK (by omega) (by omega);have o:i64.wrap (u/m)=u/m:=aa
  have p:¬m=0:=by omega
  have q:(m==0)=false:=by simp;omega
  refine Dp func253 λC hP hN=>?_;exact Gy
def dz(w:List Int)(t:Int)(i:Nat):List Int:=w.mapIdx λj k=>if j<i then k-k*t/256 else k
def dA(w:List Int)(t:Int):Nat->Int
 |0=>0
 |i+1=>dA w t i+(w[i]?).getD 0*t/256
def jN(w:List Int)(q:Nat)(t:Int):List Int:=(dz w t w.length).set q (((dz w t w.length)[q]?).getD 0+dA w t w.length)
theorem nk(w:List Int)(t:Int)(i:Nat):(dz w t i).length=w.length:=by simp[dz]
theorem jg(w:List Int)(t:Int)(i j:Nat):(dz w t i)[j]?=(w[j]?).map λk=>if j<i then k-k*t/256 else k:=by simp[dz,List.getElem?_mapIdx]
theorem vx(w:List Int)(t:Int):dz w t 0=w:=by
 apply Zx;intro j;rw[jg];cases w[j]?<;>simp
theorem vy(a:w[i]?=some k):dz w t (i+1)=(dz w t i).set i (k-k*t/256):=by
 apply Zx;intro j;rw[Y1,jg,jg,nk];by_cases e:i=j
 .subst e
  obtain⟨h,_⟩:=th.1 a;rw[a];simp[h]
 .rw[YR e]
  cases w[j]? with
  |none=>rfl
  |some x=>
   simp only[ZD]
   congr 1
   by_cases h:j<i
   .rw[YY h,YY (by omega)]
   .rw[YR h,YR (by omega)]
theorem Aa(w:List Int):∀i,aN w i=(w.take i).sum
 |0=>by simp[aN]
 |i+1=>by
  rw[List.take_succ]
  cases h:w[i]? with
  |none=>simp[aN,h,Aa w i]
  |some k=>simp[aN,h,Aa w i]
theorem Ac(w:List Int):aN w w.length=w.sum:=by rw[Aa,yAE]
theorem Cs{x y:Int}(h:w[q]?=some y):(w.set q x).sum=w.sum-y+x:=by
 induction w generalizing q with
 |nil=>simp at h
 |cons a r ih=>
  cases q with
  |zero=>simp at h;subst h;simp;omega
  |succ q=>simp at h;simp only[List.set_cons_succ,List.sum_cons,ih h];omega
theorem Fq(w:List Int)(t:Int):∀i,i<=w.length->(dz w t i).sum=w.sum-dA w t i
 |0,_=>by simp[vx,dA]
 |i+1,h=>by
  have a:w[i]?=some w[i]:=an (by omega)
  have b:(dz w t i)[i]?=some w[i]:=by rw[jg,a];simp
  rw[vy a,Cs b,Fq w t i (by omega)];simp only[dA,a,Y8];omega
theorem OA(hq:q<w.length):(jN w q t).sum=w.sum:=by
 have b:=nk w t w.length;have a:(dz w t w.length)[q]?=some ((dz w t w.length)[q]'(by omega)):=an (by omega);unfold jN;rw[Cs a,Fq w t _ (Y0 _),a];simp only[Y8];omega
theorem pA(b:0<=k)(c:0<=t)(a:t<=256):0<=k*t/\k*t<=k*256/\0<=k*t/256/\k*t/256<=k:=by
 have h1:0<=k*t:=ZT b c;have h2:k*t<=k*256:=ZZ a b;omega
theorem pB{w:List Int}{t:Int}(c:∀k∈w,0<=k)(b:0<=t)(a:t<=256):∀i,0<=dA w t i/\dA w t i<=aN w i
 |0=>by simp[dA,aN]
 |i+1=>by
  have ih:=pB c b a i
  cases h:w[i]? with
  |none=>simp[dA,aN,h];omega
  |some k=>
   have:=pA (c k (An h)) b a;simp only[dA,aN,h,Y8];omega
theorem rG(w:List Int)(q:Nat)(t:Int):(jN w q t).length=w.length:=by simp[jN,nk]
theorem Fr(g:WgOk w)(hq:q<w.length)(m:0<=t)(d:t<=256):WgOk (jN w q t):=by
 constructor
 .intro k l
  obtain⟨j,f,rfl⟩:=yAb.1 l
  have a:j<w.length:=by rw[rG]at f;exact f
  have i:w[j]?=some w[j]:=an a;have hp:=pA (g.pos _ (Zd a)) m d
  have c:(dz w t w.length)[j]?=some (w[j]-w[j]*t/256):=by rw[jg,i];simp[a]
  have o:=pB g.pos m d w.length;generalize n:(jN w q t)[j]=x
  have b:(jN w q t)[j]?=some x:=by rw[an f,n]
  clear n l;unfold jN at b;rw[Y1]at b;by_cases e:q=j
  .subst e
   rw[YY rfl,YY (by rw[nk];exact a),c]at b;simp only[Y8,YV]at b;omega
  .rw[YR e,c]at b
   simp only[YV]at b;omega
 .rw[Ac,OA hq,<-Ac];exact g.tot
theorem Qq(l:List Vc)(w:List Int)(q:Nat)(t:Int)(h8:w.length<=8)(c:WgOk w)(hq:q<w.length)(n:0<=t)(a:t<=256):H9 prog 254 [.agg [.pv (aB l),.arr 2000000 w.length],.pv (Z q),.pv (Z t)] [(2000000,.row 2 1 (w.map Z) 0)] [(2000000,.row 2 1 ((jN w q t).map Z) 0)] (.tup []):=by
 refine GW func254 rfl (by kernel_rfl) (by simp[f254]) ?_ ?_
 .constructor
  .rfl
  .simp
  .intro k b h;simp at h;obtain⟨rfl,rfl⟩:=h;rfl
  .intro k b h;simp at h;obtain⟨rfl,rfl⟩:=h;rfl
  .intro k b b' h P
   have L:=ey h;have M:=ey P;simp at L M;obtain⟨rfl,rfl⟩:=L;obtain⟨_,rfl⟩:=M;simp[uK,rG]
 intro C hP hN;simp only[f254]at hN|-;refine GT (be @M9.eq_1 @bk.eq_1 @bk.eq_2) ?_;refine WP.loopN [] w.length (λi st=>st.t 3=.ptr 3 0/\st.h 3=some (.box [.pv (aB l),.arr 2000000 w.length] true false)/\st.t 11=.arr 2000000 w.length/\st.t 12=.pv (Z w.length)/\st.t 13=.pv (Z i)/\st.t 6=.pv (Z (dA w t i))/\st.t 1=.pv (Z q)/\st.t 2=.pv (Z t)/\st.h 2000000=some (.row 2 1 ((dz w t i).map Z) 0)) (by simp[vx,dA]) ?_;rintro i st hi ⟨g3,v,r,s,u,N,g1,g2,x⟩;have f:=nk w t i;by_cases j:i<w.length
 .have H:=ae j (by omega)
  generalize I:w[i]=k at *
  have D:w[i]?=some k:=by rw[an j,I]
  have g:(dz w t i)[i]?=some k:=by rw[jg,D];simp
  have z:=c.pos k (An D);have hp:=pA z n a;have G:=pB c.pos n a (i+1);have T:=pB c.pos n a i;have hm:=gR c.pos (show i+1<=w.length by omega);have A:=c.tot;have F:=vy (t:=t) D
  have y:dA w t (i+1)=dA w t i+k*t/256:=by simp only[dA,D,Y8]
  have Q:k<=65536:=by
   have a1:=mY D;have O:=sg c.pos i;omega
  rw[y]at G;generalize dA w t (i+1)=L' at *;generalize dA w t i=o at *;generalize dz w t (i+1)=R' at *;generalize dz w t i=R at *;subst y;subst F;have Y:i64.wrap (k*t)=k*t:=aa;have u2:(k*t).tdiv 256=k*t/256:=Zc (by omega);generalize k*t/256=p at *;have u3:i64.wrap p=p:=aa;have u4:i64.wrap (k-p)=k-p:=aa;have K:i64.wrap (o+p)=o+p:=aa
  have d:i<R.length:=by omega
  have m:∀h,R[i]'h=k:=λh=>by rw[an h]at g;exact ZB g
  with_reducible repeat' (first|refine Sp.h ?_|((first|refine Ss.h ?_|(refine Sb.h ?_ ?_ ?_<;>(try intro hgd)<;>try exact Xy))<;>simp -implicitDefEqProofs (maxSteps:=2000000) [hP,hN,g3,v,r,s,u,N,g1,g2,x,f,j,d,g,m,Y,u2,u3,u4,K,H])|refine X2 ?_ ?_|(refine Xd ?_ ?_<;>intro hcd<;>try exact Xx))
 .have E:i=w.length:=by omega
  subst E;have U:=pB c.pos n a w.length;have V:=Fr c hq n a;have hgd:jN w q t=(dz w t w.length).set q (((dz w t w.length)[q]?).getD 0+dA w t w.length):=rfl;have B:w[q]?=some w[q]:=an hq;have W:=pA (c.pos _ (Zd hq)) n a
  have e:(dz w t w.length)[q]?=some (w[q]-w[q]*t/256):=by rw[jg,B];simp[hq]
  have X:w[q]<=65536:=by
   have a1:=mY B;have O:=sg c.pos q;have a3:=gR c.pos (show q+1<=w.length by omega);have a4:=c.tot;omega
  have A:=c.tot;rw[e]at hgd;simp only[Y8]at hgd
  have S:0<=w[q]-w[q]*t/256/\w[q]-w[q]*t/256<=65536:=by omega
  generalize w[q]-w[q]*t/256=J at *;rw[hgd];generalize dz w t w.length=R at *;generalize dA w t w.length=o at *
  have d:q<R.length:=by omega
  have m:∀h,R[q]'h=J:=λh=>by rw[an h]at e;exact ZB e
  have K:i64.wrap (J+o)=J+o:=aa
  with_reducible repeat' (first|refine Sp.h ?_|((first|refine Ss.h ?_|(refine Sb.h ?_ ?_ ?_<;>(try intro hgd)<;>try exact Xy))<;>simp -implicitDefEqProofs (maxSteps:=2000000) [hP,hN,g3,v,r,s,u,N,g1,g2,x,f,hq,d,e,m,K])|refine X2 ?_ ?_|(refine Xd ?_ ?_<;>intro hcd<;>try exact Xx))
  all_goals exact⟨rfl,⟨_,rfl,_,rfl⟩,by intro kb h;simp at h;subst h;simp⟩
def dB(A:List Vc)(w:List Int)(a:List Vc)(v:List Int):Vc:=aL (bO A w A.length) (bO a v a.length)
def iK(t:Vc):Vc:=(t.1.tdiv 65536,t.2.1.tdiv 65536,t.2.2.tdiv 65536)
structure NSt where
 w:List Int
 v:List Int
 n:Vc
 r:Nat
inductive NEnd where
 |stop(kind:Int)(s:NSt)
 |step(s:NSt)
def pC(A a:List Vc)(rho:Int)(steps:Nat)(s:NSt):NEnd:=
 if po (dB A s.w a s.v) rho=true then .stop 2 s
 else if nz (aZ (iK (dB A s.w a s.v)))=false then .stop 0 ⟨s.w,s.v,aZ (iK (dB A s.w a s.v)),s.r⟩
 else if eY (aZ (iK (dB A s.w a s.v)))*rho<(bN dO (aZ (iK (dB A s.w a s.v))) A).1-(bN dP (aZ (iK (dB A s.w a s.v))) a).1 then .stop 1 ⟨s.w,s.v,aZ (iK (dB A s.w a s.v)),s.r⟩
 else if s.r=steps then .stop 0 ⟨s.w,s.v,aZ (iK (dB A s.w a s.v)),s.r⟩
 else if lf (iK (dB A s.w a s.v)) (aL ((A[(bN dO (aZ (iK (dB A s.w a s.v))) A).2]?).getD (0,0,0)) ((a[(bN dP (aZ (iK (dB A s.w a s.v))) a).2]?).getD (0,0,0)))=0 then .stop 0 ⟨s.w,s.v,aZ (iK (dB A s.w a s.v)),s.r⟩
 else .step ⟨jN s.w (bN dO (aZ (iK (dB A s.w a s.v))) A).2 (lf (iK (dB A s.w a s.v)) (aL ((A[(bN dO (aZ (iK (dB A s.w a s.v))) A).2]?).getD (0,0,0)) ((a[(bN dP (aZ (iK (dB A s.w a s.v))) a).2]?).getD (0,0,0)))),jN s.v (bN dP (aZ (iK (dB A s.w a s.v))) a).2 (lf (iK (dB A s.w a s.v)) (aL ((A[(bN dO (aZ (iK (dB A s.w a s.v))) A).2]?).getD (0,0,0)) ((a[(bN dP (aZ (iK (dB A s.w a s.v))) a).2]?).getD (0,0,0)))),aZ (iK (dB A s.w a s.v)),s.r+1⟩
def kf(A b:List Vc)(rho:Int)(steps:Nat):Nat->NSt->Int×NSt
 |0,s=>(0,s)
 |f+1,s=>match pC A b rho steps s with
  |.stop k a=>(k,a)
  |.step a=>kf A b rho steps f a
theorem Kq{t:Vc}(h:er 35184372088832 t):er 536870912 (iK t):=by
 have h1:∀x:Int,-35184372088832<=x/\x<=35184372088832->-536870912<=x.tdiv 65536/\x.tdiv 65536<=536870912:=λx b=>by
  rcases yAT 0 x with a|a
  .rw[Zc a];omega
  .have e:x.tdiv 65536=-((-x).tdiv 65536):=by rw[Int.neg_tdiv,Int.neg_neg]
   rw[e,Zc (by omega)];omega
 exact⟨h1 _ h.1,h1 _ h.2.1,h1 _ h.2.2⟩
structure NsOk(A B':List Vc)(s:NSt):Prop where
 w:WgOk s.w
 v:WgOk s.v
 wl:s.w.length=A.length
 vl:s.v.length=B'.length
theorem jw:eP l=true↔1<=l.length/\l.length<=8/\l.all (ax 268435456)=true:=by
 simp only[eP,up,Is,and_assoc]
theorem Fs{s:NSt}(a:eP A=true)(b:eP B'=true)(hs:NsOk A B' s):er 35184372088832 (dB A s.w B' s.v):=by
 rw[jw]at a b;have h1:=jv a.2.2 hs.w A.length (by rw[hs.wl];exact Y0 _);have h2:=jv b.2.2 hs.v B'.length (by rw[hs.vl];exact Y0 _);exact sh h1 h2
theorem nq{n:Vc}(a:1<=l.length):(bN bet n l).2<l.length:=vw a _
abbrev Tb(A:List Vc)(c:Nat)(a:List Vc)(b:Nat)(n:Vc)(r:Nat):List AV:=[.pv (aB A),.arr 2000000 c,.pv (aB a),.arr 2000001 b,.pv (Z n.1),.pv (Z n.2.1),.pv (Z n.2.2),.pv (Z r)]
abbrev NE(A a:List Vc)(s:NSt):List (Nat×Blk):=[(1000000,.box (Tb A s.w.length a s.v.length s.n s.r) false false),(2000000,.row 2 1 (s.w.map Z) 0),(2000001,.row 2 1 (s.v.map Z) 0)]
theorem Bo:∀(k:Nat)(v:Vc),er (16384*((2^k:Nat):Int)) v->ax 16384 (kn k v)=true
 |0,v,h=>by
  obtain⟨h1,h2,h3⟩:=h;simp only[kn];rw[br,aU,aU,aU];simp only[Nat.pow_zero]at h1 h2 h3;exact⟨by omega,by omega,by omega⟩
 |k+1,v,h=>by
  simp only[kn];split
  .assumption
  .refine Bo k _ (FM ?_)
   have e:2*(16384*((2^k:Nat):Int))=16384*((2^(k+1):Nat):Int):=by rw[yA5];omega
   rw[e];exact h
theorem Dn(v:Vc)(h:er 1099511627776 v):ax 16384 (aZ v)=true:=Bo 64 v (jf h (by decide))
theorem vz{rho:Int}{steps:Nat}{s:NSt}(b:eP A=true)(c:eP B'=true)(hs:NsOk A B' s):(∀k a,pC A B' rho steps s=.stop k a->NsOk A B' a)/\∀a,pC A B' rho steps s=.step a->NsOk A B' a:=by
 rw[jw]at b c;unfold pC;refine⟨λk a h=>?_,λa h=>?_⟩
 .repeat' split at h
  all_goals first
   |(injection h with _ h;subst h;exact hs)
   |(injection h with _ h;subst h;exact⟨hs.w,hs.v,hs.wl,hs.vl⟩)
   |cases h
 .repeat' split at h
  all_goals first
   |cases h;done
   |(injection h with h
     subst h
     exact⟨Fr hs.w (by rw[hs.wl];exact nq b.1) (lI _ _).1 (lI _ _).2,Fr hs.v (by rw[hs.vl];exact nq c.1) (lI _ _).1 (lI _ _).2,by rw[rG];exact hs.wl,by rw[rG];exact hs.vl⟩)
theorem vA{A a:List Vc}{rho:Int}{steps:Nat}(b:eP A=true)(c:eP a=true):∀(f:Nat)(s:NSt),NsOk A a s->NsOk A a (kf A a rho steps f s).2
 |0,s,hs=>hs
 |f+1,s,hs=>by
  have h:=vz (rho:=rho) (steps:=steps) b c hs;simp only[kf];split
  .rename_i k d e;exact h.1 _ _ e
  .rename_i d e;exact vA b c f d (h.2 _ e)
theorem tp{n p:Vc}(hn:er 16384 n)(hp:er 268435456 p):-13194139533312<=bf n p/\bf n p<=13194139533312:=by
 obtain⟨a,b,c⟩:=ld (m:=16384) (n:=268435456) hn hp;unfold bf;omega
theorem Do{bet:Int->Int->Bool}{n p0:Vc}{l:List Vc}(hn:er 16384 n)(hp:er 268435456 p0)(a:l.all (ax 268435456)=true):∀i,-13194139533312<=(cJ bet n p0 l i).1/\(cJ bet n p0 l i).1<=13194139533312
 |0=>tp hn hp
 |i+1=>by
  have ih:=Do (bet:=bet) hn hp a i;simp only[cJ];split
  .rename_i v b
   have:=tp hn (dD (L4.1 a v (An b)));split
   .exact this
   .exact ih
  .exact ih
theorem xv(h:ax 16384 v=true):er 16384 v:=by
 rw[br,aU,aU,aU]at h;exact⟨⟨by omega,by omega⟩,⟨by omega,by omega⟩,⟨by omega,by omega⟩⟩
theorem rh{n:Vc}(hn:ax 16384 n=true)(a:l.all (ax 268435456)=true):-13194139533312<=(bN bet n l).1/\(bN bet n l).1<=13194139533312:=by
 refine Do (xv hn) ?_ a _
 cases h:l[0]? with
 |none=>simp[er]
 |some p=>exact dD (L4.1 a p (An h))
theorem Qr{s f:NSt}(hs:NsOk A B' s)(a:NsOk A B' f):OkG (NE A B' s) (NE A B' f):=by
 constructor
 .rfl
 .simp
 .intro k b h
  simp only[Zi,Y6,Zo,ZP]at h;rcases h with⟨rfl,rfl⟩|⟨rfl,rfl⟩|⟨rfl,rfl⟩
  all_goals (simp[jF,mQ])
 .intro k b h
  simp only[Zi,Y6,Zo,ZP]at h;rcases h with⟨rfl,rfl⟩|⟨rfl,rfl⟩|⟨rfl,rfl⟩
  all_goals (simp[jF,mQ])
 .intro k b i h g
  have d:=ey h;have c:=ey g;simp only[Zi,Y6,Zo,ZP]at d c;rcases d with⟨rfl,rfl⟩|⟨rfl,rfl⟩|⟨rfl,rfl⟩
  .rcases c with⟨_,rfl⟩|⟨e,_⟩|⟨e,_⟩
   .rfl
   .exact absurd e (by decide)
   .exact absurd e (by decide)
  .rcases c with⟨e,_⟩|⟨_,rfl⟩|⟨e,_⟩
   .exact absurd e (by decide)
   .simp[uK,hs.wl,a.wl]
   .exact absurd e (by decide)
  .rcases c with⟨e,_⟩|⟨e,_⟩|⟨_,rfl⟩
   .exact absurd e (by decide)
   .exact absurd e (by decide)
   .simp[uK,hs.vl,a.vl]
set_option maxRecDepth 4000 in
theorem UF(A l:List Vc)(rho:Int)(steps:Nat)(X:NSt)(hA:eP A=true)(hB:eP l=true)(hr:0<=rho/\rho<=2097152)(b8:steps<=64)(hs:NsOk A l X)(h0:X.r=0):H9 prog 213 [.ptr 1000000 0,.pv (Z rho),.pv (Z steps)] (NE A l X) (NE A l (kf A l rho steps (steps+1) X).2) (Z (kf A l rho steps (steps+1) X).1):=by
 have ah:=vA (rho:=rho) (steps:=steps) hA hB (steps+1) X hs;generalize aj:kf A l rho steps (steps+1) X=RR at *;have m:=jw.1 hA;have o:=jw.1 hB;refine GW func213 rfl (by kernel_rfl) (by simp[f213]) (Qr hs ah) ?_;intro C hP hN;simp only[f213]at hN|-;refine GT (be @M9.eq_1 @bk.eq_1 @bk.eq_2) ?_;refine WP.loopN [7,8,9] steps (λi st=>∃s:NSt,NsOk A l s/\s.r=i/\kf A l rho steps (steps+1-i) s=RR/\st.t 0=.ptr 1000000 0/\st.t 1=.pv (Z rho)/\st.t 2=.pv (Z steps)/\st.h 7=none/\st.h 8=none/\st.h 9=none/\st.h 1000000=some (.box (Tb A s.w.length l s.v.length s.n s.r) false false)/\st.h 2000000=some (.row 2 1 (s.w.map Z) 0)/\st.h 2000001=some (.row 2 1 (s.v.map Z) 0)) (by refine⟨X,hs,h0,aj,?_⟩;simp) ?_;rintro i st hi ⟨s,hs,b7,c,g0,g1,g2,p,u,y,j,e,f⟩;have ad:=Fs hA hB hs;have J:=Kq ad;have V:=jf J (show(536870912:Int)<=1099511627776 by decide);have P:=Dn _ V;rw[show steps+1-i=(steps-i)+1 by omega]at c;simp only[kf]at c;have d:pC A l rho steps s=_:=rfl
 conv at d=>rhs;unfold pC
 have c1:=Qp A s.w m.2.1 hs.wl m.2.2 hs.w;have c2:=Qp l s.v o.2.1 hs.vl o.2.2 hs.v;have ar:=jv m.2.2 hs.w A.length (by rw[hs.wl];exact Y0 _);have a6:=jv o.2.2 hs.v l.length (by rw[hs.vl];exact Y0 _);have c3:=LW _ _ (jf ar (by decide)) (jf a6 (by decide));have a7:aL (bO A s.w A.length) (bO l s.v l.length)=dB A s.w l s.v:=rfl;rw[a7]at c3;have c4:=UD _ rho ad hr;have ak:=vz (rho:=rho) (steps:=steps) hA hB hs;generalize dB A s.w l s.v=T at *;have c5:=QL _ V;have I:iK T=(T.1.tdiv 65536,T.2.1.tdiv 65536,T.2.2.tdiv 65536):=rfl
 cases O:po T rho with
 |true=>
  rw[O]at c4;rw[YY O]at d;rw[d]at c;simp only at c;subst c;refine GT (s7 g0 g1 g2 p u y j (gA e f)) ?_
  all_goals exact⟨rfl,⟨_,rfl,_,rfl⟩,by intro kb h;simp only[Zi,Zo,ZP]at h;rcases h with rfl|rfl|rfl<;>simp[j,e,f]⟩
 |false=>
  rw[O]at c4;rw[YR (by rw[O];simp)]at d
  have L:i64.wrap (T.1.tdiv 65536)=T.1.tdiv 65536:=by have:=J.1;rw[I]at this;simp only at this;exact aa (by omega) (by omega)
  have M:i64.wrap (T.2.1.tdiv 65536)=T.2.1.tdiv 65536:=by have:=J.2.1;rw[I]at this;simp only at this;exact aa (by omega) (by omega)
  have N:i64.wrap (T.2.2.tdiv 65536)=T.2.2.tdiv 65536:=by have:=J.2.2;rw[I]at this;simp only at this;exact aa (by omega) (by omega)
  generalize aZ (iK T)=n at *
  cases Q:nz n with
  |false=>
   rw[YY Q]at d;rw[d]at c;simp only at c;subst c;rw[Q,I]at c5;refine GT (zAb g0 g1 g2 p u y j e f L M N) ?_
   all_goals exact⟨rfl,⟨_,rfl,_,rfl⟩,by intro kb h;simp only[Zi,Zo,ZP]at h;rcases h with rfl|rfl|rfl<;>simp[j,e,f]⟩
  |true=>
   rw[YR (by rw[Q];simp)]at d;have c6:=UB n A s.w P m.1 m.2.1 m.2.2;have c7:=UC n l s.v P o.1 o.2.1 o.2.2;have c8:=QM n;have hq:=vO n;have l1:=rh (bet:=dO) P m.2.2;have l2:=rh (bet:=dP) P o.2.2;have i1:=nq (bet:=dO) (n:=n) m.1;have i2:=nq (bet:=dP) (n:=n) o.1;generalize bN dO n A=lo at *;generalize bN dP n l=F at *;generalize eY n=q at *;have b5:=bi (a:=q) (b:=rho) 32768 2097152 (by omega) (by omega) (by omega) (by omega);have S:i64.wrap (lo.1-F.1)=lo.1-F.1:=aa;have U:i64.wrap (q*rho)=q*rho:=aa;generalize D:q*rho=qr at *;obtain⟨pa,z⟩:∃x,A[lo.2]?=some x:=⟨_,an i1⟩;obtain⟨pb,B⟩:∃x,l[F.2]?=some x:=⟨_,an i2⟩
   have G:∀h,A[lo.2]'h=pa:=λh=>by rw[an h]at z;exact ZB z
   have H:∀h,l[F.2]'h=pb:=λh=>by rw[an h]at B;exact ZB B
   have sa:=dD (L4.1 m.2.2 pa (An z));have sb:=dD (L4.1 o.2.2 pb (An B));have c9:=LW pa pb (jf sa (by decide)) (jf sb (by decide));have b4:=sh sa sb;have Y:=UE (iK T) (aL pa pb) J b4;have R:=lI (iK T) (aL pa pb);rw[z,B]at d;simp only[Y8]at d;generalize lf (iK T) (aL pa pb)=t at *;generalize aL pa pb=b9 at *;rw[I]at c5 Y;rw[Q]at c5;by_cases g:qr<lo.1-F.1
   .rw[YY g]at d
    rw[d]at c;simp only at c;subst c;refine GT (zAc g0 g1 g2 p u y j e f L M N S U (gA D g)) ?_
    all_goals exact⟨rfl,⟨_,rfl,_,rfl⟩,by intro kb h;simp only[Zi,Zo,ZP]at h;rcases h with rfl|rfl|rfl<;>simp[j,e,f]⟩
   rw[YR g]at d;by_cases W:s.r=steps
   .rw[YY W]at d
    rw[d]at c;simp only at c;subst c
    have k:((s.r:Int)==(steps:Int))=true:=by simp;omega
    refine GT (zAc g0 g1 g2 p u y j e f L M N S U (be D g k)) ?_
    all_goals exact⟨rfl,⟨_,rfl,_,rfl⟩,by intro kb h;simp only[Zi,Zo,ZP]at h;rcases h with rfl|rfl|rfl<;>simp[j,e,f]⟩
   rw[YR W]at d
   have k:((s.r:Int)==(steps:Int))=false:=by simp;omega
   by_cases E:t=0
   .rw[YY E]at d
    rw[d]at c;simp only at c;subst c;refine GT (zAc g0 g1 g2 p u y j e f L M N S U (zAa D g k z B G H i1 i2 E)) ?_
    all_goals exact⟨rfl,⟨_,rfl,_,rfl⟩,by intro kb h;simp only[Zi,Zo,ZP]at h;rcases h with rfl|rfl|rfl<;>simp[j,e,f]⟩
   rw[YR E]at d;have b2:=ak.2 _ d;rw[d]at c;simp only at c
   have K:(t==0)=false:=by simp;omega
   have a8:=Qq A s.w lo.2 t (by rw[hs.wl];exact m.2.1) hs.w (by rw[hs.wl];exact i1) R.1 R.2;have bq:=Qq l s.v F.2 t (by rw[hs.vl];exact o.2.1) hs.v (by rw[hs.vl];exact i2) R.1 R.2
   with_reducible repeat' (first|refine Sp.h ?_|((refine WP.share (hn:=[]) (pre:=[_,_,_,_,_,_,_]) (post:=[]) rfl rfl rfl ?_);simp -implicitDefEqProofs (maxSteps:=2000000) [hP,hN,g0,g1,g2,p,u,y,j,e,f,L,M,N,S,U,D,g,k,z,B,G,H,i1,i2,E,K])|((first|refine Wd ?_|refine Ss.h ?_|refine Sc.h (c1) ?_|refine Sc.h (c2) ?_|refine Sc.h (c3) ?_|refine Sc.h (c4) ?_|refine Sc.h (c5) ?_|refine Sc.h (c6) ?_|refine Sc.h (c7) ?_|refine Sc.h (c8) ?_|refine Sc.h (c9) ?_|refine Sc.h (Y) ?_|(refine Sb.h ?_ ?_ ?_<;>(try intro hgd)<;>try exact Xy))<;>simp -implicitDefEqProofs (maxSteps:=2000000) [hP,hN,g0,g1,g2,p,u,y,j,e,f,L,M,N,S,U,D,g,k,z,B,G,H,i1,i2,E,K]<;>try refine Ya ?_)|refine X2 ?_ ?_|(refine Xd ?_ ?_<;>intro hcd<;>try exact Xx))
   simp only[Az,hP];refine⟨_,_,_,_,_,λ_=>2000000,rfl,a8,rfl,?_⟩;refine⟨by simp[BS,lx],by simp[GR,mQ],by simp,by intro kb h;simp only[Zi,Zo,ZP]at h;subst h;simp[e,im],by rw[hN];rfl,?_⟩;simp -implicitDefEqProofs (maxSteps:=2000000) [hP,hN,ig,im,cw,e]
   with_reducible repeat' (first|refine Sp.h ?_|((refine WP.share (hn:=[]) (pre:=[_,_,_,_,_,_,_]) (post:=[]) rfl rfl rfl ?_);simp -implicitDefEqProofs (maxSteps:=2000000) [hP,hN,g0,g1,g2,p,u,y,j,e,f,ig,im,L,M,N,S,U,D,g,k,z,B,G,H,i1,i2,E,K])|((first|refine Wd ?_|refine Ss.h ?_|refine Sc.h (c1) ?_|refine Sc.h (c2) ?_|refine Sc.h (c3) ?_|refine Sc.h (c4) ?_|refine Sc.h (c5) ?_|refine Sc.h (c6) ?_|refine Sc.h (c7) ?_|refine Sc.h (c8) ?_|refine Sc.h (c9) ?_|refine Sc.h (Y) ?_|(refine Sb.h ?_ ?_ ?_<;>(try intro hgd)<;>try exact Xy))<;>simp -implicitDefEqProofs (maxSteps:=2000000) [hP,hN,g0,g1,g2,p,u,y,j,e,f,ig,im,L,M,N,S,U,D,g,k,z,B,G,H,i1,i2,E,K]<;>try refine Ya ?_)|refine X2 ?_ ?_|(refine Xd ?_ ?_<;>intro hcd<;>try exact Xx))
   simp only[Az,hP];refine⟨_,_,_,_,_,λ_=>2000001,rfl,bq,rfl,?_⟩;refine⟨by simp[BS,lx],by simp[GR,mQ],by simp,by intro kb h;simp only[Zi,Zo,ZP]at h;subst h;simp[f,im],by rw[hN];rfl,?_⟩;simp -implicitDefEqProofs (maxSteps:=2000000) [hP,hN,ig,im,cw,e,f];have b3:i64.wrap ((s.r:Int)+1)=(s.r:Int)+1:=aa;refine GT (zAc g0 g1 g2 p u y j e f b3 @ig.eq_1 @im.eq_1 @im.eq_2 L (zAc M N S U D g k z B G H i1 i2 E K)) ?_;refine⟨by omega,⟨jN s.w lo.2 t,jN s.v F.2 t,n,s.r+1⟩,b2,by simp only;omega,c,⟨(rG _ _ _).symm,(rG _ _ _).symm,rfl,rfl,rfl,by simp only;omega⟩,rfl,rfl⟩
def tr(a b:List Vc):NSt:=⟨(List.replicate a.length 0).set 0 65536,(List.replicate b.length 0).set 0 65536,(0,0,0),0⟩
theorem NF(h:1<=n):WgOk ((List.replicate n 0).set 0 65536):=by
 constructor
 .intro k a
  rcases ZE a with h|rfl
  .have:=List.eq_of_mem_replicate h;omega
  .decide
 .rw[Ac,Cs (y:=0) (by rw[Zk,YY (by omega)])]
  have:(List.replicate n (0:Int)).sum=0:=by simp
  omega
theorem Ft{a b:List Vc}(ha:1<=a.length)(hb:1<=b.length):NsOk a b (tr a b):=⟨NF ha,NF hb,by simp[tr],by simp[tr]⟩
def ri(a b:List Vc)(rho steps:Int):Bool:=eP a&&eP b&&aP rho 0 2097152&&aP steps 0 64
def iS(a b:List Vc)(rho steps:Int):Int×NSt:=if ri a b rho steps then kf a b rho steps.toNat (steps.toNat+1) (tr a b)else(0,⟨[],[],(0,0,0),0⟩)
abbrev NG(x:Int×NSt):PV:=.agg [Z x.1,Z x.2.n.1,Z x.2.n.2.1,Z x.2.n.2.2,zs x.2.w,zs x.2.v,Z x.2.r]
theorem Qt(a b:List Vc)(rho steps:Int)(ha:a.length<=9223372036854775807)(hb:b.length<=9223372036854775807):mD 169 (aB a) (aB b) (Z rho) (Z steps) (NG (iS a b rho steps)):=by
 have g:=Qo a ha;have j:=Qo b hb;have c:ri a b rho steps=(eP a&&eP b&&aP rho 0 2097152&&aP steps 0 64):=rfl
 have d:iS a b rho steps=if ri a b rho steps then kf a b rho steps.toNat (steps.toNat+1) (tr a b)else(0,⟨[],[],(0,0,0),0⟩):=rfl
 cases e:eP a with
 |false=>
  rw[e]at g c;simp only[Zt]at c;rw[c]at d;simp only[YU,Y5]at d;rw[d];refine Dp func169 λC hP hN=>?_;exact Gy
 |true=>
 cases f:eP b with
 |false=>
  rw[e]at g c;rw[f]at j c;simp only[yAc,Zt]at c;rw[c]at d;simp only[YU,Y5]at d;rw[d];refine Dp func169 λC hP hN=>?_;exact Gy
 |true=>
 rw[e]at g c;rw[f]at j c;simp only[Z9,Zf]at c;by_cases p:rho<0\/2097152<rho\/steps<0\/64<steps
 .have hf:(aP rho 0 2097152&&aP steps 0 64)=false:=by
   simp only[aP];rcases p with h|h|h|h
   .rw[ZU (show¬0<=rho by omega)];simp
   .rw[ZU (show¬rho<=2097152 by omega)];simp
   .rw[ZU (show¬0<=steps by omega)];simp
   .rw[ZU (show¬steps<=64 by omega)];simp
  rw[hf]at c;rw[c]at d;simp only[YU,Y5]at d;rw[d];rcases p with h|h|h|h
  all_goals
   refine Dp func169 λC hP hN=>?_;exact Gy
 have hf:(aP rho 0 2097152&&aP steps 0 64)=true:=by
  simp only[aP,up,Is];omega
 rw[hf]at c;rw[c]at d;simp only[Za]at d;obtain⟨m,s⟩:∃m:Nat,steps=m:=⟨steps.toNat,by omega⟩;subst s;simp only[Y9]at d;have n:=jw.1 e;have o:=jw.1 f;have c1:=ND a n.1 n.2.1;have r:=ND b o.1 o.2.1;have k:=Ft n.1 o.1;have i:=vA (rho:=rho) (steps:=m) e f (m+1) (tr a b) k;have l:=UF a b rho m (tr a b) e f (by omega) (by omega) k rfl;generalize kf a b rho m (m+1) (tr a b)=x at *;rw[d]
 have h1:¬rho<0:=by omega
 have h2:¬2097152<rho:=by omega
 have h3:¬(m:Int)<0:=by omega
 have h4:¬64<(m:Int):=by omega
 refine Dp func169 λC hP hN=>?_
 with_reducible repeat' (first|refine Sp.h ?_|((refine WP.share (hn:=[]) (pre:=[_,_]) (post:=[_]) rfl rfl rfl ?_);simp -implicitDefEqProofs (maxSteps:=2000000) [hP,hN,h1,h2,h4])|((first|refine Ss.h ?_|refine Sc.h (g) ?_|refine Sc.h (j) ?_|refine Sc.h (c1) ?_|refine Sc.h (r) ?_|(refine Sb.h ?_ ?_ ?_<;>(try intro hgd)<;>try exact Xy))<;>simp -implicitDefEqProofs (maxSteps:=2000000) [hP,hN,h1,h2,h4])|refine X2 ?_ ?_|(refine Xd ?_ ?_<;>intro hcd<;>try exact Xx))
 simp only[Az,hP];refine⟨_,_,_,_,_,λq=>if q=1000000 then 9 else if q=2000000 then 37 else 40,rfl,l,rfl,?_⟩;refine⟨by simp[BS,lx],by simp[GR,mQ],by simp,by intro y h;simp only[Zi,Zo,ZP]at h;rcases h with rfl|rfl|rfl<;>simp[im,lx,mH,tr],by rw[hN];rfl,?_⟩;simp -implicitDefEqProofs (maxSteps:=2000000) [hP,hN,ig,im,lx,mH];have v:=i.wl;have u:=i.vl;exact Gy
def bJ(n:Nat)(l:Int):Bool:=decide (-1<=l)&&decide (l<n)
theorem FI(s:Sce)(l:Int)(a:s.js.length<=9223372036854775807):aH 102 (aW s) (Z l) (B (bJ s.js.length l)):=by
 refine Dp func102 λC hP hN=>?_
 with_reducible repeat' (first|refine Sp.h ?_|((first|refine Ss.h ?_|(refine Sb.h ?_ ?_ ?_<;>(try intro hgd)<;>try exact Xy))<;>simp -implicitDefEqProofs (maxSteps:=2000000) [hP,hN])|refine X2 ?_ ?_|(refine Xd ?_ ?_<;>intro hcd<;>try exact Xx))
 all_goals (simp only[bJ,Is,Y4]at *;first|done|(simp;intros;omega)|(simp;omega)|omega)
def bz(n:Nat)(h:Sh):Int:=if(bJ n h.link&&decide (1<=h.rad)&&decide (h.rad<=1048576)&&decide (1<=h.pts.length)&&decide (h.pts.length<=8))=true then(if h.pts.all (ax 4194304)=true then 0 else 805)else 902
theorem Vq(s:Sce)(h:Sh)(J:s.js.length<=9223372036854775807)(K:h.pts.length<=9223372036854775807):aH 101 (aW s) (ba h) (Z (bz s.js.length h)):=by
 have D:=FI s h.link J
 cases l:bJ s.js.length h.link with
 |false=>
  have hf:bz s.js.length h=902:=by simp[bz,l]
  rw[hf];rw[l]at D;refine Dp func101 λC hP hN=>?_;exact Gy
 |true=>
 rw[l]at D;by_cases I:h.rad<1\/1048576<h.rad\/(h.pts.length:Int)<1\/(8:Int)<h.pts.length
 .have hf:bz s.js.length h=902:=by
   unfold bz;rw[YR];simp only[up,Is];rintro⟨⟨⟨⟨b0,b1⟩,N⟩,O⟩,P⟩;omega
  rw[hf];rcases I with h1|h1|h1|h1
  all_goals
   refine Dp func101 λC hP hN=>?_;exact Gy
 have h1:¬h.rad<1:=by omega
 have h2:¬1048576<h.rad:=by omega
 have h3:¬(h.pts.length:Int)<1:=by omega
 have h4:¬(8:Int)<h.pts.length:=by omega
 have G:¬h.pts.length<1:=by omega
 have H:¬8<h.pts.length:=by omega
 have hf:bz s.js.length h=if h.pts.all (ax 4194304)=true then 0 else 805:=by
  unfold bz;rw[YY];simp only[up,Is];exact⟨⟨⟨⟨l,by omega⟩,by omega⟩,by omega⟩,by omega⟩
 rw[hf];refine Dp func101 λC hP hN=>?_
 cases e:h.pts.all (ax 4194304)with
 |true=>
  refine Gz ?_;refine WP.loopN [7] h.pts.length (λi st=>True/\st.t 37=.pv (aB h.pts)/\st.t 38=.pv (Z h.pts.length)/\st.t 39=.pv (Z i)/\st.h 7=none) (by simp) ?_;rintro i st hi ⟨g1,g,j,f,m⟩;by_cases d:i<h.pts.length
  .have r:=ae d (by omega)
   have L:=br.1 (L4.1 e _ (Zd d));obtain⟨y,z,A⟩:=L;rw[aU]at y z A;generalize n:h.pts[i]=v at *
   have E:h.pts[i]?=some v:=by rw[an d,n]
   refine Gz ?_;refine WP.loopN [] 3 (λk st=>True/\st.t 37=.pv (aB h.pts)/\st.t 38=.pv (Z h.pts.length)/\st.t 39=.pv (Z i)/\st.t 43=.pv (ai v)/\st.t 44=.pv (Z k)) (by simp[g1,g,j,f]) ?_;clear g1 g j f m;rintro k st l ⟨g1,g,j,f,gA,q⟩;rcases dC l with rfl|rfl|rfl|rfl
   all_goals
    exact Gy
  .skip
   exact Gy
 |false=>
  refine Gz ?_;refine WP.loopN [7] h.pts.length (λi st=>True/\st.t 37=.pv (aB h.pts)/\st.t 38=.pv (Z h.pts.length)/\st.t 39=.pv (Z i)/\st.h 7=none/\∀k x,k<i->h.pts[k]?=some x->ax 4194304 x=true) (by simp) ?_;rintro i st hi ⟨g1,g,j,f,m,hq⟩;by_cases d:i<h.pts.length
  .have r:=ae d (by omega)
   generalize n:h.pts[i]=v at *
   have E:h.pts[i]?=some v:=by rw[an d,n]
   have u:=mZ (p:=ax 4194304) E hq;refine Gz ?_;refine WP.loopN [] 3 (λk st=>True/\st.t 37=.pv (aB h.pts)/\st.t 38=.pv (Z h.pts.length)/\st.t 39=.pv (Z i)/\st.t 43=.pv (ai v)/\st.t 44=.pv (Z k)/\(0<k->fv v.1 4194304=true)/\(1<k->fv v.2.1 4194304=true)/\(2<k->fv v.2.2 4194304=true)) (by simp[g1,g,j,f]) ?_;clear g1 g j f m hq;rintro k st l ⟨g1,g,j,f,gA,q,B,F,M⟩;rcases dC l with rfl|rfl|rfl|rfl
   .skip
    with_reducible repeat' (first|refine Sp.h ?_|((first|refine Ss.h ?_|(refine Sb.h ?_ ?_ ?_<;>(try intro hgd)<;>try exact Xy))<;>simp -implicitDefEqProofs (maxSteps:=2000000) [hP,hN,g1,g,j,f,gA,q,r])|refine X2 ?_ ?_|(refine Xd ?_ ?_<;>intro hcd<;>try exact Xx))
    all_goals (try (rw[aU];simp only[Y4,Is]at hgd hcd;omega))
   .skip
    with_reducible repeat' (first|refine Sp.h ?_|((first|refine Ss.h ?_|(refine Sb.h ?_ ?_ ?_<;>(try intro hgd)<;>try exact Xy))<;>simp -implicitDefEqProofs (maxSteps:=2000000) [hP,hN,g1,g,j,f,gA,q,r])|refine X2 ?_ ?_|(refine Xd ?_ ?_<;>intro hcd<;>try exact Xx))
    all_goals (try (exact⟨B (by omega),by rw[aU];simp only[Y4,Is]at hgd hcd;omega⟩))
   .skip
    with_reducible repeat' (first|refine Sp.h ?_|((first|refine Ss.h ?_|(refine Sb.h ?_ ?_ ?_<;>(try intro hgd)<;>try exact Xy))<;>simp -implicitDefEqProofs (maxSteps:=2000000) [hP,hN,g1,g,j,f,gA,q,r])|refine X2 ?_ ?_|(refine Xd ?_ ?_<;>intro hcd<;>try exact Xx))
    all_goals (try (exact⟨B (by omega),F (by omega),by rw[aU];simp only[Y4,Is]at hgd hcd;omega⟩))
   .have hn:ax 4194304 v=true:=br.2 ⟨B (by omega),F (by omega),M (by omega)⟩
    have o:=u hn;refine Gz ?_
    all_goals (try exact λk a b c=>o k (a,b,c))
  .have:=pJ hq d
   rw[this]at e;cases e
def gu(n:Nat)(shs:List Sh):Int:=match(shs.map (bz n)).find? (λe=>e !=0)with
 |some e=>e
 |none=>0
theorem wo(b:i<shs.length)(hq:∀k x,k<i->shs[k]?=some x->bz n x=0)(c:bz n shs[i]≠0):gu n shs=bz n shs[i]:=by
 have:(shs.map (bz n)).find? (λe=>e !=0)=some (bz n shs[i]):=by
  rw[yAZ];refine⟨by simpa using c,i,by simpa using b,by simp,λk d=>?_⟩
  have a:k<shs.length:=by omega
  simp[hq k shs[k] d (an a)]
 rw[gu,this]
theorem sD(hq:∀(k:Nat) x,shs[k]?=some x->bz n x=0):gu n shs=0:=by
 have:(shs.map (bz n)).find? (λe=>e !=0)=none:=by
  rw[Z2];intro e a;simp only[Zg]at a;obtain⟨x,c,rfl⟩:=a;obtain⟨k,b⟩:=Zq c;simp[hq k x b]
 rw[gu,this]
def gF(n:Nat)(p:Int×Int):Bool:=bJ n p.1&&bJ n p.2
def ao(s:Sce):Int:=if aR s.js s.ms≠0 then aR s.js s.ms else if 24<s.shs.length then 901 else if gu s.js.length s.shs≠0 then gu s.js.length s.shs else if 64<s.sks.length then 903 else if s.sks.all (gF s.js.length)=true then 0 else 903
structure ScL(s:Sce):Prop where
 js:s.js.length<=9223372036854775807
 ms:s.ms.length<=9223372036854775807
 shs:s.shs.length<=9223372036854775807
 sks:s.sks.length<=9223372036854775807
 pts:∀h∈s.shs,h.pts.length<=9223372036854775807
theorem HA(s:Sce)(hs:ScL s):aT 61 (aW s) (Z (ao s)):=by
 have T:=Df s.js s.ms hs.js hs.ms;obtain⟨G,l2,Y,S,l5⟩:=hs;by_cases A:aR s.js s.ms=0
 case neg=>
  have hf:ao s=aR s.js s.ms:=by simp[ao,A]
  have U:(aR s.js s.ms !=0)=true:=by simp[A]
  rw[hf];generalize aR s.js s.ms=r at *;refine Dp func61 λC hP hN=>?_;exact Gy
 rw[A]at T;by_cases h1:24<s.shs.length
 .have hf:ao s=901:=by simp[ao,A,h1]
  have L:(24:Int)<s.shs.length:=by omega
  rw[hf];refine Dp func61 λC hP hN=>?_;exact Gy
 have L:¬(24:Int)<s.shs.length:=by omega
 have hf:ao s=if gu s.js.length s.shs≠0 then gu s.js.length s.shs else if 64<s.sks.length then 903 else if s.sks.all (gF s.js.length)=true then 0 else 903:=by simp only[ao,A,h1,Y5,ne_eq,yAi]
 rw[hf];refine Dp func61 λC hP hN=>?_;refine Gz ?_;refine WP.loopN [5] s.shs.length (λi st=>st.t 1=.ptr 1 0/\st.h 1=some (.box [.pv (.sl (s.js.map aQ)),.pv (.sl (s.ms.map bb)),.pv (.sl (s.shs.map ba)),.pv (.sl (s.sks.map aK))] true false)/\st.t 20=.pv (.sl (s.shs.map ba))/\st.t 21=.pv (Z s.shs.length)/\st.t 22=.pv (Z i)/\st.h 5=none/\st.h 8=none/\∀k x,k<i->s.shs[k]?=some x->bz s.js.length x=0) (by simp) ?_;rintro i st hi ⟨g1,d,u,y,z,D,f,hq⟩;by_cases c:i<s.shs.length
 .have R:=ae c Y
  have M:=wo (n:=s.js.length) c hq;have o:=λq=>mZ (p:=λx=>bz s.js.length x==0) (an c) (λk x O j=>by simp[hq k x O j]) q;generalize l:s.shs[i]=v at *
  have j:s.shs[i]?=some v:=by rw[an c,l]
  have cc:=Vq s v G (l5 v (An j));generalize bz s.js.length v=e at *;by_cases q:e=0
  .subst q
   have F:∀k x,k<i+1->s.shs[k]?=some x->bz s.js.length x=0:=λk x O j=>by simpa using o rfl k x O j
   refine Gz ?_
   all_goals exact F
  .have W:(e !=0)=true:=by simp[q]
   have N:=M q;exact Gy
   all_goals simp[N,q]
 .have X:gu s.js.length s.shs=0:=sD (λk x j=>hq k x (by have:=(th.1 j).1;omega) j)
  rw[X];by_cases V:64<s.sks.length
  .have B:(64:Int)<s.sks.length:=by omega
   exact Gy
  .have B:¬(64:Int)<s.sks.length:=by omega
   cases g:s.sks.all (gF s.js.length)with
   |true=>
    refine Gz ?_;refine WP.loopN [8] s.sks.length (λi st=>st.t 1=.ptr 1 0/\st.h 1=some (.box [.pv (.sl (s.js.map aQ)),.pv (.sl (s.ms.map bb)),.pv (.sl (s.shs.map ba)),.pv (.sl (s.sks.map aK))] true false)/\st.t 38=.pv (.sl (s.sks.map aK))/\st.t 39=.pv (Z s.sks.length)/\st.t 40=.pv (Z i)/\st.h 8=none) (by simp[g1,d,f]) ?_;clear g1 d u y z D f hq c;rintro i st hi ⟨g1,d,I,J,K,f⟩;by_cases c:i<s.sks.length
    .have R:=ae c S
     have P:=L4.1 g _ (Zd c);generalize l:s.sks[i]=v at *
     have j:s.sks[i]?=some v:=by rw[an c,l]
     simp only[gF,up]at P;have c1:=FI s v.1 G;have H:=FI s v.2 G;rw[P.1]at c1;rw[P.2]at H;exact Gy
    .skip
     exact Gy
   |false=>
    refine Gz ?_;refine WP.loopN [8] s.sks.length (λi st=>st.t 1=.ptr 1 0/\st.h 1=some (.box [.pv (.sl (s.js.map aQ)),.pv (.sl (s.ms.map bb)),.pv (.sl (s.shs.map ba)),.pv (.sl (s.sks.map aK))] true false)/\st.t 38=.pv (.sl (s.sks.map aK))/\st.t 39=.pv (Z s.sks.length)/\st.t 40=.pv (Z i)/\st.h 8=none/\∀k x,k<i->s.sks[k]?=some x->gF s.js.length x=true) (by simp[g1,d,f]) ?_;clear g1 d u y z D f hq c;rintro i st hi ⟨g1,d,I,J,K,f,hq⟩;by_cases c:i<s.sks.length
    .have R:=ae c S
     generalize l:s.sks[i]=v at *
     have j:s.sks[i]?=some v:=by rw[an c,l]
     have o:=mZ (p:=gF s.js.length) j hq;have c1:=FI s v.1 G;have H:=FI s v.2 G;have m:gF s.js.length v=(bJ s.js.length v.1&&bJ s.js.length v.2):=rfl
     cases b1:bJ s.js.length v.1 with
     |false=>
      rw[b1]at c1;exact Gy
     |true=>
      rw[b1]at c1 m
      cases Q:bJ s.js.length v.2 with
      |false=>
       rw[Q]at H;exact Gy
      |true=>
       rw[Q]at H m;have E:=o m;refine Gz ?_
       all_goals exact λk a b=>E k (a,b)
    .have:=pJ hq c
     rw[this]at g;cases g
def Cw(i:Nat)(j:J):Prop:=(0<=j.kind/\j.kind<=6)/\-1<=j.parent/\j.parent<(i:Int)
def sE(js:List J):Prop:=∀i j,js[i]?=some j->Cw i j
theorem Kw{j:J}(h:bI js i j=0):Cw i j:=by
 unfold bI at h
 repeat' split at h
 all_goals (try (cases h;done))
 all_goals (try omega)
 refine⟨by omega,by omega,by omega⟩
theorem tw{ms:List Ms}(h:aR js ms=0):sE js/\js.length<=10/\1<=js.length:=by
 unfold aR at h;split at h
 .cases h
 .rename_i l
  split at h
  .rename_i c;exact absurd h c
  .rename_i f
   refine⟨λi j b=>?_,by omega,by omega⟩;have g:=(th.1 b).1
   have a:jd js=0:=by simpa using f
   rw[ta]at a;by_cases d:bI js i j=0
   .exact Kw d
   .exfalso
    cases hf:(js.mapIdx (bI js)).find? (λe=>e !=0)with
    |none=>
     rw[Z2]at hf
     have k:bI js i j∈js.mapIdx (bI js):=by
      rw[List.mem_mapIdx];obtain⟨h1,h2⟩:=th.1 b;exact⟨i,h1,by rw[h2]⟩
     exact hf _ k (by simpa using d)
    |some e=>
     rw[hf]at a;have:=yAv hf;simp only at a;rw[a]at this;simp at this
theorem nu(h:ao s=0):sE s.js/\s.js.length<=10/\1<=s.js.length/\s.shs.length<=24/\s.sks.length<=64/\(∀x∈s.shs,bJ s.js.length x.link=true/\fO x=true)/\∀p∈s.sks,gF s.js.length p=true:=by
 unfold ao at h;split at h
 .rename_i b;exact absurd h b
 .rename_i c
  have c:aR s.js s.ms=0:=by simpa using c
  split at h
  .cases h
  .rename_i h1
   split at h
   .rename_i b;exact absurd h b
   .rename_i h2
    have h2:gu s.js.length s.shs=0:=by simpa using h2
    split at h
    .cases h
    .rename_i h3
     split at h
     .rename_i h4
      obtain⟨a1,d,f⟩:=tw c;refine⟨a1,d,f,by omega,by omega,λx l=>?_,λp hp=>L4.1 h4 p hp⟩
      have a:bz s.js.length x=0:=by
       by_cases a:bz s.js.length x=0
       .exact a
       .exfalso
        unfold gu at h2
        cases hf:(s.shs.map (bz s.js.length)).find? (λe=>e !=0)with
        |none=>
         rw[Z2]at hf;exact hf _ (Zg.2 ⟨x,l,rfl⟩) (by simpa using a)
        |some e=>
         rw[hf]at h2;have:=yAv hf;simp only at h2;rw[h2]at this;simp at this
      unfold bz at a;split at a
      .rename_i hc
       split at a
       .rename_i hn
        simp only[up,Is]at hc;obtain⟨⟨⟨⟨g,c1⟩,i⟩,j⟩,k⟩:=hc;refine⟨g,?_⟩;simp only[fO,up,Is];exact⟨⟨⟨⟨c1,i⟩,j⟩,k⟩,hn⟩
       .cases a
      .cases a
     .cases h
theorem Vr(a b c d:Int):al prog (Op.equal 113 (.agg #[.int .i64 a,.int .i64 b]) (.agg #[.int .i64 c,.int .i64 d]))=some (a==c&&b==d):=by
 have hf:(prog.fieldsOf 113).toList=[(prog.fieldsOf 113)[0]!,(prog.fieldsOf 113)[1]!]:=by kernel_rfl
 show al prog (Op.equalIn (9999+1) 113 _ _)=_;rw[wW 9999 113 _ _ (by kernel_rfl) (by kernel_rfl),hf]
 have h:=pd (P:=prog) (d:=9999) (xs:=#[.int .i64 a,.int .i64 b]) (ys:=#[.int .i64 c,.int .i64 d]) (f:=(prog.fieldsOf 113)[0]!) (fs:=[(prog.fieldsOf 113)[1]!]) (a:=.int .i64 a) (b:=.int .i64 c) (by decide +kernel) (by kernel_rfl) (by kernel_rfl) (qh 9998 _ .i64 .i64 a c (by kernel_rfl))
  (pd (by decide +kernel) (a:=.int .i64 b) (b:=.int .i64 d) (by kernel_rfl) (by kernel_rfl) (qh 9998 _ .i64 .i64 b d (by kernel_rfl)) EO)
 rw[h];simp
def IZ(x y:AV)(fb:Option bP):Option bP:=match yr x,yr y with
 |some (a,b),some (c,d)=>some (.pv (.val (.bool (a==c&&b==d))),[])
 |_,_=>fb
@[simp] theorem Sv(a b c d:Int)(fb:Option bP):IZ (.pv (.val (.agg #[.int .i64 a,.int .i64 b]))) (.pv (.val (.agg #[.int .i64 c,.int .i64 d]))) fb=some (.pv (.val (.bool (a==c&&b==d))),[]):=rfl
@[simp] theorem YP{ty:TypeId}{pos:String}(x y:Operand):
 aV prog ⟨dst,.binOp .eql 113 x y 113,ty,pos,aft,g⟩ ρ=IZ (ρ x) (ρ y) (lD prog ⟨dst,.binOp .eql 113 x y 113,ty,pos,aft,g⟩ ρ):=by
 unfold IZ;split
 .rename_i a b c d e f
  exact ve rfl (A2 e) (A2 f) (by kernel_rfl) (Vr a b c d)
 .rfl
def xD(a b:Int)(p:Int×Int):Bool:=(p.1==a&&p.2==b)||(p.1==b&&p.2==a)
def jP(s:Sce)(a b:Int):Bool:=s.sks.any (xD a b)
theorem Mf{v:α}(h:xs[i]?=some v)(hp:p v=true):xs.any p=true:=yAF.2 ⟨v,An h,hp⟩
theorem Mg(hq:∀k x,k<i->xs[k]?=some x->p x=false)(h:¬i<xs.length):xs.any p=false:=by
 rw[yAx];intro x b;obtain⟨k,a⟩:=Zq b;simp[hq k x (by have:=(th.1 a).1;omega) a]
theorem I0{v:α}(b:xs[i]?=some v)(hq:∀k x,k<i->xs[k]?=some x->p x=false)(hp:p v=false):∀k x,k<i+1->xs[k]?=some x->p x=false:=by
 intro k x c a;by_cases e:k=i
 .subst e;rw[b]at a;injection a with a;subst a;exact hp
 .exact hq k x (by omega) a
theorem Vs(s:Sce)(a b:Int)(u:s.sks.length<=9223372036854775807):gz 234 (aW s) (Z a) (Z b) (B (jP s a b)):=by
 have e:jP s a b=s.sks.any (xD a b):=rfl;rw[e];refine Dp func234 λC hP hN=>?_;refine Gz ?_;refine WP.loopN [8] s.sks.length (λi st=>st.t 1=.pv (Z a)/\st.t 2=.pv (Z b)/\st.t 10=.pv (.sl (s.sks.map aK))/\st.t 11=.pv (Z s.sks.length)/\st.t 12=.pv (Z i)/\st.h 8=none/\∀k x,k<i->s.sks[k]?=some x->xD a b x=false) (by simp) ?_;rintro i st hi ⟨g1,g2,n,o,q,r,hq⟩;by_cases c:i<s.sks.length
 .have z:=ae c u
  generalize g:s.sks[i]=v at *
  have m:s.sks[i]?=some v:=by rw[an c,g]
  have f:=I0 (p:=xD a b) m hq;have l:=Mf (p:=xD a b) m;have hp:xD a b v=((v.1==a&&v.2==b)||(v.1==b&&v.2==a)):=rfl
  cases c1:(v.1==a&&v.2==b)with
  |true=>
   rw[c1,Bool.true_or]at hp;have y:=l hp;exact Gy
  |false=>
   rw[c1,Bool.false_or]at hp
   cases j:(v.1==b&&v.2==a)with
   |true=>
    rw[j]at hp;have y:=l hp;exact Gy
   |false=>
    rw[j]at hp;have d:=f hp;refine Gz ?_
    all_goals exact λk a b=>d k (a,b)
 .have hn:=Mg hq c
  exact Gy
def Vt(L:List Int)(i:Nat)(j:J):Int:=if j.lo=j.hi then(L[(j.parent+1).toNat]?).getD 0 else(i:Int)
def qJ(js:List J):Nat->List Int
 |0=>[-1]
 |i+1=>match js[i]? with
  |some j=>qJ js i++[Vt (qJ js i) i j]
  |none=>qJ js i
def kl(js:List J):List Int:=qJ js js.length
theorem sF{js:List J}:∀i,i<=js.length->(qJ js i).length=i+1
 |0,_=>rfl
 |i+1,h=>by
  have a:i<js.length:=by omega
  have ih:=sF (js:=js) i (by omega);simp only[qJ,an a,Zb,ih,ZR]
theorem sG{js:List J}{k:Nat}:∀i,k<=i->i<=js.length->∀q,q<=k->(qJ js i)[q]?=(qJ js k)[q]?
 |0,h1,h2,q,hq=>by have:k=0:=by omega
                   subst this;rfl
 |i+1,h1,h2,q,hq=>by
  by_cases e:k=i+1
  .subst e;rfl
  .have a:i<js.length:=by omega
   rw[<-sG i (by omega) (by omega) q hq];simp only[qJ,an a];rw[YT (by rw[sF i (by omega)];omega)]
theorem HB{j:J}(b:js[i]?=some j)(e:Cw i j):(kl js)[i+1]?=some (if j.lo=j.hi then((kl js)[(j.parent+1).toNat]?).getD 0 else(i:Int)):=by
 have f:=(th.1 b).1;obtain⟨_,g,l⟩:=e;have c:(kl js)[i+1]?=(qJ js (i+1))[i+1]?:=sG js.length (k:=i+1) (by omega) (Y0 _) _ (Y0 _);have d:(kl js)[(j.parent+1).toNat]?=(qJ js i)[(j.parent+1).toNat]?:=sG js.length (k:=i) (by omega) (Y0 _) _ (by omega);rw[c,d];have a:=sF (js:=js) i (by omega);simp only[qJ,b];rw[YX (by omega),a,yAD];rfl
theorem Vu(js:List J)(ms:List Ms)(O:sE js)(W:js.length<=10):aT 233 (eS js ms) (zs (kl js)):=by
 have Q:(kl js).length=js.length+1:=sF _ (Y0 _);have u:(kl js)[0]?=some (-1):=sG js.length (k:=0) (by omega) (Y0 _) 0 (Y0 _);have A:=λi j(h:js[i]?=some j)=>HB h (O i j h);generalize kl js=f at *;have w1:i64.wrap ((js.length:Int)+1)=((js.length+1:Nat):Int):=(aa (by omega) (by omega)).trans (by omega);refine Dp func233 λC hP hN=>?_;refine GT (go w1 (show(8:Int)*((js.length:Int)+1)<=281474976710656 by omega) (show(js.length:Int)+1<=9223372036854775807 by omega) (show(0:Int)<=(js.length:Int)+1 by omega)) ?_;refine WP.loopN [5] js.length (λi st=>∃R:List Int,st.t 3=.arr 10 (js.length+1)/\st.t 14=.pv (.sl (js.map aQ))/\st.t 15=.pv (Z js.length)/\st.t 16=.pv (Z i)/\st.h 5=none/\st.h 10=some (.row 3 1 (R.map Z) 0)/\R.length=js.length+1/\∀k,k<=i->R[k]?=f[k]?) ?_ ?_
 .refine⟨(List.replicate (js.length+1) 0).set 0 (-1),?_⟩
  simp[u,yAl,List.map_replicate]
 rintro i st hi ⟨R,g3,q,r,s,B,g,a,v⟩;by_cases d:i<js.length
 .have U:=ae d (by omega)
  generalize o:js[i]=j at *
  have L:js[i]?=some j:=by rw[an d,o]
  have ha:=A i j L;obtain⟨_,S,T⟩:=O i j L;obtain⟨p,hp⟩:∃p:Nat,j.parent+1=p:=⟨(j.parent+1).toNat,by omega⟩;have V:i64.wrap (j.parent+1)=(p:Int):=(aa (by omega) (by omega)).trans hp
  have m:p<=i:=by omega
  have H:p<R.length:=by omega
  have c:i+1<R.length:=by omega
  have b:R[p]?=some R[p]:=an H;have z:R[i+1]?=some R[i+1]:=an c
  have K:((i:Int)+1).toNat=i+1:=by omega
  have E:(0:Int)<=(i:Int)+1:=by omega
  rw[hp]at ha
  have I:f[p]?=some R[p]:=by rw[<-v p m];exact b
  rw[Y9,I,Y8]at ha;generalize R[p]=N at *
  have key:∀x,f[i+1]?=some x->∀k,k<=i+1->(R.set (i+1) x)[k]?=f[k]?:=by
   intro x M k P;rw[Y1];by_cases e:i+1=k
   .subst e;rw[YY rfl,YY c,M]
   .rw[YR e];exact v k (by omega)
  have n:((R.map Z).set (i+1) (Z (i:Int)))[p]?=some (Z N):=by rw[Y1,YR (by omega),YS,b];rfl
  have F:∀h,((R.map Z).set (i+1) (Z (i:Int)))[p]'h=Z N:=λh=>by
   have:=an h;rw[n]at this;injection this with this;exact this.symm
  by_cases l:j.lo=j.hi
  .rw[YY l]at ha
   have D:(j.lo==j.hi)=true:=by simp[l]
   with_reducible repeat' (first|refine Sp.h ?_|((first|refine Ss.h ?_|(refine Sb.h ?_ ?_ ?_<;>(try intro hgd)<;>try exact Xy))<;>simp -implicitDefEqProofs (maxSteps:=2000000) [hP,hN,g3,q,r,s,B,g,d,U,L,o,a,c,m,V,l,z,K,E,b,n,F,show p<js.length+1 by omega])|refine X2 ?_ ?_|(refine Xd ?_ ?_<;>intro hcd<;>try exact Xx))
   all_goals exact⟨R.set (i+1) N,by simp[yAl],by simp[a],key _ ha⟩
  .rw[YR l]at ha
   have D:(j.lo==j.hi)=false:=by simp[l]
   refine Gz ?_
   all_goals exact⟨R.set (i+1) (i:Int),by simp[yAl],by simp[a],key _ ha⟩
 .have G:i=js.length:=by omega
  subst G
  have y:R=f:=by
   apply Zx;intro k;by_cases P:k<=js.length
   .exact v k P
   .rw[Y2 (by omega),Y2 (by omega)]
  subst y;exact Gy
def uC(h:Sh):Nat:=(h.link+1).toNat
def Cy(c:List Int)(a b:Sh):Bool:=(c[uC a]?).getD 0==(c[uC b]?).getD 0
def D5(s:Sce)(a b:Sh):Bool:=!Cy (kl s.js) a b&& !jP s a.link b.link
def fP(s:Sce)(i q:Nat):Bool:=match s.shs[i]?,s.shs[q]? with
 |some a,some b=>D5 s a b
 |_,_=>false
def kF(s:Sce)(i:Nat):Nat->List (Nat×Nat)
 |0=>[]
 |k+1=>kF s i k++(if i<k/\fP s i k=true then[(i,k)]else[])
def ji(s:Sce):Nat->List (Nat×Nat)
 |0=>[]
 |i+1=>ji s i++kF s i s.shs.length
def cy(s:Sce):List (Nat×Nat):=if ao s=0 then ji s s.shs.length else[]
abbrev rj(p:Nat×Nat):PV:=.val (.agg #[.int .i64 (p.1:Int),.int .i64 (p.2:Int)])
theorem Cz(s:Sce)(i:Nat):∀k,k<=i+1->kF s i k=[]
 |0,_=>rfl
 |k+1,h=>by
  have:¬i<k:=by omega
  simp[kF,Cz s i k (by omega),this]
theorem yL(s:Sce)(i:Nat):∀k,(kF s i k).length<=k
 |0=>Y0 _
 |k+1=>by
  have:=yL s i k;simp only[kF,Zb];split<;>simp<;>omega
theorem yM(s:Sce):∀i,(ji s i).length<=i*s.shs.length
 |0=>by simp[ji]
 |i+1=>by
  have:=yM s i;have:=yL s i s.shs.length;simp only[ji,Zb,Zz];omega
theorem Mh{h:Sh}(b:bJ s.js.length h.link=true):∃x,(kl s.js)[uC h]?=some x/\uC h<(kl s.js).length/\h.link+1=(uC h:Int)/\h.link<s.js.length:=by
 simp only[bJ,up,Is]at b;have c:(kl s.js).length=s.js.length+1:=sF _ (Y0 _)
 have a:uC h<(kl s.js).length:=by unfold uC;omega
 exact⟨_,an a,a,by unfold uC;omega,b.2⟩
theorem Vv(s:Sce)(hs:ScL s):aT 206 (aW s) (.sl ((cy s).map rj)):=by
 have cc:=HA s hs;by_cases L:ao s=0
 case neg=>
  have hf:cy s=[]:=by simp[cy,L]
  have a8:(ao s !=0)=true:=by simp[L]
  rw[hf];generalize ao s=r at *;refine Dp func206 λC hP hN=>?_;exact Gy
 have hf:cy s=ji s s.shs.length:=by simp[cy,L]
 rw[hf];rw[L]at cc;obtain⟨v1,v2,v3,v4,v5,v6,v7⟩:=nu L;have cr:=Vu s.js s.ms v1 v2;have T:=λa b=>Vs s a b hs.sks;have N:=λh(hh:h∈s.shs)=>Mh (s:=s) (v6 h hh).1;have ak:∀a b:Sh,D5 s a b=(!Cy (kl s.js) a b&& !jP s a.link b.link):=λ_ _=>rfl;generalize kl s.js=K at *;have nL:=yM s;have iL:=yL s;refine Dp func206 λC hP hN=>?_;refine kp [4] trivial ?_;refine WP.loopN [6,8] s.shs.length (λi st=>st.t 1=.ptr 1 0/\st.h 1=some (.box [.pv (.sl (s.js.map aQ)),.pv (.sl (s.ms.map bb)),.pv (.sl (s.shs.map ba)),.pv (.sl (s.sks.map aK))] true false)/\st.t 3=.pv (zs K)/\st.t 17=.pv (.sl (s.shs.map ba))/\st.t 18=.pv (Z s.shs.length)/\st.t 19=.pv (Z i)/\st.h 6=none/\st.h 8=none/\st.t 4=.arr 4 (ji s i).length/\st.h 4=some (.row 215 2 ((ji s i).map rj) 0)) (by simp[ji]) ?_;rintro i st hi ⟨g1,l,g3,f,g,j,m,n,g4,c⟩;by_cases O:i<s.shs.length
 .have hw:=ae O (by omega)
  generalize a6:s.shs[i]=a at *
  have hx:s.shs[i]?=some a:=by rw[an O,a6]
  obtain⟨xa,p,A,M,bq⟩:=N a (An hx)
  have D:∀h,K[uC a]'h=xa:=λh=>by have:=an h;rw[p]at this;injection this with this;exact this.symm
  have G:ji s (i+1)=ji s i++kF s i s.shs.length:=rfl;have b7:=nL i;have b5:i*s.shs.length<=24*24:=yAa (by omega) (by omega);have H:i64.wrap (a.link+1)=(uC a:Int):=(aa (by omega) (by omega)).trans M;have b2:a.link+1=(uC a:Int):=M;refine Gz ?_;refine WP.loopN [8] (s.shs.length-(i+1)) (λq st=>st.t 1=.ptr 1 0/\st.h 1=some (.box [.pv (.sl (s.js.map aQ)),.pv (.sl (s.ms.map bb)),.pv (.sl (s.shs.map ba)),.pv (.sl (s.sks.map aK))] true false)/\st.t 3=.pv (zs K)/\st.t 17=.pv (.sl (s.shs.map ba))/\st.t 18=.pv (Z s.shs.length)/\st.t 19=.pv (Z i)/\st.t 5=.pv (Z i)/\st.t 6=.ptr 6 0/\st.h 6=some (.box [.pv (Z a.link),.pv (Z a.rad),.pv (aB a.pts)] true false)/\st.h 8=none/\st.t 7=.pv (Z ((i+1+q:Nat):Int))/\st.t 4=.arr 4 (ji s i++kF s i (i+1+q)).length/\st.h 4=some (.row 215 2 ((ji s i++kF s i (i+1+q)).map rj) 0)) (by simp[g1,l,g3,f,g,j,m,n,g4,c,Cz]) ?_;clear g1 l g3 f g j m n g4 c;rintro q st hq ⟨g1,l,g3,f,g,j,g5,U,m,n,R,g4,c⟩;obtain⟨k,hk⟩:∃k,k=i+1+q:=⟨_,rfl⟩
  have ah:i+1+(q+1)=k+1:=by omega
  rw[<-hk]at R g4 c;rw[ah];have V:kF s i (k+1)=kF s i k++(if i<k/\fP s i k=true then[(i,k)]else[]):=rfl;have b4:=iL i k;by_cases x:k<s.shs.length
  .have e:(k:Int)<(s.shs.length:Int):=by omega
   have J:i64.wrap ((k:Int)+1)=(k:Int)+1:=aa;generalize y:s.shs[k]=b at *
   have Q:s.shs[k]?=some b:=by rw[an x,y]
   obtain⟨xb,u,B,X,b3⟩:=N b (An Q)
   have E:∀h,K[uC b]'h=xb:=λh=>by have:=an h;rw[u]at this;injection this with this;exact this.symm
   have I:i64.wrap (b.link+1)=(uC b:Int):=(aa (by omega) (by omega)).trans X
   have o:fP s i k=(!Cy K a b&& !jP s a.link b.link):=by simp only[fP,hx,Q,ak]
   have ar:Cy K a b=(xa==xb):=by simp only[Cy,p,u,Y8]
   rw[ar]at o;have S:=T a.link b.link
   have Y:i<k:=by omega
   have a7:(ji s i++kF s i k).length<=1000:=by simp only[Zb];omega
   generalize z:ji s i++kF s i k=P at *
   have F:q<s.shs.length-(i+1):=by omega
   have W:ji s i++kF s i (k+1)=P++(if fP s i k=true then[(i,k)]else[]):=by
    rw[V,<-List.append_assoc,z];simp[Y]
   rw[W];generalize jP s a.link b.link=sk at *
   cases v:(xa==xb)with
   |true=>
    rw[v]at o
    have d:fP s i k=false:=by rw[o];rfl
    rw[d]
    with_reducible repeat' (first|refine Sp.h ?_|((first|refine Wd ?_|refine Ss.h ?_|refine Sc.h (S) ?_|(refine Sb.h ?_ ?_ ?_<;>(try intro hgd)<;>try exact Xy))<;>simp -implicitDefEqProofs (maxSteps:=2000000) [hP,hN,g1,l,g3,f,g,j,g5,U,m,n,R,g4,c,x,e,J,Q,y,H,I,p,A,u,B,D,E,v,F]<;>try refine Ya ?_)|refine X2 ?_ ?_|(refine Xd ?_ ?_<;>intro hcd<;>try exact Xx))
   |false=>
    rw[v]at o
    cases sk with
    |true=>
     have d:fP s i k=false:=by rw[o];rfl
     rw[d]
     with_reducible repeat' (first|refine Sp.h ?_|((first|refine Wd ?_|refine Ss.h ?_|refine Sc.h (S) ?_|(refine Sb.h ?_ ?_ ?_<;>(try intro hgd)<;>try exact Xy))<;>simp -implicitDefEqProofs (maxSteps:=2000000) [hP,hN,g1,l,g3,f,g,j,g5,U,m,n,R,g4,c,x,e,J,Q,y,H,I,p,A,u,B,D,E,v,F]<;>try refine Ya ?_)|refine X2 ?_ ?_|(refine Xd ?_ ?_<;>intro hcd<;>try exact Xx))
    |false=>
     have d:fP s i k=true:=by rw[o];rfl
     rw[d]
     with_reducible repeat' (first|refine Sp.h ?_|((first|refine Wd ?_|refine Ss.h ?_|refine Sc.h (S) ?_|(refine Sb.h ?_ ?_ ?_<;>(try intro hgd)<;>try exact Xy))<;>simp -implicitDefEqProofs (maxSteps:=2000000) [hP,hN,g1,l,g3,f,g,j,g5,U,m,n,R,g4,c,x,e,J,Q,y,H,I,p,A,u,B,D,E,v,F,show(P.length+1)*16<=140737488355328 by omega,show P.length<=9223372036854775806 by omega]<;>try refine Ya ?_)|refine X2 ?_ ?_|(refine Xd ?_ ?_<;>intro hcd<;>try exact Xx))
  .have aj:k=s.shs.length:=by omega
   have e:¬(k:Int)<(s.shs.length:Int):=by omega
   rw[aj,<-G]at g4 c;exact Gy
 .have ad:i=s.shs.length:=by omega
  subst ad;exact Gy
theorem Vw(x:Int×Int):aT 272 (aK x) (B (!aO x.1 x.2)):=by
 refine Dp func272 λC hP hN=>?_;have a:=@j9;exact GS trivial
 all_goals (first|(simp_all;done)|((try simp_all)<;>(try omega)<;>grind))
def jQ(js:List J)(bx:List Iv):Bool:=decide (bx.length=js.length)&&bE vI bx
theorem Vx(js:List J)(ms:List Ms)(bx:List Iv)(e:js.length<=9223372036854775807)(a:bx.length<=9223372036854775807):aH 235 (eS js ms) (iv bx) (B (jQ js bx)):=by
 have b:=TS 272 (λx=>!aO x.1 x.2) bx a Vw;have ha:(bx.any λx=>!aO x.1 x.2)=!bE vI bx:=Ha vI bx;rw[ha]at b;have hd:jQ js bx=(decide (bx.length=js.length)&&bE vI bx):=rfl;rw[hd];generalize bE vI bx=c at *;by_cases h:bx.length=js.length
 .have d:((bx.length:Int)==(js.length:Int))=true:=by simp[h]
  cases c
  all_goals
   refine Dp func235 λC hP hN=>?_;exact Gy
 .have d:((bx.length:Int)==(js.length:Int))=false:=by simp;omega
  refine Dp func235 λC hP hN=>?_;exact Gy
def zP:oI:=((((0,0),(0,0),(0,0)),((0,0),(0,0),(0,0)),((0,0),(0,0),(0,0))),((0,0),(0,0),(0,0)))
def I1(L:List oI)(j:J)(v:Iv):oI:=if j.parent=-1 then mw j v else oJ ((L[j.parent.toNat]?).getD zP) (mw j v)
def jR(js:List J)(bx:List Iv):Nat->List oI
 |0=>[]
 |i+1=>match js[i]?,bx[i]? with
  |some j,some v=>jR js bx i++[I1 (jR js bx i) j v]
  |_,_=>jR js bx i
def gS(js:List J)(bx:List Iv):List oI:=jR js bx js.length
theorem km{js:List J}{bx:List Iv}(hb:bx.length=js.length):∀i,i<=js.length->(jR js bx i).length=i
 |0,_=>rfl
 |i+1,h=>by
  have b:i<js.length:=by omega
  have a:i<bx.length:=by omega
  have ih:=km hb i (by omega);simp only[jR,an b,an a,Zb,ih,ZR]
theorem vL{js:List J}{bx:List Iv}(hb:bx.length=js.length){k:Nat}:∀i,k<=i->i<=js.length->∀q,q<k->(jR js bx i)[q]?=(jR js bx k)[q]?
 |0,h1,h2,q,hq=>by omega
 |i+1,h1,h2,q,hq=>by
  by_cases e:k=i+1
  .subst e;rfl
  .have b:i<js.length:=by omega
   have a:i<bx.length:=by omega
   rw[<-vL hb i (by omega) (by omega) q hq];simp only[jR,an b,an a];rw[YT (by rw[km hb i (by omega)];omega)]
theorem FJ(hb:bx.length=js.length){j:J}{v:Iv}(c:js[i]?=some j)(n:bx[i]?=some v)(f:Cw i j):(gS js bx)[i]?=some (if j.parent=-1 then mw j v else oJ (((gS js bx)[j.parent.toNat]?).getD zP) (mw j v)):=by
 have g:=(th.1 c).1;obtain⟨_,l,m⟩:=f;have d:(gS js bx)[i]?=(jR js bx (i+1))[i]?:=vL hb js.length (k:=i+1) (by omega) (Y0 _) _ (by omega);rw[d];have a:=km hb i (by omega);simp only[jR,c,n];rw[YX (by omega),a,yAD];show some (I1 (jR js bx i) j v)=_;unfold I1;by_cases b:j.parent=-1
 .rw[YY b,YY b]
 .rw[YR b,YR b]
  have e:(gS js bx)[j.parent.toNat]?=(jR js bx i)[j.parent.toNat]?:=vL hb js.length (k:=i) (by omega) (Y0 _) _ (by omega);rw[e]
theorem OC:bw zP=.val (.agg #[.int .i64 0,.int .i64 0,.int .i64 0,.int .i64 0,.int .i64 0,.int .i64 0,.int .i64 0,.int .i64 0,.int .i64 0,.int .i64 0,.int .i64 0,.int .i64 0,.int .i64 0,.int .i64 0,.int .i64 0,.int .i64 0,.int .i64 0,.int .i64 0,.int .i64 0,.int .i64 0,.int .i64 0,.int .i64 0,.int .i64 0,.int .i64 0]):=rfl
theorem OD:bh aY=.val (.agg #[.int .i64 0,.int .i64 0,.int .i64 0,.int .i64 0,.int .i64 0,.int .i64 0]):=rfl
theorem qq{R:List PV}{k:Nat}{x:PV}(h:R[k]?=some x):∀a,R[k]'a=x:=λa=>by
 have:=an a;rw[h]at this;injection this with this;exact this.symm
set_option maxRecDepth 4000 in
theorem Vy(js:List J)(ms:List Ms)(bx:List Iv)(hj:sE js)(hl:js.length<=10)(hb:bx.length=js.length):aH 236 (eS js ms) (iv bx) (.sl ((gS js bx).map bw)):=by
 have S:(gS js bx).length=js.length:=km hb _ (Y0 _);have W:=λi j v(h1:js[i]?=some j)(h2:bx[i]?=some v)=>FJ hb h1 h2 (hj i j h1);generalize gS js bx=l at *;generalize E:l.map bw=z at *
 have b2:z.length=js.length:=by rw[<-E];simpa using S
 have G:∀k p,l[k]?=some p->z[k]?=some (bw p):=λk p h=>by rw[<-E,YS,h];rfl
 refine Dp func236 λC hP hN=>?_;refine GT (gA (show(192:Int)*(js.length:Int)<=281474976710656 by omega) (show(js.length:Int)<=9223372036854775807 by omega)) ?_;refine WP.loopN [7] js.length (λi st=>∃R:List PV,st.t 1=.pv (iv bx)/\st.t 5=.arr 11 js.length/\st.t 13=.pv (.sl (js.map aQ))/\st.t 14=.pv (Z js.length)/\st.t 15=.pv (Z i)/\st.h 7=none/\st.h 11=some (.row 277 24 R 0)/\R.length=js.length/\(∀k,i<=k->k<js.length->R[k]?=some (bw zP))/\∀k,k<i->R[k]?=z[k]?) ?_ ?_
 .refine⟨List.replicate js.length (bw zP),?_⟩
  rw[OC];simp
  try (intro k P;first|exact P|simp[Zk,P])
 rintro i st hi ⟨R,g1,g5,A,B,D,I,g,c,H,T⟩;by_cases d:i<js.length
 .have hw:=ae d (by omega)
  generalize s:js[i]=j at *
  have Q:js[i]?=some j:=by rw[an d,s]
  have f:i<bx.length:=by omega
  generalize r:bx[i]=v at *
  have hv:bx[i]?=some v:=by rw[an f,r]
  obtain⟨⟨Y,ad⟩,b3,b4⟩:=hj i j Q;have cj:=Vo (a:=v.1) (b:=v.2) j Y ad;have ha:=W i j v Q hv;have m:=H i (Y0 _) d;have K:=qq m
  have L:i<R.length:=by omega
  generalize hq:mw j (v.1,v.2)=q at *
  have key:∀x,l[i]?=some x->(∀k,i+1<=k->k<js.length->(R.set i (bw x))[k]?=some (bw zP))/\∀k,k<i+1->(R.set i (bw x))[k]?=z[k]?:=by
   intro x bq;refine⟨λk h1 h2=>?_,λk h1=>?_⟩
   .rw[Y1,YR (by omega)];exact H k (by omega) h2
   .rw[Y1]
    by_cases e:i=k
    .subst e;rw[YY rfl,YY L,G i x bq]
    .rw[YR e];exact T k (by omega)
  have N:(R.set i (bw q))[i]?=some (bw q):=by rw[Y1,YY rfl,YY L]
  have a6:=qq N;have a7:∀y,(R.set i (bw q)).set i y=R.set i y:=λy=>List.set_set ..;by_cases u:j.parent=-1
  .rw[YY u]at ha
   obtain⟨k1,k2⟩:=key q ha
   have n:(j.parent==-1)=true:=by simp[u]
   have o:(j.parent != -1)=false:=by simp[u]
   refine GT (zAc g1 g5 A B D I g c d f hw Q s hv (it r m K n o)) ?_
   all_goals first|exact⟨_,rfl,by simp[c],k1,k2⟩|exact⟨k1,k2⟩|exact⟨by simp[c],k1,k2⟩|exact k2
  .rw[YR u]at ha
   obtain⟨p,hp⟩:∃p:Nat,j.parent=p:=⟨j.parent.toNat,by omega⟩
   have n:(j.parent==-1)=false:=by simp[u]
   have o:(j.parent != -1)=true:=by simp[u]
   have ah:(0:Int)<=j.parent:=by omega
   have M:j.parent.toNat=p:=by omega
   have aj:p<i:=by omega
   have ar:p<l.length:=by omega
   have F:l[p]?=some l[p]:=an ar;rw[M,F,Y8]at ha;have V:=(T p aj).trans (G p _ F);generalize l[p]=pp at *;obtain⟨k1,k2⟩:=key _ ha
   have O:(R.set i (bw q))[p]?=some (bw pp):=by rw[Y1,YR (by omega)];exact V
   have a8:=qq O
   have ak:p<js.length:=by omega
   have q1:=@xA;refine GT (zAc g1 g5 A B D I g c d f hw Q s hv (zAb r m K ah M n o N a6 a7 O (gA a8 ak))) ?_
   all_goals first|exact⟨_,rfl,by simp[c],k1,k2⟩|exact⟨k1,k2⟩|exact⟨by simp[c],k1,k2⟩|exact k2
 .have X:i=js.length:=by omega
  subst X
  have U:R=z:=by
   apply Zx;intro k;by_cases P:k<js.length
   .exact T k P
   .rw[Y2 (by omega),Y2 (by omega)]
  subst U;exact Gy
def dE(h:Sh)(p:oI):List aq:=h.pts.map λq=>ik p (dq q)
set_option maxRecDepth 4000 in
theorem Vz(h:Sh)(p:oI)(hs:fO h=true):aH 238 (ba h) (bw p) (aD (dE h p)):=by
 have H:1<=h.pts.length/\h.pts.length<=8:=by
  simp only[fO,up,Is]at hs;obtain⟨⟨⟨_,J⟩,K⟩,_⟩:=hs;exact⟨J,K⟩
 have L:=Vp h (by omega);rw[hs]at L;have D:dE h p=h.pts.map λq=>ik p (dq q):=rfl;rw[D];generalize a:(h.pts.map λq=>ik p (dq q)).map bh=f
 have M:f.length=h.pts.length:=by rw[<-a];simp
 have g:∀k q,h.pts[k]?=some q->f[k]?=some (bh (ik p (dq q))):=λk q d=>by rw[<-a,YS,YS,d];rfl
 refine Dp func238 λC hP hN=>?_;refine GT (gA (show(48:Int)*(h.pts.length:Int)<=281474976710656 by omega) (show(h.pts.length:Int)<=9223372036854775807 by omega)) ?_;refine WP.loopN [7] h.pts.length (λi st=>∃R:List PV,st.t 3=.ptr 3 0/\st.h 3=some (.box [.pv (Z p.1.1.1.1),.pv (Z p.1.1.1.2),.pv (Z p.1.1.2.1.1),.pv (Z p.1.1.2.1.2),.pv (Z p.1.1.2.2.1),.pv (Z p.1.1.2.2.2),.pv (Z p.1.2.1.1.1),.pv (Z p.1.2.1.1.2),.pv (Z p.1.2.1.2.1.1),.pv (Z p.1.2.1.2.1.2),.pv (Z p.1.2.1.2.2.1),.pv (Z p.1.2.1.2.2.2),.pv (Z p.1.2.2.1.1),.pv (Z p.1.2.2.1.2),.pv (Z p.1.2.2.2.1.1),.pv (Z p.1.2.2.2.1.2),.pv (Z p.1.2.2.2.2.1),.pv (Z p.1.2.2.2.2.2),.pv (Z p.2.1.1),.pv (Z p.2.1.2),.pv (Z p.2.2.1.1),.pv (Z p.2.2.1.2),.pv (Z p.2.2.2.1),.pv (Z p.2.2.2.2)] true false)/\st.t 5=.arr 14 h.pts.length/\st.t 16=.pv (aB h.pts)/\st.t 17=.pv (Z h.pts.length)/\st.t 18=.pv (Z i)/\st.h 7=none/\st.h 14=some (.row 230 6 R 0)/\R.length=h.pts.length/\(∀k,i<=k->k<h.pts.length->R[k]?=some (bh aY))/\∀k,k<i->R[k]?=f[k]?) ?_ ?_
 .refine⟨List.replicate h.pts.length (bh aY),?_⟩
  rw[OD];simp
  try (intro k d;first|exact d|simp[Zk,d])
 rintro i st hi ⟨R,g3,v,g5,o,r,s,x,m,c,l,G⟩;by_cases b:i<h.pts.length
 .have N:=ae b (by omega)
  generalize n:h.pts[i]=q at *
  have I:h.pts[i]?=some q:=by rw[an b,n]
  have j:=l i (Y0 _) b;have z:=qq j
  have A:i<R.length:=by omega
  have F:=Mb q.1 q.2.1 q.2.2;have E:dq (q.1,q.2.1,q.2.2)=dq q:=rfl;rw[E]at F
  have k1:∀y k,i+1<=k->k<h.pts.length->(R.set i y)[k]?=some (bh aY):=λy k h1 h2=>by
   rw[Y1,YR (by omega)];exact l k (by omega) h2
  have k2:∀k,k<i+1->(R.set i (bh (ik p (dq q))))[k]?=f[k]?:=λk h1=>by
   rw[Y1];by_cases e:i=k
   .subst e;rw[YY rfl,YY A,g i q I]
   .rw[YR e];exact G k (by omega)
  clear g a;generalize dq q=O at *
  with_reducible repeat' (first|refine Sp.h ?_|((first|refine Wd ?_|refine Ss.h ?_|refine Sc.h (F) ?_|refine Sc.h (U9) ?_|(refine Sb.h ?_ ?_ ?_<;>(try intro hgd)<;>try exact Xy))<;>simp -implicitDefEqProofs (maxSteps:=2000000) [hP,hN,g3,v,g5,o,r,s,x,m,c,b,N,I,n,j,z]<;>try refine Ya ?_)|refine X2 ?_ ?_|(refine Xd ?_ ?_<;>intro hcd<;>try exact Xx))
  all_goals first|exact⟨_,rfl,by simp[c],k1 _,k2⟩|exact⟨k1 _,k2⟩|exact⟨by simp[c],k1 _,k2⟩|exact k2
 .have B:i=h.pts.length:=by omega
  subst B
  have u:R=f:=by
   apply Zx;intro k;by_cases d:k<h.pts.length
   .exact G k d
   .rw[Y2 (by omega),Y2 (by omega)]
  subst u;exact Gy
  all_goals (rw[<-a];simp)
def gT(a:List oI)(h:Sh):oI:=if h.link=-1 then gm else(a[h.link.toNat]?).getD zP
def eR(s:Sce)(bx:List Iv):List (List aq):=s.shs.map λh=>dE h (gT (gS s.js bx) h)
theorem vM:jQ js bx=true↔bx.length=js.length/\bE vI bx=true:=by simp[jQ]
set_option maxRecDepth 4000 in
theorem VA(s:Sce)(bx:List Iv)(hs:ScL s)(X:ao s=0)(H:jQ s.js bx=true):aH 207 (aW s) (iv bx) (.sl ((eR s bx).map aD)):=by
 have cc:=HA s hs;rw[X]at cc;obtain⟨v1,v2,v3,v4,v5,v6,v7⟩:=nu X;have G:=(vM.1 H).1;have cb:=Vx s.js s.ms bx hs.js (by omega);rw[H]at cb;have cl:=Vy s.js s.ms bx v1 v2 G;have ad:(gS s.js bx).length=s.js.length:=km G _ (Y0 _);have J:eR s bx=s.shs.map λh=>dE h (gT (gS s.js bx) h):=rfl;rw[J];generalize gS s.js bx=a at *;generalize d:(s.shs.map λh=>dE h (gT a h)).map aD=u
 have ah:u.length=s.shs.length:=by rw[<-d];simp
 have B:∀k h,s.shs[k]?=some h->u[k]?=some (aD (dE h (gT a h))):=λk q r=>by rw[<-d,YS,YS,r];rfl
 refine Dp func207 λC hP hN=>?_;refine GT (gA (show(24:Int)*(s.shs.length:Int)<=281474976710656 by omega) (show(s.shs.length:Int)<=9223372036854775807 by omega)) ?_;refine WP.loopN [8,9] s.shs.length (λi st=>∃R:List PV,st.t 5=.pv (.sl (a.map bw))/\st.t 6=.arr 27 s.shs.length/\st.t 29=.pv (.sl (s.shs.map ba))/\st.t 30=.pv (Z s.shs.length)/\st.t 31=.pv (Z i)/\st.h 8=none/\st.h 9=none/\st.h 27=some (.row 176 1 R 0)/\R.length=s.shs.length/\(∀k,i<=k->k<s.shs.length->R[k]?=some (.val (.slice none 0 0)))/\∀k,k<i->R[k]?=u[k]?) ?_ ?_
 .refine⟨List.replicate s.shs.length (.val (.slice none 0 0)),?_⟩
  simp
  try (intro k r;first|exact r|simp[Zk,r])
 rintro i st hi ⟨R,g5,W,v,x,z,E,F,f,b,D,Y⟩;by_cases c:i<s.shs.length
 .have hw:=ae c (by omega)
  generalize n:s.shs[i]=h at *
  have L:s.shs[i]?=some h:=by rw[an c,n]
  have hm:=An L;obtain⟨Q,U⟩:=v6 h hm;simp only[bJ,up,Is]at Q;have g:=D i (Y0 _) c;have I:=qq g
  have O:i<R.length:=by omega
  have V:=λp=>Vz h p U
  have k1:∀y k,i+1<=k->k<s.shs.length->(R.set i y)[k]?=some (.val (.slice none 0 0)):=λy k h1 h2=>by
   rw[Y1,YR (by omega)];exact D k (by omega) h2
  have k2:∀k,k<i+1->(R.set i (aD (dE h (gT a h))))[k]?=u[k]?:=λk h1=>by
   rw[Y1];by_cases e:i=k
   .subst e;rw[YY rfl,YY O,B i h L]
   .rw[YR e];exact Y k (by omega)
  clear B d J;by_cases o:h.link=-1
  .have j:(h.link==-1)=true:=by simp[o]
   have l:(h.link != -1)=false:=by simp[o]
   have m:gT a h=gm:=by simp[gT,o]
   rw[m]at k2;have M:=V gm;generalize dE h gm=pl at *;have q1:=@Mc;refine GT (zAc g5 W v x z E F f b c hw L n g (be I j l)) ?_
   all_goals first|exact⟨_,rfl,by simp[b],k1 _,k2⟩|exact⟨k1 _,k2⟩|exact⟨by simp[b],k1 _,k2⟩|exact k2
  .have j:(h.link==-1)=false:=by simp[o]
   have l:(h.link != -1)=true:=by simp[o]
   have S:(0:Int)<=h.link:=by omega
   obtain⟨p,hp⟩:∃p:Nat,h.link.toNat=p:=⟨_,rfl⟩
   have K:p<a.length:=by omega
   have A:a[p]?=some a[p]:=an K
   have m:gT a h=a[p]:=by simp only[gT,YR o,hp,A,Y8]
   have aj:∀hh,a[p]'hh=a[p]:=λ_=>rfl;rw[m]at k2;generalize T:a[p]=pp at *;have M:=V pp;generalize dE h pp=pl at *;have q1:=@Mc;refine GT (zAc g5 W v x z E F f b c hw L n g (s7 I j l S hp K A T)) ?_
   all_goals first|exact⟨_,rfl,by simp[b],k1 _,k2⟩|exact⟨k1 _,k2⟩|exact⟨by simp[b],k1 _,k2⟩|exact k2
 .have P:i=s.shs.length:=by omega
  subst P
  have N:R=u:=by
   apply Zx;intro k;by_cases r:k<s.shs.length
   .exact Y k r
   .rw[Y2 (by omega),Y2 (by omega)]
  subst N;exact Gy
  all_goals (rw[<-d];simp)
def tx(v:aq)(k:Nat):Vc:=(if 0<k then l6 v.1 else 0,if 1<k then l6 v.2.1 else 0,if 2<k then l6 v.2.2 else 0)
theorem CA(l:List aq)(Q:l.length<=9223372036854775807):aT 170 (aD l) (aB (aw l)):=by
 have N:=vK l Q
 cases hp:au l with
 |false=>
  have hc:aw l=[]:=by simp[aw,hp]
  rw[hc];rw[hp]at N;refine Dp func170 λC hP hN=>?_;exact Gy
 |true=>
 have hc:aw l=l.map i6:=by simp[aw,hp]
 rw[hc];rw[hp]at N;simp only[au,up,Is]at hp;obtain⟨⟨S,T⟩,U⟩:=hp;generalize z:(l.map i6).map ai=B
 have P:B.length=l.length:=by rw[<-z];simp
 have D:∀k h,l[k]?=some h->B[k]?=some (ai (i6 h)):=λk q u=>by rw[<-z,YS,YS,u];rfl
 refine Dp func170 λC hP hN=>?_;refine GT (gA (show(24:Int)*(l.length:Int)<=281474976710656 by omega) (show(l.length:Int)<=9223372036854775807 by omega)) ?_;refine WP.loopN [5,7] l.length (λi st=>∃R:List PV,st.t 3=.arr 13 l.length/\st.t 14=.pv (aD l)/\st.t 15=.pv (Z l.length)/\st.t 16=.pv (Z i)/\st.h 5=none/\st.h 7=none/\st.h 13=some (.row 60 3 R 0)/\R.length=l.length/\(∀k,i<=k->k<l.length->R[k]?=some (ol 0 0 0))/\∀k,k<i->R[k]?=B[k]?) ?_ ?_
 .refine⟨List.replicate l.length (ol 0 0 0),?_⟩
  simp
  try (intro k u;first|exact u|simp[Zk,u])
 rintro i st hi ⟨R,g3,g,j,m,F,n,f,K,E,O⟩;by_cases o:i<l.length
 .have W:=ae o (by omega)
  generalize M:l[i]=v at *
  have V:l[i]?=some v:=by rw[an o,M]
  have J:=E i (Y0 _) o;have H:=D i v V;clear D;refine Gz ?_;refine WP.loopN [7] 3 (λk st=>∃p:List PV,st.t 3=.arr 13 l.length/\st.t 4=.pv (Z i)/\st.t 14=.pv (aD l)/\st.t 15=.pv (Z l.length)/\st.t 16=.pv (Z i)/\st.t 21=.pv (bh v)/\st.t 22=.pv (Z k)/\st.h 7=none/\st.h 13=some (.row 60 3 p 0)/\p.length=l.length/\p[i]?=some (ol (tx v k).1 (tx v k).2.1 (tx v k).2.2)/\∀q,q≠i->p[q]?=R[q]?) ?_ ?_
  .refine⟨R,?_⟩
   simp[g3,g,j,m,F,n,f,K,J,tx]
  clear g3 g j m F n f;rintro k st u ⟨p,g3,g4,g,j,m,x,r,n,f,c,d,A⟩;have s:=qq d
  have G:i<p.length:=by omega
  have b:∀y,(p.set i y)[i]?=some y:=λy=>by rw[Y1,YY rfl,YY G]
  have a:∀y q,q≠i->(p.set i y)[q]?=R[q]?:=λy q hq=>by rw[Y1,YR (λe=>hq e.symm)];exact A q hq
  rcases dC u with rfl|rfl|rfl|rfl
  all_goals (simp[tx]at d s r)
  .skip
   with_reducible repeat' (first|refine Sp.h ?_|((first|refine Wd ?_|refine Ss.h ?_|refine Sc.h (Me) ?_|(refine Sb.h ?_ ?_ ?_<;>(try intro hgd)<;>try exact Xy))<;>simp -implicitDefEqProofs (maxSteps:=2000000) [hP,hN,g3,g4,g,j,m,x,r,n,f,c,d,s,o,tx,b]<;>try refine Ya ?_)|refine X2 ?_ ?_|(refine Xd ?_ ?_<;>intro hcd<;>try exact Xx))
   all_goals first|exact⟨_,rfl,by simp[c],b _,a _⟩|exact⟨by simp[c],b _,a _⟩|exact⟨b _,a _⟩|exact λq hq=>a _ q hq
  .skip
   with_reducible repeat' (first|refine Sp.h ?_|((first|refine Wd ?_|refine Ss.h ?_|refine Sc.h (Me) ?_|(refine Sb.h ?_ ?_ ?_<;>(try intro hgd)<;>try exact Xy))<;>simp -implicitDefEqProofs (maxSteps:=2000000) [hP,hN,g3,g4,g,j,m,x,r,n,f,c,d,s,o,tx,b]<;>try refine Ya ?_)|refine X2 ?_ ?_|(refine Xd ?_ ?_<;>intro hcd<;>try exact Xx))
   all_goals first|exact⟨_,rfl,by simp[c],b _,a _⟩|exact⟨by simp[c],b _,a _⟩|exact⟨b _,a _⟩|exact λq hq=>a _ q hq
  .skip
   with_reducible repeat' (first|refine Sp.h ?_|((first|refine Wd ?_|refine Ss.h ?_|refine Sc.h (Me) ?_|(refine Sb.h ?_ ?_ ?_<;>(try intro hgd)<;>try exact Xy))<;>simp -implicitDefEqProofs (maxSteps:=2000000) [hP,hN,g3,g4,g,j,m,x,r,n,f,c,d,s,o,tx,b]<;>try refine Ya ?_)|refine X2 ?_ ?_|(refine Xd ?_ ?_<;>intro hcd<;>try exact Xx))
   all_goals first|exact⟨_,rfl,by simp[c],b _,a _⟩|exact⟨by simp[c],b _,a _⟩|exact⟨b _,a _⟩|exact λq hq=>a _ q hq
  .have k1:∀k,i+1<=k->k<l.length->p[k]?=some (ol 0 0 0):=λk h1 h2=>by rw[A k (by omega)];exact E k (by omega) h2
   have k2:∀k,k<i+1->p[k]?=B[k]?:=λk h1=>by
    by_cases e:k=i
    .subst e;rw[H,d];rfl
    .rw[A k e];exact O k (by omega)
   refine Gz ?_
   all_goals first|exact⟨_,rfl,c,k1,k2⟩|exact⟨c,k1,k2⟩|exact⟨k1,k2⟩|exact k2
 .have L:i=l.length:=by omega
  subst L
  have I:R=B:=by
   apply Zx;intro k;by_cases u:k<l.length
   .exact O k u
   .rw[Y2 (by omega),Y2 (by omega)]
  subst I;exact Gy
  all_goals (rw[<-z];simp)
set_option maxRecDepth 100000 in
@[simp] theorem UG:gW prog 281:=by
 have hf:=func281;have nt:=ntmps281;have rs:=results281;exact PI
def ay(l:List Vc):Nat->Vc
 |0=>(0,0,0)
 |i+1=>match l[i]? with
  |some p=>((ay l i).1+p.1,(ay l i).2.1+p.2.1,(ay l i).2.2+p.2.2)
  |none=>ay l i
theorem jh{l:List Vc}(d:l.all (ax 268435456)=true):∀i:Nat,er ((i:Int)*268435456) (ay l i)
 |0=>by simp[ay,er]
 |i+1=>by
  obtain⟨i1,i2,e⟩:=jh d i;simp only[ay];split
  .rename_i p hp
   obtain⟨a,b,c⟩:=dD (L4.1 d p (An hp));exact⟨⟨by simp only;omega,by simp only;omega⟩,⟨by simp only;omega,by simp only;omega⟩,⟨by simp only;omega,by simp only;omega⟩⟩
  .exact⟨⟨by omega,by omega⟩,⟨by omega,by omega⟩,⟨by omega,by omega⟩⟩
def vB(s p:Vc)(j:Nat):List AV:=[.pv (Z (if 0<j then s.1+p.1 else s.1)),.pv (Z (if 1<j then s.2.1+p.2.1 else s.2.1)),.pv (Z (if 2<j then s.2.2+p.2.2 else s.2.2))]
theorem Qu(l:List Vc)(h8:l.length<=8)(q:l.all (ax 268435456)=true):aT 282 (aB l) (ai (ay l l.length)):=by
 refine Dp func282 λC hP hN=>?_;refine Gz ?_;refine WP.loopN [5] l.length (λi st=>st.t 2=.ptr 2 0/\st.h 2=some (.box [.pv (Z 0),.pv (Z 0),.pv (Z 0)] true false)/\st.t 3=.ptr 3 0/\st.h 3=some (.box [.pv (Z (ay l i).1),.pv (Z (ay l i).2.1),.pv (Z (ay l i).2.2)] true false)/\st.t 7=.pv (aB l)/\st.t 8=.pv (Z l.length)/\st.t 9=.pv (Z i)/\st.h 5=none) (by simp[ay]) ?_;rintro i st hi ⟨g2,b,g3,a,e,f,g,c⟩;by_cases m:i<l.length
 .have y:=ae m (by omega)
  generalize o:l[i]=p at *
  have r:l[i]?=some p:=by rw[an m,o]
  have z:=jh q (i+1);have hp:=dD (L4.1 q p (An r))
  have hS:ay l (i+1)=((ay l i).1+p.1,(ay l i).2.1+p.2.1,(ay l i).2.2+p.2.2):=by simp only[ay,r]
  generalize ay l i=S at *;generalize ay l (i+1)=E at *;subst hS;obtain⟨s,u,v⟩:=z;simp only at s u v;have A:i64.wrap (S.1+p.1)=S.1+p.1:=aa;have B:i64.wrap (S.2.1+p.2.1)=S.2.1+p.2.1:=aa;have D:i64.wrap (S.2.2+p.2.2)=S.2.2+p.2.2:=aa;clear s u v hp;have k:[AV.pv (Z S.1),AV.pv (Z S.2.1),AV.pv (Z S.2.2)]=vB S p 0:=rfl;rw[k]at a;refine Gz ?_;refine WP.loopN [] 3 (λj st=>st.t 2=.ptr 2 0/\st.h 2=some (.box [.pv (Z 0),.pv (Z 0),.pv (Z 0)] true false)/\st.t 3=.ptr 3 0/\st.h 3=some (.box (vB S p j) true false)/\st.t 5=.ptr 5 0/\st.h 5=some (.box [.pv (Z p.1),.pv (Z p.2.1),.pv (Z p.2.2)] true false)/\st.t 7=.pv (aB l)/\st.t 8=.pv (Z l.length)/\st.t 9=.pv (Z i)/\st.t 13=.pv (Z j)) (by simp[g2,b,g3,e,f,g,a,vB]) ?_;clear g2 b g3 e f g a c;rintro j st x ⟨g2,b,g3,a,g5,c,e,f,g,d⟩;rcases dC x with rfl|rfl|rfl|rfl
  all_goals (simp[vB]at a d)
  .skip
   with_reducible repeat' (first|refine Sp.h ?_|((first|refine Wd ?_|refine Ss.h ?_|(refine Sb.h ?_ ?_ ?_<;>(try intro hgd)<;>try exact Xy))<;>simp -implicitDefEqProofs (maxSteps:=2000000) [hP,hN,g2,b,g3,a,g5,c,e,f,g,d,A,vB]<;>try refine Ya ?_)|refine X2 ?_ ?_|(refine Xd ?_ ?_<;>intro hcd<;>try exact Xx))
  .skip
   with_reducible repeat' (first|refine Sp.h ?_|((first|refine Wd ?_|refine Ss.h ?_|(refine Sb.h ?_ ?_ ?_<;>(try intro hgd)<;>try exact Xy))<;>simp -implicitDefEqProofs (maxSteps:=2000000) [hP,hN,g2,b,g3,a,g5,c,e,f,g,d,B,vB]<;>try refine Ya ?_)|refine X2 ?_ ?_|(refine Xd ?_ ?_<;>intro hcd<;>try exact Xx))
  .skip
   with_reducible repeat' (first|refine Sp.h ?_|((first|refine Wd ?_|refine Ss.h ?_|(refine Sb.h ?_ ?_ ?_<;>(try intro hgd)<;>try exact Xy))<;>simp -implicitDefEqProofs (maxSteps:=2000000) [hP,hN,g2,b,g3,a,g5,c,e,f,g,d,D,vB]<;>try refine Ya ?_)|refine X2 ?_ ?_|(refine Xd ?_ ?_<;>intro hcd<;>try exact Xx))
  .skip
   exact Gy
 .have n:i=l.length:=by omega
  subst n;exact Gy
abbrev kg:List Vc:=[(1,0,0),(-1,0,0),(0,1,0),(0,-1,0),(0,0,1),(0,0,-1)]
theorem UH:BO 243 (aB kg):=by
 refine Dp func243 λC hP hN=>?_;exact Gy
theorem li{l:List aq}:(aw l).all (ax 268435456)=true:=by
 unfold aw;split
 .rename_i h
  have hp:=(bm h).1;rw[L4]at hp|-;intro x e;obtain⟨v,f,rfl⟩:=Zg.1 e;have h1:=hp v f;rw[fF]at h1;obtain⟨a,b,c⟩:=h1
  have d:∀x:Iv,dc x=true->fv (l6 x) 268435456=true:=λx e=>by
   rw[fg]at e;rw[aU];unfold l6;split<;>omega
  rw[br];exact⟨d _ a,d _ b,d _ c⟩
 .rfl
theorem fE{l:List aq}(h:au l=true):(aw l).length=l.length:=by simp[aw,h]
def kE(a b:List aq):Vc:=((ay (aw a) a.length).1*b.length-(ay (aw b) b.length).1*a.length,(ay (aw a) a.length).2.1*b.length-(ay (aw b) b.length).2.1*a.length,(ay (aw a) a.length).2.2*b.length-(ay (aw b) b.length).2.2*a.length)
def kh(a b:List aq):Vc:=if au a&&au b then aZ (kE a b)else(0,0,0)
def lJ(a b:List aq):Bool:=au a&&au b&&nz (aZ (kE a b))
theorem IP{l:List aq}(h:au l=true):er 2147483648 (ay (aw l) l.length):=by
 have h1:=jh (li (l:=l)) l.length;have h2:=(bm h).2.1;exact jf h1 (by omega)
theorem Hs(ha:au a=true)(hb:au b=true):er 1099511627776 (kE a b):=by
 obtain⟨s1,s2,c⟩:=IP ha;obtain⟨t1,t2,t3⟩:=IP hb;have h2:=(bm ha).2.1;have h3:=(bm hb).2.1
 have e:∀x:Int,-2147483648<=x/\x<=2147483648->∀n:Nat,n<=8->-17179869184<=x*n/\x*n<=17179869184:=λx j n hn=>by
  have:=bi (a:=x) (b:=(n:Int)) 2147483648 8 (by omega) (by omega) (by omega) (by omega);omega
 have a1:=e _ s1 _ h3;have d:=e _ s2 _ h3;have f:=e _ c _ h3;have b1:=e _ t1 _ h2;have g:=e _ t2 _ h2;have i:=e _ t3 _ h2;unfold kE;exact⟨by simp only;omega,by simp only;omega,by simp only;omega⟩
def Ht(v:Vc)(j:Nat):List AV:=[.pv (Z (if 0<j then v.1 else 0)),.pv (Z (if 1<j then v.2.1 else 0)),.pv (Z (if 2<j then v.2.2 else 0))]
theorem UI(a b:List aq)(ha:a.length<=9223372036854775807)(hb:b.length<=9223372036854775807):aH 242 (aD a) (aD b) (.tup [ai (kh a b),B (lJ a b)]):=by
 have G:=vK a ha;have H:=vK b hb
 have hN:kh a b=if au a&&au b then aZ (kE a b)else(0,0,0):=rfl
 have N:lJ a b=(au a&&au b&&nz (aZ (kE a b))):=rfl;rw[hN,N]
 cases c:au a with
 |false=>
  rw[c]at G;refine Dp func242 λC hP hN=>?_;exact Gy
 |true=>
 rw[c]at G
 cases d:au b with
 |false=>
  rw[d]at H;refine Dp func242 λC hP hN=>?_;exact Gy
 |true=>
 rw[d]at H;have c1:=CA a ha;have Q:=CA b hb;have L:=Qu (aw a) (by rw[fE c];exact(bm c).2.1) li;have M:=Qu (aw b) (by rw[fE d];exact(bm d).2.1) li;rw[fE c]at L;rw[fE d]at M;have s:=Hs c d;have R:=QL (kE a b) s;obtain⟨s1,s2,P⟩:=IP c;obtain⟨t1,t2,t3⟩:=IP d;have h2:=(bm c).2.1;have h3:=(bm d).2.1;have i:kE a b=((ay (aw a) a.length).1*b.length-(ay (aw b) b.length).1*a.length,(ay (aw a) a.length).2.1*b.length-(ay (aw b) b.length).2.1*a.length,(ay (aw a) a.length).2.2*b.length-(ay (aw b) b.length).2.2*a.length):=rfl;simp only[Z9,Za,Zf]
 have e:∀x:Int,-2147483648<=x/\x<=2147483648->∀n:Nat,n<=8->-17179869184<=x*n/\x*n<=17179869184:=λx U n hn=>by
  have:=bi (a:=x) (b:=(n:Int)) 2147483648 8 (by omega) (by omega) (by omega) (by omega);omega
 generalize ay (aw a) a.length=S at *;generalize ay (aw b) b.length=T at *;generalize kE a b=V at *;have f1:=e _ s1 _ h3;have f2:=e _ s2 _ h3;have f3:=e _ P _ h3;have k1:=e _ t1 _ h2;have k2:=e _ t2 _ h2;have k3:=e _ t3 _ h2;clear e
 have I:S.1*b.length-T.1*a.length=V.1:=by rw[i]
 have J:S.2.1*b.length-T.2.1*a.length=V.2.1:=by rw[i]
 have K:S.2.2*b.length-T.2.2*a.length=V.2.2:=by rw[i]
 clear i;have u:i64.wrap (S.1*b.length)=S.1*b.length:=aa;have v:i64.wrap (T.1*a.length)=T.1*a.length:=aa;have w0:i64.wrap (S.1*b.length-T.1*a.length)=V.1:=(aa (by omega) (by omega)).trans I;have y:i64.wrap (S.2.1*b.length)=S.2.1*b.length:=aa;have z:i64.wrap (T.2.1*a.length)=T.2.1*a.length:=aa;have w1:i64.wrap (S.2.1*b.length-T.2.1*a.length)=V.2.1:=(aa (by omega) (by omega)).trans J;have A:i64.wrap (S.2.2*b.length)=S.2.2*b.length:=aa;have D:i64.wrap (T.2.2*a.length)=T.2.2*a.length:=aa;have w2:i64.wrap (S.2.2*b.length-T.2.2*a.length)=V.2.2:=(aa (by omega) (by omega)).trans K;generalize aZ V=n at *;have E:i64.wrap (a.length:Int)=(a.length:Int):=aa;have F:i64.wrap (b.length:Int)=(b.length:Int):=aa;refine Dp func242 λC hP hN=>?_;refine Gz ?_;refine WP.loopN [] 3 (λk st=>st.t 0=.pv (aD a)/\st.t 1=.pv (aD b)/\st.t 4=.ptr 4 0/\st.h 4=some (.box [.pv (Z 0),.pv (Z 0),.pv (Z 0)] true false)/\st.t 5=.ptr 5 0/\st.h 5=some (.box [.pv (B false)] true false)/\st.t 6=.ptr 6 0/\st.h 6=some (.box [.pv (Z S.1),.pv (Z S.2.1),.pv (Z S.2.2)] true false)/\st.t 7=.ptr 7 0/\st.h 7=some (.box [.pv (Z T.1),.pv (Z T.2.1),.pv (Z T.2.2)] true false)/\st.t 8=.ptr 8 0/\st.h 8=some (.box (Ht V k) true false)/\st.t 26=.pv (Z k)) (by simp[Ht]) ?_;rintro k st O ⟨g0,g1,g4,j,g5,l,p,m,q,o,r,g,f⟩;rcases dC O with rfl|rfl|rfl|rfl
 all_goals (simp[Ht]at g f)
 .skip
  exact GS (zAc p m q o r g g0 g1 g4 g5 j l f u (it v w0 E F @Ht.eq_1))
 .skip
  exact GS (zAc p m q o r g g0 g1 g4 g5 j l f y (it z w1 E F @Ht.eq_1))
 .skip
  exact GS (zAc p m q o r g g0 g1 g4 g5 j l f A (it D w2 E F @Ht.eq_1))
 .skip
  exact Gy
structure YEnv(P:Program) where
 N:Nat
 l:Nat
 xs:List PV
 J:Bool->Nat->(Nat->Nat->Prop)->World->Prop
 bd:∀s i M W,J s i M W->∀b o,M b o->b<W.heap.size
 gr:∀s i M W W',J s i M W->Ext (λ_=>False) W W'->J s i M W'
 yl:∀m i x M W v1,xs[i]?=some x->J false i M W->Rep W M x v1->YieldAt Fence.wide m P l #[v1] W λe W'=>∃(b:Bool)(M':Nat->Nat->Prop),e=.returned (.bool b)/\J (!b) (if b=true then i+1 else i) M' W'/\Pres W M W' M'
abbrev QY:=Exit->(Nat->AV)->Nat->Bool->Prop
def M7(E:YEnv P)(Q:QY):Exit->Act->World->Prop:=λe b f=>∃t' c d a,E.J d c a f/\jq E.N a t' b f/\b.defers=[]/\Q e t' c d
def bj(E:YEnv P)(c:Code)(Q:QY)(t:Nat->AV)(i:Nat)(s:Bool):Prop:=
 ∀n a w M,E.J s i M w->jq E.N M t a w->a.defers=[]->c.wpIn Fence.wide n P (M7 E Q) a w
section
variable {P:Program} {E:YEnv P} {Q:QY} {t:Nat->AV} {i:Nat} {s:Bool}
theorem bj.walk(h:∀C:Cx,C.P=P->C.N=E.N->bg Fence.wide C c (λe b=>Q e (cH b.t) i s) ⟨t,λ_=>none⟩):bj E c Q t i s:=by
 intro n a w M g j hd;refine wpIn_mono (j.step (E.bd _ _ _ _ g) h) ?_;rintro e l m ⟨b,hq,d,k,f⟩;exact⟨_,i,s,M,E.gr _ _ _ _ _ g k,d,by rw[f];exact hd,hq⟩
theorem bj.mono{Q':QY}(h:bj E c Q t i s)(hq:∀e t i s,Q e t i s->Q' e t i s):bj E c Q' t i s:=
 λn a w M f d hd=>wpIn_mono (h n a w M f d hd) λ_ _ _ ⟨t',g,j,b,h1,h2,h3,h4⟩=>⟨t',g,j,b,h1,h2,h3,hq _ _ _ _ h4⟩
theorem bj.sub{t':Nat->AV}(h:bj E c Q t' i s)(e:∀m,t' m=.undef\/t' m=t m):bj E c Q t i s:=
 λn a w M d b hd=>h n a w M d (b.sub e) hd
def M8{P:Program}(E:YEnv P)(y:Code)(Q:QY):QY
 |.normal,t,i,s=>bj E y Q t i s
 |e,t,i,s=>Q e t i s
theorem bj.seq{x:Code}(h:bj E x (M8 E y Q) t i s):bj E (.seq x y) Q t i s:=by
 intro n a w M f d hd;refine wpIn_seq (wpIn_mono (h n a w M f d hd) ?_);rintro e c k ⟨t',g,j,b,h1,h2,h3,h4⟩
 cases e with
 |normal=>exact h4 n c k b h1 h2 h3
 |_=>exact⟨t',g,j,b,h1,h2,h3,h4⟩
theorem bj.skip(h:Q .normal t i s):bj E .skip Q t i s:=λ_ _ _ M b a hd=>wpIn_skip ⟨t,i,s,M,b,a,hd,h⟩
theorem bj.ret(h:Q .ret t i s):bj E .ret Q t i s:=λ_ _ _ M b a hd=>wpIn_ret ⟨t,i,s,M,b,a,hd,h⟩
theorem bj.exit(h:Q (.exit id) t i s):bj E (.exit id) Q t i s:=λ_ _ _ M b a hd=>wpIn_exit ⟨t,i,s,M,b,a,hd,h⟩
theorem bj.cond{x:Code}{b:Bool}(hc:t m=.pv (.val (.bool b)))(j:b=true->bj E x Q t i s)(hf:b=false->bj E y Q t i s):bj E (.cond (.tmp m) x y) Q t i s:=by
 intro n a w M f c hd
 have d:a.eval (.tmp m)=.bool b:=by
  rcases c.2 m with e|⟨p,e,g⟩
  .grind
  .rw[hc]at e;injection e with e;subst e;exact aJ g
 exact wpIn_cond_split d (λe=>j e n a w M f c hd) (λe=>hf e n a w M f c hd)
def Ax(id:Nat)(Q:QY):QY
 |.exit j,t,i,s=>if j=id then Q .normal t i s else Q (.exit j) t i s
 |e,t,i,s=>Q e t i s
theorem bj.block(h:bj E c (Ax id Q) t i s):bj E (.block id c) Q t i s:=by
 intro n a w M k g hd;refine wpIn_block (wpIn_mono (h n a w M k g hd) ?_);rintro e l m ⟨t',d,f,b,h1,h2,h3,h4⟩
 cases e with
 |exit j=>
  simp only[Ax,Exit.inBlock]at h4|-;split
  .rename_i e;rw[YY e]at h4;exact⟨t',d,f,b,h1,h2,h3,h4⟩
  .rename_i e;rw[YR e]at h4;exact⟨t',d,f,b,h1,h2,h3,h4⟩
 |_=>exact⟨t',d,f,b,h1,h2,h3,h4⟩
theorem bj.loopN(K:Nat)(I:Nat->(Nat->AV)->Nat->Bool->Prop)(F:I 0 t i s)
 (round:∀k t i s,k<=K->I k t i s->bj E c (λe t i s=>match e with|.normal=>k<K/\I (k+1) t i s|e=>Q e t i s) t i s):bj E (.loop c) Q t i s:=by
 classical
 intro n a w M C B hd
 let b:Nat->Act->World->Prop:=λk a w=>∃t i s M,I k t i s/\E.J s i M w/\jq E.N M t a w/\a.defers=[]
 have f:∀a w,(∃k,k<=K/\b k a w)->∃k,k<=K/\b k a w/\∀j,j<=K->b j a w->j<=k:=by
  intro a w ⟨G,h1,h2⟩
  have:∀d k,K-k<=d->k<=K->b k a w->∃k,k<=K/\b k a w/\∀j,j<=K->b j a w->j<=k:=by
   intro d
   induction d with
   |zero=>intro k hd D m;exact⟨k,D,m,λj H _=>by omega⟩
   |succ d ih=>
    grind
  exact this K G (by omega) h1 h2
 refine wpIn_loop (λa w=>∃k,k<=K/\b k a w) (λa w=>K-(if h:∃k,k<=K/\b k a w/\∀j,j<=K->b j a w->j<=k then h.choose else 0)) ⟨0,ZG _,t,i,s,M,F,C,B,hd⟩ ?_;intro a1 w1 o;have u:=f a1 w1 o;have hs:=u.choose_spec;obtain⟨t1,i1,s1,A,g1,g2,g3,g4⟩:=hs.2.1;refine wpIn_mono (round _ t1 i1 s1 hs.1 g1 n a1 w1 A g2 g3 g4) ?_;rintro e r w2 ⟨t2,i2,s2,q,v,x,y,z⟩
 cases e with
 |normal=>
  obtain⟨l,m⟩:=z;have g:b (u.choose+1) r w2:=⟨t2,i2,s2,q,m,v,x,y⟩;refine⟨⟨_,l,g⟩,?_⟩;have p:=f r w2 ⟨_,l,g⟩;have h1:=p.choose_spec.2.2 _ l g
  grind
 |_=>exact⟨t2,i2,s2,q,v,x,y,z⟩
end
theorem zd{l:Nat}{rest:List Oper}{c:Call}{f x:Operand}{Q:Exit->Act->World->Prop}{a:Act}{w:World}{R:Ending->World->Prop}(q:Region.wanted o (yielded ops a.tmps)=true)(p:o.op=.call c)(hc:c.callee=.value f)(b:c.args=#[x])
 (hf:a.eval f=.func (.yield l) #[] #[])(r:YieldAt Fence.wide (n-1) P l #[a.eval x] w R)
 (i:∀e k,R e k->∃v,e=.returned v/\wpListIn Fence.wide n P ops Q rest (a.put o.dst v) k):wpListIn Fence.wide n P ops Q (o::rest) a w:=by
 obtain⟨fn,tmps,assign,body,j,d⟩:=r;unfold wpListIn;rw[YY q];refine⟨λ_ _=>trivial,?_⟩;show o.uponIn Fence.wide n P a _ Q ((o.semAt none a.eval).run P w);rw[Oper.semAt_none]
 have g:(execOp a.eval o).run P w=.ok (.round l fn tmps assign body) w:=by
  generalize a.eval=ρ at hf j;unfold execOp;rw[p];obtain⟨m,s,at_⟩:=c;simp only at hc b;subst hc;subst b;simp[resolve,hf,invoke,go_sem,j]
 rw[g];refine⟨λh=>(by cases h),d.mono ?_⟩
 grind
section
variable {P:Program} {E:YEnv P} {Q:QY} {t:Nat->AV} {i:Nat}
theorem bj.yield{d f x:Nat}{c:Call}(s:ops.toList=pre++o::post)(L:rC ops=true)(ho:o.op=.call c)(hc:c.callee=.value (.tmp f))(u:c.args=#[.tmp x])(hd:o.dst=some d)(J:d<E.N)
 (B:cw P hn E.N ops (λg=>g.t f=.pv (.val (.func (.yield E.l) #[] #[]))/\dR ops (cH g.t) o.guard=some true/\∃q,g.t x=.pv q/\E.xs[i]?=some q/\
   ∀b,cw P hn E.N ops (λC=>Q .normal (cH C.t) (if b=true then i+1 else i) (!b)) post ⟨av (cH g.t) d (.pv (.val (.bool b))),λ_=>none⟩) pre ⟨t,λ_=>none⟩):bj E (.region id ops false) Q t i false:=by
 intro n a w M V Z K;refine wpIn_region_list ?_;rw[s];refine dF _ ?_;have r:∀y∈pre++o::post,∀c,y.op≠.defer c:=λy j=>nY L (by rw[s];exact j);refine Z.list (E.bd _ _ _ _ V) (λy j=>r y (yAB _ j)) B ?_;rintro g D W ⟨h1,h2,q,h3,h4,h5⟩ k hx v;have z:=E.gr _ _ _ _ _ V hx;have H:=E.bd _ _ _ _ z
 have X:D.eval (.tmp f)=.func (.yield E.l) #[] #[]:=by
  rcases k.2 f with e|⟨p,e,S⟩
  .grind [cH]
  .simp only[cH,h1]at e;injection e with e;subst e;exact aJ S
 have Y:Rep W M q (D.eval (.tmp x)):=by
  rcases k.2 x with e|⟨p,e,S⟩
  .grind [cH]
  .simp only[cH,h3]at e;injection e with e;subst e;exact S
 refine zd ?_ ho hc u X (E.yl (n-1) i q M W _ h4 z Y) ?_
 .exact dl (k.sim (P:=P) H).2.2 h2
 rintro e w2 ⟨b,U,rfl,A,O⟩;refine⟨_,rfl,?_⟩
 have F:jq E.N U (av (cH g.t) d (.pv (.val (.bool b)))) (D.put o.dst (.bool b)) w2:=by
  have hb:=k.mono O;rw[hd]
  have v:d<D.tmps.size:=by rw[hb.1];exact J
  refine⟨by simpa[Act.put]using hb.1,λm=>?_⟩;rw[gZ v];simp only[av];split
  .exact .inr ⟨_,rfl,.val _⟩
  .exact hb.2 m
 refine F.list (E.bd _ _ _ _ A) (λy j=>r y (List.mem_append_right _ (yA0 _ j))) (h5 b) ?_;intro ad a3 w3 R G T I;exact⟨_,_,_,U,E.gr _ _ _ _ _ A T,G,by rw[I,lC,v];exact K,R⟩
end
def tI(l:Nat)(caps:List PV):Nat->AV
 |0=>.pv (.val (.func (.yield l) #[] #[]))
 |k+1=>match caps[k]? with
  |some p=>.pv p
  |none=>.undef
theorem K6{gf:FuncId}{fn:Func}{caps xs:List PV}(hf:P.funcs[gf]?=some fn)(hb:fn.body=some c)(q:bR P gf=true)(v:fn.results=#[])(H:caps.length+1<=fn.ntmps)
 (h:∀E:YEnv P,E.N=fn.ntmps->E.xs=xs->bj E c (λe _ i s=>(e=.normal\/e=.ret)/\(if s=true then i<xs.length else i=xs.length)) (tI E.l caps) 0 false):DT P gf caps xs:=by
 refine⟨q,λn l a W M J g A S B T V Q f=>?_⟩
 have K:∀(s:Bool) i M W,(if s=true then g i M W else J i M W)->∀b o,M b o->b<W.heap.size:=by
  intro s i M W F
  cases s with
  |true=>exact B i M W F
  |false=>exact A i M W F
 have L:∀(s:Bool) i M W j,(if s=true then g i M W else J i M W)->Ext (λ_=>False) W j->(if s=true then g i M j else J i M j):=by
  grind
 have O:∀m i x M W I,xs[i]?=some x->(if false=true then g i M W else J i M W)->Rep W M x I->YieldAt Fence.wide m P l #[I] W λe j=>∃(b:Bool)(d:Nat->Nat->Prop),e=.returned (.bool b)/\(if(!b)=true then g (if b=true then i+1 else i) d j else J (if b=true then i+1 else i) d j)/\Pres W M j d:=by
  grind
 let E:YEnv P:={N:=fn.ntmps,l:=l,xs:=xs,J:=λs i M W=>if s=true then g i M W else J i M W,bd:=K,gr:=L,yl:=O}
 have U:=f.1;refine(callsIn_of_wp_marks hf hb trivial ?_ rfl)
 have R:jq fn.ntmps M (tI l caps) {tmps:=((#[Value.func (.yield l) #[] #[]]:Array Value)++a.toArray)++Array.replicate (fn.ntmps-((#[Value.func (.yield l) #[] #[]]:Array Value)++a.toArray).size) undef,defers:=[]} W:=by
  refine⟨by simp;omega,λm=>?_⟩
  cases m with
  |zero=>
   have D:(((#[Value.func (.yield l) #[] #[]]:Array Value)++a.toArray)++Array.replicate (fn.ntmps-((#[Value.func (.yield l) #[] #[]]:Array Value)++a.toArray).size) undef).getD 0 undef=.func (.yield l) #[] #[]:=by
    rw[YZ,Zu (by simp),Zu (by simp)];rfl
   refine .inr ⟨_,rfl,?_⟩;simp only[D];exact .val _
  |succ k=>
   simp only[tI]
   cases G:caps[k]? with
   |none=>exact .inl rfl
   |some p=>
    have u:k<a.length:=by rw[<-U];exact(th.1 G).1
    have X:=f.2 k p a[k] G (an u);refine .inr ⟨p,rfl,?_⟩
    have D:(((#[Value.func (.yield l) #[] #[]]:Array Value)++a.toArray)++Array.replicate (fn.ntmps-((#[Value.func (.yield l) #[] #[]]:Array Value)++a.toArray).size) undef).getD (k+1) undef=a[k]:=by
     rw[YZ,Zu (by simp;omega),Array.getElem?_append_right (by simp)];simp[u]
    grind
 refine wpIn_mono (h E rfl rfl n _ W M Q R rfl) ?_;rintro e z y ⟨t',Y,Z,d,h1,h2,h3,h4,h5⟩
 have r:((∃d,J xs.length d y)\/∃i d,i<xs.length/\g i d y):=by
  grind
 have C:(results fn z.tmps).run P y=.ok (.tuple #[]) y:=by
  unfold results;rw[v];simp[go_sem]
 rcases h4 with rfl|rfl
 all_goals
  show LeavesInM Fence.wide n P fn z.tmps _ z.defers .returning y
  rw[h3];exact⟨_,C,⟨_,rfl⟩,r⟩
section
variable {P:Program} {E:YEnv P} {Q:QY} {C:Cx} {st:St} {i:Nat} {s:Bool}
def bu{P:Program}(E:YEnv P)(C:Cx)(c:Code)(Q:QY)(st:St)(i:Nat)(s:Bool):Prop:=
 C.P=P->C.N=E.N->(∀b,¬C.S b)->E.J s i C.M0 C.w0->∀n L a w,gt C L st a w->a.defers=[]->c.wpIn Fence.wide n P (M7 E Q) a w
theorem Na{C:Cx}(h:∀b,¬C.S b){w w':World}(a:Ext C.S w w'):Ext (λ_=>False) w w':=by
 have e:C.S=λ_=>False:=funext λb=>propext ⟨λhb=>(h b hb).elim,False.elim⟩;rw[e]at a;exact a
theorem bj.blocks{t:Nat->AV}(h:∀C:Cx,C.P=P->C.N=E.N->bu E C c Q ⟨t,λ_=>none⟩ i s):bj E c Q t i s:=by
 intro n a w M b d hd;exact h {P:=P,N:=E.N,M0:=M,S:=λ_=>False,pb:=λ_=>none,w0:=w} rfl rfl rfl rfl (λ_ h=>h) b n _ a w (d.sim (E.bd _ _ _ _ b)) hd
theorem bu.drop(h:bj E c Q (cH st.t) i s):bu E C c Q st i s:=by
 intro hP hN hS d n L a w hs hd;have b:=rD hs;rw[hN]at b;exact h n a w C.M0 (E.gr _ _ _ _ _ d (Na hS hs.1.ext)) b hd
def RL{P:Program}(E:YEnv P)(C:Cx)(y:Code)(Q:QY)(i:Nat)(s:Bool):Exit->St->Prop
 |.normal,st=>bu E C y Q st i s
 |e,st=>Q e (cH st.t) i s
theorem bu.seq{x:Code}(h:bg Fence.wide C x (RL E C y Q i s) st):bu E C (.seq x y) Q st i s:=by
 intro hP hN hS j n L a w hs hd;subst hP;refine wpIn_seq (wpIn_mono (h n L a w hs) ?_);rintro e f m ⟨l,k,b,_,d,hq⟩
 have c:f.defers=[]:=by rw[d];exact hd
 have g:=rD b;rw[hN]at g
 cases e with
 |normal=>exact hq rfl hN hS j n k f m b c
 |_=>exact⟨_,i,s,C.M0,E.gr _ _ _ _ _ j (Na hS b.1.ext),g,c,hq⟩
theorem bu.walk(h:bg Fence.wide C c (λe d=>Q e (cH d.t) i s) st):bu E C c Q st i s:=by
 intro hP hN hS j n L a w hs hd;subst hP;refine wpIn_mono (h n L a w hs) ?_;rintro e l m ⟨d,k,b,_,f,hq⟩;have g:=rD b;rw[hN]at g;exact⟨_,i,s,C.M0,E.gr _ _ _ _ _ j (Na hS b.1.ext),g,by rw[f];exact hd,hq⟩
theorem bu.cond{x:Code}{b:Bool}(hc:st.t m=.pv (.val (.bool b)))(g:b=true->bu E C x Q st i s)(hf:b=false->bu E C y Q st i s):bu E C (.cond (.tmp m) x y) Q st i s:=by
 intro hP hN hS d n L a w hs hd
 have c:a.eval (.tmp m)=.bool b:=by
  have h:=hs.2.2 m;rw[hc]at h
  cases h with
  |pv f=>exact aJ f
 exact wpIn_cond_split c (λe=>g e hP hN hS d n L a w hs hd) (λe=>hf e hP hN hS d n L a w hs hd)
theorem bu.seqY{x:Code}(h:bu E C x (M8 E y Q) st i s):bu E C (.seq x y) Q st i s:=by
 intro hP hN hS d n L a w hs hd;refine wpIn_seq (wpIn_mono (h hP hN hS d n L a w hs hd) ?_);rintro e c j ⟨t',f,g,b,h1,h2,h3,h4⟩
 cases e with
 |normal=>exact h4 n c j b h1 h2 h3
 |_=>exact⟨t',f,g,b,h1,h2,h3,h4⟩
theorem bu.block(h:bu E C c (Ax id Q) st i s):bu E C (.block id c) Q st i s:=by
 intro hP hN hS g n L a w hs hd;refine wpIn_block (wpIn_mono (h hP hN hS g n L a w hs hd) ?_);rintro e k l ⟨t',d,f,b,h1,h2,h3,h4⟩
 cases e with
 |exit j=>
  simp only[Ax]at h4;show(if j=id then _ else _);split
  .rename_i e;rw[YY e]at h4;exact⟨t',d,f,b,h1,h2,h3,h4⟩
  .rename_i e;rw[YR e]at h4;exact⟨t',d,f,b,h1,h2,h3,h4⟩
 |_=>exact⟨t',d,f,b,h1,h2,h3,h4⟩
theorem bu.yield{d f x:Nat}{c:Call}(s:ops.toList=pre++o::post)(R:rC ops=true)(ho:o.op=.call c)(hc:c.callee=.value (.tmp f))(v:c.args=#[.tmp x])(hd:o.dst=some d)(M:d<E.N)
 (u:cw P hn E.N ops (λg=>g.t f=.pv (.val (.func (.yield E.l) #[] #[]))/\dR ops (cH g.t) o.guard=some true/\∃q,g.t x=.pv q/\E.xs[i]?=some q/\
   ∀b,cw P hn E.N ops (λF=>Q .normal (cH F.t) (if b=true then i+1 else i) (!b)) post ⟨av (cH g.t) d (.pv (.val (.bool b))),λ_=>none⟩) pre st):bu E C (.region id ops false) Q st i false:=by
 intro hP hN hS hJ n L a w hs O;subst hP;rw[<-hN]at u;refine wpIn_region_list ?_;rw[s];refine dF _ ?_;have r:∀z∈pre++o::post,∀c,z.op≠.defer c:=λz j=>nY R (by rw[s];exact j);refine iw iB (λg L' G X D _ y hq=>?_) (λz j=>r z (yAB _ j)) hs (aF.refl hs.1) rfl u;obtain⟨h1,h2,q,h3,h4,h5⟩:=hq;have k:=rD D;have A:=E.gr _ _ _ _ _ hJ (Na hS D.1.ext);have J:=E.bd _ _ _ _ A
 have Y:G.eval (.tmp f)=.func (.yield E.l) #[] #[]:=by
  rcases k.2 f with e|⟨p,e,U⟩
  .simp only[cH,h1]at e;cases e
  .simp only[cH,h1]at e;injection e with e;subst e;exact aJ U
 have Z:Rep X C.M0 q (G.eval (.tmp x)):=by
  rcases k.2 x with e|⟨p,e,U⟩
  .simp only[cH,h3]at e;cases e
  .simp only[cH,h3]at e;injection e with e;subst e;exact U
 refine zd ?_ ho hc v Y (E.yl (n-1) i q C.M0 X _ h4 A Z) ?_
 .exact dl (k.sim (P:=C.P) J).2.2 h2
 rintro e w2 ⟨b,W,rfl,B,S⟩;refine⟨_,rfl,?_⟩
 have H:jq E.N W (av (cH g.t) d (.pv (.val (.bool b)))) (G.put o.dst (.bool b)) w2:=by
  have hb:=k.mono S;rw[hd]
  have y:d<G.tmps.size:=by rw[hb.1,hN];exact M
  refine⟨by simpa[Act.put,hN]using hb.1,λm=>?_⟩;rw[gZ y];simp only[av];split
  .exact .inr ⟨_,rfl,.val _⟩
  .exact hb.2 m
 refine H.list (E.bd _ _ _ _ B) (λz j=>r z (List.mem_append_right _ (yA0 _ j))) (by rw[hN]at h5;exact h5 b) ?_;intro ad a3 w3 T I V K;exact⟨_,_,_,W,E.gr _ _ _ _ _ B V,I,by rw[K,lC,y];exact O,T⟩
end
def wv(C:Cx)(ds:List Deferred)(st:St)(a:Act)(w:World):Prop:=∃L,MemL C L st.h w/\a.tmps.size=C.N/\a.defers=ds/\∀n,RepA w (ab C L st.h) L st.h (st.t n) (a.tmps.getD n undef)
theorem wv.put{C:Cx}{ds:List Deferred}{L:Nat->Loc}{st:St}{a:Act}{w:World}(e:MemL C L st.h w)(hN:a.tmps.size=C.N)(b:a.defers=ds)(f:∀n,RepA w (ab C L st.h) L st.h (st.t n) (a.tmps.getD n undef))
 {d:Option Nat}(hd:dJ C.N d=true){v:AV}{W:List (Nat×Blk)}{u:Value}{w':World}{L':Nat->Loc}(c:aF C L st.h w L' (ag st.h W) w')(g:RepA w' (ab C L' (ag st.h W)) L' (ag st.h W) v u):
 wv C ds (st.put d v W) (a.put d u) w':=by
 obtain⟨h1,h2,h3⟩:=gt.put (a:=a) ⟨e,hN,f⟩ hd c g;exact⟨L',h1,h2,(lC _ _ _).trans b,h3⟩
section
variable {C:Cx} {hn:List Nat} {ops:Array Oper} {fs:List Ef} {st:St} {ds:List Deferred}
theorem JD(z:fH ops=true)(ca:fs.length=ops.size)(T:∀(i:Nat) o f,ops[i]?=some o->fs[i]?=some f->qg C.P hn C.N ops o (run (fs.take i) st) f)
 (O:gX (gO ops.toList []) (fs.map λf=>(f.W.map (·.1),f.K))=true){Q':Exit->Act->World->Prop}(hQ:∀a w,wv C ds (run fs st) a w->Q' .normal a w):
 ∀(fuel:Nat)(c:Array Bool)(a:Act)(w:World),c.size=ops.size->((List.range ops.size).filter λj=>!aA c j).length<=fuel->(∀i j,iI ops i j->aA c j=true->aA c i=true)->
  wv C ds (dX fs ops.size st (aA c)) a w->wpAny C.P .any ops Q' fuel c a w:=by
 have F:∀c:Array Bool,Region.ready .any ops c=[]->c.size=ops.size->∀j,j<ops.size->aA c j=true:=by
  intro c U B j
  induction j using Nat.strongRecOn with
  |_ j ih=>
   intro l
   cases hl:aA c j with
   |true=>rfl
   |false=>
    have:j∈Region.ready .any ops c:=bW.2 ⟨l,hl,λq hq=>by
     have cq:=iu z hq;have:=ih q cq (by omega);unfold aA at this;rw[YZ]at this|-;rw[Zy (by omega)]at this|-
     simpa using this⟩
    rw[U]at this;cases this
 have ad:∀(c:Array Bool) a w,Region.ready .any ops c=[]->c.size=ops.size->wv C ds (dX fs ops.size st (aA c)) a w->Q' .normal a w:=by
  intro c a w U B D;apply hQ;have hl:=F c U B
  have:dX fs ops.size st (aA c)=run fs st:=by
   have ht:run fs st=run (fs.take ops.size) st:=by rw[Zh (by omega)]
   rw[ht]
   have h1:(dX fs ops.size st (aA c)).t=(run (fs.take ops.size) st).t:=by
    funext r;rw[nV fs st _ (by omega)];exact dm (λj l _=>hl j l)
   have h2:(dX fs ops.size st (aA c)).h=(run (fs.take ops.size) st).h:=by
    funext r;rw[nW fs st _ (by omega)];exact dm (λj l _=>hl j l)
   cases hA:dX fs ops.size st (aA c);cases hB:run (fs.take ops.size) st;rw[hA,hB]at h1 h2;simp at h1 h2;rw[h1,h2]
  rw[<-this];exact D
 intro fuel
 induction fuel with
 |zero=>
  intro c a w B b4 V D
  have Z:Region.ready .any ops c=[]:=by
   cases U:Region.ready .any ops c with
   |nil=>rfl
   |cons i r=>
    have hi:i∈Region.ready .any ops c:=by rw[U];simp
    obtain⟨h1,h2,_⟩:=bW.1 hi;have:i∈(List.range ops.size).filter λj=>!aA c j:=ZV.2 ⟨Zw.2 h1,by simp[h2]⟩;have cc:((List.range ops.size).filter λj=>!aA c j)=[]:=Zn (by omega);rw[cc]at this;cases this
  exact⟨Z,ad c a w Z B D⟩
 |succ fuel ih=>
  intro c a w B b4 V D;refine⟨λU=>ad c a w U B D,λi hi=>?_⟩;obtain⟨J,Q,b7⟩:=bW.1 hi;have ho:ops[i]?=some ops[i]:=Zy J;have hf:fs[i]?=some (fs[i]'(by omega)):=an _;generalize ops[i]=o at ho;generalize fs[i]'(by omega)=f at hf;obtain⟨H,b9,G⟩:=T i o f ho hf
  have y:∀q,Pre ops q i->aA c q=true:=by
   intro q hq
   have hd:∀q,iI ops q i->aA c q=true:=by
    intro q hq;have cu:=iu z hq;have:=b7 q hq;unfold aA;rw[YZ]at this|-;rw[Zy (by omega)]at this|-;simpa using this
   cases hq with
   |one h=>exact hd q h
   |step h h'=>exact nX V h (hd _ h')
  have s:∀q,Pre ops i q->aA c q=false:=by
   intro q hq
   cases cp:aA c q with
   |false=>rfl
   |true=>rw[nX V hq cp]at Q;cases Q
  have ak:∀j r,(sX fs r j).isSome=true->∃oj A,ops[j]?=some oj/\fs[j]?=some A/\oj.dst=some r:=by
   intro j r l;unfold sX at l;split at l
   .rename_i A p
    split at l
    .rename_i hd
     have cn:j<ops.size:=by rw[<-ca];exact(th.1 p).1
     have E:ops[j]?=some ops[j]:=Zy cn;obtain⟨_,h2,_⟩:=T j _ A E p;exact⟨_,A,E,p,by rw[<-h2];exact hd⟩
    .cases l
   .cases l
  have a8:∀j k,(sY fs k j).isSome=true->∃A,fs[j]?=some A/\k∈A.W.map (·.1):=by
   intro j k l;unfold sY at l;split at l
   .rename_i A p;exact⟨A,p,wV l⟩
   .cases l
  have g:∀(j:Nat)(A:Ef),fs[j]?=some A->(fs.map λf=>(f.W.map (·.1),f.K))[j]?=some (A.W.map (·.1),A.K):=λj A h=>by simp[h]
  have Y:∀r∈qf ops o,(dX fs ops.size st (aA c)).t r=(run (fs.take i) st).t r:=by
   intro r U;rw[nV fs st i (by omega),<-qW (n:=ops.size) (by omega)];refine dm (λj l hw=>?_);obtain⟨oj,A,E,p,hd⟩:=ak j r hw;rcases yAw j i with R|rfl|ar
   .rw[y j (lB z R E ho (by simp[kV,hd,U]))];simp[R]
   .rw[Q];simp
   .rw[s j (lB z ar ho E (by simp[kV,hd,U]))]
    have:¬j<i:=by omega
    simp[this]
  have b3:∀k∈f.K,(dX fs ops.size st (aA c)).h k=(run (fs.take i) st).h k:=by
   intro k M;rw[nW fs st i (by omega),<-qW (n:=ops.size) (by omega)];refine dm (λj l hw=>?_);obtain⟨A,p,hd⟩:=a8 j k hw;rcases yAw j i with R|rfl|ar
   .rw[y j (nd O R (g j A p) (g i f hf) ⟨k,.inl ⟨hd,M⟩⟩)];simp[R]
   .rw[Q];simp
   .rw[s j (nd O ar (g i f hf) (g j A p) ⟨k,.inr ⟨hd,M⟩⟩)]
    have:¬j<i:=by omega
    simp[this]
  have ch:∀k,k∈f.W.map (·.1)->k∈f.K:=by
   intro k M;obtain⟨kb,a7,rfl⟩:=Zg.1 M;rcases G with⟨_,_,_,F⟩|⟨_,_,hW,_⟩
   .have:=L4.1 F kb a7;simpa using this
   .rw[hW]at a7;cases a7
  have lV:dX fs ops.size st (aA (c.setIfInBounds i true))=(dX fs ops.size st (aA c)).put f.d f.v f.W:=by
   have cb:∀j,j<ops.size->aA (c.setIfInBounds i true) j=(aA c j||j==i):=by
    intro j l;unfold aA;by_cases e:j=i
    .subst e;simp[YZ,B,l]
    .have h1:(j==i)=false:=by simpa using e
     rw[h1,Bool.or_false,YZ,YZ,ZK (by omega)]
   have h1:(dX fs ops.size st (aA (c.setIfInBounds i true))).t=((dX fs ops.size st (aA c)).put f.d f.v f.W).t:=by
    funext r
    show gM ops.size (sX fs r) (st.t r) (aA (c.setIfInBounds i true))=_;rw[dm (λj l _=>cb j l),pV J ?_]
    .have hw:sX fs r i=if f.d=some r then some f.v else none:=by simp[sX,hf]
     rw[hw]
     cases hd:f.d with
     |none=>simp[St.put,dX]
     |some d=>
      simp only[St.put,av,YV];by_cases e:d=r
      .subst e;simp
      .rw[YR e,YR (λh=>e h.symm)];rfl
    .intro bq j a6 l b2
     obtain⟨oi,fi,X,I,aj⟩:=ak i r bq;obtain⟨oj,A,E,p,hd⟩:=ak j r b2;rw[ho]at X;injection X with X;subst X;exact s j (lB z a6 ho E (by simp[kV,aj,hd]))
   have h2:(dX fs ops.size st (aA (c.setIfInBounds i true))).h=((dX fs ops.size st (aA c)).put f.d f.v f.W).h:=by
    funext k
    show gM ops.size (sY fs k) (st.h k) (aA (c.setIfInBounds i true))=_;rw[dm (λj l _=>cb j l),pV J ?_]
    .have hw:sY fs k i=iQ f.W k:=by simp[sY,hf]
     rw[hw];simp only[St.put];exact(pW k f.W (dX fs ops.size st (aA c)).h).symm
    .intro bq j a6 l b2
     obtain⟨fi,I,aj⟩:=a8 i k bq;obtain⟨A,p,hd⟩:=a8 j k b2;rw[hf]at I;injection I with I;subst I;exact s j (nd O a6 (g i f hf) (g j A p) ⟨k,.inr ⟨hd,ch k aj⟩⟩)
   cases hA:dX fs ops.size st (aA (c.setIfInBounds i true));cases hB:(dX fs ops.size st (aA c)).put f.d f.v f.W;rw[hA,hB]at h1 h2;simp at h1 h2;rw[h1,h2]
  have S:∀a' w',wv C ds ((dX fs ops.size st (aA c)).put f.d f.v f.W) a' w'->wpAny C.P .any ops Q' fuel (c.setIfInBounds i true) a' w':=by
   intro a' w' cr;refine ih (c.setIfInBounds i true) a' w' (by simp[B]) ?_ ?_ (by rw[lV];exact cr)
   .have ct:((List.range ops.size).filter λj=>!aA (c.setIfInBounds i true) j).length<((List.range ops.size).filter λj=>!aA c j).length:=by
     have ck:((List.range ops.size).filter λj=>!aA (c.setIfInBounds i true) j)=((List.range ops.size).filter λj=>!aA c j).filter λj=>!(j==i):=by
      rw[List.filter_filter];refine List.filter_congr (λj l=>?_);have cm:=Zw.1 l;unfold aA;by_cases e:j=i
      .subst e;simp[YZ,B,cm]
      .have h1:(j==i)=false:=by simpa using e
       rw[h1,YZ,YZ,ZK (by omega)];simp
     rw[ck];refine List.length_filter_lt_length_iff_exists.2 ⟨i,ZV.2 ⟨Zw.2 J,by simp[Q]⟩,by simp⟩
    omega
   .intro q j hd l
    have cg:∀m,aA (c.setIfInBounds i true) m=true↔(aA c m=true\/m=i):=by
     intro m;unfold aA;by_cases e:m=i
     .subst e;simp[YZ,B,J]
     .rw[YZ,YZ,ZK (by omega)];simp[e]
    rw[cg]at l|-;rcases l with l|rfl
    .exact .inl (V q j hd l)
    .exact .inl (y q (.one hd))
  obtain⟨L,hm,hN,b5,ht⟩:=D
  have hgd:dR ops (dX fs ops.size st (aA c)).t o.guard=dR ops (run (fs.take i) st).t o.guard:=by
   unfold dR;split
   .rfl
   .rename_i j want hg
    split
    .rename_i d hd
     rw[Y d (by simp[qf,hg,hd])]
    .rfl
  unfold wpOp;rw[ho];simp only;rcases G with⟨hg,hK,b8,cj⟩|⟨hg,hv,hW,_⟩
  .rw[dl ht (hgd.trans hg)]
   rw[YY rfl];refine .inl ?_
   have cd:∀x∈o.op.operands,(run (fs.take i) st).ev x=(dX fs ops.size st (aA c)).ev x:=by
    intro x hx
    cases x with
    |tmp t=>
     refine(Y t ?_).symm;simp only[qf,EH,Y7,List.mem_filterMap];exact .inl ⟨.tmp t,by simpa using hx,rfl⟩
    |_=>rfl
   have cf:bv f.K (run (fs.take i) st).h=bv f.K (dX fs ops.size st (aA c)).h:=by
    funext k
    unfold bv;split
    .rename_i M;exact(b3 k (by simpa using M)).symm
    .rfl
   rw[cf]at b8;refine pc.congr cd b8 C L _ w a rfl hm ?_ ?_ (λx _=>bB ht x) _ _ (λu w' L' hA hv=>?_)
   .intro k b M;unfold bv at M;split at M
    .exact M
    .cases M
   .intro d hd
    unfold bv;rw[YY (hK d hd)];refine⟨rfl,?_⟩;have ah:=H;rw[hd]at ah;simp only[dJ,up,Is]at ah;exact ah.2
   .refine S _ _ ?_
    rw[b9];exact wv.put hm hN b5 ht H hA hv
  .rw[dl ht (hgd.trans hg)]
   simp only[YU,Y5];refine S _ _ ?_;rw[b9,hv,hW];exact wv.put hm hN b5 ht H (W:=[]) (aF.refl hm) (.pv (.val _))
variable {P:Program} {E:YEnv P} {Q:QY} {i:Nat} {s:Bool}
theorem bu.draw(m:P.follows .mixedOrders=true)(c:fH ops=true)
 (h:jX P hn E.N ops (λd st=>gX (gO ops.toList []) d=true/\bu E C y Q st i s) ops.toList [] st):bu E C (.seq (.region id ops true) y) Q st i s:=by
 intro hP hN hS v n L a w hs hd;subst hP;rw[<-hN]at h;obtain⟨fs,h1,h2,h3,h4⟩:=yq h;refine wpIn_seq (wpIn_wide.2 ?_);refine wp_region_any m (JD (ds:=[]) (fs:=fs) (st:=st) c (by rw[h1];simp) (λi o f p hf=>h2 i o f (by simpa using p) hf) (by simpa using h3) (λa w hs=>?_) _ _ _ _ (by simp) ?_ ?_ ?_)
 .obtain⟨u,l,e,g,q⟩:=hs
  exact h4 rfl hN hS v n u a w ⟨l,e,q⟩ g
 .refine yAs (yAX _ _) (by simp)
 .intro i j hd b
  have k:j<ops.size:=by obtain⟨o,p,_⟩:=hd;exact(Zp.1 p).1
  unfold aA at b;rw[YZ,yAG,YY k]at b;cases b
 .have:dX fs ops.size st (aA (Array.replicate ops.size false))=st:=by
   have hf:∀j,j<ops.size->aA (Array.replicate ops.size false) j=false:=by
    intro j b;unfold aA;rw[YZ,yAG,YY b];rfl
   have x:∀{V:Type}(wr:Nat->Option V)(x0:V),gM ops.size wr x0 (aA (Array.replicate ops.size false))=x0:=by
    intro V wr x0;rw[dm (ls':=λ_=>false) (λj b _=>hf j b)]
    have:∀n,gM n wr x0 (λ_=>false)=x0:=by
     intro n;induction n with
     |zero=>rfl
     |succ n ih=>rw[i9];simp[ih]
    exact this _
   cases st;unfold dX;simp[x]
  rw[this];have r:=hs.1.grow (Ext.drew (λ_=>False) w);exact⟨L,r.1,hs.2.1,hd,λn=>(hs.2.2 n).mono r.2 (KC.refl _ _)⟩
end
abbrev si(a:List aq)(d:Int)(b:List aq)(e:Int)(c:List Vc):List PV:=[.rptr (aD a) 0,.rptr (aD b) 0,.rptr (Z d) 0,.rptr (Z e) 0,.rptr (aB c) 0]
theorem UJ(a:List aq)(d:Int)(b:List aq)(e:Int)(c:List Vc):xW 209 (aD a) (Z d) (aD b) (Z e) (aB c) (.fn (.func 239) [] (si a d b e c)):=by
 refine Dp func209 λC hP hN=>?_;exact Gy
def vD(a:List aq)(c:Int)(b:List aq)(d:Int):Bool:=au a&&au b&&aP c 0 1048576&&aP d 0 1048576
def mN(a:List aq)(c:Int)(b:List aq)(d:Int):Vc:=(iS (aw a) (aw b) (c+d) 64).2.n
def mO(a:List aq)(d:Int)(b:List aq)(e:Int)(c:List Vc):List Vc:=
 if vD a d b e then c.filter aI++((if lJ a b then[kh a b]else[])++(kg++(if aI (mN a d b e)then[mN a d b e]else[])))else[]
theorem GL{l:List α}{k:Nat}{v:α}(a:l[k]?=some v):(l.filter p)=(l.take k).filter p++(if p v then[v]else[])++(l.drop (k+1)).filter p:=by
 obtain⟨h,a⟩:=th.1 a
 have e:l=l.take k++v::l.drop (k+1):=by rw[<-a,yAf];exact(ZQ k l).symm
 conv=>lhs;rw[e]
 rw[yAt,List.filter_cons];split<;>simp
structure CandT(l:Nat)(a:List aq)(ra:Int)(b:List aq)(rb:Int)(hints:List Vc)(t:Nat->AV):Prop where
 g0:t 0=.pv (.val (.func (.yield l) #[] #[]))
 g1:t 1=.pv (.rptr (aD a) 0)
 g2:t 2=.pv (.rptr (aD b) 0)
 g3:t 3=.pv (.rptr (Z ra) 0)
 g4:t 4=.pv (.rptr (Z rb) 0)
 g5:t 5=.pv (.rptr (aB hints) 0)
def Bp(E:YEnv P)(a:List aq)(d:Int)(b:List aq)(f:Int)(c:List Vc)(n:Nat):QY:=λe t i s=>match e with
 |.normal=>s=false/\i=n/\CandT E.l a d b f c t
 |.ret=>s=true/\i<E.xs.length
 |_=>False
theorem UK(a:List aq)(A:Int)(b:List aq)(B:Int)(g:List Vc)(ha:a.length<=9223372036854775807)(hb:b.length<=9223372036854775807)(hl:g.length<=9223372036854775807):DT prog 239 (si a A b B g) ((mO a A b B g).map ai):=by
 refine K6 (c:=(f239.body).getD .skip) func239 rfl (by kernel_rfl) rfl (by simp[f239]) ?_;intro E j G;simp only[f239,Y8]at j|-;rw[<-G];have U:CandT E.l a A b B g (tI E.l (si a A b B g)):=⟨rfl,rfl,rfl,rfl,rfl,rfl⟩;generalize tI E.l (si a A b B g)=t at *;obtain⟨g0,g1,g2,g3,g4,g5⟩:=U;have hF:=iB;have ca:=vK a ha;have cb:=vK b hb;have Y:=QI A;have ak:=QI B
 have K:mO a A b B g=if vD a A b B then g.filter aI++((if lJ a b then[kh a b]else[])++(kg++(if aI (mN a A b B)then[mN a A b B]else[])))else[]:=rfl
 have J:vD a A b B=(au a&&au b&&aP A 0 1048576&&aP B 0 1048576):=rfl
 cases aj:vD a A b B with
 |false=>
  rw[aj]at K J;simp only[YU,Y5]at K
  have X:E.xs.length=0:=by rw[G,K];rfl
  refine bj.seq ?_;refine bj.walk λC hP hN=>?_;rw[j]at hN;cases M:au a
  .rw[M]at ca
   refine GV (so g0 g1 g2 g3 g4 g5) ?_
   all_goals exact⟨.inr rfl,by simp[X]⟩
  rw[M]at ca J;cases N:au b
  .rw[N]at cb
   refine GV (so g0 g1 g2 g3 g4 g5) ?_
   all_goals exact⟨.inr rfl,by simp[X]⟩
  rw[N]at cb J;cases T:aP A 0 1048576
  .rw[T]at Y
   refine GV (so g0 g1 g2 g3 g4 g5) ?_
   all_goals exact⟨.inr rfl,by simp[X]⟩
  rw[T]at Y J
  have V:aP B 0 1048576=false:=by simpa using J.symm
  rw[V]at ak;refine GV (so g0 g1 g2 g3 g4 g5) ?_
  all_goals exact⟨.inr rfl,by simp[X]⟩
 |true=>
 have hk:=aj;rw[J]at hk;simp only[up]at hk;obtain⟨⟨⟨M,N⟩,T⟩,V⟩:=hk;rw[M]at ca;rw[N]at cb;rw[T]at Y;rw[V]at ak;rw[aj]at K;simp only[Za]at K;rw[K]at G;clear K J;refine bj.seq (bj.mono (Q:=Bp E a A b B g 0) ?_ ?_)
 .refine bj.walk λC hP hN=>?_
  rw[j]at hN;refine GV (so g0 g1 g2 g3 g4 g5) ?_
  all_goals exact⟨rfl,rfl,by constructor<;>simp[cH,av,g0,g1,g2,g3,g4,g5]⟩
 clear g0 g1 g2 g3 g4 g5;rintro e t i s h
 cases e with
 |ret=>exact⟨.inr rfl,by obtain⟨rfl,h⟩:=h;exact h⟩
 |normal=>
  obtain⟨rfl,rfl,U⟩:=h;show bj E _ _ _ _ _;refine bj.seq (bj.mono (Q:=Bp E a A b B g (g.filter aI).length) ?_ ?_)
  .obtain⟨g0,g1,g2,g3,g4,g5⟩:=U
   refine bj.seq ?_;refine bj.walk λC hP hN=>?_;rw[j]at hN;refine GV (so g0 g1 g2 g3 g4 g5) ?_;show bj E _ _ _ _ _;refine bj.block ?_;refine bj.loopN g.length (λk t i s=>s=false/\i=((g.take k).filter aI).length/\CandT E.l a A b B g t/\t 32=.pv (aB g)/\t 33=.pv (Z g.length)/\t 34=.pv (Z k)) ?_ ?_
   .refine⟨rfl,rfl,?_,?_⟩
    .constructor<;>simp[cH,av,g0,g1,g2,g3,g4,g5]
    .simp[cH,av]
   clear g0 g1 g2 g3 g4 g5;rintro k t i s hk ⟨rfl,rfl,⟨g0,g1,g2,g3,g4,g5⟩,q,r,z⟩;refine bj.blocks λC hP hN=>?_;rw[j]at hN;by_cases o:k<g.length
   .have y:=ae o hl
    generalize u:g[k]=v at *
    have I:g[k]?=some v:=by rw[an o,u]
    have cu:=FL v;have a6:=GL (p:=aI) I
    have W:g.take (k+1)=g.take k++[v]:=by rw[yAQ,I];rfl
    refine bu.seq ?_;refine GV (zAa g0 g1 g2 g3 g4 g5 q r z o) ?_;show bu E C _ _ _ _ _;refine bu.seq ?_;refine GV (zAa g0 g1 g2 g3 g4 g5 q r z o) ?_;refine bg.skip ?_;show bu E C _ _ _ _ _;refine bu.seqY (bu.block ?_);refine bu.seq ?_;refine GV (zAb g0 g1 g2 g3 g4 g5 q r z o I u) ?_;show bu E C _ _ _ _ _
    cases O:aI v with
    |true=>
     rw[O]at cu
     have hi:E.xs[((g.take k).filter aI).length]?=some (ai v):=by
      rw[G,a6,O];simp
     refine bu.seqY (bu.yield (hn:=[]) (d:=43) (f:=41) (x:=42) (pre:=[_,_,_,_,_]) (post:=[_,_]) rfl (by kernel_rfl) rfl rfl rfl rfl (by rw[j];decide) ?_);rw[j];simp -implicitDefEqProofs (maxSteps:=2000000) [g0,g1,g2,g3,g4,g5,q,r,z,o,I,u];refine rP cu ?_;simp -implicitDefEqProofs (maxSteps:=2000000) [g0,g1,g2,g3,g4,g5,q,r,z,o,I,u,cH];refine⟨by simp[dR,cH,av],hi,?_,?_⟩
     .show bj E _ _ _ _ _
      refine bj.cond (b:=true) (by simp[cH,av]) (λ_=>bj.ret ?_) (λh=>by cases h);exact⟨rfl,(th.1 hi).1⟩
     .show bj E _ _ _ _ _
      refine bj.cond (b:=false) (by simp[cH,av]) (λh=>by cases h) (λ_=>bj.skip ?_);show bj E _ _ _ _ _;clear hP hN;refine bj.walk λC hP hN=>?_;rw[j]at hN
      repeat' (first
       |with_reducible refine bg.seq ?_
       |(with_reducible ((first|refine bg.region hF (hn:=[]) (by kernel_rfl) ?_|refine bg.cond' ?_);simp -implicitDefEqProofs (maxSteps:=2000000) [hP,hN,g0,g1,g2,g3,g4,g5,q,r,z,o,I,u,y,cH]))
       |(with_reducible refine mV (by simp[g0,g1,g2,g3,g4,g5,q,r,z,o,I,u,y,cH]) (λhgd=>?_) (λhgd=>?_)<;>first|(exfalso;simp at hgd;done)|(exfalso;simp at hgd;omega)|simp -implicitDefEqProofs (maxSteps:=2000000) [hP,hN,g0,g1,g2,g3,g4,g5,q,r,z,o,I,u,y,cH])
       |with_reducible refine j6 ?_ ?_
       |(with_reducible refine jJ (λhcd=>?_) (λhcd=>?_)<;>(try (exfalso;clear hP hN;simp_all;done))<;>(try (exfalso;simp at *;omega)))
       |with_reducible refine bg.block ?_
       |(with_reducible ((first|refine bg.skip ?_|refine bg.exit ?_|refine bg.ret ?_);simp[g0,g1,g2,g3,g4,g5,q,r,z,o,I,u,y,cH])))
      repeat' (refine And.intro ?_ ?_)
      all_goals first|rfl|(rw[W,yAt];simp[O];done)|(simp[O,W,cH,av,q,r,y];done)|(constructor<;>simp[cH,av,g0,g1,g2,g3,g4,g5])
    |false=>
     rw[O]at cu;refine bu.walk ?_;refine GV (zAb g0 g1 g2 g3 g4 g5 q r z o I u) ?_;show bj E _ _ _ _ _;clear hP hN;refine bj.walk λC hP hN=>?_;rw[j]at hN
     repeat' (first
      |with_reducible refine bg.seq ?_
      |(with_reducible ((first|refine bg.region hF (hn:=[]) (by kernel_rfl) ?_|refine bg.cond' ?_);simp -implicitDefEqProofs (maxSteps:=2000000) [hP,hN,g0,g1,g2,g3,g4,g5,q,r,z,o,I,u,y,cH]))
      |(with_reducible refine mV (by simp[g0,g1,g2,g3,g4,g5,q,r,z,o,I,u,y,cH]) (λhgd=>?_) (λhgd=>?_)<;>first|(exfalso;simp at hgd;done)|(exfalso;simp at hgd;omega)|simp -implicitDefEqProofs (maxSteps:=2000000) [hP,hN,g0,g1,g2,g3,g4,g5,q,r,z,o,I,u,y,cH])
      |with_reducible refine j6 ?_ ?_
      |(with_reducible refine jJ (λhcd=>?_) (λhcd=>?_)<;>(try (exfalso;clear hP hN;simp_all;done))<;>(try (exfalso;simp at *;omega)))
      |with_reducible refine bg.block ?_
      |(with_reducible ((first|refine bg.skip ?_|refine bg.exit ?_|refine bg.ret ?_);simp[g0,g1,g2,g3,g4,g5,q,r,z,o,I,u,y,cH])))
     repeat' (refine And.intro ?_ ?_)
     all_goals first|rfl|(rw[W,yAt];simp[O];done)|(simp[O,W,cH,av,q,r,y];done)|(constructor<;>simp[cH,av,g0,g1,g2,g3,g4,g5])
   .have ad:k=g.length:=by omega
    subst ad;refine bu.walk ?_;refine GV (s7 g0 g1 g2 g3 g4 g5 q (gA r z)) ?_;exact⟨rfl,rfl,by constructor<;>simp[cH,av,g0,g1,g2,g3,g4,g5]⟩
  clear U;rintro e t i s h
  cases e with
  |ret=>exact⟨.inr rfl,by obtain⟨rfl,h⟩:=h;exact h⟩
  |normal=>
   obtain⟨rfl,rfl,U⟩:=h;show bj E _ _ _ _ _;generalize S:(g.filter aI).length=n1 at *;refine bj.seq (bj.mono (Q:=Bp E a A b B g (n1+(if lJ a b then[kh a b]else[]).length)) ?_ ?_)
   .obtain⟨g0,g1,g2,g3,g4,g5⟩:=U
    refine bj.blocks λC hP hN=>?_;rw[j]at hN;have cm:=UI a b ha hb;refine bu.seq ?_
    cases ah:lJ a b with
    |false=>
     rw[ah]at cm;refine GV (so g0 g1 g2 g3 g4 g5) ?_;show bu E C _ _ _ _ _;refine bu.walk ?_;refine GV (so g0 g1 g2 g3 g4 g5) ?_;exact⟨rfl,by simp,by constructor<;>simp[cH,av,g0,g1,g2,g3,g4,g5]⟩
    |true=>
     rw[ah]at cm
     have hi:E.xs[n1]?=some (ai (kh a b)):=by rw[G,ah,<-S];simp
     generalize kh a b=v at *;refine GV (so g0 g1 g2 g3 g4 g5) ?_;show bu E C _ _ _ _ _;refine bu.seqY (bu.yield (hn:=[]) (d:=57) (f:=55) (x:=56) (pre:=[_,_,_,_]) (post:=[_,_]) rfl (by kernel_rfl) rfl rfl rfl rfl (by rw[j];decide) ?_);rw[j];simp -implicitDefEqProofs (maxSteps:=2000000) [g0,g1,g2,g3,g4,g5,cH];refine⟨by simp[dR,cH,av],hi,?_,?_⟩
     .show bj E _ _ _ _ _
      refine bj.cond (b:=true) (by simp[cH,av]) (λ_=>bj.ret ?_) (λh=>by cases h);exact⟨rfl,(th.1 hi).1⟩
     .show bj E _ _ _ _ _
      refine bj.cond (b:=false) (by simp[cH,av]) (λh=>by cases h) (λ_=>bj.skip ?_);exact⟨rfl,rfl,by constructor<;>simp[cH,av,g0,g1,g2,g3,g4,g5]⟩
   clear U;rintro e t i s h
   cases e with
   |ret=>exact⟨.inr rfl,by obtain⟨rfl,h⟩:=h;exact h⟩
   |normal=>
    obtain⟨rfl,rfl,U⟩:=h;show bj E _ _ _ _ _;generalize b4:(if lJ a b then[kh a b]else[])=ml at *;generalize ar:n1+ml.length=n2 at *;refine bj.seq (bj.mono (Q:=Bp E a A b B g (n2+6)) ?_ ?_)
    .obtain⟨g0,g1,g2,g3,g4,g5⟩:=U
     have a8:=UH;refine bj.seq ?_;refine bj.walk λC hP hN=>?_;rw[j]at hN;refine GV (so g0 g1 g2 g3 g4 g5) ?_;show bj E _ _ _ _ _;refine bj.block ?_;refine bj.loopN 6 (λk t i s=>s=false/\i=n2+k/\CandT E.l a A b B g t/\t 60=.pv (aB kg)/\t 61=.pv (Z 6)/\t 62=.pv (Z k)) ?_ ?_
     .refine⟨rfl,rfl,?_,?_⟩
      .constructor<;>simp[cH,av,g0,g1,g2,g3,g4,g5]
      .simp[cH,av]
     clear g0 g1 g2 g3 g4 g5;rintro k t i s hk ⟨rfl,rfl,⟨g0,g1,g2,g3,g4,g5⟩,D,F,H⟩;refine bj.blocks λC hP hN=>?_;rw[j]at hN;by_cases o:k<6
     .have y:i64.wrap ((k:Int)+1)=(k:Int)+1:=aa
      have P:(k:Int)<6:=by omega
      have L:k<kg.length:=o;generalize u:kg[k]=v at *
      have I:kg[k]?=some v:=by rw[an L,u]
      have hi:E.xs[n2+k]?=some (ai v):=by
       rw[G,<-ar,<-S,YS,YX (by omega),YX (by omega),show(g.filter aI).length+ml.length+k-(g.filter aI).length-ml.length=k by omega,YT L,I];rfl
      generalize kg=AX at *;refine bu.seq ?_;refine GV (zAa g0 g1 g2 g3 g4 g5 D F H (gA o P)) ?_;show bu E C _ _ _ _ _;refine bu.seq ?_;refine GV (zAa g0 g1 g2 g3 g4 g5 D F H (gA o P)) ?_;refine bg.skip ?_;show bu E C _ _ _ _ _;refine bu.seqY (bu.block ?_);refine bu.seq ?_;refine GV (zAb g0 g1 g2 g3 g4 g5 D F H o P (be L I u)) ?_;show bu E C _ _ _ _ _;refine bu.seqY (bu.yield (hn:=[]) (d:=68) (f:=66) (x:=67) (pre:=[_,_]) (post:=[_]) rfl (by kernel_rfl) rfl rfl rfl rfl (by rw[j];decide) ?_);rw[j];simp -implicitDefEqProofs (maxSteps:=2000000) [g0,g1,g2,g3,g4,g5,D,F,H,L,I,u,cH];refine⟨by simp[dR,cH,av],hi,?_,?_⟩
      .show bj E _ _ _ _ _
       refine bj.cond (b:=true) (by simp[cH,av]) (λ_=>bj.ret ?_) (λh=>by cases h);exact⟨rfl,(th.1 hi).1⟩
      .show bj E _ _ _ _ _
       refine bj.cond (b:=false) (by simp[cH,av]) (λh=>by cases h) (λ_=>bj.skip ?_);show bj E _ _ _ _ _;clear hP hN;refine bj.walk λC hP hN=>?_;rw[j]at hN
       repeat' (first
        |with_reducible refine bg.seq ?_
        |(with_reducible ((first|refine bg.region hF (hn:=[]) (by kernel_rfl) ?_|refine bg.cond' ?_);simp -implicitDefEqProofs (maxSteps:=2000000) [hP,hN,g0,g1,g2,g3,g4,g5,D,F,H,y,cH]))
        |(with_reducible refine mV (by simp[g0,g1,g2,g3,g4,g5,D,F,H,y,cH]) (λhgd=>?_) (λhgd=>?_)<;>first|(exfalso;simp at hgd;done)|(exfalso;simp at hgd;omega)|simp -implicitDefEqProofs (maxSteps:=2000000) [hP,hN,g0,g1,g2,g3,g4,g5,D,F,H,y,cH])
        |with_reducible refine j6 ?_ ?_
        |(with_reducible refine jJ (λhcd=>?_) (λhcd=>?_)<;>(try (exfalso;clear hP hN;simp_all;done))<;>(try (exfalso;simp at *;omega)))
        |with_reducible refine bg.block ?_
        |(with_reducible ((first|refine bg.skip ?_|refine bg.exit ?_|refine bg.ret ?_);simp[g0,g1,g2,g3,g4,g5,D,F,H,y,cH])))
       repeat' (refine And.intro ?_ ?_)
       all_goals first|rfl|(simp[cH,av,D,F,y];done)|(constructor<;>simp[cH,av,g0,g1,g2,g3,g4,g5])
     .have ad:k=6:=by omega
      subst ad;refine bu.walk ?_;refine GV (s7 g0 g1 g2 g3 g4 g5 D (gA F H)) ?_;exact⟨rfl,rfl,by constructor<;>simp[cH,av,g0,g1,g2,g3,g4,g5]⟩
    clear U;rintro e t i s h
    cases e with
    |ret=>exact⟨.inr rfl,by obtain⟨rfl,h⟩:=h;exact h⟩
    |normal=>
     obtain⟨rfl,rfl,⟨g0,g1,g2,g3,g4,g5⟩⟩:=h;show bj E _ _ _ _ _;refine bj.blocks λC hP hN=>?_;rw[j]at hN;have c1:=CA a ha;have c2:=CA b hb;have b2:=(bm M).2.1;have b3:=(bm N).2.1;have bq:=fE M;have J:=fE N;simp only[aP,up,Is]at T V;have hw:i64.wrap (A+B)=A+B:=aa;have c3:=Qt (aw a) (aw b) (A+B) 64 (by omega) (by omega);have a7:(iS (aw a) (aw b) (A+B) 64).2.n=mN a A b B:=rfl;generalize iS (aw a) (aw b) (A+B) 64=R at *;rw[<-a7]at G;refine bu.draw (hn:=[]) (by kernel_rfl) (by kernel_rfl) ?_;rw[j];simp -implicitDefEqProofs (maxSteps:=2000000) [g0,g1,g2,g3,g4,g5];refine vb c1 ?_;simp -implicitDefEqProofs (maxSteps:=2000000) [g0,g1,g2,g3,g4,g5];refine vb c2 ?_;simp -implicitDefEqProofs (maxSteps:=2000000) [g0,g1,g2,g3,g4,g5,hw];refine vb c3 ?_;simp -implicitDefEqProofs (maxSteps:=2000000) [g0,g1,g2,g3,g4,g5,hw];refine⟨by kernel_rfl,?_⟩;have cu:=FL R.2.n;refine bu.seq ?_
     cases O:aI R.2.n with
     |false=>
      rw[O]at cu
      have hL:n2+6=E.xs.length:=by
       rw[G,O,Zm,Zb,Zb,Zb,S];simp only[YU,Y5,yAq,yAI];omega
      refine GV (so g0 g1 g2 g3 g4 g5) ?_;show bu E C _ _ _ _ _;refine bu.walk ?_;refine GV (so g0 g1 g2 g3 g4 g5) ?_
      all_goals exact hL
     |true=>
      rw[O]at cu
      have hL:n2+6+1=E.xs.length:=by
       rw[G,O,Zm,Zb,Zb,Zb,S];simp only[Za,yAq,yAI];omega
      have hi:E.xs[n2+6]?=some (ai R.2.n):=by
       rw[G,O,<-ar,<-S,YS,YX (by omega),YX (by omega),show(g.filter aI).length+ml.length+6-(g.filter aI).length-ml.length=6 by omega,YX (by decide)];rfl
      refine GV (so g0 g1 g2 g3 g4 g5) ?_;show bu E C _ _ _ _ _;refine bu.cond (m:=81) (b:=true) (by simp) (λ_=>?_) (λh=>by cases h);refine bu.yield (hn:=[]) (d:=85) (f:=82) (x:=84) (pre:=[_,_,_]) (post:=[]) rfl (by kernel_rfl) rfl rfl rfl rfl (by rw[j];decide) ?_;rw[j];simp -implicitDefEqProofs (maxSteps:=2000000) [g0,g1,g2,g3,g4,g5,cH];exact⟨rfl,hi,by omega,hL⟩
    |_=>exact h.elim
   |_=>exact h.elim
  |_=>exact h.elim
 |_=>exact h.elim
set_option maxRecDepth 100000 in
theorem IQ:Ce prog 208:=by
 refine⟨by kernel_rfl,λn args w=>?_⟩;refine callsDIn_of_wpSIn func208 rfl trivial λc e d=>?_;apply wpSIn_seq;apply wpSIn_region
 have a:∀k,k<f208.ntmps->k<args.size+(f208.ntmps-args.size):=by intro k h;omega
 rw[ntmps208]at a;have b:=a 0 (by decide);have h1:=a 1 (by decide);have h2:=a 2 (by decide);have h3:=a 3 (by decide);simp[wpOpsSIn,go_sem,recoverD,d,ntmps208,Exit.thenS,b,h1,h2,h3];refine wpSIn_cond (t:=false) (by simp[Act.eval,b,h1,h2,h3]) ?_;simp only[YU,Y5];refine wpSIn_of_wpIn rfl (wpIn_skip ?_);cases c
 simp_all[bodyPostS,results,results208]
def ki(a:List aq)(d:Int)(b:List aq)(e:Int)(c:List Vc):Vc×Bool:=match(mO a d b e c).find? (λn=>iZ n a d b e)with
 |some n=>(n,true)
 |none=>((0,0,0),false)
theorem Kr{l:List α}(h:∀j x,j<l.length->l[j]?=some x->p x=false):l.find? p=none:=by
 rw[Z2];intro x b;obtain⟨j,a,rfl⟩:=yAb.1 b;rw[h j _ a (an a)];simp
theorem xx{α:Type}{p:α->Bool}:∀{l:List α}{i:Nat}{v:α},l[i]?=some v->p v=true->(∀j x,j<i->l[j]?=some x->p x=false)->l.find? p=some v
 |[],i,v,h,_,_=>by simp at h
 |y::l,0,v,h,hp,_=>by simp at h;subst h;simp[hp]
 |y::l,i+1,v,h,hp,hq=>by
  have a:=hq 0 y (by omega) rfl;rw[List.find?_cons,a];exact xx (by simpa using h) hp λj x c b=>hq (j+1) x (by omega) (by simpa using b)
abbrev IR:List Nat:=[5,6,7,8,10,11]
abbrev Sj(a:List aq)(c:Int)(b:List aq)(d:Int):Nat->List PV:=λk=>if k=5 then[aD a]else if k=6 then[Z c]else if k=7 then[aD b]else if k=8 then[Z d]else if k=10 then[Z 0,Z 0,Z 0]else[B false]
structure FindI(a:List aq)(ra:Int)(b:List aq)(rb:Int)(n:Vc)(k:Bool)(h:Hp):Prop where
 h5:h 5=some (.box [.pv (aD a)] false false)
 h6:h 6=some (.box [.pv (Z ra)] false false)
 h7:h 7=some (.box [.pv (aD b)] false false)
 h8:h 8=some (.box [.pv (Z rb)] false false)
 h10:h 10=some (.box [.pv (Z n.1),.pv (Z n.2.1),.pv (Z n.2.2)] false false)
 h11:h 11=some (.box [.pv (B k)] false false)
theorem FindI.all{n:Vc}{k:Bool}{h:Hp}(H:FindI a ra b rb n k h){j:Nat}(c:j∈IR):∃d,h j=some (.box d false false):=by
 simp only[Zi,Zo,ZP]at c;rcases c with rfl|rfl|rfl|rfl|rfl|rfl
 .exact⟨_,H.h5⟩
 .exact⟨_,H.h6⟩
 .exact⟨_,H.h7⟩
 .exact⟨_,H.h8⟩
 .exact⟨_,H.h10⟩
 .exact⟨_,H.h11⟩
def NH(a:List aq)(d:Int)(b:List aq)(e:Int)(c:List Vc)(i:Nat):Prop:=∀j x,j<i->c[j]?=some x->iZ x a d b e=false
def Sk(a:List aq)(c:Int)(b:List aq)(d:Int)(e:List Vc)(i:Nat)(h:Hp):Prop:=∃n,e[i]?=some n/\iZ n a c b d=true/\FindI a c b d n true h/\NH a c b d e i
set_option maxRecDepth 100000 in
theorem UL(a:List aq)(q:Int)(b:List aq)(r:Int)(c:List Vc)(ha:a.length<=9223372036854775807)(hb:b.length<=9223372036854775807)(hl:c.length<=9223372036854775807):aS prog 168 [.pv (aD a),.pv (Z q),.pv (aD b),.pv (Z r),.pv (aB c)] [] [] (.pv (.tup [ai (ki a q b r c).1,B (ki a q b r c).2])):=by
 have F:ki a q b r c=match(mO a q b r c).find? (λn=>iZ n a q b r)with
  |some n=>(n,true)
  |none=>((0,0,0),false):=rfl
 have S:=UK a q b r c ha hb hl;generalize mO a q b r c=L at *;refine N8 (args:=[aD a,Z q,aD b,Z r,aB c]) func168 rfl (by kernel_rfl) (by simp[f168]) ?_;intro C hP hN H;simp only[f168]at hN|-;have hF:=iB;refine rQ.seq H ?_;refine GV trivial ?_;refine rQ.defer (pre:=[_]) (hn:=[]) (g:=208) rfl (λo X c' R=>by simp at X;subst X;cases R) rfl rfl rfl rfl rfl (by rw[hP];exact IQ) ?_;simp -implicitDefEqProofs [hP,hN];refine rQ.rangeS (kd:=[12]) H (gf:=239) (caps:=si a q b r c) (xs:=L.map ai) (by rw[hP];exact S) (by rw[hN];decide) (ks:=IR) (hin:=Sj a q b r) (t:=λm=>if m∈IR then .ptr m 0 else .undef) ?_ (λi h=>FindI a q b r (0,0,0) false h/\h 12=none/\NH a q b r L i) (λi h=>Sk a q b r L i h) ?_ ?_ ?_ ?_ (by kernel_rfl) (hn:=[]) ?_ ?_
 .skip
  have q1:=UJ a q b r c;refine GV trivial ?_;refine⟨⟨rfl,rfl,rfl,rfl,rfl,rfl⟩,λm=>?_⟩;by_cases W:m=5\/m=6\/m=7\/m=8\/m=10\/m=11
  .rcases W with rfl|rfl|rfl|rfl|rfl|rfl<;>simp
  .simp only[YR W];simp
   omega
 .refine⟨by constructor<;>rfl,rfl,λj x hj=>by omega⟩
 .rintro i h k T ⟨hi,_⟩
  exact hi.all T
 .rintro i h k T ⟨n,_,_,hi,_⟩
  exact hi.all T
 .intro C1 C2 l i x h P N Q O K ⟨Y,p,hq⟩
  rw[YS,II]at K;obtain⟨v,K,rfl⟩:=K;have hF:=Iu l;have J:=hP;have I:=hN;clear hP hN;have hP:=P.trans J;have hN:=N.trans I;have u:=Q.trans J;have s:=O.trans I;obtain⟨y,z,A,D,d,f⟩:=Y;have M:=VR v a q b r ha hb
  cases G:iZ v a q b r with
  |true=>
   rw[G]at M
   repeat' (first
    |with_reducible refine bg.seq ?_
    |(with_reducible ((first|refine bg.region hF (hn:=[]) (by kernel_rfl) ?_|refine rP (M) ?_|refine bg.cond' ?_);simp -implicitDefEqProofs (maxSteps:=2000000) [hP,hN,u,s,mG,y,z,A,D,d,f,p]))
    |(with_reducible refine mV (by simp[u,s,mG,y,z,A,D,d,f,p]) (λhgd=>?_) (λhgd=>?_)<;>first|(exfalso;simp at hgd;done)|(exfalso;simp at hgd;omega)|simp -implicitDefEqProofs (maxSteps:=2000000) [hP,hN,u,s,mG,y,z,A,D,d,f,p])
    |with_reducible refine j6 ?_ ?_
    |(with_reducible refine jJ (λhcd=>?_) (λhcd=>?_)<;>(try (exfalso;clear hP hN;simp_all;done))<;>(try (exfalso;simp at *;omega)))
    |with_reducible refine bg.block ?_
    |(with_reducible ((first|refine bg.skip ?_|refine bg.exit ?_|refine bg.ret ?_);simp[u,s,mG,y,z,A,D,d,f,p])))
   exact⟨v,K,G,by constructor<;>simp[y,z,A,D,d,f],hq⟩
  |false=>
   rw[G]at M
   repeat' (first
    |with_reducible refine bg.seq ?_
    |(with_reducible ((first|refine bg.region hF (hn:=[]) (by kernel_rfl) ?_|refine rP (M) ?_|refine bg.cond' ?_);simp -implicitDefEqProofs (maxSteps:=2000000) [hP,hN,u,s,mG,y,z,A,D,d,f,p]))
    |(with_reducible refine mV (by simp[u,s,mG,y,z,A,D,d,f,p]) (λhgd=>?_) (λhgd=>?_)<;>first|(exfalso;simp at hgd;done)|(exfalso;simp at hgd;omega)|simp -implicitDefEqProofs (maxSteps:=2000000) [hP,hN,u,s,mG,y,z,A,D,d,f,p])
    |with_reducible refine j6 ?_ ?_
    |(with_reducible refine jJ (λhcd=>?_) (λhcd=>?_)<;>(try (exfalso;clear hP hN;simp_all;done))<;>(try (exfalso;simp at *;omega)))
    |with_reducible refine bg.block ?_
    |(with_reducible ((first|refine bg.skip ?_|refine bg.exit ?_|refine bg.ret ?_);simp[u,s,mG,y,z,A,D,d,f,p])))
   refine⟨by constructor<;>simp[St.kill,fB,dL,y,z,A,D,d,f],by simp[St.kill],λj x hj E=>?_⟩;by_cases e:j=i
   .subst e;rw[K]at E;injection E with E;subst E;exact G
   .exact hq j x (by omega) E
 .rintro h ⟨⟨y,z,A,D,d,f⟩,p,hq⟩
  rw[Zm]at hq;have hn:L.find? (λn=>iZ n a q b r)=none:=Kr hq;rw[hn]at F;rw[F];simp -implicitDefEqProofs [hP,hN,y,z,A,D,d,f]
 .rintro i h hi ⟨n,U,V,⟨y,z,A,D,d,f⟩,hq⟩
  rw[xx U V hq]at F;rw[F];simp -implicitDefEqProofs [hP,hN,y,z,A,D,d,f]
abbrev IS(SH:List Sh)(PR:List (Nat×Nat))(PT:List (List aq)):PV:=.agg [.sl (SH.map ba),.sl (PR.map rj),.sl (PT.map aD)]
abbrev Sl(a b:List aq)(c d:Int):PV:=.agg [aD a,aD b,Z c,Z d]
def db(PT:List (List aq))(i:Nat):List aq:=(PT[i]?).getD []
def bV(SH:List Sh)(i:Nat):Int:=((SH[i]?).map Sh.rad).getD 0
structure BdOk(SH:List Sh)(PR:List (Nat×Nat))(PT:List (List aq)):Prop where
 len:PT.length=SH.length
 prs:∀p∈PR,p.1<SH.length/\p.2<SH.length
 og:SH.length<=24
 few:PR.length<=576
 pts:∀l∈PT,l.length<=8
theorem UM(SH:List Sh)(PR:List (Nat×Nat))(PT:List (List aq))(hb:BdOk SH PR PT)(k:Nat)(p:Nat×Nat)(hp:PR[k]?=some p):aH 167 (IS SH PR PT) (Z k) (Sl (db PT p.1) (db PT p.2) (bV SH p.1) (bV SH p.2)):=by
 obtain⟨o,d⟩:=th.1 hp;obtain⟨i,j⟩:=p;have hpr:=hb.prs _ (An hp);simp only at hpr;have B:=hb.len;have s:∀h,PR[k]'h=(i,j):=λ_=>d
 have i1:i<PT.length:=by omega
 have A:j<PT.length:=by omega
 obtain⟨a,ha⟩:∃x,PT[i]?=some x:=⟨_,an i1⟩;obtain⟨b,c⟩:∃x,PT[j]?=some x:=⟨_,an A⟩;obtain⟨u,e⟩:∃x,SH[i]?=some x:=⟨_,an hpr.1⟩;obtain⟨v,f⟩:∃x,SH[j]?=some x:=⟨_,an hpr.2⟩
 have q:∀h,PT[i]'h=a:=λh=>by rw[an h]at ha;exact ZB ha
 have r:∀h,PT[j]'h=b:=λh=>by rw[an h]at c;exact ZB c
 have y:∀h,SH[i]'h=u:=λh=>by rw[an h]at e;exact ZB e
 have z:∀h,SH[j]'h=v:=λh=>by rw[an h]at f;exact ZB f
 have g:db PT i=a:=by simp[db,ha]
 have l:db PT j=b:=by simp[db,c]
 have m:bV SH i=u.rad:=by simp[bV,e]
 have n:bV SH j=v.rad:=by simp[bV,f]
 rw[g,l,m,n];obtain⟨h1,h2⟩:=hpr;refine Dp func167 λC hP hN=>?_;exact Gy
def fw(s:Sce)(bx:List Iv):Bool:=decide (ao s=0)&&jQ s.js bx
theorem IT{p:Nat×Nat}(h:p∈cy s):p.1<p.2/\p.2<s.shs.length/\fP s p.1 p.2=true:=by
 have a:∀i k,k<=s.shs.length->p∈kF s i k->p.1<p.2/\p.2<s.shs.length/\fP s p.1 p.2=true:=by
  intro i k
  induction k with
  |zero=>intro _ h;cases h
  |succ k ih=>
   intro b h;rw[kF,Y7]at h;rcases h with h|h
   .exact ih (by omega) h
   .split at h
    .rename_i hc
     rw[Zr]at h;subst h;exact⟨hc.1,by omega,hc.2⟩
    .cases h
 have hN:∀i,p∈ji s i->p.1<p.2/\p.2<s.shs.length/\fP s p.1 p.2=true:=by
  intro i
  induction i with
  |zero=>intro h;cases h
  |succ i ih=>
   intro h;rw[ji,Y7]at h;rcases h with h|h
   .exact ih h
   .exact a i _ (Y0 _) h
 unfold cy at h;split at h
 .exact hN _ h
 .cases h
theorem IU(h:fw s bx=true):BdOk s.shs (cy s) (eR s bx):=by
 simp only[fw,up,Is]at h;obtain⟨f,g,i,a,j,d,k⟩:=nu h.1;have b:=yM s s.shs.length;have e:s.shs.length*s.shs.length<=24*24:=yAa a a;refine⟨by simp[eR],λp hp=>?_,a,?_,λl b=>?_⟩
 .have:=IT hp;omega
 .unfold cy;rw[YY h.1];omega
 .obtain⟨x,c,rfl⟩:=Zg.1 b
  have:=(d x c).2;simp only[fO,up,Is]at this;simp only[dE,Zm];omega
def NI(bx:List Iv)(i:Nat):Prop:=∀k x,k<i->bx[k]?=some x->vI x=true
theorem UN(s:Sce)(bx:List Iv)(hs:ScL s)(y:bx.length<=9223372036854775807):aH 166 (aW s) (iv bx) (.tup (if fw s bx then[IS s.shs (cy s) (eR s bx),B true]else[IS [] [] [],B false])):=by
 have hd:fw s bx=(decide (ao s=0)&&(decide (bx.length=s.js.length)&&bx.all vI)):=rfl;have J:=HA s hs;have I:=hs.js;by_cases d:ao s=0
 case neg=>
  have n:(ao s !=0)=true:=by simp[d]
  rw[ZU d,Zt]at hd;rw[hd];refine Dp func166 λC hP hN=>?_;exact Gy
 have n:(ao s !=0)=false:=by simp[d]
 by_cases h1:bx.length=s.js.length
 case neg=>
  have o:((bx.length:Int)!=(s.js.length:Int))=true:=by simp;omega
  have G:¬(bx.length:Int)=(s.js.length:Int):=by omega
  rw[ZU h1,Zt,yAc]at hd;rw[hd];refine Dp func166 λC hP hN=>?_;exact Gy
 have o:((bx.length:Int)!=(s.js.length:Int))=false:=by simp[h1]
 have H:jQ s.js bx=bx.all vI:=by
  show(decide (bx.length=s.js.length)&&bx.all vI)=_;rw[Zs h1,Zf]
 rw[Zs d,Zs h1,Zf,Zf]at hd;rw[hd];have g:=VA s bx hs d;rw[H]at g;have cR:=Vv s hs;generalize eR s bx=PT at *;generalize cy s=PR at *;refine Dp func166 λC hP hN=>?_;refine Gz ?_;refine WP.loopN [7] bx.length (λi st=>st.t 1=.pv (iv bx)/\st.t 2=.ptr 2 0/\st.h 2=some (.box [.pv (.sl (s.js.map aQ)),.pv (.sl (s.ms.map bb)),.pv (.sl (s.shs.map ba)),.pv (.sl (s.sks.map aK))] true false)/\st.t 4=.ptr 4 0/\st.h 4=some (.box [.pv (.val (.slice none 0 0)),.pv (.val (.slice none 0 0)),.pv (.val (.slice none 0 0))] true false)/\st.t 21=.pv (iv bx)/\st.t 22=.pv (Z bx.length)/\st.t 23=.pv (Z i)/\st.h 7=none/\NI bx i) ?_ ?_
 .simp[h1]
  exact λk x K=>by omega
 rintro i st hi ⟨g1,g2,q,g4,r,j,l,m,u,hq⟩;by_cases b:i<bx.length
 .have D:=ae b y
  generalize f:bx[i]=v at *
  have E:bx[i]?=some v:=by rw[an b,f]
  have F:=j9 v.1 v.2;have jk:vI v=aO v.1 v.2:=rfl;have A:=mZ (p:=vI) E hq
  cases c:aO v.1 v.2 with
  |true=>
   rw[c]at F;have e:NI bx (i+1):=A c;refine GT (zAb g1 g2 q g4 r j l m u b E (gA f D)) ?_
   all_goals exact e
  |false=>
   rw[c]at F
   have a:bx.all vI=false:=by
    cases h:bx.all vI with
    |false=>rfl
    |true=>rw[L4]at h;have:=h v (An E);rw[jk,c]at this;cases this
   rw[a];exact Gy
 .have z:i=bx.length:=by omega
  subst z;have a:bx.all vI=true:=pJ hq b;have g:=g a;rw[a];exact Gy
def LX(SH:List Sh)(PT:List (List aq))(n:Vc)(p:Nat×Nat):Bool:=iZ n (db PT p.1) (bV SH p.1) (db PT p.2) (bV SH p.2)
def Sm(SH:List Sh)(PR:List (Nat×Nat))(PT:List (List aq))(ns:List Vc)(i:Nat):Prop:=∀k n p,k<i->ns[k]?=some n->PR[k]?=some p->LX SH PT n p=true
def yH(SH:List Sh)(PR:List (Nat×Nat))(PT:List (List aq))(ns:List Vc):Bool:=decide (ns.length=PR.length)&&(ns.zip PR).all λx=>LX SH PT x.1 x.2
theorem Ks(b:ns.length=PR.length)(h:Sm SH PR PT ns ns.length):yH SH PR PT ns=true:=by
 simp only[yH,up,Is,L4];refine⟨b,λx c=>?_⟩;obtain⟨k,a,rfl⟩:=yAb.1 c;rw[List.length_zip]at a;rw[List.getElem_zip];exact h k _ _ (by omega) (an (by omega)) (an (by omega))
def sj(SH:List Sh)(PT:List (List aq))(x y:List Int)(p:Nat×Nat):Bool:=oC x y (db PT p.1) (bV SH p.1) (db PT p.2) (bV SH p.2)&&decide (0<=lc x y (db PT p.1) (bV SH p.1) (db PT p.2) (bV SH p.2))
structure Wit where
 pair:Int
 a:List Int
 b:List Int
abbrev Sn(w:Wit):PV:=.agg [Z w.pair,zs w.a,zs w.b]
def LY(SH:List Sh)(PR:List (Nat×Nat))(PT:List (List aq))(w:Wit):Bool:=decide (0<=w.pair)&&match PR[w.pair.toNat]? with
 |some p=>sj SH PT w.a w.b p
 |none=>false
set_option maxRecDepth 100000 in
@[simp] theorem UO:gW prog 165:=by
 have hf:=func165;have nt:=ntmps165;have rs:=results165;exact PH
@[simp] theorem YG:ue prog 258=true:=by kernel_rfl
@[simp] theorem YH:ue prog 256=true:=by kernel_rfl
structure Vd where
 kind:Int
 ns:List Vc
 w:Wit
abbrev D3(v:Vd):PV:=.agg [Z v.kind,aB v.ns,Z v.w.pair,zs v.w.a,zs v.w.b]
abbrev So(ns:List Vc):PV:=.ifc 258 (.agg [aB ns])
abbrev Sq(w:Wit):PV:=.ifc 256 (Sn w)
theorem vS(ns:List Vc):aT 172 (So ns) (D3 ⟨1,ns,⟨0,[],[]⟩⟩):=by
 refine Dp func172 λC hP hN=>?_;exact Gy
theorem vC(w:Wit):aT 172 (Sq w) (D3 ⟨2,[],w⟩):=by
 refine Dp func172 λC hP hN=>?_;exact Gy
def sm(s:Sce)(bx:List Iv)(ns:List Vc):Bool:=fw s bx&&yH s.shs (cy s) (eR s bx) ns
def Fu(s:Sce)(bx:List Iv)(w:Wit):Bool:=fw s bx&&LY s.shs (cy s) (eR s bx) w
def jO(a:List Vc)(k:Nat):List Vc:=(a.drop k).take 1
def qM(SH:List Sh)(PT:List (List aq))(a:List Vc)(k:Nat)(p:Nat×Nat):Vc×Bool:=ki (db PT p.1) (bV SH p.1) (db PT p.2) (bV SH p.2) (jO a k)
def qH(SH:List Sh)(PT:List (List aq))(p:Nat×Nat):Int×NSt:=iS (aw (db PT p.1)) (aw (db PT p.2)) (bV SH p.1+bV SH p.2) 64
def df(SH:List Sh)(PR:List (Nat×Nat))(PT:List (List aq))(a:List Vc):List Vc:=PR.mapIdx λk p=>(qM SH PT a k p).1
def iM(SH:List Sh)(PR:List (Nat×Nat))(PT:List (List aq))(a:List Vc):Nat->Nat->Bool->Vd
 |0,_,ap=>if ap then⟨1,df SH PR PT a,⟨0,[],[]⟩⟩else⟨0,df SH PR PT a,⟨0,[],[]⟩⟩
 |f+1,k,ap=>match PR[k]? with
  |some p=>if(qM SH PT a k p).2=true then iM SH PR PT a f (k+1) ap
   else if sj SH PT (qH SH PT p).2.w (qH SH PT p).2.v p=true then⟨2,[],⟨k,(qH SH PT p).2.w,(qH SH PT p).2.v⟩⟩
   else iM SH PR PT a f (k+1) false
  |none=>if ap then⟨1,df SH PR PT a,⟨0,[],[]⟩⟩else⟨0,df SH PR PT a,⟨0,[],[]⟩⟩
def cW(s:Sce)(bx:List Iv)(a:List Vc):Vd:=if fw s bx then iM s.shs (cy s) (eR s bx) a (cy s).length 0 true else⟨0,[],⟨0,[],[]⟩⟩
theorem Hu(h:fw s bx=true)(i:Nat):0<=bV s.shs i/\bV s.shs i<=1048576:=by
 simp only[fw,up,Is]at h;obtain⟨_,_,_,_,_,b,_⟩:=nu h.1;unfold bV
 cases a:s.shs[i]? with
 |none=>simp
 |some u=>
  have:=(b u (An a)).2;simp only[fO,up,Is]at this;simp only[ZD,Y8];omega
theorem oE{l:List aq}(h:l.length<=8):(aw l).length<=8:=by unfold aw;split<;>simp<;>omega
theorem vE(hb:BdOk SH PR PT)(i:Nat):(db PT i).length<=8:=by
 unfold db
 cases h:PT[i]? with
 |none=>simp
 |some l=>exact hb.pts l (An h)
theorem OB{h:List Vc}(hf:(ki a ra b rb h).2=false):(ki a ra b rb h).1=(0,0,0):=by
 unfold ki at hf|-;split
 .rename_i n e;rw[e]at hf;cases hf
 .rfl
theorem xy(a b:List Vc)(rho st:Int):(iS a b rho st).2.w.length<=8/\(iS a b rho st).2.v.length<=8:=by
 unfold iS;split
 .rename_i h
  simp only[ri,up]at h;have c:=jw.1 h.1.1.1;have d:=jw.1 h.1.1.2;have:=vA (rho:=rho) (steps:=st.toNat) h.1.1.1 h.1.1.2 (st.toNat+1) (tr a b) (Ft c.1 d.1);rw[this.wl,this.vl];exact⟨c.2.1,d.2.1⟩
 .simp
theorem Ct(l:List Vc):(l.map ai).all (rH 3)=true:=by
 rw[L4];intro x a;obtain⟨v,_,rfl⟩:=Zg.1 a;rfl
theorem Fw(a:List Vc)(i:Nat)(z:Option Value)(e n:Nat)(y:Option Value):kw {size:=n,zero:=z,kind:=TK.slice e 3 24 y} (.pv (aB a)) (some (.pv (.val (.int .i64 (if a.length<i then(a.length:Int)else(i:Int)))))) (some (.pv (.val (.int .i64 (min ((i:Int)+1) (a.length:Int))))))=some (.pv (aB (jO a i))):=by
 have h1:0<=(if a.length<i then(a.length:Int)else(i:Int)):=by split<;>omega
 have h2:0<=min ((i:Int)+1) (a.length:Int):=by omega
 have h3:(if a.length<i then(a.length:Int)else(i:Int)).toNat=min i a.length:=by split<;>omega
 have h4:(min ((i:Int)+1) (a.length:Int)).toNat=min (i+1) a.length:=by omega
 simp only[kw,YY h1,YY h2,h3,h4,Zm];rw[YY ⟨by omega,by omega,by decide,Ct a⟩]
 congr 3
 rw[<-List.map_take,<-List.map_drop]
 congr 1
 unfold jO;by_cases h:i<a.length
 .rw[show min i a.length=i by omega,show min (i+1) a.length=i+1 by omega,List.drop_take,show i+1-i=1 by omega]
 .rw[show min i a.length=a.length by omega,show min (i+1) a.length=a.length by omega,yAE,List.drop_length,yAS (by omega)];rfl
theorem UP(s:Sce)(bx:List Iv)(a:List Vc)(hs:ScL s)(ah:bx.length<=9223372036854775807)(hh:a.length<=9223372036854775807):gz 122 (aW s) (iv bx) (aB a) (D3 (cW s bx a)):=by
 have cp:=UN s bx hs ah
 have hd:cW s bx a=if fw s bx then iM s.shs (cy s) (eR s bx) a (cy s).length 0 true else⟨0,[],⟨0,[],[]⟩⟩:=rfl
 cases hp:fw s bx with
 |false=>
  rw[hp]at cp hd;simp only[YU,Y5]at hd;rw[hd];refine Dp func122 λC hP hN=>?_;exact Gy
 |true=>
 rw[hp]at cp hd;simp only[Za]at hd;have hb:=IU hp;have P:=Hu hp;rw[hd];generalize cy s=PR at *;generalize eR s bx=PT at *;generalize s.shs=SH at *;have bq:=hb.few;generalize b:iM SH PR PT a PR.length 0 true=U at *;generalize m:(df SH PR PT a).map ai=J
 have L:J.length=PR.length:=by rw[<-m];simp[df]
 have N:∀k p,PR[k]?=some p->J[k]?=some (ai (qM SH PT a k p).1):=λk q K=>by rw[<-m,df,YS,List.getElem?_mapIdx,K];rfl
 refine Dp func122 λC hP hN=>?_;refine GT (gA (show(24:Int)*(PR.length:Int)<=281474976710656 by omega) (show(PR.length:Int)<=9223372036854775807 by omega)) ?_;refine WP.loopN [12,14,16] PR.length (λi st=>∃R:List PV,∃ap:Bool,iM SH PR PT a (PR.length-i) i ap=U/\st.t 2=.pv (aB a)/\st.t 6=.ptr 6 0/\st.h 6=some (.box [.pv (Z 0),.pv (.val (.slice none 0 0)),.pv (Z 0),.pv (.val (.slice none 0 0)),.pv (.val (.slice none 0 0))] true false)/\st.t 7=.ptr 7 0/\st.h 7=some (.box [.pv (.sl (SH.map ba)),.pv (.sl (PR.map rj)),.pv (.sl (PT.map aD))] true false)/\st.t 9=.arr 30 PR.length/\st.t 10=.pv (B ap)/\st.t 33=.pv (Z PR.length)/\st.t 34=.pv (Z i)/\st.h 12=none/\st.h 14=none/\st.h 16=none/\st.h 30=some (.row 60 3 R 0)/\R.length=PR.length/\(∀k,i<=k->k<PR.length->R[k]?=some (ol 0 0 0))/\∀k,k<i->R[k]?=J[k]?) ?_ ?_
 .refine⟨List.replicate PR.length (ol 0 0 0),true,b,?_⟩
  simp
  try (intro k K;first|exact K|simp[Zk,K])
 rintro i st hi ⟨R,ap,b,g2,Q,z,S,A,T,r,u,x,d,f,g,c,o,E,hR⟩;by_cases j:i<PR.length
 .have H:=ae j (by omega)
  obtain⟨p,hp⟩:∃p,PR[i]?=some p:=⟨_,an j⟩;have n:=E i (Y0 _) j;have G:=qq n
  have ak:i<R.length:=by omega
  have cc:=UM SH PR PT hb i p hp;have r1:=P p.1;have r2:=P p.2;have l1:=vE hb p.1;have l2:=vE hb p.2;have V:=UL (db PT p.1) (bV SH p.1) (db PT p.2) (bV SH p.2) (jO a i) (by omega) (by omega) (by simp[jO];omega);have aj:qM SH PT a i p=ki (db PT p.1) (bV SH p.1) (db PT p.2) (bV SH p.2) (jO a i):=rfl;rw[<-aj]at V;rw[show PR.length-i=(PR.length-i-1)+1 by omega]at b;simp only[iM,hp]at b;have M:=N i p hp
  have k2:∀k,k<i+1->(R.set i (ai (qM SH PT a i p).1))[k]?=J[k]?:=λk h1=>by
   rw[Y1];by_cases e:i=k
   .subst e;rw[YY rfl,YY ak,M]
   .rw[YR e];exact hR k (by omega)
  have k1:∀y k,i+1<=k->k<PR.length->(R.set i y)[k]?=some (ol 0 0 0):=λy k h1 h2=>by
   rw[Y1,YR (by omega)];exact E k (by omega) h2
  have I:(qM SH PT a i p).2=false->∀k,k<i+1->R[k]?=J[k]?:=λhf k h1=>by
   by_cases e:k=i
   .subst e;rw[n,M]
    have:(qM SH PT a k p).1=(0,0,0):=OB hf;rw[this]
   .exact hR k (by omega)
  have a8:∀k,i+1<=k->k<PR.length->R[k]?=some (ol 0 0 0):=λk h1 h2=>E k (by omega) h2;generalize qM SH PT a i p=F at *;clear N m L
  cases D:F.2 with
  |true=>
   rw[D]at V b;simp only[Za]at b;refine GT (zAc g2 Q z S A T r u x d f g c o (it j H n G @Fw)) ?_;rw[show PR.length-i-1=PR.length-(i+1) by omega]at b;refine⟨R.set i (ai F.1),?_⟩;cases ap
   .exact .inl ⟨b,rfl,rfl,by simp[o],k1 _,k2⟩
   .exact .inr ⟨b,rfl,rfl,by simp[o],k1 _,k2⟩
  |false=>
   rw[D]at V b;simp only[YU,Y5]at b;have I:=I D;have c1:=CA (db PT p.1) (by omega);have c2:=CA (db PT p.2) (by omega);have z1:=oE l1;have z2:=oE l2;have c3:=Qt (aw (db PT p.1)) (aw (db PT p.2)) (bV SH p.1+bV SH p.2) 64 (by omega) (by omega);have Y:qH SH PT p=iS (aw (db PT p.1)) (aw (db PT p.2)) (bV SH p.1+bV SH p.2) 64:=rfl;have a6:=xy (aw (db PT p.1)) (aw (db PT p.2)) (bV SH p.1+bV SH p.2) 64;rw[<-Y]at c3 a6;have hw:i64.wrap (bV SH p.1+bV SH p.2)=bV SH p.1+bV SH p.2:=aa;generalize qH SH PT p=l at *;have W:=UA l.2.w l.2.v (db PT p.1) (bV SH p.1) (db PT p.2) (bV SH p.2) (by omega) (by omega) (by omega) (by omega);have a7:sj SH PT l.2.w l.2.v p=(oC l.2.w l.2.v (db PT p.1) (bV SH p.1) (db PT p.2) (bV SH p.2)&&decide (0<=lc l.2.w l.2.v (db PT p.1) (bV SH p.1) (db PT p.2) (bV SH p.2))):=rfl;rw[<-a7]at W
   cases O:sj SH PT l.2.w l.2.v p with
   |true=>
    rw[O]at W b;simp only[Za]at b;subst b;have cv:=vC ⟨i,l.2.w,l.2.v⟩;exact GS (zAc g2 Q z S A T r u x d f g c o (so j H n G @Fw hw))
   |false=>
    rw[O]at W b;simp only[YU,Y5]at b;rw[show PR.length-i-1=PR.length-(i+1) by omega]at b;refine GT (zAc g2 Q z S A T r u x d f g c o (so j H n G @Fw hw)) ?_;exact⟨b,a8,I⟩
 .have ar:i=PR.length:=by omega
  subst ar
  have ad:R=J:=by
   apply Zx;intro k;by_cases K:k<PR.length
   .exact hR k K
   .rw[Y2 (by omega),Y2 (by omega)]
  subst ad;rw[yAD]at b;simp only[iM]at b;have cv:=vS (df SH PR PT a)
  have X:(df SH PR PT a).length=PR.length:=by simp[df]
  cases ap with
  |true=>
   simp only[Za]at b;subst b;rw[<-m]at c;exact GS (zAc g2 Q z S A T r u x d f g c L X)
  |false=>
   simp only[YU,Y5]at b;subst b;rw[<-m]at c;exact Gy
theorem IV(x:Int):0<=x*x:=by
 rcases yAT 0 x with h|h
 .exact ZT h h
 .have:=ZT (show 0<=-x by omega) (show 0<=-x by omega)
  rw[Int.neg_mul_neg]at this;exact this
def Ns(hi:Int)(i:Nat):J:=⟨bQ i,4+(i:Int).tmod 2,(i:Int)-1,0,0,0,0,hi,1,65536,65536,65536⟩
def ii(hi:Int)(k:Nat):List J:=(List.range k).map (Ns hi)
theorem Lv(hi:Int)(k:Nat):(ii hi (k+1)).map aQ=(ii hi k).map aQ++[aQ (Ns hi k)]:=by simp[ii,yAd]
theorem Hb(hi:Int)(k:Nat):(ii hi k).length=k:=by simp[ii]
theorem Xa(n:Nat)(hi:Int)(u:0<n)(hn:n<=3):aH 24 (Z n) (Z hi) (eS (ii hi n) []):=by
 refine Dp func24 λC hP hN=>?_;refine Gz ?_
 refine WP.loopN [] n (λi st=>st.t 0=.pv (Z n)/\st.t 1=.pv (Z hi)/\st.t 4=.ptr 4 0/\st.h 4=some (.box [gh,gh] true false)/\st.t 5=.ptr 5 0/\st.t 6=.pv (Z i)/\
  ((i=0/\st.h 5=some (.box [gh,gh] true false)/\st.h 24=none)\/(0<i/\st.h 5=some (.box [.arr 24 i,gh] true false)/\st.h 24=some (.row 108 12 ((ii hi i).map aQ) 0)))) (by simp) ?_
 rintro i st p ⟨g0,g1,g4,g,g5,m,f⟩;by_cases k:i<n
 .have s:i64.wrap ((i:Int)+1)=(i:Int)+1:=by rw[IntKind.wrap_i64];omega
  have e:(i:Int)<(n:Int):=by omega
  have o:=Lv hi i;have q:=Int.tmod_nonneg 2 (Int.natCast_nonneg i);have r:=yAu (i:Int) (b:=2) (by decide);have h2:i64.wrap ((i:Int).tmod 2)=(i:Int).tmod 2:=aa;have h3:i64.wrap (4+(i:Int).tmod 2)=4+(i:Int).tmod 2:=aa;have h4:i64.wrap ((i:Int)-1)=(i:Int)-1:=aa;have l:=Hb hi i;rcases f with⟨c,d,a⟩|⟨c,d,a⟩
  .subst c
   have cl:=SV 0 (by omega);rw[show((0:Nat):Int)=0 from rfl]at cl
   have v:i64.wrap 0=0:=by decide
   have x:i64.wrap 4=4:=by decide
   have y:i64.wrap (-1)=-1:=by decide
   have z:i64.wrap (0+1)=1:=by decide
   have A:i64.wrap (0-1)=-1:=by decide
   have B:Int.tmod 0 2=0:=by decide
   refine Gz ?_
   all_goals simp[ii,Ns]
  .have cl:=SV i (by omega)
   refine GT (zAc g0 g1 g4 g g5 m d a k e s h2 h3 h4 (be l (show(i+1)*104<=140737488355328 by omega) (show i<=9223372036854775806 by omega))) ?_
   all_goals simp[o,Ns]
 .have j:i=n:=by omega
  subst j;rcases f with⟨c,_⟩|⟨c,d,a⟩
  .omega
  have l:=Hb hi i;exact Gy
def NJ(v:Vc):Bool:=!(v.1==0&&v.2.1==0&&v.2.2==0)&&eO v.1 v.2.1 v.2.2 16384
theorem Cu(v:Vc):aT 191 (ai v) (B (NJ v)):=by
 have a:=wZ v.1 v.2.1 v.2.2 16384 (by decide) (by decide);have hd:NJ v=(!(v.1==0&&v.2.1==0&&v.2.2==0)&&eO v.1 v.2.1 v.2.2 16384):=rfl;rw[hd];generalize eO v.1 v.2.1 v.2.2 16384=b at *;refine Dp func191 λC hP hN=>?_;exact Gy
 all_goals (try (cases b<;>simp_all))
theorem uw:NJ v=aI v:=by
 unfold NJ aI nz;rw[Bool.and_comm];rfl
theorem Ad{SH:List Sh}{PR:List (Nat×Nat)}{PT:List (List aq)}{c:List Vc}(hf:PR.length<=576):∀f k ap,(iM SH PR PT c f k ap).ns.length<=576/\(iM SH PR PT c f k ap).w.a.length<=8/\(iM SH PR PT c f k ap).w.b.length<=8
 |0,k,ap=>by
  simp only[iM];split<;>simp[df,hf]
 |f+1,k,ap=>by
  simp only[iM];split
  .split
   .exact Ad hf f _ _
   .split
    .exact⟨by simp,xy _ _ _ _⟩
    .exact Ad hf f _ _
  .split<;>simp[df,hf]
theorem Ae(s:Sce)(bx:List Iv)(c:List Vc):(cW s bx c).ns.length<=576/\(cW s bx c).w.a.length<=8/\(cW s bx c).w.b.length<=8:=by
 unfold cW;split
 .rename_i h;exact Ad (IU h).few _ _ _
 .simp
theorem VT(a b c d:Int):eF [a,b,c,d]=a-b+c-d:=by simp[eF,oF,mq];omega
theorem QR(a b c d e:Int):eF [a,b,c,d,e]=a-b+c-d+e:=by simp[eF,oF,mq];omega
theorem VU(a b c d e f:Int):eF [a,b,c,d,e,f]=a-b+c-d+e-f:=by simp[eF,oF,mq];omega
theorem LZ{h:List Vc}(hf:(ki a ra b rb h).2=true):iZ (ki a ra b rb h).1 a ra b rb=true:=by
 unfold ki at hf|-;split
 .rename_i n e;have:=yAv e;exact this
 .rename_i e;rw[e]at hf;cases hf
theorem OF{w:Wit}:LY SH PR PT w=true↔∃p,0<=w.pair/\PR[w.pair.toNat]?=some p/\sj SH PT w.a w.b p=true:=by
 unfold LY
 cases h:PR[w.pair.toNat]? with
 |none=>simp
 |some p=>simp
section
variable {SH:List Sh} {PR:List (Nat×Nat)} {PT:List (List aq)} {hs:List Vc}
theorem CD:∀f k ap,k+f=PR.length->(∃(j:Nat)(p:Nat×Nat),PR[j]?=some p/\iM SH PR PT hs f k ap=⟨2,[],⟨j,(qH SH PT p).2.w,(qH SH PT p).2.v⟩⟩/\sj SH PT (qH SH PT p).2.w (qH SH PT p).2.v p=true)\/(iM SH PR PT hs f k ap=⟨1,df SH PR PT hs,⟨0,[],[]⟩⟩/\ap=true/\∀j p,k<=j->PR[j]?=some p->(qM SH PT hs j p).2=true)\/iM SH PR PT hs f k ap=⟨0,df SH PR PT hs,⟨0,[],[]⟩⟩
 |0,k,ap,d=>by
  right
  cases ap with
  |true=>
   left
   refine⟨rfl,rfl,λj p c hp=>?_⟩;have:=(th.1 hp).1;omega
  |false=>right;rfl
 |f+1,k,ap,d=>by
  have hp:PR[k]?=some (PR[k]'(by omega)):=an _;simp only[iM,hp];split
  .rename_i hf
   rcases CD f (k+1) ap (by omega)with h|⟨h1,h2,h3⟩|h
   .exact .inl h
   .refine .inr (.inl ⟨h1,h2,λj p c a=>?_⟩)
    by_cases b:j=k
    .subst b;rw[hp]at a;cases a;exact hf
    .exact h3 j p (by omega) a
   .exact .inr (.inr h)
  .split
   .rename_i e
    exact .inl ⟨k,_,hp,rfl,e⟩
   .rcases CD f (k+1) false (by omega)with h|⟨h1,h2,h3⟩|h
    .exact .inl h
    .cases h2
    .exact .inr (.inr h)
theorem GO{k:Nat}{p:Nat×Nat}(h:PR[k]?=some p):(df SH PR PT hs)[k]?=some (qM SH PT hs k p).1:=by
 simp[df,List.getElem?_mapIdx,h]
theorem zC:(df SH PR PT hs).length=PR.length:=by simp[df]
theorem OG{k:Nat}{p:Nat×Nat}(h:(qM SH PT hs k p).2=true):LX SH PT (qM SH PT hs k p).1 p=true:=LZ h
theorem Kz(h:∀j p,PR[j]?=some p->(qM SH PT hs j p).2=true):yH SH PR PT (df SH PR PT hs)=true:=by
 refine Ks zC λk n p a hn hp=>?_;rw[GO hp]at hn;cases hn;exact OG (h k p hp)
end
theorem OH(s:Sce)(bx:List Iv)(hs:List Vc):(∃w,cW s bx hs=⟨2,[],w⟩/\Fu s bx w=true)\/(∃ns,cW s bx hs=⟨1,ns,⟨0,[],[]⟩⟩/\sm s bx ns=true)\/(∃ns,cW s bx hs=⟨0,ns,⟨0,[],[]⟩⟩/\(ns.length=(cy s).length\/fw s bx=false)):=by
 unfold cW
 cases hp:fw s bx with
 |false=>exact .inr (.inr ⟨[],rfl,.inr rfl⟩)
 |true=>
  simp only[Za];rcases CD (SH:=s.shs) (PR:=cy s) (PT:=eR s bx) (hs:=hs) (cy s).length 0 true (by omega)with⟨j,p,h1,h2,h3⟩|⟨h1,_,h3⟩|h
  .refine .inl ⟨_,h2,?_⟩
   simp only[Fu,hp,Zf,OF];exact⟨p,by omega,by simpa using h1,h3⟩
  .refine .inr (.inl ⟨_,h1,?_⟩)
   simp only[sm,hp,Zf];exact Kz λj p hp=>h3 j p (by omega) hp
  .exact .inr (.inr ⟨_,h,.inl zC⟩)
def WG(D:Nat)(L:List (Int×Int)):Prop:=∀k:Int,0<=k->k<2^D->∃y∈L,0<=y.1/\y.1<=D/\0<=y.2/\y.2<2^y.1.toNat/\y.2*2^(D-y.1.toNat)<=k/\k+1<=(y.2+1)*2^(D-y.1.toNat)
abbrev Pc:=Int×Int×List Vc
structure EdR where
 kind:Int
 pcs:List Pc
 d:Int
 i:Int
 w:Wit
variable {out todo:List Pc}{x:Pc}
def jm:EdR:=⟨0,[],0,0,⟨0,[],[]⟩⟩
def de(p q:List Int)(x:Pc):Bx:=(eX p q x.1 x.2.1).1
def qA(s:Sce)(p q:List Int)(D:Int):Nat->List Pc->List Pc->EdR
 |0,_,_=>jm
 |f+1,todo,out=>match todo.getLast? with
  |none=>⟨1,out,0,0,⟨0,[],[]⟩⟩
  |some x=>if 4096<=out.length then⟨0,[],x.1,x.2.1,⟨0,[],[]⟩⟩else
   if(cW s (de p q x) x.2.2).kind=1 then qA s p q D f todo.dropLast (out++[(x.1,x.2.1,(cW s (de p q x) x.2.2).ns)])else
   if(cW s (de p q x) x.2.2).kind=2 then⟨2,[],x.1,x.2.1,(cW s (de p q x) x.2.2).w⟩else
   if x.1=D then⟨0,[],x.1,x.2.1,⟨0,[],[]⟩⟩else
   qA s p q D f (todo.dropLast++[(x.1+1,2*x.2.1+1,(cW s (de p q x) x.2.2).ns),(x.1+1,2*x.2.1,(cW s (de p q x) x.2.2).ns)]) out
def Jy(s:Sce)(p q:List Int):Bool:=decide (ao s=0)&&aX s.js s.ms p&&aX s.js s.ms q
def nF(s:Sce)(p q:List Int)(D:Nat):EdR:=if Jy s p q&&decide (D<=20)then qA s p q D (2^(D+1)) [(0,0,[])] []else jm
def oW(D:Nat)(x:Pc):Prop:=0<=x.1/\x.1<=D/\0<=x.2.1/\x.2.1<2^x.1.toNat/\x.2.2.length<=576
def DO(D:Nat)(x:Pc):Nat:=2^(D+1-x.1.toNat)-1
def kK(D:Nat)(l:List Pc):Nat:=(l.map (DO D)).sum
structure PrI(s:Sce)(p q:List Int)(D:Nat)(todo out:List Pc):Prop where
 t:∀x∈todo,oW D x
 o:∀x∈out,oW D x/\sm s (de p q x) x.2.2=true
 cov:WG D ((todo++out).map λx=>(x.1,x.2.1))
theorem BR(D:Nat)(a b:List Pc):kK D (a++b)=kK D a+kK D b:=by simp[kK]
theorem Gr(h:oW D x):1<=DO D x:=by
 unfold DO;obtain⟨a,h1,_⟩:=h;have:2^1<=2^(D+1-x.1.toNat):=Nat.pow_le_pow_right (by decide) (by omega);omega
theorem rq{l:List Pc}(h:l.getLast?=some x):l=l.dropLast++[x]:=by
 obtain⟨a,ha⟩:=List.getLast?_eq_some_iff.1 h;subst ha;simp
theorem M5{y0 y1:Int}(i:0<=y0)(j:y0<D)(a:y1*2^(D-y0.toNat)<=k)(b:k+1<=(y1+1)*2^(D-y0.toNat)):(2*y1*2^(D-(y0+1).toNat)<=k/\k+1<=(2*y1+1)*2^(D-(y0+1).toNat))\/((2*y1+1)*2^(D-(y0+1).toNat)<=k/\k+1<=(2*y1+1+1)*2^(D-(y0+1).toNat)):=by
 have e:D-y0.toNat=(D-(y0+1).toNat)+1:=by omega
 rw[e,Int.pow_succ]at a b;generalize(2:Int)^(D-(y0+1).toNat)=P at *
 have c:y1*(P*2)=2*y1*P:=by rw[Int.mul_comm P 2,<-Int.mul_assoc,Int.mul_comm y1 2]
 have d:(y1+1)*(P*2)=2*y1*P+2*P:=by rw[Int.add_mul,c];omega
 rw[c]at a;rw[d]at b
 have f:(2*y1+1)*P=2*y1*P+P:=by rw[Int.add_mul];omega
 have g:(2*y1+1+1)*P=2*y1*P+2*P:=by rw[Int.add_mul,f];omega
 omega
theorem PrI.keep{p q:List Int}(h:PrI s p q D todo out)(i:todo.getLast?=some x)(hn:ns.length<=576)(hs:sm s (de p q x) ns=true):PrI s p q D todo.dropLast (out++[(x.1,x.2.1,ns)]):=by
 have e:=rq i
 have g:x∈todo:=by rw[e];simp
 refine⟨λy f=>h.t y (by rw[e];simp[f]),λy f=>?_,λk j k1=>?_⟩
 .rcases Y7.1 f with f|f
  .exact h.o y f
  .simp at f;subst f
   obtain⟨a,b,c,d,_⟩:=h.t x g;exact⟨⟨a,b,c,d,hn⟩,hs⟩
 .obtain⟨y,f,r⟩:=h.cov k j k1
  refine⟨y,?_,r⟩;rw[e]at f;simp only[yAH,Y7,Z0,yA6,Zr]at f|-;rcases f with(f|f)|f
  .exact .inl f
  .exact .inr (.inr f)
  .exact .inr (.inl f)
theorem PrI.split{p q:List Int}(h:PrI s p q D todo out)(z:todo.getLast?=some x)(hn:ns.length<=576)(hd:x.1≠D):PrI s p q D (todo.dropLast++[(x.1+1,2*x.2.1+1,ns),(x.1+1,2*x.2.1,ns)]) out:=by
 have e:=rq z
 have l:x∈todo:=by rw[e];simp
 obtain⟨a,b,c,d,_⟩:=h.t x l
 have hp:(2:Int)^(x.1+1).toNat=2*2^x.1.toNat:=by rw[show(x.1+1).toNat=x.1.toNat+1 by omega,Int.pow_succ];omega
 refine⟨λy f=>?_,h.o,λk A k1=>?_⟩
 .rcases Y7.1 f with f|f
  .exact h.t y (by rw[e];simp[f])
  .simp at f
   rcases f with rfl|rfl
   all_goals exact⟨by simp only;omega,by simp only;omega,by simp only;omega,by simp only;omega,hn⟩
 .obtain⟨y,f,g,m,n,r,i,j⟩:=h.cov k A k1
  rw[e]at f;simp only[yAH,Y7,Z0,yA6,Zr]at f;rcases f with(f|f)|f
  .exact⟨y,by simp only[yAH,Y7];exact .inl (.inl f),g,m,n,r,i,j⟩
  .subst f
   simp only at g m n r i j;rcases M5 g (by omega) i j with⟨u,v⟩|⟨u,v⟩
   .exact⟨(x.1+1,2*x.2.1),by simp,by simp only;omega,by simp only;omega,by simp only;omega,by simp only;omega,u,v⟩
   .exact⟨(x.1+1,2*x.2.1+1),by simp,by simp only;omega,by simp only;omega,by simp only;omega,by simp only;omega,u,v⟩
  .exact⟨y,by simp only[yAH,Y7];exact .inr f,g,m,n,r,i,j⟩
theorem Po(a:todo.getLast?=some x)(h:oW D x):kK D todo.dropLast+1<=kK D todo:=by
 have e:=rq a;have:=Gr h;rw[e,BR];simp[kK];omega
theorem Gs(f:todo.getLast?=some x)(h:oW D x)(hd:x.1≠D)(a b:Int)(ns c:List Vc):kK D (todo.dropLast++[(x.1+1,a,ns),(x.1+1,b,c)])+1<=kK D todo:=by
 have e:=rq f;obtain⟨g,h1,_⟩:=h
 have k:kK D todo=kK D todo.dropLast+DO D x:=by
  conv=>lhs;rw[e,BR]
  simp[kK]
 rw[k,BR]
 have d:D+1-x.1.toNat=(D+1-(x.1+1).toNat)+1:=by omega
 have hp:2^1<=2^(D+1-(x.1+1).toNat):=Nat.pow_le_pow_right (by decide) (by omega);simp only[kK,DO,Z0,yA6,List.sum_cons,List.sum_nil];rw[d,yA5];omega
theorem K4{b:Bx}{hs:List Vc}(h:(cW s b hs).kind=1):sm s b (cW s b hs).ns=true:=by
 rcases OH s b hs with⟨w,h1,h2⟩|⟨ns,h1,h2⟩|⟨ns,h1,h2⟩
 .rw[h1]at h;cases h
 .rw[h1];exact h2
 .rw[h1]at h;cases h
theorem SK(s:Sce)(p q:List Int)(D:Nat):PrI s p q D [(0,0,[])] []:=by
 refine⟨λx a=>?_,λx a=>(by cases a),λk b k1=>⟨(0,0),by simp,by decide,by simp only;omega,by decide,by decide,by simpa using b,?_⟩⟩
 .simp at a;subst a
  exact⟨by decide,by simp only;omega,by decide,by decide,by simp⟩
 .simp;omega
end Go.Ab
