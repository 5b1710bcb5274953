/- The contracts and facts that the laws of this seat need, in one text (K19, KR18, KR19, KR20, De1, De4, Ck0, De5, Dc9, Dl1, Ru2, Cu1, Cu2, Cu3, Cu4, Cu5, Cu6, Cu7, Cu8, Cu9, Cu10, Cu11, Cu12, Ck1, Cu16, Cu17, Xp1, Xp2, Xr0, Ab33, Xr6, Xr7, Xr1, Xr3, Xr4, Xr8, Xr2, Xr9, Cu13, Cu15). -/
import Derived.Test.YtidomjacfogjlaaGreatT10
set_option linter.all false
set_option maxRecDepth 10000
set_option maxHeartbeats 16000000
namespace Go.Ab
open IntKind (i64)
open Go.Proofs.Tryz
open Go.Proofs
variable {D i j k m:Nat}{PR:List (Nat×Nat)}{PT:List (List aq)}{SH:List Sh}{a d hi lo n u v y0 y1:Int}{aft:Array Edge}{b:Bx}{dst:Option Nat}{hints tb:List Vc}{js:List J}{line w:List (List Int)}{ms:List Ms}{p q:List Int}{pos:String}{s:Sce}{t:Tr}{ty:TypeId}{x:Int×Int}{α:Type}{ρ:Operand->AV}{l:List α}
theorem LN{j:J}(h:bS js i j=0):j.lo<=j.hi:=by
 unfold bS at h
 repeat' split at h
 all_goals (try (cases h;done))
 all_goals omega
theorem HW(h:aD js ms=0):∀(i:Nat) j,js[i]?=some j->j.lo<=j.hi:=by
 unfold aD at h;split at h
 .cases h
 .split at h
  .rename_i c;exact absurd h c
  .rename_i k
   intro i j b
   have a:iT js=0:=by simpa using k
   rw[pP]at a;by_cases d:bS js i j=0
   .exact LN d
   .exfalso
    cases hf:(js.mapIdx (bS js)).find? (λe=>e !=0)with
    |none=>
     rw[yBc]at hf
     have l:bS js i j∈js.mapIdx (bS js):=by
      rw[List.mem_mapIdx];obtain⟨f,g⟩:=th.1 b;exact⟨i,f,by rw[g]⟩
     exact hf _ l (by simpa using d)
    |some e=>
     rw[hf]at a;have:=yBF hf;simp only at a;rw[a]at this;simp at this
def uz(js:List J)(n:Nat):Int:=((kC js)[n]?).getD 0
theorem NX(js:List J):uz js 0=-1:=by
 have h:=r8 (js:=js) (k:=0) js.length (yAT _) (yAd _) 0 (yAd _)
 have:(kC js)[0]?=some (-1):=by rw[kC,h];rfl
 simp[uz,this]
theorem NY(a:rZ js){n:Nat}{j:J}(h:js[n]?=some j):uz js (n+1)=if j.lo=j.hi then uz js (j.parent+1).toNat else(n:Int):=by
 have:=IQ h (a n j h);simp[uz,this]
def o8(js:List J)(l:Int)(k:Nat):Prop:=kB (fN js 11 l) k=true/\pW js k=true
theorem AM{xs:List Int}{x:Int}:kB xs x=true↔x∈xs:=by
 simp[kB]
theorem LO(js:List J):fN js 11 (-1)=[]:=by simp[fN]
theorem EG(d:rZ js)(e:js.length<=10){n:Nat}{j:J}(h:js[n]?=some j)(k:Nat):o8 js n k↔o8 js j.parent k\/(k=n/\pW js n=true):=by
 have f:n<js.length:=(th.1 h).1;have b:=GJ d e (k:=n) (by omega) (by omega)
 have hp:tO js n=j.parent:=by simp[tO,h]
 rw[hp]at b;simp only[o8,b,AM,yAk,yAE];constructor
 .rintro⟨c|c,a⟩
  .exact .inl ⟨c,a⟩
  .have:k=n:=by omega
   subst this;exact .inr ⟨rfl,a⟩
 .rintro(⟨c,a⟩|⟨rfl,a⟩)
  .exact⟨.inl c,a⟩
  .exact⟨.inr rfl,a⟩
theorem SC{n:Nat}{j:J}(h:js[n]?=some j)(b:j.lo<=j.hi):pW js n=!decide (j.lo=j.hi):=by
 simp only[pW,h];by_cases a:j.lo=j.hi
 .simp[a]
 .simp[a];omega
theorem GK{js:List J}(e:rZ js)(q:js.length<=10)(f:∀(i:Nat) j,js[i]?=some j->j.lo<=j.hi):∀(m n:Nat),n<=m->n<=js.length->(uz js n=-1/\∀k,¬o8 js ((n:Int)-1) k)\/(∃c:Nat,uz js n=c/\c<js.length/\o8 js ((n:Int)-1) c/\∀k,o8 js ((n:Int)-1) k↔o8 js c k)
 |m,0,_,_=>by
  left
  refine⟨NX js,λk h=>?_⟩;have:=h.1;rw[show((0:Nat):Int)-1=-1 by omega,LO]at this;cases this
 |0,n+1,h,_=>by omega
 |m+1,n+1,x,y=>by
  have d:js[n]?=some (js[n]'(by omega)):=an _;generalize js[n]'(by omega)=j at d;have r:=e n j d;unfold Dv at r;have l:=NY e d;have b:=SC d (f n j d);rw[show((n+1:Nat):Int)-1=(n:Int) by omega];by_cases g:j.lo=j.hi
  .rw[yAb g]at l
   simp only[g,yBJ,yBy]at b
   have a:∀k,o8 js n k↔o8 js j.parent k:=λk=>by
    rw[EG e q d k,b];simp
   have ih:=GK e q f m (j.parent+1).toNat (by omega) (by omega);rw[show(((j.parent+1).toNat:Nat):Int)-1=j.parent by omega,<-l]at ih;rcases ih with⟨o,p⟩|⟨c,o,p,s,u⟩
   .exact .inl ⟨o,λk v=>p k ((a k).1 v)⟩
   .exact .inr ⟨c,o,p,(a c).2 s,λk=>(a k).trans (u k)⟩
  .rw[L4 g]at l
   simp only[g,decide_false,yCk]at b;exact .inr ⟨n,l,by omega,(EG e q d n).2 (.inr ⟨rfl,b⟩),λk=>yBi⟩
theorem GL{js:List J}(d:rZ js):∀(f:Nat)(l:Int),-1<=l->l<js.length->∀x∈fN js f l,0<=x/\x<=l
 |0,l,_,_,x,c=>by cases c
 |f+1,l,g,e,x,c=>by
  rw[fN]at c;split at c
  .cases c
  .obtain⟨j,_,hp,a,b⟩:=zg d (k:=l) (by omega) e
   rcases yAk.1 c with c|c
   .have:=GL d f (tO js l) (by omega) (by omega) x c;omega
   .rw[yAE]at c;omega
theorem IN{b:Int}:wy js a b=true↔∀k,k<js.length->pW js k=true->(kB (fN js 11 a) k=kB (fN js 11 b) k):=by
 simp only[wy,qB,IV,yAt,yA5,yAJ];constructor
 .intro h k e d
  cases c:(kB (fN js 11 a) k !=kB (fN js 11 b) k)with
  |false=>simpa using c
  |true=>
   have:=h (k:Int) ⟨k,⟨e,c⟩,rfl⟩;rw[yAm,d]at this;cases this
 .rintro h x ⟨k,⟨e,c⟩,rfl⟩
  cases d:pW js k with
  |false=>rw[show(Int.ofNat k).toNat=k from rfl,d];rfl
  |true=>
   have:=h k e d;simp only[LK,this,bne_self_eq_false]at c;cases c
theorem PU(h:pW js k=true):k<js.length:=by
 unfold pW at h;split at h
 .rename_i j a;exact(th.1 a).1
 .cases h
theorem NZ(x:aD js ms=0){b:Int}(A:cJ js.length a=true)(B:cJ js.length b=true):(uz js (a+1).toNat==uz js (b+1).toNat)=wy js a b:=by
 obtain⟨j,y,_⟩:=tc x;have i:=HW x;simp only[cJ,An,Is]at A B;have u:=GK j y i _ (a+1).toNat (yAd _) (by omega);have v:=GK j y i _ (b+1).toNat (yAd _) (by omega);rw[show(((a+1).toNat:Nat):Int)-1=a by omega]at u;rw[show(((b+1).toNat:Nat):Int)-1=b by omega]at v
 have e:(uz js (a+1).toNat==uz js (b+1).toNat)=true↔wy js a b=true:=by
  rw[IN,yAU]
  have z:(∀k,k<js.length->pW js k=true->(kB (fN js 11 a) k=kB (fN js 11 b) k))↔∀k,o8 js a k↔o8 js b k:=by
   constructor
   .intro h k
    simp only[o8];constructor
    .rintro⟨g,f⟩;rw[h k (PU f) f]at g;exact⟨g,f⟩
    .rintro⟨g,f⟩;rw[<-h k (PU f) f]at g;exact⟨g,f⟩
   .intro h k D C
    have:=h k;simp only[o8,C,and_true]at this;cases g:kB (fN js 11 a) k<;>cases f:kB (fN js 11 b) k<;>simp_all
  rw[z];rcases u with⟨n,l⟩|⟨c,n,l,o,p⟩<;>rcases v with⟨q,m⟩|⟨d,q,m,r,s⟩<;>rw[n,q]
  .exact⟨λ_ k=>⟨λh=>absurd h (l k),λh=>absurd h (m k)⟩,λ_=>rfl⟩
  .exact⟨λh=>by omega,λh=>absurd ((h d).2 r) (l d)⟩
  .exact⟨λh=>by omega,λh=>absurd ((h c).1 o) (m c)⟩
  .constructor
   .intro h k
    have:c=d:=by omega
    subst this;rw[p,s]
   .intro h
    have g:=(h c).1 o;have f:=(h d).2 r;rw[s]at g;rw[p]at f;have E:=GL j 11 d (by omega) (by omega) c (AM.1 g.1);have F:=GL j 11 c (by omega) (by omega) d (AM.1 f.1);omega
 cases g:(uz js (a+1).toNat==uz js (b+1).toNat)<;>cases f:wy js a b<;>simp_all
theorem N0(d:az s=0){a b:Sh}(g:cJ s.js.length a.link=true)(i:cJ s.js.length b.link=true):Fj s a b=(!(a.link==b.link)&& !wy s.js a.link b.link&& !ke s a.link b.link):=by
 have j:aD s.js s.ms=0:=by
  unfold az at d;split at d
  .rename_i h;exact absurd d h
  .rename_i h;simpa using h
 have e:=NZ j g i;have c:Dw (kC s.js) a b=wy s.js a.link b.link:=e;unfold Fj;rw[c];by_cases f:a.link=b.link
 .have:wy s.js a.link b.link=true:=by
   rw[IN,f];exact λ_ _ _=>rfl
  rw[this];simp
 .have:(a.link==b.link)=false:=by simp[f]
  rw[this];simp
theorem WI(s:Sce)(hs:ScL s):aV 134 (dZ s) (.sl ((bY s).map td)):=by
 have cc:=EF s hs;have M:=λa b=>WH s a b hs.sks;by_cases x:az s=0
 case neg=>
  have Y:(az s !=0)=true:=by simp[x]
  have hf:bY s=[]:=by simp[bY,x]
  rw[hf];generalize az s=r at *;refine Dp func134 λC hP hN=>?_;exact Gy
 have hr:aD s.js s.ms=0:=by
  unfold az at x;split at x
  .rename_i h;exact absurd x h
  .rename_i h;simpa using h
 obtain⟨v1,v2,v3,v4,v5,X,v7⟩:=nK x;have L:=λa b=>WG s.js s.ms a b v2 hs.ms hr;have V:=λa b=>N0 x (a:=a) (b:=b)
 have hf:bY s=jD s s.shs.length:=by simp[bY,x]
 rw[hf];rw[x]at cc;have nL:=zj s;have iL:=zi s;refine Dp func134 λC hP hN=>?_;refine rG [3] trivial ?_;refine WP.loopN [] s.shs.length (λi l=>l.t 1=.ptr 1 0/\l.h 1=some (.box [.pv (.sl (s.js.map bj)),.pv (.sl (s.ms.map bN)),.pv (.sl (s.shs.map bU)),.pv (.sl (s.sks.map aA))] true false)/\l.t 4=.pv (Z i)/\l.t 3=.arr 3 (jD s i).length/\l.h 3=some (.row 210 2 ((jD s i).map td) 0)) (by simp[jD]) ?_;rintro i l hi ⟨A,g,B,g3,d⟩;by_cases m:i<s.shs.length
 .have hw:=ai m (by omega)
  have j:(i:Int)<(s.shs.length:Int):=by omega
  generalize u:s.shs[i]=a at *
  have F:s.shs[i]?=some a:=by rw[an m,u]
  have J:=(X a (In F)).1;have E:jD s (i+1)=jD s i++lz s i s.shs.length:=rfl;have ay:=nL i;have ax:i*s.shs.length<=24*24:=yBk (by omega) (by omega);have N:=Dx s i (i+1) (yAd _);refine Gz ?_;refine WP.loopN [] (s.shs.length-(i+1)) (λq l=>l.t 1=.ptr 1 0/\l.h 1=some (.box [.pv (.sl (s.js.map bj)),.pv (.sl (s.ms.map bN)),.pv (.sl (s.shs.map bU)),.pv (.sl (s.sks.map aA))] true false)/\l.t 4=.pv (Z i)/\l.t 5=.pv (Z ((i+1+q:Nat):Int))/\l.t 3=.arr 3 (jD s i++lz s i (i+1+q)).length/\l.h 3=some (.row 210 2 ((jD s i++lz s i (i+1+q)).map td) 0)) (by simp[A,g,B,g3,d,N]) ?_;clear A g B g3 d;rintro q l hq ⟨A,g,B,H,g3,d⟩;obtain⟨k,hk⟩:∃k,k=i+1+q:=⟨_,rfl⟩
  have T:i+1+(q+1)=k+1:=by omega
  rw[<-hk]at H g3 d;rw[T];have O:lz s i (k+1)=lz s i k++(if i<k/\ge s i k=true then[(i,k)]else[]):=rfl;have ad:=iL i k;by_cases o:k<s.shs.length
  .have e:(k:Int)<(s.shs.length:Int):=by omega
   have z:i64.wrap ((k:Int)+1)=(k:Int)+1:=aa;generalize v:s.shs[k]=b at *
   have G:s.shs[k]?=some b:=by rw[an o,v]
   have K:=(X b (In G)).1
   have p:ge s i k=(!(a.link==b.link)&& !wy s.js a.link b.link&& !ke s a.link b.link):=by
    simp only[ge,F,G];exact V a b J K
   have cs:=M a.link b.link;have cg:=L a.link b.link J K
   have R:i<k:=by omega
   have W:(jD s i++lz s i k).length<=1000:=by simp only[yAo];omega
   generalize D:jD s i++lz s i k=P at *
   have y:q<s.shs.length-(i+1):=by omega
   have Q:jD s i++lz s i (k+1)=P++(if ge s i k=true then[(i,k)]else[]):=by
    rw[O,<-List.append_assoc,D];simp[R]
   rw[Q];generalize ke s a.link b.link=sk at *;generalize wy s.js a.link b.link=rg at *;by_cases f:a.link=b.link
   .have c:ge s i k=false:=by rw[p,f];simp
    rw[c];exact GS (zAe A g B H g3 d o e z F u G v f (be m j y))
   .have n:(a.link !=b.link)=true:=by simp[f]
    have I:(a.link==b.link)=false:=by simp[f]
    rw[I]at p
    cases rg with
    |true=>
     have c:ge s i k=false:=by rw[p];rfl
     rw[c];exact GS (zAe A g B H g3 d o e z F u G v f (go n m j y))
    |false=>
     cases sk with
     |true=>
      have c:ge s i k=false:=by rw[p];rfl
      rw[c];exact GS (zAe A g B H g3 d o e z F u G v f (go n m j y))
     |false=>
      have c:ge s i k=true:=by rw[p];rfl
      rw[c];exact GS (zAe A g B H g3 d o e z F u G v f (so n m j y (show(P.length+1)*16<=140737488355328 by omega) (show P.length<=9223372036854775806 by omega)))
  .have U:k=s.shs.length:=by omega
   have e:¬(k:Int)<(s.shs.length:Int):=by omega
   rw[U,<-E]at g3 d;exact Gy
 .have S:i=s.shs.length:=by omega
  subst S;exact Gy
theorem OB{p:α->Bool}(h:l.findIdx? p=some i):∃v,l[i]?=some v/\i<l.length/\l.find? p=some v:=by
 rw[yBY]at h;obtain⟨hi,a,b⟩:=h;refine⟨l[i],an hi,hi,xE (an hi) a λj x c e=>?_⟩;obtain⟨d,rfl⟩:=th.1 e;have:=b j c;simpa using this
theorem Kh{p:α->Bool}(h:l.findIdx? p=none):l.find? p=none:=by
 rw[List.findIdx?_eq_none_iff]at h;rw[yBc];intro x a;rw[h x a];simp
theorem Mb(a:List aq)(ra:Int)(b:List aq)(rb:Int)(c:List Vc):(sY a ra b rb c).length<=c.length+8:=by
 have e:sY a ra b rb c=if Fe a ra b rb then c.filter bB++((if vQ a b then[sX a b]else[])++(sW++(if bB (qO a ra b rb)then[qO a ra b rb]else[])))else[]:=rfl
 have hf:=yB7 bB c;have d:sW.length=6:=rfl;rw[e];split
 .rw[yAo,yAo,yAo,d]
  have f:(if vQ a b then[sX a b]else([]:List Vc)).length<=1:=by split<;>simp
  have g:(if bB (qO a ra b rb)then[qO a ra b rb]else([]:List Vc)).length<=1:=by split<;>simp
  omega
 .simp
theorem XF(a:List aq)(ra:Int)(b:List aq)(rb:Int)(c:List Vc)(j:a.length<=9223372036854775807)(k:b.length<=9223372036854775807)(o:c.length<=100000000000):Ao 176 (aU a) (Z ra) (aU b) (Z rb) (bA c) (.tup [aW (sZ a ra b rb c).1,B (sZ a ra b rb c).2]):=by
 have r:=XE a ra b rb c j k o;have l:=Mb a ra b rb c
 have d:sZ a ra b rb c=match(sY a ra b rb c).find? (λn=>kE n a ra b rb)with
  |some n=>(n,true)
  |none=>((0,0,0),false):=rfl
 have f:=XY (sY a ra b rb c) a ra b rb (by omega) j k;generalize sY a ra b rb c=g at *
 cases e:g.findIdx? (λn=>kE n a ra b rb)with
 |none=>
  rw[Kh e]at d;rw[e]at f;simp only at d f;rw[d];refine Dp func176 λC hP hN=>?_;exact Gy
 |some i=>
  obtain⟨v,m,p,hf⟩:=OB e;rw[hf]at d;rw[e]at f;simp only at d f
  have q:∀h,g[i]'h=v:=λh=>by rw[an h]at m;exact yAO m
  rw[d];refine Dp func176 λC hP hN=>?_;exact Gy
abbrev PY(p:List aq)(r:Int):PV:=.agg [aU p,Z r]
def tg(SH:List Sh)(PT:List (List aq))(p:Nat×Nat):PV:=PY (cZ PT p.1) (dc SH p.1)
def tj(SH:List Sh)(PT:List (List aq))(p:Nat×Nat):PV:=PY (cZ PT p.2) (dc SH p.2)
abbrev xT(s:Sce)(bx:List Iv):PV:=.sl ((bY s).map (tg s.shs (bQ s bx)))
abbrev xU(s:Sce)(bx:List Iv):PV:=.sl ((bY s).map (tj s.shs (bQ s bx)))
theorem I5{β:Type}(f:α->β){v:α}(h:l[k]?=some v):(l.take (k+1)).map f=(l.take k).map f++[f v]:=by
 rw[yB0,h,yBS];rfl
theorem Mc{β:Type}(f:α->β)(h:k<=l.length):((l.take k).map f).length=k:=by
 rw[yAz,yAN];omega
theorem S6(s:Sce)(bx:List Iv)(hs:ScL s)(r:bx.length<=9223372036854775807):aL 74 (dZ s) (iv bx) (.tup (if dr s bx then[xT s bx,xU s bx,B true]else[.sl [],.sl [],B false])):=by
 have cc:=EF s hs;have E:=Tk s.js s.ms bx hs.js r;have hd:dr s bx=(decide (az s=0)&&iw s.js bx):=rfl;by_cases g:az s=0
 case neg=>
  have l:(az s !=0)=true:=by simp[g]
  rw[yA4 g,yAG]at hd;rw[hd];refine Dp func74 λC hP hN=>?_;exact Gy
 have l:(az s !=0)=false:=by simp[g]
 rw[yAF g,yAs]at hd
 cases f:iw s.js bx with
 |false=>
  rw[f]at hd E;rw[hd];refine Dp func74 λC hP hN=>?_;exact Gy
 |true=>
 have Y:=XR s bx hs g f;have cr:=WI s hs;rw[f]at hd E;have n:=Dr hd;rw[hd];simp only[xT,xU,yAn];have H:=n.few;generalize bY s=PR at *;generalize bQ s bx=PT at *;obtain⟨js,ms,SH,sks⟩:=s;simp only at *;refine Dp func74 λC hP hN=>?_;refine rG [8,9] (gA g l) ?_;refine WP.loopN [] PR.length (λi c=>c.t 2=.ptr 2 0/\c.h 2=some (.box [.pv (.sl (js.map bj)),.pv (.sl (ms.map bN)),.pv (.sl (SH.map bU)),.pv (.sl (sks.map aA))] true false)/\c.t 7=.pv (.sl (PT.map aU))/\c.t 8=.arr 8 i/\c.h 8=some (.row 148 2 ((PR.take i).map (tg SH PT)) 0)/\c.t 9=.arr 9 i/\c.h 9=some (.row 148 2 ((PR.take i).map (tj SH PT)) 0)/\c.t 10=.pv (.sl (PR.map td))/\c.t 11=.pv (Z i)) (by simp) ?_;rintro k c hi ⟨g2,N,g7,g8,o,g9,q,L,M⟩;by_cases d:k<PR.length
 .have O:=ai d (by omega)
  obtain⟨p,hp⟩:∃p,PR[k]?=some p:=⟨_,an d⟩;have F:=I5 (tg SH PT) hp;have G:=I5 (tj SH PT) hp;have zA:=Mc (tg SH PT) (Nat.le_of_lt d);have zB:=Mc (tj SH PT) (Nat.le_of_lt d);rw[F,G];generalize(PR.take k).map (tg SH PT)=W at *;generalize(PR.take k).map (tj SH PT)=X at *;clear F G;obtain⟨I,z⟩:=th.1 hp;obtain⟨i,j⟩:=p;have hpr:=n.prs _ (In hp);simp only at hpr;have hl:=n.len;have R:∀h,PR[k]'h=(i,j):=λ_=>z
  have U:i<PT.length:=by omega
  have V:j<PT.length:=by omega
  obtain⟨a,m⟩:∃x,PT[i]?=some x:=⟨_,an U⟩;obtain⟨b,e⟩:∃x,PT[j]?=some x:=⟨_,an V⟩;obtain⟨u,A⟩:∃x,SH[i]?=some x:=⟨_,an hpr.1⟩;obtain⟨v,D⟩:∃x,SH[j]?=some x:=⟨_,an hpr.2⟩
  have P:∀h,PT[i]'h=a:=λh=>by rw[an h]at m;exact yAO m
  have Q:∀h,PT[j]'h=b:=λh=>by rw[an h]at e;exact yAO e
  have S:∀h,SH[i]'h=u:=λh=>by rw[an h]at A;exact yAO A
  have T:∀h,SH[j]'h=v:=λh=>by rw[an h]at D;exact yAO D
  have J:tg SH PT (i,j)=.agg [aU a,Z u.rad]:=by simp[tg,cZ,dc,m,A]
  have K:tj SH PT (i,j)=.agg [aU b,Z v.rad]:=by simp[tj,cZ,dc,e,D]
  rw[J,K];obtain⟨h1,h2⟩:=hpr
  have k1:(k+1)*32<=140737488355328:=by omega
  have k2:k<=9223372036854775806:=by omega
  skip
  exact Gy
 .have y:k=PR.length:=by omega
  subst y;rw[yBP]at o q;exact Gy
theorem QW(a:List Vc)(i:Nat)(hi:i<a.length)(z:Option Value)(e n:Nat)(y:Option Value):kW {size:=n,zero:=z,kind:=TK.slice e 3 24 y} (.pv (bA a)) (some (.pv (.val (.int .i64 (i:Int))))) (some (.pv (.val (.int .i64 ((i:Int)+1)))))=some (.pv (bA (pV a i))):=by
 have b:(0:Int)<=(i:Int):=by omega
 have c:(0:Int)<=(i:Int)+1:=by omega
 have d:((i:Int)).toNat=i:=by omega
 have f:((i:Int)+1).toNat=i+1:=by omega
 simp only[kW,yAb b,yAb c,d,f,yAz];rw[yAb ⟨by omega,by omega,by decide,IJ a⟩]
 congr 3
 rw[<-List.map_take,<-List.map_drop]
 congr 1
 unfold pV;rw[List.drop_take,show i+1-i=1 by omega]
theorem Ki(h:¬i<hints.length):pV hints i=[]:=by
 unfold pV;rw[yB2 (by omega)];rfl
theorem Hd{p:Nat×Nat}(h:PR[i]?=some p):(PR.map (tg SH PT))[i]?=some (.agg [aU (cZ PT p.1),Z (dc SH p.1)]):=by
 rw[ZW,h];rfl
theorem He{p:Nat×Nat}(h:PR[i]?=some p):(PR.map (tj SH PT))[i]?=some (.agg [aU (cZ PT p.2),Z (dc SH p.2)]):=by
 rw[ZW,h];rfl
def xV(a:Bool):Int:=if a then 1 else 0
def Vj(b:List PV)(a:Int)(i:Nat)(h:Hp):Prop:=(i=0/\h 10=some (.box [.pv (Z a),.pv (.val (.slice none 0 0)),.pv (Z 0),.pv (.val (.slice none 0 0)),.pv (.val (.slice none 0 0))] true false)/\h 71=none)\/(0<i/\h 10=some (.box [.pv (Z a),.arr 71 i,.pv (Z 0),.pv (.val (.slice none 0 0)),.pv (.val (.slice none 0 0))] true false)/\h 71=some (.row 84 3 (b.take i) 0))
def Vk(SH:List Sh)(PR:List (Nat×Nat))(PT:List (List aq))(a:List Vc)(d:List PV)(b:Vd)(i:Nat)(h:Hp):Prop:=∃c,ln SH PR PT a (PR.length-i) i c=b/\Vj d (xV c) i h
theorem qR{c:List PV}{a:Vd}{h:Hp}(b:Bool)(h1:ln SH PR PT hints (PR.length-i) i b=a)(d:Vj c (xV b) i h):Vk SH PR PT hints c a i h:=⟨b,h1,d⟩
set_option maxRecDepth 20000 in
theorem Vl(s:Sce)(bx:List Iv)(b:List Vc)(hs:ScL s)(bk:bx.length<=9223372036854775807)(hh:b.length<=9223372036854775807):jQ 98 (dZ s) (iv bx) (bA b) (Uq (eD s bx b)):=by
 have cp:=S6 s bx hs bk
 have hd:eD s bx b=if dr s bx then ln s.shs (bY s) (bQ s bx) b (bY s).length 0 true else⟨0,[],⟨0,[],[]⟩⟩:=rfl
 cases hp:dr s bx with
 |false=>
  rw[hp]at cp hd;simp only[ZY,yAi]at cp hd;rw[hd];refine Dp func98 λC hP hN=>?_;exact GS trivial
 |true=>
 rw[hp]at cp hd;simp only[yAn]at cp hd;have hb:=Dr hp;have a5:=QF hp;rw[hd];simp only[xT,xU]at cp;generalize bY s=PR at *;generalize bQ s bx=PT at *;generalize s.shs=SH at *;have b2:=hb.few;generalize a:ln SH PR PT b PR.length 0 true=a6 at *;generalize ad:(eT SH PR PT b).map aW=X
 have b3:X.length=PR.length:=by rw[<-ad];simp[eT]
 have a2:∀k p,PR[k]?=some p->X[k]?=some (aW (Ad SH PT b k p).1):=λk q hk=>by rw[<-ad,eT,ZW,List.getElem?_mapIdx,hk];rfl
 have ax:=λ(i:Nat)(p:Nat×Nat)(h:PR[i]?=some p)=>Hd (SH:=SH) (PT:=PT) h;have a1:=λ(i:Nat)(p:Nat×Nat)(h:PR[i]?=some p)=>He (SH:=SH) (PT:=PT) h
 have l:(PR.map (tg SH PT)).length=PR.length:=by simp
 have m:(PR.map (tj SH PT)).length=PR.length:=by simp
 generalize PR.map (tg SH PT)=LA at *;generalize PR.map (tj SH PT)=LB at *;refine Dp func98 λC hP hN=>?_;refine GT (gA l m) ?_;refine WP.loopN [13,15] PR.length (λi W=>W.t 2=.pv (bA b)/\W.t 6=.ptr 6 0/\W.h 6=some (.box [.pv (Z 0),.pv (.val (.slice none 0 0)),.pv (Z 0),.pv (.val (.slice none 0 0)),.pv (.val (.slice none 0 0))] true false)/\W.t 7=.pv (.sl LA)/\W.t 8=.pv (.sl LB)/\W.t 10=.ptr 10 0/\W.t 11=.pv (Z i)/\W.h 13=none/\W.h 15=none/\Vk SH PR PT b X a6 i W.h) ?_ ?_
 .simp
  exact qR true a (.inl ⟨rfl,by simp[xV],by simp⟩)
 rintro i W hi ⟨L,M,r,N,O,n,o,e,f,ap,a,V⟩;by_cases x:i<PR.length
 .have B:=ai x (by omega)
  have j:(i:Int)<(PR.length:Int):=by omega
  obtain⟨p,hp⟩:∃p,PR[i]?=some p:=⟨_,an x⟩;have Q:=ax i p hp;have R:=a1 i p hp
  have z:∀h,LA[i]'h=.agg [aU (cZ PT p.1),Z (dc SH p.1)]:=λh=>by rw[an h]at Q;exact yAO Q
  have A:∀h,LB[i]'h=.agg [aU (cZ PT p.2),Z (dc SH p.2)]:=λh=>by rw[an h]at R;exact yAO R
  have r1:=a5 p.1;have r2:=a5 p.2;have l1:=GF hb p.1;have l2:=GF hb p.2;have U:=XF (cZ PT p.1) (dc SH p.1) (cZ PT p.2) (dc SH p.2) (pV b i) (by omega) (by omega) (by simp[pV];omega);have bq:Ad SH PT b i p=sZ (cZ PT p.1) (dc SH p.1) (cZ PT p.2) (dc SH p.2) (pV b i):=rfl;rw[<-bq]at U;rw[show PR.length-i=(PR.length-i-1)+1 by omega]at a;simp only[ln,hp]at a;have a7:=a2 i p hp;generalize Ad SH PT b i p=F at *
  have I:X.take (i+1)=X.take i++[aW F.1]:=by rw[yB0,a7];rfl
  have D:(X.take i).length=i:=by rw[yAN];omega
  have E:i<=X.length:=by omega
  have c1:=DL (cZ PT p.1) (by omega);have c2:=DL (cZ PT p.2) (by omega);have z1:=xH l1;have z2:=xH l2;have c3:=S5 (bc (cZ PT p.1)) (bc (cZ PT p.2)) (dc SH p.1+dc SH p.2) 64 (by omega) (by omega);have a8:tM SH PT p=mu (bc (cZ PT p.1)) (bc (cZ PT p.2)) (dc SH p.1+dc SH p.2) 64:=rfl;have b0:=ED (bc (cZ PT p.1)) (bc (cZ PT p.2)) (dc SH p.1+dc SH p.2) 64;rw[<-a8]at c3 b0;have hw:i64.wrap (dc SH p.1+dc SH p.2)=dc SH p.1+dc SH p.2:=aa;generalize tM SH PT p=K at *;have Y:=Vi K.2.w K.2.v (cZ PT p.1) (dc SH p.1) (cZ PT p.2) (dc SH p.2) (by omega) (by omega) (by omega) (by omega);have b1:kc SH PT K.2.w K.2.v p=(jk K.2.w K.2.v (cZ PT p.1) (dc SH p.1) (cZ PT p.2) (dc SH p.2)&&decide (0<=ii K.2.w K.2.v (cZ PT p.1) (dc SH p.1) (cZ PT p.2) (dc SH p.2))):=rfl;rw[<-b1]at Y
  have S:(i+1)*24<=140737488355328:=by omega
  have T:i<=9223372036854775806:=by omega
  clear a2 ad ax a1;by_cases u:i<b.length
  .have y:=QW b i u
   have J:(i:Int)<(b.length:Int):=by omega
   rcases V with⟨g,c,d⟩|⟨g,c,d⟩
   .have P:X.take i=[]:=by rw[g];rfl
    rw[P,List.nil_append]at I
    cases G:F.2 with
    |true=>
     rw[G]at U a;simp only[yAn]at a;refine GT (zAe L M r N O n o e f c d u J x (zAd j B Q z R A l m y D E (gA S T))) ?_;rw[show PR.length-i-1=PR.length-(i+1) by omega]at a
     all_goals exact qR ap a (.inr ⟨by omega,by simp[g],by simp[I]⟩)
    |false=>
     rw[G]at U a;simp only[ZY,yAi]at a
     cases H:kc SH PT K.2.w K.2.v p with
     |true=>
      rw[H]at Y a;simp only[yAn]at a;subst a;exact GS (zAe L M r N O n o e f c d u J x (zAd j B Q z R A l m y D E (be S T hw)))
     |false=>
      rw[H]at Y a;simp only[ZY,yAi]at a;rw[show PR.length-i-1=PR.length-(i+1) by omega]at a;refine GT (zAe L M r N O n o e f c d u J x (zAd j B Q z R A l m y D E (be S T hw))) ?_
      all_goals exact qR false a (.inr ⟨by omega,by simp[xV,g],by simp[I]⟩)
   .have P:0<i:=g
    cases G:F.2 with
    |true=>
     rw[G]at U a;simp only[yAn]at a;refine GT (zAe L M r N O n o e f c d u J x (zAd j B Q z R A l m y D E (gA S T))) ?_;rw[show PR.length-i-1=PR.length-(i+1) by omega]at a
     all_goals exact qR ap a (.inr ⟨by omega,by simp[g],by simp[I]⟩)
    |false=>
     rw[G]at U a;simp only[ZY,yAi]at a
     cases H:kc SH PT K.2.w K.2.v p with
     |true=>
      rw[H]at Y a;simp only[yAn]at a;subst a;exact GS (zAe L M r N O n o e f c d u J x (zAd j B Q z R A l m y D E (be S T hw)))
     |false=>
      rw[H]at Y a;simp only[ZY,yAi]at a;rw[show PR.length-i-1=PR.length-(i+1) by omega]at a;refine GT (zAe L M r N O n o e f c d u J x (zAd j B Q z R A l m y D E (be S T hw))) ?_
      all_goals exact qR false a (.inr ⟨by omega,by simp[xV,g],by simp[I]⟩)
  .have y:¬(i:Int)<(b.length:Int):=by omega
   rw[Ki u]at U;simp only[bA,yCg]at U;rcases V with⟨g,c,d⟩|⟨g,c,d⟩
   .have P:X.take i=[]:=by rw[g];rfl
    rw[P,List.nil_append]at I
    cases G:F.2 with
    |true=>
     rw[G]at U a;simp only[yAn]at a;refine GT (zAe L M r N O n o e f c d u x j (zAd B Q z R A l m y D E S T)) ?_;rw[show PR.length-i-1=PR.length-(i+1) by omega]at a
     all_goals exact qR ap a (.inr ⟨by omega,by simp[g],by simp[I]⟩)
    |false=>
     rw[G]at U a;simp only[ZY,yAi]at a
     cases H:kc SH PT K.2.w K.2.v p with
     |true=>
      rw[H]at Y a;simp only[yAn]at a;subst a;exact GS (zAe L M r N O n o e f c d u x j (zAd B Q z R A l m y D E S (gA T hw)))
     |false=>
      rw[H]at Y a;simp only[ZY,yAi]at a;rw[show PR.length-i-1=PR.length-(i+1) by omega]at a;refine GT (zAe L M r N O n o e f c d u x j (zAd B Q z R A l m y D E S (gA T hw))) ?_
      all_goals exact qR false a (.inr ⟨by omega,by simp[xV,g],by simp[I]⟩)
   .have P:0<i:=g
    cases G:F.2 with
    |true=>
     rw[G]at U a;simp only[yAn]at a;refine GT (zAe L M r N O n o e f c d u x j (zAd B Q z R A l m y D E S T)) ?_;rw[show PR.length-i-1=PR.length-(i+1) by omega]at a
     all_goals exact qR ap a (.inr ⟨by omega,by simp[g],by simp[I]⟩)
    |false=>
     rw[G]at U a;simp only[ZY,yAi]at a
     cases H:kc SH PT K.2.w K.2.v p with
     |true=>
      rw[H]at Y a;simp only[yAn]at a;subst a;exact GS (zAe L M r N O n o e f c d u x j (zAd B Q z R A l m y D E S (gA T hw)))
     |false=>
      rw[H]at Y a;simp only[ZY,yAi]at a;rw[show PR.length-i-1=PR.length-(i+1) by omega]at a;refine GT (zAe L M r N O n o e f c d u x j (zAd B Q z R A l m y D E S (gA T hw))) ?_
      all_goals exact qR false a (.inr ⟨by omega,by simp[xV,g],by simp[I]⟩)
 .have bs:i=PR.length:=by omega
  subst bs;rw[yBO]at a;simp only[ln]at a
  have ay:(eT SH PR PT b).length=PR.length:=by simp[eT]
  rcases V with⟨g,c,d⟩|⟨g,c,d⟩
  .have P:eT SH PR PT b=[]:=yAA (by omega)
   rw[P]at a
   cases ap with
   |true=>
    simp only[yAn]at a;subst a;simp only[xV,yAn]at c;exact GS (zAd L M r N O n o c d e f (be l m g))
   |false=>
    simp only[ZY,yAi]at a;subst a;simp only[xV,ZY,yAi]at c;exact GS (zAd L M r N O n o c d e f (be l m g))
  .rw[yAu (by omega),<-ad]at d
   cases ap with
   |true=>
    simp only[yAn]at a;subst a;simp only[xV,yAn]at c;exact GS (zAd L M r N O n o c d e f (be l m ay))
   |false=>
    simp only[ZY,yAi]at a;subst a;simp only[xV,ZY,yAi]at c;exact GS (zAd L M r N O n o c d e f (be l m ay))
theorem OF(s:Sce)(bx:List Iv)(ns:List Vc)(hs:ScL s)(N:bx.length<=9223372036854775807)(hn:ns.length<=9223372036854775807):jQ 258 (dZ s) (iv bx) (bA ns) (B (dg s bx ns)):=by
 have r:=S6 s bx hs N;have hd:dg s bx ns=(dr s bx&&jp s.shs (bY s) (bQ s bx) ns):=rfl
 cases hp:dr s bx with
 |false=>
  rw[hp]at r hd;simp only[ZY,yAi,yAG]at r hd;rw[hd];refine Dp func258 λC hP hN=>?_;exact GS trivial
 |true=>
 rw[hp]at r hd;simp only[yAn,yAs]at r hd;have M:=Dr hp;rw[hd];simp only[xT,xU]at r;generalize bY s=PR at *;generalize bQ s bx=PT at *;generalize s.shs=SH at *;have T:=M.few;have K:=λ(i:Nat)(p:Nat×Nat)(h:PR[i]?=some p)=>Hd (SH:=SH) (PT:=PT) h;have L:=λ(i:Nat)(p:Nat×Nat)(h:PR[i]?=some p)=>He (SH:=SH) (PT:=PT) h
 have b:(PR.map (tg SH PT)).length=PR.length:=by simp
 have m:(PR.map (tj SH PT)).length=PR.length:=by simp
 generalize PR.map (tg SH PT)=R at *;generalize PR.map (tj SH PT)=S at *;by_cases a:ns.length=PR.length
 case neg=>
  have J:((ns.length:Int)!=(PR.length:Int))=true:=by simp;omega
  have U:¬(ns.length:Int)=(PR.length:Int):=by omega
  have hf:jp SH PR PT ns=false:=by simp[jp,a]
  rw[hf];refine Dp func258 λC hP hN=>?_;exact GS (be J U b)
 have J:((ns.length:Int)!=(PR.length:Int))=false:=by simp[a]
 refine Dp func258 λC hP hN=>?_;refine GT (be J a b) ?_;refine WP.loopN [] PR.length (λi z=>z.t 2=.pv (bA ns)/\z.t 7=.pv (.sl R)/\z.t 8=.pv (.sl S)/\z.t 10=.pv (Z i)/\Fg SH PR PT ns i) ?_ ?_
 .simp
  exact λk n p V=>by omega
 rintro i z hi ⟨G,H,I,l,hq⟩;by_cases f:i<PR.length
 .have y:=ai f (by omega)
  have c:i<ns.length:=by omega
  have j:(i:Int)<(PR.length:Int):=by omega
  generalize o:ns[i]=v at *
  have E:ns[i]?=some v:=by rw[an c,o]
  obtain⟨p,hp⟩:∃p,PR[i]?=some p:=⟨_,an f⟩;have A:=K i p hp;have D:=L i p hp
  have u:∀h,R[i]'h=.agg [aU (cZ PT p.1),Z (dc SH p.1)]:=λh=>by rw[an h]at A;exact yAO A
  have x:∀h,S[i]'h=.agg [aU (cZ PT p.2),Z (dc SH p.2)]:=λh=>by rw[an h]at D;exact yAO D
  have F:=Tm v (cZ PT p.1) (dc SH p.1) (cZ PT p.2) (dc SH p.2) (rk M _) (rk M _);have P:tL SH PT v p=kE v (cZ PT p.1) (dc SH p.1) (cZ PT p.2) (dc SH p.2):=rfl;rw[<-P]at F
  cases g:tL SH PT v p with
  |true=>
   rw[g]at F
   have Q:Fg SH PR PT ns (i+1):=λk n q V hn d=>by
    by_cases e:k=i
    .subst e;rw[E]at hn;rw[hp]at d;injection hn with hn;injection d with d;subst hn;subst d;exact g
    .exact hq k n q (by omega) hn d
   refine GT (zAe G H I l f j c a E o y A u D (be x b m)) ?_
   all_goals exact Q
  |false=>
   rw[g]at F;rw[EC E hp g];exact GS (zAe G H I l f j c a E o y A u D (be x b m))
 .have O:i=PR.length:=by omega
  subst O;rw[xF a (by rw[a];exact hq)];exact GS (so G H I l b m)
theorem Zy(s:Sce)(bx:List Iv)(w:Wit)(hs:ScL s)(v:bx.length<=9223372036854775807)(H:w.a.length<=9223372036854775807)(z:w.b.length<=9223372036854775807):jQ 30 (dZ s) (iv bx) (Fh w) (B (dO s bx w)):=by
 have f:=S6 s bx hs v;have hd:dO s bx w=(dr s bx&&np s.shs (bY s) (bQ s bx) w):=rfl
 cases hp:dr s bx with
 |false=>
  rw[hp]at f hd;simp only[ZY,yAi,yAG]at f hd;rw[hd];refine Dp func30 λC hP hN=>?_;exact GS trivial
 |true=>
 rw[hp]at f hd;simp only[yAn,yAs]at f hd;have u:=Dr hp;rw[hd];simp only[xT,xU]at f;generalize bY s=PR at *;generalize bQ s bx=PT at *;generalize s.shs=SH at *;have J:=u.few;have l:=λ(i:Nat)(p:Nat×Nat)(h:PR[i]?=some p)=>Hd (SH:=SH) (PT:=PT) h;have q:=λ(i:Nat)(p:Nat×Nat)(h:PR[i]?=some p)=>He (SH:=SH) (PT:=PT) h
 have e:(PR.map (tg SH PT)).length=PR.length:=by simp
 have r:(PR.map (tj SH PT)).length=PR.length:=by simp
 generalize PR.map (tg SH PT)=D at *;generalize PR.map (tj SH PT)=E at *;by_cases G:w.pair<0
 .have hf:np SH PR PT w=false:=by unfold np;rw[yA4 (by omega)];rfl
  rw[hf];refine Dp func30 λC hP hN=>?_;exact GS (gA G e)
 obtain⟨k,x⟩:∃k:Nat,w.pair=k:=⟨w.pair.toNat,by omega⟩
 have hcd:np SH PR PT w=match PR[k]? with
  |some p=>kc SH PT w.a w.b p
  |none=>false:=by unfold np;rw[x,yAF (by omega)];simp only[yAs,yAm];rfl
 by_cases A:k<PR.length
 .obtain⟨p,hp⟩:∃p,PR[k]?=some p:=⟨_,an A⟩
  rw[hp]at hcd;simp only at hcd
  have d:¬(PR.length:Int)<=k:=by omega
  have c:¬PR.length<=k:=by omega
  have g:=l k p hp;have m:=q k p hp
  have j:∀h,D[k]'h=.agg [aU (cZ PT p.1),Z (dc SH p.1)]:=λh=>by rw[an h]at g;exact yAO g
  have n:∀h,E[k]'h=.agg [aU (cZ PT p.2),Z (dc SH p.2)]:=λh=>by rw[an h]at m;exact yAO m
  have F:=Vi w.a w.b (cZ PT p.1) (dc SH p.1) (cZ PT p.2) (dc SH p.2) H z (rk u _) (rk u _);have y:kc SH PT w.a w.b p=(jk w.a w.b (cZ PT p.1) (dc SH p.1) (cZ PT p.2) (dc SH p.2)&&decide (0<=ii w.a w.b (cZ PT p.1) (dc SH p.1) (cZ PT p.2) (dc SH p.2))):=rfl;rw[<-y]at F;rw[hcd];generalize kc SH PT w.a w.b p=o at *;refine Dp func30 λC hP hN=>?_;exact GS (zAc x A d c g j m n e r)
 .have I:PR[k]?=none:=yAf (by omega)
  rw[I]at hcd;simp only at hcd;rw[hcd]
  have d:(PR.length:Int)<=k:=by omega
  have c:PR.length<=k:=by omega
  refine Dp func30 λC hP hN=>?_;exact GS (go x d c e)
theorem QA(b:List (Int×Int)):(oV b (aC js ms)&&decide (0<b.length))=mo js ms b:=by
 unfold mo aC;by_cases c:aD js ms=0
 .have f:=mn c
  simp only[c,yAn,yBJ,yAs];by_cases d:js.length=b.length
  .have l:ew eE b (js.map ic)=ew (λj x=>eE x (ic j)) js b:=by
    have e:ew eE b (js.map ic)=true↔ew (λj x=>eE x (ic j)) js b=true:=by
     rw[kw,kw];constructor
     .intro H i h a;have:=H i a (by simpa using h);simpa using this
     .intro H i h a;have:=H i (by simpa using a) h;simpa using this
    cases x:ew eE b (js.map ic)<;>cases y:ew (λj x=>eE x (ic j)) js b<;>simp_all
   simp only[oV,yAz,l]
   have m:decide (b.length=js.length)=true:=by simp[d]
   have n:decide (js.length=b.length)=true:=by simp[d]
   have o:decide (0<b.length)=true:=by simp;omega
   simp only[m,n,o,yAs,yBz]
  .have g:decide (b.length=js.length)=false:=by simp;omega
   have k:decide (js.length=b.length)=false:=by simp;omega
   simp[oV,g,k]
 .simp only[c,yAi,decide_false,yAG]
  unfold oV;cases b<;>simp
theorem Ze(js:List J)(ms:List Ms)(b:List (Int×Int))(e:js.length<=9223372036854775807)(f:ms.length<=9223372036854775807)(d:b.length<=9223372036854775807):aL 97 (gH js ms) (iv b) (B (mo js ms b)):=by
 have a:(aC js ms).length<=9223372036854775807:=by unfold aC;split<;>simp;omega
 have g:=UU js ms e f;have c:=VV b (aC js ms) d a;rw[JO]at c;rw[<-QA];generalize aC js ms=u at *;generalize oV b u=v at *;refine Dp func97 λC hP hN=>?_;exact Gy
 all_goals simp_all
theorem Sk(s:Sce)(t:Tr)(i:Int)(hs:ScL s)(F:t.cells.length<=9223372036854775807)(M:t.root.length<=9223372036854775807)(y:∀c∈t.cells,c.v.nor.length<=9223372036854775807):jQ 45 (dZ s) (eo t) (Z i) (.tup [eo (eS s t i),B (jW s t i)]):=by
 have q:=hs.js;have u:=hs.ms
 have f:(gj t i).length<=9223372036854775807:=by
  unfold gj;split
  .rename_i h
   simp only[jd,An,Is]at h;have:=(dF h.1.1 (c:=i) (by omega)).2.1;omega
  .simp
 have j:=Vs t i F;have L:=EF s hs;have z:=Ze s.js s.ms (gj t i) q u f
 cases hp:oo s t i with
 |true=>
  have g:=hp;simp only[oo,An,Is]at hp;obtain⟨⟨d,a⟩,m⟩:=hp;have l:=a;simp only[jd,An,Is]at l;obtain⟨k,rfl⟩:∃k:Nat,i=k:=⟨i.toNat,by omega⟩
  have r:k<t.cells.length:=by omega
  obtain⟨c,p⟩:∃c,t.cells[k]?=some c:=⟨_,an r⟩;have G:∀h,t.cells[k]'h=c:=λh=>aJ p h
  have x:er t k=c.v:=by simp[er,p]
  have J:=Vl s (gj t k) c.v.nor hs f (y c (In p))
  have E:lm s t k=kS (eD s (gj t k) c.v.nor):=by rw[lm,yAm,x]
  have o:eS s t k=dT t k (kS (eD s (gj t k) c.v.nor)):=by rw[eS,yAb g,E]
  have n:jW s t k=di t k (kS (eD s (gj t k) c.v.nor)):=by rw[jW,g,yAs,E]
  rw[o,n]
  have e:(az s !=0)=false:=by simp[d]
  rw[a]at j;rw[m]at z;generalize eD s (gj t k) c.v.nor=V at *;generalize gj t (k:Int)=b at *;obtain⟨H,I,⟨pr,A,D⟩⟩:=V;simp only[kS];have K:=Vr t k ⟨H,I,pr,A,D⟩ F;refine Dp func45 λC hP hN=>?_;exact Gy
 |false=>
  have o:eS s t i=t:=by rw[eS,L4 (by simp[hp])]
  have n:jW s t i=false:=by rw[jW,hp,yAG]
  rw[o,n];by_cases d:az s=0
  .have e:(az s !=0)=false:=by simp[d]
   cases a:jd t i with
   |false=>
    rw[a]at j;refine Dp func45 λC hP hN=>?_;exact Gy
   |true=>
    have m:mo s.js s.ms (gj t i)=false:=by simpa[oo,d,a]using hp
    rw[a]at j;rw[m]at z;refine Dp func45 λC hP hN=>?_;exact Gy
  .have e:(az s !=0)=true:=by simp[d]
   refine Dp func45 λC hP hN=>?_;exact Gy
theorem Zf(s:Sce)(t:Tr)(i j:Int)(hs:ScL s)(E:TL t)(S:t.cells.length<=999990):yn 49 (dZ s) (eo t) (Z i) (Z j) (.tup [eo (rS s t i j),B (vF s t i j)]):=by
 have Q:=E.c;have R:=E.r;have H:=TC t i j (by omega);have A:=AG E S i j;have e:vF s t i j=(cG t i j&&jW s (bh t i j) t.cells.length&&jW s (pR s t i j) (t.cells.length+1)):=rfl
 have m:rS s t i j=if vF s t i j then eS s (pR s t i j) (t.cells.length+1)else t:=rfl
 cases G:cG t i j with
 |false=>
  rw[G,yAG,yAG]at e;rw[e,L4 (by simp)]at m;rw[G]at H;rw[e,m];refine Dp func49 λC hP hN=>?_;exact Gy
 |true=>
 rw[G]at H e;have N:pR s t i j=eS s (bh t i j) t.cells.length:=rfl;have F:=Sk s (bh t i j) t.cells.length hs (by have:=A.c;omega) (by have:=A.r;omega) A.v;rw[<-N]at F;have l:TL (pR s t i j):=LD A _;have I:=Sk s (pR s t i j) (t.cells.length+1) hs (by have:=l.c;omega) (by have:=l.r;omega) l.v;clear N A l E;generalize T:bh t i j=u at *;generalize pR s t i j=o at *;have w0:i64.wrap ((t.cells.length:Int)+2)=(t.cells.length:Int)+2:=aa;have V:i64.wrap ((t.cells.length:Int)+1)=(t.cells.length:Int)+1:=aa;have W:i64.wrap ((t.cells.length:Int)+1+1)=(t.cells.length:Int)+2:=aa;generalize U:(t.cells.length:Int)=n at *;obtain⟨root,cells⟩:=t;simp only at *
 cases D:jW s u n with
 |false=>
  rw[D,yBm,yAG]at e;rw[e,L4 (by simp)]at m;rw[D]at F;rw[e,m];refine Dp func49 λC hP hN=>?_;refine Gz ?_;refine WP.loopN [] 1 (λk a=>a.t 4=.ptr 4 0/\a.h 4=some (.box [.pv (.sl (s.js.map bj)),.pv (.sl (s.ms.map bN)),.pv (.sl (s.shs.map bU)),.pv (.sl (s.sks.map aA))] true false)/\a.t 5=.ptr 5 0/\a.h 5=some (.box [.pv (iv root),.pv (.sl (cells.map bD))] true false)/\a.t 8=.ptr 8 0/\a.h 8=some (.box [.pv (.val (.slice none 0 0)),.pv (.val (.slice none 0 0))] true false)/\a.t 10=.pv (Z n)/\a.t 11=.ptr 11 0/\a.h 11=some (.box [.pv (iv u.root),.pv (.sl (u.cells.map bD))] true false)/\a.t 13=.pv (Z n)/\k=0) (by simp) ?_;rintro k a O ⟨J,x,K,y,L,z,p,q,d,f,b⟩;subst b
  have g:n<n+2:=by omega
  exact Gy
 |true=>
 rw[D,yBz,yAs]at e;rw[D]at F
 cases M:jW s o (n+1)with
 |false=>
  rw[M]at e I;rw[e,L4 (by simp)]at m;rw[e,m];refine Dp func49 λC hP hN=>?_;refine Gz ?_;refine WP.loopN [] 2 (λk a=>a.t 4=.ptr 4 0/\a.h 4=some (.box [.pv (.sl (s.js.map bj)),.pv (.sl (s.ms.map bN)),.pv (.sl (s.shs.map bU)),.pv (.sl (s.sks.map aA))] true false)/\a.t 5=.ptr 5 0/\a.h 5=some (.box [.pv (iv root),.pv (.sl (cells.map bD))] true false)/\a.t 8=.ptr 8 0/\a.h 8=some (.box [.pv (.val (.slice none 0 0)),.pv (.val (.slice none 0 0))] true false)/\a.t 10=.pv (Z n)/\a.t 11=.ptr 11 0/\((k=0/\a.h 11=some (.box [.pv (iv u.root),.pv (.sl (u.cells.map bD))] true false)/\a.t 13=.pv (Z n))\/(k=1/\a.h 11=some (.box [.pv (iv o.root),.pv (.sl (o.cells.map bD))] true false)/\a.t 13=.pv (Z (n+1))))) (by simp) ?_;rintro k a O ⟨J,x,K,y,L,z,p,q,⟨b,d,f⟩|⟨b,d,f⟩⟩
  .subst b
   have g:n<n+2:=by omega
   exact Gy
  .subst b
   have g:n+1<n+2:=by omega
   exact Gy
 |true=>
  rw[M]at e I;rw[e,yAb rfl]at m;rw[e,m];generalize eS s o (n+1)=P at *;refine Dp func49 λC hP hN=>?_;refine Gz ?_;refine WP.loopN [] 3 (λk a=>a.t 4=.ptr 4 0/\a.h 4=some (.box [.pv (.sl (s.js.map bj)),.pv (.sl (s.ms.map bN)),.pv (.sl (s.shs.map bU)),.pv (.sl (s.sks.map aA))] true false)/\a.t 5=.ptr 5 0/\a.h 5=some (.box [.pv (iv root),.pv (.sl (cells.map bD))] true false)/\a.t 8=.ptr 8 0/\a.h 8=some (.box [.pv (.val (.slice none 0 0)),.pv (.val (.slice none 0 0))] true false)/\a.t 10=.pv (Z n)/\a.t 11=.ptr 11 0/\((k=0/\a.h 11=some (.box [.pv (iv u.root),.pv (.sl (u.cells.map bD))] true false)/\a.t 13=.pv (Z n))\/(k=1/\a.h 11=some (.box [.pv (iv o.root),.pv (.sl (o.cells.map bD))] true false)/\a.t 13=.pv (Z (n+1)))\/(k=2/\a.h 11=some (.box [.pv (iv P.root),.pv (.sl (P.cells.map bD))] true false)/\a.t 13=.pv (Z (n+2))))) (by simp) ?_;rintro k a O ⟨J,x,K,y,L,z,p,q,⟨b,d,f⟩|⟨b,d,f⟩|⟨b,d,f⟩⟩
  .subst b
   have g:n<n+2:=by omega
   exact Gy
  .subst b
   have g:n+1<n+2:=by omega
   exact Gy
  .subst b
   exact Gy
theorem Vb(s:Sce)(p q:List Int)(w cells:Int)(hs:ScL s)(L:p.length<=9223372036854775807)(M:q.length<=9223372036854775807):Ao 19 (dZ s) (zs p) (zs q) (Z w) (Z cells) (.tup [eo (mU s p q w cells).1,Z (mU s p q w cells).2]):=by
 have cs:=EF s hs;have P:=KZ s.js s.ms p hs.js hs.ms;have Q:=KZ s.js s.ms q hs.js hs.ms
 have hd:mU s p q w cells=if Cb s p q w cells then j9 s p q w cells 2048 (ur s)else(⟨[],[]⟩,0):=rfl
 have hP:Cb s p q w cells=(decide (az s=0)&&bb s.js s.ms p&&bb s.js s.ms q&&decide (1<=w)&&decide (1<=cells)&&decide (cells<=2048)):=rfl;by_cases l:az s=0
 case neg=>
  rw[yA4 l]at hP;simp only[yAG]at hP;rw[hP,L4 (by simp)]at hd
  have E:(az s !=0)=true:=by simp[l]
  rw[hd];refine Dp func19 λC hP hN=>?_;exact Gy
 have E:(az s !=0)=false:=by simp[l]
 rw[yAF l,yAs]at hP
 cases S:bb s.js s.ms p with
 |false=>
  rw[S]at hP P;simp only[yAG]at hP;rw[hP,L4 (by simp)]at hd;rw[hd];refine Dp func19 λC hP hN=>?_;exact Gy
 |true=>
 rw[S]at hP P;rw[yAs]at hP
 cases T:bb s.js s.ms q with
 |false=>
  rw[T]at hP Q;simp only[yAG]at hP;rw[hP,L4 (by simp)]at hd;rw[hd];refine Dp func19 λC hP hN=>?_;exact Gy
 |true=>
 rw[T]at hP Q;rw[yAs]at hP;by_cases U:1<=w
 case neg=>
  rw[yA4 U]at hP;simp only[yAG]at hP;rw[hP,L4 (by simp)]at hd
  have F:w<1:=by omega
  rw[hd];refine Dp func19 λC hP hN=>?_;exact Gy
 have F:¬w<1:=by omega
 rw[yAF U,yAs]at hP;by_cases V:1<=cells
 case neg=>
  rw[yA4 V]at hP;simp only[yAG]at hP;rw[hP,L4 (by simp)]at hd
  have G:cells<1:=by omega
  rw[hd];refine Dp func19 λC hP hN=>?_;exact Gy
 have G:¬cells<1:=by omega
 rw[yAF V,yAs]at hP;by_cases W:cells<=2048
 case neg=>
  rw[yA4 W]at hP;rw[hP,L4 (by simp)]at hd
  have H:2048<cells:=by omega
  rw[hd];refine Dp func19 λC hP hN=>?_;exact Gy
 have H:¬2048<cells:=by omega
 rw[yAF W]at hP;rw[hP,yAb rfl]at hd;have a7:i64.wrap (cells-2)=cells-2:=aa;have cl:=UU s.js s.ms hs.js hs.ms;have cn:=Vq (aC s.js s.ms);obtain⟨I0,a2,K,k⟩:=Gv l;have cc:=Sk s (gP (aC s.js s.ms)) 0 hs (by have:=k.c;omega) (by have:=k.r;omega) k.v;have y:eS s (gP (aC s.js s.ms)) 0=ur s:=rfl;rw[y]at cc;have O:=GB (kA l);rw[O]at cn;generalize jW s (gP (aC s.js s.ms)) 0=o1 at *;clear y K k;generalize gP (aC s.js s.ms)=t0 at *;generalize x:j9 s p q w cells 2048 (ur s)=A at *;rw[hd];clear hd;generalize a1:ur s=d0 at *;have N:=λ(t:Tr)(a b:Int)(g:DeI s t)(hn:Nx t a b)(hl:t.cells.length+2<=2048)=>Gu l g hn hl;have cx:=λ(t:Tr)(g:DeI s t)=>Zg s.js s.ms t p q w hs.js hs.ms (by have:=g.tl.c;omega) (by have:=g.tl.r;omega) L M;have B:=λ(t:Tr)(g:DeI s t)(hc:t.cells.length<=999990)(i j:Int)=>Zf s t i j hs g.tl hc;have J:=λ(t:Tr)(a b:Int)(h:gD s.js s.ms t p q w=(a,b,3))=>Gt h;have o:=λ(f:Nat)(t:Tr)=>NK (s:=s) (p:=p) (q:=q) (w:=w) (cells:=cells) (f:=f) (t:=t);have m:=λ(f:Nat)(t:Tr)=>NL (s:=s) (p:=p) (q:=q) (w:=w) (cells:=cells) (f:=f) (t:=t);have n:=λ(f:Nat)(t:Tr)=>NM (s:=s) (p:=p) (q:=q) (w:=w) (cells:=cells) (f:=f) (t:=t);obtain⟨js,ms,SH,sks⟩:=s;simp only at *;refine Dp func19 λC hP hN=>?_;refine Gz ?_;refine WP.loopN [] 1100 (λi e=>∃t,DeI ⟨js,ms,SH,sks⟩ t/\t.cells.length=1+2*i/\t.cells.length<=2048/\j9 ⟨js,ms,SH,sks⟩ p q w cells (2048-i) t=A/\e.t 1=.pv (zs p)/\e.t 2=.pv (zs q)/\e.t 3=.pv (Z w)/\e.t 4=.pv (Z cells)/\e.t 5=.ptr 5 0/\e.h 5=some (.box [.pv (.sl (js.map bj)),.pv (.sl (ms.map bN)),.pv (.sl (SH.map bU)),.pv (.sl (sks.map aA))] true false)/\e.t 10=.ptr 10 0/\e.h 10=some (.box [.pv (.val (.slice none 0 0)),.pv (.val (.slice none 0 0))] true false)/\e.t 12=.ptr 12 0/\e.h 12=some (.box [.pv (iv t.root),.pv (.sl (t.cells.map bD))] true false)) ?_ ?_
 .refine⟨d0,I0,by omega,by omega,x,?_⟩
  simp
 rintro i e hi ⟨t,g,a6,a5,d,g1,g2,g3,g4,g5,ay,ad,X,ax,Y⟩;have c1:=cx t g;rw[show 2048-i=(2048-(i+1))+1 by omega]at d;by_cases u:(gD js ms t p q w).2.2=3
 .have D:((gD js ms t p q w).2.2 !=3)=false:=by simp[u]
  by_cases R:cells-2<t.cells.length
  .rw[m _ t u R]at d
   subst d;generalize gD js ms t p q w=z at *;exact Gy
  .rw[n _ t u R]at d
   have I:=J t (gD js ms t p q w).1 (gD js ms t p q w).2.1 (by rw[<-u]);have c2:=B t g (by omega) (gD js ms t p q w).1 (gD js ms t p q w).2.1;obtain⟨r1,r2,r3⟩:=N t _ _ g I (by omega);rw[r1]at c2;generalize gD js ms t p q w=z at *;generalize rS ⟨js,ms,SH,sks⟩ t z.1 z.2.1=t' at *;refine Gz ?_
   all_goals exact⟨by omega,t',r2,by omega,by omega,(by rw[show 2047-i=2048-(i+1) by omega];exact d),rfl,rfl⟩
 .have D:((gD js ms t p q w).2.2 !=3)=true:=by simp[u]
  rw[o _ t u]at d;subst d;generalize gD js ms t p q w=z at *;exact Gy
theorem Y1(xs:List (Int×Int))(ys:List (Int×Int))(l:xs.length<=9223372036854775807)(n:ys.length<=9223372036854775807):aL 55 (iv xs) (iv ys) (B (qL xs ys)):=by
 refine Dp func55 λC hP hN=>?_;by_cases c:xs.length=ys.length
 .skip
  with_reducible repeat' (first|refine Sp.h ?_|((first|refine Wd ?_|refine Ss.h ?_|(refine Sb.h ?_ ?_ ?_<;>(try intro hgd)<;>try exact Xy))<;>simp -implicitDefEqProofs (maxSteps:=2000000) [hP,hN,c]<;>try refine Ya ?_)|refine X2 ?_ ?_|(refine Xd ?_ ?_<;>intro hcd<;>try exact Xx))
  refine WP.loopN [] xs.length (λi e=>e.t 0=.pv (iv xs)/\e.t 1=.pv (iv ys)/\e.t 12=.pv (Z xs.length)/\e.t 13=.pv (Z i)/\fS zT xs ys i=true) (by simp[fS,c]) ?_;rintro i e hi ⟨f,g,d,j,hq⟩;by_cases b:i<xs.length
  .have m:=ai b l
   have a:i<ys.length:=by omega
   have k:zT xs[i] ys[i]=false->ew zT xs ys=false:=ku b a;have hS:zT xs[i] ys[i]=true->fS zT xs ys (i+1)=true:=lS b a hq
   with_reducible repeat' (first|refine Sp.h ?_|((first|refine Wd ?_|refine Ss.h ?_|(refine Sb.h ?_ ?_ ?_<;>(try intro hgd)<;>try exact Xy))<;>simp -implicitDefEqProofs (maxSteps:=2000000) [hP,hN,f,g,d,j,b,a,m,c]<;>try refine Ya ?_)|refine X2 ?_ ?_|(refine Xd ?_ ?_<;>intro hcd<;>try exact Xx))
   all_goals first|(rw[qL,k (by simp only[zT]<;>grind)];simp;done)|(rw[hS (by simp only[zT]<;>grind)];done)
  .have a:¬i<ys.length:=by omega
   with_reducible repeat' (first|refine Sp.h ?_|((first|refine Wd ?_|refine Ss.h ?_|(refine Sb.h ?_ ?_ ?_<;>(try intro hgd)<;>try exact Xy))<;>simp -implicitDefEqProofs (maxSteps:=2000000) [hP,hN,f,g,d,j,b,a,c]<;>try refine Ya ?_)|refine X2 ?_ ?_|(refine Xd ?_ ?_<;>intro hcd<;>try exact Xx))
   all_goals simp[qL,c,lT b hq]
 .skip
  with_reducible repeat' (first|refine Sp.h ?_|((first|refine Wd ?_|refine Ss.h ?_|(refine Sb.h ?_ ?_ ?_<;>(try intro hgd)<;>try exact Xy))<;>simp -implicitDefEqProofs (maxSteps:=2000000) [hP,hN,c]<;>try refine Ya ?_)|refine X2 ?_ ?_|(refine Xd ?_ ?_<;>intro hcd<;>try exact Xx))
  all_goals simp[qL,c]
def K6(hi:Int)(i:Nat):J:=⟨rI i,4+(i:Int).tmod 2,(i:Int)-1,0,0,0,0,hi,1,65536,65536,65536⟩
def wv(hi:Int)(k:Nat):List J:=(List.range k).map (K6 hi)
theorem Nt(hi:Int)(k:Nat):(wv hi (k+1)).map bj=(wv hi k).map bj++[bj (K6 hi k)]:=by simp[wv,yBo]
theorem ug(hi:Int)(k:Nat):(wv hi k).length=k:=by simp[wv]
theorem Y2(n:Nat)(hi:Int)(E:0<n)(hn:n<=3):aL 31 (Z n) (Z hi) (gH (wv hi n) []):=by
 refine Dp func31 λC hP hN=>?_;refine Gz ?_
 refine WP.loopN [] n (λi c=>c.t 0=.pv (Z n)/\c.t 1=.pv (Z hi)/\c.t 4=.ptr 4 0/\c.h 4=some (.box [eR,eR] true false)/\c.t 5=.ptr 5 0/\c.t 6=.pv (Z i)/\
  ((i=0/\c.h 5=some (.box [eR,eR] true false)/\c.h 24=none)\/(0<i/\c.h 5=some (.box [.arr 24 i,eR] true false)/\c.h 24=some (.row 97 12 ((wv hi i).map bj) 0)))) (by simp) ?_
 rintro i c z ⟨o,p,q,j,r,s,g⟩;by_cases l:i<n
 .have D:i64.wrap ((i:Int)+1)=(i:Int)+1:=by rw[IntKind.wrap_i64];omega
  have f:(i:Int)<(n:Int):=by omega
  have y:=Nt hi i;have A:=Int.tmod_nonneg 2 (Int.natCast_nonneg i);have B:=yBE (i:Int) (b:=2) (by decide);have u:i64.wrap ((i:Int).tmod 2)=(i:Int).tmod 2:=aa;have v:i64.wrap (4+(i:Int).tmod 2)=4+(i:Int).tmod 2:=aa;have x:i64.wrap ((i:Int)-1)=(i:Int)-1:=aa;have m:=ug hi i;rcases g with⟨d,e,a⟩|⟨d,e,a⟩
  .subst d
   have cl:=RL 0 (by omega);rw[show((0:Nat):Int)=0 from rfl]at cl
   have F:i64.wrap 0=0:=by decide
   have G:i64.wrap 4=4:=by decide
   have H:i64.wrap (-1)=-1:=by decide
   have I:i64.wrap (0+1)=1:=by decide
   have J:i64.wrap (0-1)=-1:=by decide
   have K:Int.tmod 0 2=0:=by decide
   refine Gz ?_
   all_goals simp[wv,K6]
  .have cl:=RL i (by omega)
   refine GT (zAe o p q j r s e a l f D u v x (be m (show(i+1)*104<=140737488355328 by omega) (show i<=9223372036854775806 by omega))) ?_
   all_goals simp[y,K6]
 .have k:i=n:=by omega
  subst k;rcases g with⟨d,_⟩|⟨d,e,a⟩
  .omega
  have m:=ug hi i;exact Gy
def qu(l:List Int):Nat:=(1+nx l 0 2).toNat
def mK(l:List Int):Nat:=nn l 0
def qh(l:List Int):Nat:=nn l (mK l)
def Nu(l:List Int):Nat:=nn l (qh l)
def qv(l:List Int):Nat:=(nx l (qh l) 4).toNat
def Ga(l:List Int)(m:Nat):List Vc:=if nx l (nn l (nn l m)) 3=0 then[(nx l m 65,-9,0),(nx l m 65,80,0)]else[(nx l m 65,nx l (nn l m) 65,0)]
def U1(l:List Int)(m:Nat):Nat:=nn l (nn l (nn l (nn l m)))
def BR(l:List Int)(m:Nat):Sh:=⟨-1,2+nx l (nn l (nn l (nn l m))) 9,Ga l m⟩
def eJ(l:List Int):Nat->Nat
 |0=>Nu l
 |i+1=>U1 l (eJ l i)
theorem K7(l:List Int):∀i,eJ l i<=3+4*i
 |0=>by
  have a:=aP l 0;have b:=aP l (mK l);have c:=aP l (qh l);simp only[eJ,Nu,qh,mK]at *;omega
 |i+1=>by
  have h:=K7 l i;have d:=aP l (eJ l i);have e:=aP l (nn l (eJ l i));have f:=aP l (nn l (nn l (eJ l i)));have g:=aP l (nn l (nn l (nn l (eJ l i))));simp only[eJ,U1];omega
def tJ(l:List Int)(k:Nat):List Sh:=⟨(qu l:Int)-1,1+nx l (mK l) 4,[(0,0,0)]⟩::(List.range k).map λi=>BR l (eJ l i)
theorem K8(l:List Int)(k:Nat):(tJ l (k+1)).map bU=(tJ l k).map bU++[bU (BR l (eJ l k))]:=by simp[tJ,yBo]
theorem AA(l:List Int)(k:Nat):(tJ l k).length=k+1:=by simp[tJ]
def fa(l:List Int):Sce:=⟨wv 64 (qu l),[],tJ l (qv l),[]⟩
theorem yY(l:List Int):0<qu l/\qu l<=2/\(qu l:Int)=1+nx l 0 2:=by
 have a:=ar l 0 (k:=2) (by decide) (by decide);unfold qu;omega
theorem RZ(l:List Int):ScL (fa l):=by
 have b:=yY l;have d:=ar l (qh l) (k:=4) (by decide) (by decide)
 have c:qv l<4:=by unfold qv;omega
 refine⟨?_,by simp[fa],?_,by simp[fa],?_⟩
 .simp only[fa,ug];omega
 .simp only[fa,AA];omega
 .intro h a
  simp only[fa,tJ,yAv,yAt]at a;rcases a with rfl|⟨i,_,rfl⟩
  .simp
  .simp only[BR,Ga];split<;>simp
theorem Y3(l:List Int):aV 24 (zs l) (dZ (fa l)):=by
 have R:=yY l;have S:=ar l (mK l) (k:=4) (by decide) (by decide);have T:=ar l (qh l) (k:=4) (by decide) (by decide)
 have N:nx l (qh l) 4=((qv l:Nat):Int):=by unfold qv;omega
 have O:qv l<4:=by unfold qv;omega
 have P:=aP l 0;have Q:=aP l (mK l)
 have v:i64.wrap (1+nx l 0 2)=((qu l:Nat):Int):=by rw[IntKind.wrap_i64];omega
 have x:i64.wrap ((qu l:Int)-1)=(qu l:Int)-1:=aa;have y:i64.wrap (1+nx l (mK l) 4)=1+nx l (mK l) 4:=aa;have z:i64.wrap (nx l (mK l) 4)=nx l (mK l) 4:=aa;have U:=Ih l;have H:=fX l 0 2 (by decide) (by omega);have V:=Y2 (qu l) 64 (by omega) (by omega);have I:=fX l (mK l) 4 (by decide) (by unfold mK;omega);have J:=fX l (qh l) 4 (by decide) (by unfold qh mK at *;omega);have K:nn l 0=mK l:=rfl;have L:nn l (mK l)=qh l:=rfl;have M:nn l (qh l)=Nu l:=rfl;rw[K]at H;rw[L]at I;rw[M]at J;refine Dp func24 λC hP hN=>?_;refine GT (so @fV.eq_1 N v x y z) ?_;refine WP.loopN [] (qv l) (λi d=>d.t 2=.ptr 2 0/\d.h 2=some (.box [eR,eR,eR,eR] true false)/\d.t 3=.ptr 10 0/\d.h 10=some (.box [.pv (zs l),.pv (Z (eJ l i))] true false)/\d.t 5=.ptr 5 0/\d.h 5=some (.box [.pv (.sl ((wv 64 (qu l)).map bj)),.pv (.sl []),.arr 28 (i+1),eR] true false)/\d.t 6=.pv (Z ((qv l:Int)-i))/\d.h 28=some (.row 86 3 ((tJ l i).map bU) 0)) (by simp[eJ,tJ]) ?_;rintro i d hi ⟨q,f,g3,a,r,g,s,b⟩;have A:=AA l i;by_cases n:i<qv l
 .have B:i64.wrap ((qv l:Int)-i-1)=(qv l:Int)-((i:Int)+1):=by rw[IntKind.wrap_i64];omega
  have m:(0:Int)<(qv l:Int)-i:=by omega
  have W:=K7 l i;have X:=aP l (eJ l i);have Y:=aP l (nn l (eJ l i));have l3:=aP l (nn l (nn l (eJ l i)));have d1:=fX l (eJ l i) 65 (by decide) (by omega);have d2:=fX l (nn l (eJ l i)) 65 (by decide) (by omega);have d3:=fX l (nn l (nn l (eJ l i))) 3 (by decide) (by omega);have d4:=fX l (nn l (nn l (nn l (eJ l i)))) 9 (by decide) (by omega);have y1:=ar l (eJ l i) (k:=65) (by decide) (by decide);have y2:=ar l (nn l (eJ l i)) (k:=65) (by decide) (by decide);have y4:=ar l (nn l (nn l (nn l (eJ l i)))) (k:=9) (by decide) (by decide);have D:i64.wrap (nx l (eJ l i) 65)=nx l (eJ l i) 65:=aa;have E:i64.wrap (nx l (nn l (eJ l i)) 65)=nx l (nn l (eJ l i)) 65:=aa;have F:i64.wrap (nx l (nn l (nn l (nn l (eJ l i)))) 9)=nx l (nn l (nn l (nn l (eJ l i)))) 9:=aa;have G:i64.wrap (2+nx l (nn l (nn l (nn l (eJ l i)))) 9)=2+nx l (nn l (nn l (nn l (eJ l i)))) 9:=aa;have p:=K8 l i;have hS:eJ l (i+1)=nn l (nn l (nn l (nn l (eJ l i)))):=rfl;have o:BR l (eJ l i)=⟨-1,2+nx l (nn l (nn l (nn l (eJ l i)))) 9,Ga l (eJ l i)⟩:=rfl
  have c:Ga l (eJ l i)=if nx l (nn l (nn l (eJ l i))) 3=0 then[(nx l (eJ l i) 65,-9,0),(nx l (eJ l i) 65,80,0)]else[(nx l (eJ l i) 65,nx l (nn l (eJ l i)) 65,0)]:=rfl
  by_cases j:nx l (nn l (nn l (eJ l i))) 3=0
  .have e:(nx l (nn l (nn l (eJ l i))) 3==0)=true:=by simp[j]
   rw[yAb j]at c;rw[c]at o;rw[o]at p;refine GT (zAe @fV.eq_1 q f g3 a r g s b n B m @hS A (zAb D E F G j e (show(i+1+1)*40<=140737488355328 by omega) (show i<=9223372036854775805 by omega))) ?_
   all_goals simp[p]
  .have e:(nx l (nn l (nn l (eJ l i))) 3==0)=false:=by simp[j]
   rw[L4 j]at c;rw[c]at o;rw[o]at p;refine GT (zAe @fV.eq_1 q f g3 a r g s b n B m @hS A (zAb D E F G j e (show(i+1+1)*40<=140737488355328 by omega) (show i<=9223372036854775805 by omega))) ?_
   all_goals simp[p]
 .have u:i=qv l:=by omega
  subst u;refine GT (zAb q f g3 a r g s (gA b A)) ?_
  all_goals simp[fa]
theorem Hi(h:ma 600 t)(i:Int):ma 600 (eS s t i):=by
 unfold eS;split
 .have a:=rU s (gj t i) (er t i.toNat).nor
  exact Mf h i ⟨by simp only[lm,kS];omega,by simp only[lm,kS];omega,by simp only[lm,kS];omega⟩
 .exact h
theorem UD(h:ma 600 t)(i j:Int):ma 600 (rS s t i j)/\(rS s t i j).cells.length<=t.cells.length+2/\(rS s t i j).root=t.root:=by
 unfold rS;split
 .have a:=ut s (pR s t i j) ((t.cells.length:Int)+1)
  have b:=ut s (bh t i j) (t.cells.length:Int);have c:pR s t i j=eS s (bh t i j) (t.cells.length:Int):=rfl;rw[c]at a|-;refine⟨Hi (Hi (OK h i j) _) _,?_⟩;rw[a.1,a.2,b.1,b.2];unfold bh;split
  .rw[kI];exact⟨yAd _,rfl⟩
  .exact⟨by omega,rfl⟩
 .exact⟨h,by show t.cells.length<=_;omega,rfl⟩
theorem Mi{s:Sce}{p q:List Int}{w cells:Int}:∀(f:Nat)(t:Tr),ma 600 t->ma 600 (j9 s p q w cells f t).1/\(j9 s p q w cells f t).1.cells.length<=t.cells.length+2*f/\(j9 s p q w cells f t).1.root=t.root
 |0,t,h=>⟨h,yAd _,rfl⟩
 |f+1,t,h=>by
  simp only[j9];split
  .split
   .exact⟨h,by show t.cells.length<=_;omega,rfl⟩
   .obtain⟨d,g,e⟩:=UD (s:=s) h (gD s.js s.ms t p q w).1 (gD s.js s.ms t p q w).2.1
    obtain⟨a,b,c⟩:=Mi (s:=s) (p:=p) (q:=q) (w:=w) (cells:=cells) f _ d;exact⟨a,by omega,c.trans e⟩
  .exact⟨h,by show t.cells.length<=_;omega,rfl⟩
theorem Mj{w cells:Int}(i:s.js.length<=9223372036854775807):ma 600 (mU s p q w cells).1/\(mU s p q w cells).1.cells.length<=5000/\(mU s p q w cells).1.root.length<=9223372036854775807:=by
 unfold mU;split
 .have d:ma 600 (gP (aC s.js s.ms))/\(gP (aC s.js s.ms)).cells.length<=1/\(gP (aC s.js s.ms)).root.length<=9223372036854775807:=by
   unfold gP;split
   .refine⟨λc a=>?_,by simp,?_⟩
    .simp at a;subst a;simp[bn,bi,Jd]
    .simp only[aC];split<;>simp;omega
   .exact⟨λc a=>by simp at a,by simp,by simp⟩
  have e:ma 600 (ur s):=Hi d.1 0;have b:=ut s (gP (aC s.js s.ms)) 0;have hd:ur s=eS s (gP (aC s.js s.ms)) 0:=rfl;rw[<-hd]at b;obtain⟨f,j,g⟩:=Mi (s:=s) (p:=p) (q:=q) (w:=w) (cells:=cells) 2048 (ur s) e;exact⟨f,by omega,by rw[g,b.2];exact d.2.2⟩
 .exact⟨λc a=>by simp at a,by simp,by simp⟩
theorem QY(l:List Int):∀j∈(fa l).js,wu j:=by
 intro j a;simp only[fa,wv,yAt]at a;obtain⟨i,_,rfl⟩:=a;unfold wu;simp only[K6];omega
def fq(U:List Bool)(i:Nat):Prop:=U[i]?=some true
inductive Rch(n:Nat)(opn:Nat->Bool)(tch:Nat->Nat->Bool)(S:Nat->Prop):Nat->Prop
 |base {i:Nat} (h:S i):Rch n opn tch S i
 |step {i k:Nat} (h:Rch n opn tch S i) (hk:k<n) (ho:opn k=true) (ht:tch i k=true):Rch n opn tch S k
structure IsR(n:Nat)(opn:Nat->Bool)(tch:Nat->Nat->Bool)(S:Nat->Prop)(U:List Bool):Prop where
 len:U.length=n
 iff:∀i,i<n->(fq U i↔Rch n opn tch S i)
theorem Gf(n:Nat)(opn:Nat->Bool)(tch:Nat->Nat->Bool)(S:Nat->Prop):∃U,IsR n opn tch S U:=by
 classical
 refine⟨(List.range n).map λi=>decide (Rch n opn tch S i),by simp,λi hi=>?_⟩;simp[fq,hi]
theorem BV{n:Nat}{opn:Nat->Bool}{tch:Nat->Nat->Bool}{S:Nat->Prop}{U V:List Bool}(h:IsR n opn tch S U)(h':IsR n opn tch S V):U=V:=by
 apply List.ext_getElem (by rw[h.len,h'.len]);intro i hi a;have b:=h.iff i (by rw[<-h.len];exact hi);have c:=h'.iff i (by rw[<-h.len];exact hi);simp only[fq,an hi,an a,Z9]at b c;cases d:U[i]<;>cases e:V[i]<;>simp_all
section
variable {n:Nat} {opn:Nat->Bool} {tch:Nat->Nat->Bool} {S:Nat->Prop} {U:List Bool} {F:List Nat}
structure FI(n:Nat)(opn:Nat->Bool)(tch:Nat->Nat->Bool)(S:Nat->Prop)(U:List Bool)(F:List Nat):Prop where
 len:U.length=n
 base:∀i,S i->fq U i
 sound:∀i,fq U i->Rch n opn tch S i
 mem:∀i∈F,fq U i
 clo:∀i,fq U i->i∈F\/∀k,k<n->opn k=true->tch i k=true->fq U k
structure FJ(n:Nat)(opn:Nat->Bool)(tch:Nat->Nat->Bool)(S:Nat->Prop)(U:List Bool)(F:List Nat)(x j:Nat):Prop where
 len:U.length=n
 base:∀i,S i->fq U i
 sound:∀i,fq U i->Rch n opn tch S i
 mem:∀i∈F,fq U i
 mx:fq U x
 clo:∀i,fq U i->i∈F\/i=x\/∀k,k<n->opn k=true->tch i k=true->fq U k
 part:∀k,k<j->k<n->opn k=true->tch x k=true->fq U k
theorem uk(a:U.length=n)(h:fq U i):i<n:=by
 rw[<-a];exact(th.1 h).1
theorem rh(b:j<U.length):fq (U.set j true) i↔i=j\/fq U i:=by
 unfold fq;rw[yAe];by_cases h:j=i
 .subst h;simp[b]
 .rw[L4 h]
  constructor
  .exact .inr
  .rintro(rfl|a)
   .exact absurd rfl h
   .exact a
theorem FI.fin(h:FI n opn tch S U []):IsR n opn tch S U:=by
 refine⟨h.len,λi hi=>⟨h.sound i,λe=>?_⟩⟩;clear hi
 induction e with
 |base f=>exact h.base _ f
 |step _ c d g ih=>
  rcases h.clo _ ih with a|b
  .cases a
  .exact b _ c d g
theorem FI.pop{a:List Nat}{x:Nat}(h:FI n opn tch S U F)(f:x∈F)(h1:∀m∈F,m∈a\/m=x)(c:∀m∈a,m∈F):FJ n opn tch S U a x 0:=
 ⟨h.len,h.base,h.sound,λi hi=>h.mem i (c i hi),h.mem x f,λi hi=>by
   rcases h.clo i hi with d|e
   .rcases h1 i d with b|b
    .exact .inl b
    .exact .inr (.inl b)
   .exact .inr (.inr e),λk g=>by omega⟩
theorem FJ.skip{x:Nat}(h:FJ n opn tch S U F x j)(hn:opn j=true->tch x j=true->fq U j):FJ n opn tch S U F x (j+1):=
 ⟨h.len,h.base,h.sound,h.mem,h.mx,h.clo,λk d a b c=>by
   by_cases e:k=j
   .subst e;exact hn b c
   .exact h.part k (by omega) a b c⟩
theorem FJ.add{x:Nat}(h:FJ n opn tch S U F x j)(l:j<n)(o:opn j=true)(p:tch x j=true):FJ n opn tch S (U.set j true) (F++[j]) x (j+1):=by
 have a:j<U.length:=by rw[h.len];exact l
 have f:∀i,fq U i->fq (U.set j true) i:=λi hi=>(rh a).2 (.inr hi);refine⟨by simpa using h.len,λi hi=>f i (h.base i hi),λi hi=>?_,λi hi=>?_,f x h.mx,λi hi=>?_,λk m g b c=>?_⟩
 .rcases(rh a).1 hi with rfl|hi
  .exact .step (h.sound x h.mx) l o p
  .exact h.sound i hi
 .rcases yAk.1 hi with hi|hi
  .exact f i (h.mem i hi)
  .simp at hi;subst hi;exact(rh a).2 (.inl rfl)
 .rcases(rh a).1 hi with rfl|hi
  .exact .inl (by simp)
  .rcases h.clo i hi with d|d|d
   .exact .inl (by simp[d])
   .exact .inr (.inl d)
   .exact .inr (.inr λk m b c=>f k (d k m b c))
 .by_cases e:k=j
  .subst e;exact(rh a).2 (.inl rfl)
  .exact f k (h.part k (by omega) g b c)
theorem FJ.done{x:Nat}(h:FJ n opn tch S U F x n):FI n opn tch S U F:=
 ⟨h.len,h.base,h.sound,h.mem,λi hi=>by
   rcases h.clo i hi with a|a|a
   .exact .inl a
   .subst a;exact .inr λk b c d=>h.part k b b c d
   .exact .inr a⟩
def xu(U:List Bool):Nat:=U.countP λb=>!b
theorem Iq:∀{U:List Bool}{j:Nat},U[j]?=some false->xu (U.set j true)+1=xu U
 |[],j,h=>by simp at h
 |b::U,0,h=>by simp at h;subst h;simp[xu]
 |b::U,j+1,h=>by
  have ih:=Iq (U:=U) (j:=j) (by simpa using h);unfold xu at ih|-;rw[List.set_cons_succ,List.countP_cons,List.countP_cons];omega
theorem Lc(U:List Bool):xu U<=U.length:=List.countP_le_length
def fU(n:Nat)(s:Nat->Bool)(i:Nat):List Bool:=(List.range n).map λm=>decide (m<i)&&s m
def fF(s:Nat->Bool)(i:Nat):List Nat:=(List.range i).filter s
theorem Ir(n:Nat)(s:Nat->Bool):fU n s 0=List.replicate n false:=by
 apply List.ext_getElem (by simp[fU]);intro i a b;simp[fU]
theorem Gg(n:Nat)(s:Nat->Bool)(i:Nat):(fU n s i).length=n:=by simp[fU]
theorem BW(s:Nat->Bool)(i:Nat):(fF s i).length<=i:=by
 have:=yB7 s (List.range i);simpa[fF]using this
theorem Ld{n:Nat}{s:Nat->Bool}(hi:i<n)(hs:s i=true):(fU n s i).set i true=fU n s (i+1):=by
 apply List.ext_getElem (by simp[fU]);intro j b a
 have c:j<n:=by simpa[fU]using a
 rw[List.getElem_set];by_cases e:i=j
 .subst e;simp[fU,hs]
 .rw[L4 e]
  simp only[fU,List.getElem_map,List.getElem_range]
  have:decide (j<i)=decide (j<i+1):=by simp;omega
  rw[this]
theorem PC{n:Nat}{s:Nat->Bool}(hs:s i=false):fU n s i=fU n s (i+1):=by
 unfold fU;apply List.map_congr_left;intro j _;by_cases e:j=i
 .subst e;simp[hs]
 .have:decide (j<i)=decide (j<i+1):=by simp;omega
  rw[this]
theorem Le{s:Nat->Bool}(hs:s i=true):fF s (i+1)=fF s i++[i]:=by simp[fF,yBo,hs]
theorem PD{s:Nat->Bool}(hs:s i=false):fF s (i+1)=fF s i:=by simp[fF,yBo,hs]
theorem It(n:Nat)(opn:Nat->Bool)(tch:Nat->Nat->Bool)(s:Nat->Bool):FI n opn tch (λi=>i<n/\s i=true) (fU n s n) (fF s n):=by
 have key:∀i,fq (fU n s n) i↔i<n/\s i=true:=by
  intro i;by_cases hi:i<n
  all_goals simp[fq,fU,hi]
 refine⟨Gg _ _ _,λi hi=>(key i).2 hi,λi hi=>.base ((key i).1 hi),λi hi=>?_,λi hi=>.inl ?_⟩
 .rw[key]
  simp only[fF,yA5,yAJ]at hi;exact hi
 .have:=(key i).1 hi
  simp only[fF,yA5,yAJ];exact this
end
def gt(c:Cel):Bool:=bC c&&c.v.kind==2
def cK(c:Cel):Bool:=bC c&& !(gt c)
def jM(t:Tr)(i:Nat):Bool:=match t.cells[i]? with
 |some c=>cK c
 |none=>false
def lh(t:Tr)(i j:Nat):Bool:=dH (ao t (i:Int)) (ao t (j:Int))
def j7(t:Tr)(p:List Int)(i:Nat):Bool:=aR (ao t (i:Int)) p
def mL(t:Tr)(p:List Int)(i:Nat):Prop:=i<t.cells.length/\(jM t i&&j7 t p i)=true
def jO(t:Tr)(p:List Int)(U:List Bool):Prop:=IsR t.cells.length (jM t) (lh t) (mL t p) U
def ni(t:Tr)(U:List Bool)(q:List Int):Bool:=(List.range t.cells.length).all λi=>!((U[i]?.getD false)&&j7 t q i)
def f8(t:Tr)(p q:List Int)(U:List Bool):Bool:=am t&&aR t.root p&&aR t.root q&&ni t U q
theorem BX(t:Tr)(p:List Int):∃U,jO t p U:=Gf _ _ _ _
theorem AD(c:Cel):aV 117 (bD c) (B (bC c)):=by
 refine Dp func117 λC hP hN=>?_
 with_reducible repeat' (first|refine Sp.h ?_|((first|refine Ss.h ?_|(refine Sb.h ?_ ?_ ?_<;>(try intro hgd)<;>try exact Xy))<;>simp -implicitDefEqProofs (maxSteps:=2000000) [hP,hN])|refine X2 ?_ ?_|(refine Xd ?_ ?_<;>intro hcd<;>try exact Xx))
 all_goals (simp_all[bC])
theorem Iy(c:Cel):aV 59 (bD c) (B (gt c)):=by
 have cl:=AD c;refine Dp func59 λC hP hN=>?_
 with_reducible repeat' (first|refine Sp.h ?_|((first|refine Ss.h ?_|refine Sc.h (cl) ?_|(refine Sb.h ?_ ?_ ?_<;>(try intro hgd)<;>try exact Xy))<;>simp -implicitDefEqProofs (maxSteps:=2000000) [hP,hN])|refine X2 ?_ ?_|(refine Xd ?_ ?_<;>intro hcd<;>try exact Xx))
 all_goals (simp_all[gt])
theorem PI(t:Tr)(z:am t=true):aV 58 (eo t) (.sl ((af t).map iv)):=by
 have D:=bP z;obtain⟨P,z2,z3,z4,z5⟩:=ba.1 D
 have J:t.cells.length<=9223372036854775807:=by omega
 have r:=A2 P;refine Dp func58 λC hP hN=>?_
 with_reducible repeat' (first|refine Sp.h ?_|((first|refine Wd ?_|refine Ss.h ?_|(refine Sb.h ?_ ?_ ?_<;>(try intro hgd)<;>try exact Xy))<;>simp -implicitDefEqProofs (maxSteps:=2000000) [hP,hN,r,show(24:Int)*t.cells.length<=281474976710656 by omega,show(t.cells.length:Int)<=9223372036854775807 by omega,show 0<t.cells.length by omega]<;>try refine Ya ?_)|refine X2 ?_ ?_|(refine Xd ?_ ?_<;>intro hcd<;>try exact Xx))
 refine WP.loopN [5] t.cells.length (λi n=>∃L,BInv t i L/\n.t 3=.arr 9 t.cells.length/\n.t 15=.pv (.sl (t.cells.map bD))/\n.t 16=.pv (Z t.cells.length)/\n.t 17=.pv (Z i)/\n.h 5=none/\n.h 9=some (.row 30 1 (L.map qp) 0)) (by exact⟨fE t,ye D,by simp[r]⟩) ?_;rintro i n hi ⟨L,o,g3,d,e,f,j,k⟩;have g:=o.bok.len;by_cases a:i<t.cells.length
 .have E:=ai a J
  have y:i<L.length:=by omega
  generalize p:t.cells[i]=c at *
  have q:t.cells[i]?=some c:=by rw[an a,p]
  have cl:=AD c
  cases m:fD t.cells.length i c L with
  |none=>
   have:=yf o a (by rw[p];exact m);rw[am,this]at z;cases z
  |some F=>
   have u:=qa o a (by rw[p];exact m);obtain⟨b,A,⟨l,_,rfl⟩|⟨l,x,R,Q,S,rfl⟩⟩:=eX m
   .rw[l]at cl
    with_reducible repeat' (first|refine Sp.h ?_|((first|refine Wd ?_|refine Ss.h ?_|refine Sc.h (cl) ?_|(refine Sb.h ?_ ?_ ?_<;>(try intro hgd)<;>try exact Xy))<;>simp -implicitDefEqProofs (maxSteps:=2000000) [hP,hN,g3,d,e,f,j,k,a,E,q,p,g]<;>try refine Ya ?_)|refine X2 ?_ ?_|(refine Xd ?_ ?_<;>intro hcd<;>try exact Xx))
    all_goals exact⟨F,u,rfl⟩
   .rw[l]at cl
    have B:=aJ A y;obtain⟨T,U,V,W,X,Y⟩:=dL.1 x;obtain⟨H,I⟩:=o.bok.ok i b A;have G:=RK b c.joint (by omega)
    have K:c.low.toNat<t.cells.length:=by omega
    have M:c.high.toNat<t.cells.length:=by omega
    have N:0<=c.low:=by omega
    have O:0<=c.high:=by omega
    with_reducible repeat' (first|refine Sp.h ?_|((first|refine Wd ?_|refine Ss.h ?_|refine Sc.h (cl) ?_|refine Sc.h (G) ?_|(refine Sb.h ?_ ?_ ?_<;>(try intro hgd)<;>try exact Xy))<;>simp -implicitDefEqProofs (maxSteps:=2000000) [hP,hN,g3,d,e,f,j,k,a,E,A,B,dD,dE,q,p,g,K,M,N,O]<;>try refine Ya ?_)|refine X2 ?_ ?_|(refine Xd ?_ ?_<;>intro hcd<;>try exact Xx))
    all_goals exact⟨_,u,set_row⟩
 .have v:=yg o a
  have s:=A3 v;rw[<-s]
  with_reducible repeat' (first|refine Sp.h ?_|((first|refine Wd ?_|refine Ss.h ?_|(refine Sb.h ?_ ?_ ?_<;>(try intro hgd)<;>try exact Xy))<;>simp -implicitDefEqProofs (maxSteps:=2000000) [hP,hN,g3,d,e,f,j,k,a,g]<;>try refine Ya ?_)|refine X2 ?_ ?_|(refine Xd ?_ ?_<;>intro hcd<;>try exact Xx))
abbrev kZ(a:List Bx)(op:List Bool):PV:=.agg [.sl (a.map iv),.sl (op.map B)]
def rR(t:Tr)(i:Nat):List Bool:=(t.cells.map cK).take i++List.replicate (t.cells.length-i) false
theorem Iz(h:i<=t.cells.length):(rR t i).length=t.cells.length:=by simp[rR];omega
theorem Gk(t:Tr):rR t 0=List.replicate t.cells.length false:=by simp[rR]
theorem IA(t:Tr):rR t t.cells.length=t.cells.map cK:=by rw[rR,yAu (by simp)];simp
theorem Gl{c:Cel}(b:i<t.cells.length)(a:t.cells[i]?=some c):(rR t i).set i (cK c)=rR t (i+1):=by
 obtain⟨m,g⟩:∃m,t.cells.length-i=m+1:=⟨t.cells.length-i-1,by omega⟩
 have d:t.cells.length-(i+1)=m:=by omega
 have f:((t.cells.map cK).take i).length=i:=by simp;omega
 obtain⟨_,e⟩:=th.1 a;unfold rR;rw[g,d,List.replicate_succ,yBq _ _ (by rw[f];exact yAd _),f,yBO,List.set_cons_zero,yAP (by simpa using b)];simp[e]
theorem Zb(t:Tr)(x:am t=true):aV 65 (eo t) (kZ (af t) (t.cells.map cK)):=by
 have D:=bP x;obtain⟨F,G,H,I,J⟩:=ba.1 D;have z:=PI t x;refine Dp func65 λC hP hN=>?_
 with_reducible repeat' (first|refine Sp.h ?_|((first|refine Wd ?_|refine Ss.h ?_|refine Sc.h (z) ?_|(refine Sb.h ?_ ?_ ?_<;>(try intro hgd)<;>try exact Xy))<;>simp -implicitDefEqProofs (maxSteps:=2000000) [hP,hN,show(1:Int)*t.cells.length<=281474976710656 by omega,show(t.cells.length:Int)<=281474976710656 by omega,show(t.cells.length:Int)<=9223372036854775807 by omega,show 0<t.cells.length by omega]<;>try refine Ya ?_)|refine X2 ?_ ?_|(refine Xd ?_ ?_<;>intro hcd<;>try exact Xx))
 refine WP.loopN [5] t.cells.length (λi d=>d.t 2=.ptr 2 0/\d.t 3=.ptr 3 0/\d.t 14=.pv (.sl (t.cells.map bD))/\d.t 15=.pv (Z t.cells.length)/\d.t 16=.pv (Z i)/\d.h 5=none/\d.h 3=some (.box [.pv (.sl ((af t).map iv)),.arr 11 t.cells.length] true false)/\d.h 2=some (.box [.pv (.val (.slice none 0 0)),.pv (.val (.slice none 0 0))] true false)/\d.h 11=some (.row 4 1 ((rR t i).map B) 0)) (by simp[Gk]) ?_;rintro i d hi ⟨s,g3,j,k,l,o,n,m,a⟩;have q:=Iz hi;by_cases b:i<t.cells.length
 .have y:=ai b (by omega)
  generalize u:t.cells[i]=c at *
  have p:t.cells[i]?=some c:=by rw[an b,u]
  have cl:=AD c;have cc:=Iy c;have g:=Gl b p;have f:cK c=(bC c&& !(gt c)):=rfl;generalize rR t i=U at *;generalize rR t (i+1)=E at *
  have r:i<U.length:=by omega
  cases e:bC c with
  |false=>
   rw[e]at cl;rw[e,yAG]at f;rw[f]at g
   with_reducible repeat' (first|refine Sp.h ?_|((first|refine Wd ?_|refine Ss.h ?_|refine Sc.h (cl) ?_|(refine Sb.h ?_ ?_ ?_<;>(try intro hgd)<;>try exact Xy))<;>simp -implicitDefEqProofs (maxSteps:=2000000) [hP,hN,s,g3,j,k,l,o,n,m,a,b,y,p,u,q,r]<;>try refine Ya ?_)|refine X2 ?_ ?_|(refine Xd ?_ ?_<;>intro hcd<;>try exact Xx))
   all_goals simp[<-g,yBv]
  |true=>
   rw[e]at cl;rw[e,yAs]at f;rw[f]at g;generalize gt c=A at *
   with_reducible repeat' (first|refine Sp.h ?_|((first|refine Wd ?_|refine Ss.h ?_|refine Sc.h (cl) ?_|refine Sc.h (cc) ?_|(refine Sb.h ?_ ?_ ?_<;>(try intro hgd)<;>try exact Xy))<;>simp -implicitDefEqProofs (maxSteps:=2000000) [hP,hN,s,g3,j,k,l,o,n,m,a,b,y,p,u,q,r]<;>try refine Ya ?_)|refine X2 ?_ ?_|(refine Xd ?_ ?_<;>intro hcd<;>try exact Xx))
   all_goals simp[<-g,yBv]
 .have v:i=t.cells.length:=by omega
  subst v;rw[IA]at a
  with_reducible repeat' (first|refine Sp.h ?_|((first|refine Wd ?_|refine Ss.h ?_|(refine Sb.h ?_ ?_ ?_<;>(try intro hgd)<;>try exact Xy))<;>simp -implicitDefEqProofs (maxSteps:=2000000) [hP,hN,s,g3,j,k,l,o,n,m,a,b]<;>try refine Ya ?_)|refine X2 ?_ ?_|(refine Xd ?_ ?_<;>intro hcd<;>try exact Xx))
def gn(a:List Bx)(i:Nat):Bx:=a[i]?.getD []
def cY(op:List Bool)(i:Nat):Bool:=op[i]?.getD false
def oI(a:List Bx)(i j:Nat):Bool:=dH (gn a i) (gn a j)
theorem oW{op:List Bool}(h:i<op.length):op[i]?=some (cY op i):=by simp[cY,an h]
theorem rj{a:List Bx}(h:i<a.length):a[i]?=some (gn a i):=by simp[gn,an h]
theorem Ln{U:List Bool}(h:j<U.length):fq U j\/U[j]?=some false:=by
 unfold fq;rw[an h];cases U[j]<;>simp
theorem JU(f:List Bx)(op:List Bool)(S:Nat->Prop)(U V:List Bool)(F:List Nat)(hb:f.length=op.length)(hn:op.length<=2048)(bq:∀b∈f,b.length<=9223372036854775807)(hF:F.length<=4096)
 (Q:FI op.length (cY op) (oI f) S U F)(hV:IsR op.length (cY op) (oI f) S V):Jm prog 127 [kZ f op] 4 1 (U.map B) (V.map B) 3 1 (F.map zN):=by
 have A:=Q.len;refine P8 func127 rfl (by kernel_rfl) rfl (by simp[f127]) (by simp[A,hV.len]) ?_;intro C hP hN;simp only[f127]at hN|-;obtain⟨n,r⟩:∃n,op.length=n:=⟨_,rfl⟩;rw[r]at Q hV hn hb A;have b7:=Lc U
 have b4:xu U<=2048:=by omega
 have a8:∃ti e' b z,ag prog 34=some ti/\ti.kind=TK.slice e' 1 b z:=by refine⟨_,_,_,_,Yj,rfl⟩
 with_reducible repeat' (first|refine Sp.h ?_|((first|refine Wd ?_|refine Ss.h ?_|(refine Sb.h ?_ ?_ ?_<;>(try intro hgd)<;>try exact Xy))<;>simp -implicitDefEqProofs (maxSteps:=2000000) [hP,hN,r,Fp]<;>try refine Ya ?_)|refine X2 ?_ ?_|(refine Xd ?_ ?_<;>intro hcd<;>try exact Xx))
 refine WP.loopN [] (F.length+xu U) (λi k=>∃U' c,FI n (cY op) (oI f) S U' c/\i+c.length+xu U'=F.length+xu U/\k.t 1=.arr 2000000 n/\k.t 2=.arr 1500000 c.length/\k.t 3=.ptr 3 0/\k.h 3=some (.box [.pv (.sl (f.map iv)),.pv (.sl (op.map B))] true false)/\k.h 2000000=some (.row 4 1 (U'.map B) 0)/\k.h 1500000=some (.row 3 1 (c.map zN) 0)) (by exact⟨U,F,Q,by omega,by simp[A]⟩) ?_;clear Q A;rintro i k hi ⟨U',c,Q,b5,g1,Y,g3,o,p,l⟩;have A:=Q.len;by_cases a6:c=[]
 .subst a6
  have bk:U'=V:=BV Q.fin hV;subst bk
  with_reducible repeat' (first|refine Sp.h ?_|((first|refine Wd ?_|refine Ss.h ?_|(refine Sb.h ?_ ?_ ?_<;>(try intro hgd)<;>try exact Xy))<;>simp -implicitDefEqProofs (maxSteps:=2000000) [hP,hN,g1,Y,g3,o,p,l]<;>try refine Ya ?_)|refine X2 ?_ ?_|(refine Xd ?_ ?_<;>intro hcd<;>try exact Xx))
 have a1:=List.length_pos_iff.2 a6
 have J:(0:Int)<c.length:=by omega
 have I:c.length-1<c.length:=by omega
 obtain⟨x,hx⟩:∃x,c[c.length-1]?=some x:=⟨_,an I⟩;have W:=aJ hx I;have b2:=Q.mem x (In hx);have b8:=uk A b2
 have a7:i64.wrap ((c.length:Int)-1)=((c.length-1:Nat):Int):=by rw[show(c.length:Int)-1=((c.length-1:Nat):Int) by omega];exact aa (by omega) (by omega)
 have ay:FJ n (cY op) (oI f) S U' (c.take (c.length-1)) x 0:=Q.pop (In hx) (λm y=>by
  have e:c=c.take (c.length-1)++[x]:=by
   rw[<-W,<-List.take_succ_eq_append_getElem I,show c.length-1+1=c.length by omega,yBP]
  rw[e]at y;rcases yAk.1 y with h|h
  .exact .inl h
  .exact .inr (by simpa using h)) (λm y=>yBL y)
 with_reducible repeat' (first|refine Sp.h ?_|((refine WP.trunc (hn:=[]) (pre:=[_,_,_,_]) (post:=[_]) rfl rfl rfl rfl ?_);simp -implicitDefEqProofs (maxSteps:=2000000) [hP,hN,g1,Y,g3,o,p,l,a1,J,I,hx,W,a7])|((first|refine Wd ?_|refine Ss.h ?_|(refine Sb.h ?_ ?_ ?_<;>(try intro hgd)<;>try exact Xy))<;>simp -implicitDefEqProofs (maxSteps:=2000000) [hP,hN,g1,Y,g3,o,p,l,a1,J,I,hx,W,a7]<;>try refine Ya ?_)|refine X2 ?_ ?_|(refine Xd ?_ ?_<;>intro hcd<;>try exact Xx))
 refine⟨1500000,3,1,c.length,c.length-1,.i64,by simp[Y],by simp,c.map zN,by simp[l],by simp,by omega,by omega,by rw[hP];exact a8,by rw[hN];decide,?_⟩;simp -implicitDefEqProofs (maxSteps:=2000000) [hP,hN,g1,Y,g3,o,p,l]
 with_reducible repeat' (first|refine Sp.h ?_|((first|refine Wd ?_|refine Ss.h ?_|(refine Sb.h ?_ ?_ ?_<;>(try intro hgd)<;>try exact Xy))<;>simp -implicitDefEqProofs (maxSteps:=2000000) [hP,hN,g1,Y,g3,o,p,l,r]<;>try refine Ya ?_)|refine X2 ?_ ?_|(refine Xd ?_ ?_<;>intro hcd<;>try exact Xx))
 refine WP.loopN [] n (λj k=>∃H G,FJ n (cY op) (oI f) S H G x j/\i+1+G.length+xu H=F.length+xu U/\k.t 1=.arr 2000000 n/\k.t 2=.arr 1500000 G.length/\k.t 3=.ptr 3 0/\k.t 6=.pv (Z x)/\k.t 24=.pv (.sl (op.map B))/\k.t 25=.pv (Z n)/\k.t 26=.pv (Z j)/\k.h 3=some (.box [.pv (.sl (f.map iv)),.pv (.sl (op.map B))] true false)/\k.h 2000000=some (.row 4 1 (H.map B) 0)/\k.h 1500000=some (.row 3 1 (G.map zN) 0)) (by refine⟨U',c.take (c.length-1),ay,by rw[yAN];omega,?_⟩;simp[g1,Y,g3,o,p,l,W,List.map_take];try omega) ?_;clear g1 Y g3 o p l ay;rintro j b9 hj ⟨H,G,hJ,g,y1,y2,y3,y6,K,L,M,N,P,O⟩;have a2:=hJ.len;have b3:=Lc H;by_cases q:j<n
 .have hw:=ai q (by omega)
  have E:j<op.length:=by omega
  have s:=oW E;have d:=aJ s E
  have D:j<H.length:=by omega
  have R:j<f.length:=by omega
  have X:x<f.length:=by omega
  have a5:=rj R;have v:=rj X;have ad:=aJ a5 R;have ax:=aJ v X;have ct:=RP (gn f x) (gn f j) (bq _ (In v));have b1:oI f x j=dH (gn f x) (gn f j):=rfl;have a:=hJ.skip;have u:=hJ.add q;rw[b1]at a u
  cases ho:cY op j with
  |false=>
   rw[ho]at s d a;have hs:=a (by simp)
   with_reducible repeat' (first|refine Sp.h ?_|((first|refine Wd ?_|refine Ss.h ?_|(refine Sb.h ?_ ?_ ?_<;>(try intro hgd)<;>try exact Xy))<;>simp -implicitDefEqProofs (maxSteps:=2000000) [hP,hN,y1,y2,y3,y6,K,L,M,N,P,O,q,hw,r,s,d,E]<;>try refine Ya ?_)|refine X2 ?_ ?_|(refine Xd ?_ ?_<;>intro hcd<;>try exact Xx))
   all_goals exact⟨H,G,hs,g,rfl,rfl,rfl⟩
  |true=>
  rw[ho]at s d a u;rcases Ln D with y|y
  .have hs:=a (λ_ _=>y)
   unfold fq at y;have T:=aJ y D
   with_reducible repeat' (first|refine Sp.h ?_|((first|refine Wd ?_|refine Ss.h ?_|(refine Sb.h ?_ ?_ ?_<;>(try intro hgd)<;>try exact Xy))<;>simp -implicitDefEqProofs (maxSteps:=2000000) [hP,hN,y1,y2,y3,y6,K,L,M,N,P,O,q,hw,r,s,d,E,y,T,a2,D]<;>try refine Ya ?_)|refine X2 ?_ ?_|(refine Xd ?_ ?_<;>intro hcd<;>try exact Xx))
   all_goals exact⟨H,G,hs,g,rfl,rfl,rfl⟩
  .have T:=aJ y D
   have hu:=Iq y
   cases ht:dH (gn f x) (gn f j)with
   |false=>
    rw[ht]at ct a;have hs:=a (by simp)
    with_reducible repeat' (first|refine Sp.h ?_|((first|refine Wd ?_|refine Ss.h ?_|refine Sc.h (ct) ?_|(refine Sb.h ?_ ?_ ?_<;>(try intro hgd)<;>try exact Xy))<;>simp -implicitDefEqProofs (maxSteps:=2000000) [hP,hN,y1,y2,y3,y6,K,L,M,N,P,O,q,hw,r,s,d,E,y,T,a2,D,R,X,a5,v,ad,ax]<;>try refine Ya ?_)|refine X2 ?_ ?_|(refine Xd ?_ ?_<;>intro hcd<;>try exact Xx))
    all_goals exact⟨H,G,hs,g,rfl,rfl,rfl⟩
   |true=>
    rw[ht]at ct u;have hs:=u rfl rfl
    with_reducible repeat' (first|refine Sp.h ?_|((first|refine Wd ?_|refine Ss.h ?_|refine Sc.h (ct) ?_|(refine Sb.h ?_ ?_ ?_<;>(try intro hgd)<;>try exact Xy))<;>simp -implicitDefEqProofs (maxSteps:=2000000) [hP,hN,y1,y2,y3,y6,K,L,M,N,P,O,q,hw,r,s,d,E,y,T,a2,D,R,X,a5,v,ad,ax,show(G.length+1)*8<=140737488355328 by omega,show G.length+1<=9223372036854775807 by omega]<;>try refine Ya ?_)|refine X2 ?_ ?_|(refine Xd ?_ ?_<;>intro hcd<;>try exact Xx))
    all_goals exact⟨H.set j true,G++[j],hs,by simp;omega,by simp,by simp[yBv],by simp⟩
 .have b0:j=n:=by omega
  subst b0;have hd:=hJ.done
  with_reducible repeat' (first|refine Sp.h ?_|((first|refine Wd ?_|refine Ss.h ?_|(refine Sb.h ?_ ?_ ?_<;>(try intro hgd)<;>try exact Xy))<;>simp -implicitDefEqProofs (maxSteps:=2000000) [hP,hN,y1,y2,y3,y6,K,L,M,N,P,O,q]<;>try refine Ya ?_)|refine X2 ?_ ?_|(refine Xd ?_ ?_<;>intro hcd<;>try exact Xx))
  all_goals exact⟨by omega,H,G,hd,g,rfl,rfl,rfl⟩
def sB(a:List Bx)(op:List Bool)(q:List Int)(i:Nat):Bool:=cY op i&&aR (gn a i) q
theorem Wk(a:List Bx)(op:List Bool)(q:List Int)(V:List Bool)(Y:a.length=op.length)(h1:1<=op.length)(hn:op.length<=2048)(L:∀b∈a,b.length<=9223372036854775807)(Q:IsR op.length (cY op) (oI a) (λi=>i<op.length/\sB a op q i=true) V):aL 116 (kZ a op) (zs q) (.sl (V.map B)):=by
 obtain⟨n,D⟩:∃n,op.length=n:=⟨_,rfl⟩;have M:=It op.length (cY op) (oI a) (sB a op q);have R:=BW (sB a op q) op.length;have E:=JU a op _ _ V _ Y hn L (by omega) M Q;rw[D]at Q hn Y h1 R E M;refine Dp func116 λC hP hN=>?_
 with_reducible repeat' (first|refine Sp.h ?_|((first|refine Wh [6] ?_|refine Ss.h ?_|(refine Sb.h ?_ ?_ ?_<;>(try intro hgd)<;>try exact Xy))<;>simp -implicitDefEqProofs (maxSteps:=2000000) [hP,hN,D,show(1:Int)*n<=281474976710656 by omega,show(n:Int)<=281474976710656 by omega,show(n:Int)<=9223372036854775807 by omega])|refine X2 ?_ ?_|(refine Xd ?_ ?_<;>intro hcd<;>try exact Xx))
 refine WP.loopN [] n (λi l=>l.t 1=.pv (zs q)/\l.t 2=.ptr 2 0/\l.t 5=.arr 12 n/\l.t 6=.arr 6 (fF (sB a op q) i).length/\l.t 14=.pv (.sl (op.map B))/\l.t 15=.pv (Z n)/\l.t 16=.pv (Z i)/\l.h 2=some (.box [.pv (.sl (a.map iv)),.pv (.sl (op.map B))] true false)/\l.h 12=some (.row 4 1 ((fU n (sB a op q) i).map B) 0)/\l.h 6=some (.row 3 1 ((fF (sB a op q) i).map zN) 0)) (by simp[Ir,fF]) ?_;rintro i l hi ⟨N,O,I,J,u,v,x,f,c,g⟩;have o:=Gg n (sB a op q) i;have ad:=BW (sB a op q) i;by_cases j:i<n
 .have hw:=ai j (by omega)
  have A:i<op.length:=by omega
  have r:=oW A;have k:=aJ r A
  have z:i<a.length:=by omega
  have y:=rj z;have K:=aJ y z;have P:=Ay (gn a i) q (L _ (In y));have X:sB a op q i=(cY op i&&aR (gn a i) q):=rfl;have e:=PC (n:=n) (s:=sB a op q) (i:=i);have d:=PD (s:=sB a op q) (i:=i);have p:=Ld (n:=n) (s:=sB a op q) j;have m:=Le (s:=sB a op q) (i:=i);rw[X]at e d p m;generalize fU n (sB a op q) i=U at *;generalize fU n (sB a op q) (i+1)=U' at *;generalize fF (sB a op q) i=F at *;generalize fF (sB a op q) (i+1)=F' at *
  have T:i<U.length:=by omega
  cases ho:cY op i with
  |false=>
   rw[ho]at r k e d;have G:=e (by simp);have H:=d (by simp);subst G;subst H;exact Gy
  |true=>
  rw[ho]at r k e d p m
  cases hh:aR (gn a i) q with
  |false=>
   rw[hh]at P e d;have G:=e (by simp);have H:=d (by simp);subst G;subst H;exact Gy
  |true=>
   rw[hh]at P p m;have G:=p rfl;have H:=m rfl
   with_reducible repeat' (first|refine Sp.h ?_|((first|refine Ss.h ?_|refine Sc.h (P) ?_|(refine Sb.h ?_ ?_ ?_<;>(try intro hgd)<;>try exact Xy))<;>simp -implicitDefEqProofs (maxSteps:=2000000) [hP,hN,N,O,I,J,u,v,x,f,c,g,j,hw,D,r,k,A,z,y,K,o,T,show(F.length+1)*8<=140737488355328 by omega,show F.length+1<=9223372036854775807 by omega])|refine X2 ?_ ?_|(refine Xd ?_ ?_<;>intro hcd<;>try exact Xx))
   all_goals simp[H,<-G,yBv]
 .have S:i=n:=by omega
  subst S
  have W:fU i (sB a op q) i≠[]:=by intro h;rw[h]at o;simp at o;omega
  generalize fU i (sB a op q) i=U at *;generalize fF (sB a op q) i=F at *
  with_reducible repeat' (first|refine Sp.h ?_|((refine WP.hand (hn:=[]) (pre:=[_,_,_]) rfl rfl rfl rfl ?_);simp -implicitDefEqProofs (maxSteps:=2000000) [hP,hN,N,O,I,J,u,v,x,f,c,g,j])|((first|refine Ss.h ?_|(refine Sb.h ?_ ?_ ?_<;>(try intro hgd)<;>try exact Xy))<;>simp -implicitDefEqProofs (maxSteps:=2000000) [hP,hN,N,O,I,J,u,v,x,f,c,g,j])|refine X2 ?_ ?_|(refine Xd ?_ ?_<;>intro hcd<;>try exact Xx))
  refine⟨127,kZ a op,[],12,6,4,1,3,1,U.map B,V.map B,F.map zN,by simp,by simp[f],by simp[I,o],by simp[J],by simp[c],by simp[g],by decide,by simp[W],by rw[hP];exact E,by rw[hN];decide,?_⟩;simp -implicitDefEqProofs (maxSteps:=2000000) [hP,hN,N,O,I,J,f,c,g];have ax:=Q.len;exact Gy
theorem IB(t:Tr)(i:Nat):cY (t.cells.map cK) i=jM t i:=by
 simp only[cY,jM,ZW];cases t.cells[i]?<;>rfl
theorem kM(t:Tr)(i:Nat):gn (af t) i=ao t (i:Int):=by simp[gn,ao]
theorem Gm{U:List Bool}(h:jO t q U):IsR (t.cells.map cK).length (cY (t.cells.map cK)) (oI (af t)) (λi=>i<(t.cells.map cK).length/\sB (af t) (t.cells.map cK) q i=true) U:=by
 have a:cY (t.cells.map cK)=jM t:=funext (IB t)
 have b:oI (af t)=lh t:=by funext i j;simp[oI,lh,kM]
 have c:(λi=>i<(t.cells.map cK).length/\sB (af t) (t.cells.map cK) q i=true)=mL t q:=by
  funext i;simp[mL,sB,j7,kM,IB]
 rw[a,b,c,yAz];exact h
theorem Ep(c:am t=true):∀b∈af t,b.length<=10:=by
 intro b a;obtain⟨i,hi⟩:=yBg.1 a;have:=(iN hi).1;have:=ba.1 (bP c);omega
theorem Lo(t:Tr)(p:List Int)(U:List Bool)(a:am t=true)(c:jO t p U):aO prog 116 [.pv (kZ (af t) (t.cells.map cK)),.pv (zs p)] [] [] (.pv (.sl (U.map B))):=by
 have e:=ba.1 (bP a);exact Wk (af t) (t.cells.map cK) p U (by rw[ef a,yAz]) (by rw[yAz];omega) (by rw[yAz];omega) (λb d=>by have:=Ep a b d;omega) (Gm c)
theorem IC{U:List Bool}(h1:U[i]?=some true)(hi:i<t.cells.length)(a:j7 t q i=true):ni t U q=false:=by
 unfold ni;apply Bool.eq_false_iff.2;intro h;have:=IV.1 h i (yAJ.2 hi);simp[h1,a]at this
theorem AE{U:List Bool}(h:∀i,i<t.cells.length->U[i]?=some true->j7 t q i=false):ni t U q=true:=by
 unfold ni;refine IV.2 λi hi=>?_
 cases a:U[i]? with
 |none=>rfl
 |some b=>cases b with
  |false=>rfl
  |true=>simp[h i (yAJ.1 hi) a]
theorem PJ(t:Tr)(p q:List Int)(U:List Bool)(X:t.cells.length<=9223372036854775807)(R:t.root.length<=9223372036854775807)(N:jO t p U):jQ 57 (eo t) (zs p) (zs q) (B (f8 t p q U)):=by
 have y:=TB t X;have z:=Ay t.root p R;have D:=Ay t.root q R;unfold f8
 cases v:am t with
 |false=>
  rw[v]at y;refine Dp func57 λC hP hN=>?_
  with_reducible repeat' (first|refine Sp.h ?_|((first|refine Ss.h ?_|refine Sc.h (y) ?_|(refine Sb.h ?_ ?_ ?_<;>(try intro hgd)<;>try exact Xy))<;>simp -implicitDefEqProofs (maxSteps:=2000000) [hP,hN])|refine X2 ?_ ?_|(refine Xd ?_ ?_<;>intro hcd<;>try exact Xx))
 |true=>
 rw[v]at y
 cases P:aR t.root p with
 |false=>
  rw[P]at z;refine Dp func57 λC hP hN=>?_
  with_reducible repeat' (first|refine Sp.h ?_|((first|refine Ss.h ?_|refine Sc.h (y) ?_|refine Sc.h (z) ?_|(refine Sb.h ?_ ?_ ?_<;>(try intro hgd)<;>try exact Xy))<;>simp -implicitDefEqProofs (maxSteps:=2000000) [hP,hN])|refine X2 ?_ ?_|(refine Xd ?_ ?_<;>intro hcd<;>try exact Xx))
 |true=>
 rw[P]at z
 cases Q:aR t.root q with
 |false=>
  rw[Q]at D;refine Dp func57 λC hP hN=>?_
  with_reducible repeat' (first|refine Sp.h ?_|((first|refine Ss.h ?_|refine Sc.h (y) ?_|refine Sc.h (z) ?_|refine Sc.h (D) ?_|(refine Sb.h ?_ ?_ ?_<;>(try intro hgd)<;>try exact Xy))<;>simp -implicitDefEqProofs (maxSteps:=2000000) [hP,hN])|refine X2 ?_ ?_|(refine Xd ?_ ?_<;>intro hcd<;>try exact Xx))
 |true=>
 rw[Q]at D;have K:=Zb t v;have J:=Lo t p U v N;obtain⟨op,H⟩:∃op,t.cells.map cK=op:=⟨_,rfl⟩;rw[H]at K J;have Y:=ba.1 (bP v);have G:=N.len;have V:=ef v;refine Dp func57 λC hP hN=>?_
 with_reducible repeat' (first|refine Sp.h ?_|((first|refine Ss.h ?_|refine Sc.h (y) ?_|refine Sc.h (z) ?_|refine Sc.h (D) ?_|refine Sc.h (K) ?_|refine Sc.h (J) ?_|(refine Sb.h ?_ ?_ ?_<;>(try intro hgd)<;>try exact Xy))<;>simp -implicitDefEqProofs (maxSteps:=2000000) [hP,hN])|refine X2 ?_ ?_|(refine Xd ?_ ?_<;>intro hcd<;>try exact Xx))
 refine WP.loopN [] t.cells.length (λi x=>x.t 2=.pv (zs q)/\x.t 7=.ptr 7 0/\x.t 31=.pv (.sl (U.map B))/\x.t 32=.pv (Z t.cells.length)/\x.t 33=.pv (Z i)/\x.h 7=some (.box [.pv (.sl ((af t).map iv)),.pv (.sl (op.map B))] true false)/\(∀j,j<i->U[j]?=some true->j7 t q j=false)) (by simp[G]) ?_;rintro i x hi ⟨E,F,d,f,g,k,M⟩;by_cases a:i<t.cells.length
 .have I:=ai a (by omega)
  have b:i<U.length:=by omega
  have s:i<(af t).length:=by omega
  obtain⟨l,O,_⟩:=dF v (c:=(i:Int)) (by simpa using a);rw[yAm]at l;have r:=aJ l s;have A:=Ay (ao t (i:Int)) q (by omega);have u:=IC (t:=t) (U:=U) (q:=q) (i:=i)
  have o:(U[i]?=some true->j7 t q i=false)->∀j,j<i+1->U[j]?=some true->j7 t q j=false:=λh j W S=>by
   by_cases e:j=i
   .subst e;exact h S
   .exact M j (by omega) S
  have T:j7 t q i=aR (ao t (i:Int)) q:=rfl;rw[T]at u o;rcases Ln b with m|m
  .unfold fq at m
   have n:=aJ m b
   cases L:aR (ao t (i:Int)) q with
   |true=>
    rw[L]at A u;have:=u m a rfl;rw[this]
    with_reducible repeat' (first|refine Sp.h ?_|((first|refine Ss.h ?_|refine Sc.h (A) ?_|(refine Sb.h ?_ ?_ ?_<;>(try intro hgd)<;>try exact Xy))<;>simp -implicitDefEqProofs (maxSteps:=2000000) [hP,hN,E,F,d,f,g,k,a,I,m,n,b,s,l,r])|refine X2 ?_ ?_|(refine Xd ?_ ?_<;>intro hcd<;>try exact Xx))
   |false=>
    rw[L]at A o;have:=o (λ_=>rfl)
    with_reducible repeat' (first|refine Sp.h ?_|((first|refine Ss.h ?_|refine Sc.h (A) ?_|(refine Sb.h ?_ ?_ ?_<;>(try intro hgd)<;>try exact Xy))<;>simp -implicitDefEqProofs (maxSteps:=2000000) [hP,hN,E,F,d,f,g,k,a,I,m,n,b,s,l,r])|refine X2 ?_ ?_|(refine Xd ?_ ?_<;>intro hcd<;>try exact Xx))
    all_goals exact this
  .have n:=aJ m b
   have:=o (λh=>by rw[m]at h;cases h)
   with_reducible repeat' (first|refine Sp.h ?_|((first|refine Ss.h ?_|(refine Sb.h ?_ ?_ ?_<;>(try intro hgd)<;>try exact Xy))<;>simp -implicitDefEqProofs (maxSteps:=2000000) [hP,hN,E,F,d,f,g,k,a,I,m,n,b])|refine X2 ?_ ?_|(refine Xd ?_ ?_<;>intro hcd<;>try exact Xx))
   all_goals exact this
 .have:=AE (λj W=>M j (by omega))
  rw[this]
  with_reducible repeat' (first|refine Sp.h ?_|((first|refine Ss.h ?_|(refine Sb.h ?_ ?_ ?_<;>(try intro hgd)<;>try exact Xy))<;>simp -implicitDefEqProofs (maxSteps:=2000000) [hP,hN,E,F,d,f,g,k,a])|refine X2 ?_ ?_|(refine Xd ?_ ?_<;>intro hcd<;>try exact Xx))
def io(cs:List Cel):Nat:=cs.countP gt
theorem Va(t:Tr)(r:t.cells.length<=9223372036854775807):aV 28 (eo t) (Z (io t.cells)):=by
 refine Dp func28 λC hP hN=>?_
 with_reducible repeat' (first|refine Sp.h ?_|((first|refine Ss.h ?_|(refine Sb.h ?_ ?_ ?_<;>(try intro hgd)<;>try exact Xy))<;>simp -implicitDefEqProofs (maxSteps:=2000000) [hP,hN])|refine X2 ?_ ?_|(refine Xd ?_ ?_<;>intro hcd<;>try exact Xx))
 refine WP.loopN [5] t.cells.length (λi f=>f.t 3=.pv (Z (io (t.cells.take i)))/\f.t 7=.pv (.sl (t.cells.map bD))/\f.t 8=.pv (Z t.cells.length)/\f.t 9=.pv (Z i)/\f.h 5=none) (by simp[io]) ?_;rintro i f hi ⟨g3,k,l,m,d⟩;by_cases a:i<t.cells.length
 .have q:=ai a (by omega)
  have b:io (t.cells.take (i+1))=io (t.cells.take i)+(if gt t.cells[i]then 1 else 0):=by
   rw[io,io,yAP a,List.countP_append,List.countP_cons,List.countP_nil];omega
  have p:io (t.cells.take i)<=i:=by
   have:io (t.cells.take i)<=(t.cells.take i).length:=List.countP_le_length;rw[yAN]at this;omega
  generalize n:t.cells[i]=c at *
  have g:t.cells[i]?=some c:=by rw[an a,n]
  have cc:=Iy c;have j:i64.wrap ((io (t.cells.take i):Int)+1)=(io (t.cells.take i):Int)+1:=aa
  cases o:gt c with
  |true=>
   rw[o]at cc b
   with_reducible repeat' (first|refine Sp.h ?_|((first|refine Ss.h ?_|refine Sc.h (cc) ?_|(refine Sb.h ?_ ?_ ?_<;>(try intro hgd)<;>try exact Xy))<;>simp -implicitDefEqProofs (maxSteps:=2000000) [hP,hN,g3,k,l,m,d,a,q,g,n,j])|refine X2 ?_ ?_|(refine Xd ?_ ?_<;>intro hcd<;>try exact Xx))
   all_goals simp[b]
  |false=>
   rw[o]at cc b
   with_reducible repeat' (first|refine Sp.h ?_|((first|refine Ss.h ?_|refine Sc.h (cc) ?_|(refine Sb.h ?_ ?_ ?_<;>(try intro hgd)<;>try exact Xy))<;>simp -implicitDefEqProofs (maxSteps:=2000000) [hP,hN,g3,k,l,m,d,a,q,g,n,j])|refine X2 ?_ ?_|(refine Xd ?_ ?_<;>intro hcd<;>try exact Xx))
   all_goals simp[b]
 .have e:t.cells.take i=t.cells:=yAu (by omega)
  rw[e]at g3
  with_reducible repeat' (first|refine Sp.h ?_|((first|refine Ss.h ?_|(refine Sb.h ?_ ?_ ?_<;>(try intro hgd)<;>try exact Xy))<;>simp -implicitDefEqProofs (maxSteps:=2000000) [hP,hN,g3,k,l,m,d,a])|refine X2 ?_ ?_|(refine Xd ?_ ?_<;>intro hcd<;>try exact Xx))
abbrev U(n:Int):PV:=.val (.int .u64 n)
theorem mr(h:0<=n)(h':n<18446744073709551616):IntKind.u64.wrap n=n:=by
 simp only[IntKind.wrap,IntKind.signed,IntKind.bits];simp;omega
theorem AF(h:0<=a)(h':a<18446744073709551616):wK .and .u64 a 4294967295=a%4294967296:=by
 obtain⟨n,rfl⟩:∃n:Nat,a=n:=⟨a.toNat,by omega⟩;unfold wK
 have e:(BitVec.ofInt IntKind.u64.bits (n:Int) &&& BitVec.ofInt IntKind.u64.bits 4294967295).toNat=n%4294967296:=by
  rw[BitVec.toNat_and]
  have b:(BitVec.ofInt IntKind.u64.bits (n:Int)).toNat=n:=by
   simp only[IntKind.bits,BitVec.toNat_ofInt];omega
  have c:(BitVec.ofInt IntKind.u64.bits 4294967295).toNat=2^32-1:=by decide
  rw[b,c,Nat.and_two_pow_sub_one_eq_mod]
 simp only[e];rw[mr (by omega) (by omega)];omega
def B8(x y:Int):Int:=x*y/18446744073709551616
def Gn(x y:Int):Int:=x*y%18446744073709551616
theorem Er{x0 x1:Int}(h1:0<=x0)(e:x0<4294967296)(f:0<=x1)(g:x1<4294967296)(i:0<=y0)(j:y0<4294967296)(k:0<=y1)(l:y1<4294967296):
 0<=x0*y0/\x0*y0<=18446744065119617025/\0<=x1*y0/\x1*y0<=18446744065119617025/\0<=x0*y1/\x0*y1<=18446744065119617025/\0<=x1*y1/\x1*y1<=18446744065119617025:=by
 have key:∀{a b:Int},0<=a->a<4294967296->0<=b->b<4294967296->0<=a*b/\a*b<=18446744065119617025:=by
  intro a b n o m p;refine⟨yA3 n m,?_⟩;have:=yCj (show a<=4294967295 by omega) (show b<=4294967295 by omega) m (by decide);simpa using this
 have a:=key h1 e i j;have b:=key f g i j;have c:=key h1 e k l;have d:=key f g k l;exact⟨a.1,a.2,b.1,b.2,c.1,c.2,d.1,d.2⟩
theorem Sd{x0 x1:Int}(h1:0<=x0)(f:x0<4294967296)(g:0<=x1)(i:x1<4294967296)(j:0<=y0)(k:y0<4294967296)(l:0<=y1)(m:y1<4294967296):
 (x1*4294967296+x0)*(y1*4294967296+y0)/18446744073709551616=x1*y1+(x1*y0+x0*y0/4294967296)/4294967296+((x1*y0+x0*y0/4294967296)%4294967296+x0*y1)/4294967296:=by
 obtain⟨n,o,p,q,r,s,d1,d2⟩:=Er h1 f g i j k l m
 have e:(x1*4294967296+x0)*(y1*4294967296+y0)=x1*y1*18446744073709551616+(x1*y0)*4294967296+(x0*y1)*4294967296+x0*y0:=by
  rw[Int.add_mul,Int.mul_add,Int.mul_add]
  have u:x1*4294967296*(y1*4294967296)=x1*y1*18446744073709551616:=by
   rw[show(18446744073709551616:Int)=4294967296*4294967296 by decide];ac_rfl
  have v:x1*4294967296*y0=x1*y0*4294967296:=by ac_rfl
  have x:x0*(y1*4294967296)=x0*y1*4294967296:=by ac_rfl
  omega
 rw[e];generalize x0*y0=a at *;generalize x1*y0=b at *;generalize x0*y1=c at *;generalize x1*y1=d at *;omega
theorem Se(x y:Int)(h1:0<=x)(u:x<18446744073709551616)(e:0<=y)(v:y<18446744073709551616):aL 129 (U x) (U y) (.tup [U (B8 x y),U (Gn x y)]):=by
 have k:=AF h1 u;have l:=AF e v;obtain⟨x0,f⟩:∃x0,x%4294967296=x0:=⟨_,rfl⟩;obtain⟨x1,g⟩:∃x1,x/4294967296=x1:=⟨_,rfl⟩;obtain⟨y0,i⟩:∃y0,y%4294967296=y0:=⟨_,rfl⟩;obtain⟨y1,j⟩:∃y1,y/4294967296=y1:=⟨_,rfl⟩;obtain⟨n,J,o,K,p,L,d1,d2⟩:=Er (x0:=x0) (x1:=x1) (y0:=y0) (y1:=y1) (by omega) (by omega) (by omega) (by omega) (by omega) (by omega) (by omega) (by omega);have b:=Sd (x0:=x0) (x1:=x1) (y0:=y0) (y1:=y1) (by omega) (by omega) (by omega) (by omega) (by omega) (by omega) (by omega) (by omega);rw[show x1*4294967296+x0=x by omega,show y1*4294967296+y0=y by omega]at b
 have r:x.fdiv 4294967296=x1:=by rw[Int.fdiv_eq_ediv_of_nonneg _ (by decide)];exact g
 have s:y.fdiv 4294967296=y1:=by rw[Int.fdiv_eq_ediv_of_nonneg _ (by decide)];exact j
 have z:IntKind.u64.wrap (x0*y0)=x0*y0:=mr n (by omega);have f1:(x0*y0).fdiv 4294967296=x0*y0/4294967296:=Int.fdiv_eq_ediv_of_nonneg _ (by decide);have A:IntKind.u64.wrap (x1*y0)=x1*y0:=mr o (by omega);obtain⟨t,m⟩:∃t,x1*y0+x0*y0/4294967296=t:=⟨_,rfl⟩
 have B:IntKind.u64.wrap (x1*y0+x0*y0/4294967296)=t:=by rw[m];exact mr (by omega) (by omega)
 have at_:=AF (a:=t) (by omega) (by omega);have q:t.fdiv 4294967296=t/4294967296:=Int.fdiv_eq_ediv_of_nonneg _ (by decide);have D:IntKind.u64.wrap (x0*y1)=x0*y1:=mr p (by omega);have E:IntKind.u64.wrap (t%4294967296+x0*y1)=t%4294967296+x0*y1:=mr (by omega) (by omega);have f5:(t%4294967296+x0*y1).fdiv 4294967296=(t%4294967296+x0*y1)/4294967296:=Int.fdiv_eq_ediv_of_nonneg _ (by decide);have F:IntKind.u64.wrap (x1*y1)=x1*y1:=mr d1 (by omega);have G:IntKind.u64.wrap (x1*y1+t/4294967296)=x1*y1+t/4294967296:=mr (by omega) (by omega);rw[m]at b
 have c:x*y/18446744073709551616<18446744073709551616:=by
  have:x*y<=18446744073709551615*18446744073709551615:=yCj (by omega) (by omega) e (by decide);omega
 have d:0<=x*y/18446744073709551616:=yBV (yA3 h1 e) (by decide)
 have H:IntKind.u64.wrap (x1*y1+t/4294967296+(t%4294967296+x0*y1)/4294967296)=B8 x y:=by
  rw[B8,b];rw[b]at c d;exact mr d c
 have I:IntKind.u64.wrap (x*y)=Gn x y:=by
  simp only[IntKind.wrap,IntKind.signed,IntKind.bits,Gn];simp
 rw[f]at k;rw[i]at l;refine Dp func129 λC hP hN=>?_
 with_reducible repeat' (first|refine Sp.h ?_|((first|refine Ss.h ?_|(refine Sb.h ?_ ?_ ?_<;>(try intro hgd)<;>try exact Xy))<;>simp -implicitDefEqProofs (maxSteps:=2000000) [hP,hN,k,l,r,s,z,f1,A,B,at_,q,D,E,f5,F,G,H,I,IntKind.bits])|refine X2 ?_ ?_|(refine Xd ?_ ?_<;>intro hcd<;>try exact Xx))
abbrev Fr:=Int×Int
variable {f:Fr}{s':Fr×Fr}
def gp(f g:Fr):Bool:=decide (f.1*g.2<g.1*f.2)
def Gp(f:Fr):Prop:=0<=f.1/\f.1<9223372036854775808/\0<=f.2/\f.2<9223372036854775808
theorem Sf:(decide (u/18446744073709551616<v/18446744073709551616)||((u/18446744073709551616==v/18446744073709551616)&&decide (u%18446744073709551616<v%18446744073709551616)))=decide (u<v):=by
 rw[Bool.eq_iff_iff];simp only[yAV,An,Is,yAU];omega
theorem ID(f g:Fr)(hf:Gp f)(j:Gp g):aL 71 (aA f) (aA g) (B (gp f g)):=by
 obtain⟨f1,f2,f3,f4⟩:=hf;obtain⟨i,m,g3,n⟩:=j;have k:=Se f.1 g.2 f1 (by omega) g3 (by omega);have l:=Se g.1 f.2 i (by omega) f3 (by omega);have o:IntKind.u64.wrap f.1=f.1:=mr f1 (by omega);have p:IntKind.u64.wrap f.2=f.2:=mr f3 (by omega);have q:IntKind.u64.wrap g.1=g.1:=mr i (by omega);have r:IntKind.u64.wrap g.2=g.2:=mr g3 (by omega);have e:gp f g=(decide (B8 f.1 g.2<B8 g.1 f.2)||((B8 f.1 g.2==B8 g.1 f.2)&&decide (Gn f.1 g.2<Gn g.1 f.2))):=(Sf (u:=f.1*g.2) (v:=g.1*f.2)).symm;rw[e];generalize B8 f.1 g.2=a at *;generalize B8 g.1 f.2=b at *;generalize Gn f.1 g.2=c at *;generalize Gn g.1 f.2=d at *;refine Dp func71 λC hP hN=>?_;exact Gy
 all_goals (simp_all)
def gM(a b:Int):Int:=(Int.gcd a b:Int)
theorem Lp{b:Int}(d:0<b)(c:0<=a):gM b (a%b)=gM a b:=by
 unfold gM
 congr 1
 rw[Int.gcd_comm a b];obtain⟨n,rfl⟩:∃n:Nat,a=n:=⟨a.toNat,by omega⟩;obtain⟨m,rfl⟩:∃m:Nat,b=m:=⟨b.toNat,by omega⟩;rw[<-Int.natCast_emod,Int.gcd_natCast_natCast,Int.gcd_natCast_natCast,Nat.gcd_comm m n,Nat.gcd_comm m (n%m),<-Nat.gcd_rec,Nat.gcd_comm]
theorem Lq(b:0<=a):gM a 0=a:=by
 unfold gM;simp;omega
def ji(f:Fr):Fr:=(f.1/gM f.1 f.2,f.2/gM f.1 f.2)
theorem Gq{b:Int}(c:0<b):0<gM a b:=by
 unfold gM;have:0<Int.gcd a b:=Int.gcd_pos_of_ne_zero_right _ (by omega);omega
theorem Zc(f:Fr)(e:0<=f.1)(s:0<f.2)(h1:f.1<9223372036854775808)(r:f.2<9223372036854775808):aV 72 (aA f) (aA (ji f)):=by
 obtain⟨a,b⟩:=f;simp only at e s h1 r;have v:=Gq (a:=a) s;have I:a.tdiv (gM a b)=a/gM a b:=yAp e;have J:b.tdiv (gM a b)=b/gM a b:=yAp (by omega);have D:=yBV e (show 0<=gM a b by omega);have E:=yBV (show 0<=b by omega) (show 0<=gM a b by omega);have z:=yCn (gM a b) e;have A:=yCn (gM a b) (show 0<=b by omega);have K:i64.wrap (a/gM a b)=a/gM a b:=aa;have L:i64.wrap (b/gM a b)=b/gM a b:=aa
 have l:¬gM a b=0:=by omega
 simp only[ji];generalize u:gM a b=G at *;refine Dp func72 λC hP hN=>?_
 with_reducible repeat' (first|refine Sp.h ?_|((first|refine Wd ?_|refine Ss.h ?_|(refine Sb.h ?_ ?_ ?_<;>(try intro hgd)<;>try exact Xy))<;>simp -implicitDefEqProofs (maxSteps:=2000000) [hP,hN]<;>try refine Ya ?_)|refine X2 ?_ ?_|(refine Xd ?_ ?_<;>intro hcd<;>try exact Xx))
 refine WP.loopN [] b.toNat (λi d=>∃x y:Int,0<=x/\0<=y/\y+i<=b/\gM x y=G/\d.t 3=.pv (Z x)/\d.t 4=.pv (Z y)/\d.t 1=.ptr 1 0/\d.t 2=.ptr 2 0/\d.h 1=some (.box [.pv (Z a),.pv (Z b)] true false)/\d.h 2=some (.box [.pv (Z 0),.pv (Z 0)] true false)) (by exact⟨a,b,e,by omega,by simp,u,by simp⟩) ?_;rintro i d hi ⟨x,y,n,M,H,k,g3,q,o,p,g,j⟩;by_cases c:y=0
 .subst c
  rw[Lq n]at k;subst k
  with_reducible repeat' (first|refine Sp.h ?_|((first|refine Wd ?_|refine Ss.h ?_|(refine Sb.h ?_ ?_ ?_<;>(try intro hgd)<;>try exact Xy))<;>simp -implicitDefEqProofs (maxSteps:=2000000) [hP,hN,o,p,g3,q,g,j,I,J,K,L,l]<;>try refine Ya ?_)|refine X2 ?_ ?_|(refine Xd ?_ ?_<;>intro hcd<;>try exact Xx))
 .have B:x.tmod y=x%y:=yCi n
  have h1:=yBb x (show y≠0 by omega);have r:=yBd x (show 0<y by omega);have F:=Lp (show 0<y by omega) n
  have m:(y !=0)=true:=by simp[c]
  with_reducible repeat' (first|refine Sp.h ?_|((first|refine Wd ?_|refine Ss.h ?_|(refine Sb.h ?_ ?_ ?_<;>(try intro hgd)<;>try exact Xy))<;>simp -implicitDefEqProofs (maxSteps:=2000000) [hP,hN,o,p,g3,q,g,j,c,m,B]<;>try refine Ya ?_)|refine X2 ?_ ?_|(refine Xd ?_ ?_<;>intro hcd<;>try exact Xx))
  all_goals (refine⟨by omega,y,by omega,x%y,h1,by omega,by rw[F];exact k,rfl,rfl⟩)
def fp(s:Fr×Fr)(a b lo hi:Int):Option (Fr×Fr):=
 if b<lo\/hi<a then none
 else some (if a<lo/\gp s.1 (lo-a,b-a)=true then(lo-a,b-a)else s.1,if hi<b/\gp (hi-a,b-a) s.2=true then(hi-a,b-a)else s.2)
def m8(s:Fr×Fr)(p q:Int)(x:Int×Int):Option (Fr×Fr):=if q<p then fp s (-p) (-q) (-x.2) (-x.1)else fp s p q x.1 x.2
def eC:Bx->List Int->List Int->Fr×Fr->Option (Fr×Fr)
 |x::b,p::a,q::qs,s=>match m8 s p q x with
  |none=>none
  |some s'=>eC b a qs s'
 |_,_,_,s=>some s
def qi:Fr×Fr:=((0,1),(1,1))
def kz(b:Bx)(p q:List Int):Option Fr:=match eC b p q qi with
 |none=>none
 |some s=>if gp s.2 s.1 then none else some s.1
structure Sm(b:Bx)(p q:List Int):Prop where
 v:au vI b=true
 lb:b.length<=16777216
 lp:p.length=b.length
 lq:q.length=b.length
 sp:∀y∈p,-2147483648<=y/\y<=2147483648
 sq:∀y∈q,-2147483648<=y/\y<=2147483648
def tK(s:Fr×Fr):Prop:=0<=s.1.1/\s.1.1<=4294967296/\0<s.1.2/\s.1.2<=4294967296/\0<=s.2.1/\s.2.1<=4294967296/\0<s.2.2/\s.2.2<=4294967296
theorem Sg{s:Fr×Fr}(h:tK s):Gp s.1/\Gp s.2:=by
 obtain⟨a,c,d,e,b,f,g,i⟩:=h;exact⟨⟨a,by omega,by omega,by omega⟩,⟨b,by omega,by omega,by omega⟩⟩
theorem B9{s:Fr×Fr}{b:Int}(hs:tK s)(h:fp s a b lo hi=some s')(d:-2147483648<=a)(e:b<=2147483648)(g:lo<=2147483648)(f:-2147483648<=hi)(h1:lo<=hi)(c:a<=b):tK s':=by
 obtain⟨i,j,k,l,m,n,o,p⟩:=hs;unfold fp at h;split at h
 .cases h
 .injection h with h
  subst h;unfold tK;dsimp only;refine⟨?_,?_,?_,?_,?_,?_,?_,?_⟩<;>(split<;>(try dsimp only)<;>omega)
theorem Gr{s:Fr×Fr}{p q:Int}(hs:tK s)(h:m8 s p q x=some s')(a:al x.1 x.2=true)(hp:-2147483648<=p/\p<=2147483648)(hq:-2147483648<=q/\q<=2147483648):tK s':=by
 have v:=bH.1 a;unfold m8 at h;split at h
 all_goals exact B9 hs h (by omega) (by omega) (by omega) (by omega) (by omega) (by omega)
theorem Ac{s:Fr×Fr}(h1:b[i]?=some x)(e:p[i]?=some u)(f:q[i]?=some v):
 eC (b.drop i) (p.drop i) (q.drop i) s=match m8 s u v x with|none=>none|some s'=>eC (b.drop (i+1)) (p.drop (i+1)) (q.drop (i+1)) s':=by
 obtain⟨g,a⟩:=th.1 h1;obtain⟨j,c⟩:=th.1 e;obtain⟨k,d⟩:=th.1 f;rw[yCm g,yCm j,yCm k,a,c,d];rfl
theorem HU{s:Fr×Fr}(h:b.length<=i):eC (b.drop i) (p.drop i) (q.drop i) s=some s:=by
 rw[yB2 h];rfl
structure EntI(b:Bx)(p q:List Int)(i:Nat)(s:Fr×Fr):Prop where
 ok:tK s
 run:eC (b.drop i) (p.drop i) (q.drop i) s=eC b p q qi
theorem Es(b:Bx)(p q:List Int):EntI b p q 0 qi:=⟨by simp[tK,qi],by simp⟩
theorem Et{s:Fr×Fr}(hS:Sm b p q)(d:EntI b p q i s)(h1:b[i]?=some x)(a:p[i]?=some u)(c:q[i]?=some v)(h:m8 s u v x=some s'):EntI b p q (i+1) s':=by
 refine⟨Gr d.ok h (bE.1 hS.v _ (In h1)) (hS.sp _ (In a)) (hS.sq _ (In c)),?_⟩;rw[<-d.run,Ac h1 a c,h]
theorem sL{s:Fr×Fr}(d:EntI b p q i s)(h1:b[i]?=some x)(a:p[i]?=some u)(c:q[i]?=some v)(h:m8 s u v x=none):eC b p q qi=none:=by
 rw[<-d.run,Ac h1 a c,h]
theorem Lr{s:Fr×Fr}(a:EntI b p q i s)(h:b.length<=i):eC b p q qi=some s:=by
 rw[<-a.run,HU h]
abbrev Fb(f:Fr):Blk:=.box [.pv (Z f.1),.pv (Z f.2)] true false
theorem Zd(b:Bx)(p q:List Int)(hS:Sm b p q):jQ 70 (iv b) (zs p) (zs q) (.tup [aA ((kz b p q).getD (0,0)),B (kz b p q).isSome]):=by
 have ay:=hS.lb;refine Dp func70 λC hP hN=>?_;refine Gz ?_;refine WP.loopN [11,16,18] b.length (λi m=>∃s,EntI b p q i s/\m.t 1=.pv (zs p)/\m.t 2=.pv (zs q)/\m.t 6=.ptr 6 0/\m.t 8=.ptr 8 0/\m.t 9=.ptr 9 0/\m.t 23=.pv (iv b)/\m.t 24=.pv (Z b.length)/\m.t 25=.pv (Z i)/\m.h 11=none/\m.h 16=none/\m.h 18=none/\m.h 6=some (.box [.pv (Z 0),.pv (Z 0)] true false)/\m.h 8=some (Fb s.1)/\m.h 9=some (Fb s.2)) (by exact⟨qi,Es b p q,by simp[qi]⟩) ?_;rintro i m a2 ⟨s,A,g1,g2,g6,g8,g9,V,W,X,R,S,T,Y,ad,ax⟩;obtain⟨E,F⟩:=Sg A.ok;by_cases z:i<b.length
 .have hw:=ai z (by omega)
  have L:i<p.length:=by rw[hS.lp];exact z
  have M:i<q.length:=by rw[hS.lq];exact z
  have j:b[i]?=some b[i]:=an z;have k:p[i]?=some p[i]:=an L;have l:q[i]?=some q[i]:=an M;have N:=bH.1 (bE.1 hS.v _ (In j));have a6:=hS.sp _ (In k);have a8:=hS.sq _ (In l);generalize a1:b[i]=x at *;generalize a5:p[i]=u at *;generalize a7:q[i]=v at *;obtain⟨f,d⟩:=x;simp only at N;by_cases K:v<u
  .have g:m8 s u v (f,d)=fp s (-u) (-v) (-d) (-f):=yAb K
   have n1:i64.wrap (-u)=-u:=aa;have n2:i64.wrap (-v)=-v:=aa;have n3:i64.wrap (-d)=-d:=aa;have n4:i64.wrap (-f)=-f:=aa;obtain⟨a,Q⟩:∃a,-u=a:=⟨_,rfl⟩;obtain⟨e,H⟩:∃a,-v=a:=⟨_,rfl⟩;obtain⟨lo,J⟩:∃a,-d=a:=⟨_,rfl⟩;obtain⟨hi,I⟩:∃a,-f=a:=⟨_,rfl⟩;rw[Q,H,J,I]at g;rw[Q]at n1;rw[H]at n2;rw[J]at n3;rw[I]at n4;by_cases O:e<lo
   .have G:=sL A j k l (by rw[g,fp,yAb (.inl O)])
    rw[kz,G];exact Gy
   by_cases P:hi<a
   .have G:=sL A j k l (by rw[g,fp,yAb (.inr P)])
    rw[kz,G];exact Gy
   have c:=λs'(h:fp s a e lo hi=some s')=>Et hS A j k l (by rw[g];exact h);have r:fp s a e lo hi=some (if a<lo/\gp s.1 (lo-a,e-a)=true then(lo-a,e-a)else s.1,if hi<e/\gp (hi-a,e-a) s.2=true then(hi-a,e-a)else s.2):=L4 (by omega);have c:=c _ r;clear r;have w1:i64.wrap (lo-a)=lo-a:=aa;have w2:i64.wrap (e-a)=e-a:=aa;have w3:i64.wrap (hi-a)=hi-a:=aa;have D:a<lo->aO prog 71 [.pv (aA s.1),.pv (aA (lo-a,e-a))] [] [] (.pv (B (gp s.1 (lo-a,e-a)))):=λh=>ID s.1 (lo-a,e-a) E ⟨by simp only;omega,by simp only;omega,by simp only;omega,by simp only;omega⟩;have o:hi<e->aO prog 71 [.pv (aA (hi-a,e-a)),.pv (aA s.2)] [] [] (.pv (B (gp (hi-a,e-a) s.2))):=λh=>ID (hi-a,e-a) s.2 ⟨by simp only;omega,by simp only;omega,by simp only;omega,by simp only;omega⟩ F;generalize gp s.1 (lo-a,e-a)=t1 at *;generalize gp (hi-a,e-a) s.2=t2 at *
   try simp only at D o
   by_cases y:a<lo
   .have D:=D y
    by_cases n:hi<e
    .have o:=o n
     cases t1<;>cases t2<;>simp only[y,n,true_and,yAn,ZY,yAi]at c
     all_goals
      refine Gz ?_
      all_goals exact⟨_,_,_,_,c,⟨rfl,rfl⟩,rfl,rfl⟩
    .cases t1<;>simp only[y,n,true_and,false_and,yAn,ZY,yAi]at c
     all_goals
      refine Gz ?_
      all_goals exact⟨_,_,_,_,c,⟨rfl,rfl⟩,rfl,rfl⟩
   .by_cases n:hi<e
    .have o:=o n
     cases t2<;>simp only[y,n,true_and,false_and,yAn,ZY,yAi]at c
     all_goals
      refine Gz ?_
      all_goals exact⟨_,_,_,_,c,⟨rfl,rfl⟩,rfl,rfl⟩
    .simp only[y,n,false_and,yAi]at c
     refine Gz ?_
     all_goals exact⟨_,_,_,_,c,⟨rfl,rfl⟩,rfl,rfl⟩
  .have g:m8 s u v (f,d)=fp s u v f d:=L4 K
   by_cases O:v<f
   .have G:=sL A j k l (by rw[g,fp,yAb (.inl O)])
    rw[kz,G];exact Gy
   by_cases P:d<u
   .have G:=sL A j k l (by rw[g,fp,yAb (.inr P)])
    rw[kz,G];exact Gy
   have c:=λs'(h:fp s u v f d=some s')=>Et hS A j k l (by rw[g];exact h);have r:fp s u v f d=some (if u<f/\gp s.1 (f-u,v-u)=true then(f-u,v-u)else s.1,if d<v/\gp (d-u,v-u) s.2=true then(d-u,v-u)else s.2):=L4 (by omega);have c:=c _ r;clear r;have w1:i64.wrap (f-u)=f-u:=aa;have w2:i64.wrap (v-u)=v-u:=aa;have w3:i64.wrap (d-u)=d-u:=aa;have D:u<f->aO prog 71 [.pv (aA s.1),.pv (aA (f-u,v-u))] [] [] (.pv (B (gp s.1 (f-u,v-u)))):=λh=>ID s.1 (f-u,v-u) E ⟨by simp only;omega,by simp only;omega,by simp only;omega,by simp only;omega⟩;have o:d<v->aO prog 71 [.pv (aA (d-u,v-u)),.pv (aA s.2)] [] [] (.pv (B (gp (d-u,v-u) s.2))):=λh=>ID (d-u,v-u) s.2 ⟨by simp only;omega,by simp only;omega,by simp only;omega,by simp only;omega⟩ F;generalize gp s.1 (f-u,v-u)=t1 at *;generalize gp (d-u,v-u) s.2=t2 at *
   try simp only at D o
   by_cases y:u<f
   .have D:=D y
    by_cases n:d<v
    .have o:=o n
     cases t1<;>cases t2<;>simp only[y,n,true_and,yAn,ZY,yAi]at c
     all_goals
      refine Gz ?_
      all_goals exact⟨_,_,_,_,c,⟨rfl,rfl⟩,rfl,rfl⟩
    .cases t1<;>simp only[y,n,true_and,false_and,yAn,ZY,yAi]at c
     all_goals
      refine Gz ?_
      all_goals exact⟨_,_,_,_,c,⟨rfl,rfl⟩,rfl,rfl⟩
   .by_cases n:d<v
    .have o:=o n
     cases t2<;>simp only[y,n,true_and,false_and,yAn,ZY,yAi]at c
     all_goals
      refine Gz ?_
      all_goals exact⟨_,_,_,_,c,⟨rfl,rfl⟩,rfl,rfl⟩
    .simp only[y,n,false_and,yAi]at c
     refine Gz ?_
     all_goals exact⟨_,_,_,_,c,⟨rfl,rfl⟩,rfl,rfl⟩
 .have hd:=Lr A (by omega)
  have cl:=ID s.2 s.1 F E;rw[kz,hd];simp only
  cases U:gp s.2 s.1 with
  |true=>
   rw[U]at cl;exact Gy
  |false=>
   rw[U]at cl;exact Gy
def jh(t:Tr)(i:Nat):Bool:=match t.cells[i]? with
 |some c=>gt c
 |none=>false
def za(t:Tr)(p q:List Int)(i:Nat)(s:Option (Fr×Nat)):Option (Fr×Nat):=
 if jh t i then
  match kz (ao t (i:Int)) p q with
  |none=>s
  |some f=>match s with
   |none=>some (f,i)
   |some g=>if gp f g.1 then some (f,i)else some g
 else s
def li(t:Tr)(p q:List Int):Nat->Option (Fr×Nat)
 |0=>none
 |i+1=>za t p q i (li t p q i)
def aQ(line:List (List Int))(m:Nat):List Int:=line[m]?.getD []
def qM(t:Tr)(line:List (List Int))(m:Nat):Option (Fr×Nat):=li t (aQ line m) (aQ line (m+1)) t.cells.length
def ky(t:Tr)(line:List (List Int)):Nat->Nat->Option (Nat×Fr×Nat)
 |0,_=>none
 |k+1,m=>match qM t line m with
  |some g=>some (m,ji g.1,g.2)
  |none=>ky t line k (m+1)
def gB(t:Tr)(line:List (List Int)):Bool:=am t&&decide (2<=line.length)&&decide (line.length<=1024)&&au (aR t.root) line
def gV(t:Tr)(line:List (List Int)):Option (Nat×Fr×Nat):=if gB t line then ky t line (line.length-1) 0 else none
abbrev Ul(x:Nat×Fr×Nat):PV:=.val (.agg #[.int .i64 (x.1:Int),.int .i64 x.2.1.1,.int .i64 x.2.1.2,.int .i64 (x.2.2:Int)])
def Iu:Nat×Fr×Nat:=(0,(0,0),0)
def R7(f:Fr):Prop:=0<=f.1/\f.1<=4294967296/\0<f.2/\f.2<=4294967296
theorem PE(h:R7 f):Gp f:=by obtain⟨a,b,c,d⟩:=h;exact⟨a,by omega,by omega,by omega⟩
theorem Em:∀{b:Bx}{p q:List Int}{s c:Fr×Fr},(∀x∈b,al x.1 x.2=true)->(∀y∈p,-2147483648<=y/\y<=2147483648)->(∀y∈q,-2147483648<=y/\y<=2147483648)->tK s->eC b p q s=some c->tK c
 |[],_,_,s,c,_,_,_,a,h=>by simp[eC]at h;subst h;exact a
 |_::_,[],_,s,c,_,_,_,a,h=>by simp[eC]at h;subst h;exact a
 |_::_,_::_,[],s,c,_,_,_,a,h=>by simp[eC]at h;subst h;exact a
 |x::b,p::g,q::qs,s,c,e,hp,hq,a,h=>by
  simp only[eC]at h;split at h
  .cases h
  .rename_i i f
   exact Em (λy d=>e y (yCa _ d)) (λy d=>hp y (yCa _ d)) (λy d=>hq y (yCa _ d)) (Gr a f (e _ (by simp)) (hp _ (by simp)) (hq _ (by simp))) h
theorem Iw(hS:Sm b p q)(h:kz b p q=some f):R7 f:=by
 unfold kz at h;split at h
 .cases h
 .rename_i s a
  split at h
  .cases h
  .injection h with h
   subst h;have:=Em (λx c=>bE.1 hS.v x c) hS.sp hS.sq (Es b p q).ok a;exact⟨this.1,this.2.1,this.2.2.1,this.2.2.2.1⟩
theorem Dh{t:Tr}{p q:List Int}(hS:∀i,i<t.cells.length->Sm (ao t (i:Int)) p q):∀{i:Nat}{g:Fr×Nat},i<=t.cells.length->li t p q i=some g->R7 g.1/\g.2<i
 |0,g,_,h=>by simp[li]at h
 |i+1,g,hi,h=>by
  have ih:=λg=>Dh hS (i:=i) (g:=g) (by omega);simp only[li,za]at h;split at h
  .split at h
   .have:=ih g h;exact⟨this.1,by omega⟩
   .rename_i f hf
    have a:=Iw (hS i (by omega)) hf;split at h
    .injection h with h;subst h;exact⟨a,by simp⟩
    .rename_i c b
     split at h
     .injection h with h;subst h;exact⟨a,by simp⟩
     .injection h with h;subst h
      have:=ih c b;exact⟨this.1,by omega⟩
  .have:=ih g h;exact⟨this.1,by omega⟩
theorem um(h:gB t line=true)(a:m<line.length):aR t.root (aQ line m)=true:=by
 simp only[gB,An]at h;exact bE.1 h.2 _ (by simp[aQ,an a])
theorem ri{c:List Int}(h:aR b c=true):b.length=c.length:=by
 simp only[aR,An,Is]at h;exact h.1
theorem PF(d:am t=true)(hp:aR t.root p=true)(hq:aR t.root q=true)(hi:i<t.cells.length):Sm (ao t (i:Int)) p q:=by
 obtain⟨_,l,v⟩:=dF d (c:=(i:Int)) (by simpa using hi);have e:=ba.1 (bP d);have f:=ri hp;have g:=ri hq;refine⟨v,by omega,by omega,by omega,λy b=>?_,λy b=>?_⟩
 .obtain⟨k,a⟩:=yBg.1 b
  exact Jb hp a
 .obtain⟨k,a⟩:=yBg.1 b
  exact Jb hq a
theorem Y8(b:Bx)(line:List (List Int))(g:b.length<=9223372036854775807)(n:line.length<=9223372036854775807):aL 69 (iv b) (.sl (line.map zs)) (B (au (aR b) line)):=by
 refine Dp func69 λC hP hN=>?_;refine Gz ?_;refine WP.loopN [] line.length (λi c=>c.t 0=.pv (iv b)/\c.t 7=.pv (.sl (line.map zs))/\c.t 8=.pv (Z line.length)/\c.t 9=.pv (Z i)/\au (aR b) (line.take i)=true) (by simp[au]) ?_;rintro i c hi ⟨j,k,l,m,hq⟩;by_cases a:i<line.length
 .have o:=ai a (by omega)
  have e:aR b line[i]=false->au (aR b) line=false:=pO a;have hS:aR b line[i]=true->au (aR b) (line.take (i+1))=true:=oQ a hq;have d:=Ay b line[i] g
  cases f:aR b line[i]with
  |false=>
   rw[f]at d e;rw[e rfl];exact Gy
  |true=>
   rw[f]at d hS;have:=hS rfl;exact Gy
   all_goals exact this
 .have:=oR a hq
  rw[this];exact Gy
def BY(s:Option (Fr×Nat)):Fr:=match s with
 |some g=>g.1
 |none=>(0,0)
def BZ(s:Option (Fr×Nat)):Nat:=match s with
 |some g=>g.2
 |none=>0
theorem JP{n:Nat}(h:m<n)(hn:qM t line m=none):ky t line (n-m) m=ky t line (n-(m+1)) (m+1):=by
 obtain⟨k,a⟩:∃k,n-m=k+1:=⟨n-m-1,by omega⟩;rw[a,show n-(m+1)=k by omega];simp only[ky,hn]
theorem Lf{n:Nat}{g:Fr×Nat}(h:m<n)(hn:qM t line m=some g):ky t line (n-m) m=some (m,ji g.1,g.2):=by
 obtain⟨k,a⟩:∃k,n-m=k+1:=⟨n-m-1,by omega⟩;rw[a];simp only[ky,hn]
theorem Lg{n:Nat}(h:¬m<n):ky t line (n-m) m=none:=by
 rw[show n-m=0 by omega];rfl
theorem U3(t:Tr)(line:List (List Int))(hl:t.cells.length<=9223372036854775807)(hr:t.root.length<=9223372036854775807)(hk:line.length<=9223372036854775807):aL 27 (eo t) (.sl (line.map zs)) (.tup [Ul ((gV t line).getD Iu),B (gV t line).isSome]):=by
 have cv:=TB t hl;have ci:=Y8 t.root line hr hk
 cases Y:am t with
 |false=>
  have hm:gV t line=none:=by simp[gV,gB,Y]
  rw[hm,Iu];rw[Y]at cv;refine Dp func27 λC hP hN=>?_;exact Gy
 |true=>
 rw[Y]at cv;by_cases h1:line.length<2
 .have hm:gV t line=none:=by rw[gV,L4];simp[gB];omega
  rw[hm,Iu]
  have a1:(line.length:Int)<2:=by omega
  refine Dp func27 λC hP hN=>?_;exact Gy
 have a1:¬(line.length:Int)<2:=by omega
 by_cases h2:1024<line.length
 .have hm:gV t line=none:=by rw[gV,L4];simp[gB];omega
  rw[hm,Iu]
  have a2:(1024:Int)<line.length:=by omega
  refine Dp func27 λC hP hN=>?_;exact Gy
 have a2:¬(1024:Int)<line.length:=by omega
 cases W:au (aR t.root) line with
 |false=>
  have hm:gV t line=none:=by simp[gV,gB,W]
  rw[hm,Iu];rw[W]at ci;refine Dp func27 λC hP hN=>?_;exact Gy
 |true=>
 rw[W]at ci
 have ay:gB t line=true:=by simp[gB,Y,W];omega
 have cb:=PI t Y;have hz:=ba.1 (bP Y);have b4:=ef Y
 have K:gV t line=ky t line (line.length-1-0) 0:=by simp[gV,ay]
 have b3:i64.wrap ((line.length:Int)-1)=((line.length-1:Nat):Int):=by rw[show(line.length:Int)-1=((line.length-1:Nat):Int) by omega];exact aa (by omega) (by omega)
 refine Dp func27 λC hP hN=>?_
 with_reducible repeat' (first|refine Sp.h ?_|((first|refine Wd ?_|refine Ss.h ?_|refine Sc.h (cv) ?_|refine Sc.h (ci) ?_|refine Sc.h (cb) ?_|(refine Sb.h ?_ ?_ ?_<;>(try intro hgd)<;>try exact Xy))<;>simp -implicitDefEqProofs (maxSteps:=2000000) [hP,hN,h1,a1,h2,a2,b3]<;>try refine Ya ?_)|refine X2 ?_ ?_|(refine Xd ?_ ?_<;>intro hcd<;>try exact Xx))
 refine WP.loopN [9] (line.length-1) (λm e=>gV t line=ky t line (line.length-1-m) m/\e.t 1=.pv (.sl (line.map zs))/\e.t 2=.ptr 2 0/\e.t 4=.ptr 4 0/\e.t 6=.pv (.sl ((af t).map iv))/\e.t 41=.pv (Z (line.length-1:Nat))/\e.t 42=.pv (Z m)/\e.h 2=some (.box [.pv (iv t.root),.pv (.sl (t.cells.map bD))] true false)/\e.h 4=some (.box [.pv (Z 0),.pv (Z 0),.pv (Z 0),.pv (Z 0)] true false)/\e.h 9=none/\e.h 12=none/\e.h 13=none) (by refine⟨K,?_⟩;simp) ?_;clear K;rintro m e hm ⟨K,g1,g2,g4,g6,S,T,U,V,ax,D,E⟩;by_cases M:m<line.length-1
 .have hw:i64.wrap ((m:Int)+1)=(m:Int)+1:=aa
  have N:(m:Int)<((line.length-1:Nat):Int):=by omega
  have o:m<line.length:=by omega
  have r:m+1<line.length:=by omega
  have X:(0:Int)<=(m:Int)+1:=by omega
  have hp:=um ay o;have hq:=um ay r;have ad:=λi hi=>PF Y hp hq (i:=i) hi
  have P:line[m]?=some (aQ line m):=by simp[aQ,an o]
  have Q:line[m+1]?=some (aQ line (m+1)):=by simp[aQ,an r]
  have G:=aJ P o;have H:=aJ Q r;have a5:qM t line m=li t (aQ line m) (aQ line (m+1)) t.cells.length:=rfl;generalize aQ line m=p at *;generalize aQ line (m+1)=q at *;have bk:=λi g=>Dh ad (i:=i) (g:=g)
  with_reducible repeat' (first|refine Sp.h ?_|((first|refine Wd ?_|refine Ss.h ?_|(refine Sb.h ?_ ?_ ?_<;>(try intro hgd)<;>try exact Xy))<;>simp -implicitDefEqProofs (maxSteps:=2000000) [hP,hN,g1,g2,g4,g6,S,T,U,V,ax,D,E,M,N]<;>try refine Ya ?_)|refine X2 ?_ ?_|(refine Xd ?_ ?_<;>intro hcd<;>try exact Xx))
  refine WP.loopN [12,13] t.cells.length (λi e=>e.t 1=.pv (.sl (line.map zs))/\e.t 2=.ptr 2 0/\e.t 4=.ptr 4 0/\e.t 6=.pv (.sl ((af t).map iv))/\e.t 7=.pv (Z m)/\e.t 8=.pv (B (li t p q i).isSome)/\e.t 9=.ptr 9 0/\e.t 10=.pv (Z (BZ (li t p q i)))/\e.t 41=.pv (Z (line.length-1:Nat))/\e.t 42=.pv (Z m)/\e.t 46=.pv (.sl (t.cells.map bD))/\e.t 47=.pv (Z t.cells.length)/\e.t 48=.pv (Z i)/\e.h 2=some (.box [.pv (iv t.root),.pv (.sl (t.cells.map bD))] true false)/\e.h 4=some (.box [.pv (Z 0),.pv (Z 0),.pv (Z 0),.pv (Z 0)] true false)/\e.h 9=some (Fb (BY (li t p q i)))/\e.h 12=none/\e.h 13=none) (by simp[li,BY,BZ,g1,g2,g4,g6,S,T,U,V,D,E]) ?_;clear g1 g2 g4 g6 S T U V ax D E;rintro i b5 hi ⟨y1,y2,y4,y6,y7,n,y9,b,s,u,v,x,y,z,A,d,k,l⟩;by_cases j:i<t.cells.length
  .have R:=ai j (by omega)
   have L:i<(af t).length:=by omega
   obtain⟨I,_,_⟩:=dF Y (c:=(i:Int)) (by simpa using j);rw[yAm]at I;have F:=aJ I L;have ce:=Zd (ao t (i:Int)) p q (ad i j);have b0:=λf=>Iw (f:=f) (ad i j);have a:li t p q (i+1)=za t p q i (li t p q i):=rfl;generalize hc:t.cells[i]=c at *
   have J:t.cells[i]?=some c:=by rw[an j,hc]
   have cc:=Iy c
   have bs:jh t i=gt c:=by simp[jh,J]
   rw[za,bs]at a;have bq:=λg hg=>(bk i g (by omega) hg).1
   cases a6:gt c with
   |false=>
    rw[a6]at cc a;simp only[ZY,yAi]at a;rw[<-a]at n b d
    with_reducible repeat' (first|refine Sp.h ?_|((first|refine Wd ?_|refine Ss.h ?_|refine Sc.h (cc) ?_|(refine Sb.h ?_ ?_ ?_<;>(try intro hgd)<;>try exact Xy))<;>simp -implicitDefEqProofs (maxSteps:=2000000) [hP,hN,y1,y2,y4,y6,y7,n,y9,b,s,u,v,x,y,z,A,d,k,l,j,R,J,hc]<;>try refine Ya ?_)|refine X2 ?_ ?_|(refine Xd ?_ ?_<;>intro hcd<;>try exact Xx))
   |true=>
   rw[a6]at cc a;simp only[yAn]at a
   cases he:kz (ao t (i:Int)) p q with
   |none=>
    rw[he]at ce a;simp only at a;rw[<-a]at n b d;simp only[Option.getD_none,Option.isSome_none]at ce
    with_reducible repeat' (first|refine Sp.h ?_|((first|refine Wd ?_|refine Ss.h ?_|refine Sc.h (cc) ?_|refine Sc.h (ce) ?_|(refine Sb.h ?_ ?_ ?_<;>(try intro hgd)<;>try exact Xy))<;>simp -implicitDefEqProofs (maxSteps:=2000000) [hP,hN,y1,y2,y4,y6,y7,n,y9,b,s,u,v,x,y,z,A,d,k,l,j,R,J,hc,L,I,F,o,r,P,Q,G,H,hw,X]<;>try refine Ya ?_)|refine X2 ?_ ?_|(refine Xd ?_ ?_<;>intro hcd<;>try exact Xx))
   |some f=>
   rw[he]at ce a;simp only[yAl,Option.isSome_some]at ce;have b1:=PE (b0 f he);simp only at a
   cases hs:li t p q i with
   |none=>
    rw[hs]at a n b d;simp only[Option.isSome_none,BZ,BY]at a n b d
    with_reducible repeat' (first|refine Sp.h ?_|((first|refine Wd ?_|refine Ss.h ?_|refine Sc.h (cc) ?_|refine Sc.h (ce) ?_|(refine Sb.h ?_ ?_ ?_<;>(try intro hgd)<;>try exact Xy))<;>simp -implicitDefEqProofs (maxSteps:=2000000) [hP,hN,y1,y2,y4,y6,y7,n,y9,b,s,u,v,x,y,z,A,d,k,l,j,R,J,hc,L,I,F,o,r,P,Q,G,H,hw,X]<;>try refine Ya ?_)|refine X2 ?_ ?_|(refine Xd ?_ ?_<;>intro hcd<;>try exact Xx))
    all_goals simp[a,BZ,BY]
   |some g=>
    rw[hs]at a n b d;have cl:=ID f g.1 b1 (PE (bq g hs));simp only[Option.isSome_some,BZ,BY]at a n b d
    cases a7:gp f g.1 with
    |true=>
     rw[a7]at cl a;simp only[yAn]at a
     with_reducible repeat' (first|refine Sp.h ?_|((first|refine Wd ?_|refine Ss.h ?_|refine Sc.h (cc) ?_|refine Sc.h (ce) ?_|refine Sc.h (cl) ?_|(refine Sb.h ?_ ?_ ?_<;>(try intro hgd)<;>try exact Xy))<;>simp -implicitDefEqProofs (maxSteps:=2000000) [hP,hN,y1,y2,y4,y6,y7,n,y9,b,s,u,v,x,y,z,A,d,k,l,j,R,J,hc,L,I,F,o,r,P,Q,G,H,hw,X]<;>try refine Ya ?_)|refine X2 ?_ ?_|(refine Xd ?_ ?_<;>intro hcd<;>try exact Xx))
     all_goals simp[a,BZ,BY]
    |false=>
     rw[a7]at cl a;simp only[ZY,yAi]at a
     with_reducible repeat' (first|refine Sp.h ?_|((first|refine Wd ?_|refine Ss.h ?_|refine Sc.h (cc) ?_|refine Sc.h (ce) ?_|refine Sc.h (cl) ?_|(refine Sb.h ?_ ?_ ?_<;>(try intro hgd)<;>try exact Xy))<;>simp -implicitDefEqProofs (maxSteps:=2000000) [hP,hN,y1,y2,y4,y6,y7,n,y9,b,s,u,v,x,y,z,A,d,k,l,j,R,J,hc,L,I,F,o,r,P,Q,G,H,hw,X]<;>try refine Ya ?_)|refine X2 ?_ ?_|(refine Xd ?_ ?_<;>intro hcd<;>try exact Xx))
     all_goals simp[a,BZ,BY]
  .have b2:i=t.cells.length:=by omega
   subst b2;rw[<-a5]at n b d
   cases O:qM t line m with
   |none=>
    rw[O]at n b d;have a8:=JP M O;rw[<-K]at a8;simp only[Option.isSome_none,BZ,BY]at n b d
    with_reducible repeat' (first|refine Sp.h ?_|((first|refine Wd ?_|refine Ss.h ?_|(refine Sb.h ?_ ?_ ?_<;>(try intro hgd)<;>try exact Xy))<;>simp -implicitDefEqProofs (maxSteps:=2000000) [hP,hN,y1,y2,y4,y6,y7,n,y9,b,s,u,v,x,y,z,A,d,k,l,j,hw]<;>try refine Ya ?_)|refine X2 ?_ ?_|(refine Xd ?_ ?_<;>intro hcd<;>try exact Xx))
    all_goals exact a8
   |some g=>
    rw[O]at n b d;obtain⟨⟨o1,o2,o3,o4⟩,_⟩:=bk _ g (yAd _) (by rw[<-a5];exact O);have clo:=Zc g.1 o1 o3 (by omega) (by omega);rw[K,Lf M O];simp only[Option.isSome_some,BZ,BY]at n b d
    with_reducible repeat' (first|refine Sp.h ?_|((first|refine Wd ?_|refine Ss.h ?_|refine Sc.h (clo) ?_|(refine Sb.h ?_ ?_ ?_<;>(try intro hgd)<;>try exact Xy))<;>simp -implicitDefEqProofs (maxSteps:=2000000) [hP,hN,y1,y2,y4,y6,y7,n,y9,b,s,u,v,x,y,z,A,d,k,l,j,hw]<;>try refine Ya ?_)|refine X2 ?_ ?_|(refine Xd ?_ ?_<;>intro hcd<;>try exact Xx))
 .have N:¬(m:Int)<((line.length-1:Nat):Int):=by omega
  rw[K,Lg M,Iu]
  with_reducible repeat' (first|refine Sp.h ?_|((first|refine Wd ?_|refine Ss.h ?_|(refine Sb.h ?_ ?_ ?_<;>(try intro hgd)<;>try exact Xy))<;>simp -implicitDefEqProofs (maxSteps:=2000000) [hP,hN,g1,g2,g4,g6,S,T,U,V,ax,D,E,M,N]<;>try refine Ya ?_)|refine X2 ?_ ?_|(refine Xd ?_ ?_<;>intro hcd<;>try exact Xx))
def iU(s:Sce)(t:Tr)(i:Nat):Bool:=match t.cells[i]? with
 |some c=>dO s (ao t (i:Int)) ⟨c.v.pair,c.v.left,c.v.right⟩
 |none=>false
def kx(s:Sce)(t:Tr):Bool:=(List.range t.cells.length).all λi=>!jh t i||iU s t i
def om(s:Sce)(t:Tr)(p q:List Int)(U:List Bool):Bool:=decide (az s=0)&&am t&&qL t.root (aC s.js s.ms)&&f8 t p q U
def jK(s:Sce)(t:Tr)(p q:List Int)(U:List Bool):Bool:=om s t p q U&&kx s t
def Gb(s:Sce)(t:Tr)(p q:List Int)(U:List Bool):Int:=if jK s t p q U then io t.cells else 0
def Gc(s:Sce)(t:Tr)(n:Nat):Prop:=∀i,i<n->jh t i=true->iU s t i=true
theorem Df(h:Gc s t t.cells.length):kx s t=true:=by
 rw[kx,IV];intro i hi;rw[yAJ]at hi
 cases a:jh t i with
 |false=>rfl
 |true=>rw[h i hi a];rfl
theorem Qq(hi:i<t.cells.length)(a:jh t i=true)(b:iU s t i=false):kx s t=false:=by
 cases h:kx s t with
 |false=>rfl
 |true=>
  rw[kx,IV]at h;have:=h i (yAJ.2 hi);rw[a,b]at this;cases this
def xp(t:Tr)(i:Nat):Nat:=io (t.cells.take i)
theorem Nw(t:Tr):xp t 0=0:=rfl
theorem Qr(t:Tr):xp t t.cells.length=io t.cells:=by rw[xp,yBP]
theorem Ny{c:Cel}(h:t.cells[i]?=some c):xp t (i+1)=xp t i+if gt c then 1 else 0:=by
 unfold xp io;rw[yB0,h,List.countP_append];cases a:gt c<;>simp[a]
theorem R0(t:Tr)(i:Nat):xp t i<=t.cells.length:=by
 unfold xp io;exact yBC List.countP_le_length (by rw[yAN];omega)
structure TW(t:Tr):Prop where
 c:t.cells.length<=1000000
 r:t.root.length<=1000000
 w:∀c∈t.cells,c.v.left.length<=9223372036854775807/\c.v.right.length<=9223372036854775807
theorem Il(s:Sce)(t:Tr)(p q:List Int)(U:List Bool)(hs:ScL s)(k:TW t)(y:jO t p U):yn 20 (dZ s) (eo t) (zs p) (zs q) (.tup [Z (Gb s t p q U),B (jK s t p q U)]):=by
 have a6:=k.c;have a7:=k.r;have cs:=PW s hs;have Y:=TB t (by omega);have cl:=YR s.js s.ms hs.js hs.ms
 have T:(aC s.js s.ms).length<=9223372036854775807:=by have:=hs.js;unfold aC;split<;>simp;omega
 have W:=Y1 t.root (aC s.js s.ms) (by omega) T;have X:=PJ t p q U (by omega) (by omega) y;have hP:om s t p q U=(decide (az s=0)&&am t&&qL t.root (aC s.js s.ms)&&f8 t p q U):=rfl;have a:jK s t p q U=(om s t p q U&&kx s t):=rfl
 have hN:Gb s t p q U=if jK s t p q U then(io t.cells:Int)else 0:=rfl
 by_cases I:az s=0
 case neg=>
  rw[yA4 I]at hP;simp only[yAG]at hP;rw[hP,yAG]at a;rw[a,L4 (by simp)]at hN
  have K:(az s !=0)=true:=by simp[I]
  rw[hN,a];clear hN a hP y k;refine Dp func20 λC hP hN=>?_;exact Gy
 have K:(az s !=0)=false:=by simp[I]
 rw[yAF I,yAs]at hP
 cases g:am t with
 |false=>
  rw[g]at hP Y;simp only[yAG]at hP;rw[hP,yAG]at a;rw[a,L4 (by simp)]at hN;rw[hN,a];clear hN a hP y k;refine Dp func20 λC hP hN=>?_;exact Gy
 |true=>
 rw[g]at hP Y;rw[yAs]at hP;generalize aC s.js s.ms=LR at *
 cases z:qL t.root LR with
 |false=>
  rw[z]at hP W;simp only[yAG]at hP;rw[hP,yAG]at a;rw[a,L4 (by simp)]at hN;rw[hN,a];clear hN a hP y k;refine Dp func20 λC hP hN=>?_;exact Gy
 |true=>
 rw[z]at hP W;rw[yAs]at hP
 cases A:f8 t p q U with
 |false=>
  rw[A]at hP X;rw[hP,yAG]at a;rw[a,L4 (by simp)]at hN;rw[hN,a];clear hN a hP y k;refine Dp func20 λC hP hN=>?_;exact Gy
 |true=>
 rw[A]at hP X;rw[hP,yAs]at a;rw[a]at hN;rw[hN,a];clear hN a hP y;have cb:=PI t g;have bq:=ef g;have hz:=ba.1 (bP g);have P:=λ(i:Nat)(c:Cel)(h:t.cells[i]?=some c)=>Ny h;have O:=R0 t;have L:=Nw t;rw[<-Qr t];have G:=λ(i:Nat)(hi:i<t.cells.length)(c:Cel)(o:t.cells[i]?=some c)=>Zi s (ao t (i:Int)) ⟨c.v.pair,c.v.left,c.v.right⟩ hs (by have:=(dF g (c:=(i:Int)) (by simpa using hi)).2.1;omega) (k.w c (In o)).1 (k.w c (In o)).2;have hcd:=λ(c:Cel)=>Iy c;have D:∀i,i<t.cells.length->jh t i=true->iU s t i=false->kx s t=false:=λi g z A=>Qq g z A;have u:Gc s t t.cells.length->kx s t=true:=Df
 have H:Gc s t 0:=λi hi=>by omega
 have R:∀i c,t.cells[i]?=some c->iU s t i=dO s (ao t (i:Int)) ⟨c.v.pair,c.v.left,c.v.right⟩:=λi c h=>by simp[iU,h]
 have Q:∀i c,t.cells[i]?=some c->jh t i=gt c:=λi c h=>by simp[jh,h]
 have N:∀i,i<t.cells.length->(af t)[i]?=some (ao t (i:Int)):=λi hi=>by
  have:=(dF g (c:=(i:Int)) (by simpa using hi)).1;simpa using this
 generalize kx s t=CA at *;clear k A z hz;refine Dp func20 λC hP hN=>?_;refine Gz ?_;refine WP.loopN [13] t.cells.length (λi n=>n.t 4=.ptr 4 0/\n.h 4=some (.box [.pv (.sl (s.js.map bj)),.pv (.sl (s.ms.map bN)),.pv (.sl (s.shs.map bU)),.pv (.sl (s.sks.map aA))] true false)/\n.t 10=.pv (.sl ((af t).map iv))/\n.t 11=.pv (Z (xp t i))/\n.t 39=.pv (.sl (t.cells.map bD))/\n.t 40=.pv (Z t.cells.length)/\n.t 41=.pv (Z i)/\n.h 13=none/\Gc s t i) ?_ ?_
 .simp[L]
  exact H
 rintro i n hi ⟨g4,a8,ax,ay,a1,a2,a5,ad,hq⟩;by_cases f:i<t.cells.length
 .have b3:=ai f (by omega)
  obtain⟨c,o⟩:∃c,t.cells[i]?=some c:=⟨_,an f⟩;have bs:∀h,t.cells[i]'h=c:=λh=>aJ o h
  have b0:i<(af t).length:=by omega
  have M:=N i f;have bk:∀h,(af t)[i]'h=ao t (i:Int):=λh=>aJ M h;have m:=P i c o;have b1:=O i;have V:=hcd c;have J:=G i f c o;rw[<-R i c o]at J;have E:=Q i c o;have d:=D i f;rw[E]at d
  have b:(gt c=true->iU s t i=true)->Gc s t (i+1):=λh j hj x=>by
   by_cases e:j=i
   .subst e;rw[E]at x;exact h x
   .exact hq j (by omega) x
  have b2:i64.wrap ((xp t i:Int)+1)=(xp t i:Int)+1:=aa
  cases F:gt c with
  |false=>
   rw[F]at V m b;have b:=b (by simp);simp only[ZY,yAi,yBZ]at m;exact Gy
   all_goals exact b
  |true=>
   rw[F]at V m b d;simp only[yAn]at m
   cases l:iU s t i with
   |false=>
    rw[l]at J;rw[d rfl l];exact Gy
   |true=>
    rw[l]at J;have b:=b (λ_=>l);exact Gy
    all_goals exact b
 .have S:i=t.cells.length:=by omega
  subst S;rw[u hq];exact Gy
theorem nj{b c e f:Int}(k:0<b)(hd:0<d)(hf:0<f)(h1:a*d<=c*b)(j:c*f<=e*d):a*f<=e*b:=by
 have m:=Int.mul_le_mul_of_nonneg_right h1 (Int.le_of_lt hf);have n:=Int.mul_le_mul_of_nonneg_right j (Int.le_of_lt k)
 have g:a*f*d=a*d*f:=by ac_rfl
 have l:c*b*f=c*f*b:=by ac_rfl
 have i:e*b*d=e*d*b:=by ac_rfl
 exact Int.le_of_mul_le_mul_right (by rw[g,i];omega) hd
def un(f:Fr)(n d:Int):Prop:=f.1*d<=n*f.2
def uo(f:Fr)(n d:Int):Prop:=n*f.2<=f.1*d
def j8(x:Int×Int)(p q n d:Int):Prop:=x.1*d<=p*d+(q-p)*n/\p*d+(q-p)*n<=x.2*d
structure Frac(n d:Int):Prop where
 nn:0<=n
 le:n<=d
 pos:0<d
structure EnS(s:Fr×Fr):Prop where
 nn:0<=s.1.1
 le:s.1.1<=s.1.2
 pos:0<s.1.2
 pos2:0<s.2.2
theorem xv{s:Fr×Fr}{b:Int}(e:a<=b)(hf:Frac n d)(h:fp s a b lo hi=none):¬(lo*d<=a*d+(b-a)*n/\a*d+(b-a)*n<=hi*d):=by
 have m1:0<=(b-a)*n:=yA3 (by omega) hf.nn;have m2:(b-a)*n<=(b-a)*d:=yA9 hf.le (by omega);rw[Int.sub_mul b a d]at m2;unfold fp at h;split at h
 .rename_i c
  rcases c with c|c
  all_goals
   have:=Int.mul_lt_mul_of_pos_right c hf.pos
   omega
 .cases h
theorem z9{s:Fr×Fr}{b:Int}(k:a<=b)(hs:EnS s)(hf:Frac n d)(h:fp s a b lo hi=some s'):EnS s'/\((un s'.1 n d/\uo s'.2 n d)↔(un s.1 n d/\uo s.2 n d)/\(lo*d<=a*d+(b-a)*n/\a*d+(b-a)*n<=hi*d)):=by
 have hd:=hf.pos;have m1:0<=(b-a)*n:=yA3 (by omega) hf.nn;have m2:(b-a)*n<=(b-a)*d:=yA9 hf.le (by omega);rw[Int.sub_mul b a d]at m2;unfold fp at h;split at h
 .cases h
 .rename_i o
  injection h with h;subst h
  have A:(lo*d<=a*d+(b-a)*n)↔(lo-a)*d<=n*(b-a):=by rw[Int.sub_mul lo a d,Int.mul_comm n (b-a)];omega
  have j:(a*d+(b-a)*n<=hi*d)↔n*(b-a)<=(hi-a)*d:=by rw[Int.sub_mul hi a d,Int.mul_comm n (b-a)];omega
  have l:un (if a<lo/\gp s.1 (lo-a,b-a)=true then(lo-a,b-a)else s.1) n d↔un s.1 n d/\lo*d<=a*d+(b-a)*n:=by
   split
   .rename_i e
    obtain⟨u,v⟩:=e;simp only[gp,Is]at v;rw[A];unfold un;simp only;constructor
    .intro c
     exact⟨nj hs.pos (show 0<b-a by omega) hd (Int.le_of_lt v) c,c⟩
    .exact λc=>c.2
   .rename_i e
    constructor
    .intro c
     refine⟨c,?_⟩;by_cases u:a<lo
     .have v:¬gp s.1 (lo-a,b-a)=true:=λv=>e ⟨u,v⟩
      simp only[gp,Is,Int.not_lt]at v;rw[A];exact nj (show 0<b-a by omega) hs.pos hd v c
     .have:=Int.mul_le_mul_of_nonneg_right (show lo<=a by omega) (Int.le_of_lt hd)
      omega
    .exact λc=>c.1
  have m:uo (if hi<b/\gp (hi-a,b-a) s.2=true then(hi-a,b-a)else s.2) n d↔uo s.2 n d/\a*d+(b-a)*n<=hi*d:=by
   split
   .rename_i e
    obtain⟨u,v⟩:=e;simp only[gp,Is]at v;rw[j];unfold uo;simp only;constructor
    .intro c
     exact⟨nj hd (show 0<b-a by omega) hs.pos2 c (Int.le_of_lt v),c⟩
    .exact λc=>c.2
   .rename_i e
    constructor
    .intro c
     refine⟨c,?_⟩;by_cases u:hi<b
     .have v:¬gp (hi-a,b-a) s.2=true:=λv=>e ⟨u,v⟩
      simp only[gp,Is,Int.not_lt]at v;rw[j];exact nj hd hs.pos2 (show 0<b-a by omega) c v
     .have:=Int.mul_le_mul_of_nonneg_right (show b<=hi by omega) (Int.le_of_lt hd)
      omega
    .exact λc=>c.1
  refine⟨?_,?_⟩
  .obtain⟨p,q,r,x⟩:=hs
   constructor<;>dsimp only<;>split<;>(try dsimp only)<;>omega
  .dsimp only
   rw[l,m];constructor
   .rintro⟨⟨c,f⟩,g,i⟩;exact⟨⟨c,g⟩,f,i⟩
   .rintro⟨⟨c,g⟩,f,i⟩;exact⟨⟨c,f⟩,g,i⟩
theorem Lk{p q:Int}:(-x.2*d<=-p*d+(-q- -p)*n/\-p*d+(-q- -p)*n<=-x.1*d)↔j8 x p q n d:=by
 have e:(-q- -p)*n=-((q-p)*n):=by rw[show -q- -p=-(q-p) by omega,yCb]
 unfold j8;rw[e,yCb,yCb,yCb];omega
theorem JS{s:Fr×Fr}{p q:Int}(hf:Frac n d)(h:m8 s p q x=none):¬j8 x p q n d:=by
 unfold m8 at h;split at h
 .rw[<-Lk];exact xv (by omega) hf h
 .exact xv (by omega) hf h
theorem xx{s:Fr×Fr}{p q:Int}(hs:EnS s)(hf:Frac n d)(h:m8 s p q x=some s'):EnS s'/\((un s'.1 n d/\uo s'.2 n d)↔(un s.1 n d/\uo s.2 n d)/\j8 x p q n d):=by
 unfold m8 at h;split at h
 .rw[<-Lk];exact z9 (by omega) hs hf h
 .exact z9 (by omega) hs hf h
def gC:Bx->List Int->List Int->Int->Int->Prop
 |x::b,p::a,q::qs,n,d=>j8 x p q n d/\gC b a qs n d
 |_,_,_,_,_=>True
theorem gJ:∀{b:Bx}{p q:List Int}{n d:Int},gC b p q n d↔∀(i:Nat) x u v,b[i]?=some x->p[i]?=some u->q[i]?=some v->j8 x u v n d
 |[],p,q,n,d=>by simp[gC]
 |_::_,[],q,n,d=>by simp[gC]
 |_::_,_::_,[],n,d=>by simp[gC]
 |x::b,p::j,q::qs,n,d=>by
  simp only[gC,gJ (b:=b)];constructor
  .rintro⟨f,g⟩ i y u v e a c
   cases i with
   |zero=>simp at e a c;subst e;subst a;subst c;exact f
   |succ i=>exact g i y u v (by simpa using e) (by simpa using a) (by simpa using c)
  .intro h
   exact⟨h 0 x p q rfl rfl rfl,λi y u v e a c=>h (i+1) y u v (by simpa using e) (by simpa using a) (by simpa using c)⟩
theorem Aa:∀{b:Bx}{p q:List Int}{s:Fr×Fr}{n d:Int},EnS s->Frac n d->eC b p q s=none->un s.1 n d->uo s.2 n d->¬gC b p q n d
 |[],_,_,_,_,_,_,_,h,_,_=>by simp[eC]at h
 |_::_,[],_,_,_,_,_,_,h,_,_=>by simp[eC]at h
 |_::_,_::_,[],_,_,_,_,_,h,_,_=>by simp[eC]at h
 |x::b,p::k,q::qs,s,n,d,j,hf,h,f,g=>by
  simp only[eC]at h;simp only[gC];rintro⟨e,i⟩;split at h
  .rename_i a;exact JS hf a e
  .rename_i s' a
   obtain⟨c,hi⟩:=xx j hf a;have:=hi.2 ⟨⟨f,g⟩,e⟩;exact Aa c hf h this.1 this.2 i
theorem vD:∀{b:Bx}{p q:List Int}{s c:Fr×Fr},EnS s->eC b p q s=some c->EnS c/\∀n d,Frac n d->((un c.1 n d/\uo c.2 n d)↔(un s.1 n d/\uo s.2 n d)/\gC b p q n d)
 |[],_,_,s,c,a,h=>by simp[eC]at h;subst h;exact⟨a,λn d _=>by simp[gC]⟩
 |_::_,[],_,s,c,a,h=>by simp[eC]at h;subst h;exact⟨a,λn d _=>by simp[gC]⟩
 |_::_,_::_,[],s,c,a,h=>by simp[eC]at h;subst h;exact⟨a,λn d _=>by simp[gC]⟩
 |x::b,p::g,q::qs,s,c,a,h=>by
  simp only[eC]at h;split at h
  .cases h
  .rename_i i e
   have f:=xx (n:=0) (d:=1) a ⟨by decide,by decide,by decide⟩ e;have ih:=vD f.1 h;refine⟨ih.1,λn d hf=>?_⟩;rw[ih.2 n d hf,(xx a hf e).2,gC,and_assoc]
theorem NG:EnS qi:=⟨by decide,by decide,by decide,by decide⟩
theorem zb(hf:Frac n d):un qi.1 n d/\uo qi.2 n d:=by
 have:=hf.nn;have:=hf.le;simp only[un,uo,qi];omega
theorem En(hf:Frac n d)(h:kz b p q=none):¬gC b p q n d:=by
 unfold kz at h;split at h
 .rename_i a
  exact Aa NG hf a (zb hf).1 (zb hf).2
 .rename_i s a
  split at h
  .rename_i i
   obtain⟨c,hi⟩:=vD NG a;intro g;obtain⟨e,f⟩:=(hi n d hf).2 ⟨zb hf,g⟩;simp only[gp,Is]at i;unfold un at e;unfold uo at f;have:=nj c.pos hf.pos c.pos2 e f;omega
  .cases h
theorem pQ(h:kz b p q=some f):Frac f.1 f.2/\gC b p q f.1 f.2/\∀n d,Frac n d->gC b p q n d->f.1*d<=n*f.2:=by
 unfold kz at h;split at h
 .cases h
 .rename_i s i
  split at h
  .cases h
  .rename_i e
   injection h with h;subst h;obtain⟨c,hi⟩:=vD NG i;have a:Frac s.1.1 s.1.2:=⟨c.nn,c.le,c.pos⟩;simp only[gp,Is,Int.not_lt]at e;refine⟨a,((hi _ _ a).1 ⟨yCc _,e⟩).2,λn d hf g=>?_⟩;exact((hi n d hf).2 ⟨zb hf,g⟩).1
theorem sJ{t:Tr}{p q:List Int}:∀{n:Nat},li t p q n=none->∀i,i<n->jh t i=true->kz (ao t (i:Int)) p q=none
 |0,_,i,hi,_=>by omega
 |n+1,h,i,hi,a=>by
  simp only[li,za]at h;split at h
  .split at h
   .rename_i b
    by_cases e:i=n
    .subst e;exact b
    .exact sJ h i (by omega) a
   .split at h
    .cases h
    .split at h<;>cases h
  .rename_i c
   by_cases e:i=n
   .subst e;exact absurd a c
   .exact sJ h i (by omega) a
structure MOk(t:Tr)(p q:List Int)(n:Nat)(g:Fr×Nat):Prop where
 lt:g.2<n
 col:jh t g.2=true
 ent:kz (ao t (g.2:Int)) p q=some g.1
 min:∀i,i<n->jh t i=true->∀f,kz (ao t (i:Int)) p q=some f->gp f g.1=false
theorem Ix(f:Fr):gp f f=false:=by simp[gp]
theorem Ll{g h:Fr}(c:0<g.2)(d:0<h.2)(b:0<f.2)(h1:gp f g=true)(a:gp h g=false):gp h f=false:=by
 simp only[gp,Is,yAh,Int.not_lt]at *;exact nj b c d (Int.le_of_lt h1) a
theorem sK{t:Tr}{p q:List Int}:∀{n:Nat}{g:Fr×Nat},li t p q n=some g->MOk t p q n g
 |0,g,h=>by simp[li]at h
 |n+1,g,h=>by
  simp only[li,za]at h;split at h
  .rename_i j
   split at h
   .rename_i b
    have ih:=sK h;refine⟨by have:=ih.lt;omega,ih.col,ih.ent,λi hi a f hf=>?_⟩;by_cases e:i=n
    .subst e;rw[b]at hf;cases hf
    .exact ih.min i (by omega) a f hf
   .rename_i f0 b
    split at h
    .rename_i d
     injection h with h;subst h;refine⟨by simp,j,b,λi hi a f hf=>?_⟩;by_cases e:i=n
     .subst e;rw[b]at hf;injection hf with hf;subst hf;exact Ix _
     .rw[sJ d i (by omega) a]at hf;cases hf
    .rename_i o k
     have ih:=sK k;have l:=(pQ b).1.pos;have m:=(pQ ih.ent).1.pos;split at h
     .rename_i c
      injection h with h;subst h;refine⟨by simp,j,b,λi hi a f hf=>?_⟩;by_cases e:i=n
      .subst e;rw[b]at hf;injection hf with hf;subst hf;exact Ix _
      .exact Ll m (pQ hf).1.pos l c (ih.min i (by omega) a f hf)
     .rename_i c
      injection h with h;subst h;refine⟨by have:=ih.lt;omega,ih.col,ih.ent,λi hi a f hf=>?_⟩;by_cases e:i=n
      .subst e;rw[b]at hf;injection hf with hf;subst hf;simpa using c
      .exact ih.min i (by omega) a f hf
  .rename_i d
   have ih:=sK h;refine⟨by have:=ih.lt;omega,ih.col,ih.ent,λi hi a f hf=>?_⟩;by_cases e:i=n
   .subst e;exact absurd a d
   .exact ih.min i (by omega) a f hf
theorem B2{t:Tr}{line:List (List Int)}:∀{k m:Nat},ky t line k m=none->∀i,m<=i->i<m+k->qM t line i=none
 |0,m,_,i,a,b=>by omega
 |k+1,m,h,i,a,b=>by
  simp only[ky]at h;split at h
  .cases h
  .rename_i c
   by_cases e:i=m
   .subst e;exact c
   .exact B2 h i (by omega) (by omega)
theorem B3{t:Tr}{line:List (List Int)}:∀{k m:Nat}{r:Nat×Fr×Nat},ky t line k m=some r->m<=r.1/\r.1<m+k/\(∃g,qM t line r.1=some g/\r.2=(ji g.1,g.2))/\∀i,m<=i->i<r.1->qM t line i=none
 |0,m,r,h=>by simp[ky]at h
 |k+1,m,r,h=>by
  simp only[ky]at h;split at h
  .rename_i g j
   injection h with h;subst h;exact⟨yAd _,by simp,⟨g,j,rfl⟩,λi c b=>by simp only at b;omega⟩
  .rename_i l
   obtain⟨c,b,d,f⟩:=B3 h;refine⟨by omega,by omega,d,λi hi a=>?_⟩;by_cases e:i=m
   .subst e;exact l
   .exact f i (by omega) a
def B4(t:Tr)(p q:List Int):Prop:=∀i n d,i<t.cells.length->jh t i=true->Frac n d->¬gC (ao t (i:Int)) p q n d
theorem B5(h:qM t line m=none):B4 t (aQ line m) (aQ line (m+1)):=
 λi _ _ hi a hf=>En hf (sJ h i hi a)
theorem JT(a:gB t line=true)(h:gV t line=none)(b:m+1<line.length):B4 t (aQ line m) (aQ line (m+1)):=by
 rw[gV,yAb a]at h;exact B5 (B2 h m (by omega) (by omega))
theorem AC(h:0<f.2):∃g,0<g/\f.1=g*(ji f).1/\f.2=g*(ji f).2:=by
 refine⟨gM f.1 f.2,Gq h,?_,?_⟩
 .simp only[ji,gM]
  exact(Int.mul_ediv_cancel' (Int.gcd_dvd_left _ _)).symm
 .simp only[ji,gM]
  exact(Int.mul_ediv_cancel' (Int.gcd_dvd_right _ _)).symm
theorem NH(h:Frac f.1 f.2):Frac (ji f).1 (ji f).2/\(ji f).2<=f.2:=by
 obtain⟨g,b,c,a⟩:=AC h.pos;have d:=h.nn;have e:=h.le;have i:=h.pos;rw[a]at i;have hp:0<(ji f).2:=Int.lt_of_mul_lt_mul_left (by rw[Int.mul_zero];exact i) (Int.le_of_lt b)
 have j:0<=(ji f).1:=by
  rw[c]at d;exact Int.nonneg_of_mul_nonneg_right d b
 refine⟨⟨j,?_,hp⟩,?_⟩
 .rw[c,a]at e
  exact Int.le_of_mul_le_mul_left e b
 .rw[a]
  have:=Int.mul_le_mul_of_nonneg_right (show 1<=g by omega) (Int.le_of_lt hp);omega
theorem Gh{p q g:Int}(b:0<g):j8 x p q (g*n) (g*d)↔j8 x p q n d:=by
 have c:∀a:Int,a*(g*d)=g*(a*d):=λa=>by ac_rfl
 have i:(q-p)*(g*n)=g*((q-p)*n):=by ac_rfl
 unfold j8;rw[c,c,c,i,<-Int.mul_add];constructor
 .rintro⟨e,f⟩
  exact⟨Int.le_of_mul_le_mul_left e b,Int.le_of_mul_le_mul_left f b⟩
 .rintro⟨e,f⟩
  exact⟨yA9 e (Int.le_of_lt b),yA9 f (Int.le_of_lt b)⟩
theorem R9(h:0<f.2):gC b p q f.1 f.2↔gC b p q (ji f).1 (ji f).2:=by
 obtain⟨g,e,j,k⟩:=AC h;rw[gJ,gJ,j,k];constructor
 .exact λh i x u v d a c=>(Gh e).1 (h i x u v d a c)
 .exact λh i x u v d a c=>(Gh e).2 (h i x u v d a c)
theorem Sa(h:0<f.2)(a:f.1*d<=n*f.2):(ji f).1*d<=n*(ji f).2:=by
 obtain⟨g,e,b,c⟩:=AC h;rw[b,c]at a
 have i:g*(ji f).1*d=g*((ji f).1*d):=by ac_rfl
 have j:n*(g*(ji f).2)=g*(n*(ji f).2):=by ac_rfl
 rw[i,j]at a;exact Int.le_of_mul_le_mul_left a e
structure MeetS(t:Tr)(line:List (List Int))(r:Nat×Fr×Nat):Prop where
 mot:r.1+1<line.length
 leaf:r.2.2<t.cells.length
 col:jh t r.2.2=true
 fr:Frac r.2.1.1 r.2.1.2
 jT:r.2.1.2<=4294967296
 at_:gC (ao t (r.2.2:Int)) (aQ line r.1) (aQ line (r.1+1)) r.2.1.1 r.2.1.2
 first:∀i n d,i<t.cells.length->jh t i=true->Frac n d->gC (ao t (i:Int)) (aQ line r.1) (aQ line (r.1+1)) n d->r.2.1.1*d<=n*r.2.1.2
 before:∀m,m<r.1->B4 t (aQ line m) (aQ line (m+1))
theorem B6{r:Nat×Fr×Nat}(h:gV t line=some r):MeetS t line r:=by
 unfold gV at h;split at h
 .rename_i a
  obtain⟨E,x,⟨g,u,e⟩,y⟩:=B3 h;have l:=sK u;obtain⟨f1,f2,f3⟩:=pQ l.ent
  have C:am t=true:=by simp only[gB,An]at a;exact a.1.1.1
  have hS:=λi hi=>PF C (um a (show r.1<line.length by omega)) (um a (show r.1+1<line.length by omega)) (i:=i) hi;have B:=(Dh hS (yAd _) u).1;have j:=NH f1;obtain⟨m,f,k⟩:=r;simp only[yAj]at e;obtain⟨rfl,rfl⟩:=e;refine⟨by simp only at x|-;omega,l.lt,l.col,j.1,by have:=B.2.2.2;have:=j.2;simp only;omega,(R9 f1.pos).1 f2,λi n d hi z hf q=>?_,λD o=>B5 (y D (by omega) o)⟩;have p:kz (ao t (i:Int)) (aQ line m) (aQ line (m+1))≠none:=λA=>En hf A q;obtain⟨v,c⟩:=Option.ne_none_iff_exists'.1 p;have b:=l.min i hi z v c;simp only[gp,yAh,Int.not_lt]at b;have s:=pQ c;exact Sa f1.pos (nj f1.pos s.1.pos hf.pos b (s.2.2 n d hf q))
 .cases h
theorem Qv(k:am t=true)(hp:aR t.root p=true)(hq:aR t.root q=true)(hf:Frac n d):gC t.root p q n d:=by
 have g:=(ba.1 (bP k)).2.2.2.2;obtain⟨_,m1⟩:=(dU g).1 hp;obtain⟨_,m2⟩:=(dU g).1 hq;rw[gJ];intro i x u v f j c;have a:=m1 i x u f j;have b:=m2 i x v f c;have o:=Int.mul_le_mul_of_nonneg_right a.1 (Int.le_of_lt hf.pos);have r:=Int.mul_le_mul_of_nonneg_right a.2 (Int.le_of_lt hf.pos);have s:=Int.mul_le_mul_of_nonneg_right b.1 (Int.le_of_lt hf.pos);have y:=Int.mul_le_mul_of_nonneg_right b.2 (Int.le_of_lt hf.pos);have e:(v-u)*d=v*d-u*d:=Int.sub_mul _ _ _;unfold j8;by_cases h:u<=v
 .have m1:0<=(v-u)*n:=yA3 (by omega) hf.nn
  have m2:(v-u)*n<=(v-u)*d:=yA9 hf.le (by omega);omega
 .have m1:0<=(u-v)*n:=yA3 (by omega) hf.nn
  have m2:(u-v)*n<=(u-v)*d:=yA9 hf.le (by omega)
  have l:(u-v)*n=-((v-u)*n):=by rw[<-Int.neg_mul];congr 1;omega
  have m:(u-v)*d=u*d-v*d:=Int.sub_mul _ _ _;omega
theorem Qw{j:Int}(h:aY b j=true)(hp:gC b p q n d):gC (br b j) p q n d\/gC (bv b j) p q n d:=by
 obtain⟨x,r,G,F,A,B⟩:=ny h;have o:=(th.1 r).1;rw[gJ]at hp
 have key:∀(y:Int×Int),(∀u v,p[j.toNat]?=some u->q[j.toNat]?=some v->j8 y u v n d)->gC (b.set j.toNat y) p q n d:=by
  intro y D;rw[gJ];intro i z u v l g k;rw[yAe]at l;split at l
  .rename_i e;subst e
   simp[o]at l;subst l;exact D u v g k
  .exact hp i z u v l g k
 rw[A,B]
 cases g:p[j.toNat]? with
 |none=>exact .inl (key _ (λu v a=>by rw[g]at a;cases a))
 |some u=>
  cases m:q[j.toNat]? with
  |none=>exact .inl (key _ (λs v _ c=>by rw[m]at c;cases c))
  |some v=>
   have f:=hp j.toNat x u v r g m;unfold j8 at f;by_cases C:u*d+(v-u)*n<=(x.1+x.2)/2*d
   .exact .inl (key _ (λs E a c=>by
     rw[g]at a;rw[m]at c;injection a with a;injection c with c;subst a;subst c
     exact⟨f.1,C⟩))
   .exact .inr (key _ (λs E a c=>by
     rw[g]at a;rw[m]at c;injection a with a;injection c with c;subst a;subst c
     exact⟨by simp only;omega,f.2⟩))
theorem Qx(m:am t=true):∀(k i:Nat),t.cells.length-i=k->i<t.cells.length->gC (ao t (i:Int)) p q n d->∃(j:Nat)(c:Cel),t.cells[j]?=some c/\bC c=true/\gC (ao t (j:Int)) p q n d:=by
 intro k
 induction k using Nat.strongRecOn with
 |ind k ih=>
  intro i o hi hp;have a:t.cells[i]?=some t.cells[i]:=an hi
  cases b:bC t.cells[i]with
  |true=>exact⟨i,_,a,b,hp⟩
  |false=>
   obtain⟨e,f,g,l⟩:=pI m a b;obtain⟨r,s,u,v,_⟩:=dL.1 e;rcases Qw f hp with h|h
   .rw[<-g,<-Int.toNat_of_nonneg (show 0<=t.cells[i].low by omega)]at h
    exact ih _ (by omega) _ rfl (by omega) h
   .rw[<-l,<-Int.toNat_of_nonneg (show 0<=t.cells[i].high by omega)]at h
    exact ih _ (by omega) _ rfl (by omega) h
theorem vE(a:am t=true)(hp:aR t.root p=true)(hq:aR t.root q=true)(hf:Frac n d):∃(j:Nat)(c:Cel),t.cells[j]?=some c/\bC c=true/\gC (ao t (j:Int)) p q n d:=by
 have b:=ba.1 (bP a);refine Qx a _ 0 rfl (by omega) ?_;rw[show((0:Nat):Int)=0 from rfl,O0 a];exact Qv a hp hq hf
theorem NI{a:Bx}(l:au vI a=true)(m:au vI b=true)(v:a.length=p.length)(lb:b.length=p.length)(lq:q.length=p.length)(hd:0<d)(c:gC a p q n d)(e:gC b p q n d):dH a b=true:=by
 rw[nR l m];rw[gJ]at c e;refine⟨by omega,λi x y j k=>?_⟩;have hi:=(th.1 j).1;have f:p[i]?=some (p[i]'(by omega)):=an _;have g:q[i]?=some (q[i]'(by omega)):=an _;obtain⟨o,r⟩:=c i x _ _ j f g;obtain⟨s,u⟩:=e i y _ _ k f g;exact⟨Int.le_of_mul_le_mul_right (by omega) hd,Int.le_of_mul_le_mul_right (by omega) hd⟩
theorem B7:∀(p q:List Int),∃D:Int,0<D/\∀(i:Nat) u v,p[i]?=some u->q[i]?=some v->u=v\/∃M,D=(v-u)*M
 |[],_=>⟨1,by decide,λi u v h=>by simp at h⟩
 |_::_,[]=>⟨1,by decide,λi u v _ h=>by simp at h⟩
 |a::p,b::q=>by
  obtain⟨D,f,g⟩:=B7 p q;by_cases e:a=b
  .refine⟨D,f,λi u v c d=>?_⟩
   cases i with
   |zero=>simp at c d;subst c;subst d;exact .inl e
   |succ i=>exact g i u v (by simpa using c) (by simpa using d)
  .by_cases j:a<b
   .refine⟨(b-a)*D,Int.mul_pos (by omega) f,λi u v c d=>?_⟩
    cases i with
    |zero=>simp at c d;subst c;subst d;exact .inr ⟨D,rfl⟩
    |succ i=>
     rcases g i u v (by simpa using c) (by simpa using d)with h|⟨M,h⟩
     .exact .inl h
     .exact .inr ⟨(b-a)*M,by rw[h];ac_rfl⟩
   .refine⟨(a-b)*D,Int.mul_pos (by omega) f,λi u v c d=>?_⟩
    cases i with
    |zero=>simp at c d;subst c;subst d;exact .inr ⟨-D,by rw[Int.mul_neg,<-Int.neg_mul];congr 1;omega⟩
    |succ i=>
     rcases g i u v (by simpa using c) (by simpa using d)with h|⟨M,h⟩
     .exact .inl h
     .exact .inr ⟨(a-b)*M,by rw[h];ac_rfl⟩
theorem Gi{e W k:Int}(f:e≠0)(h:e*(2*W)<=e*(2*k+1)):e*W<=e*k/\e*W<=e*(k+1):=by
 rcases Int.lt_or_gt_of_ne f with g|hp
 .have c:(-e)*(2*k+1)<=(-e)*(2*W):=by rw[yCb,yCb];omega
  have d:=Int.le_of_mul_le_mul_left c (show 0< -e by omega);have a:=yA9 (show k+1<=W by omega) (show 0<=-e by omega);have b:=yA9 (show k<=W by omega) (show 0<=-e by omega);rw[yCb,yCb]at a b;omega
 .have d:=Int.le_of_mul_le_mul_left h hp
  have a:=yA9 (show W<=k by omega) (Int.le_of_lt hp);have b:=yA9 (show W<=k+1 by omega) (Int.le_of_lt hp);exact⟨a,b⟩
theorem Lm{D k:Int}(l:0<D)(hd:u=v\/∃M,D=(v-u)*M)(h:j8 x u v (2*k+1) (2*D)):j8 x u v k D/\j8 x u v (k+1) D:=by
 unfold j8 at h|-;rcases hd with rfl|⟨M,d⟩
 .have e:u-u=0:=by omega
  rw[e]at h|-;rw[Int.zero_mul]at *
  have b:∀a:Int,a*(2*D)=2*(a*D):=λa=>by ac_rfl
  rw[b,b,b]at h;omega
 .have i:v-u≠0:=by intro g;rw[g,Int.zero_mul]at d;omega
  have key:∀a:Int,a*D-u*D=(v-u)*((a-u)*M):=λa=>by rw[<-Int.sub_mul,d];ac_rfl
  have b:∀a:Int,a*(2*D)=2*(a*D):=λa=>by ac_rfl
  have c:∀W:Int,(v-u)*(2*W)=2*((v-u)*W):=λW=>by ac_rfl
  rw[b,b,b]at h;have j:=Gi (k:=k) (W:=(x.1-u)*M) i (by rw[c,<-key];omega);have f:=Gi (e:=-(v-u)) (k:=k) (W:=(x.2-u)*M) (by omega) (by rw[yCb,yCb,c,<-key];omega);rw[yCb,yCb,yCb]at f;have m:=key x.1;have n:=key x.2;omega
theorem Gj(F:am t=true){p0:List Int}{U:List Bool}(o:jO t p0 U)(hp:aR t.root p=true)(hq:aR t.root q=true)(E:B4 t p q)(I:∃i,fq U i/\j7 t p i=true):∃i,fq U i/\j7 t q i=true:=by
 obtain⟨D,l,r⟩:=B7 p q;have lp:=ri hp;have lq:=ri hq;have b:∀{i:Nat},i<t.cells.length->(ao t (i:Int)).length=t.root.length/\au vI (ao t (i:Int))=true:=λ{i} hi=>(dF F (c:=(i:Int)) (by simpa using hi)).2
 have main:∀k:Nat,(k:Int)<=D->∃i,fq U i/\gC (ao t (i:Int)) p q k D:=by
  intro k
  induction k with
  |zero=>
   intro _;obtain⟨i,g,L⟩:=I;have hi:=uk o.len g;refine⟨i,g,?_⟩;obtain⟨_,m1⟩:=(dU (b hi).2).1 L;rw[gJ];intro j x u v n f _;have:=m1 j x u n f;have P:=Int.mul_le_mul_of_nonneg_right this.1 (Int.le_of_lt l);have Q:=Int.mul_le_mul_of_nonneg_right this.2 (Int.le_of_lt l);unfold j8;rw[show((0:Nat):Int)=0 from rfl,Int.mul_zero];omega
  |succ k ih=>
   intro O;obtain⟨i,g,hi⟩:=ih (by omega);have hf:Frac (2*(k:Int)+1) (2*D):=⟨by omega,by omega,by omega⟩;obtain⟨j,c,z,M,y⟩:=vE F hp hq hf;have e:=(th.1 z).1;have d:=uk o.len g
   have s:jM t j=true:=by
    have C:gt c=false:=by
     cases A:gt c with
     |false=>rfl
     |true=>exact absurd y (E j _ _ e (by simp[jh,z,A]) hf)
    simp[jM,z,cK,M,C]
   rw[gJ]at y;have J:gC (ao t (j:Int)) p q k D:=gJ.2 λm x u v n f a=>(Lm l (r m u v f a) (y m x u v n f a)).1;have K:gC (ao t (j:Int)) p q ((k:Int)+1) D:=gJ.2 λm x u v n f a=>(Lm l (r m u v f a) (y m x u v n f a)).2;have N:lh t i j=true:=NI (b d).2 (b e).2 (by rw[(b d).1];exact lp) (by rw[(b e).1];exact lp) (by omega) l hi J;have B:fq U j:=(o.iff j e).2 (.step ((o.iff i d).1 g) e s N);exact⟨j,B,by rw[show((k+1:Nat):Int)=(k:Int)+1 by omega];exact K⟩
 obtain⟨i,g,hi⟩:=main D.toNat (by omega);have d:=uk o.len g;refine⟨i,g,(dU (b d).2).2 ⟨by rw[(b d).1];exact lq,λj x v n a=>?_⟩⟩;rw[gJ]at hi;have e:=(th.1 a).1;have f:p[j]?=some (p[j]'(by omega)):=an _;obtain⟨G,H⟩:=hi j x _ v n f a;rw[Int.toNat_of_nonneg (by omega),Int.sub_mul]at G H;exact⟨Int.le_of_mul_le_mul_right (by omega) l,Int.le_of_mul_le_mul_right (by omega) l⟩
theorem Eo{U:List Bool}(o:jO t p U)(hs:f8 t p q U=true)(b:gB t line=true)(G:aQ line 0=p)(h1:aQ line (line.length-1)=q):∃r,gV t line=some r:=by
 cases J:gV t line with
 |some r=>exact⟨r,rfl⟩
 |none=>
  exfalso;have g:=λ{m:Nat}(h:m+1<line.length)=>JT b J h;have a:=λ{m:Nat}(h:m<line.length)=>um b h
  have D:2<=line.length:=by simp only[gB,An,Is]at b;exact b.1.1.2
  have C:am t=true:=by simp only[gB,An]at b;exact b.1.1.1
  have main:∀m,m<line.length->∃i,fq U i/\j7 t (aQ line m) i=true:=by
   intro m
   induction m with
   |zero=>
    intro _;have hp:=a (show 0<line.length by omega);have hf:Frac 0 1:=⟨by decide,by decide,by decide⟩;obtain⟨j,c,s,I,z⟩:=vE C hp (a (show 1<line.length by omega)) hf;have d:=(th.1 s).1
    have A:gt c=false:=by
     cases v:gt c with
     |false=>rfl
     |true=>exact absurd z (g (m:=0) (by omega) j _ _ d (by simp[jh,s,v]) hf)
    have n:jM t j=true:=by simp[jM,s,cK,I,A]
    obtain⟨_,M,F⟩:=dF C (c:=(j:Int)) (by simpa using d);have lp:=ri hp;have lq:=ri (a (show 1<line.length by omega))
    have f:j7 t (aQ line 0) j=true:=by
     refine(dU F).2 ⟨by omega,λk x u L E=>?_⟩;rw[gJ]at z;have H:=(th.1 E).1;have K:(aQ line 1)[k]?=some ((aQ line 1)[k]'(by omega)):=an _;have:=z k x u _ L E K;unfold j8 at this;omega
    rw[G]at f|-;exact⟨j,(o.iff j d).2 (.base ⟨d,by rw[n,f];rfl⟩),f⟩
   |succ m ih=>
    intro l;exact Gj C o (a (by omega)) (a l) (g l) (ih (by omega))
  obtain⟨i,e,f⟩:=main (line.length-1) (by omega);rw[h1]at f;have y:=uk o.len e
  have B:ni t U q=true:=by simp only[f8,An]at hs;exact hs.2
  have:=IV.1 B i (yAJ.2 y);unfold fq at e;simp[e,f]at this
theorem Rg{N i D:Int}(hN:0<N)(hd:0<d)(h1:i*d<=n*N)(a:n*N<=(i+1)*d):min (i*D) ((i+1)*D)*d<=D*n*N/\D*n*N<=max (i*D) ((i+1)*D)*d:=by
 have e:D*(i*d)=i*D*d:=by rw[Int.mul_left_comm,Int.mul_assoc]
 have f:D*((i+1)*d)=(i+1)*D*d:=by rw[Int.mul_left_comm,Int.mul_assoc]
 have g:D*(n*N)=D*n*N:=(Int.mul_assoc _ _ _).symm;have m1:=Int.mul_le_mul_of_nonneg_right (Int.min_le_left (i*D) ((i+1)*D)) (Int.le_of_lt hd);have m2:=Int.mul_le_mul_of_nonneg_right (Int.min_le_right (i*D) ((i+1)*D)) (Int.le_of_lt hd);have j:=Int.mul_le_mul_of_nonneg_right (Int.le_max_left (i*D) ((i+1)*D)) (Int.le_of_lt hd);have k:=Int.mul_le_mul_of_nonneg_right (Int.le_max_right (i*D) ((i+1)*D)) (Int.le_of_lt hd);rcases yB3 0 D with h|h
 .have b:=yA9 h1 h
  have c:=yA9 a h;omega
 .have b:=Int.mul_le_mul_of_nonpos_left h h1
  have c:=Int.mul_le_mul_of_nonpos_left h a;omega
theorem O3{N i f t:Int}(hN:0<N)(hd:0<d)(h1:i*d<=n*N)(c:n*N<=(i+1)*d):j8 (xk N i f t) f t n d:=by
 unfold j8 xk;simp only;generalize t-f=D;obtain⟨a,b⟩:=Rg (D:=D) hN hd h1 c;generalize min (i*D) ((i+1)*D)=m at *;generalize max (i*D) ((i+1)*D)=M at *;have g:=Int.ediv_mul_le m (Int.ne_of_gt hN);have j:=Int.ediv_mul_le (-M) (Int.ne_of_gt hN);generalize m/N=k at *;generalize -M/N=e at *;have o:=Int.mul_le_mul_of_nonneg_right g (Int.le_of_lt hd);have l:=Int.mul_le_mul_of_nonneg_right j (Int.le_of_lt hd)
 have p:k*d<=D*n:=by
  refine Int.le_of_mul_le_mul_right ?_ hN;rw[Int.mul_right_comm];omega
 have q:e*d<=-(D*n):=by
  refine Int.le_of_mul_le_mul_right ?_ hN;rw[Int.mul_right_comm,yCb];rw[yCb]at l;omega
 rw[Int.add_mul,Int.sub_mul];omega
def O4(D:Nat)(L:List (Int×Int)):Prop:=∀k:Int,0<=k->k<2^D->∃y∈L,0<=y.1/\y.1<=D/\0<=y.2/\y.2<2^y.1.toNat/\y.2*2^(D-y.1.toNat)<=k/\k+1<=(y.2+1)*2^(D-y.1.toNat)
theorem TH{L:List (Int×Int)}(h:O4 D L)(hf:Frac n d):∃y∈L,0<=y.1/\y.1<=D/\0<=y.2/\y.2<2^y.1.toNat/\y.2*d<=n*2^y.1.toNat/\n*2^y.1.toNat<=(y.2+1)*d:=by
 have hp:=lU D;have hd:=hf.pos
 obtain⟨k,j,l,c,f⟩:∃k:Int,0<=k/\k<2^D/\k*d<=n*2^D/\n*2^D<=(k+1)*d:=by
  have a:0<=n*2^D:=yA3 hf.nn (Int.le_of_lt hp);have g:n*2^D<=d*2^D:=Int.mul_le_mul_of_nonneg_right hf.le (Int.le_of_lt hp);generalize(2:Int)^D=P at *;by_cases b:n*P=d*P
  .refine⟨P-1,by omega,by omega,?_,?_⟩
   .rw[b,Int.sub_mul,Int.mul_comm P d];omega
   .rw[b,show P-1+1=P by omega,Int.mul_comm];exact yCc _
  .have o:=Int.ediv_mul_le (n*P) (Int.ne_of_gt hd)
   have u:=Int.lt_ediv_add_one_mul_self (n*P) hd;have m:=yBV a (Int.le_of_lt hd);refine⟨n*P/d,m,?_,o,by omega⟩;rw[yB5 hd];rw[Int.mul_comm P d];omega
 obtain⟨y,i,y0,y1,p,q,r,s⟩:=h k j l;refine⟨y,i,y0,y1,p,q,?_,?_⟩
 all_goals
  have e:(2:Int)^D=2^y.1.toNat*2^(D-y.1.toNat):=by rw[<-Int.pow_add];congr 1;omega
  have hq:=lU (D-y.1.toNat);rw[e]at c f;generalize(2:Int)^y.1.toNat=A at *;generalize(2:Int)^(D-y.1.toNat)=Q at *;refine Int.le_of_mul_le_mul_right ?_ hq;rw[<-Int.mul_assoc]at c f
 .have:=Int.mul_le_mul_of_nonneg_right r (Int.le_of_lt hd)
  rw[Int.mul_right_comm];omega
 .have:=Int.mul_le_mul_of_nonneg_right s (Int.le_of_lt hd)
  rw[Int.mul_right_comm (y.2+1) d Q];omega
def DU(a b:Bx):Bx:=List.zipWith (λx y=>(max x.1 y.1,min x.2 y.2)) a b
theorem Rh{a:Bx}(r:au vI a=true)(s:au vI b=true)(C:a.length=p.length)(lb:b.length=p.length)(lq:q.length=p.length)(hd:0<d)(g:gC a p q n d)(j:gC b p q n d):gv (DU a b) a/\gv (DU a b) b:=by
 rw[gJ]at g j
 have key:∀(i:Nat)(z:Int×Int),(DU a b)[i]?=some z->∀x y,a[i]?=some x->b[i]?=some y->SubI z x/\SubI z y:=by
  intro i z f x y c e;have hi:=(th.1 c).1;have l:p[i]?=some (p[i]'(by omega)):=an _;have m:q[i]?=some (q[i]'(by omega)):=an _;obtain⟨u,v⟩:=g i x _ _ c l m;obtain⟨A,B⟩:=j i y _ _ e l m;have t1:x.1<=y.2:=Int.le_of_mul_le_mul_right (by omega) hd;have t2:y.1<=x.2:=Int.le_of_mul_le_mul_right (by omega) hd;have D:=bH.1 (bE.1 r _ (In c));have E:=bH.1 (bE.1 s _ (In e));unfold DU at f;rw[List.getElem?_zipWith,c,e]at f;simp only[Z9]at f;subst f;exact⟨fQ (by omega) (by simp only;omega) (by simp only;omega) (by simp only;omega) (by omega),fQ (by omega) (by simp only;omega) (by simp only;omega) (by simp only;omega) (by omega)⟩
 have o:(DU a b).length=a.length:=by simp[DU];omega
 refine⟨⟨o,λk z x f c=>?_⟩,⟨by omega,λk z y f e=>?_⟩⟩
 .have hi:=(th.1 c).1
  have e:b[k]?=some (b[k]'(by omega)):=an _;exact(key k z f x _ c e).1
 .have hi:=(th.1 e).1
  have c:a[k]?=some (a[k]'(by omega)):=an _;exact(key k z f _ y c e).2
theorem O5{i m:Int}(h:(kL p q d i).2=true)(o:0<m)(h1:i*m<=n*2^d.toNat)(g:n*2^d.toNat<=(i+1)*m):gC (kL p q d i).1 p q n m/\(kL p q d i).1.length=p.length/\q.length=p.length:=by
 unfold kL at h|-;split at h
 .rename_i a
  rw[yAb a];simp only[An,Is]at a;obtain⟨⟨b,r⟩,B⟩:=a;obtain⟨l,s,y,d0,Il⟩:=rH b;refine⟨?_,by simp;omega,l.symm⟩;rw[gJ];intro k x u v c e f;simp only[List.getElem?_zipWith,e,f,Z9]at c;have j:=rO Il;have z:jT u:=vC s u (In e);have A:jT v:=vC y v (In f);rw[Eg r (by omega) z A]at c;subst c;exact O3 (lU _) o h1 g
 .cases h
def Fo(s:Sce)(p q:List Int):Prop:=∃(D:Nat)(L:List (Int×Int)),O4 D L/\∀y∈L,(kL p q y.1 y.2).2=true/\∃ns,dg s (kL p q y.1 y.2).1 ns=true
theorem O6{U:List Bool}(P:jO t p U)(F:jK s t p q U=true)(O:aQ w 0=p)(h1:aQ w (w.length-1)=q)(Q:2<=w.length)(n:w.length<=1024)(e:∀x∈w,bb s.js s.ms x=true)
 (l:∀m,m+1<w.length->Fo s (aQ w m) (aQ w (m+1))):False:=by
 simp only[jK,om,An,Is]at F;obtain⟨⟨⟨⟨hc,z⟩,g⟩,R⟩,b⟩:=F;rw[ym,Is]at g;have B:=(ba.1 (bP z)).2.2.2.2
 have u:gB t w=true:=by
  simp only[gB,z,yAs,An,Is];refine⟨⟨Q,n⟩,bE.2 λx j=>?_⟩;have:=Dj (by rw[<-g];exact B) (e x j);rw[g];exact this
 obtain⟨r,i⟩:=Eo P R u O h1;obtain⟨W,H,X,A,_,Y,_,_⟩:=B6 i;obtain⟨D,L,k,hL⟩:=l r.1 W;obtain⟨y,T,y0,y1,y2,y3,y4,y5⟩:=TH k A;obtain⟨K,ns,C⟩:=hL y T;obtain⟨M,N,g3⟩:=O5 K A.pos y4 y5
 have S:∀x∈w,x.length=t.root.length:=λx j=>by
  have:=Dj (by rw[<-g];exact B) (e x j);rw[<-g]at this;exact((dU B).1 this).1.symm
 have v:aQ w r.1∈w:=by
  have o:r.1<w.length:=by omega
  simp only[aQ,an o,yAl];exact yAq _
 obtain⟨I,J⟩:=(dF z (c:=(r.2.2:Int)) (by simpa using H)).2
 have a:iU s t r.2.2=true:=by
  rw[kx,IV]at b;have:=b r.2.2 (yAJ.2 H);rw[X]at this;simpa using this
 have f:=C;simp only[dg,An]at f;have d:=f.1;simp only[dr,An,iw,Is]at d
 have vp:au vI (kL (aQ w r.1) (aQ w (r.1+1)) y.1 y.2).1=true:=by
  have E:=d.2.2;rw[bE];intro x j;rw[au,IV]at E;exact E x j
 obtain⟨Z,s2⟩:=Rh vp J N (by rw[I,S _ v]) g3 A.pos M Y;have G:=G9 Z C;unfold iU at a;split at a
 .have V:=Ha s2 a
  rw[H2 V]at G;cases G
 .cases a
abbrev Pc:=Int×Int×List Vc
structure EdR where
 kind:Int
 pcs:List Pc
 d:Int
 i:Int
 w:Wit
variable {out todo:List Pc}
def MH:EdR:=⟨0,[],0,0,⟨0,[],[]⟩⟩
def fI(p q:List Int)(x:Pc):Bx:=(cX p q x.1 x.2.1).1
def mj(s:Sce)(p q:List Int)(D:Int):Nat->List Pc->List Pc->EdR
 |0,_,_=>MH
 |f+1,todo,out=>match todo.getLast? with
  |none=>⟨1,out,0,0,⟨0,[],[]⟩⟩
  |some x=>if 4096<=out.length then⟨0,[],x.1,x.2.1,⟨0,[],[]⟩⟩else
   if(eD s (fI p q x) x.2.2).kind=1 then mj s p q D f todo.dropLast (out++[(x.1,x.2.1,(eD s (fI p q x) x.2.2).ns)])else
   if(eD s (fI p q x) x.2.2).kind=2 then⟨2,[],x.1,x.2.1,(eD s (fI p q x) x.2.2).w⟩else
   if x.1=D then⟨0,[],x.1,x.2.1,⟨0,[],[]⟩⟩else
   mj s p q D f (todo.dropLast++[(x.1+1,2*x.2.1+1,(eD s (fI p q x) x.2.2).ns),(x.1+1,2*x.2.1,(eD s (fI p q x) x.2.2).ns)]) out
def TJ(s:Sce)(p q:List Int):Bool:=decide (az s=0)&&bb s.js s.ms p&&bb s.js s.ms q
def qb(s:Sce)(p q:List Int)(D:Nat):EdR:=if TJ s p q&&decide (D<=20)then mj s p q D (2^(D+1)) [(0,0,[])] []else MH
def DV(D:Nat)(x:Pc):Prop:=0<=x.1/\x.1<=D/\0<=x.2.1/\x.2.1<2^x.1.toNat/\x.2.2.length<=576
def Je(D:Nat)(x:Pc):Nat:=2^(D+1-x.1.toNat)-1
def oN(D:Nat)(l:List Pc):Nat:=(l.map (Je D)).sum
structure PrI(s:Sce)(p q:List Int)(D:Nat)(todo out:List Pc):Prop where
 t:∀x∈todo,DV D x
 o:∀x∈out,DV D x/\dg s (fI p q x) x.2.2=true
 cov:O4 D ((todo++out).map λx=>(x.1,x.2.1))
theorem HD(D:Nat)(a b:List Pc):oN D (a++b)=oN D a+oN D b:=by simp[oN]
theorem MI{x:Pc}(h:DV D x):1<=Je D x:=by
 unfold Je;obtain⟨a,b,_⟩:=h;have:2^1<=2^(D+1-x.1.toNat):=Nat.pow_le_pow_right (by decide) (by omega);omega
theorem qT{l:List Pc}{x:Pc}(h:l.getLast?=some x):l=l.dropLast++[x]:=by
 obtain⟨a,b⟩:=List.getLast?_eq_some_iff.1 h;subst b;simp
theorem O7{k:Int}(i:0<=y0)(j:y0<D)(a:y1*2^(D-y0.toNat)<=k)(b:k+1<=(y1+1)*2^(D-y0.toNat)):(2*y1*2^(D-(y0+1).toNat)<=k/\k+1<=(2*y1+1)*2^(D-(y0+1).toNat))\/((2*y1+1)*2^(D-(y0+1).toNat)<=k/\k+1<=(2*y1+1+1)*2^(D-(y0+1).toNat)):=by
 have e:D-y0.toNat=(D-(y0+1).toNat)+1:=by omega
 rw[e,Int.pow_succ]at a b;generalize(2:Int)^(D-(y0+1).toNat)=P at *
 have c:y1*(P*2)=2*y1*P:=by rw[Int.mul_comm P 2,<-Int.mul_assoc,Int.mul_comm y1 2]
 have d:(y1+1)*(P*2)=2*y1*P+2*P:=by rw[Int.add_mul,c];omega
 rw[c]at a;rw[d]at b
 have f:(2*y1+1)*P=2*y1*P+P:=by rw[Int.add_mul];omega
 have g:(2*y1+1+1)*P=2*y1*P+2*P:=by rw[Int.add_mul,f];omega
 omega
theorem PrI.keep{x:Pc}(h:PrI s p q D todo out)(i:todo.getLast?=some x){ns:List Vc}(hn:ns.length<=576)(hs:dg s (fI p q x) ns=true):PrI s p q D todo.dropLast (out++[(x.1,x.2.1,ns)]):=by
 have e:=qT i
 have g:x∈todo:=by rw[e];simp
 refine⟨λy f=>h.t y (by rw[e];simp[f]),λy f=>?_,λk j l=>?_⟩
 .rcases yAk.1 f with f|f
  .exact h.o y f
  .simp at f;subst f
   obtain⟨a,b,c,d,_⟩:=h.t x g;exact⟨⟨a,b,c,d,hn⟩,hs⟩
 .obtain⟨y,f,r⟩:=h.cov k j l
  refine⟨y,?_,r⟩;rw[e]at f;simp only[yBS,yAk,yBa,yCg,yAE]at f|-;rcases f with(f|f)|f
  .exact .inl f
  .exact .inr (.inr f)
  .exact .inr (.inl f)
theorem PrI.split{x:Pc}(h:PrI s p q D todo out)(z:todo.getLast?=some x){ns:List Vc}(hn:ns.length<=576)(hd:x.1≠D):PrI s p q D (todo.dropLast++[(x.1+1,2*x.2.1+1,ns),(x.1+1,2*x.2.1,ns)]) out:=by
 have e:=qT z
 have l:x∈todo:=by rw[e];simp
 obtain⟨a,b,c,d,_⟩:=h.t x l
 have hp:(2:Int)^(x.1+1).toNat=2*2^x.1.toNat:=by rw[show(x.1+1).toNat=x.1.toNat+1 by omega,Int.pow_succ];omega
 refine⟨λy f=>?_,h.o,λk A B=>?_⟩
 .rcases yAk.1 f with f|f
  .exact h.t y (by rw[e];simp[f])
  .simp at f
   rcases f with rfl|rfl
   all_goals exact⟨by simp only;omega,by simp only;omega,by simp only;omega,by simp only;omega,hn⟩
 .obtain⟨y,f,g,m,n,r,i,j⟩:=h.cov k A B
  rw[e]at f;simp only[yBS,yAk,yBa,yCg,yAE]at f;rcases f with(f|f)|f
  .exact⟨y,by simp only[yBS,yAk];exact .inl (.inl f),g,m,n,r,i,j⟩
  .subst f
   simp only at g m n r i j;rcases O7 g (by omega) i j with⟨u,v⟩|⟨u,v⟩
   .exact⟨(x.1+1,2*x.2.1),by simp,by simp only;omega,by simp only;omega,by simp only;omega,by simp only;omega,u,v⟩
   .exact⟨(x.1+1,2*x.2.1+1),by simp,by simp only;omega,by simp only;omega,by simp only;omega,by simp only;omega,u,v⟩
  .exact⟨y,by simp only[yBS,yAk];exact .inr f,g,m,n,r,i,j⟩
theorem Ri{x:Pc}(a:todo.getLast?=some x)(h:DV D x):oN D todo.dropLast+1<=oN D todo:=by
 have e:=qT a;have:=MI h;rw[e,HD];simp[oN];omega
theorem O8{x:Pc}(f:todo.getLast?=some x)(h:DV D x)(hd:x.1≠D)(a b:Int)(ns c:List Vc):oN D (todo.dropLast++[(x.1+1,a,ns),(x.1+1,b,c)])+1<=oN D todo:=by
 have e:=qT f;obtain⟨g,i,_⟩:=h
 have k:oN D todo=oN D todo.dropLast+Je D x:=by
  conv=>lhs;rw[e,HD]
  simp[oN]
 rw[k,HD]
 have d:D+1-x.1.toNat=(D+1-(x.1+1).toNat)+1:=by omega
 have hp:2^1<=2^(D+1-(x.1+1).toNat):=Nat.pow_le_pow_right (by decide) (by omega);simp only[oN,Je,yBa,yCg,List.sum_cons,List.sum_nil];rw[d,yCf];omega
theorem EX{hs:List Vc}(h:(eD s b hs).kind=1):dg s b (eD s b hs).ns=true:=by
 rcases DH s b hs with⟨w,a,c⟩|⟨ns,a,c⟩|⟨ns,a,c⟩
 .rw[a]at h;cases h
 .rw[a];exact c
 .rw[a]at h;cases h
theorem A6{s:Sce}{p q:List Int}{D:Nat}:∀(f:Nat)(todo a:List Pc),PrI s p q D todo a->(mj s p q D f todo a).kind=1->PrI s p q D [] (mj s p q D f todo a).pcs
 |0,todo,a,_,h=>by simp[mj,MH]at h
 |f+1,todo,a,i,h=>by
  cases d:todo.getLast? with
  |none=>
   have k:todo=[]:=by simpa using d
   subst k;simp only[mj,List.getLast?_nil];exact i
  |some x=>
   simp only[mj,d]at h|-;have j:=(rU s (fI p q x) x.2.2).1;split
   .rename_i e;rw[yAb e]at h;cases h
   .rename_i e
    rw[L4 e]at h;split
    .rename_i b
     rw[yAb b]at h;exact A6 f _ _ (i.keep d j (EX b)) h
    .rename_i b
     rw[L4 b]at h;split
     .rename_i g;rw[yAb g]at h;cases h
     .rename_i g
      rw[L4 g]at h;split
      .rename_i c;rw[yAb c]at h;cases h
      .rename_i c
       rw[L4 c]at h;exact A6 f _ _ (i.split d j c) h
theorem P5(s:Sce)(p q:List Int)(D:Nat):PrI s p q D [(0,0,[])] []:=by
 refine⟨λx a=>?_,λx a=>(by cases a),λk b c=>⟨(0,0),by simp,by decide,by simp only;omega,by decide,by decide,by simpa using b,?_⟩⟩
 .simp at a;subst a
  exact⟨by decide,by simp only;omega,by decide,by decide,by simp⟩
 .simp;omega
theorem O9(h:(qb s p q D).kind=1):PrI s p q D [] (qb s p q D).pcs:=by
 unfold qb at h|-;split
 .rename_i a
  rw[yAb a]at h;exact A6 _ _ _ (P5 s p q D) h
 .rename_i a;rw[L4 a]at h;cases h
theorem DW{s:Sce}{p q:List Int}{D:Int}:∀(f:Nat)(todo c:List Pc),c.length<=4096->(∀x∈c,x.2.2.length<=576)->(mj s p q D f todo c).pcs.length<=4096/\(∀x∈(mj s p q D f todo c).pcs,x.2.2.length<=576)/\(mj s p q D f todo c).w.a.length<=8/\(mj s p q D f todo c).w.b.length<=8
 |0,todo,c,_,_=>by simp[mj,MH]
 |f+1,todo,c,h,g=>by
  cases i:todo.getLast? with
  |none=>simp only[mj,i];exact⟨h,g,by simp,by simp⟩
  |some x=>
   simp only[mj,i];have e:=rU s (fI p q x) x.2.2;split
   .simp
   .split
    .refine DW f _ _ (by simp;omega) λy d=>?_
     rcases yAk.1 d with d|d
     .exact g y d
     .simp at d;subst d;exact e.1
    .split
     .exact⟨by simp,by simp,e.2.1,e.2.2⟩
     .split
      .simp
      .exact DW f _ _ h g
theorem Rj(s:Sce)(p q:List Int)(D:Nat):(qb s p q D).pcs.length<=4096/\(∀x∈(qb s p q D).pcs,x.2.2.length<=576)/\(qb s p q D).w.a.length<=8/\(qb s p q D).w.b.length<=8:=by
 unfold qb;split
 .exact DW _ _ _ (by simp) (by simp)
 .simp[MH]
theorem Pa(h:(qb s p q D).kind=1):Fo s p q:=by
 have d:=O9 h;refine⟨D,_,by simpa using d.cov,λy j=>?_⟩;obtain⟨x,i,rfl⟩:=yAt.1 j;obtain⟨k,a⟩:=d.o x i;have b:=a;simp only[dg,dr,iw,An,Is]at b;rw[fI,xn]at a;refine⟨?_,_,a⟩
 cases c:(kL p q x.1 x.2.1).2 with
 |true=>rfl
 |false=>
  have g:(kL p q x.1 x.2.1).1=[]:=by
   unfold kL at c|-;split at c
   .cases c
   .rename_i f;rw[L4 f]
  have e:=b.1.2.1;rw[fI,xn,g]at e;have l:=mn (kA b.1.1);simp at e;omega
abbrev eg(x:Pc):PV:=.agg [Z x.1,Z x.2.1,bA x.2.2]
theorem WP.freezeB{C:Cx}{c:Code}{Q:Exit->St->Prop}{st:St}(l j:Nat){e sz fz:Nat}{xs:List PV}{cs:List AV}{own m:Bool}(s:st.h l=some (.box cs own m))(I:cs[j]?=some (.arr k xs.length))(v:st.h k=some (.row e sz xs fz))
 (h:WP C c Q ⟨st.t,aH (aH st.h k (some (.row e sz xs xs.length))) l (some (.box (cs.set j (.pv (.sl xs))) own m))⟩):WP C c Q st:=by
 intro a w M;obtain⟨L,A,hN,z,D⟩:=M;obtain⟨f,G⟩:=u7 A v
 have B:l≠k:=by intro e;subst e;rw[s]at v;cases v
 have q:(aH st.h k (some (.row e sz xs xs.length))) l=some (.box cs own m):=by rw[bu B];exact s
 have N:∀u,RepA w (ak C L st.h) L st.h (.arr k xs.length) u->u=(L k).slice xs.length:=λu g=>by
  cases g with
  |arr b K g=>
   rw[v]at b;injection b with b;injection b with _ _ a3 _;subst a3;exact g rfl
 have y:=A.bl l _ s;obtain⟨arr,ty,H,J,F⟩:=y;have r:=A.own l _ s;have d:=MemL.touch_pk (w':=w) f.1 (blk':=.box (cs.set j (.pv (.sl xs))) own m) q (λ_ _ _=>rfl) (λ_ _ _ _ h=>h) (λo h=>h) rfl yBi;have x:=MemL.touch (w':=w) f.1 (blk':=.box (cs.set j (.pv (.sl xs))) own m) q (λ_ _ _=>rfl) (yAd _) rfl rfl rfl (λ_ _ _ _ h=>h) (λo h=>h) rfl yBi (by cases own<;>exact r) ⟨arr,ty,H,by simpa using J,λi p u hp g=>?_⟩
 .refine h a w ⟨L,x.1,hN,z,λn=>?_⟩
  exact((D n).mono f.2.1 f.2.2).mono x.2.1 x.2.2
 .rw[yAe]at hp
  by_cases E:j=i
  .subst E
   rw[yAb rfl]at hp;split at hp
   .injection hp with hp;subst hp
    have:=N u (F j _ u I g);subst this;exact(RepA.pv G).mono d.1 d.2
   .cases hp
  .rw[L4 E]at hp
   exact((F i p u hp g).mono f.2.1 f.2.2).mono d.1 d.2
def KA(x y:AV)(g:Option bF):Option bF:=match tm x,tm y with
 |some (a,b,e),some (c,d,f)=>some (.pv (.val (.bool (a==c&&b==d&&e==f))),[])
 |_,_=>g
@[simp] theorem YL{g:Option (Nat×Bool)}(x y:Operand):
 bf prog ⟨dst,.binOp .eql 84 x y 84,ty,pos,aft,g⟩ ρ=KA (ρ x) (ρ y) (gk prog ⟨dst,.binOp .eql 84 x y 84,ty,pos,aft,g⟩ ρ):=by
 unfold KA;split
 .rename_i a b e c d f i j
  exact qI rfl (mD i) (mD j) (by kernel_rfl) (Kp a b e c d f)
 .rfl
@[simp] theorem UJ(a b e c d f:Int)(g:Option bF):KA (.pv (.val (.agg #[.int .i64 a,.int .i64 b,.int .i64 e]))) (.pv (.val (.agg #[.int .i64 c,.int .i64 d,.int .i64 f]))) g=some (.pv (.val (.bool (a==c&&b==d&&e==f))),[]):=rfl
def Pe(x:AV)(a:Option bF):Option bF:=match x with
 |.pv (.val (.slice none 0 0))=>some (.pv (Z 0),[])
 |_=>a
@[simp] theorem Yq(a:Option bF):Pe (.pv (.val (.slice none 0 0))) a=some (.pv (Z 0),[]):=rfl
@[simp] theorem YM{g:Option (Nat×Bool)}(x:Operand):
 bf prog ⟨dst,.call ⟨.builtin .len,#[x],#[74]⟩,ty,pos,aft,g⟩ ρ=Pe (ρ x) (gk prog ⟨dst,.call ⟨.builtin .len,#[x],#[74]⟩,ty,pos,aft,g⟩ ρ):=by
 unfold Pe;split
 .rename_i a
  refine dq (by simp[Op.operands,a,dV]) ?_;unfold execOp;have d:pB (ρ x)=.slice none 0 0:=(bg a).2
  have c:∀b:Bool,aj prog (builtin Builtin.len #[74] ty #[b] #[Value.slice none 0 0])=some (Next.value (Value.int i64 0)):=by
   intro b;simp only[builtin]
   kernel_rfl
  simp[resolve,d,invoke,ae,c]
 .rfl
def yr(tb:List Vc)(n:Vc):Int:=match tb.findIdx? (λv=>v==n)with
 |some i=>(i:Int)
 |none=>-1
theorem TY(a b:Vc):(a==b)=(a.1==b.1&&a.2.1==b.2.1&&a.2.2==b.2.2):=by
 obtain⟨c,d,e⟩:=a;obtain⟨f,g,i⟩:=b;rw[Bool.eq_iff_iff];simp[and_assoc]
def Jj(tb:List Vc)(n:Vc)(i:Nat):Prop:=∀k w,k<i->tb[k]?=some w->(w==n)=false
theorem Pf(tb:List Vc)(n:Vc):Jj tb n 0:=λk w h=>by omega
theorem Pg{n v:Vc}(h:Jj tb n i)(c:tb[i]?=some v)(b:(v==n)=false):Jj tb n (i+1):=λk w d a=>by
 by_cases e:k=i
 .subst e;rw[c]at a;injection a with a;rw[<-a];exact b
 .exact h k w (by omega) a
theorem UK{n v:Vc}(h:Jj tb n i)(d:tb[i]?=some v)(c:(v==n)=true):yr tb n=(i:Int):=by
 have:tb.findIdx? (λv=>v==n)=some i:=by
  rw[yBY];obtain⟨hi,a⟩:=th.1 d;refine⟨hi,by rw[a];exact c,λj b=>?_⟩;have:=h j _ b (an (by omega));simp[this]
 unfold yr;rw[this]
theorem UL{n:Vc}(h:Jj tb n tb.length):yr tb n=-1:=by
 have:tb.findIdx? (λv=>v==n)=none:=by
  rw[List.findIdx?_eq_none_iff];intro x a;obtain⟨i,hi,rfl⟩:=List.getElem_of_mem a;exact h i _ hi (an hi)
 unfold yr;rw[this]
theorem P6{n:Vc}(h:¬yr tb n<0):tb≠[]:=by
 intro e;subst e;simp[yr]at h
theorem Yr(tb:List Vc)(n:Vc)(x:tb.length<=9223372036854775807):aL 198 (bA tb) (aW n) (Z (yr tb n)):=by
 obtain⟨q,r,s⟩:=n;refine Dp func198 λC hP hN=>?_
 with_reducible repeat' (first|refine Sp.h ?_|((first|refine Wd ?_|refine Ss.h ?_|(refine Sb.h ?_ ?_ ?_<;>(try intro hgd)<;>try exact Xy))<;>simp -implicitDefEqProofs (maxSteps:=2000000) [hP,hN]<;>try refine Ya ?_)|refine X2 ?_ ?_|(refine Xd ?_ ?_<;>intro hcd<;>try exact Xx))
 refine WP.loopN [] tb.length (λi d=>d.t 0=.pv (bA tb)/\d.t 3=.ptr 3 0/\d.h 3=some (.box [.pv (Z q),.pv (Z r),.pv (Z s)] true false)/\d.t 5=.pv (Z i)/\Jj tb (q,r,s) i) (by simp[Pf]) ?_;rintro i d hi ⟨j,g3,g,k,hq⟩;by_cases a:i<tb.length
 .have u:=ai a x
  have f:tb[i]?=some tb[i]:=an a;have o:=λh=>UK hq f h;have b:=λh=>Pg hq f h;rw[TY]at o b;generalize c:tb[i]=v at *;obtain⟨y,z,A⟩:=v;simp only at o b
  cases e:(y==q&&z==r&&A==s)with
  |true=>
   have p:=o e
   with_reducible repeat' (first|refine Sp.h ?_|((first|refine Wd ?_|refine Ss.h ?_|(refine Sb.h ?_ ?_ ?_<;>(try intro hgd)<;>try exact Xy))<;>simp -implicitDefEqProofs (maxSteps:=2000000) [hP,hN,j,g3,g,k,a,u,f,c,e,p]<;>try refine Ya ?_)|refine X2 ?_ ?_|(refine Xd ?_ ?_<;>intro hcd<;>try exact Xx))
  |false=>
   have m:=b e
   with_reducible repeat' (first|refine Sp.h ?_|((first|refine Wd ?_|refine Ss.h ?_|(refine Sb.h ?_ ?_ ?_<;>(try intro hgd)<;>try exact Xy))<;>simp -implicitDefEqProofs (maxSteps:=2000000) [hP,hN,j,g3,g,k,a,u,f,c,e]<;>try refine Ya ?_)|refine X2 ?_ ?_|(refine Xd ?_ ?_<;>intro hcd<;>try exact Xx))
   all_goals exact m
 .have l:i=tb.length:=by omega
  subst l;have b:=UL hq
  with_reducible repeat' (first|refine Sp.h ?_|((first|refine Wd ?_|refine Ss.h ?_|(refine Sb.h ?_ ?_ ?_<;>(try intro hgd)<;>try exact Xy))<;>simp -implicitDefEqProofs (maxSteps:=2000000) [hP,hN,j,g3,g,k,b]<;>try refine Ya ?_)|refine X2 ?_ ?_|(refine Xd ?_ ?_<;>intro hcd<;>try exact Xx))
def wE(tb:List Vc)(n:Vc):List Vc×Int:=if yr tb n<0 then(tb++[n],(tb.length:Int))else(tb,yr tb n)
def nU(tb:List Vc)(ns:List Vc):List Vc×List Int:=ns.foldl (λs n=>((wE s.1 n).1,s.2++[(wE s.1 n).2])) (tb,[])
theorem yt{v:α}(h:l[k]?=some v):l.take (k+1)=l.take k++[v]:=by
 obtain⟨b,a⟩:=th.1 h;rw[yAP b,a]
theorem Ba{ns:List Vc}{v:Vc}(h:ns[k]?=some v):nU tb (ns.take (k+1))=((wE (nU tb (ns.take k)).1 v).1,(nU tb (ns.take k)).2++[(wE (nU tb (ns.take k)).1 v).2]):=by
 rw[yt h,nU,yB1];rfl
theorem Ro(tb:List Vc)(n:Vc):tb.length<=(wE tb n).1.length/\(wE tb n).1.length<=tb.length+1:=by
 unfold wE;split<;>simp
theorem DX(tb ns:List Vc):∀k,k<=ns.length->(nU tb (ns.take k)).2.length=k/\tb.length<=(nU tb (ns.take k)).1.length/\(nU tb (ns.take k)).1.length<=tb.length+k
 |0,_=>by simp[nU]
 |k+1,h=>by
  obtain⟨a,b,c⟩:=DX tb ns k (by omega);have f:ns[k]?=some ns[k]:=an (by omega);obtain⟨d,e⟩:=Ro (nU tb (ns.take k)).1 ns[k];rw[Ba f];refine⟨by simp[a],by simp only;omega,by simp only;omega⟩
abbrev P7(x:Pc)(a:List Int):PV:=.agg [Z x.1,Z x.2.1,zs a]
def qc(l:List Pc):List Vc×List PV:=l.foldl (λs x=>((nU s.1 x.2.2).1,s.2++[P7 x (nU s.1 x.2.2).2])) ([],[])
theorem HF{l:List Pc}{x:Pc}(h:l[i]?=some x):qc (l.take (i+1))=((nU (qc (l.take i)).1 x.2.2).1,(qc (l.take i)).2++[P7 x (nU (qc (l.take i)).1 x.2.2).2]):=by
 rw[yt h,qc,yB1];rfl
theorem Jk{M:Nat}{l:List Pc}(d:∀x∈l,x.2.2.length<=M):∀i,i<=l.length->(qc (l.take i)).2.length=i/\(qc (l.take i)).1.length<=M*i
 |0,_=>by simp[qc]
 |i+1,h=>by
  obtain⟨a,b⟩:=Jk d i (by omega);have e:l[i]?=some l[i]:=an (by omega);have f:=d _ (yAq (show i<l.length by omega));obtain⟨_,_,c⟩:=DX (qc (l.take i)).1 l[i].2.2 l[i].2.2.length (yAd _);rw[yBP]at c;rw[HF e];refine⟨by simp[a],?_⟩;simp only;rw[Nat.mul_succ];omega
abbrev HG(l:List Pc):PV:=.agg [bA (qc l).1,.sl (qc l).2]
def qC(k e sz:Nat)(xs:List PV)(v:AV)(h:Hp):Prop:=(xs=[]/\v=.pv (.val (.slice none 0 0))/\h k=none)\/(xs≠[]/\v=.arr k xs.length/\h k=some (.row e sz xs 0))
theorem TZ{ns:List Vc}(c:k<=ns.length)(h:0<k):(nU tb (ns.take k)).1≠[]:=by
 intro e;obtain⟨k,rfl⟩:∃m,k=m+1:=⟨k-1,by omega⟩;have b:ns[k]?=some ns[k]:=an (by omega);rw[Ba b]at e;simp only[wE]at e;split at e
 .simp at e
 .rename_i a;exact P6 a e
theorem Ys(l:List Pc)(hl:l.length<=4096)(hn:∀x∈l,x.2.2.length<=576):aV 122 (.sl (l.map eg)) (HG l):=by
 have H:=λi hi=>Jk hn i hi
 have I:qc (l.take l.length)=qc l:=by rw[yBP]
 refine Dp func122 λC hP hN=>?_
 with_reducible repeat' (first|refine Sp.h ?_|((first|refine Wd ?_|refine Ss.h ?_|(refine Sb.h ?_ ?_ ?_<;>(try intro hgd)<;>try exact Xy))<;>simp -implicitDefEqProofs (maxSteps:=2000000) [hP,hN]<;>try refine Ya ?_)|refine X2 ?_ ?_|(refine Xd ?_ ?_<;>intro hcd<;>try exact Xx))
 refine WP.loopN [5,68] l.length (λi c=>∃G S:AV,c.t 0=.pv (.sl (l.map eg))/\c.t 2=.ptr 2 0/\c.h 2=some (.box [.pv (.val (.slice none 0 0)),.pv (.val (.slice none 0 0))] true false)/\c.t 3=.ptr 3 0/\c.h 3=some (.box [G,S] true false)/\c.t 4=.pv (Z i)/\qC 62 84 3 ((qc (l.take i)).1.map aW) G c.h/\qC 74 268 3 (qc (l.take i)).2 S c.h/\c.h 5=none/\c.h 68=none) ?_ ?_
 .simp[qC,qc]
 rintro i c hi ⟨G,S,A,B,y,g3,z,D,n,hU,E,b⟩;by_cases f:i<l.length
 case neg=>
  have a1:i=l.length:=by omega
  subst a1;rw[I]at n hU;rcases n with⟨g,rfl,a⟩|⟨g,rfl,a⟩<;>rcases hU with⟨m,rfl,W⟩|⟨m,rfl,W⟩
  all_goals
   with_reducible repeat' (first|refine Sp.h ?_|((first|refine Wd ?_|refine Ss.h ?_|(refine Sb.h ?_ ?_ ?_<;>(try intro hgd)<;>try exact Xy))<;>simp -implicitDefEqProofs (maxSteps:=2000000) [hP,hN,A,B,y,g3,z,D,a,W,g,m]<;>try refine Ya ?_)|refine X2 ?_ ?_|(refine Xd ?_ ?_<;>intro hcd<;>try exact Xx))
 have P:l[i]?=some l[i]:=an f;have hw:=ai f (by omega);have ay:=hn _ (yAq f);obtain⟨u1,u2⟩:=H i (by omega);have F:=HF P;clear H hn I;generalize s:l[i]=x at *;obtain⟨d,ix,ns⟩:=x;simp only at ay F;generalize qc (l.take i)=PL at *;obtain⟨tb,V⟩:=PL;simp only at n hU u1 u2 F;have hF:=DX tb ns;generalize p:c.h 74=X at *
 have o:(V=[]/\S=.pv (.val (.slice none 0 0))/\X=none)\/(V≠[]/\S=.arr 74 V.length/\X=some (.row 268 3 V 0)):=by rw[<-p];exact hU
 clear hU
 with_reducible repeat' (first|refine Sp.h ?_|((first|refine Wd ?_|refine Ss.h ?_|(refine Sb.h ?_ ?_ ?_<;>(try intro hgd)<;>try exact Xy))<;>simp -implicitDefEqProofs (maxSteps:=2000000) [hP,hN,A,B,y,g3,z,D,p,E,b,f,P,s]<;>try refine Ya ?_)|refine X2 ?_ ?_|(refine Xd ?_ ?_<;>intro hcd<;>try exact Xx))
 refine WP.loopN [] ns.length (λk c=>∃G Nv:AV,c.t 0=.pv (.sl (l.map eg))/\c.t 2=.ptr 2 0/\c.h 2=some (.box [.pv (.val (.slice none 0 0)),.pv (.val (.slice none 0 0))] true false)/\c.t 3=.ptr 3 0/\c.h 3=some (.box [G,S] true false)/\c.t 4=.pv (Z i)/\c.t 5=.ptr 5 0/\c.h 5=some (.box [.pv (Z d),.pv (Z ix),Nv] true false)/\c.t 6=.pv (Z k)/\c.h 74=X/\qC 62 84 3 ((nU tb (ns.take k)).1.map aW) G c.h/\qC 68 3 1 ((nU tb (ns.take k)).2.map Z) Nv c.h) ?_ ?_
 .refine⟨G,.pv (.val (.slice none 0 0)),?_⟩
  rcases o with⟨-,rfl,rfl⟩|⟨-,rfl,rfl⟩<;>rcases n with⟨g,rfl,a⟩|⟨g,rfl,a⟩<;>simp at g<;>simp[A,B,y,g3,z,D,p,a,b,qC,nU,g]
 clear A B y g3 z D p E b n;rintro k c hk ⟨G,Nv,A,B,y,g3,z,D,Y,E,g6,p,n,J⟩;obtain⟨f1,f2,f3⟩:=hF k hk;have K:=λh=>TZ (tb:=tb) hk h;by_cases j:k<ns.length
 .have O:=ai j (by omega)
  have hy:ns[k]?=some ns[k]:=an j;have ad:=Ba (tb:=tb) hy;generalize R:ns[k]=v at *;generalize nU tb (ns.take k)=Q at *;obtain⟨T,M⟩:=Q;simp only at n J f1 f2 f3 ad;have cn:=Yr T v (by omega);rw[ad];simp only
  have q:(k+1)*8<=140737488355328:=by omega
  have r:(T.length+1)*24<=140737488355328:=by omega
  have L:k+1<=9223372036854775807:=by omega
  have N:T.length+1<=9223372036854775807:=by omega
  have a5:M=[]->k=0:=λe=>by subst e;simpa using f1.symm
  by_cases U:yr T v<0
  .have hp:wE T v=(T++[v],(T.length:Int)):=by unfold wE;rw[yAb U]
   rw[hp];simp only;rcases n with⟨g,rfl,a⟩|⟨g,rfl,a⟩
   .have u:T=[]:=by simpa using g
    have a6:k=0:=by
     by_cases h:0<k
     .exact absurd u (K h)
     .omega
    subst u;have ax:M=[]:=yAA (by omega);subst ax;rcases J with⟨m,rfl,b⟩|⟨m,rfl,b⟩
    .skip
     with_reducible repeat' (first|refine Sp.h ?_|((first|refine Wd ?_|refine Ss.h ?_|refine Sc.h (cn) ?_|(refine Sb.h ?_ ?_ ?_<;>(try intro hgd)<;>try exact Xy))<;>simp -implicitDefEqProofs (maxSteps:=2000000) [hP,hN,A,B,y,g3,z,D,Y,E,g6,p,a,b,f,P,s,j,O,hy,R,U,q,r,L,N]<;>try refine Ya ?_)|refine X2 ?_ ?_|(refine Xd ?_ ?_<;>intro hcd<;>try exact Xx))
     all_goals (rcases o with⟨-,rfl,rfl⟩|⟨-,rfl,rfl⟩<;>simp[qC,p,a,b]<;>first|simpa using m|omega)
    .simp at m
   .rcases J with⟨m,rfl,b⟩|⟨m,rfl,b⟩
    all_goals
     with_reducible repeat' (first|refine Sp.h ?_|((first|refine Wd ?_|refine Ss.h ?_|refine Sc.h (cn) ?_|(refine Sb.h ?_ ?_ ?_<;>(try intro hgd)<;>try exact Xy))<;>simp -implicitDefEqProofs (maxSteps:=2000000) [hP,hN,A,B,y,g3,z,D,Y,E,g6,p,a,b,f,P,s,j,O,hy,R,U,q,r,L,N,f1]<;>try refine Ya ?_)|refine X2 ?_ ?_|(refine Xd ?_ ?_<;>intro hcd<;>try exact Xx))
    all_goals (rcases o with⟨-,rfl,rfl⟩|⟨-,rfl,rfl⟩<;>simp[qC,p,a,b]<;>first|simpa using m|omega)
  .have hp:wE T v=(T,yr T v):=by unfold wE;rw[L4 U]
   rw[hp];simp only;have u:=P6 U;rcases n with⟨g,rfl,a⟩|⟨g,rfl,a⟩
   .simp[u]at g
   rcases J with⟨m,rfl,b⟩|⟨m,rfl,b⟩
   all_goals
    with_reducible repeat' (first|refine Sp.h ?_|((first|refine Wd ?_|refine Ss.h ?_|refine Sc.h (cn) ?_|(refine Sb.h ?_ ?_ ?_<;>(try intro hgd)<;>try exact Xy))<;>simp -implicitDefEqProofs (maxSteps:=2000000) [hP,hN,A,B,y,g3,z,D,Y,E,g6,p,a,b,f,P,s,j,O,hy,R,U,q,r,L,N,f1]<;>try refine Ya ?_)|refine X2 ?_ ?_|(refine Xd ?_ ?_<;>intro hcd<;>try exact Xx))
   all_goals (rcases o with⟨-,rfl,rfl⟩|⟨-,rfl,rfl⟩<;>simp[qC,p,a,b,u]<;>first|simpa using m|omega)
 .have a2:k=ns.length:=by omega
  subst a2;rw[yBP]at n J f1 f2 f3 K;generalize nU tb ns=Q at *;obtain⟨T,M⟩:=Q;simp only at n J f1 f2 f3 K F;rw[F];simp only
  have q:(V.length+1)*40<=140737488355328:=by omega
  have r:V.length+1<=9223372036854775807:=by omega
  rcases J with⟨m,rfl,b⟩|⟨m,rfl,b⟩
  .rcases n with⟨g,rfl,a⟩|⟨g,rfl,a⟩<;>rcases o with⟨e3,rfl,rfl⟩|⟨e3,rfl,rfl⟩
   all_goals
    with_reducible repeat' (first|refine Sp.h ?_|((first|refine Wd ?_|refine Ss.h ?_|(refine Sb.h ?_ ?_ ?_<;>(try intro hgd)<;>try exact Xy))<;>simp -implicitDefEqProofs (maxSteps:=2000000) [hP,hN,A,B,y,g3,z,D,Y,E,g6,p,a,b,f,P,s,hw,j,q,r]<;>try refine Ya ?_)|refine X2 ?_ ?_|(refine Xd ?_ ?_<;>intro hcd<;>try exact Xx))
   all_goals simp_all[qC]
  .refine WP.freezeB 5 2 (k:=68) E (by simp) b ?_
   rcases n with⟨g,rfl,a⟩|⟨g,rfl,a⟩<;>rcases o with⟨e3,rfl,rfl⟩|⟨e3,rfl,rfl⟩
   all_goals
    with_reducible repeat' (first|refine Sp.h ?_|((first|refine Wd ?_|refine Ss.h ?_|(refine Sb.h ?_ ?_ ?_<;>(try intro hgd)<;>try exact Xy))<;>simp -implicitDefEqProofs (maxSteps:=2000000) [hP,hN,A,B,y,g3,z,D,Y,E,g6,p,a,b,f,P,s,hw,j,q,r]<;>try refine Ya ?_)|refine X2 ?_ ?_|(refine Xd ?_ ?_<;>intro hcd<;>try exact Xx))
   all_goals simp_all[qC]
def kJ(x:Pc):Prop:=0<=x.1/\x.1<=20/\0<=x.2.1/\x.2.1<2^x.1.toNat
instance(x:Pc):Decidable (kJ x):=by unfold kJ;infer_instance
def tw(x:Pc):Int×Int×Bool:=if kJ x then(x.2.1*2^(20-x.1).toNat,2^(20-x.1).toNat,true)else(0,0,false)
theorem Jg{x:Pc}(h:kJ x):0<=x.2.1*2^(20-x.1).toNat/\0<(2:Int)^(20-x.1).toNat/\x.2.1*2^(20-x.1).toNat+2^(20-x.1).toNat<=1048576:=by
 obtain⟨b,c,a,d⟩:=h;have hp:=lU (20-x.1).toNat
 have e:(2:Int)^x.1.toNat*2^(20-x.1).toNat=1048576:=by
  rw[<-Int.pow_add,show x.1.toNat+(20-x.1).toNat=20 by omega];decide
 have m:=Int.mul_le_mul_of_nonneg_right (show x.2.1+1<=2^x.1.toNat by omega) (Int.le_of_lt hp);rw[e,Int.add_mul,Int.one_mul]at m;exact⟨yA3 a (Int.le_of_lt hp),hp,m⟩
theorem Yk(x:Pc):aV 306 (eg x) (.tup [Z (tw x).1,Z (tw x).2.1,B (tw x).2.2]):=by
 by_cases e:kJ x
 .have q:=Jg e
  have hd:tw x=(x.2.1*2^(20-x.1).toNat,2^(20-x.1).toNat,true):=by unfold tw;rw[yAb e]
  rw[hd];obtain⟨d,i,ns⟩:=x;obtain⟨c,j,n,o⟩:=e;simp only at c j n o q|-
  have a:¬d<0:=by omega
  have b:¬20<d:=by omega
  have f:¬i<0:=by omega
  have g:¬2^d.toNat<=i:=by omega
  have m:IntKind.u64.wrap d=d:=by rw[IntKind.wrap_u64];omega
  have u:i64.wrap (20-d)=20-d:=aa
  have s:IntKind.u64.wrap (20-d)=20-d:=by rw[IntKind.wrap_u64];omega
  have v:i64.wrap (i*2^(20-d).toNat)=i*2^(20-d).toNat:=aa;have m1:=vt (k:=d) (by omega);have m2:=vt (k:=20-d) (by omega);have l:=uf c j;have r:=uf (d:=20-d) (by omega) (by omega);refine Dp func306 λC hP hN=>?_
  have p:0<=20-d:=by omega
  with_reducible repeat' (first|refine Sp.h ?_|((first|refine Ss.h ?_|(refine Sb.h ?_ ?_ ?_<;>(try intro hgd)<;>try exact Xy))<;>simp -implicitDefEqProofs (maxSteps:=2000000) [hP,hN,a,b,f,g,c,j,p,m,s,u,v,ue,m1,m2,l,r])|refine X2 ?_ ?_|(refine Xd ?_ ?_<;>intro hcd<;>try exact Xx))
 .have hd:tw x=(0,0,false):=by unfold tw;rw[L4 e]
  rw[hd];obtain⟨d,i,ns⟩:=x;simp only[kJ]at e;by_cases a:d<0
  .skip
   refine Dp func306 λC hP hN=>?_
   with_reducible repeat' (first|refine Sp.h ?_|((first|refine Ss.h ?_|(refine Sb.h ?_ ?_ ?_<;>(try intro hgd)<;>try exact Xy))<;>simp -implicitDefEqProofs (maxSteps:=2000000) [hP,hN,a])|refine X2 ?_ ?_|(refine Xd ?_ ?_<;>intro hcd<;>try exact Xx))
  by_cases b:20<d
  .skip
   refine Dp func306 λC hP hN=>?_
   with_reducible repeat' (first|refine Sp.h ?_|((first|refine Ss.h ?_|(refine Sb.h ?_ ?_ ?_<;>(try intro hgd)<;>try exact Xy))<;>simp -implicitDefEqProofs (maxSteps:=2000000) [hP,hN,a,b])|refine X2 ?_ ?_|(refine Xd ?_ ?_<;>intro hcd<;>try exact Xx))
  by_cases f:i<0
  .skip
   refine Dp func306 λC hP hN=>?_
   with_reducible repeat' (first|refine Sp.h ?_|((first|refine Ss.h ?_|(refine Sb.h ?_ ?_ ?_<;>(try intro hgd)<;>try exact Xy))<;>simp -implicitDefEqProofs (maxSteps:=2000000) [hP,hN,a,b,f])|refine X2 ?_ ?_|(refine Xd ?_ ?_<;>intro hcd<;>try exact Xx))
  have g:2^d.toNat<=i:=by omega
  have m:IntKind.u64.wrap d=d:=by rw[IntKind.wrap_u64];omega
  have m1:=vt (k:=d) (by omega);have l:=uf (d:=d) (by omega) (by omega)
  have c:0<=d:=by omega
  refine Dp func306 λC hP hN=>?_
  with_reducible repeat' (first|refine Sp.h ?_|((first|refine Ss.h ?_|(refine Sb.h ?_ ?_ ?_<;>(try intro hgd)<;>try exact Xy))<;>simp -implicitDefEqProofs (maxSteps:=2000000) [hP,hN,a,b,f,g,c,m,ue,m1,l])|refine X2 ?_ ?_|(refine Xd ?_ ?_<;>intro hcd<;>try exact Xx))
def tx:List Pc->Nat->Int->Int×Bool
 |[],i,e=>((i:Int),decide (e=1048576))
 |x::l,i,e=>if kJ x/\(tw x).1=e/\i<4096 then tx l (i+1) ((tw x).1+(tw x).2.1)else((i:Int),false)
theorem Jh(h:i<l.length):l.drop i=l[i]::l.drop (i+1):=yCm h
theorem Yl(l:List Pc)(J:l.length<=1000000):aV 257 (.sl (l.map eg)) (.tup [Z (tx l 0 0).1,B (tx l 0 0).2]):=by
 generalize q:tx l 0 0=A;have G:=λ(x:Pc)=>Yk x;refine Dp func257 λC hP hN=>?_
 with_reducible repeat' (first|refine Sp.h ?_|((first|refine Ss.h ?_|(refine Sb.h ?_ ?_ ?_<;>(try intro hgd)<;>try exact Xy))<;>simp -implicitDefEqProofs (maxSteps:=2000000) [hP,hN])|refine X2 ?_ ?_|(refine Xd ?_ ?_<;>intro hcd<;>try exact Xx))
 refine WP.loopN [] l.length (λi z=>∃e:Int,tx (l.drop i) i e=A/\0<=e/\e<=1048576/\z.t 0=.pv (.sl (l.map eg))/\z.t 4=.pv (Z e)/\z.t 5=.pv (Z i)) ?_ ?_
 .exact⟨0,by simpa using q,by omega,by omega,by simp⟩
 rintro i z hi ⟨e,a,H,I,m,n,o⟩;by_cases b:i<l.length
 .have s:=ai b (by omega)
  have y:l[i]?=some l[i]:=an b;have j:=G l[i];rw[Jh b]at a;generalize g:l[i]=x at *;simp only[tx]at a;by_cases d:kJ x
  .obtain⟨K,L,M⟩:=Jg d
   have D:tw x=(x.2.1*2^(20-x.1).toNat,2^(20-x.1).toNat,true):=by unfold tw;rw[yAb d]
   rw[D]at j a;simp only at j a;generalize x.2.1*2^(20-x.1).toNat=u at *;generalize(2:Int)^(20-x.1).toNat=v at *;have r:i64.wrap (u+v)=u+v:=aa;by_cases p:u=e
   .subst p
    have f:(u !=u)=false:=by simp
    by_cases F:i<4096
    .rw[yAb ⟨d,rfl,F⟩]at a
     have k:¬(4096:Int)<=i:=by omega
     have c:¬4096<=i:=by omega
     with_reducible repeat' (first|refine Sp.h ?_|((first|refine Ss.h ?_|refine Sc.h (j) ?_|(refine Sb.h ?_ ?_ ?_<;>(try intro hgd)<;>try exact Xy))<;>simp -implicitDefEqProofs (maxSteps:=2000000) [hP,hN,m,n,o,b,s,y,g,r,f,k,c])|refine X2 ?_ ?_|(refine Xd ?_ ?_<;>intro hcd<;>try exact Xx))
     all_goals exact⟨_,a,by omega,by omega,rfl⟩
    .rw[L4 (λh=>F h.2.2)]at a
     subst a
     have k:(4096:Int)<=i:=by omega
     have c:4096<=i:=by omega
     with_reducible repeat' (first|refine Sp.h ?_|((first|refine Ss.h ?_|refine Sc.h (j) ?_|(refine Sb.h ?_ ?_ ?_<;>(try intro hgd)<;>try exact Xy))<;>simp -implicitDefEqProofs (maxSteps:=2000000) [hP,hN,m,n,o,b,s,y,g,r,f,k,c])|refine X2 ?_ ?_|(refine Xd ?_ ?_<;>intro hcd<;>try exact Xx))
   .rw[L4 (λh=>p h.2.1)]at a
    subst a
    have f:(u !=e)=true:=by simp[p]
    with_reducible repeat' (first|refine Sp.h ?_|((first|refine Ss.h ?_|refine Sc.h (j) ?_|(refine Sb.h ?_ ?_ ?_<;>(try intro hgd)<;>try exact Xy))<;>simp -implicitDefEqProofs (maxSteps:=2000000) [hP,hN,m,n,o,b,s,y,g,p,f])|refine X2 ?_ ?_|(refine Xd ?_ ?_<;>intro hcd<;>try exact Xx))
  .have D:tw x=(0,0,false):=by unfold tw;rw[L4 d]
   rw[D]at j;rw[L4 (λh=>d h.1)]at a;subst a
   with_reducible repeat' (first|refine Sp.h ?_|((first|refine Ss.h ?_|refine Sc.h (j) ?_|(refine Sb.h ?_ ?_ ?_<;>(try intro hgd)<;>try exact Xy))<;>simp -implicitDefEqProofs (maxSteps:=2000000) [hP,hN,m,n,o,b,s,y,g])|refine X2 ?_ ?_|(refine Xd ?_ ?_<;>intro hcd<;>try exact Xx))
 .have E:i=l.length:=by omega
  subst E;rw[List.drop_length]at a;simp only[tx]at a;subst a;by_cases d:e=1048576
  .subst d
   with_reducible repeat' (first|refine Sp.h ?_|((first|refine Ss.h ?_|(refine Sb.h ?_ ?_ ?_<;>(try intro hgd)<;>try exact Xy))<;>simp -implicitDefEqProofs (maxSteps:=2000000) [hP,hN,m,n,o])|refine X2 ?_ ?_|(refine Xd ?_ ?_<;>intro hcd<;>try exact Xx))
  .have p:(e==1048576)=false:=by simp[d]
   with_reducible repeat' (first|refine Sp.h ?_|((first|refine Ss.h ?_|(refine Sb.h ?_ ?_ ?_<;>(try intro hgd)<;>try exact Xy))<;>simp -implicitDefEqProofs (maxSteps:=2000000) [hP,hN,m,n,o,d,p])|refine X2 ?_ ?_|(refine Xd ?_ ?_<;>intro hcd<;>try exact Xx))
theorem TQ(s:Sce)(p q:List Int)(hs:ScL s)(d:az s=0)(hp:bb s.js s.ms p=true)(hq:bb s.js s.ms q=true):jQ 196 (dZ s) (zs p) (zs q) (B true):=by
 have c:=EF s hs;have a:=KZ s.js s.ms p hs.js hs.ms;have b:=KZ s.js s.ms q hs.js hs.ms;rw[d]at c;rw[hp]at a;rw[hq]at b;obtain⟨js,ms,SH,sks⟩:=s;simp only at a b;refine Dp func196 λC hP hN=>?_
 with_reducible repeat' (first|refine Sp.h ?_|((first|refine Ss.h ?_|refine Sc.h (c) ?_|refine Sc.h (a) ?_|refine Sc.h (b) ?_|(refine Sb.h ?_ ?_ ?_<;>(try intro hgd)<;>try exact Xy))<;>simp -implicitDefEqProofs (maxSteps:=2000000) [hP,hN])|refine X2 ?_ ?_|(refine Xd ?_ ?_<;>intro hcd<;>try exact Xx))
def EZ(s:Sce)(p q:List Int):List Pc->Nat->Int×Int
 |[],_=>(0,0)
 |x::l,i=>if dg s (fI p q x) x.2.2=true then EZ s p q l (i+1)else((i:Int),2002)
def uO(s:Sce)(p q:List Int)(l:List Pc):Int×Int:=if(tx l 0 0).2=true then EZ s p q l 0 else((tx l 0 0).1,2001)
theorem A9(p q:List Int)(x:Pc):(fI p q x).length<=p.length:=by
 unfold fI cX;split
 .simp;omega
 .simp
theorem Ym(s:Sce)(p q:List Int)(l:List Pc)(hs:ScL s)(G:az s=0)(hp:bb s.js s.ms p=true)(hq:bb s.js s.ms q=true)(J:p.length<=16777216)(K:q.length<=16777216)(S:l.length<=1000000)(hn:∀x∈l,x.2.2.length<=1048576):yn 199 (dZ s) (zs p) (zs q) (.sl (l.map eg)) (.tup [Z (uO s p q l).1,Z (uO s p q l).2]):=by
 have A:=EF s hs;have L:=TQ s p q hs G hp hq;have cc:=Yl l S;rw[G]at A
 cases c:(tx l 0 0).2 with
 |false=>
  have hd:uO s p q l=((tx l 0 0).1,2001):=by unfold uO;rw[c];rfl
  rw[c]at cc;rw[hd];refine Dp func199 λC hP hN=>?_
  with_reducible repeat' (first|refine Sp.h ?_|((first|refine Wd ?_|refine Ss.h ?_|refine Sc.h (A) ?_|refine Sc.h (L) ?_|refine Sc.h (cc) ?_|(refine Sb.h ?_ ?_ ?_<;>(try intro hgd)<;>try exact Xy))<;>simp -implicitDefEqProofs (maxSteps:=2000000) [hP,hN]<;>try refine Ya ?_)|refine X2 ?_ ?_|(refine Xd ?_ ?_<;>intro hcd<;>try exact Xx))
 |true=>
 have hd:uO s p q l=EZ s p q l 0:=by unfold uO;rw[c];rfl
 rw[c]at cc;rw[hd];have Q:=λ(x:Pc)=>Nr p q x.1 x.2.1 J K;have P:=λ(x:Pc)(v:x∈l)=>OF s (fI p q x) x.2.2 hs (by have:=A9 p q x;omega) (by have:=hn x v;omega)
 have m:∀x k O,EZ s p q (x::O) k=if dg s (fI p q x) x.2.2=true then EZ s p q O (k+1)else((k:Int),2002):=λ_ _ _=>rfl
 have n:∀k,EZ s p q [] k=(0,0):=λ_=>rfl;generalize e:EZ s p q l 0=y;obtain⟨F,H⟩:∃F,F=EZ s p q:=⟨_,rfl⟩;rw[<-H]at e;simp only[<-H]at m n;clear H hd hs G hp hq hn;obtain⟨js,ms,SH,sks⟩:=s;refine Dp func199 λC hP hN=>?_
 with_reducible repeat' (first|refine Sp.h ?_|((first|refine Wd ?_|refine Ss.h ?_|refine Sc.h (A) ?_|refine Sc.h (L) ?_|refine Sc.h (cc) ?_|(refine Sb.h ?_ ?_ ?_<;>(try intro hgd)<;>try exact Xy))<;>simp -implicitDefEqProofs (maxSteps:=2000000) [hP,hN]<;>try refine Ya ?_)|refine X2 ?_ ?_|(refine Xd ?_ ?_<;>intro hcd<;>try exact Xx))
 refine WP.loopN [] l.length (λi g=>F (l.drop i) i=y/\g.t 1=.pv (zs p)/\g.t 2=.pv (zs q)/\g.t 3=.pv (.sl (l.map eg))/\g.t 4=.ptr 4 0/\g.h 4=some (.box [.pv (.sl (js.map bj)),.pv (.sl (ms.map bN)),.pv (.sl (SH.map bU)),.pv (.sl (sks.map aA))] true false)/\g.t 12=.pv (Z i)) (by simp[e]) ?_;rintro i g hi ⟨a,B,D,g3,E,z,f⟩;by_cases b:i<l.length
 .have N:=ai b (by omega)
  have v:l[i]?=some l[i]:=an b;have u:=Q l[i];have j:=P l[i] (yAq b);rw[Jh b,m]at a;generalize r:l[i]=x at *;obtain⟨o,M⟩:∃o,dg ⟨js,ms,SH,sks⟩ (fI p q x) x.2.2=o:=⟨_,rfl⟩;rw[M]at a j;clear M;obtain⟨d,k,ns⟩:=x;simp only[fI]at u j;generalize cX p q d k=R at *;obtain⟨bx,T⟩:=R;simp only at u j
  cases o with
  |true=>
   rw[yAb rfl]at a
   with_reducible repeat' (first|refine Sp.h ?_|((first|refine Wd ?_|refine Ss.h ?_|refine Sc.h (u) ?_|refine Sc.h (j) ?_|(refine Sb.h ?_ ?_ ?_<;>(try intro hgd)<;>try exact Xy))<;>simp -implicitDefEqProofs (maxSteps:=2000000) [hP,hN,B,D,g3,E,z,f,b,N,v,r]<;>try refine Ya ?_)|refine X2 ?_ ?_|(refine Xd ?_ ?_<;>intro hcd<;>try exact Xx))
   all_goals exact a
  |false=>
   rw[L4 (by simp)]at a;subst a
   with_reducible repeat' (first|refine Sp.h ?_|((first|refine Wd ?_|refine Ss.h ?_|refine Sc.h (u) ?_|refine Sc.h (j) ?_|(refine Sb.h ?_ ?_ ?_<;>(try intro hgd)<;>try exact Xy))<;>simp -implicitDefEqProofs (maxSteps:=2000000) [hP,hN,B,D,g3,E,z,f,b,N,v,r]<;>try refine Ya ?_)|refine X2 ?_ ?_|(refine Xd ?_ ?_<;>intro hcd<;>try exact Xx))
 .have I:i=l.length:=by omega
  subst I;rw[List.drop_length,n]at a;subst a
  with_reducible repeat' (first|refine Sp.h ?_|((first|refine Wd ?_|refine Ss.h ?_|(refine Sb.h ?_ ?_ ?_<;>(try intro hgd)<;>try exact Xy))<;>simp -implicitDefEqProofs (maxSteps:=2000000) [hP,hN,B,D,g3,E,z,f]<;>try refine Ya ?_)|refine X2 ?_ ?_|(refine Xd ?_ ?_<;>intro hcd<;>try exact Xx))
def HE(a b:Pc):Prop:=a.1=b.1/\1<=a.1/\a.2.1%2=0/\b.2.1=a.2.1+1
instance(a b:Pc):Decidable (HE a b):=by unfold HE;infer_instance
def TR(s:Sce)(p q:List Int)(a:Pc)(ns:List Vc):Bool:=(cX p q (a.1-1) (a.2.1/2)).2&&dg s (cX p q (a.1-1) (a.2.1/2)).1 ns
def sm(s:Sce)(p q:List Int)(a b:Pc):Pc×Bool:=if HE a b then(if TR s p q a a.2.2=true then((a.1-1,a.2.1/2,a.2.2),true)else((a.1-1,a.2.1/2,b.2.2),TR s p q a b.2.2))else((0,0,[]),false)
theorem Yo(s:Sce)(p q:List Int)(a b:Pc)(hs:ScL s)(N:kJ a)(P:kJ b)(F:p.length<=16777216)(G:q.length<=16777216)(S:a.2.2.length<=1048576)(T:b.2.2.length<=1048576):Ao 200 (dZ s) (zs p) (zs q) (eg a) (eg b) (.tup [eg (sm s p q a b).1,B (sm s p q a b).2]):=by
 have g:∀d i,(cX p q d i).1.length<=9223372036854775807:=λd i=>by have:=A9 p q (d,i,[]);simp only[fI]at this;omega
 have u:=Nr p q (a.1-1) (a.2.1/2) F G;have o:=OF s (cX p q (a.1-1) (a.2.1/2)).1 a.2.2 hs (g _ _) (by omega);have r:=OF s (cX p q (a.1-1) (a.2.1/2)).1 b.2.2 hs (g _ _) (by omega);have A:∀ns,TR s p q a ns=((cX p q (a.1-1) (a.2.1/2)).2&&dg s (cX p q (a.1-1) (a.2.1/2)).1 ns):=λ_=>rfl;obtain⟨b0,K,D,b3⟩:=N;obtain⟨e0,L,e2,e3⟩:=P;have O:=rO K;have Q:=rO L;unfold sm;by_cases y:HE a b
 .rw[yAb y]
  unfold HE at y;obtain⟨U,j2,V,W⟩:=y;have v:=A a.2.2;have x:=A b.2.2;rw[v,x];clear A v x g;generalize cX p q (a.1-1) (a.2.1/2)=R at *;obtain⟨bx,M⟩:=R;simp only at u o r|-;generalize dg s bx a.2.2=Z at *;generalize dg s bx b.2.2=o2 at *;obtain⟨d,i,X⟩:=a;obtain⟨e,k,Y⟩:=b;simp only at *;subst U;have H:i64.wrap (d-1)=d-1:=aa
  have I:i64.wrap (i.tdiv 2)=i/2:=by rw[yAp D];exact aa (by omega) (by omega)
  have z:i64.wrap (i+1)=i+1:=aa
  have n:i.tmod 2=0:=by rw[yCi D];exact V
  have j:(d !=d)=false:=by simp
  have l:¬d<1:=by omega
  subst W
  have f:(i+1 !=i+1)=false:=by simp
  cases M with
  |false=>
   refine Dp func200 λC hP hN=>?_
   with_reducible repeat' (first|refine Sp.h ?_|((first|refine Wd ?_|refine Ss.h ?_|refine Sc.h (u) ?_|refine Sc.h (o) ?_|refine Sc.h (r) ?_|(refine Sb.h ?_ ?_ ?_<;>(try intro hgd)<;>try exact Xy))<;>simp -implicitDefEqProofs (maxSteps:=2000000) [hP,hN,H,I,z,n,j,l,f]<;>try refine Ya ?_)|refine X2 ?_ ?_|(refine Xd ?_ ?_<;>intro hcd<;>try exact Xx))
  |true=>
  cases Z with
  |true=>
   refine Dp func200 λC hP hN=>?_
   with_reducible repeat' (first|refine Sp.h ?_|((first|refine Wd ?_|refine Ss.h ?_|refine Sc.h (u) ?_|refine Sc.h (o) ?_|refine Sc.h (r) ?_|(refine Sb.h ?_ ?_ ?_<;>(try intro hgd)<;>try exact Xy))<;>simp -implicitDefEqProofs (maxSteps:=2000000) [hP,hN,H,I,z,n,j,l,f]<;>try refine Ya ?_)|refine X2 ?_ ?_|(refine Xd ?_ ?_<;>intro hcd<;>try exact Xx))
  |false=>
   refine Dp func200 λC hP hN=>?_
   with_reducible repeat' (first|refine Sp.h ?_|((first|refine Wd ?_|refine Ss.h ?_|refine Sc.h (u) ?_|refine Sc.h (o) ?_|refine Sc.h (r) ?_|(refine Sb.h ?_ ?_ ?_<;>(try intro hgd)<;>try exact Xy))<;>simp -implicitDefEqProofs (maxSteps:=2000000) [hP,hN,H,I,z,n,j,l,f]<;>try refine Ya ?_)|refine X2 ?_ ?_|(refine Xd ?_ ?_<;>intro hcd<;>try exact Xx))
 .rw[L4 y]
  clear A u o r g;obtain⟨d,i,X⟩:=a;obtain⟨e,k,Y⟩:=b;simp only[HE]at *;have z:i64.wrap (i+1)=i+1:=aa;have n:i.tmod 2=i%2:=yCi D;by_cases j:d=e
  case neg=>
   have c:(d !=e)=true:=by simp[j]
   refine Dp func200 λC hP hN=>?_
   with_reducible repeat' (first|refine Sp.h ?_|((first|refine Wd ?_|refine Ss.h ?_|(refine Sb.h ?_ ?_ ?_<;>(try intro hgd)<;>try exact Xy))<;>simp -implicitDefEqProofs (maxSteps:=2000000) [hP,hN,j,c]<;>try refine Ya ?_)|refine X2 ?_ ?_|(refine Xd ?_ ?_<;>intro hcd<;>try exact Xx))
  subst j
  have c:(d !=d)=false:=by simp
  by_cases l:d<1
  .skip
   refine Dp func200 λC hP hN=>?_
   with_reducible repeat' (first|refine Sp.h ?_|((first|refine Wd ?_|refine Ss.h ?_|(refine Sb.h ?_ ?_ ?_<;>(try intro hgd)<;>try exact Xy))<;>simp -implicitDefEqProofs (maxSteps:=2000000) [hP,hN,c,l]<;>try refine Ya ?_)|refine X2 ?_ ?_|(refine Xd ?_ ?_<;>intro hcd<;>try exact Xx))
  by_cases f:i%2=0
  case neg=>
   have m:(i%2 !=0)=true:=by simp[f]
   refine Dp func200 λC hP hN=>?_
   with_reducible repeat' (first|refine Sp.h ?_|((first|refine Wd ?_|refine Ss.h ?_|(refine Sb.h ?_ ?_ ?_<;>(try intro hgd)<;>try exact Xy))<;>simp -implicitDefEqProofs (maxSteps:=2000000) [hP,hN,c,l,n,f,m]<;>try refine Ya ?_)|refine X2 ?_ ?_|(refine Xd ?_ ?_<;>intro hcd<;>try exact Xx))
  have m:(i%2 !=0)=false:=by simp[f]
  have J:k≠i+1:=λh=>y ⟨rfl,by omega,f,h⟩
  have E:(k !=i+1)=true:=by simp[J]
  refine Dp func200 λC hP hN=>?_
  with_reducible repeat' (first|refine Sp.h ?_|((first|refine Wd ?_|refine Ss.h ?_|(refine Sb.h ?_ ?_ ?_<;>(try intro hgd)<;>try exact Xy))<;>simp -implicitDefEqProofs (maxSteps:=2000000) [hP,hN,c,l,z,n,f,m,J,E]<;>try refine Ya ?_)|refine X2 ?_ ?_|(refine Xd ?_ ?_<;>intro hcd<;>try exact Xx))
def yq(s:Sce)(p q:List Int):Nat->Nat->List Pc->List Pc
 |0,_,out=>out
 |f+1,j,out=>match out[j]?,out[j+1]? with
  |some a,some b=>if(sm s p q a b).2=true then yq s p q f 0 (out.take j++[(sm s p q a b).1]++out.drop (j+2))else yq s p q f (j+1) out
  |_,_=>out
theorem TT{a b:Pc}(h:(sm s p q a b).2=true):kJ (sm s p q a b).1\/¬kJ a:=by
 by_cases d:kJ a
 .left
  have key:HE a b->0<=a.1-1/\a.1-1<=20/\0<=a.2.1/2/\a.2.1/2<2^(a.1-1).toNat:=λc=>by
   obtain⟨g,i,j,k⟩:=d;have f:=c.2.1
   have e:(2:Int)^a.1.toNat=2*2^(a.1-1).toNat:=by rw[show a.1.toNat=(a.1-1).toNat+1 by omega,Int.pow_succ];omega
   omega
  unfold sm at h|-;split
  .rename_i c
   have:=key c;split<;>exact this
  .rename_i c;rw[L4 c]at h;cases h
 .exact .inr d
theorem Ji{a b:Pc}(c:a.2.2.length<=m)(d:b.2.2.length<=m):(sm s p q a b).1.2.2.length<=m:=by
 unfold sm;split
 .split
  .exact c
  .exact d
 .simp
theorem MM:∀{l:List Pc}{i:Nat}{e:Int},(tx l i e).2=true->∀x∈l,kJ x
 |[],_,_,_,x,a=>by cases a
 |y::l,i,e,h,x,a=>by
  simp only[tx]at h;split at h
  .rename_i b
   rcases yAv.1 a with rfl|a
   .exact b.1
   .exact MM h x a
  .cases h
theorem TU{l:List Pc}(h:(uO s p q l).2=0):l≠[]/\∀x∈l,kJ x:=by
 unfold uO at h;split at h
 .rename_i a
  refine⟨λe=>?_,MM a⟩;subst e;simp[tx]at a
 .simp at h
theorem MN(l:List Pc):(l.map eg).all (tW 3)=true:=by
 rw[IV];intro x a;obtain⟨v,_,rfl⟩:=yAt.1 a;rfl
theorem TV{l:List Pc}(b:j<=l.length)(z:Option Value)(e n:Nat)(y:Option Value):kW {size:=n,zero:=z,kind:=TK.slice e 3 40 y} (.pv (.sl (l.map eg))) none (some (.pv (Z (j:Int))))=some (.pv (.sl ((l.take j).map eg))):=by
 have a:(0:Int)<=(j:Int):=by omega
 simp only[kW,yAb a,yAm];rw[yAb ⟨by omega,by simpa using b,by decide,MN l⟩,yCh,List.map_take]
theorem TX{l:List Pc}(c:j+2<=l.length)(z:Option Value)(e n:Nat)(y:Option Value):kW {size:=n,zero:=z,kind:=TK.slice e 3 40 y} (.pv (.sl (l.map eg))) (some (.pv (Z ((j:Int)+2)))) none=some (.pv (.sl ((l.drop (j+2)).map eg))):=by
 have a:(0:Int)<=(j:Int)+2:=by omega
 have b:((j:Int)+2).toNat=j+2:=by omega
 simp only[kW,yAb a,b];rw[yAb ⟨by simpa using c,by omega,by decide,MN l⟩,yBP,List.map_drop]
def CO(s:Sce)(p q:List Int)(l:List Pc):List Pc:=if(uO s p q l).2=0 then yq s p q (l.length*(l.length+1)+1) 0 l else l
theorem Yp(s:Sce)(p q:List Int)(l:List Pc)(hs:ScL s)(h0:az s=0)(hp:bb s.js s.ms p=true)(hq:bb s.js s.ms q=true)(bk:p.length<=16777216)(b1:q.length<=16777216)(hl:l.length<=10000)(hn:∀x∈l,x.2.2.length<=1048576):yn 123 (dZ s) (zs p) (zs q) (.sl (l.map eg)) (.sl ((CO s p q l).map eg)):=by
 have cc:=Ym s p q l hs h0 hp hq bk b1 (by omega) hn;have cj:=λ(a b:Pc)(P:kJ a)(N:kJ b)(ca:a.2.2.length<=1048576)(cb:b.2.2.length<=1048576)=>Yo s p q a b hs P N bk b1 ca cb;unfold CO;by_cases he:(uO s p q l).2=0
 case neg=>
  rw[L4 he]
  have b9:((uO s p q l).2 !=0)=true:=by simp[he]
  generalize uO s p q l=R at *;refine Dp func123 λC hP hN=>?_
  with_reducible repeat' (first|refine Sp.h ?_|((first|refine Wd ?_|refine Ss.h ?_|refine Sc.h (cc) ?_|(refine Sb.h ?_ ?_ ?_<;>(try intro hgd)<;>try exact Xy))<;>simp -implicitDefEqProofs (maxSteps:=2000000) [hP,hN,he,b9]<;>try refine Ya ?_)|refine X2 ?_ ?_|(refine Xd ?_ ?_<;>intro hcd<;>try exact Xx))
 rw[yAb he];obtain⟨a7,cd⟩:=TU he;rw[he]at cc;generalize(uO s p q l).1=R1 at *;have cn:¬l.length=0:=λh=>a7 (yAA h);obtain⟨js,ms,SH,sks⟩:=s;refine Dp func123 λC hP hN=>?_
 with_reducible repeat' (first|refine Sp.h ?_|((first|refine Wd ?_|refine Ss.h ?_|refine Sc.h (cc) ?_|(refine Sb.h ?_ ?_ ?_<;>(try intro hgd)<;>try exact Xy))<;>simp -implicitDefEqProofs (maxSteps:=2000000) [hP,hN,a7,show l.length*40<=140737488355328 by omega,show l.length<=9223372036854775807 by omega]<;>try refine Ya ?_)|refine X2 ?_ ?_|(refine Xd ?_ ?_<;>intro hcd<;>try exact Xx))
 refine WP.freeze 11 (k:=28) (e:=191) (sz:=3) (fz:=0) (xs:=l.map eg) (by simp) (by simp) ?_;simp only[yAz]
 have a6:∀f j out,yq ⟨js,ms,SH,sks⟩ p q (f+1) j out=match out[j]?,out[j+1]? with
  |some a,some b=>if(sm ⟨js,ms,SH,sks⟩ p q a b).2=true then yq ⟨js,ms,SH,sks⟩ p q f 0 (out.take j++[(sm ⟨js,ms,SH,sks⟩ p q a b).1]++out.drop (j+2))else yq ⟨js,ms,SH,sks⟩ p q f (j+1) out
  |_,_=>out:=λ_ _ _=>rfl
 have a2:=λ(a b:Pc)(h:(sm ⟨js,ms,SH,sks⟩ p q a b).2=true)=>TT (s:=⟨js,ms,SH,sks⟩) (p:=p) (q:=q) h;have a1:=λ(a b:Pc)(m:Nat)(P:a.2.2.length<=m)(N:b.2.2.length<=m)=>Ji (s:=⟨js,ms,SH,sks⟩) (p:=p) (q:=q) P N;generalize u:yq ⟨js,ms,SH,sks⟩ p q (l.length*(l.length+1)+1) 0 l=Q;obtain⟨G,hG⟩:∃G,G=yq ⟨js,ms,SH,sks⟩ p q:=⟨_,rfl⟩;obtain⟨J,hJ⟩:∃J,J=sm ⟨js,ms,SH,sks⟩ p q:=⟨_,rfl⟩;rw[<-hG]at u;simp only[<-hG,<-hJ]at a6 a2 a1 cj;clear hG hJ;refine WP.loopN [13,57,61,67] (l.length*(l.length+1)) (λi E=>∃(j:Nat)(out:List Pc),i+(out.length*(l.length+1)-j)<=l.length*(l.length+1)/\G (l.length*(l.length+1)+1-i) j out=Q/\j<=out.length/\out.length<=l.length/\(∀x∈out,kJ x/\x.2.2.length<=1048576)/\E.t 1=.pv (zs p)/\E.t 2=.pv (zs q)/\E.t 4=.ptr 4 0/\E.h 4=some (.box [.pv (.sl (js.map bj)),.pv (.sl (ms.map bN)),.pv (.sl (SH.map bU)),.pv (.sl (sks.map aA))] true false)/\E.t 11=.pv (.sl (out.map eg))/\E.t 12=.pv (Z j)/\E.h 13=none/\E.h 57=none/\E.h 61=none/\E.h 67=none) ?_ ?_
 .exact⟨0,l,by omega,by simpa using u,by omega,by omega,λx W=>⟨cd x W,hn x W⟩,by simp⟩
 clear u cc;rintro i E hi ⟨j,out,hm,d,cg,a8,v,g1,g2,g4,b4,L,M,F,H,I,K⟩;have ch:out.length*(l.length+1)<=l.length*(l.length+1):=yAr _ a8
 have bq:l.length*(l.length+1)+1-i=(l.length*(l.length+1)-i)+1:=by omega
 rw[bq,a6]at d;have O:i64.wrap ((j:Int)+1)=(j:Int)+1:=aa
 have V:((j:Int)+1).toNat=j+1:=by omega
 have U:(0:Int)<=(j:Int)+1:=by omega
 by_cases g:j+1<out.length
 case neg=>
  have N:out[j+1]?=none:=by simp;omega
  have ax:Q=out:=by
   rw[<-d,N];cases out[j]?<;>rfl
  have o:¬(j:Int)+1<(out.length:Int):=by omega
  subst ax
  with_reducible repeat' (first|refine Sp.h ?_|((first|refine Wd ?_|refine Ss.h ?_|(refine Sb.h ?_ ?_ ?_<;>(try intro hgd)<;>try exact Xy))<;>simp -implicitDefEqProofs (maxSteps:=2000000) [hP,hN,g1,g2,g4,b4,L,M,F,H,I,K,O,o]<;>try refine Ya ?_)|refine X2 ?_ ?_|(refine Xd ?_ ?_<;>intro hcd<;>try exact Xx))
 have o:(j:Int)+1<(out.length:Int):=by omega
 have r:j<out.length:=by omega
 have W:out[j]?=some out[j]:=an r;have B:out[j+1]?=some out[j+1]:=an g;have P:=v _ (yAq r);have N:=v _ (yAq g);rw[W,B]at d;generalize X:out[j]=a at *;generalize Y:out[j+1]=b at *;simp only at d;have c1:=cj a b P.1 N.1 P.2 N.2;have cf:2*(l.length+1)<=out.length*(l.length+1):=yAr _ (by omega);have ho:=a2 a b;have a5:=a1 a b 1048576 P.2 N.2;generalize J a b=R at *;obtain⟨x,ok⟩:=R;simp only at d c1 ho a5
 cases ok with
 |false=>
  simp only[ZY,yAi]at d
  with_reducible repeat' (first|refine Sp.h ?_|((first|refine Wd ?_|refine Ss.h ?_|refine Sc.h (c1) ?_|(refine Sb.h ?_ ?_ ?_<;>(try intro hgd)<;>try exact Xy))<;>simp -implicitDefEqProofs (maxSteps:=2000000) [hP,hN,g1,g2,g4,b4,L,M,F,H,I,K,O,V,U,o,r,g,W,X,B,Y]<;>try refine Ya ?_)|refine X2 ?_ ?_|(refine Xd ?_ ?_<;>intro hcd<;>try exact Xx))
  all_goals exact⟨by omega,j+1,out,by omega,d,by omega,a8,λa b c h=>v _ h,rfl,by omega⟩
 |true=>
  simp only[yAn]at d;have b2:=λz e n y=>TV (l:=out) (j:=j) (by omega) z e n y;have b3:=λz e n y=>TX (l:=out) (j:=j) (by omega) z e n y;have b5:i64.wrap ((j:Int)+2)=(j:Int)+2:=aa
  have S:(out.take j).length=j:=by simp;omega
  have cm:(out.drop (j+2)).length+j+2=out.length:=by simp;omega
  have b7:∀y∈out.take j,y∈out:=λy h=>yBL h;have b8:∀y∈out.drop (j+2),y∈out:=λy h=>List.mem_of_mem_drop h;generalize out.take j=A at *;generalize out.drop (j+2)=D at *
  have bs:(j+1+D.length)*40<=140737488355328:=by omega
  have b0:j+1+D.length<=9223372036854775807:=by omega
  have ck:(A++x::D).length*(l.length+1)+(l.length+1)=out.length*(l.length+1):=by
   rw[<-Nat.succ_mul];congr 1;simp;omega
  have ad:∀y∈A++x::D,kJ y/\y.2.2.length<=1048576:=λy B=>by
   simp only[yAk,yAv]at B;rcases B with B|rfl|B
   .exact v y (b7 y B)
   .exact⟨(ho rfl).resolve_right λh=>h P.1,a5⟩
   .exact v y (b8 y B)
  have ay:G (l.length*(l.length+1)-i) 0 (A++x::D)=Q:=by rw[<-d];simp
  have T:(A++x::D).length<=l.length:=by simp;omega
  with_reducible repeat' (first|refine Sp.h ?_|((refine WP.freeze (c:=.region 13 _ _) 11 (k:=57) (e:=191) (sz:=3) (fz:=0) (xs:=(A++x::D).map eg) (by simp) (by simp[S];omega) ?_);simp -implicitDefEqProofs (maxSteps:=2000000) [hP,hN,g1,g2,g4,b4,L,M,F,H,I,K,O,b5,V,U,o,r,g,W,X,B,Y,b2,b3,S,bs,b0,show j*40<=140737488355328 by omega,show(j+1)*40<=140737488355328 by omega,show j<=9223372036854775807 by omega,show j+1<=9223372036854775807 by omega])|((first|refine Wd ?_|refine Ss.h ?_|refine Sc.h (c1) ?_|(refine Sb.h ?_ ?_ ?_<;>(try intro hgd)<;>try exact Xy))<;>simp -implicitDefEqProofs (maxSteps:=2000000) [hP,hN,g1,g2,g4,b4,L,M,F,H,I,K,O,b5,V,U,o,r,g,W,X,B,Y,b2,b3,S,bs,b0,show j*40<=140737488355328 by omega,show(j+1)*40<=140737488355328 by omega,show j<=9223372036854775807 by omega,show j+1<=9223372036854775807 by omega]<;>try refine Ya ?_)|refine X2 ?_ ?_|(refine Xd ?_ ?_<;>intro hcd<;>try exact Xx))
  all_goals exact⟨by omega,0,A++x::D,by omega,ay,by omega,T,λa b c h=>ad _ h,by simp,by simp⟩
def qD(s:Sce)(p q:List Int)(D:Nat):PV×Bool:=if(qb s p q D).kind=1 then(HG (CO s p q (qb s p q D).pcs),true)else(.agg [.sl [],.sl []],false)
theorem Ph(h:(qD s p q D).2=true):Fo s p q:=by
 unfold qD at h;split at h
 .rename_i a;exact Pa a
 .cases h
def tT(s:Sce)(w:List (List Int))(D:Nat):Option Nat:=(List.range (w.length-1)).find? λi=>!(qD s (aQ w i) (aQ w (i+1)) D).2
def qU(s:Sce)(w:List (List Int))(D:Nat):Bool:=(tT s w D).isNone
def wg(s:Sce)(w:List (List Int))(D n:Nat):List PV:=(List.range n).map λi=>(qD s (aQ w i) (aQ w (i+1)) D).1
def DY(s:Sce)(w:List (List Int))(D:Nat):PV:=if qU s w D then .agg [.sl (w.map zs),.sl (wg s w D (w.length-1))]else .agg [.sl [],.sl []]
def KB(s:Sce)(w:List (List Int))(D:Nat):Int:=match tT s w D with
 |some i=>(i:Int)
 |none=>0
theorem Pi(h:qU s w D=true):∀m,m+1<w.length->Fo s (aQ w m) (aQ w (m+1)):=λm a=>by
 simp only[qU,tT,yCl,yBc]at h;have:=h m (yAJ.2 (by omega));exact Ph (by simpa using this)
def wh(s:Sce)(w:List (List Int))(D n:Nat):Prop:=∀m,m<n->(qD s (aQ w m) (aQ w (m+1)) D).2=true
theorem Pj{n:Nat}(h:wh s w D n)(hn:n+1<w.length)(a:(qD s (aQ w n) (aQ w (n+1)) D).2=false):tT s w D=some n:=by
 unfold tT;rw[List.find?_range_eq_some];refine⟨by simp[a],by simp;omega,λj b=>by simp[h j b]⟩
theorem Pk(h:wh s w D (w.length-1)):tT s w D=none:=by
 unfold tT;rw[yBc];intro x a;simp[h x (yAJ.1 a)]
theorem DZ{s:Sce}{p q:List Int}{M:Nat}:∀(f j:Nat)(c:List Pc),(∀x∈c,x.2.2.length<=M)->(yq s p q f j c).length<=c.length/\∀x∈yq s p q f j c,x.2.2.length<=M
 |0,_,c,h=>⟨yAd _,h⟩
 |f+1,j,c,h=>by
  unfold yq;split
  .rename_i a b g e
   split
   .have i:=λx(d:x∈c.take j++[(sm s p q a b).1]++c.drop (j+2))=>show x.2.2.length<=M by
     simp only[yAk,yAE]at d;rcases d with(d|rfl)|d
     .exact h x (yBL d)
     .exact Ji (h a (In g)) (h b (In e))
     .exact h x (List.mem_of_mem_drop d)
    obtain⟨u,v⟩:=DZ f 0 _ i;refine⟨yBC u ?_,v⟩;have:=(th.1 e).1;simp;omega
   .exact DZ f (j+1) c h
  .exact⟨yAd _,h⟩
theorem Rp{M:Nat}{l:List Pc}(h:∀x∈l,x.2.2.length<=M):(CO s p q l).length<=l.length/\∀x∈CO s p q l,x.2.2.length<=M:=by
 unfold CO;split
 .exact DZ _ _ _ h
 .exact⟨yAd _,h⟩
abbrev UI(r:EdR):PV:=.agg [Z r.kind,.sl (r.pcs.map eg),Z r.d,Z r.i,.sl [],Z r.w.pair,zs r.w.a,zs r.w.b]
theorem ML{D:Nat}:∀{l:List Pc},(∀x∈l,DV D x)->l.length<=oN D l
 |[],_=>yAd _
 |x::l,h=>by
  have a:=MI (h x (by simp));have b:=ML (l:=l) λy c=>h y (by simp[c]);simp only[oN,yBa,List.sum_cons,yBA]at b|-;omega
theorem Rn{D:Int}{f:Nat}:mj s p q D (f+1) [] out=⟨1,out,0,0,⟨0,[],[]⟩⟩:=rfl
theorem Yn(s:Sce)(p q:List Int)(D:Nat)(hs:ScL s)(h0:az s=0)(hp:bb s.js s.ms p=true)(hq:bb s.js s.ms q=true)(b7:p.length<=16777216)(ca:q.length<=16777216)(hD:D<=20):yn 121 (dZ s) (zs p) (zs q) (Z (D:Int)) (UI (qb s p q D)):=by
 have cr:=TQ s p q hs h0 hp hq
 have b1:¬(D:Int)<0:=by omega
 have b2:¬(20:Int)<D:=by omega
 have hR:qb s p q D=mj s p q D (2^(D+1)) [(0,0,[])] []:=by
  unfold qb TJ;rw[yAb (by simp[h0,hp,hq,hD])]
 rw[hR];have a1:=P5 s p q D
 have b0:oN D [(0,0,[])]+0+1<=2^(D+1):=by
  have:1<=2^(D+1):=Nat.one_le_two_pow;simp[oN,Je];omega
 generalize W:mj s p q D (2^(D+1)) [(0,0,[])] []=bq;have cg:2^(D+1)<=2097152:=yBC (Nat.pow_le_pow_right (by decide) (show D+1<=21 by omega)) (by decide);generalize ch:2^(D+1)=Q at *;have cp:=λ(x:Pc)=>Nr p q x.1 x.2.1 b7 ca;have cc:=λ(x:Pc)(hx:x.2.2.length<=9223372036854775807)=>Vl s (fI p q x) x.2.2 hs (by have:=A9 p q x;omega) hx
 have cb:∀f c x out,mj s p q D (f+1) (c++[x]) out=if 4096<=out.length then⟨0,[],x.1,x.2.1,⟨0,[],[]⟩⟩else
  if(eD s (fI p q x) x.2.2).kind=1 then mj s p q D f c (out++[(x.1,x.2.1,(eD s (fI p q x) x.2.2).ns)])else
  if(eD s (fI p q x) x.2.2).kind=2 then⟨2,[],x.1,x.2.1,(eD s (fI p q x) x.2.2).w⟩else
  if x.1=D then⟨0,[],x.1,x.2.1,⟨0,[],[]⟩⟩else
  mj s p q D f (c++[(x.1+1,2*x.2.1+1,(eD s (fI p q x) x.2.2).ns),(x.1+1,2*x.2.1,(eD s (fI p q x) x.2.2).ns)]) out:=λf c x out=>by
  simp only[mj,List.getLast?_append,List.getLast?_singleton,Option.some_or,List.dropLast_concat]
 have b3:=λ(x:Pc)=>rU s (fI p q x) x.2.2;have a5:=λ(x:Pc)(h:(eD s (fI p q x) x.2.2).kind=1)=>EX h;clear h0 hp hq;obtain⟨js,ms,SH,sks⟩:=s;refine Dp func121 λC hP hN=>?_
 with_reducible repeat' (first|refine Sp.h ?_|((first|refine Wh [9,31] ?_|refine Ss.h ?_|refine Sc.h (cr) ?_|(refine Sb.h ?_ ?_ ?_<;>(try intro hgd)<;>try exact Xy))<;>simp -implicitDefEqProofs (maxSteps:=2000000) [hP,hN,b1,b2])|refine X2 ?_ ?_|(refine Xd ?_ ?_<;>intro hcd<;>try exact Xx))
 refine WP.loopN [11,12,15] (Q-1) (λi g=>∃todo out:List Pc,PrI ⟨js,ms,SH,sks⟩ p q D todo out/\oN D todo+i+1<=Q/\out.length<=4096/\mj ⟨js,ms,SH,sks⟩ p q D (Q-i) todo out=bq/\g.t 1=.pv (zs p)/\g.t 2=.pv (zs q)/\g.t 3=.pv (Z (D:Int))/\g.t 4=.ptr 4 0/\g.h 4=some (.box [.pv (.sl (js.map bj)),.pv (.sl (ms.map bN)),.pv (.sl (SH.map bU)),.pv (.sl (sks.map aA))] true false)/\g.t 8=.ptr 8 0/\g.h 8=some (.box [.pv (Z 0),.pv (.val (.slice none 0 0)),.pv (Z 0),.pv (Z 0),.pv (.val (.slice none 0 0)),.pv (Z 0),.pv (.val (.slice none 0 0)),.pv (.val (.slice none 0 0))] true false)/\g.t 9=.arr 9 out.length/\g.h 9=some (.row 191 3 (out.map eg) 0)/\g.t 10=.arr 31 todo.length/\g.h 31=some (.row 264 3 (todo.map eg) 0)/\g.h 11=none/\g.h 12=none/\g.h 15=none) ?_ ?_
 .exact⟨[(0,0,[])],[],a1,by omega,by simp,by simpa using W,by simp⟩
 clear a1 b0 W cr
 have bs:∃ti e' b z,ag prog 265=some ti/\ti.kind=TK.slice e' 3 b z:=by refine⟨_,_,_,_,UG,rfl⟩
 rintro i g hi ⟨todo,out,Y,hW,b5,e,I,J,g3,K,E,L,G,M,H,m,l,n,o,r⟩;rw[show Q-i=(Q-i-1)+1 by omega]at e;rcases List.eq_nil_or_concat todo with ht|⟨c,x,ht⟩
 .subst ht
  rw[Rn]at e;subst e
  with_reducible repeat' (first|refine Sp.h ?_|((first|refine Ss.h ?_|(refine Sb.h ?_ ?_ ?_<;>(try intro hgd)<;>try exact Xy))<;>simp -implicitDefEqProofs (maxSteps:=2000000) [hP,hN,I,J,g3,K,E,L,G,M,H,m,l,n,o,r])|refine X2 ?_ ?_|(refine Xd ?_ ?_<;>intro hcd<;>try exact Xx))
 .rw[List.concat_eq_append]at ht
  subst ht;rw[cb]at e;obtain⟨x0,x1,x2,x3,x4⟩:=Y.t x (by simp);have c1:=cp x;have U:=cc x (by omega);have hL:=b3 x;have hS:=a5 x;have cf:=ML Y.t;rw[yAo,yA1]at cf;have ax:i64.wrap (c.length:Int)=(c.length:Int):=aa
  have S:c.length<(c++[x]).length:=by simp
  have hx:((c++[x]).map eg)[c.length]?=some (eg x):=by simp
  have T:∀h,(c++[x])[c.length]'h=x:=λh=>by simp
  simp only[yAo,yA1]at m;obtain⟨ll,ad⟩:∃ll,ll=c++[x]:=⟨_,rfl⟩;rw[<-ad]at l S hx T
  have O:ll.length=c.length+1:=by rw[ad];simp
  with_reducible repeat' (first|refine Sp.h ?_|((refine WP.trunc (hn:=[]) (pre:=[_,_,_,_]) (post:=[_]) rfl rfl rfl rfl ?_);simp -implicitDefEqProofs (maxSteps:=2000000) [hP,hN,I,J,g3,K,E,L,G,M,H,m,l,n,o,r,ax,O,hx,T,S])|((first|refine Ss.h ?_|(refine Sb.h ?_ ?_ ?_<;>(try intro hgd)<;>try exact Xy))<;>simp -implicitDefEqProofs (maxSteps:=2000000) [hP,hN,I,J,g3,K,E,L,G,M,H,m,l,n,o,r,ax,O,hx,T,S])|refine X2 ?_ ?_|(refine Xd ?_ ?_<;>intro hcd<;>try exact Xx))
  refine⟨31,264,3,c.length+1,c.length,.i64,by simp[m],by simp[ax],ll.map eg,by simp[l],by simp[O],by omega,by omega,by rw[hP];exact bs,by rw[hN];decide,?_⟩
  have a6:(ll.map eg).take c.length=c.map eg:=by rw[ad];simp
  rw[a6];simp -implicitDefEqProofs (maxSteps:=2000000) [hP,hN,I,J,g3,K,E,L,G,M,H];refine WP.of_st (P:=λg=>g.t 1=.pv (zs p)/\g.t 2=.pv (zs q)/\g.t 3=.pv (Z (D:Int))/\g.t 4=.ptr 4 0/\g.h 4=some (.box [.pv (.sl (js.map bj)),.pv (.sl (ms.map bN)),.pv (.sl (SH.map bU)),.pv (.sl (sks.map aA))] true false)/\g.t 8=.ptr 8 0/\g.h 8=some (.box [.pv (Z 0),.pv (.val (.slice none 0 0)),.pv (Z 0),.pv (Z 0),.pv (.val (.slice none 0 0)),.pv (Z 0),.pv (.val (.slice none 0 0)),.pv (.val (.slice none 0 0))] true false)/\g.t 9=.arr 9 out.length/\g.h 9=some (.row 191 3 (out.map eg) 0)/\g.t 10=.arr 31 c.length/\g.h 31=some (.row 264 3 (c.map eg) 0)/\g.t 11=.ptr 11 0/\g.h 11=some (.box [.pv (Z x.1),.pv (Z x.2.1),.pv (bA x.2.2)] true false)/\g.h 12=none/\g.h 15=none) ⟨by simp[rekey,I,J,g3,K,E,L,G,M,H,o,r],?_⟩;clear I J g3 K E L G M H m l n o r hx T S a6;rintro g ⟨I,J,g3,K,E,L,G,M,H,m,l,N,n,o,r⟩;obtain⟨d,k,hs⟩:=x;simp only at c1 U hL hS x0 x1 x2 x3 x4 e n;by_cases X:4096<=out.length
  .rw[yAb X]at e
   subst e
   have B:(4096:Int)<=out.length:=by omega
   with_reducible repeat' (first|refine Sp.h ?_|((first|refine Ss.h ?_|(refine Sb.h ?_ ?_ ?_<;>(try intro hgd)<;>try exact Xy))<;>simp -implicitDefEqProofs (maxSteps:=2000000) [hP,hN,I,J,g3,K,E,L,G,M,H,m,l,N,n,o,r,X,B])|refine X2 ?_ ?_|(refine Xd ?_ ?_<;>intro hcd<;>try exact Xx))
  rw[L4 X]at e
  have B:¬(4096:Int)<=out.length:=by omega
  have a2:fI p q (d,k,hs)=(cX p q d k).1:=rfl;have y:=λ(h:(eD ⟨js,ms,SH,sks⟩ (fI p q (d,k,hs)) hs).kind=1)=>Y.keep (x:=(d,k,hs)) (by simp) hL.1 (hS h);have j:=λ(h:d≠(D:Int))=>Y.split (x:=(d,k,hs)) (by simp) hL.1 h;have cd:=Ri (D:=D) (todo:=c++[(d,k,hs)]) (x:=(d,k,hs)) (by simp) (Y.t _ (by simp));have a7:=λ(h:d≠(D:Int))(a b:Int)(u v:List Vc)=>O8 (D:=D) (todo:=c++[(d,k,hs)]) (x:=(d,k,hs)) (by simp) (Y.t _ (by simp)) h a b u v;simp only[List.dropLast_concat]at y j cd a7;rw[a2]at U e hL y j;clear hS a2 Y;generalize cX p q d k=R at *;obtain⟨bx,fl⟩:=R;simp only at c1 U e hL y j;generalize eD ⟨js,ms,SH,sks⟩ bx hs=V at *;obtain⟨kd,ns,⟨pr,A,F⟩⟩:=V;simp only at U e hL y j
  have ck:k<1048576:=by
   have:=rO (d:=d) (by omega);omega
  have v1:i64.wrap (d+1)=d+1:=aa;have v2:i64.wrap (2*k)=2*k:=aa;have v3:i64.wrap (2*k+1)=2*k+1:=aa;by_cases k1:kd=1
  .subst k1
   rw[yAb rfl]at e;have hK:=y rfl
   with_reducible repeat' (first|refine Sp.h ?_|((first|refine Ss.h ?_|refine Sc.h (c1) ?_|refine Sc.h (U) ?_|(refine Sb.h ?_ ?_ ?_<;>(try intro hgd)<;>try exact Xy))<;>simp -implicitDefEqProofs (maxSteps:=2000000) [hP,hN,I,J,g3,K,E,L,G,M,H,m,l,N,n,o,r,X,B,show(out.length+1)*40<=140737488355328 by omega,show out.length+1<=9223372036854775807 by omega])|refine X2 ?_ ?_|(refine Xd ?_ ?_<;>intro hcd<;>try exact Xx))
   all_goals exact⟨by omega,c,out++[(d,k,ns)],hK,by omega,by simp;omega,by rw[show Q-(i+1)=Q-i-1 by omega];exact e,by simp,by simp,rfl,rfl⟩
  have a8:(kd==1)=false:=by simp[k1]
  rw[L4 k1]at e;by_cases k2:kd=2
  .subst k2
   rw[yAb rfl]at e;subst e
   with_reducible repeat' (first|refine Sp.h ?_|((first|refine Ss.h ?_|refine Sc.h (c1) ?_|refine Sc.h (U) ?_|(refine Sb.h ?_ ?_ ?_<;>(try intro hgd)<;>try exact Xy))<;>simp -implicitDefEqProofs (maxSteps:=2000000) [hP,hN,I,J,g3,K,E,L,G,M,H,m,l,N,n,o,r,X,B])|refine X2 ?_ ?_|(refine Xd ?_ ?_<;>intro hcd<;>try exact Xx))
  have bk:(kd==2)=false:=by simp[k2]
  rw[L4 k2]at e;by_cases k3:d=(D:Int)
  .rw[yAb k3]at e
   subst e
   have ay:(d==(D:Int))=true:=by simp[k3]
   with_reducible repeat' (first|refine Sp.h ?_|((first|refine Ss.h ?_|refine Sc.h (c1) ?_|refine Sc.h (U) ?_|(refine Sb.h ?_ ?_ ?_<;>(try intro hgd)<;>try exact Xy))<;>simp -implicitDefEqProofs (maxSteps:=2000000) [hP,hN,I,J,g3,K,E,L,G,M,H,m,l,N,n,o,r,X,B,k1,a8,k2,bk,ay])|refine X2 ?_ ?_|(refine Xd ?_ ?_<;>intro hcd<;>try exact Xx))
  .rw[L4 k3]at e
   have ay:(d==(D:Int))=false:=by simp[k3]
   have hK:=j k3;have cj:=a7 k3 (2*k+1) (2*k) ns ns
   with_reducible repeat' (first|refine Sp.h ?_|((first|refine Ss.h ?_|refine Sc.h (c1) ?_|refine Sc.h (U) ?_|(refine Sb.h ?_ ?_ ?_<;>(try intro hgd)<;>try exact Xy))<;>simp -implicitDefEqProofs (maxSteps:=2000000) [hP,hN,I,J,g3,K,E,L,G,M,H,m,l,N,n,o,r,X,B,k1,a8,k2,bk,k3,ay,v1,v2,v3,show(c.length+2)*40<=140737488355328 by omega,show c.length+2<=9223372036854775807 by omega])|refine X2 ?_ ?_|(refine Xd ?_ ?_<;>intro hcd<;>try exact Xx))
   all_goals exact⟨by omega,c++[(d+1,2*k+1,ns),(d+1,2*k,ns)],out,hK,by omega,b5,by rw[show Q-(i+1)=Q-i-1 by omega];exact e,rfl,rfl,by simp,by simp⟩
theorem ZE(s:Sce)(p q:List Int)(D:Nat)(hs:ScL s)(g:az s=0)(hp:bb s.js s.ms p=true)(hq:bb s.js s.ms q=true)(a:p.length<=16777216)(b:q.length<=16777216)(n:D<=20):yn 62 (dZ s) (zs p) (zs q) (Z (D:Int)) (.tup [(qD s p q D).1,B (qD s p q D).2]):=by
 have f:=Yn s p q D hs g hp hq a b n;obtain⟨u,j,_⟩:=Rj s p q D
 have o:qD s p q D=if(qb s p q D).kind=1 then(HG (CO s p q (qb s p q D).pcs),true)else(.agg [.sl [],.sl []],false):=rfl
 generalize qb s p q D=R at *;have l:=Yp s p q R.pcs hs g hp hq a b (by omega) (λx r=>by have:=j x r;omega);obtain⟨m1,m2⟩:=Rp (s:=s) (p:=p) (q:=q) j;have m:=Ys (CO s p q R.pcs) (by omega) m2;generalize CO s p q R.pcs=M at *;generalize qD s p q D=E at *;subst o;obtain⟨k,pcs,d,i,w⟩:=R;simp only at *;by_cases c:k=1
 .subst c
  simp only[yAn];refine Dp func62 λC hP hN=>?_
  with_reducible repeat' (first|refine Sp.h ?_|((first|refine Ss.h ?_|refine Sc.h (f) ?_|refine Sc.h (l) ?_|refine Sc.h (m) ?_|(refine Sb.h ?_ ?_ ?_<;>(try intro hgd)<;>try exact Xy))<;>simp -implicitDefEqProofs (maxSteps:=2000000) [hP,hN])|refine X2 ?_ ?_|(refine Xd ?_ ?_<;>intro hcd<;>try exact Xx))
 .have e:(k !=1)=true:=by simp[c]
  rw[L4 c];refine Dp func62 λC hP hN=>?_
  with_reducible repeat' (first|refine Sp.h ?_|((first|refine Ss.h ?_|refine Sc.h (f) ?_|(refine Sb.h ?_ ?_ ?_<;>(try intro hgd)<;>try exact Xy))<;>simp -implicitDefEqProofs (maxSteps:=2000000) [hP,hN,c,e])|refine X2 ?_ ?_|(refine Xd ?_ ?_<;>intro hcd<;>try exact Xx))
theorem ZF(s:Sce)(ps:List (List Int))(hs:ScL s)(o:az s=0)(r:2<=ps.length)(u:ps.length<=256)(hp:∀x∈ps,bb s.js s.ms x=true):aL 61 (dZ s) (.sl (ps.map zs)) (.tup [Z 0,Z 0]):=by
 have k:=EF s hs;rw[o]at k;have j:=λ(x:List Int)=>KZ s.js s.ms x hs.js hs.ms
 have c:¬(ps.length:Int)<2:=by omega
 have d:¬(256:Int)<ps.length:=by omega
 clear o hs;obtain⟨js,ms,SH,sks⟩:=s;simp only at j hp;refine Dp func61 λC hP hN=>?_
 with_reducible repeat' (first|refine Sp.h ?_|((first|refine Wd ?_|refine Ss.h ?_|refine Sc.h (k) ?_|(refine Sb.h ?_ ?_ ?_<;>(try intro hgd)<;>try exact Xy))<;>simp -implicitDefEqProofs (maxSteps:=2000000) [hP,hN,c,d]<;>try refine Ya ?_)|refine X2 ?_ ?_|(refine Xd ?_ ?_<;>intro hcd<;>try exact Xx))
 refine WP.loopN [] ps.length (λi b=>b.t 1=.pv (.sl (ps.map zs))/\b.t 2=.ptr 2 0/\b.h 2=some (.box [.pv (.sl (js.map bj)),.pv (.sl (ms.map bN)),.pv (.sl (SH.map bU)),.pv (.sl (sks.map aA))] true false)/\b.t 6=.pv (Z i)) (by simp) ?_;rintro i b hi ⟨l,m,f,n⟩;by_cases a:i<ps.length
 .have p:=ai a (by omega)
  have q:ps[i]?=some ps[i]:=an a;have g:=j ps[i];rw[hp _ (yAq a)]at g;generalize e:ps[i]=x at *
  with_reducible repeat' (first|refine Sp.h ?_|((first|refine Wd ?_|refine Ss.h ?_|refine Sc.h (g) ?_|(refine Sb.h ?_ ?_ ?_<;>(try intro hgd)<;>try exact Xy))<;>simp -implicitDefEqProofs (maxSteps:=2000000) [hP,hN,l,m,f,n,a,p,q,e]<;>try refine Ya ?_)|refine X2 ?_ ?_|(refine Xd ?_ ?_<;>intro hcd<;>try exact Xx))
 .skip
  with_reducible repeat' (first|refine Sp.h ?_|((first|refine Wd ?_|refine Ss.h ?_|(refine Sb.h ?_ ?_ ?_<;>(try intro hgd)<;>try exact Xy))<;>simp -implicitDefEqProofs (maxSteps:=2000000) [hP,hN,l,m,f,n,a]<;>try refine Ya ?_)|refine X2 ?_ ?_|(refine Xd ?_ ?_<;>intro hcd<;>try exact Xx))
theorem Jl{x:List Int}(h:w[i]?=some x):aQ w i=x:=by simp[aQ,h]
theorem T0(s:Sce)(p q:List Int)(D:Nat):∃A B:List PV,(qD s p q D).1=.agg [.sl A,.sl B]:=by
 unfold qD;split
 all_goals exact⟨_,_,rfl⟩
theorem T5(h:m+1<=256):(m+1+1)*24<=140737488355328/\m+1+1<=9223372036854775807/\(m+1)*48<=140737488355328/\m+1<=9223372036854775807:=by omega
theorem Vt(s:Sce)(w:List (List Int))(D:Nat)(hs:ScL s)(W:az s=0)(h2:2<=w.length)(h3:w.length<=256)(hp:∀x∈w,bb s.js s.ms x=true)(hD:D<=20):jQ 22 (dZ s) (.sl (w.map zs)) (Z (D:Int)) (.tup [DY s w D,Z (KB s w D),Z (if qU s w D then 0 else 2204)]):=by
 have J:∀x∈w,0<x.length/\x.length<=16777216:=λx K=>by
  have hl:=mn (kA W);have:=hp x K;simp only[bb,An,Is]at this;omega
 have cc:=ZF s w hs W h2 h3 hp;have ce:=λ(p q:List Int)(a:p∈w)(b:q∈w)=>ZE s p q D hs W (hp p a) (hp q b) (J p a).2 (J q b).2 hD;have hS:=λ(n:Nat)(h:wh s w D n)(hn:n+1<w.length)(he:(qD s (aQ w n) (aQ w (n+1)) D).2=false)=>Pj h hn he;have hZ:=λ(h:wh s w D (w.length-1))=>Pk h
 have hT:∀n,wh s w D n->(qD s (aQ w n) (aQ w (n+1)) D).2=true->wh s w D (n+1):=λn h he m hm=>by
  by_cases e:m=n
  .subst e;exact he
  .exact h m (by omega)
 have hE:∀n,wg s w D (n+1)=wg s w D n++[(qD s (aQ w n) (aQ w (n+1)) D).1]:=λn=>by simp[wg,yBo]
 have hP:DY s w D=if qU s w D then .agg [.sl (w.map zs),.sl (wg s w D (w.length-1))]else .agg [.sl [],.sl []]:=rfl
 have hO:qU s w D=(tT s w D).isNone:=rfl
 have hI:KB s w D=match tT s w D with
  |some i=>(i:Int)
  |none=>0:=rfl
 have bk:=λp q=>T0 s p q D;rw[hP,hI,hO];clear hP hI hO hs W hp;generalize tT s w D=b5 at *
 have ax:∀n,(wg s w D n).length=n:=λn=>by simp[wg]
 have G:wg s w D 0=[]:=rfl;obtain⟨V,I⟩:∃V:Nat->Prop,V=wh s w D:=⟨_,rfl⟩
 have P:V 0:=by rw[I];intro m hm;omega
 simp only[<-I]at hS hZ hT;clear I;generalize wg s w D=ES at *;obtain⟨v,k⟩:∃v:Nat->List PV,∀i,v i=(w.take i).map zs:=⟨_,λ_=>rfl⟩
 have a2:v w.length=w.map zs:=by rw[k,yBP]
 have a1:∀i,i<=w.length->(v i).length=i:=λi hi=>by rw[k];simp;omega
 have ay:∀(i:Nat) x,w[i]?=some x->v (i+1)=v i++[zs x]:=λi x h=>by rw[k,k,yt h];simp
 have R:v 0=[]:=by rw[k];rfl
 clear k;obtain⟨js,ms,SH,sks⟩:=s;refine Dp func22 λC hP hN=>?_
 with_reducible repeat' (first|refine Sp.h ?_|((first|refine Wd ?_|refine Ss.h ?_|refine Sc.h (cc) ?_|(refine Sb.h ?_ ?_ ?_<;>(try intro hgd)<;>try exact Xy))<;>simp -implicitDefEqProofs (maxSteps:=2000000) [hP,hN]<;>try refine Ya ?_)|refine X2 ?_ ?_|(refine Xd ?_ ?_<;>intro hcd<;>try exact Xx))
 refine WP.loopN [13,38] w.length (λi g=>∃Pv Ev:AV,V (i-1)/\g.t 1=.pv (.sl (w.map zs))/\g.t 2=.pv (Z (D:Int))/\g.t 3=.ptr 3 0/\g.h 3=some (.box [.pv (.sl (js.map bj)),.pv (.sl (ms.map bN)),.pv (.sl (SH.map bU)),.pv (.sl (sks.map aA))] true false)/\g.t 6=.ptr 6 0/\g.h 6=some (.box [.pv (.val (.slice none 0 0)),.pv (.val (.slice none 0 0))] true false)/\g.t 11=.ptr 11 0/\g.h 11=some (.box [Pv,Ev] true false)/\g.t 12=.pv (Z i)/\qC 40 49 1 (v i) Pv g.h/\qC 68 121 2 (ES (i-1)) Ev g.h/\g.h 13=none/\g.h 38=none) ?_ ?_
 .simp[qC,P,G,R]
 clear cc;rintro i g hi ⟨Pv,Ev,X,g1,g2,g3,b3,g6,b6,E,r,F,o,l,L,M⟩;by_cases f:i<w.length
 case neg=>
  have a6:i=w.length:=by omega
  subst a6;have hr:=hZ X;subst hr;rw[a2]at o;rcases o with⟨z,rfl,d⟩|⟨z,rfl,d⟩<;>rcases l with⟨B,rfl,c⟩|⟨B,rfl,c⟩
  all_goals
   with_reducible repeat' (first|refine Sp.h ?_|((first|refine Wd ?_|refine Ss.h ?_|(refine Sb.h ?_ ?_ ?_<;>(try intro hgd)<;>try exact Xy))<;>simp -implicitDefEqProofs (maxSteps:=2000000) [hP,hN,g1,g2,g3,b3,g6,b6,E,r,F,d,c,z,B]<;>try refine Ya ?_)|refine X2 ?_ ?_|(refine Xd ?_ ?_<;>intro hcd<;>try exact Xx))
 have hw:=ai f (by omega);have K:w[i]?=some w[i]:=an f;have U:=yAq f;generalize T:w[i]=x at *;obtain⟨n1,n2⟩:=J x U
 have n3:x.length*8<=140737488355328:=by omega
 have n4:x.length<=9223372036854775807:=by omega
 have u:=ay i x K;have j:=a1 i hi;by_cases a5:i=0
 .subst a5
  rw[R]at o u j;rw[List.nil_append]at u;rw[G]at l;rcases o with⟨z,rfl,d⟩|⟨z,rfl,d⟩
  .rcases l with⟨B,rfl,c⟩|⟨B,rfl,c⟩
   .skip
    with_reducible repeat' (first|refine Sp.h ?_|((first|refine Wd ?_|refine Ss.h ?_|(refine Sb.h ?_ ?_ ?_<;>(try intro hgd)<;>try exact Xy))<;>simp -implicitDefEqProofs (maxSteps:=2000000) [hP,hN,g1,g2,g3,b3,g6,b6,E,r,F,L,M,d,c,f,K,T,hw,n3,n4]<;>try refine Ya ?_)|refine X2 ?_ ?_|(refine Xd ?_ ?_<;>intro hcd<;>try exact Xx))
    all_goals simp[qC,c,G,u,P]
   .simp at B
  .simp at z
 obtain⟨m,rfl⟩:∃m,i=m+1:=⟨i-1,by omega⟩;rw[Nat.add_sub_cancel]at X l
 have S:m<w.length:=by omega
 obtain⟨y,Y⟩:∃y,w[m]?=some y:=⟨_,an S⟩;have b2:=In Y;have b1:∀h,w[m]'h=y:=λh=>aJ Y h;have c1:=ce y x b2 U;have O:=hS m X f;have Q:=hT m X;have H:=hE m;have N:=ax m;rw[Jl Y,Jl K]at O Q H;obtain⟨A,B',ad⟩:=bk y x;rw[ad]at c1 H;generalize(qD ⟨js,ms,SH,sks⟩ y x D).2=ok at *;have bq:((m:Int)+1).toNat=m+1:=yAm (m+1);have a8:(0:Int)<=(m:Int)+1:=Int.natCast_nonneg (m+1);have a7:(m:Int)+1<(w.length:Int):=Int.ofNat_lt.2 f;have bs:i64.wrap ((m:Int)+1+1)=(m:Int)+1+1:=aa
 have b4:((m:Int)+1==0)=false:=yA6.2 λh=>by omega
 have b0:i64.wrap (m:Int)=(m:Int):=aa;obtain⟨n5,n6,n7,n8⟩:=T5 (yBC hi h3);rcases o with⟨z,rfl,d⟩|⟨z,rfl,d⟩
 .rw[z]at j;simp at j
 rw[j]at r;rcases l with⟨B,rfl,c⟩|⟨B,rfl,c⟩<;>cases ok
 all_goals
  try (have hr:=O rfl;subst hr)
  with_reducible repeat' (first|refine Sp.h ?_|((first|refine Wd ?_|refine Ss.h ?_|refine Sc.h (c1) ?_|(refine Sb.h ?_ ?_ ?_<;>(try intro hgd)<;>try exact Xy))<;>simp -implicitDefEqProofs (maxSteps:=2000000) [hP,hN,g1,g2,g3,b3,g6,b6,E,r,F,L,M,d,c,f,S,K,T,Y,b1,hw,bq,a8,a7,b4,b0,j,N,n3,n4,n5,n6,n7,n8]<;>try refine Ya ?_)|refine X2 ?_ ?_|(refine Xd ?_ ?_<;>intro hcd<;>try exact Xx))
 all_goals (refine⟨Q rfl,?_⟩;simp[qC,u,H,bs,B,j,N])
def JQ(x y:AV)(c:Option bF):Option bF:=match yV x y with
 |some (a,b)=>some (.pv (.val (.bool (!(a==b)))),[])
 |none=>c
@[simp] theorem Um(a b:Bool)(c:Option bF):JQ (.pv (.val (.bool a))) (.pv (.val (.bool b))) c=some (.pv (.val (.bool (!(a==b)))),[]):=rfl
@[simp] theorem YG{g:Option (Nat×Bool)}(x y:Operand):
 bf prog ⟨dst,.binOp .neq 4 x y 4,ty,pos,aft,g⟩ ρ=JQ (ρ x) (ρ y) (gk prog ⟨dst,.binOp .neq 4 x y 4,ty,pos,aft,g⟩ ρ):=by
 unfold JQ;split
 .rename_i a b h
  unfold yV at h;split at h
  .rename_i c d i j
   injection h with h;injection h with e f;subst e;subst f;refine dq (by simp[Op.operands,i,j,dV]) ?_;unfold execOp;simp only[(bg i).2,(bg j).2]
   have e:aj prog (eqGuard .neq 4 x y (.bool c) (.bool d))=some ():=by kernel_rfl
   have f:aj prog (binOp .neq 4 (.bool c) (.bool d))=some (.bool (!(c==d))):=by
    simp only[binOp,ae];rw[show aj prog (Op.equal 4 (.bool c) (.bool d))=some (c==d) from Dd 9999 4 c d Tryz.underlying4];rfl
   simp only[ae,e,f,yAg];rfl
  .cases h
 .rfl
theorem Wj(a b c d e g i j:Int):aj prog (Op.equal 67 (.agg #[.int .i64 a,.int .i64 b,.int .i64 c,.int .i64 d]) (.agg #[.int .i64 e,.int .i64 g,.int .i64 i,.int .i64 j]))=some (a==e&&b==g&&c==i&&d==j):=by
 have hf:(prog.fieldsOf 67).toList=[(prog.fieldsOf 67)[0]!,(prog.fieldsOf 67)[1]!,(prog.fieldsOf 67)[2]!,(prog.fieldsOf 67)[3]!]:=by kernel_rfl
 show aj prog (Op.equalIn (9999+1) 67 _ _)=_;rw[xg 9999 67 _ _ (by kernel_rfl) (by kernel_rfl),hf]
 have h:=nE (P:=prog) (d:=9999) (xs:=#[.int .i64 a,.int .i64 b,.int .i64 c,.int .i64 d]) (ys:=#[.int .i64 e,.int .i64 g,.int .i64 i,.int .i64 j]) (f:=(prog.fieldsOf 67)[0]!) (fs:=[(prog.fieldsOf 67)[1]!,(prog.fieldsOf 67)[2]!,(prog.fieldsOf 67)[3]!]) (a:=.int .i64 a) (b:=.int .i64 e) (by decide +kernel) (by kernel_rfl) (by kernel_rfl) (og 9998 _ .i64 .i64 a e (by kernel_rfl))
  (nE (by decide +kernel) (a:=.int .i64 b) (b:=.int .i64 g) (by kernel_rfl) (by kernel_rfl) (og 9998 _ .i64 .i64 b g (by kernel_rfl))
  (nE (by decide +kernel) (a:=.int .i64 c) (b:=.int .i64 i) (by kernel_rfl) (by kernel_rfl) (og 9998 _ .i64 .i64 c i (by kernel_rfl))
  (nE (by decide +kernel) (a:=.int .i64 d) (b:=.int .i64 j) (by kernel_rfl) (by kernel_rfl) (og 9998 _ .i64 .i64 d j (by kernel_rfl)) F3)))
 rw[h];simp[Bool.and_assoc]
def Fd(x:AV):Option (Int×Int×Int×Int):=match x with
 |.pv (.val (.agg e))=>match e.toList with
  |[.int .i64 a,.int .i64 b,.int .i64 c,.int .i64 d]=>some (a,b,c,d)
  |_=>none
 |_=>none
theorem B0{x:AV}{b c:Int}(h:Fd x=some (a,b,c,d)):x=.pv (.val (.agg #[.int .i64 a,.int .i64 b,.int .i64 c,.int .i64 d])):=by
 unfold Fd at h;split at h
 .split at h
  .rename_i f _ g i j k e
   injection h with h;injection h with h1 h2;injection h2 with h2 h3;injection h3 with h3 h4;subst h1;subst h2;subst h3;subst h4;rw[<-Array.toArray_toList (xs:=f),e]
  .cases h
 .cases h
def NF(x y:AV)(j:Option bF):Option bF:=match Fd x,Fd y with
 |some (a,b,c,d),some (e,f,g,i)=>some (.pv (.val (.bool (a==e&&b==f&&c==g&&d==i))),[])
 |_,_=>j
@[simp] theorem U4(a b c d e f g i:Int)(j:Option bF):NF (.pv (.val (.agg #[.int .i64 a,.int .i64 b,.int .i64 c,.int .i64 d]))) (.pv (.val (.agg #[.int .i64 e,.int .i64 f,.int .i64 g,.int .i64 i]))) j=some (.pv (.val (.bool (a==e&&b==f&&c==g&&d==i))),[]):=rfl
@[simp] theorem ZQ{g:Option (Nat×Bool)}(x y:Operand):
 bf prog ⟨dst,.binOp .eql 67 x y 67,ty,pos,aft,g⟩ ρ=NF (ρ x) (ρ y) (gk prog ⟨dst,.binOp .eql 67 x y 67,ty,pos,aft,g⟩ ρ):=by
 unfold NF;split
 .rename_i a b c d e f i j k l
  exact qI rfl (B0 k) (B0 l) (by kernel_rfl) (Wj a b c d e f i j)
 .rfl
def wA:Tr:=⟨[(0,8)],[bn bi]⟩
def Lh:Tr:=⟨[(0,8)],[⟨0,1,2,bi⟩,bn bi,bn bi]⟩
def wC:Tr:=⟨[(0,8)],[⟨0,1,2,bi⟩,bn bi,⟨0,3,4,bi⟩,bn bi,bn bi]⟩
def wD:Tr:=⟨[(0,8)],[⟨0,1,2,bi⟩,bn bi,⟨0,3,4,bi⟩,bn (mX 1),bn bi]⟩
theorem PG:gP [(0,8)]=wA/\dQ [(0,8)]=true:=⟨by kernel_rfl,by decide +kernel⟩
theorem U5:bh wA 0 0=Lh/\cG wA 0 0=true:=⟨by kernel_rfl,by kernel_rfl⟩
theorem U6:bh Lh 2 0=wC/\cG Lh 2 0=true:=⟨by kernel_rfl,by kernel_rfl⟩
theorem U7:dT wC 3 (mX 1)=wD/\di wC 3 (mX 1)=true:=⟨by kernel_rfl,by kernel_rfl⟩
def wU:List Bool:=[false,true,false,false,false]
theorem PH(h:fq wU i):i=1:=by
 unfold fq wU at h
 match i,h with
 |0,h=>simp at h
 |1,_=>rfl
 |2,h=>simp at h
 |3,h=>simp at h
 |4,h=>simp at h
 |n+5,h=>simp at h
theorem U8:jO wD [1] wU:=by
 have d:∀i,i<5->(jM wD i&&j7 wD [1] i)=true->i=1:=by decide +kernel
 have e:∀i,i<5->jM wD i=true->lh wD 1 i=true->i=1:=by decide +kernel
 have a:fq wU 1:=rfl
 have c:FI 5 (jM wD) (lh wD) (mL wD [1]) wU []:=by
  refine⟨rfl,λi hi=>?_,λi hi=>?_,λi hi=>by simp at hi,λi hi=>.inr λk f g b=>?_⟩
  .rw[d i hi.1 hi.2];exact a
  .rw[PH hi];exact .base ⟨by decide,by kernel_rfl⟩
  .rw[PH hi]at b
   rw[e k f g b];exact a
 exact c.fin
theorem R8:f8 wD [1] [7] wU=true/\f8 wD [1] [3] wU=false/\io wD.cells=1/\gV wD [[1],[7]]=some (0,(1,2),3):=⟨by kernel_rfl,by kernel_rfl,by kernel_rfl,by kernel_rfl⟩
theorem Y9:EW 63 (eo wD):=by
 have i:aO prog 11 [.pv (.sl [I 0 8])] [] [] (.pv (.tup [eo wA,B true])):=by
  have:=Vq [(0,8)];rw[PG.1,PG.2]at this;exact this
 have a:=TC wA 0 0 (by decide);rw[U5.1,U5.2]at a;have b:=TC Lh 2 0 (by decide);rw[U6.1,U6.2]at b;have j:=ZB 1;have c:=Vr wC 3 (mX 1) (by decide);rw[U7.1,U7.2]at c;generalize wD=g at *;generalize wC=f at *;generalize Lh=e at *;generalize wA=d at *;generalize mX 1=k at *;refine Dp func63 λC hP hN=>?_;exact Gy
theorem U9:EW 23 (B true):=by
 have f:=Y9;obtain⟨a,b,c,d⟩:=R8
 have g:aO prog 27 [.pv (eo wD),.pv (.sl [.sl [Z 1],.sl [Z 7]])] [] [] (.pv (.tup [.val (.agg #[.int .i64 0,.int .i64 1,.int .i64 2,.int .i64 3]),B true])):=by
  have:=U3 wD [[1],[7]] (by decide) (by decide) (by decide);rw[d]at this;exact this
 have i:aO prog 57 [.pv (eo wD),.pv (.sl [Z 1]),.pv (.sl [Z 7])] [] [] (.pv (B true)):=by
  have:=PJ wD [1] [7] wU (by decide) (by decide) U8;rw[a]at this;exact this
 have j:aO prog 57 [.pv (eo wD),.pv (.sl [Z 1]),.pv (.sl [Z 3])] [] [] (.pv (B false)):=by
  have:=PJ wD [1] [3] wU (by decide) (by decide) U8;rw[b]at this;exact this
 have k:aO prog 28 [.pv (eo wD)] [] [] (.pv (Z 1)):=by
  have:=Va wD (by decide);rw[c]at this;exact this
 generalize wD=e at *;refine Dp func23 λC hP hN=>?_;exact Gy
def lY(l:List Int):Nat->Nat
 |0=>0
 |k+1=>nn l (lY l k)
theorem Li(l:List Int)(k:Nat):lY l k<=k:=by
 induction k with
 |zero=>exact yAd _
 |succ k ih=>have:=aP l (lY l k);simp only[lY];omega
def jf(l:List Int)(w i:Nat):List Int:=(List.range w).map λk=>nx l (lY l (i*w+k)) 1048576
def jB(b:Bx)(n:Nat)(l:List Int):List (List Int):=(List.range n).map λi=>oM b (jf l (2*b.length) i)
theorem sI(b:Bx)(n:Nat)(l:List Int):(jB b n l).length=n:=by simp[jB]
theorem Lj{n:Nat}{l:List Int}(c:au vI b=true):∀x∈jB b n l,aR b x=true:=by
 intro x a;simp only[jB,yAt]at a;obtain⟨i,_,rfl⟩:=a;exact TA c
theorem JR{n:Nat}{l:List Int}(hi:i<n):((jB b n l).map zs).take i++[zs (oM b (jf l (2*b.length) i))]=((jB b n l).map zs).take (i+1):=by
 have h:i<((jB b n l).map zs).length:=by simp[jB,hi]
 rw[yAP h];simp[jB]
theorem Za(b:Bx)(n:Nat)(l:List Int)(hb:b.length<=100)(hn:n<=100)(hv:au vI b=true):jQ 26 (iv b) (Z n) (zs l) (.sl ((jB b n l).map zs)):=by
 have V:=Ih l
 have u:i64.wrap (2*(b.length:Int))=((2*b.length:Nat):Int):=by rw[show 2*(b.length:Int)=((2*b.length:Nat):Int) by omega];exact aa (by omega) (by omega)
 refine Dp func26 λC hP hN=>?_
 with_reducible repeat' (first|refine Sp.h ?_|((first|refine Wh [8] ?_|refine Ss.h ?_|refine Sc.h (V) ?_|(refine Sb.h ?_ ?_ ?_<;>(try intro hgd)<;>try exact Xy))<;>simp -implicitDefEqProofs (maxSteps:=2000000) [hP,hN,fV])|refine X2 ?_ ?_|(refine Xd ?_ ?_<;>intro hcd<;>try exact Xx))
 refine WP.loopN [10] n (λi a=>a.t 0=.pv (iv b)/\a.t 1=.pv (Z n)/\a.t 7=.ptr 13 0/\a.t 8=.arr 8 i/\a.t 9=.pv (Z i)/\a.h 13=some (.box [.pv (zs l),.pv (Z (lY l (i*(2*b.length))))] true false)/\a.h 8=some (.row 49 1 (((jB b n l).map zs).take i) 0)/\a.h 10=none) (by simp[lY]) ?_;rintro i a hi ⟨z,A,B,D,E,c,e,d⟩
 have P:min i (jB b n l).length=i:=by rw[sI];omega
 by_cases j:i<n
 .have hw:=ai j (by omega)
  have Y:=JR (b:=b) (l:=l) j
  have q:(jf l (2*b.length) i).length=2*b.length:=by simp[jf]
  have W:=ZC b (jf l (2*b.length) i) (by omega) hv
  have r:(i:Int)<n:=by omega
  with_reducible repeat' (first|refine Sp.h ?_|((first|refine Wh [10] ?_|refine Ss.h ?_|(refine Sb.h ?_ ?_ ?_<;>(try intro hgd)<;>try exact Xy))<;>simp -implicitDefEqProofs (maxSteps:=2000000) [hP,hN,z,A,B,D,E,c,e,d,j,r])|refine X2 ?_ ?_|(refine Xd ?_ ?_<;>intro hcd<;>try exact Xx))
  refine WP.loopN [] (2*b.length) (λk a=>a.t 0=.pv (iv b)/\a.t 1=.pv (Z n)/\a.t 7=.ptr 13 0/\a.t 8=.arr 8 i/\a.t 9=.pv (Z i)/\a.t 10=.arr 10 k/\a.t 11=.pv (Z k)/\a.h 13=some (.box [.pv (zs l),.pv (Z (lY l (i*(2*b.length)+k)))] true false)/\a.h 8=some (.row 49 1 (((jB b n l).map zs).take i) 0)/\a.h 10=some (.row 3 1 (((jf l (2*b.length) i).map Z).take k) 0)) (by simp[z,A,B,D,E,c,e]) ?_;clear z A B D E c e d;rintro k ad hk ⟨y0,y1,S,T,U,v,x,g,y,f⟩
  have O:min k (jf l (2*b.length) i).length=k:=by omega
  have Q:=Li l (i*(2*b.length)+k);have J:i*(2*b.length)<=100*200:=yBk (by omega) (by omega);by_cases o:k<2*b.length
  .have N:=ai o (by omega)
   have X:=fX l (lY l (i*(2*b.length)+k)) 1048576 (by decide) (by omega);have L:lY l (i*(2*b.length)+(k+1))=nn l (lY l (i*(2*b.length)+k)):=rfl
   have H:k<(jf l (2*b.length) i).length:=by omega
   have K:((jf l (2*b.length) i).map Z).take k++[Z (nx l (lY l (i*(2*b.length)+k)) 1048576)]=((jf l (2*b.length) i).map Z).take (k+1):=by
    rw[yAP (by simpa using H)];simp[jf]
   have m:(k:Int)<((2*b.length:Nat):Int):=by omega
   generalize lY l (i*(2*b.length)+k)=pos at *;generalize lY l (i*(2*b.length)+(k+1))=R at *
   with_reducible repeat' (first|refine Sp.h ?_|((first|refine Ss.h ?_|refine Sc.h (X) ?_|(refine Sb.h ?_ ?_ ?_<;>(try intro hgd)<;>try exact Xy))<;>simp -implicitDefEqProofs (maxSteps:=2000000) [hP,hN,fV,y0,y1,S,T,U,v,x,g,y,f,u,o,m,N,O,show(k+1)*8<=140737488355328 by omega,show k+1<=9223372036854775807 by omega])|refine X2 ?_ ?_|(refine Xd ?_ ?_<;>intro hcd<;>try exact Xx))
   all_goals exact⟨by rw[L],K⟩
  .have G:k=2*b.length:=by omega
   subst G;have p:((jf l (2*b.length) i).map Z).take (2*b.length)=(jf l (2*b.length) i).map Z:=yAu (by simp[q]);rw[p]at f
   have m:¬((2*b.length:Nat):Int)<((2*b.length:Nat):Int):=by omega
   have s:(i+1)*(2*b.length)=i*(2*b.length)+2*b.length:=by rw[yAM];omega
   rw[<-s]at g;generalize oM b (jf l (2*b.length) i)=pt at *;generalize jf l (2*b.length) i=M at *
   with_reducible repeat' (first|refine Sp.h ?_|((first|refine Ss.h ?_|refine Sc.h (W) ?_|(refine Sb.h ?_ ?_ ?_<;>(try intro hgd)<;>try exact Xy))<;>simp -implicitDefEqProofs (maxSteps:=2000000) [hP,hN,y0,y1,S,T,U,v,x,g,y,f,u,o,m,q,hw,P,show(i+1)*24<=140737488355328 by omega,show i+1<=9223372036854775807 by omega])|refine X2 ?_ ?_|(refine Xd ?_ ?_<;>intro hcd<;>try exact Xx))
   all_goals exact Y
 .have F:i=n:=by omega
  subst F;have p:((jB b i l).map zs).take i=(jB b i l).map zs:=yAu (by simp[sI]);rw[p]at e;have I:=sI b i l
  with_reducible repeat' (first|refine Sp.h ?_|((first|refine Ss.h ?_|(refine Sb.h ?_ ?_ ?_<;>(try intro hgd)<;>try exact Xy))<;>simp -implicitDefEqProofs (maxSteps:=2000000) [hP,hN,z,A,B,D,E,c,e,d,j,I])|refine X2 ?_ ?_|(refine Xd ?_ ?_<;>intro hcd<;>try exact Xx))
end Go.Ab
