/- The contracts and facts that the laws of this seat need, in one text (K5c, K5d, K5e, K5f, K5g, K12, Ab28, Ab30, Ab31, K12b, K12c, K13, K13b, K13c, Tv, K13d, DeP, DcM, Dc8, K13e, K14, K14b, Dc10, Dc11, AbX). -/
import Derived.Test.YtidomjacfogjlaaGreatT7
set_option linter.all false
set_option maxRecDepth 10000
set_option maxHeartbeats 16000000
namespace Go.Ab
open IntKind (i64)
open Go.Proofs.Tryz
open Go.Proofs
variable {PR:List (Nat×Nat)}{PT:List (List aq)}{SH shs:List Sh}{bx:List Iv}{i:Nat}{js:List J}{l:List aq}{s:Sce}{α:Type}{p:α->Bool}{xs:List α}
def cJ(n:Nat)(l:Int):Bool:=decide (-1<=l)&&decide (l<n)
theorem GU(s:Sce)(l:Int)(a:s.js.length<=9223372036854775807):aL 110 (dZ s) (Z l) (B (cJ s.js.length l)):=by
 refine Dp func110 λC hP hN=>?_
 with_reducible repeat' (first|refine Sp.h ?_|((first|refine Ss.h ?_|(refine Sb.h ?_ ?_ ?_<;>(try intro hgd)<;>try exact Xy))<;>simp -implicitDefEqProofs (maxSteps:=2000000) [hP,hN])|refine X2 ?_ ?_|(refine Xd ?_ ?_<;>intro hcd<;>try exact Xx))
 all_goals (simp only[cJ,Is,yAh]at *;first|done|(simp;intros;omega)|(simp;omega)|omega)
def cW(n:Nat)(h:Sh):Int:=if(cJ n h.link&&decide (1<=h.rad)&&decide (h.rad<=1048576)&&decide (1<=h.pts.length)&&decide (h.pts.length<=8))=true then(if h.pts.all (aG 4194304)=true then 0 else 805)else 902
theorem Xi(s:Sce)(h:Sh)(M:s.js.length<=9223372036854775807)(N:h.pts.length<=9223372036854775807):aL 109 (dZ s) (bU h) (Z (cW s.js.length h)):=by
 have G:=GU s h.link M
 cases n:cJ s.js.length h.link with
 |false=>
  have hf:cW s.js.length h=902:=by simp[cW,n]
  rw[hf];rw[n]at G;refine Dp func109 λC hP hN=>?_;exact Gy
 |true=>
 rw[n]at G;by_cases L:h.rad<1\/1048576<h.rad\/(h.pts.length:Int)<1\/(8:Int)<h.pts.length
 .have hf:cW s.js.length h=902:=by
   unfold cW;rw[L4];simp only[An,Is];rintro⟨⟨⟨⟨R,S⟩,T⟩,U⟩,V⟩;omega
  rw[hf];rcases L with y|y|y|y
  all_goals
   refine Dp func109 λC hP hN=>?_;exact Gy
 have y:¬h.rad<1:=by omega
 have W:¬1048576<h.rad:=by omega
 have X:¬(h.pts.length:Int)<1:=by omega
 have Y:¬(8:Int)<h.pts.length:=by omega
 have J:¬h.pts.length<1:=by omega
 have K:¬8<h.pts.length:=by omega
 have hf:cW s.js.length h=if h.pts.all (aG 4194304)=true then 0 else 805:=by
  unfold cW;rw[yAb];simp only[An,Is];exact⟨⟨⟨⟨n,by omega⟩,by omega⟩,by omega⟩,by omega⟩
 rw[hf];refine Dp func109 λC hP hN=>?_
 cases f:h.pts.all (aG 4194304)with
 |true=>
  refine Gz ?_;refine WP.loopN [7] h.pts.length (λi d=>True/\d.t 37=.pv (bA h.pts)/\d.t 38=.pv (Z h.pts.length)/\d.t 39=.pv (Z i)/\d.h 7=none) (by simp) ?_;rintro i d hi ⟨g,l,m,j,o⟩;by_cases e:i<h.pts.length
  .have z:=ai e (by omega)
   have P:=dJ.1 (IV.1 f _ (yAq e));obtain⟨B,D,E⟩:=P;rw[bM]at B D E;generalize q:h.pts[i]=v at *
   have H:h.pts[i]?=some v:=by rw[an e,q]
   refine Gz ?_;refine WP.loopN [] 3 (λk d=>True/\d.t 37=.pv (bA h.pts)/\d.t 38=.pv (Z h.pts.length)/\d.t 39=.pv (Z i)/\d.t 43=.pv (aW v)/\d.t 44=.pv (Z k)) (by simp[g,l,m,j]) ?_;clear g l m j o;rintro k d n ⟨g,l,m,j,gA,u⟩;rcases gx n with rfl|rfl|rfl|rfl
   all_goals
    exact Gy
  .skip
   exact Gy
 |false=>
  refine Gz ?_;refine WP.loopN [7] h.pts.length (λi d=>True/\d.t 37=.pv (bA h.pts)/\d.t 38=.pv (Z h.pts.length)/\d.t 39=.pv (Z i)/\d.h 7=none/\∀k x,k<i->h.pts[k]?=some x->aG 4194304 x=true) (by simp) ?_;rintro i d hi ⟨g,l,m,j,o,hq⟩;by_cases e:i<h.pts.length
  .have z:=ai e (by omega)
   generalize q:h.pts[i]=v at *
   have H:h.pts[i]?=some v:=by rw[an e,q]
   have A:=oA (p:=aG 4194304) H hq;refine Gz ?_;refine WP.loopN [] 3 (λk d=>True/\d.t 37=.pv (bA h.pts)/\d.t 38=.pv (Z h.pts.length)/\d.t 39=.pv (Z i)/\d.t 43=.pv (aW v)/\d.t 44=.pv (Z k)/\(0<k->gR v.1 4194304=true)/\(1<k->gR v.2.1 4194304=true)/\(2<k->gR v.2.2 4194304=true)) (by simp[g,l,m,j]) ?_;clear g l m j o hq;rintro k d n ⟨g,l,m,j,gA,u,F,I,Q⟩;rcases gx n with rfl|rfl|rfl|rfl
   .skip
    with_reducible repeat' (first|refine Sp.h ?_|((first|refine Ss.h ?_|(refine Sb.h ?_ ?_ ?_<;>(try intro hgd)<;>try exact Xy))<;>simp -implicitDefEqProofs (maxSteps:=2000000) [hP,hN,g,l,m,j,gA,u,z])|refine X2 ?_ ?_|(refine Xd ?_ ?_<;>intro hcd<;>try exact Xx))
    all_goals (try (rw[bM];simp only[yAh,Is]at hgd hcd;omega))
   .skip
    with_reducible repeat' (first|refine Sp.h ?_|((first|refine Ss.h ?_|(refine Sb.h ?_ ?_ ?_<;>(try intro hgd)<;>try exact Xy))<;>simp -implicitDefEqProofs (maxSteps:=2000000) [hP,hN,g,l,m,j,gA,u,z])|refine X2 ?_ ?_|(refine Xd ?_ ?_<;>intro hcd<;>try exact Xx))
    all_goals (try (exact⟨F (by omega),by rw[bM];simp only[yAh,Is]at hgd hcd;omega⟩))
   .skip
    with_reducible repeat' (first|refine Sp.h ?_|((first|refine Ss.h ?_|(refine Sb.h ?_ ?_ ?_<;>(try intro hgd)<;>try exact Xy))<;>simp -implicitDefEqProofs (maxSteps:=2000000) [hP,hN,g,l,m,j,gA,u,z])|refine X2 ?_ ?_|(refine Xd ?_ ?_<;>intro hcd<;>try exact Xx))
    all_goals (try (exact⟨F (by omega),I (by omega),by rw[bM];simp only[yAh,Is]at hgd hcd;omega⟩))
   .have O:aG 4194304 v=true:=dJ.2 ⟨F (by omega),I (by omega),Q (by omega)⟩
    have r:=A O;refine Gz ?_
    all_goals (try exact λk a b c=>r k (a,b,c))
  .have:=ql hq e
   rw[this]at f;cases f
def gl(n:Nat)(shs:List Sh):Int:=match(shs.map (cW n)).find? (λe=>e !=0)with
 |some e=>e
 |none=>0
theorem wz{n:Nat}(b:i<shs.length)(hq:∀k x,k<i->shs[k]?=some x->cW n x=0)(c:cW n shs[i]≠0):gl n shs=cW n shs[i]:=by
 have:(shs.map (cW n)).find? (λe=>e !=0)=some (cW n shs[i]):=by
  rw[yB9];refine⟨by simpa using c,i,by simpa using b,by simp,λk d=>?_⟩
  have a:k<shs.length:=by omega
  simp[hq k shs[k] d (an a)]
 rw[gl,this]
theorem oB{n:Nat}(hq:∀(k:Nat) x,shs[k]?=some x->cW n x=0):gl n shs=0:=by
 have:(shs.map (cW n)).find? (λe=>e !=0)=none:=by
  rw[yBc];intro e a;simp only[yAt]at a;obtain⟨x,c,rfl⟩:=a;obtain⟨k,b⟩:=yAD c;simp[hq k x b]
 rw[gl,this]
def jb(n:Nat)(p:Int×Int):Bool:=cJ n p.1&&cJ n p.2
def az(s:Sce):Int:=if aD s.js s.ms≠0 then aD s.js s.ms else if 24<s.shs.length then 901 else if gl s.js.length s.shs≠0 then gl s.js.length s.shs else if 64<s.sks.length then 903 else if s.sks.all (jb s.js.length)=true then 0 else 903
structure ScL(s:Sce):Prop where
 js:s.js.length<=9223372036854775807
 ms:s.ms.length<=9223372036854775807
 shs:s.shs.length<=9223372036854775807
 sks:s.sks.length<=9223372036854775807
 pts:∀h∈s.shs,h.pts.length<=9223372036854775807
theorem PW(s:Sce)(hs:ScL s):aV 53 (dZ s) (Z (az s)):=by
 have Y:=Nq s.js s.ms hs.js hs.ms;obtain⟨I,l2,l3,X,l5⟩:=hs;by_cases D:aD s.js s.ms=0
 case neg=>
  have hf:az s=aD s.js s.ms:=by simp[az,D]
  have ad:(aD s.js s.ms !=0)=true:=by simp[D]
  rw[hf];generalize aD s.js s.ms=r at *;refine Dp func53 λC hP hN=>?_;exact Gy
 rw[D]at Y;by_cases V:24<s.shs.length
 .have hf:az s=901:=by simp[az,D,V]
  have O:(24:Int)<s.shs.length:=by omega
  rw[hf];refine Dp func53 λC hP hN=>?_;exact Gy
 have O:¬(24:Int)<s.shs.length:=by omega
 have hf:az s=if gl s.js.length s.shs≠0 then gl s.js.length s.shs else if 64<s.sks.length then 903 else if s.sks.all (jb s.js.length)=true then 0 else 903:=by simp only[az,D,V,yAi,ne_eq,yBs]
 rw[hf];refine Dp func53 λC hP hN=>?_;refine Gz ?_;refine WP.loopN [5] s.shs.length (λi d=>d.t 1=.ptr 1 0/\d.h 1=some (.box [.pv (.sl (s.js.map bj)),.pv (.sl (s.ms.map bN)),.pv (.sl (s.shs.map bU)),.pv (.sl (s.sks.map aA))] true false)/\d.t 20=.pv (.sl (s.shs.map bU))/\d.t 21=.pv (Z s.shs.length)/\d.t 22=.pv (Z i)/\d.h 5=none/\d.h 8=none/\∀k x,k<i->s.shs[k]?=some x->cW s.js.length x=0) (by simp) ?_;rintro i d hi ⟨u,f,z,A,B,F,g,hq⟩;by_cases c:i<s.shs.length
 .have W:=ai c l3
  have P:=wz (n:=s.js.length) c hq;have q:=λy=>oA (p:=λx=>cW s.js.length x==0) (an c) (λk x R l=>by simp[hq k x R l]) y;generalize m:s.shs[i]=v at *
  have l:s.shs[i]?=some v:=by rw[an c,m]
  have cc:=Xi s v I (l5 v (In l));generalize cW s.js.length v=e at *;by_cases y:e=0
  .subst y
   have H:∀k x,k<i+1->s.shs[k]?=some x->cW s.js.length x=0:=λk x R l=>by simpa using q rfl k x R l
   refine Gz ?_
   all_goals exact H
  .have ay:(e !=0)=true:=by simp[y]
   have Q:=P y;exact Gy
   all_goals simp[Q,y]
 .have hz:gl s.js.length s.shs=0:=oB (λk x l=>hq k x (by have:=(th.1 l).1;omega) l)
  rw[hz];by_cases ax:64<s.sks.length
  .have E:(64:Int)<s.sks.length:=by omega
   exact Gy
  .have E:¬(64:Int)<s.sks.length:=by omega
   cases j:s.sks.all (jb s.js.length)with
   |true=>
    refine Gz ?_;refine WP.loopN [8] s.sks.length (λi d=>d.t 1=.ptr 1 0/\d.h 1=some (.box [.pv (.sl (s.js.map bj)),.pv (.sl (s.ms.map bN)),.pv (.sl (s.shs.map bU)),.pv (.sl (s.sks.map aA))] true false)/\d.t 38=.pv (.sl (s.sks.map aA))/\d.t 39=.pv (Z s.sks.length)/\d.t 40=.pv (Z i)/\d.h 8=none) (by simp[u,f,g]) ?_;clear u f z A B F g hq c;rintro i d hi ⟨u,f,L,M,N,g⟩;by_cases c:i<s.sks.length
    .have W:=ai c X
     have S:=IV.1 j _ (yAq c);generalize m:s.sks[i]=v at *
     have l:s.sks[i]?=some v:=by rw[an c,m]
     simp only[jb,An]at S;have J:=GU s v.1 I;have K:=GU s v.2 I;rw[S.1]at J;rw[S.2]at K;exact Gy
    .skip
     exact Gy
   |false=>
    refine Gz ?_;refine WP.loopN [8] s.sks.length (λi d=>d.t 1=.ptr 1 0/\d.h 1=some (.box [.pv (.sl (s.js.map bj)),.pv (.sl (s.ms.map bN)),.pv (.sl (s.shs.map bU)),.pv (.sl (s.sks.map aA))] true false)/\d.t 38=.pv (.sl (s.sks.map aA))/\d.t 39=.pv (Z s.sks.length)/\d.t 40=.pv (Z i)/\d.h 8=none/\∀k x,k<i->s.sks[k]?=some x->jb s.js.length x=true) (by simp[u,f,g]) ?_;clear u f z A B F g hq c;rintro i d hi ⟨u,f,L,M,N,g,hq⟩;by_cases c:i<s.sks.length
    .have W:=ai c X
     generalize m:s.sks[i]=v at *
     have l:s.sks[i]?=some v:=by rw[an c,m]
     have q:=oA (p:=jb s.js.length) l hq;have J:=GU s v.1 I;have K:=GU s v.2 I;have o:jb s.js.length v=(cJ s.js.length v.1&&cJ s.js.length v.2):=rfl
     cases T:cJ s.js.length v.1 with
     |false=>
      rw[T]at J;exact Gy
     |true=>
      rw[T]at J o
      cases U:cJ s.js.length v.2 with
      |false=>
       rw[U]at K;exact Gy
      |true=>
       rw[U]at K o;have G:=q o;refine Gz ?_
       all_goals exact λk a b=>G k (a,b)
    .have:=ql hq c
     rw[this]at j;cases j
def Dv(i:Nat)(j:J):Prop:=(0<=j.kind/\j.kind<=6)/\-1<=j.parent/\j.parent<(i:Int)
def rZ(js:List J):Prop:=∀i j,js[i]?=some j->Dv i j
theorem LP{j:J}(h:bS js i j=0):Dv i j:=by
 unfold bS at h
 repeat' split at h
 all_goals (try (cases h;done))
 all_goals (try omega)
 refine⟨by omega,by omega,by omega⟩
theorem tc{ms:List Ms}(h:aD js ms=0):rZ js/\js.length<=10/\1<=js.length:=by
 unfold aD at h;split at h
 .cases h
 .rename_i n
  split at h
  .rename_i c;exact absurd h c
  .rename_i k
   refine⟨λi j b=>?_,by omega,by omega⟩;have l:=(th.1 b).1
   have a:iT js=0:=by simpa using k
   rw[pP]at a;by_cases d:bS js i j=0
   .exact LP d
   .exfalso
    cases hf:(js.mapIdx (bS js)).find? (λe=>e !=0)with
    |none=>
     rw[yBc]at hf
     have m:bS js i j∈js.mapIdx (bS js):=by
      rw[List.mem_mapIdx];obtain⟨f,g⟩:=th.1 b;exact⟨i,f,by rw[g]⟩
     exact hf _ m (by simpa using d)
    |some e=>
     rw[hf]at a;have:=yBF hf;simp only at a;rw[a]at this;simp at this
theorem nK(h:az s=0):rZ s.js/\s.js.length<=10/\1<=s.js.length/\s.shs.length<=24/\s.sks.length<=64/\(∀x∈s.shs,cJ s.js.length x.link=true/\gc x=true)/\∀p∈s.sks,jb s.js.length p=true:=by
 unfold az at h;split at h
 .rename_i b;exact absurd h b
 .rename_i d
  have d:aD s.js s.ms=0:=by simpa using d
  split at h
  .cases h
  .rename_i v
   split at h
   .rename_i b;exact absurd h b
   .rename_i c
    have c:gl s.js.length s.shs=0:=by simpa using c
    split at h
    .cases h
    .rename_i y
     split at h
     .rename_i q
      obtain⟨g,i,j⟩:=tc d;refine⟨g,i,j,by omega,by omega,λx u=>?_,λp hp=>IV.1 q p hp⟩
      have a:cW s.js.length x=0:=by
       by_cases a:cW s.js.length x=0
       .exact a
       .exfalso
        unfold gl at c
        cases hf:(s.shs.map (cW s.js.length)).find? (λe=>e !=0)with
        |none=>
         rw[yBc]at hf;exact hf _ (yAt.2 ⟨x,u,rfl⟩) (by simpa using a)
        |some e=>
         rw[hf]at c;have:=yBF hf;simp only at c;rw[c]at this;simp at this
      unfold cW at a;split at a
      .rename_i f
       split at a
       .rename_i r
        simp only[An,Is]at f;obtain⟨⟨⟨⟨k,l⟩,m⟩,n⟩,o⟩:=f;refine⟨k,?_⟩;simp only[gc,An,Is];exact⟨⟨⟨⟨l,m⟩,n⟩,o⟩,r⟩
       .cases a
      .cases a
     .cases h
theorem Xj(a b c d:Int):aj prog (Op.equal 94 (.agg #[.int .i64 a,.int .i64 b]) (.agg #[.int .i64 c,.int .i64 d]))=some (a==c&&b==d):=by
 have hf:(prog.fieldsOf 94).toList=[(prog.fieldsOf 94)[0]!,(prog.fieldsOf 94)[1]!]:=by kernel_rfl
 show aj prog (Op.equalIn (9999+1) 94 _ _)=_;rw[xg 9999 94 _ _ (by kernel_rfl) (by kernel_rfl),hf]
 have h:=nE (P:=prog) (d:=9999) (xs:=#[.int .i64 a,.int .i64 b]) (ys:=#[.int .i64 c,.int .i64 d]) (f:=(prog.fieldsOf 94)[0]!) (fs:=[(prog.fieldsOf 94)[1]!]) (a:=.int .i64 a) (b:=.int .i64 c) (by decide +kernel) (by kernel_rfl) (by kernel_rfl) (og 9998 _ .i64 .i64 a c (by kernel_rfl))
  (nE (by decide +kernel) (a:=.int .i64 b) (b:=.int .i64 d) (by kernel_rfl) (by kernel_rfl) (og 9998 _ .i64 .i64 b d (by kernel_rfl)) F3)
 rw[h];simp
def J3(x y:AV)(e:Option bF):Option bF:=match yR x,yR y with
 |some (a,b),some (c,d)=>some (.pv (.val (.bool (a==c&&b==d))),[])
 |_,_=>e
@[simp] theorem Uu(a b c d:Int)(e:Option bF):J3 (.pv (.val (.agg #[.int .i64 a,.int .i64 b]))) (.pv (.val (.agg #[.int .i64 c,.int .i64 d]))) e=some (.pv (.val (.bool (a==c&&b==d))),[]):=rfl
@[simp] theorem Z7{dst:Option Nat}{ty:TypeId}{pos:String}{aft:Array Edge}{g:Option (Nat×Bool)}{ρ:Operand->AV}(x y:Operand):
 bf prog ⟨dst,.binOp .eql 94 x y 94,ty,pos,aft,g⟩ ρ=J3 (ρ x) (ρ y) (gk prog ⟨dst,.binOp .eql 94 x y 94,ty,pos,aft,g⟩ ρ):=by
 unfold J3;split
 .rename_i a b c d e f
  exact qI rfl (qJ e) (qJ f) (by kernel_rfl) (Xj a b c d)
 .rfl
def xM(a b:Int)(p:Int×Int):Bool:=(p.1==a&&p.2==b)||(p.1==b&&p.2==a)
def ke(s:Sce)(a b:Int):Bool:=s.sks.any (xM a b)
theorem N7{v:α}(h:xs[i]?=some v)(hp:p v=true):xs.any p=true:=yBQ.2 ⟨v,In h,hp⟩
theorem N8(hq:∀k x,k<i->xs[k]?=some x->p x=false)(h:¬i<xs.length):xs.any p=false:=by
 rw[yBH];intro x b;obtain⟨k,a⟩:=yAD b;simp[hq k x (by have:=(th.1 a).1;omega) a]
theorem J4{v:α}(b:xs[i]?=some v)(hq:∀k x,k<i->xs[k]?=some x->p x=false)(hp:p v=false):∀k x,k<i+1->xs[k]?=some x->p x=false:=by
 intro k x c a;by_cases e:k=i
 .subst e;rw[b]at a;injection a with a;subst a;exact hp
 .exact hq k x (by omega) a
theorem Xk(s:Sce)(a b:Int)(z:s.sks.length<=9223372036854775807):jQ 271 (dZ s) (Z a) (Z b) (B (ke s a b)):=by
 have f:ke s a b=s.sks.any (xM a b):=rfl;rw[f];refine Dp func271 λC hP hN=>?_;refine Gz ?_;refine WP.loopN [8] s.sks.length (λi d=>d.t 1=.pv (Z a)/\d.t 2=.pv (Z b)/\d.t 10=.pv (.sl (s.sks.map aA))/\d.t 11=.pv (Z s.sks.length)/\d.t 12=.pv (Z i)/\d.h 8=none/\∀k x,k<i->s.sks[k]?=some x->xM a b x=false) (by simp) ?_;rintro i d hi ⟨D,E,q,r,u,y,hq⟩;by_cases c:i<s.sks.length
 .have G:=ai c z
  generalize j:s.sks[i]=v at *
  have o:s.sks[i]?=some v:=by rw[an c,j]
  have g:=J4 (p:=xM a b) o hq;have n:=N7 (p:=xM a b) o;have hp:xM a b v=((v.1==a&&v.2==b)||(v.1==b&&v.2==a)):=rfl
  cases l:(v.1==a&&v.2==b)with
  |true=>
   rw[l,Bool.true_or]at hp;have A:=n hp;exact Gy
  |false=>
   rw[l,Bool.false_or]at hp
   cases m:(v.1==b&&v.2==a)with
   |true=>
    rw[m]at hp;have A:=n hp;exact Gy
   |false=>
    rw[m]at hp;have e:=g hp;refine Gz ?_
    all_goals exact λk a b=>e k (a,b)
 .have F:=N8 hq c
  exact Gy
def Xl(L:List Int)(i:Nat)(j:J):Int:=if j.lo=j.hi then(L[(j.parent+1).toNat]?).getD 0 else(i:Int)
def qm(js:List J):Nat->List Int
 |0=>[-1]
 |i+1=>match js[i]? with
  |some j=>qm js i++[Xl (qm js i) i j]
  |none=>qm js i
def kC(js:List J):List Int:=qm js js.length
theorem r7{js:List J}:∀i,i<=js.length->(qm js i).length=i+1
 |0,_=>rfl
 |i+1,h=>by
  have a:i<js.length:=by omega
  have ih:=r7 (js:=js) i (by omega);simp only[qm,an a,yAo,ih,yA1]
theorem r8{js:List J}{k:Nat}:∀i,k<=i->i<=js.length->∀q,q<=k->(qm js i)[q]?=(qm js k)[q]?
 |0,b,c,q,hq=>by have:k=0:=by omega
                 subst this;rfl
 |i+1,b,c,q,hq=>by
  by_cases e:k=i+1
  .subst e;rfl
  .have a:i<js.length:=by omega
   rw[<-r8 i (by omega) (by omega) q hq];simp only[qm,an a];rw[ZX (by rw[r7 i (by omega)];omega)]
theorem IQ{j:J}(b:js[i]?=some j)(e:Dv i j):(kC js)[i+1]?=some (if j.lo=j.hi then((kC js)[(j.parent+1).toNat]?).getD 0 else(i:Int)):=by
 have f:=(th.1 b).1;obtain⟨_,g,l⟩:=e;have c:(kC js)[i+1]?=(qm js (i+1))[i+1]?:=r8 js.length (k:=i+1) (by omega) (yAd _) _ (yAd _);have d:(kC js)[(j.parent+1).toNat]?=(qm js i)[(j.parent+1).toNat]?:=r8 js.length (k:=i) (by omega) (yAd _) _ (by omega);rw[c,d];have a:=r7 (js:=js) i (by omega);simp only[qm,b];rw[yAa (by omega),a,yBO];rfl
theorem Xm(js:List J)(ms:List Ms)(Q:rZ js)(hl:js.length<=10):aV 270 (gH js ms) (zs (kC js)):=by
 have T:(kC js).length=js.length+1:=r7 _ (yAd _);have y:(kC js)[0]?=some (-1):=r8 js.length (k:=0) (by omega) (yAd _) 0 (yAd _);have D:=λi j(h:js[i]?=some j)=>IQ h (Q i j h);generalize kC js=l at *;have X:i64.wrap ((js.length:Int)+1)=((js.length+1:Nat):Int):=(aa (by omega) (by omega)).trans (by omega);refine Dp func270 λC hP hN=>?_;refine GT (go X (show(8:Int)*((js.length:Int)+1)<=281474976710656 by omega) (show(js.length:Int)+1<=9223372036854775807 by omega) (show(0:Int)<=(js.length:Int)+1 by omega)) ?_;refine WP.loopN [5] js.length (λi f=>∃R:List Int,f.t 3=.arr 10 (js.length+1)/\f.t 14=.pv (.sl (js.map bj))/\f.t 15=.pv (Z js.length)/\f.t 16=.pv (Z i)/\f.h 5=none/\f.h 10=some (.row 3 1 (R.map Z) 0)/\R.length=js.length+1/\∀k,k<=i->R[k]?=l[k]?) ?_ ?_
 .refine⟨(List.replicate (js.length+1) 0).set 0 (-1),?_⟩
  simp[y,yBv,List.map_replicate]
 rintro i f hi ⟨R,g3,s,u,v,E,m,a,z⟩;by_cases d:i<js.length
 .have W:=ai d (by omega)
  generalize r:js[i]=j at *
  have N:js[i]?=some j:=by rw[an d,r]
  have g:=D i j N;obtain⟨_,U,V⟩:=Q i j N;obtain⟨p,hp⟩:∃p:Nat,j.parent+1=p:=⟨(j.parent+1).toNat,by omega⟩;have Y:i64.wrap (j.parent+1)=(p:Int):=(aa (by omega) (by omega)).trans hp
  have o:p<=i:=by omega
  have K:p<R.length:=by omega
  have c:i+1<R.length:=by omega
  have b:R[p]?=some R[p]:=an K;have B:R[i+1]?=some R[i+1]:=an c
  have M:((i:Int)+1).toNat=i+1:=by omega
  have G:(0:Int)<=(i:Int)+1:=by omega
  rw[hp]at g
  have L:l[p]?=some R[p]:=by rw[<-z p o];exact b
  rw[yAm,L,yAl]at g;generalize R[p]=P at *
  have key:∀x,l[i+1]?=some x->∀k,k<=i+1->(R.set (i+1) x)[k]?=l[k]?:=by
   intro x O k S;rw[yAe];by_cases e:i+1=k
   .subst e;rw[yAb rfl,yAb c,O]
   .rw[L4 e];exact z k (by omega)
  have q:((R.map Z).set (i+1) (Z (i:Int)))[p]?=some (Z P):=by rw[yAe,L4 (by omega),ZW,b];rfl
  have H:∀h,((R.map Z).set (i+1) (Z (i:Int)))[p]'h=Z P:=λh=>by
   have:=an h;rw[q]at this;injection this with this;exact this.symm
  by_cases n:j.lo=j.hi
  .rw[yAb n]at g
   have F:(j.lo==j.hi)=true:=by simp[n]
   with_reducible repeat' (first|refine Sp.h ?_|((first|refine Ss.h ?_|(refine Sb.h ?_ ?_ ?_<;>(try intro hgd)<;>try exact Xy))<;>simp -implicitDefEqProofs (maxSteps:=2000000) [hP,hN,g3,s,u,v,E,m,d,W,N,r,a,c,o,Y,n,B,M,G,b,q,H,show p<js.length+1 by omega])|refine X2 ?_ ?_|(refine Xd ?_ ?_<;>intro hcd<;>try exact Xx))
   all_goals exact⟨R.set (i+1) P,by simp[yBv],by simp[a],key _ g⟩
  .rw[L4 n]at g
   have F:(j.lo==j.hi)=false:=by simp[n]
   refine Gz ?_
   all_goals exact⟨R.set (i+1) (i:Int),by simp[yBv],by simp[a],key _ g⟩
 .have I:i=js.length:=by omega
  subst I
  have A:R=l:=by
   apply yAK;intro k;by_cases S:k<=js.length
   .exact z k S
   .rw[yAf (by omega),yAf (by omega)]
  subst A;exact Gy
def uB(h:Sh):Nat:=(h.link+1).toNat
def Dw(c:List Int)(a b:Sh):Bool:=(c[uB a]?).getD 0==(c[uB b]?).getD 0
def Fj(s:Sce)(a b:Sh):Bool:=!Dw (kC s.js) a b&& !ke s a.link b.link
def ge(s:Sce)(i q:Nat):Bool:=match s.shs[i]?,s.shs[q]? with
 |some a,some b=>Fj s a b
 |_,_=>false
def lz(s:Sce)(i:Nat):Nat->List (Nat×Nat)
 |0=>[]
 |k+1=>lz s i k++(if i<k/\ge s i k=true then[(i,k)]else[])
def jD(s:Sce):Nat->List (Nat×Nat)
 |0=>[]
 |i+1=>jD s i++lz s i s.shs.length
def bY(s:Sce):List (Nat×Nat):=if az s=0 then jD s s.shs.length else[]
abbrev td(p:Nat×Nat):PV:=.val (.agg #[.int .i64 (p.1:Int),.int .i64 (p.2:Int)])
theorem Dx(s:Sce)(i:Nat):∀k,k<=i+1->lz s i k=[]
 |0,_=>rfl
 |k+1,h=>by
  have:¬i<k:=by omega
  simp[lz,Dx s i k (by omega),this]
theorem zi(s:Sce)(i:Nat):∀k,(lz s i k).length<=k
 |0=>yAd _
 |k+1=>by
  have:=zi s i k;simp only[lz,yAo];split<;>simp<;>omega
theorem zj(s:Sce):∀i,(jD s i).length<=i*s.shs.length
 |0=>by simp[jD]
 |i+1=>by
  have:=zj s i;have:=zi s i s.shs.length;simp only[jD,yAo,yAM];omega
theorem N9{h:Sh}(b:cJ s.js.length h.link=true):∃x,(kC s.js)[uB h]?=some x/\uB h<(kC s.js).length/\h.link+1=(uB h:Int)/\h.link<s.js.length:=by
 simp only[cJ,An,Is]at b;have c:(kC s.js).length=s.js.length+1:=r7 _ (yAd _)
 have a:uB h<(kC s.js).length:=by unfold uB;omega
 exact⟨_,an a,a,by unfold uB;omega,b.2⟩
theorem Xn(s:Sce)(hs:ScL s):aV 217 (dZ s) (.sl ((bY s).map td)):=by
 have cc:=PW s hs;by_cases O:az s=0
 case neg=>
  have hf:bY s=[]:=by simp[bY,O]
  have bs:(az s !=0)=true:=by simp[O]
  rw[hf];generalize az s=r at *;refine Dp func217 λC hP hN=>?_;exact Gy
 have hf:bY s=jD s s.shs.length:=by simp[bY,O]
 rw[hf];rw[O]at cc;obtain⟨v1,v2,v3,v4,v5,v6,v7⟩:=nK O;have cr:=Xm s.js s.ms v1 v2;have W:=λa b=>Xk s a b hs.sks;have R:=λh(hh:h∈s.shs)=>N9 (s:=s) (v6 h hh).1;have a7:∀a b:Sh,Fj s a b=(!Dw (kC s.js) a b&& !ke s a.link b.link):=λ_ _=>rfl;generalize kC s.js=M at *;have nL:=zj s;have iL:=zi s;refine Dp func217 λC hP hN=>?_;refine rG [4] trivial ?_;refine WP.loopN [6,8] s.shs.length (λi c=>c.t 1=.ptr 1 0/\c.h 1=some (.box [.pv (.sl (s.js.map bj)),.pv (.sl (s.ms.map bN)),.pv (.sl (s.shs.map bU)),.pv (.sl (s.sks.map aA))] true false)/\c.t 3=.pv (zs M)/\c.t 17=.pv (.sl (s.shs.map bU))/\c.t 18=.pv (Z s.shs.length)/\c.t 19=.pv (Z i)/\c.h 6=none/\c.h 8=none/\c.t 4=.arr 4 (jD s i).length/\c.h 4=some (.row 210 2 ((jD s i).map td) 0)) (by simp[jD]) ?_;rintro i c hi ⟨N,m,g3,g,j,l,n,o,A,d⟩;by_cases S:i<s.shs.length
 .have hw:=ai S (by omega)
  generalize bk:s.shs[i]=a at *
  have hx:s.shs[i]?=some a:=by rw[an S,bk]
  obtain⟨xa,u,D,Q,b0⟩:=R a (In hx)
  have F:∀h,M[uB a]'h=xa:=λh=>by have:=an h;rw[u]at this;injection this with this;exact this.symm
  have I:jD s (i+1)=jD s i++lz s i s.shs.length:=rfl;have b5:=nL i;have b4:i*s.shs.length<=24*24:=yBk (by omega) (by omega);have J:i64.wrap (a.link+1)=(uB a:Int):=(aa (by omega) (by omega)).trans Q;have b1:a.link+1=(uB a:Int):=Q;refine Gz ?_;refine WP.loopN [8] (s.shs.length-(i+1)) (λq c=>c.t 1=.ptr 1 0/\c.h 1=some (.box [.pv (.sl (s.js.map bj)),.pv (.sl (s.ms.map bN)),.pv (.sl (s.shs.map bU)),.pv (.sl (s.sks.map aA))] true false)/\c.t 3=.pv (zs M)/\c.t 17=.pv (.sl (s.shs.map bU))/\c.t 18=.pv (Z s.shs.length)/\c.t 19=.pv (Z i)/\c.t 5=.pv (Z i)/\c.t 6=.ptr 6 0/\c.h 6=some (.box [.pv (Z a.link),.pv (Z a.rad),.pv (bA a.pts)] true false)/\c.h 8=none/\c.t 7=.pv (Z ((i+1+q:Nat):Int))/\c.t 4=.arr 4 (jD s i++lz s i (i+1+q)).length/\c.h 4=some (.row 210 2 ((jD s i++lz s i (i+1+q)).map td) 0)) (by simp[N,m,g3,g,j,l,n,o,A,d,Dx]) ?_;clear N m g3 g j l n o A d;rintro q c hq ⟨N,m,g3,g,j,l,X,Y,n,o,U,A,d⟩;obtain⟨k,hk⟩:∃k,k=i+1+q:=⟨_,rfl⟩
  have a5:i+1+(q+1)=k+1:=by omega
  rw[<-hk]at U A d;rw[a5];have ad:lz s i (k+1)=lz s i k++(if i<k/\ge s i k=true then[(i,k)]else[]):=rfl;have b3:=iL i k;by_cases y:k<s.shs.length
  .have f:(k:Int)<(s.shs.length:Int):=by omega
   have L:i64.wrap ((k:Int)+1)=(k:Int)+1:=aa;generalize z:s.shs[k]=b at *
   have T:s.shs[k]?=some b:=by rw[an y,z]
   obtain⟨xb,v,E,ay,b2⟩:=R b (In T)
   have G:∀h,M[uB b]'h=xb:=λh=>by have:=an h;rw[v]at this;injection this with this;exact this.symm
   have K:i64.wrap (b.link+1)=(uB b:Int):=(aa (by omega) (by omega)).trans ay
   have p:ge s i k=(!Dw M a b&& !ke s a.link b.link):=by simp only[ge,hx,T,a7]
   have a8:Dw M a b=(xa==xb):=by simp only[Dw,u,v,yAl]
   rw[a8]at p;have V:=W a.link b.link
   have a1:i<k:=by omega
   have bq:(jD s i++lz s i k).length<=1000:=by simp only[yAo];omega
   generalize B:jD s i++lz s i k=P at *
   have H:q<s.shs.length-(i+1):=by omega
   have ax:jD s i++lz s i (k+1)=P++(if ge s i k=true then[(i,k)]else[]):=by
    rw[ad,<-List.append_assoc,B];simp[a1]
   rw[ax];generalize ke s a.link b.link=sk at *
   cases x:(xa==xb)with
   |true=>
    rw[x]at p
    have e:ge s i k=false:=by rw[p];rfl
    rw[e]
    with_reducible repeat' (first|refine Sp.h ?_|((first|refine Wd ?_|refine Ss.h ?_|refine Sc.h (V) ?_|(refine Sb.h ?_ ?_ ?_<;>(try intro hgd)<;>try exact Xy))<;>simp -implicitDefEqProofs (maxSteps:=2000000) [hP,hN,N,m,g3,g,j,l,X,Y,n,o,U,A,d,y,f,L,T,z,J,K,u,D,v,E,F,G,x,H]<;>try refine Ya ?_)|refine X2 ?_ ?_|(refine Xd ?_ ?_<;>intro hcd<;>try exact Xx))
   |false=>
    rw[x]at p
    cases sk with
    |true=>
     have e:ge s i k=false:=by rw[p];rfl
     rw[e]
     with_reducible repeat' (first|refine Sp.h ?_|((first|refine Wd ?_|refine Ss.h ?_|refine Sc.h (V) ?_|(refine Sb.h ?_ ?_ ?_<;>(try intro hgd)<;>try exact Xy))<;>simp -implicitDefEqProofs (maxSteps:=2000000) [hP,hN,N,m,g3,g,j,l,X,Y,n,o,U,A,d,y,f,L,T,z,J,K,u,D,v,E,F,G,x,H]<;>try refine Ya ?_)|refine X2 ?_ ?_|(refine Xd ?_ ?_<;>intro hcd<;>try exact Xx))
    |false=>
     have e:ge s i k=true:=by rw[p];rfl
     rw[e]
     with_reducible repeat' (first|refine Sp.h ?_|((first|refine Wd ?_|refine Ss.h ?_|refine Sc.h (V) ?_|(refine Sb.h ?_ ?_ ?_<;>(try intro hgd)<;>try exact Xy))<;>simp -implicitDefEqProofs (maxSteps:=2000000) [hP,hN,N,m,g3,g,j,l,X,Y,n,o,U,A,d,y,f,L,T,z,J,K,u,D,v,E,F,G,x,H,show(P.length+1)*16<=140737488355328 by omega,show P.length<=9223372036854775806 by omega]<;>try refine Ya ?_)|refine X2 ?_ ?_|(refine Xd ?_ ?_<;>intro hcd<;>try exact Xx))
  .have a6:k=s.shs.length:=by omega
   have f:¬(k:Int)<(s.shs.length:Int):=by omega
   rw[a6,<-I]at A d;exact Gy
 .have a2:i=s.shs.length:=by omega
  subst a2;exact Gy
theorem Xo(x:Int×Int):aV 315 (aA x) (B (!al x.1 x.2)):=by
 refine Dp func315 λC hP hN=>?_;have a:=@jI;exact GS trivial
 all_goals (first|(simp_all;done)|((try simp_all)<;>(try omega)<;>grind))
def iw(js:List J)(bx:List Iv):Bool:=decide (bx.length=js.length)&&au vI bx
theorem Xp(js:List J)(ms:List Ms)(bx:List Iv)(e:js.length<=9223372036854775807)(a:bx.length<=9223372036854775807):aL 272 (gH js ms) (iv bx) (B (iw js bx)):=by
 have cc:=RI 315 (λx=>!al x.1 x.2) bx a Xo;have d:(bx.any λx=>!al x.1 x.2)=!au vI bx:=Ig vI bx;rw[d]at cc;have hd:iw js bx=(decide (bx.length=js.length)&&au vI bx):=rfl;rw[hd];generalize au vI bx=c at *;by_cases h:bx.length=js.length
 .have b:((bx.length:Int)==(js.length:Int))=true:=by simp[h]
  cases c
  all_goals
   refine Dp func272 λC hP hN=>?_;exact Gy
 .have b:((bx.length:Int)==(js.length:Int))=false:=by simp;omega
  refine Dp func272 λC hP hN=>?_;exact Gy
def zP:jP:=((((0,0),(0,0),(0,0)),((0,0),(0,0),(0,0)),((0,0),(0,0),(0,0))),((0,0),(0,0),(0,0)))
def zk(L:List jP)(j:J)(v:Iv):jP:=if j.parent=-1 then kQ j v else mw ((L[j.parent.toNat]?).getD zP) (kQ j v)
def iy(js:List J)(bx:List Iv):Nat->List jP
 |0=>[]
 |i+1=>match js[i]?,bx[i]? with
  |some j,some v=>iy js bx i++[zk (iy js bx i) j v]
  |_,_=>iy js bx i
def ij(js:List J)(bx:List Iv):List jP:=iy js bx js.length
theorem kD{js:List J}{bx:List Iv}(c:bx.length=js.length):∀i,i<=js.length->(iy js bx i).length=i
 |0,_=>rfl
 |i+1,h=>by
  have b:i<js.length:=by omega
  have a:i<bx.length:=by omega
  have ih:=kD c i (by omega);simp only[iy,an b,an a,yAo,ih,yA1]
theorem vW{js:List J}{bx:List Iv}(c:bx.length=js.length){k:Nat}:∀i,k<=i->i<=js.length->∀q,q<k->(iy js bx i)[q]?=(iy js bx k)[q]?
 |0,d,f,q,hq=>by omega
 |i+1,d,f,q,hq=>by
  by_cases e:k=i+1
  .subst e;rfl
  .have b:i<js.length:=by omega
   have a:i<bx.length:=by omega
   rw[<-vW c i (by omega) (by omega) q hq];simp only[iy,an b,an a];rw[ZX (by rw[kD c i (by omega)];omega)]
theorem GV(c:bx.length=js.length){j:J}{v:Iv}(d:js[i]?=some j)(o:bx[i]?=some v)(g:Dv i j):(ij js bx)[i]?=some (if j.parent=-1 then kQ j v else mw (((ij js bx)[j.parent.toNat]?).getD zP) (kQ j v)):=by
 have l:=(th.1 d).1;obtain⟨_,m,n⟩:=g;have e:(ij js bx)[i]?=(iy js bx (i+1))[i]?:=vW c js.length (k:=i+1) (by omega) (yAd _) _ (by omega);rw[e];have a:=kD c i (by omega);simp only[iy,d,o];rw[yAa (by omega),a,yBO];show some (zk (iy js bx i) j v)=_;unfold zk;by_cases b:j.parent=-1
 .rw[yAb b,yAb b]
 .rw[L4 b,L4 b]
  have f:(ij js bx)[j.parent.toNat]?=(iy js bx i)[j.parent.toNat]?:=vW c js.length (k:=i) (by omega) (yAd _) _ (by omega);rw[f]
theorem QH:bO zP=.val (.agg #[.int .i64 0,.int .i64 0,.int .i64 0,.int .i64 0,.int .i64 0,.int .i64 0,.int .i64 0,.int .i64 0,.int .i64 0,.int .i64 0,.int .i64 0,.int .i64 0,.int .i64 0,.int .i64 0,.int .i64 0,.int .i64 0,.int .i64 0,.int .i64 0,.int .i64 0,.int .i64 0,.int .i64 0,.int .i64 0,.int .i64 0,.int .i64 0]):=rfl
theorem QI:bL aM=.val (.agg #[.int .i64 0,.int .i64 0,.int .i64 0,.int .i64 0,.int .i64 0,.int .i64 0]):=rfl
theorem uC{R:List PV}{k:Nat}{x:PV}(h:R[k]?=some x):∀a,R[k]'a=x:=λa=>by
 have:=an a;rw[h]at this;injection this with this;exact this.symm
set_option maxRecDepth 4000 in
theorem Xq(js:List J)(ms:List Ms)(bx:List Iv)(hj:rZ js)(hl:js.length<=10)(hb:bx.length=js.length):aL 273 (gH js ms) (iv bx) (.sl ((ij js bx).map bO)):=by
 have Y:(ij js bx).length=js.length:=kD hb _ (yAd _);have ay:=λi j v(U:js[i]?=some j)(X:bx[i]?=some v)=>GV hb U X (hj i j U);generalize ij js bx=n at *;generalize H:n.map bO=D at *
 have b2:D.length=js.length:=by rw[<-H];simpa using Y
 have K:∀k p,n[k]?=some p->D[k]?=some (bO p):=λk p h=>by rw[<-H,ZW,h];rfl
 refine Dp func273 λC hP hN=>?_;refine GT (gA (show(192:Int)*(js.length:Int)<=281474976710656 by omega) (show(js.length:Int)<=9223372036854775807 by omega)) ?_;refine WP.loopN [7] js.length (λi m=>∃R:List PV,m.t 1=.pv (iv bx)/\m.t 5=.arr 11 js.length/\m.t 13=.pv (.sl (js.map bj))/\m.t 14=.pv (Z js.length)/\m.t 15=.pv (Z i)/\m.h 7=none/\m.h 11=some (.row 283 24 R 0)/\R.length=js.length/\(∀k,i<=k->k<js.length->R[k]?=some (bO zP))/\∀k,k<i->R[k]?=D[k]?) ?_ ?_
 .refine⟨List.replicate js.length (bO zP),?_⟩
  rw[QH];simp
  try (intro k V;first|exact V|simp[yAx,V])
 rintro i m hi ⟨R,g1,g5,E,F,G,N,l,c,L,hR⟩;by_cases d:i<js.length
 .have hw:=ai d (by omega)
  generalize z:js[i]=j at *
  have W:js[i]?=some j:=by rw[an d,z]
  have f:i<bx.length:=by omega
  generalize u:bx[i]=v at *
  have hv:bx[i]?=some v:=by rw[an f,u]
  obtain⟨⟨a2,a5⟩,b3,b4⟩:=hj i j W;have cj:=Xf (a:=v.1) (b:=v.2) j a2 a5;have M:=ay i j v W hv;have o:=L i (yAd _) d;have O:=uC o
  have P:i<R.length:=by omega
  generalize hq:kQ j (v.1,v.2)=q at *
  have key:∀x,n[i]?=some x->(∀k,i+1<=k->k<js.length->(R.set i (bO x))[k]?=some (bO zP))/\∀k,k<i+1->(R.set i (bO x))[k]?=D[k]?:=by
   intro x b1;refine⟨λk U X=>?_,λk U=>?_⟩
   .rw[yAe,L4 (by omega)];exact L k (by omega) X
   .rw[yAe]
    by_cases e:i=k
    .subst e;rw[yAb rfl,yAb P,K i x b1]
    .rw[L4 e];exact hR k (by omega)
  have S:(R.set i (bO q))[i]?=some (bO q):=by rw[yAe,yAb rfl,yAb P]
  have bq:=uC S;have bs:∀y,(R.set i (bO q)).set i y=R.set i y:=λy=>List.set_set ..;by_cases B:j.parent=-1
  .rw[yAb B]at M
   obtain⟨A,g⟩:=key q M
   have r:(j.parent==-1)=true:=by simp[B]
   have s:(j.parent != -1)=false:=by simp[B]
   refine GT (zAe g1 g5 E F G N l c d f hw W z hv (it u o O r s)) ?_
   all_goals first|exact⟨_,rfl,by simp[c],A,g⟩|exact⟨A,g⟩|exact⟨by simp[c],A,g⟩|exact g
  .rw[L4 B]at M
   obtain⟨p,hp⟩:∃p:Nat,j.parent=p:=⟨j.parent.toNat,by omega⟩
   have r:(j.parent==-1)=false:=by simp[B]
   have s:(j.parent != -1)=true:=by simp[B]
   have a6:(0:Int)<=j.parent:=by omega
   have Q:j.parent.toNat=p:=by omega
   have a7:p<i:=by omega
   have bk:p<n.length:=by omega
   have I:n[p]?=some n[p]:=an bk;rw[Q,I,yAl]at M;have ax:=(hR p a7).trans (K p _ I);generalize n[p]=pp at *;obtain⟨A,g⟩:=key _ M
   have T:(R.set i (bO q))[p]?=some (bO pp):=by rw[yAe,L4 (by omega)];exact ax
   have b0:=uC T
   have a8:p<js.length:=by omega
   have q1:=@xL;refine GT (zAe g1 g5 E F G N l c d f hw W z hv (zAd u o O a6 Q r s S bq bs T (gA b0 a8))) ?_
   all_goals first|exact⟨_,rfl,by simp[c],A,g⟩|exact⟨A,g⟩|exact⟨by simp[c],A,g⟩|exact g
 .have a1:i=js.length:=by omega
  subst a1
  have ad:R=D:=by
   apply yAK;intro k;by_cases V:k<js.length
   .exact hR k V
   .rw[yAf (by omega),yAf (by omega)]
  subst ad;exact Gy
def dp(h:Sh)(p:jP):List aq:=h.pts.map λq=>gE p (dm q)
set_option maxRecDepth 4000 in
theorem Xr(h:Sh)(p:jP)(hs:gc h=true):aL 275 (bU h) (bO p) (aU (dp h p)):=by
 have K:1<=h.pts.length/\h.pts.length<=8:=by
  simp only[gc,An,Is]at hs;obtain⟨⟨⟨_,M⟩,N⟩,_⟩:=hs;exact⟨M,N⟩
 have cc:=Xg h (by omega);rw[hs]at cc;have F:dp h p=h.pts.map λq=>gE p (dm q):=rfl;rw[F];generalize a:(h.pts.map λq=>gE p (dm q)).map bL=g
 have S:g.length=h.pts.length:=by rw[<-a];simp
 have j:∀k q,h.pts[k]?=some q->g[k]?=some (bL (gE p (dm q))):=λk q f=>by rw[<-a,ZW,ZW,f];rfl
 refine Dp func275 λC hP hN=>?_;refine GT (gA (show(48:Int)*(h.pts.length:Int)<=281474976710656 by omega) (show(h.pts.length:Int)<=9223372036854775807 by omega)) ?_;refine WP.loopN [7] h.pts.length (λi c=>∃R:List PV,c.t 3=.ptr 3 0/\c.h 3=some (.box [.pv (Z p.1.1.1.1),.pv (Z p.1.1.1.2),.pv (Z p.1.1.2.1.1),.pv (Z p.1.1.2.1.2),.pv (Z p.1.1.2.2.1),.pv (Z p.1.1.2.2.2),.pv (Z p.1.2.1.1.1),.pv (Z p.1.2.1.1.2),.pv (Z p.1.2.1.2.1.1),.pv (Z p.1.2.1.2.1.2),.pv (Z p.1.2.1.2.2.1),.pv (Z p.1.2.1.2.2.2),.pv (Z p.1.2.2.1.1),.pv (Z p.1.2.2.1.2),.pv (Z p.1.2.2.2.1.1),.pv (Z p.1.2.2.2.1.2),.pv (Z p.1.2.2.2.2.1),.pv (Z p.1.2.2.2.2.2),.pv (Z p.2.1.1),.pv (Z p.2.1.2),.pv (Z p.2.2.1.1),.pv (Z p.2.2.1.2),.pv (Z p.2.2.2.1),.pv (Z p.2.2.2.2)] true false)/\c.t 5=.arr 14 h.pts.length/\c.t 16=.pv (bA h.pts)/\c.t 17=.pv (Z h.pts.length)/\c.t 18=.pv (Z i)/\c.h 7=none/\c.h 14=some (.row 281 6 R 0)/\R.length=h.pts.length/\(∀k,i<=k->k<h.pts.length->R[k]?=some (bL aM))/\∀k,k<i->R[k]?=g[k]?) ?_ ?_
 .refine⟨List.replicate h.pts.length (bL aM),?_⟩
  rw[QI];simp
  try (intro k f;first|exact f|simp[yAx,f])
 rintro i c hi ⟨R,g3,z,O,s,u,v,A,n,d,m,J⟩;by_cases b:i<h.pts.length
 .have T:=ai b (by omega)
  generalize o:h.pts[i]=q at *
  have L:h.pts[i]?=some q:=by rw[an b,o]
  have l:=m i (yAd _) b;have B:=uC l
  have D:i<R.length:=by omega
  have I:=N4 q.1 q.2.1 q.2.2;have G:dm (q.1,q.2.1,q.2.2)=dm q:=rfl;rw[G]at I
  have H:∀y k,i+1<=k->k<h.pts.length->(R.set i y)[k]?=some (bL aM):=λy k P Q=>by
   rw[yAe,L4 (by omega)];exact m k (by omega) Q
  have r:∀k,k<i+1->(R.set i (bL (gE p (dm q))))[k]?=g[k]?:=λk P=>by
   rw[yAe];by_cases e:i=k
   .subst e;rw[yAb rfl,yAb D,j i q L]
   .rw[L4 e];exact J k (by omega)
  clear j a;generalize dm q=U at *
  with_reducible repeat' (first|refine Sp.h ?_|((first|refine Wd ?_|refine Ss.h ?_|refine Sc.h (I) ?_|refine Sc.h (WY) ?_|(refine Sb.h ?_ ?_ ?_<;>(try intro hgd)<;>try exact Xy))<;>simp -implicitDefEqProofs (maxSteps:=2000000) [hP,hN,g3,z,O,s,u,v,A,n,d,b,T,L,o,l,B]<;>try refine Ya ?_)|refine X2 ?_ ?_|(refine Xd ?_ ?_<;>intro hcd<;>try exact Xx))
  all_goals first|exact⟨_,rfl,by simp[d],H _,r⟩|exact⟨H _,r⟩|exact⟨by simp[d],H _,r⟩|exact r
 .have E:i=h.pts.length:=by omega
  subst E
  have x:R=g:=by
   apply yAK;intro k;by_cases f:k<h.pts.length
   .exact J k f
   .rw[yAf (by omega),yAf (by omega)]
  subst x;exact Gy
  all_goals (rw[<-a];simp)
def fP(a:List jP)(h:Sh):jP:=if h.link=-1 then fO else(a[h.link.toNat]?).getD zP
def bQ(s:Sce)(bx:List Iv):List (List aq):=s.shs.map λh=>dp h (fP (ij s.js bx) h)
theorem vX:iw js bx=true↔bx.length=js.length/\au vI bx=true:=by simp[iw]
set_option maxRecDepth 4000 in
theorem Xs(s:Sce)(bx:List Iv)(hs:ScL s)(h0:az s=0)(K:iw s.js bx=true):aL 218 (dZ s) (iv bx) (.sl ((bQ s bx).map aU)):=by
 have cc:=PW s hs;rw[h0]at cc;obtain⟨v1,v2,v3,v4,v5,v6,v7⟩:=nK h0;have J:=(vX.1 K).1;have cb:=Xp s.js s.ms bx hs.js (by omega);rw[K]at cb;have cl:=Xq s.js s.ms bx v1 v2 J;have ad:(ij s.js bx).length=s.js.length:=kD J _ (yAd _);have M:bQ s bx=s.shs.map λh=>dp h (fP (ij s.js bx) h):=rfl;rw[M];generalize ij s.js bx=a at *;generalize f:(s.shs.map λh=>dp h (fP a h)).map aU=z
 have ax:z.length=s.shs.length:=by rw[<-f];simp
 have F:∀k h,s.shs[k]?=some h->z[k]?=some (aU (dp h (fP a h))):=λk q v=>by rw[<-f,ZW,ZW,v];rfl
 refine Dp func218 λC hP hN=>?_;refine GT (gA (show(24:Int)*(s.shs.length:Int)<=281474976710656 by omega) (show(s.shs.length:Int)<=9223372036854775807 by omega)) ?_;refine WP.loopN [8,9] s.shs.length (λi g=>∃R:List PV,g.t 5=.pv (.sl (a.map bO))/\g.t 6=.arr 27 s.shs.length/\g.t 29=.pv (.sl (s.shs.map bU))/\g.t 30=.pv (Z s.shs.length)/\g.t 31=.pv (Z i)/\g.h 8=none/\g.h 9=none/\g.h 27=some (.row 146 1 R 0)/\R.length=s.shs.length/\(∀k,i<=k->k<s.shs.length->R[k]?=some (.val (.slice none 0 0)))/\∀k,k<i->R[k]?=z[k]?) ?_ ?_
 .refine⟨List.replicate s.shs.length (.val (.slice none 0 0)),?_⟩
  simp
  try (intro k v;first|exact v|simp[yAx,v])
 rintro i g hi ⟨R,g5,g6,A,B,D,H,I,j,b,G,hR⟩;by_cases c:i<s.shs.length
 .have hw:=ai c (by omega)
  generalize r:s.shs[i]=h at *
  have O:s.shs[i]?=some h:=by rw[an c,r]
  have hm:=In O;obtain⟨U,X⟩:=v6 h hm;simp only[cJ,An,Is]at U;have l:=G i (yAd _) c;have L:=uC l
  have S:i<R.length:=by omega
  have Y:=λp=>Xr h p X
  have x:∀y k,i+1<=k->k<s.shs.length->(R.set i y)[k]?=some (.val (.slice none 0 0)):=λy k h1 h2=>by
   rw[yAe,L4 (by omega)];exact G k (by omega) h2
  have d:∀k,k<i+1->(R.set i (aU (dp h (fP a h))))[k]?=z[k]?:=λk h1=>by
   rw[yAe];by_cases e:i=k
   .subst e;rw[yAb rfl,yAb S,F i h O]
   .rw[L4 e];exact hR k (by omega)
  clear F f M;by_cases u:h.link=-1
  .have m:(h.link==-1)=true:=by simp[u]
   have n:(h.link != -1)=false:=by simp[u]
   have o:fP a h=fO:=by simp[fP,u]
   rw[o]at d;have P:=Y fO;generalize dp h fO=pl at *;have q1:=@N5;refine GT (zAe g5 g6 A B D H I j b c hw O r l (be L m n)) ?_
   all_goals first|exact⟨_,rfl,by simp[b],x _,d⟩|exact⟨x _,d⟩|exact⟨by simp[b],x _,d⟩|exact d
  .have m:(h.link==-1)=false:=by simp[u]
   have n:(h.link != -1)=true:=by simp[u]
   have V:(0:Int)<=h.link:=by omega
   obtain⟨p,hp⟩:∃p:Nat,h.link.toNat=p:=⟨_,rfl⟩
   have N:p<a.length:=by omega
   have E:a[p]?=some a[p]:=an N
   have o:fP a h=a[p]:=by simp only[fP,L4 u,hp,E,yAl]
   have ay:∀hh,a[p]'hh=a[p]:=λ_=>rfl;rw[o]at d;generalize W:a[p]=pp at *;have P:=Y pp;generalize dp h pp=pl at *;have q1:=@N5;refine GT (zAe g5 g6 A B D H I j b c hw O r l (zAb L m n V hp N E W)) ?_
   all_goals first|exact⟨_,rfl,by simp[b],x _,d⟩|exact⟨x _,d⟩|exact⟨by simp[b],x _,d⟩|exact d
 .have T:i=s.shs.length:=by omega
  subst T
  have Q:R=z:=by
   apply yAK;intro k;by_cases v:k<s.shs.length
   .exact hR k v
   .rw[yAf (by omega),yAf (by omega)]
  subst Q;exact Gy
  all_goals (rw[<-f];simp)
set_option maxRecDepth 100000 in
@[simp] theorem Wx:dR prog 219:=by
 have hf:=func219;have nt:=ntmps219;have rs:=results219;exact BJ
set_option maxRecDepth 100000 in
@[simp] theorem Wy:dR prog 324:=by
 have hf:=func324;have nt:=ntmps324;have rs:=results324;exact BJ
def aI(l:List Vc):Nat->Vc
 |0=>(0,0,0)
 |i+1=>match l[i]? with
  |some p=>((aI l i).1+p.1,(aI l i).2.1+p.2.1,(aI l i).2.2+p.2.2)
  |none=>aI l i
theorem km{l:List Vc}(d:l.all (aG 268435456)=true):∀i:Nat,gT ((i:Int)*268435456) (aI l i)
 |0=>by simp[aI,gT]
 |i+1=>by
  obtain⟨e,f,g⟩:=km d i;simp only[aI];split
  .rename_i p hp
   obtain⟨a,b,c⟩:=gO (IV.1 d p (In hp));exact⟨⟨by simp only;omega,by simp only;omega⟩,⟨by simp only;omega,by simp only;omega⟩,⟨by simp only;omega,by simp only;omega⟩⟩
  .exact⟨⟨by omega,by omega⟩,⟨by omega,by omega⟩,⟨by omega,by omega⟩⟩
abbrev sW:List Vc:=[(1,0,0),(-1,0,0),(0,1,0),(0,-1,0),(0,0,1),(0,0,-1)]
theorem rT:(bc l).all (aG 268435456)=true:=by
 unfold bc;split
 .rename_i h
  have hp:=(eP h).1;rw[IV]at hp|-;intro x e;obtain⟨v,g,rfl⟩:=yAt.1 e;have f:=hp v g;rw[fY]at f;obtain⟨a,b,c⟩:=f
  have d:∀x:Iv,de x=true->gR (tP x) 268435456=true:=λx e=>by
   rw[eO]at e;rw[bM];unfold tP;split<;>omega
  rw[dJ];exact⟨d _ a,d _ b,d _ c⟩
 .rfl
theorem pF(h:aw l=true):(bc l).length=l.length:=by simp[bc,h]
def qN(a b:List aq):Vc:=((aI (bc a) a.length).1*b.length-(aI (bc b) b.length).1*a.length,(aI (bc a) a.length).2.1*b.length-(aI (bc b) b.length).2.1*a.length,(aI (bc a) a.length).2.2*b.length-(aI (bc b) b.length).2.2*a.length)
def sX(a b:List aq):Vc:=if aw a&&aw b then bT (qN a b)else(0,0,0)
def vQ(a b:List aq):Bool:=aw a&&aw b&&nz (bT (qN a b))
theorem Sy(h:aw l=true):gT 2147483648 (aI (bc l) l.length):=by
 have a:=km (rT (l:=l)) l.length;have b:=(eP h).2.1;exact pE a (by omega)
theorem QE{a b:List aq}(f:aw a=true)(g:aw b=true):gT 1099511627776 (qN a b):=by
 obtain⟨i,j,k⟩:=Sy f;obtain⟨t1,t2,t3⟩:=Sy g;have c:=(eP f).2.1;have d:=(eP g).2.1
 have e:∀x:Int,-2147483648<=x/\x<=2147483648->∀n:Nat,n<=8->-17179869184<=x*n/\x*n<=17179869184:=λx u n s=>by
  have:=cT (a:=x) (b:=(n:Int)) 2147483648 8 (by omega) (by omega) (by omega) (by omega);omega
 have l:=e _ i _ d;have m:=e _ j _ d;have o:=e _ k _ d;have p:=e _ t1 _ c;have q:=e _ t2 _ c;have r:=e _ t3 _ c;unfold qN;exact⟨by simp only;omega,by simp only;omega,by simp only;omega⟩
def Fe(a:List aq)(ra:Int)(b:List aq)(rb:Int):Bool:=aw a&&aw b&&bw ra 0 1048576&&bw rb 0 1048576
def qO(a:List aq)(ra:Int)(b:List aq)(rb:Int):Vc:=(mu (bc a) (bc b) (ra+rb) 64).2.n
def sY(a:List aq)(ra:Int)(b:List aq)(rb:Int)(c:List Vc):List Vc:=
 if Fe a ra b rb then c.filter bB++((if vQ a b then[sX a b]else[])++(sW++(if bB (qO a ra b rb)then[qO a ra b rb]else[])))else[]
def sZ(a:List aq)(ra:Int)(b:List aq)(rb:Int)(c:List Vc):Vc×Bool:=match(sY a ra b rb c).find? (λn=>kE n a ra b rb)with
 |some n=>(n,true)
 |none=>((0,0,0),false)
theorem LH{l:List α}(h:∀j x,j<l.length->l[j]?=some x->p x=false):l.find? p=none:=by
 rw[yBc];intro x b;obtain⟨j,a,rfl⟩:=yBl.1 b;rw[h j _ a (an a)];simp
theorem xE{α:Type}{p:α->Bool}:∀{l:List α}{i:Nat}{v:α},l[i]?=some v->p v=true->(∀j x,j<i->l[j]?=some x->p x=false)->l.find? p=some v
 |[],i,v,h,_,_=>by simp at h
 |y::l,0,v,h,hp,_=>by simp at h;subst h;simp[hp]
 |y::l,i+1,v,h,hp,hq=>by
  have a:=hq 0 y (by omega) rfl;rw[List.find?_cons,a];exact xE (by simpa using h) hp λj x c b=>hq (j+1) x (by omega) (by simpa using b)
abbrev Ff(SH:List Sh)(PR:List (Nat×Nat))(PT:List (List aq)):PV:=.agg [.sl (SH.map bU),.sl (PR.map td),.sl (PT.map aU)]
abbrev Up(a b:List aq)(ra rb:Int):PV:=.agg [aU a,aU b,Z ra,Z rb]
def cZ(PT:List (List aq))(i:Nat):List aq:=(PT[i]?).getD []
def dc(SH:List Sh)(i:Nat):Int:=((SH[i]?).map Sh.rad).getD 0
structure BdOk(SH:List Sh)(PR:List (Nat×Nat))(PT:List (List aq)):Prop where
 len:PT.length=SH.length
 prs:∀p∈PR,p.1<SH.length/\p.2<SH.length
 jT:SH.length<=24
 few:PR.length<=576
 pts:∀l∈PT,l.length<=8
theorem Wz(SH:List Sh)(PR:List (Nat×Nat))(PT:List (List aq))(l:BdOk SH PR PT)(k:Nat)(p:Nat×Nat)(hp:PR[k]?=some p):aL 155 (Ff SH PR PT) (Z k) (Up (cZ PT p.1) (cZ PT p.2) (dc SH p.1) (dc SH p.2)):=by
 obtain⟨r,e⟩:=th.1 hp;obtain⟨i,j⟩:=p;have hpr:=l.prs _ (In hp);simp only at hpr;have H:=l.len;have z:∀h,PR[k]'h=(i,j):=λ_=>e
 have D:i<PT.length:=by omega
 have E:j<PT.length:=by omega
 obtain⟨a,d⟩:∃x,PT[i]?=some x:=⟨_,an D⟩;obtain⟨b,c⟩:∃x,PT[j]?=some x:=⟨_,an E⟩;obtain⟨u,f⟩:∃x,SH[i]?=some x:=⟨_,an hpr.1⟩;obtain⟨v,g⟩:∃x,SH[j]?=some x:=⟨_,an hpr.2⟩
 have s:∀h,PT[i]'h=a:=λh=>by rw[an h]at d;exact yAO d
 have y:∀h,PT[j]'h=b:=λh=>by rw[an h]at c;exact yAO c
 have A:∀h,SH[i]'h=u:=λh=>by rw[an h]at f;exact yAO f
 have B:∀h,SH[j]'h=v:=λh=>by rw[an h]at g;exact yAO g
 have m:cZ PT i=a:=by simp[cZ,d]
 have n:cZ PT j=b:=by simp[cZ,c]
 have o:dc SH i=u.rad:=by simp[dc,f]
 have q:dc SH j=v.rad:=by simp[dc,g]
 rw[m,n,o,q];obtain⟨F,G⟩:=hpr;refine Dp func155 λC hP hN=>?_;exact Gy
def dr(s:Sce)(bx:List Iv):Bool:=decide (az s=0)&&iw s.js bx
theorem J0{p:Nat×Nat}(h:p∈bY s):p.1<p.2/\p.2<s.shs.length/\ge s p.1 p.2=true:=by
 have b:∀i k,k<=s.shs.length->p∈lz s i k->p.1<p.2/\p.2<s.shs.length/\ge s p.1 p.2=true:=by
  intro i k
  induction k with
  |zero=>intro _ h;cases h
  |succ k ih=>
   intro c h;rw[lz,yAk]at h;rcases h with h|h
   .exact ih (by omega) h
   .split at h
    .rename_i a
     rw[yAE]at h;subst h;exact⟨a.1,by omega,a.2⟩
    .cases h
 have hN:∀i,p∈jD s i->p.1<p.2/\p.2<s.shs.length/\ge s p.1 p.2=true:=by
  intro i
  induction i with
  |zero=>intro h;cases h
  |succ i ih=>
   intro h;rw[jD,yAk]at h;rcases h with h|h
   .exact ih h
   .exact b i _ (yAd _) h
 unfold bY at h;split at h
 .exact hN _ h
 .cases h
theorem Dr(h:dr s bx=true):BdOk s.shs (bY s) (bQ s bx):=by
 simp only[dr,An,Is]at h;obtain⟨f,g,i,a,j,d,k⟩:=nK h.1;have b:=zj s s.shs.length;have e:s.shs.length*s.shs.length<=24*24:=yBk a a;refine⟨by simp[bQ],λp hp=>?_,a,?_,λl b=>?_⟩
 .have:=J0 hp;omega
 .unfold bY;rw[yAb h.1];omega
 .obtain⟨x,c,rfl⟩:=yAt.1 b
  have:=(d x c).2;simp only[gc,An,Is]at this;simp only[dp,yAz];omega
def PO(bx:List Iv)(i:Nat):Prop:=∀k x,k<i->bx[k]?=some x->vI x=true
theorem WA(s:Sce)(bx:List Iv)(hs:ScL s)(A:bx.length<=9223372036854775807):aL 154 (dZ s) (iv bx) (.tup (if dr s bx then[Ff s.shs (bY s) (bQ s bx),B true]else[Ff [] [] [],B false])):=by
 have hd:dr s bx=(decide (az s=0)&&(decide (bx.length=s.js.length)&&bx.all vI)):=rfl;have cc:=PW s hs;have N:=hs.js;by_cases e:az s=0
 case neg=>
  have q:(az s !=0)=true:=by simp[e]
  rw[yA4 e,yAG]at hd;rw[hd];refine Dp func154 λC hP hN=>?_;exact Gy
 have q:(az s !=0)=false:=by simp[e]
 by_cases f:bx.length=s.js.length
 case neg=>
  have r:((bx.length:Int)!=(s.js.length:Int))=true:=by simp;omega
  have I:¬(bx.length:Int)=(s.js.length:Int):=by omega
  rw[yA4 f,yAG,yBm]at hd;rw[hd];refine Dp func154 λC hP hN=>?_;exact Gy
 have r:((bx.length:Int)!=(s.js.length:Int))=false:=by simp[f]
 have M:iw s.js bx=bx.all vI:=by
  show(decide (bx.length=s.js.length)&&bx.all vI)=_;rw[yAF f,yAs]
 rw[yAF e,yAF f,yAs,yAs]at hd;rw[hd];have l:=Xs s bx hs e;rw[M]at l;have cR:=Xn s hs;generalize bQ s bx=PT at *;generalize bY s=PR at *;refine Dp func154 λC hP hN=>?_;refine Gz ?_;refine WP.loopN [7] bx.length (λi b=>b.t 1=.pv (iv bx)/\b.t 2=.ptr 2 0/\b.h 2=some (.box [.pv (.sl (s.js.map bj)),.pv (.sl (s.ms.map bN)),.pv (.sl (s.shs.map bU)),.pv (.sl (s.sks.map aA))] true false)/\b.t 4=.ptr 4 0/\b.h 4=some (.box [.pv (.val (.slice none 0 0)),.pv (.val (.slice none 0 0)),.pv (.val (.slice none 0 0))] true false)/\b.t 21=.pv (iv bx)/\b.t 22=.pv (Z bx.length)/\b.t 23=.pv (Z i)/\b.h 7=none/\PO bx i) ?_ ?_
 .simp[f]
  exact λk x O=>by omega
 rintro i b hi ⟨J,K,u,L,y,m,n,o,z,hq⟩;by_cases c:i<bx.length
 .have F:=ai c A
  generalize j:bx[i]=v at *
  have G:bx[i]?=some v:=by rw[an c,j]
  have H:=jI v.1 v.2;have jE:vI v=al v.1 v.2:=rfl;have E:=oA (p:=vI) G hq
  cases d:al v.1 v.2 with
  |true=>
   rw[d]at H;have g:PO bx (i+1):=E d;refine GT (zAd J K u L y m n o z c G (gA j F)) ?_
   all_goals exact g
  |false=>
   rw[d]at H
   have a:bx.all vI=false:=by
    cases h:bx.all vI with
    |false=>rfl
    |true=>rw[IV]at h;have:=h v (In G);rw[jE,d]at this;cases this
   rw[a];exact Gy
 .have D:i=bx.length:=by omega
  subst D;have a:bx.all vI=true:=ql hq c;have l:=l a;rw[a];exact Gy
def tL(SH:List Sh)(PT:List (List aq))(n:Vc)(p:Nat×Nat):Bool:=kE n (cZ PT p.1) (dc SH p.1) (cZ PT p.2) (dc SH p.2)
def Fg(SH:List Sh)(PR:List (Nat×Nat))(PT:List (List aq))(ns:List Vc)(i:Nat):Prop:=∀k n p,k<i->ns[k]?=some n->PR[k]?=some p->tL SH PT n p=true
def jp(SH:List Sh)(PR:List (Nat×Nat))(PT:List (List aq))(ns:List Vc):Bool:=decide (ns.length=PR.length)&&(ns.zip PR).all λx=>tL SH PT x.1 x.2
theorem xF{ns:List Vc}(b:ns.length=PR.length)(h:Fg SH PR PT ns ns.length):jp SH PR PT ns=true:=by
 simp only[jp,An,Is,IV];refine⟨b,λx c=>?_⟩;obtain⟨k,a,rfl⟩:=yBl.1 c;rw[List.length_zip]at a;rw[List.getElem_zip];exact h k _ _ (by omega) (an (by omega)) (an (by omega))
theorem EC{ns:List Vc}{k:Nat}{n:Vc}{p:Nat×Nat}(hn:ns[k]?=some n)(hp:PR[k]?=some p)(h:tL SH PT n p=false):jp SH PR PT ns=false:=by
 cases a:jp SH PR PT ns with
 |false=>rfl
 |true=>
  simp only[jp,An,IV]at a
  have:(n,p)∈ns.zip PR:=by
   refine In (i:=k) ?_;rw[List.getElem?_zip_eq_some];exact⟨hn,hp⟩
  have:=a.2 _ this;rw[h]at this;cases this
theorem rk(a:BdOk SH PR PT)(i:Nat):(cZ PT i).length<=9223372036854775807:=by
 unfold cZ
 cases h:PT[i]? with
 |none=>simp
 |some l=>have:=a.pts l (In h);simp;omega
def kc(SH:List Sh)(PT:List (List aq))(x y:List Int)(p:Nat×Nat):Bool:=jk x y (cZ PT p.1) (dc SH p.1) (cZ PT p.2) (dc SH p.2)&&decide (0<=ii x y (cZ PT p.1) (dc SH p.1) (cZ PT p.2) (dc SH p.2))
structure Wit where
 pair:Int
 a:List Int
 b:List Int
abbrev Fh(w:Wit):PV:=.agg [Z w.pair,zs w.a,zs w.b]
def np(SH:List Sh)(PR:List (Nat×Nat))(PT:List (List aq))(w:Wit):Bool:=decide (0<=w.pair)&&match PR[w.pair.toNat]? with
 |some p=>kc SH PT w.a w.b p
 |none=>false
theorem WB(SH:List Sh)(PR:List (Nat×Nat))(PT:List (List aq))(d:BdOk SH PR PT)(w:Wit)(l:w.a.length<=9223372036854775807)(f:w.b.length<=9223372036854775807):aL 417 (Fh w) (Ff SH PR PT) (B (np SH PR PT w)):=by
 have q:=d.few;by_cases r:w.pair<0
 .have hf:np SH PR PT w=false:=by unfold np;rw[yA4 (by omega)];rfl
  rw[hf];refine Dp func417 λC hP hN=>?_;exact Gy
 obtain⟨k,m⟩:∃k:Nat,w.pair=k:=⟨w.pair.toNat,by omega⟩
 have hcd:np SH PR PT w=match PR[k]? with
  |some p=>kc SH PT w.a w.b p
  |none=>false:=by unfold np;rw[m,yAF (by omega)];simp
 by_cases j:k<PR.length
 .obtain⟨p,hp⟩:∃p,PR[k]?=some p:=⟨_,an j⟩
  rw[hp]at hcd;simp only at hcd
  have e:¬(PR.length:Int)<=k:=by omega
  have c:¬PR.length<=k:=by omega
  have cc:=Wz SH PR PT d k p hp;have i:=Ww w.a w.b (cZ PT p.1) (dc SH p.1) (cZ PT p.2) (dc SH p.2) l f (rk d _) (rk d _);have g:kc SH PT w.a w.b p=(jk w.a w.b (cZ PT p.1) (dc SH p.1) (cZ PT p.2) (dc SH p.2)&&decide (0<=ii w.a w.b (cZ PT p.1) (dc SH p.1) (cZ PT p.2) (dc SH p.2))):=rfl;rw[<-g]at i;rw[hcd];generalize kc SH PT w.a w.b p=o at *;refine Dp func417 λC hP hN=>?_;exact Gy
 .have n:PR[k]?=none:=yAf (by omega)
  rw[n]at hcd;simp only at hcd;rw[hcd]
  have e:(PR.length:Int)<=k:=by omega
  have c:PR.length<=k:=by omega
  refine Dp func417 λC hP hN=>?_;exact Gy
set_option maxRecDepth 100000 in
@[simp] theorem WC:dR prog 153:=by
 have hf:=func153;have nt:=ntmps153;have rs:=results153;exact KY
set_option maxRecDepth 100000 in
@[simp] theorem WD:dR prog 119:=by
 have hf:=func119;have nt:=ntmps119;have rs:=results119;exact KY
@[simp] theorem ZV:t6 prog 240=true/\t6 prog 188=true/\u0 prog 240 "armplan/classify.holds" =some 418/\u0 prog 188 "armplan/classify.holds" =some 417:=by repeat' (first|kernel_rfl|refine ⟨by kernel_rfl,?_⟩)
structure Vd where
 kind:Int
 ns:List Vc
 w:Wit
abbrev Uq(v:Vd):PV:=.agg [Z v.kind,bA v.ns,Z v.w.pair,zs v.w.a,zs v.w.b]
abbrev Ur(w:Wit):PV:=.ifc 188 (Fh w)
def dg(s:Sce)(bx:List Iv)(ns:List Vc):Bool:=dr s bx&&jp s.shs (bY s) (bQ s bx) ns
def dO(s:Sce)(bx:List Iv)(w:Wit):Bool:=dr s bx&&np s.shs (bY s) (bQ s bx) w
theorem hC(s:Sce)(bx:List Iv)(w:Wit)(hs:ScL s)(c:bx.length<=9223372036854775807)(e:w.a.length<=9223372036854775807)(f:w.b.length<=9223372036854775807):jQ 120 (dZ s) (iv bx) (Ur w) (B (dO s bx w)):=by
 have d:=WA s bx hs c;have hd:dO s bx w=(dr s bx&&np s.shs (bY s) (bQ s bx) w):=rfl;rw[hd]
 cases hp:dr s bx with
 |false=>
  rw[hp]at d;refine Dp func120 λC hP hN=>?_;exact Gy
 |true=>
  rw[hp]at d;have g:=WB s.shs (bY s) (bQ s bx) (Dr hp) w e f;generalize np s.shs (bY s) (bQ s bx) w=b at *;refine Dp func120 λC hP hN=>?_;exact Gy
theorem Zi(s:Sce)(bx:List Iv)(w:Wit)(hs:ScL s)(c:bx.length<=9223372036854775807)(d:w.a.length<=9223372036854775807)(e:w.b.length<=9223372036854775807):jQ 60 (dZ s) (iv bx) (Fh w) (B (dO s bx w)):=by
 have f:=hC s bx w hs c d e;generalize dO s bx w=b at *;refine Dp func60 λC hP hN=>?_;exact Gy
def kS(v:Vd):Verd:=⟨v.kind,v.ns,v.w.pair,v.w.a,v.w.b⟩
def pV(a:List Vc)(k:Nat):List Vc:=(a.drop k).take 1
def Ad(SH:List Sh)(PT:List (List aq))(a:List Vc)(k:Nat)(p:Nat×Nat):Vc×Bool:=sZ (cZ PT p.1) (dc SH p.1) (cZ PT p.2) (dc SH p.2) (pV a k)
def tM(SH:List Sh)(PT:List (List aq))(p:Nat×Nat):Int×NSt:=mu (bc (cZ PT p.1)) (bc (cZ PT p.2)) (dc SH p.1+dc SH p.2) 64
def eT(SH:List Sh)(PR:List (Nat×Nat))(PT:List (List aq))(a:List Vc):List Vc:=PR.mapIdx λk p=>(Ad SH PT a k p).1
def ln(SH:List Sh)(PR:List (Nat×Nat))(PT:List (List aq))(a:List Vc):Nat->Nat->Bool->Vd
 |0,_,b=>if b then⟨1,eT SH PR PT a,⟨0,[],[]⟩⟩else⟨0,eT SH PR PT a,⟨0,[],[]⟩⟩
 |f+1,k,b=>match PR[k]? with
  |some p=>if(Ad SH PT a k p).2=true then ln SH PR PT a f (k+1) b
   else if kc SH PT (tM SH PT p).2.w (tM SH PT p).2.v p=true then⟨2,[],⟨k,(tM SH PT p).2.w,(tM SH PT p).2.v⟩⟩
   else ln SH PR PT a f (k+1) false
  |none=>if b then⟨1,eT SH PR PT a,⟨0,[],[]⟩⟩else⟨0,eT SH PR PT a,⟨0,[],[]⟩⟩
def eD(s:Sce)(bx:List Iv)(a:List Vc):Vd:=if dr s bx then ln s.shs (bY s) (bQ s bx) a (bY s).length 0 true else⟨0,[],⟨0,[],[]⟩⟩
theorem QF(h:dr s bx=true)(i:Nat):0<=dc s.shs i/\dc s.shs i<=1048576:=by
 simp only[dr,An,Is]at h;obtain⟨_,_,_,_,_,b,_⟩:=nK h.1;unfold dc
 cases a:s.shs[i]? with
 |none=>simp
 |some u=>
  have:=(b u (In a)).2;simp only[gc,An,Is]at this;simp only[yAQ,yAl];omega
theorem xH(h:l.length<=8):(bc l).length<=8:=by unfold bc;split<;>simp<;>omega
theorem GF(a:BdOk SH PR PT)(i:Nat):(cZ PT i).length<=8:=by
 unfold cZ
 cases h:PT[i]? with
 |none=>simp
 |some l=>exact a.pts l (In h)
theorem ED(a b:List Vc)(rho st:Int):(mu a b rho st).2.w.length<=8/\(mu a b rho st).2.v.length<=8:=by
 unfold mu;split
 .rename_i h
  simp only[vP,An]at h;have c:=oZ.1 h.1.1.1;have d:=oZ.1 h.1.1.2;have:=GE (rho:=rho) (steps:=st.toNat) h.1.1.1 h.1.1.2 (st.toNat+1) (Ch a b) (LG c.1 d.1);rw[this.wl,this.vl];exact⟨c.2.1,d.2.1⟩
 .simp
theorem IJ(l:List Vc):(l.map aW).all (tW 3)=true:=by
 rw[IV];intro x a;obtain⟨v,_,rfl⟩:=yAt.1 a;rfl
theorem Gw(js:List J)(b:Bx):∀i,(jJ js b i).1=-1\/∃j:Nat,(jJ js b i).1=(j:Int)/\j<i/\∃x,b[j]?=some x/\2<=dG x
 |0=>.inl rfl
 |i+1=>by
  have ih:=Gw js b i;have d:(∃j:Nat,(jJ js b i).1=(j:Int)/\j<i/\∃x,b[j]?=some x/\2<=dG x)->∃j:Nat,(jJ js b i).1=(j:Int)/\j<i+1/\∃x,b[j]?=some x/\2<=dG x:=λ⟨j,a,c,e⟩=>⟨j,a,by omega,e⟩;simp only[jJ];split
  .rename_i f x a c
   split
   .rename_i h;exact .inr ⟨i,rfl,by omega,x,c,h.1⟩
   .exact ih.imp id d
  .exact ih.imp id d
theorem Lz{x:Int×Int}(h:al x.1 x.2=true):dG x=x.2-x.1:=by
 have:=bH.1 h;rw[dG,h];simp only[yAn];exact aa (by omega) (by omega)
theorem Gx(js:List J)(ms:List Ms)(b:Bx):nh js ms b=-1\/∃j:Nat,nh js ms b=(j:Int)/\j<b.length/\b.length=js.length/\au vI b=true/\∃x,b[j]?=some x/\2<=x.2-x.1:=by
 unfold nh;split
 .rename_i h
  simp only[BK,An,Is]at h;rcases Gw js b js.length with e|⟨j,d,g,x,a,c⟩
  .exact .inl e
  .have f:al x.1 x.2=true:=bE.1 h.1.2 _ (In a)
   rw[Lz f]at c;exact .inr ⟨j,d,by omega,h.1.1,h.1.2,x,a,c⟩
 .exact .inl rfl
def sM(js:List J)(ms:List Ms)(w:Int)(b:Bx):Bool:=decide (0<=nh js ms b)&&match b[(nh js ms b).toNat]? with
 |some x=>decide (w<x.2-x.1)
 |none=>false
def jU(js:List J)(ms:List Ms)(w:Int)(t:Tr):List Bool:=(af t).map (sM js ms w)
def jV(t:Tr)(op:List Bool)(p q:List Int)(sort:Int):Bool:=mh t.cells.length (nA t.cells op sort) (mO (af t) q) (mO (af t) p) (oH (af t))
def iV(t:Tr)(op:List Bool)(p q:List Int)(sort:Int):List Nat:=we t.cells.length (nA t.cells op sort) (mO (af t) q) (mO (af t) p) (oH (af t))
def Ca(js:List J)(ms:List Ms)(t:Tr)(p q:List Int)(w:Int):Bool:=decide (aD js ms=0)&&decide (t.root.length=js.length)&&decide (1<=w)&&aR t.root p&&aR t.root q
def xy(t:Tr)(op:List Bool)(k:Nat):Bool:=decide ((er t k).kind=0)&&(op[k]?.getD false)
def oX(js:List J)(ms:List Ms)(t:Tr)(op:List Bool)(c:List Nat):Int×Int×Int:=match c.find? (xy t op)with
 |some k=>((k:Int),nh js ms (ao t (k:Int)),3)
 |none=>(-1,-1,0)
def GA(js:List J)(ms:List Ms)(t:Tr)(op:List Bool)(p q:List Int):Int×Int×Int:=
 if jV t op p q 0=true then(-1,-1,1)else if jV t op p q 3=false then(-1,-1,2)
 else if jV t op p q 1=true then oX js ms t op (iV t op p q 1)else if jV t op p q 2=true then(-1,-1,5)else oX js ms t op (iV t op p q 3)
def gD(js:List J)(ms:List Ms)(t:Tr)(p q:List Int)(w:Int):Int×Int×Int:=if Ca js ms t p q w&&am t then GA js ms t (jU js ms w t) p q else(-1,-1,0)
def oo(s:Sce)(t:Tr)(i:Int):Bool:=decide (az s=0)&&jd t i&&mo s.js s.ms (gj t i)
def lm(s:Sce)(t:Tr)(i:Int):Verd:=kS (eD s (gj t i) (er t i.toNat).nor)
def jW(s:Sce)(t:Tr)(i:Int):Bool:=oo s t i&&di t i (lm s t i)
def eS(s:Sce)(t:Tr)(i:Int):Tr:=if oo s t i then dT t i (lm s t i)else t
def pR(s:Sce)(t:Tr)(i j:Int):Tr:=eS s (bh t i j) t.cells.length
def vF(s:Sce)(t:Tr)(i j:Int):Bool:=cG t i j&&jW s (bh t i j) t.cells.length&&jW s (pR s t i j) (t.cells.length+1)
def rS(s:Sce)(t:Tr)(i j:Int):Tr:=if vF s t i j then eS s (pR s t i j) (t.cells.length+1)else t
def j9(s:Sce)(p q:List Int)(w cells:Int):Nat->Tr->Tr×Int
 |0,t=>(t,0)
 |f+1,t=>if(gD s.js s.ms t p q w).2.2=3 then if cells-2<t.cells.length then(t,4)else j9 s p q w cells f (rS s t (gD s.js s.ms t p q w).1 (gD s.js s.ms t p q w).2.1)
  else(t,(gD s.js s.ms t p q w).2.2)
def Cb(s:Sce)(p q:List Int)(w cells:Int):Bool:=decide (az s=0)&&bb s.js s.ms p&&bb s.js s.ms q&&decide (1<=w)&&decide (1<=cells)&&decide (cells<=2048)
def ur(s:Sce):Tr:=eS s (gP (aC s.js s.ms)) 0
def mU(s:Sce)(p q:List Int)(w cells:Int):Tr×Int:=if Cb s p q w cells then j9 s p q w cells 2048 (ur s)else(⟨[],[]⟩,0)
theorem mv(x:Int):0<=x*x:=by
 rcases yB3 0 x with h|h
 .exact yA3 h h
 .have:=yA3 (show 0<=-x by omega) (show 0<=-x by omega)
  rw[Int.neg_mul_neg]at this;exact this
def PP(l:List Int)(m:Nat)(c:Vc):Vc:=(wr (c.1+wr (wr (nx l m 7-3)*32768)),wr (c.2.1+wr (wr (nx l (nn l m) 5-2)*32768)),wr (c.2.2+wr (wr (nx l (nn l (nn l m)) 5-2)*32768)))
def qA(l:List Int)(m:Nat):Nat->Nat
 |0=>m
 |i+1=>nn l (nn l (nn l (qA l m i)))
theorem GG(l:List Int)(m:Nat):∀i,qA l m i<=m+3*i
 |0=>yAd _
 |i+1=>by
  have h:=GG l m i;have a:=aP l (qA l m i);have b:=aP l (nn l (qA l m i));have c:=aP l (nn l (nn l (qA l m i)));simp only[qA];omega
def Ci(l:List Int)(m:Nat)(c:Vc)(k:Nat):List Vc:=c::(List.range k).map λi=>PP l (qA l m i) c
theorem NU(l:List Int)(m:Nat)(c:Vc)(k:Nat):(Ci l m c (k+1)).map aW=(Ci l m c k).map aW++[aW (PP l (qA l m k) c)]:=by simp[Ci,yBo]
theorem IK(l:List Int)(m:Nat)(c:Vc)(k:Nat):(Ci l m c k).length=k+1:=by simp[Ci]
def oJ(l:List Int)(n:Nat):Nat:=(nx l n 4).toNat
def xI(l:List Int)(n:Nat)(c:Vc):List Vc:=Ci l (nn l n) c (oJ l n)
def EE(l:List Int)(n:Nat):Nat:=qA l (nn l n) (oJ l n)
theorem Ve(l:List Int)(n:Nat)(c:Vc)(hn:n<100000):aO prog 36 [.bx 0,.pv (aW c)] [fV l n] [fV l (EE l n)] (.pv (bA (xI l n c))):=by
 have A:=ar l n (k:=4) (by decide) (by decide)
 have s:nx l n 4=((oJ l n:Nat):Int):=by unfold oJ;omega
 have u:oJ l n<4:=by unfold oJ;omega
 have v:=aP l n;refine rd func36 rfl (by kernel_rfl) (by simp[f36]) rfl (by intro i j h;rcases i with _|_|_|i<;>simp_all) ?_;intro C hP hN;simp only[f36]at hN|-
 with_reducible repeat' (first|refine Sp.h ?_|((first|refine Wh [8] ?_|refine Wi [8] ?_|refine Ss.h ?_|refine Sc.h (fX l n 4 (by decide) (by omega)) ?_|(refine Sb.h ?_ ?_ ?_<;>(try intro hgd)<;>try exact Xy))<;>simp -implicitDefEqProofs (maxSteps:=2000000) [hP,hN,fV,s]<;>try refine Ya ?_)|refine X2 ?_ ?_|(refine Xd ?_ ?_<;>intro hcd<;>try exact Xx))
 refine WP.loopN [] (oJ l n) (λi a=>a.t 0=.ptr (pk 0) 0/\a.t 3=.ptr 3 0/\a.h 3=some (.box [.pv (Z c.1),.pv (Z c.2.1),.pv (Z c.2.2)] true false)/\a.t 6=.pv (Z ((oJ l n:Int)-i))/\
  a.h (pk 0)=some (.box [.pv (zs l),.pv (Z (qA l (nn l n) i))] false false)/\a.t 5=.arr 8 (i+1)/\a.h 8=some (.row 84 3 ((Ci l (nn l n) c i).map aW) 0)) (by simp[qA,Ci]) ?_
 rintro i a hi ⟨m,o,b,q,hp,p,d⟩;have z:=IK l (nn l n) c i;by_cases g:i<oJ l n
 .have y:i64.wrap ((oJ l n:Int)-i-1)=(oJ l n:Int)-((i:Int)+1):=by rw[IntKind.wrap_i64];omega
  have e:(0:Int)<(oJ l n:Int)-i:=by omega
  have x:=GG l (nn l n) i;have B:=aP l (qA l (nn l n) i);have D:=aP l (nn l (qA l (nn l n) i));have r:=NU l (nn l n) c i;have hS:qA l (nn l n) (i+1)=nn l (nn l (nn l (qA l (nn l n) i))):=rfl
  with_reducible repeat' (first|refine Sp.h ?_|((first|refine Wd ?_|refine Ss.h ?_|refine Sc.h (zU l _ _ (by decide) (by decide) (by omega)) ?_|(refine Sb.h ?_ ?_ ?_<;>(try intro hgd)<;>try exact Xy))<;>simp -implicitDefEqProofs (maxSteps:=2000000) [hP,hN,m,o,b,p,q,hp,d,g,y,e,hS,z,show(i+1+1)*24<=140737488355328 by omega,show i<=9223372036854775805 by omega]<;>try refine Ya ?_)|refine X2 ?_ ?_|(refine Xd ?_ ?_<;>intro hcd<;>try exact Xx))
  all_goals simp[r,PP]
 .have f:i=oJ l n:=by omega
  subst f;refine Gz ?_
  all_goals simp[EE,xI]
theorem LI(l:List Int)(n:Nat):EE l n<=n+10:=by
 have b:=aP l n;have d:=ar l n (k:=4) (by decide) (by decide)
 have a:oJ l n<4:=by unfold oJ;omega
 have c:=GG l (nn l n) (oJ l n);unfold EE;omega
theorem QG(l:List Int):vw l 0<=60:=by
 have d:=aP l 0;have j:=ar l 0 (k:=3) (by decide) (by decide)
 have b:rN l 0<=3:=by unfold rN;omega
 have e:=F6 l (nn l 0) (rN l 0);have f:=aP l (rM l 0);have c:=ar l (rM l 0) (k:=3) (by decide) (by decide)
 have a:rK l 0<3:=by unfold rK;omega
 have g:=K0 l (nn l (rM l 0)) (rK l 0);have i:rM l 0=rJ l (nn l 0) (rN l 0):=rfl;unfold vw;omega
def Vf(l:List Int)(m:Nat)(i:Nat):Sh:=⟨i,wr ((wr (wr (1+nx l m 3)*65536)).tdiv 8),xI l (nn l (nn l m)) (wr (nx l (nn l m) 4*32768),0,0)⟩
def gS(l:List Int)(n:Nat):Nat->List Sh×Nat
 |0=>([],n)
 |i+1=>if nx l (gS l n i).2 5<4 then((gS l n i).1++[Vf l (nn l (gS l n i).2) i],EE l (nn l (nn l (nn l (gS l n i).2))))else((gS l n i).1,nn l (gS l n i).2)
theorem Cj(l:List Int)(n:Nat):∀i,(gS l n i).2<=n+13*i/\(gS l n i).1.length<=i
 |0=>by simp[gS]
 |i+1=>by
  have ih:=Cj l n i;have a:=aP l (gS l n i).2;have b:=aP l (nn l (gS l n i).2);have c:=aP l (nn l (nn l (gS l n i).2));have d:=LI l (nn l (nn l (nn l (gS l n i).2)));simp only[gS];split
  .simp only[yAo,yBA,yBT];omega
  .simp only;omega
def LJ(l:List Int)(m:Nat):Sh:=⟨-1,wr ((wr (wr (1+nx l (nn l (nn l (nn l m))) 4)*65536)).tdiv 8),xI l (nn l (nn l (nn l (nn l m)))) (wr (wr (nx l m 19-9)*32768),wr (wr (nx l (nn l m) 19-9)*32768),wr (wr (nx l (nn l (nn l m)) 5-2)*32768))⟩
def jC(l:List Int)(xs:List Sh)(n:Nat):Nat->List Sh×Nat
 |0=>(xs,n)
 |i+1=>((jC l xs n i).1++[LJ l (jC l xs n i).2],EE l (nn l (nn l (nn l (nn l (jC l xs n i).2)))))
theorem Ck(l:List Int)(xs:List Sh)(n:Nat):∀i,(jC l xs n i).2<=n+14*i/\(jC l xs n i).1.length=xs.length+i
 |0=>by simp[jC]
 |i+1=>by
  have ih:=Ck l xs n i;have a:=aP l (jC l xs n i).2;have b:=aP l (nn l (jC l xs n i).2);have c:=aP l (nn l (nn l (jC l xs n i).2));have d:=aP l (nn l (nn l (nn l (jC l xs n i).2)));have e:=LI l (nn l (nn l (nn l (nn l (jC l xs n i).2))));simp only[jC,yAo,yBA,yBT];omega
def s9(l:List Int)(n:Nat):Nat:=(1+nx l n 3).toNat
def mA(l:List Int):List Sh×Nat:=gS l (vw l 0) (rN l 0)
def mB(l:List Int):List Sh×Nat:=jC l (mA l).1 (nn l (mA l).2) (s9 l (mA l).2)
def nq(l:List Int):Sce:=⟨im l 0,nI l 0,(mB l).1,if nx l (mB l).2 5=1 then[(-1,nx l (nn l (mB l).2) (rN l 0))]else[]⟩
def Zj(l:List Int)(xs:List Sh)(h:Hp):Prop:=∃W:AV,h 4=some (.box [.pv (.sl ((im l 0).map bj)),.pv (.sl ((nI l 0).map bN)),W,eR] true false)/\((xs=[]/\W=eR/\h 71=none)\/(xs≠[]/\W=.arr 40 xs.length/\h 40=some (.row 86 3 (xs.map bU) 0))\/(xs≠[]/\W=.arr 71 xs.length/\h 71=some (.row 86 3 (xs.map bU) 0)))
theorem Zk(l:List Int):aV 10 (zs l) (dZ (nq l)):=by
 have T:=ar l 0 (k:=3) (by decide) (by decide)
 have ay:rN l 0<=3/\0<rN l 0:=by unfold rN;omega
 have u:(im l 0).length=rN l 0:=oS l (nn l 0) (rN l 0);have a5:=QG l;have cr:=YT l 0 (by decide);generalize V:vw l 0=v at *;refine Dp func10 λC hP hN=>?_;have q1:=@Ih;refine GT @fV.eq_1 ?_
 refine WP.loopN [] (rN l 0) (λi p=>p.t 3=.ptr 9 0/\p.h 9=some (.box [.pv (zs l),.pv (Z (gS l v i).2)] true false)/\p.t 2=.ptr 2 0/\p.h 2=some (.box [eR,eR,eR,eR] true false)/\p.t 4=.ptr 4 0/\p.t 5=.pv (Z i)/\p.h 71=none/\p.h 86=none/\p.h 7=none/\
  (((gS l v i).1=[]/\p.h 4=some (.box [.pv (.sl ((im l 0).map bj)),.pv (.sl ((nI l 0).map bN)),eR,eR] true false)/\p.h 40=none)\/((gS l v i).1≠[]/\p.h 4=some (.box [.pv (.sl ((im l 0).map bj)),.pv (.sl ((nI l 0).map bN)),.arr 40 (gS l v i).1.length,eR] true false)/\p.h 40=some (.row 86 3 ((gS l v i).1.map bU) 0)))) (by simp[gS]) ?_
 rintro i p hi ⟨g3,j,y,n,z,L,d,e,o,D⟩;have M:=Cj l v i;by_cases s:i<rN l 0
 .have x:=ai s (by omega)
  have hS:gS l v (i+1)=if nx l (gS l v i).2 5<4 then((gS l v i).1++[Vf l (nn l (gS l v i).2) i],EE l (nn l (nn l (nn l (gS l v i).2))))else((gS l v i).1,nn l (gS l v i).2):=rfl
  generalize gS l v (i+1)=Y at *;generalize gS l v i=S at *;obtain⟨xs,m⟩:=S;simp only at M hS j D;have X:=aP l m;have a2:=aP l (nn l m);have a3:=aP l (nn l (nn l m));have J:=Ve l (nn l (nn l (nn l m))) (wr (nx l (nn l (nn l m)) 4*32768),0,0) (by omega);by_cases B:nx l m 5<4
  .rw[yAb B]at hS
   subst hS;rcases D with⟨q,f,g⟩|⟨q,f,g⟩
   .subst q
    with_reducible repeat' (first|refine Sp.h ?_|((first|refine Wd ?_|refine Ss.h ?_|refine Sc.h (fX l _ 5 (by decide) (by omega)) ?_|refine Sc.h (fX l _ 3 (by decide) (by omega)) ?_|refine Sc.h (fX l _ 4 (by decide) (by omega)) ?_|refine Sc.h (J) ?_|(refine Sb.h ?_ ?_ ?_<;>(try intro hgd)<;>try exact Xy))<;>simp -implicitDefEqProofs [hP,hN,g3,j,y,n,z,L,d,e,o,f,g,s,x,u,B]<;>try refine Ya ?_)|refine X2 ?_ ?_|(refine Xd ?_ ?_<;>intro hcd<;>try exact Xx))
    all_goals exact⟨rfl,rfl,rfl⟩
   .skip
    with_reducible repeat' (first|refine Sp.h ?_|((first|refine Wd ?_|refine Ss.h ?_|refine Sc.h (fX l _ 5 (by decide) (by omega)) ?_|refine Sc.h (fX l _ 3 (by decide) (by omega)) ?_|refine Sc.h (fX l _ 4 (by decide) (by omega)) ?_|refine Sc.h (J) ?_|(refine Sb.h ?_ ?_ ?_<;>(try intro hgd)<;>try exact Xy))<;>simp -implicitDefEqProofs [hP,hN,g3,j,y,n,z,L,d,e,o,f,g,s,x,u,B,show(xs.length+1)*40<=140737488355328 by omega,show xs.length<=9223372036854775806 by omega]<;>try refine Ya ?_)|refine X2 ?_ ?_|(refine Xd ?_ ?_<;>intro hcd<;>try exact Xx))
    all_goals exact⟨rfl,rfl,rfl⟩
  .rw[L4 B]at hS
   subst hS;rcases D with⟨q,f,g⟩|⟨q,f,g⟩
   all_goals
    with_reducible repeat' (first|refine Sp.h ?_|((first|refine Wd ?_|refine Ss.h ?_|refine Sc.h (fX l _ 5 (by decide) (by omega)) ?_|(refine Sb.h ?_ ?_ ?_<;>(try intro hgd)<;>try exact Xy))<;>simp -implicitDefEqProofs [hP,hN,g3,j,y,n,z,L,d,e,o,f,g,s,x,u,B]<;>try refine Ya ?_)|refine X2 ?_ ?_|(refine Xd ?_ ?_<;>intro hcd<;>try exact Xx))
    all_goals exact q
 .have I:i=rN l 0:=by omega
  subst I
  have N:gS l v (rN l 0)=mA l:=by unfold mA;rw[V]
  rw[N]at M j D;have hK:nx l (mA l).2 3<3/\0<=nx l (mA l).2 3:=⟨(ar l _ (by decide) (by decide)).2,(ar l _ (by decide) (by decide)).1⟩
  have U:i64.wrap (1+nx l (mA l).2 3)=((s9 l (mA l).2:Nat):Int):=by rw[IntKind.wrap_i64];unfold s9;omega
  have ad:s9 l (mA l).2<=3/\1<=s9 l (mA l).2:=by unfold s9;omega
  have Q:nq l=⟨im l 0,nI l 0,(mB l).1,if nx l (mB l).2 5=1 then[(-1,nx l (nn l (mB l).2) (rN l 0))]else[]⟩:=rfl;rw[Q];have O:mB l=jC l (mA l).1 (nn l (mA l).2) (s9 l (mA l).2):=rfl;have ax:=aP l (mA l).2;rw[O];generalize mA l=A at *;clear N Q O;generalize s9 l A.2=K at *
  obtain⟨W,f,r⟩:∃W:AV,p.h 4=some (.box [.pv (.sl ((im l 0).map bj)),.pv (.sl ((nI l 0).map bN)),W,eR] true false)/\((A.1=[]/\W=eR/\p.h 71=none)\/(A.1≠[]/\W=.arr 40 A.1.length/\p.h 40=some (.row 86 3 (A.1.map bU) 0))\/(A.1≠[]/\W=.arr 71 A.1.length/\p.h 71=some (.row 86 3 (A.1.map bU) 0))):=by
   rcases D with⟨a,b,c⟩|⟨a,b,c⟩
   .exact⟨_,b,.inl ⟨a,rfl,d⟩⟩
   .exact⟨_,b,.inr (.inl ⟨a,rfl,c⟩)⟩
  clear D
  with_reducible repeat' (first|refine Sp.h ?_|((first|refine Wd ?_|refine Ss.h ?_|refine Sc.h (fX l _ 3 (by decide) (by omega)) ?_|(refine Sb.h ?_ ?_ ?_<;>(try intro hgd)<;>try exact Xy))<;>simp -implicitDefEqProofs [hP,hN,g3,j,y,n,z,L,f,e,o,u,U]<;>try refine Ya ?_)|refine X2 ?_ ?_|(refine Xd ?_ ?_<;>intro hcd<;>try exact Xx))
  have R:jC l A.1 (nn l A.2) 0=(A.1,nn l A.2):=rfl;refine WP.loopN [7] K (λi p=>p.t 3=.ptr 9 0/\p.h 9=some (.box [.pv (zs l),.pv (Z (jC l A.1 (nn l A.2) i).2)] true false)/\p.t 2=.ptr 2 0/\p.h 2=some (.box [eR,eR,eR,eR] true false)/\p.t 4=.ptr 4 0/\p.t 6=.pv (Z ((K:Int)-i))/\p.h 86=none/\p.h 7=none/\Zj l (jC l A.1 (nn l A.2) i).1 p.h) ?_ ?_
  .refine⟨by simp[g3],by simp[R],by simp[y],by simp[n],by simp[z],by simp,by simp[e],by simp[o],?_⟩
   rw[R];rcases r with⟨a,rfl,b⟩|⟨a,rfl,b⟩|⟨a,rfl,b⟩
   .exact⟨eR,by simp[f],.inl ⟨a,rfl,by simp[b]⟩⟩
   .exact⟨.arr 40 A.1.length,by simp[f],.inr (.inl ⟨a,rfl,by simp[b]⟩)⟩
   .exact⟨.arr 71 A.1.length,by simp[f],.inr (.inr ⟨a,rfl,by simp[b]⟩)⟩
  clear g3 j y n z L e o f d r;rintro i p hi ⟨g3,j,y,n,z,G,e,o,W,f,r⟩;have F:=Ck l A.1 (nn l A.2) i;by_cases s:i<K
  .have x:i64.wrap ((K:Int)-i-1)=(K:Int)-((i:Int)+1):=by rw[IntKind.wrap_i64];omega
   have H:(0:Int)<(K:Int)-i:=by omega
   have hS:jC l A.1 (nn l A.2) (i+1)=((jC l A.1 (nn l A.2) i).1++[LJ l (jC l A.1 (nn l A.2) i).2],EE l (nn l (nn l (nn l (nn l (jC l A.1 (nn l A.2) i).2))))):=rfl;generalize jC l A.1 (nn l A.2) (i+1)=Y at *;generalize jC l A.1 (nn l A.2) i=S at *;subst hS;obtain⟨xs,m⟩:=S;simp only at F j r|-;have X:=aP l m;have a2:=aP l (nn l m);have a3:=aP l (nn l (nn l m));have a4:=aP l (nn l (nn l (nn l m)));have J:=Ve l (nn l (nn l (nn l (nn l m)))) (wr (wr (nx l m 19-9)*32768),wr (wr (nx l (nn l m) 19-9)*32768),wr (wr (nx l (nn l (nn l m)) 5-2)*32768)) (by omega);rcases r with⟨q,r,d⟩|⟨q,r,g⟩|⟨q,r,d⟩
   .subst r;subst q
    with_reducible repeat' (first|refine Sp.h ?_|((first|refine Wd ?_|refine Ss.h ?_|refine Sc.h (zU l _ 9 (by decide) (by decide) (by omega)) ?_|refine Sc.h (zU l _ 2 (by decide) (by decide) (by omega)) ?_|refine Sc.h (fX l _ 4 (by decide) (by omega)) ?_|refine Sc.h (J) ?_|(refine Sb.h ?_ ?_ ?_<;>(try intro hgd)<;>try exact Xy))<;>simp -implicitDefEqProofs [hP,hN,g3,j,y,n,z,G,e,o,f,d,x,H]<;>try refine Ya ?_)|refine X2 ?_ ?_|(refine Xd ?_ ?_<;>intro hcd<;>try exact Xx))
    refine⟨s,.arr 71 [LJ l m].length,by simp[St.kill,fA,iD],.inr (.inr ⟨by simp,rfl,?_⟩)⟩;simp[St.kill,fA,iD]
    all_goals exact⟨rfl,rfl,rfl⟩
   .subst r
    with_reducible repeat' (first|refine Sp.h ?_|((first|refine Wd ?_|refine Ss.h ?_|refine Sc.h (zU l _ 9 (by decide) (by decide) (by omega)) ?_|refine Sc.h (zU l _ 2 (by decide) (by decide) (by omega)) ?_|refine Sc.h (fX l _ 4 (by decide) (by omega)) ?_|refine Sc.h (J) ?_|(refine Sb.h ?_ ?_ ?_<;>(try intro hgd)<;>try exact Xy))<;>simp -implicitDefEqProofs [hP,hN,g3,j,y,n,z,G,e,o,f,g,x,H,show(xs.length+1)*40<=140737488355328 by omega,show xs.length<=9223372036854775806 by omega]<;>try refine Ya ?_)|refine X2 ?_ ?_|(refine Xd ?_ ?_<;>intro hcd<;>try exact Xx))
    refine⟨s,.arr 40 (xs++[LJ l m]).length,by simp[St.kill,fA,iD],.inr (.inl ⟨by simp,rfl,?_⟩)⟩;simp[St.kill,fA,iD]
    all_goals exact⟨rfl,rfl,rfl⟩
   .subst r
    with_reducible repeat' (first|refine Sp.h ?_|((first|refine Wd ?_|refine Ss.h ?_|refine Sc.h (zU l _ 9 (by decide) (by decide) (by omega)) ?_|refine Sc.h (zU l _ 2 (by decide) (by decide) (by omega)) ?_|refine Sc.h (fX l _ 4 (by decide) (by omega)) ?_|refine Sc.h (J) ?_|(refine Sb.h ?_ ?_ ?_<;>(try intro hgd)<;>try exact Xy))<;>simp -implicitDefEqProofs [hP,hN,g3,j,y,n,z,G,e,o,f,d,x,H,show(xs.length+1)*40<=140737488355328 by omega,show xs.length<=9223372036854775806 by omega]<;>try refine Ya ?_)|refine X2 ?_ ?_|(refine Xd ?_ ?_<;>intro hcd<;>try exact Xx))
    refine⟨s,.arr 71 (xs++[LJ l m]).length,by simp[St.kill,fA,iD],.inr (.inr ⟨by simp,rfl,?_⟩)⟩;simp[St.kill,fA,iD]
    all_goals exact⟨rfl,rfl,rfl⟩
  .have I:i=K:=by omega
   subst I;generalize jC l A.1 (nn l A.2) i=S at *;obtain⟨xs,m⟩:=S;simp only at F j r|-;have X:=aP l m
   have P:((rN l 0:Nat):Int)≠0:=by omega
   have q:xs≠[]:=by
    rintro rfl;have:=F.2;simp at this;omega
   by_cases B:nx l m 5=1
   .have E:(nx l m 5==1)=true:=by simp[B]
    rw[yAb B];rcases r with⟨T,r,d⟩|⟨_,r,g⟩|⟨_,r,d⟩
    .exact absurd T q
    .subst r
     with_reducible repeat' (first|refine Sp.h ?_|((first|refine Wd ?_|refine Ss.h ?_|refine Sc.h (fX l _ 5 (by decide) (by omega)) ?_|refine Sc.h (fX l _ _ P (by omega)) ?_)<;>simp -implicitDefEqProofs [hP,hN,g3,j,y,n,z,G,e,o,f,g,B,E,u]<;>try refine Ya ?_))
    .subst r
     with_reducible repeat' (first|refine Sp.h ?_|((first|refine Wd ?_|refine Ss.h ?_|refine Sc.h (fX l _ 5 (by decide) (by omega)) ?_|refine Sc.h (fX l _ _ P (by omega)) ?_)<;>simp -implicitDefEqProofs [hP,hN,g3,j,y,n,z,G,e,o,f,d,B,E,u]<;>try refine Ya ?_))
   .have E:(nx l m 5==1)=false:=by simp[B]
    rw[L4 B];rcases r with⟨T,r,d⟩|⟨_,r,g⟩|⟨_,r,d⟩
    .exact absurd T q
    .subst r
     with_reducible repeat' (first|refine Sp.h ?_|((first|refine Ss.h ?_|refine Sc.h (fX l _ 5 (by decide) (by omega)) ?_)<;>simp -implicitDefEqProofs [hP,hN,g3,j,y,n,z,G,e,o,f,g,B,E,u]))
    .subst r
     with_reducible repeat' (first|refine Sp.h ?_|((first|refine Ss.h ?_|refine Sc.h (fX l _ 5 (by decide) (by omega)) ?_)<;>simp -implicitDefEqProofs [hP,hN,g3,j,y,n,z,G,e,o,f,d,B,E,u]))
set_option maxRecDepth 100000 in
@[simp] theorem YH:dR prog 92:=by
 have hf:=func92;have nt:=ntmps92;have rs:=results92;exact BJ
end Go.Ab
