/- The contracts and facts that the laws of this seat need, in one text (KR11, KR12, KR13, KR14, KR15, KR16, KR17, K19, KR18, KR19, KR20, De1, De4, Ck0, De5, Dc9, Dl1, Ru2, RdS). -/
import Derived.Test.YtdbgcnplnhmjgaaGreatV11
set_option linter.all false
set_option maxRecDepth 10000
set_option maxHeartbeats 16000000
namespace Go.Ab
open IntKind (i64)
open Go.Proofs.Tryz
open Go.Proofs
variable {PR:List (Nat×Nat)}{PT:List (List aq)}{SH:List Sh}{hints:List Vc}{i k n:Nat}{j:J}{js:List J}{ms:List Ms}{s:Sce}{v:Vc}{ws:List Int}{α:Type}{l:List α}{p:α->Bool}
theorem Ow(l:List Vc)(ws:List Int)(h8:l.length<=8)(G:ws.length=l.length)(y:l.all (aB 268435456)=true)(q:WgOk ws):aH 233 (aP l) (zs ws) (ao (dr l ws l.length)):=by
 refine Dp func233 λC hP hN=>?_;refine Gz ?_;refine WP.loopN [] l.length (λi st=>st.t 0=.pv (aP l)/\st.t 1=.pv (zs ws)/\st.t 4=.ptr 4 0/\st.h 4=some (.box [.pv (Z 0),.pv (Z 0),.pv (Z 0)] true false)/\st.t 5=.ptr 5 0/\st.h 5=some (.box [.pv (Z (dr l ws i).1),.pv (Z (dr l ws i).2.1),.pv (Z (dr l ws i).2.2)] true false)/\st.t 6=.pv (Z i)) (by simp[dr]) ?_;rintro i st hi ⟨g0,g1,g4,f,g5,c,o⟩;by_cases g:i<l.length
 .have H:=aj g (by omega)
  have d:(i:Int)<(l.length:Int):=by omega
  have e:i<ws.length:=by omega
  generalize m:l[i]=p at *
  have u:l[i]?=some p:=by rw[an g,m]
  generalize n:ws[i]=k at *
  have r:ws[i]?=some k:=by rw[an e,n]
  have J:=kh y q i (by omega);have K:=kh y q (i+1) (by omega);have E:=q.pos k (Is r)
  have F:k<=65536:=by
   have R:=nD r;have T:=r7 q.pos i;have a3:=iF q.pos (show i+1<=ws.length by omega);have a4:=q.tot;omega
  have hp:=eQ (VL.1 y p (Is u))
  have hS:dr l ws (i+1)=((dr l ws i).1+k*p.1,(dr l ws i).2.1+k*p.2.1,(dr l ws i).2.2+k*p.2.2):=by simp only[dr,u,r]
  have m1:=bS (a:=k) (b:=p.1) 65536 268435456 (by omega) (by omega) hp.1.1 hp.1.2;have m2:=bS (a:=k) (b:=p.2.1) 65536 268435456 (by omega) (by omega) hp.2.1.1 hp.2.1.2;have I:=bS (a:=k) (b:=p.2.2) 65536 268435456 (by omega) (by omega) hp.2.2.1 hp.2.2.2;generalize dr l ws i=S at *;generalize dr l ws (i+1)=Q at *;subst hS;obtain⟨z,A,B⟩:=K;simp only at z A B;have L:i64.wrap (k*p.1)=k*p.1:=aa;have M:i64.wrap (k*p.2.1)=k*p.2.1:=aa;have N:i64.wrap (k*p.2.2)=k*p.2.2:=aa;have O:i64.wrap (S.1+k*p.1)=S.1+k*p.1:=aa;have P:i64.wrap (S.2.1+k*p.2.1)=S.2.1+k*p.2.1:=aa;have v3:i64.wrap (S.2.2+k*p.2.2)=S.2.2+k*p.2.2:=aa;clear J z A B m1 m2 I hp;have s:[AV.pv (Z S.1),AV.pv (Z S.2.1),AV.pv (Z S.2.2)]=lz S p k 0:=rfl;rw[s]at c;refine Gz ?_;refine WP.loopN [] 3 (λj st=>st.t 0=.pv (aP l)/\st.t 1=.pv (zs ws)/\st.t 4=.ptr 4 0/\st.h 4=some (.box [.pv (Z 0),.pv (Z 0),.pv (Z 0)] true false)/\st.t 5=.ptr 5 0/\st.h 5=some (.box (lz S p k j) true false)/\st.t 6=.pv (Z i)/\st.t 7=.pv (Z j)) (by simp[g0,g1,g4,f,g5,o,c,lz]) ?_;clear g0 g1 g4 f g5 o c;rintro j st D ⟨g0,g1,g4,f,g5,c,o,v⟩;rcases eJ D with rfl|rfl|rfl|rfl
  all_goals (simp[lz]at c v)
  .skip
   with_reducible repeat' (first|refine Sp.h ?_|((first|refine Wd ?_|refine Ss.h ?_)<;>simp -implicitDefEqProofs [hP,hN,g0,g1,g4,f,g5,c,o,v,u,m,r,n,g,d,e,L,O,lz]<;>try refine Ya ?_))
  .skip
   with_reducible repeat' (first|refine Sp.h ?_|((first|refine Wd ?_|refine Ss.h ?_)<;>simp -implicitDefEqProofs [hP,hN,g0,g1,g4,f,g5,c,o,v,u,m,r,n,g,d,e,M,P,lz]<;>try refine Ya ?_))
  .skip
   with_reducible repeat' (first|refine Sp.h ?_|((first|refine Wd ?_|refine Ss.h ?_)<;>simp -implicitDefEqProofs [hP,hN,g0,g1,g4,f,g5,c,o,v,u,m,r,n,g,d,e,N,v3,lz]<;>try refine Ya ?_))
  .skip
   exact Gy
 .have x:i=l.length:=by omega
  have d:¬(i:Int)<(l.length:Int):=by omega
  subst x;exact Gy
theorem Cc(l:List Int)(i:Nat)(y:Int):(List.map Z l).set i (PV.val (Value.int i64 y))=List.map Z (l.set i y):=by simp
theorem Ox(w:List Int)(t:Int)(q:Nat)(h8:w.length<=8)(c:WgOk w)(hq:q<w.length)(A:0<=t)(n:t<=256):mW 238 (zs w) (Z t) (Z q) (zs (kx w q t)):=by
 have M:kx w q t=(eG w t w.length).set q (((eG w t w.length)[q]?).getD 0+eH w t w.length):=rfl
 have d:∀k∈w,0<=k/\k<=65536:=λk l=>by
  obtain⟨i,hi⟩:=Wt l;have U:=nD hi;have V:=r7 c.pos i;have a3:=iF c.pos (show i+1<=w.length by have:=(th.1 hi).1;omega);have a4:=c.tot;exact⟨c.pos k l,by omega⟩
 have a:=pj c.pos A n
 have f1:w.length*8<=140737488355328:=by omega
 have f2:w.length<=9223372036854775807:=by omega
 refine Dp func238 λC hP hN=>?_;refine GT (gA f1 f2) ?_;refine WP.loopN [] w.length (λi st=>st.t 1=.pv (Z t)/\st.t 2=.pv (Z q)/\st.t 7=.arr 12 w.length/\st.h 12=some (.row 2 1 ((eG w t i).map Z) 0)/\st.t 8=.pv (Z (eH w t i))/\st.t 9=.pv (Z i)) (by simp[vk,eH]) ?_;rintro i st hi ⟨g1,g2,F,I,G,H⟩;have j:=nR w t i;have N:=a i
 have O:bi w i<=65536:=by
  have:=iF c.pos (show i<=w.length by omega);have:=c.tot;omega
 by_cases m:i<w.length
 .have B:=aj m (by omega)
  have b:(i:Int)<(w.length:Int):=by omega
  generalize D:w[i]=k at *
  have o:w[i]?=some k:=by rw[an m,D]
  have l:=d k (Is o);have hp:=pi l.1 A n
  have g:(eG w t i)[i]?=some k:=by rw[jW,o];simp
  have p:=vm (t:=t) o
  have x:eH w t (i+1)=eH w t i+k*t/256:=by simp[eH,o]
  have v:=a (i+1)
  have J:bi w (i+1)<=65536:=by
   have:=iF c.pos (show i+1<=w.length by omega);have:=c.tot;omega
  rw[p];rw[x]at v|-;have y:(List.map Z (eG w t i)).set i (PV.val (Value.int i64 (k-k*t/256)))=List.map Z ((eG w t i).set i (k-k*t/256)):=Cc _ _ _;generalize eG w t i=K at *
  have f:∀h,K[i]'h=k:=λh=>by rw[an h]at g;exact WE g
  have Q:i64.wrap (k*t)=k*t:=aa;have R:(k*t).tdiv 256=k*t/256:=Wa (by omega);have S:i64.wrap (k*t/256)=k*t/256:=aa;have T:i64.wrap (k-k*t/256)=k-k*t/256:=aa;have E:i64.wrap (eH w t i+k*t/256)=eH w t i+k*t/256:=aa;generalize eH w t i=L at *
  with_reducible repeat' (first|refine Sp.h ?_|((first|refine Ss.h ?_)<;>simp -implicitDefEqProofs [hP,hN,g1,g2,F,I,G,H,m,b,g,f,j,Q,R,S,T,E,B,y,-List.map_set]))
 .have r:i=w.length:=by omega
  have b:¬(i:Int)<(w.length:Int):=by omega
  subst r
  have z:(q:Int)<(w.length:Int):=by omega
  obtain⟨u,e⟩:∃u,(eG w t w.length)[q]?=some u:=⟨_,an (by rw[j];exact hq)⟩
  have P:0<=u/\u<=65536:=by
   rw[jW]at e;obtain⟨k,l⟩:∃k,w[q]?=some k:=⟨_,an hq⟩;rw[l]at e;simp only[WG,VQ]at e;have s:=d k (Is l);have hp:=pi s.1 A n;split at e<;>omega
  rw[M,e];have y:(List.map Z (eG w t w.length)).set q (PV.val (Value.int i64 (u+eH w t w.length)))=List.map Z ((eG w t w.length).set q (u+eH w t w.length)):=Cc _ _ _;have E:i64.wrap (u+eH w t w.length)=u+eH w t w.length:=aa;generalize eG w t w.length=K at *
  have f:∀h,K[q]'h=u:=λh=>by rw[an h]at e;exact WE e
  generalize eH w t w.length=L at *
  with_reducible repeat' (first|refine Sp.h ?_|((first|refine Ss.h ?_)<;>simp -implicitDefEqProofs [hP,hN,g1,g2,F,I,G,H,b,hq,z,e,f,j,E,y,-List.map_set]))
theorem PK(x:Int)(a:Nat):(x.tdiv (a:Int)).tdiv 2=x.tdiv ((a*2:Nat):Int):=by
 have h:∀n:Nat,((n:Int).tdiv (a:Int)).tdiv 2=(n:Int).tdiv ((a*2:Nat):Int):=λn=>by
  have e:∀p q:Nat,(p:Int).tdiv (q:Int)=((p/q:Nat):Int):=λp q=>by rw[Wa (by omega),Int.natCast_ediv]
  rw[e n a,show(2:Int)=((2:Nat):Int) from rfl,e,e,Nat.div_div_eq_div_mul]
 rcases Yf 0 x with b|b
 .have:=h x.toNat
  rw[Int.toNat_of_nonneg b]at this;exact this
 .have:=h (-x).toNat
  rw[Int.toNat_of_nonneg (by omega)]at this;rw[Int.neg_tdiv,Int.neg_tdiv,Int.neg_tdiv]at this;omega
def jZ(i:Nat)(v:Vc):Vc:=(v.1.tdiv ((2^i:Nat):Int),v.2.1.tdiv ((2^i:Nat):Int),v.2.2.tdiv ((2^i:Nat):Int))
theorem Kq(v:Vc):jZ 0 v=v:=by simp[jZ]
theorem Kr(i:Nat)(v:Vc):mo (jZ i v)=jZ (i+1) v:=by
 simp only[mo,jZ,PK,Yt]
theorem AJ{v:Vc}:∀(i:Nat),i<=64->(∀j,j<i->aB 16384 (jZ j v)=false)->k9 64 v=k9 (64-i) (jZ i v)
 |0,_,_=>by rw[Kq]
 |i+1,hi,h=>by
  rw[AJ i (by omega) (λj a=>h j (by omega)),show 64-i=(64-(i+1))+1 by omega,k9,VM (by rw[h i (by omega)];simp),Kr]
theorem EY(h:aB 16384 v=true):k9 n v=v:=by
 cases n with
 |zero=>rfl
 |succ n=>rw[k9,VS h]
theorem IR(hi:i<=64)(h:∀j,j<i->aB 16384 (jZ j v)=false)(hn:aB 16384 (jZ i v)=true):bF v=jZ i v:=by
 unfold bF;rw[AJ i hi h,EY hn]
theorem MD(h:aB 16384 v=false):nz (mo v)=true:=by
 have hn:¬(aB 16384 v=true):=by rw[h];simp
 rw[cT,bp,bp,bp]at hn
 cases d:nz (mo v)with
 |true=>rfl
 |false=>
  exfalso;simp only[nz,mo,Bool.not_eq_false',An,WK]at d;obtain⟨⟨e,f⟩,z3⟩:=d
  have t:∀x:Int,x.tdiv 2=0->-2<x/\x<2:=λx g=>by
   have:=Yk x 2;have:=X6 x (show(0:Int)<2 by decide);have:=XJ x (show(0:Int)<2 by decide);omega
  have a:=t _ e;have b:=t _ f;have c:=t _ z3;omega
theorem Em:∀(n:Nat)(v:Vc),nz v=true->nz (k9 n v)=true
 |0,v,h=>h
 |n+1,v,h=>by
  rw[k9];split
  .exact h
  .rename_i hn
   exact Em n _ (MD (by simpa using hn))
theorem ME(h:fy 1099511627776 v):aB 16384 (jZ 26 v)=true:=by
 have t:∀x:Int,-1099511627776<=x->x<=1099511627776->-16384<=x.tdiv ((2^26:Nat):Int)/\x.tdiv ((2^26:Nat):Int)<=16384:=λx a b=>by
  have e:=Yk x ((2^26:Nat):Int);have d:=X6 x (show(0:Int)<((2^26:Nat):Int) by decide);have f:=XJ x (show(0:Int)<((2^26:Nat):Int) by decide)
  have g:((2^26:Nat):Int)=67108864:=by decide
  rw[g]at e d f|-;omega
 have a:=t _ h.1.1 h.1.2;have b:=t _ h.2.1.1 h.2.1.2;have c:=t _ h.2.2.1 h.2.2.2;rw[cT,bp,bp,bp];simp only[jZ];omega
@[simp] theorem TW{dst:Option Nat}{ty:TypeId}{pos:String}{aft:Array Edge}{g:Option (Nat×Bool)}{ρ:Operand->AV}(x y:Operand):
 bL prog ⟨dst,.binOp .eql 68 x y 68,ty,pos,aft,g⟩ ρ=Hf (ρ x) (ρ y) (jI prog ⟨dst,.binOp .eql 68 x y 68,ty,pos,aft,g⟩ ρ):=by
 unfold Hf;split
 .rename_i a b e c d f i j
  exact Al rfl (rm i) (rm j) (by kernel_rfl) (LG a b e c d f)
 .rfl
@[simp] theorem Pe(a b e c d f:Int)(fb:Option db):Hf (.pv (.val (.agg #[.int .i64 a,.int .i64 b,.int .i64 e]))) (.pv (.val (.agg #[.int .i64 c,.int .i64 d,.int .i64 f]))) fb=some (.pv (.val (.bool (a==c&&b==d&&e==f))),[]):=rfl
theorem Oy(v:Vc)(h:fy 1099511627776 v):bh 235 (ao v) (.tup [ao (bF v),B (nz (bF v))]):=by
 cases z:nz v with
 |false=>
  have m:(v.1==0&&v.2.1==0&&v.2.2==0)=true:=by simpa[nz]using z
  have G:v=(0,0,0):=by
   simp only[An,WK]at m;obtain⟨⟨a,b⟩,c⟩:=m;exact Prod.ext a (Prod.ext b c)
  subst G
  have hn:bF (0,0,0)=(0,0,0):=by decide +kernel
  rw[hn,z];refine Dp func235 λC hP hN=>?_;exact Gy
 |true=>
  have m:(v.1==0&&v.2.1==0&&v.2.2==0)=false:=by
   have:=z;simp only[nz,Wy]at this;exact this
  have E:nz (bF v)=true:=Em 64 v z;rw[E];have N:∀i,i<=26->(2^i:Nat)<=67108864:=λi hi=>Nat.pow_le_pow_right (by decide) hi;have M:∀i,0<(2^i:Nat):=λi=>Nat.pow_pos (by decide);refine Dp func235 λC hP hN=>?_;refine Gz ?_;refine WP.loopN [5] 26 (λi st=>st.t 1=.ptr 1 0/\st.h 1=some (.box [.pv (Z v.1),.pv (Z v.2.1),.pv (Z v.2.2)] true false)/\st.t 2=.ptr 2 0/\st.h 2=some (.box [.pv (Z 0),.pv (Z 0),.pv (Z 0)] true false)/\st.t 4=.pv (Z ((2^i:Nat):Int))/\st.h 5=none/\∀j,j<i->aB 16384 (jZ j v)=false) (by simp) ?_;rintro i st hi ⟨g1,p,g2,q,g4,r,hq⟩;have R:=N i hi;have S:=M i
  have u:¬((2^i:Nat):Int)=0:=by omega
  have d:¬(2^i:Nat)=0:=by omega
  have n:=rW (jZ i v).1 (jZ i v).2.1 (jZ i v).2.2 16384 (by decide) (by decide);have D:aB 16384 (jZ i v)=hC (jZ i v).1 (jZ i v).2.1 (jZ i v).2.2 16384:=rfl;rw[<-D]at n;have g:(jZ i v).1=v.1.tdiv ((2^i:Nat):Int):=rfl;have k:(jZ i v).2.1=v.2.1.tdiv ((2^i:Nat):Int):=rfl;have l:(jZ i v).2.2=v.2.2.tdiv ((2^i:Nat):Int):=rfl
  have H:∀x:Int,-1099511627776<=x->x<=1099511627776->i64.wrap (x.tdiv ((2^i:Nat):Int))=x.tdiv ((2^i:Nat):Int):=λx a b=>by
   have e:=Int.natAbs_tdiv_le_natAbs x ((2^i:Nat):Int);exact aa (by omega) (by omega)
  have t1:=H _ h.1.1 h.1.2;have t2:=H _ h.2.1.1 h.2.1.2;have t3:=H _ h.2.2.1 h.2.2.2;rw[<-g]at t1;rw[<-k]at t2;rw[<-l]at t3;have L:(2^(i+1):Nat)=2^i*2:=Yt 2 i;have P:i64.wrap (((2^i:Nat):Int)*2)=((2^(i+1):Nat):Int):=(aa (by omega) (by omega)).trans (by omega);have A:=λhn=>IR (v:=v) (i:=i) (by omega) hq hn
  have o:aB 16384 (jZ i v)=false->i<26:=λhf=>by
   by_cases f:i<26
   .exact f
   .have:i=26:=by omega
    subst this;rw[ME h]at hf;cases hf
  have F:aB 16384 (jZ i v)=false->∀j,j<i+1->aB 16384 (jZ j v)=false:=λhf j T=>by
   by_cases e:j=i
   .subst e;exact hf
   .exact hq j (by omega)
  generalize Q:jZ i v=I at *;generalize J:(2^(i+1):Nat)=O at *;generalize(2^i:Nat)=U at *
  cases s:aB 16384 I with
  |true=>
   rw[s]at n;have K:=A s;rw[K]
   with_reducible repeat' (first|refine Sp.h ?_|((first|refine Wd ?_|refine Ss.h ?_|refine Sc.h (n) ?_)<;>simp -implicitDefEqProofs [hP,hN,g1,p,g2,q,g4,r,u,d,<-g,<-k,<-l,t1,t2,t3]<;>try refine Ya ?_))
  |false=>
   rw[s]at n;have f:=o s;have y:=F s
   with_reducible repeat' (first|refine Sp.h ?_|((first|refine Wd ?_|refine Ss.h ?_|refine Sc.h (n) ?_|(refine Sb.h ?_ ?_ ?_<;>(try intro hgd)<;>try exact Xy))<;>simp -implicitDefEqProofs [hP,hN,g1,p,g2,q,g4,r,u,d,<-g,<-k,<-l,t1,t2,t3,P]<;>try refine Ya ?_)|refine X2 ?_ ?_|(refine Xd ?_ ?_<;>intro hcd<;>try exact Xx))
   all_goals exact⟨f,y⟩
theorem ql{bet:Int->Int->Bool}{n p0:Vc}{l:List Vc}(b:l[0]?=some p0):∀i,∃p,l[(dF bet n p0 l i).2]?=some p/\(dF bet n p0 l i).1=bM n p
 |0=>⟨p0,b,rfl⟩
 |i+1=>by
  obtain⟨p,hp,c⟩:=ql (bet:=bet) (n:=n) b i
  cases a:l[i]? with
  |none=>simp only[dF,a];exact⟨p,hp,c⟩
  |some v=>
   rw[oD a];split
   .exact⟨v,a,rfl⟩
   .exact⟨p,hp,c⟩
theorem Oz(n:Vc)(l:List Vc)(hn:aB 16384 n=true)(h1:1<=l.length)(h8:l.length<=8)(W:l.all (aB 268435456)=true):mW 236 (ao n) (aP l) (Z 1) (Z (dp fe n l).2):=by
 obtain⟨p0,e⟩:∃p0,l[0]?=some p0:=⟨_,an (by omega)⟩
 have V:dp fe n l=dF fe n p0 l l.length:=by simp[dp,e]
 have u:=ql (bet:=fe) (n:=n) e;have o:=vj (bet:=fe) (n:=n) (p0:=p0) (l:=l) (by omega);have s:=wU hn
 have b:∀p∈l,aQ prog 237 [.pv (ao n),.pv (ao p)] [] [] (.pv (Z (bM n p)))/\-13194139533312<=bM n p/\bM n p<=13194139533312:=λp hp=>by
  have hq:=eQ (VL.1 W p hp);exact⟨Bs n p 16384 268435456 s hq (by decide),tc s hq⟩
 rw[V];refine Dp func236 λC hP hN=>?_;refine Gz ?_;refine WP.loopN [] (l.length-1) (λi st=>st.t 3=.ptr 3 0/\st.h 3=some (.box [.pv (Z n.1),.pv (Z n.2.1),.pv (Z n.2.2)] true false)/\st.t 1=.pv (aP l)/\st.t 2=.pv (Z 1)/\st.t 8=.pv (Z ((i+1:Nat):Int))/\st.t 7=.pv (Z (dF fe n p0 l (i+1)).2)) (by simp[dF,e,fe]) ?_;rintro i st hi ⟨g3,g,g1,g2,B,A⟩;obtain⟨m,X⟩:∃m,m=i+1:=⟨_,rfl⟩
 have E:i+1+1=m+1:=by omega
 rw[<-X]at B A;rw[E];by_cases d:m<l.length
 .have I:i64.wrap ((m:Int)+1)=((m+1:Nat):Int):=(aa (by omega) (by omega)).trans (by omega)
  have a:(m:Int)<(l.length:Int):=by omega
  have j:i<l.length-1:=by omega
  obtain⟨p,hp,F⟩:=u m;have k:=o m;generalize f:l[m]=v at *
  have z:l[m]?=some v:=by rw[an d,f]
  obtain⟨d1,R,S⟩:=b v (Is z);obtain⟨d2,T,U⟩:=b p (Is hp);have Y:=oD (bet:=fe) (n:=n) (p0:=p0) z;rw[Y,F];generalize G:(dF fe n p0 l m).2=q at *
  have r:∀h,l[q]'h=p:=λh=>by rw[an h]at hp;exact WE hp
  generalize bM n v=x at *;generalize bM n p=y at *;have J:i64.wrap x=x:=aa;have K:i64.wrap y=y:=aa;have L:i64.wrap (-x)=-x:=aa;have M:i64.wrap (-y)=-y:=aa;have N:i64.wrap (-1*x)=-x:=(aa (by omega) (by omega)).trans (by omega);have O:i64.wrap (-1*y)=-y:=(aa (by omega) (by omega)).trans (by omega);have P:i64.wrap (1*x)=x:=(aa (by omega) (by omega)).trans (by omega);have Q:i64.wrap (1*y)=y:=(aa (by omega) (by omega)).trans (by omega);by_cases H:x<y
  .have c:fe x y=true:=by simp only[fe,L4];omega
   rw[c];simp only[V8];exact GS (s7 g3 g g1 g2 B A d a I z f hp r k (s5 j J K L M N O P Q H))
  .have c:fe x y=false:=by simp only[fe,VY];omega
   rw[c];simp only[VP,VZ];refine GT (s7 g3 g g1 g2 B A d a I z f hp r k (s5 j J K L M N O P Q H)) ?_
   all_goals rw[G]
 .have D:m=l.length:=by omega
  have a:¬(m:Int)<(l.length:Int):=by omega
  subst D;exact Gy
theorem OA(n:Vc)(l:List Vc)(hn:aB 16384 n=true)(h1:1<=l.length)(h8:l.length<=8)(W:l.all (aB 268435456)=true):mW 236 (ao n) (aP l) (Z (-1)) (Z (dp ff n l).2):=by
 obtain⟨p0,e⟩:∃p0,l[0]?=some p0:=⟨_,an (by omega)⟩
 have V:dp ff n l=dF ff n p0 l l.length:=by simp[dp,e]
 have u:=ql (bet:=ff) (n:=n) e;have o:=vj (bet:=ff) (n:=n) (p0:=p0) (l:=l) (by omega);have s:=wU hn
 have b:∀p∈l,aQ prog 237 [.pv (ao n),.pv (ao p)] [] [] (.pv (Z (bM n p)))/\-13194139533312<=bM n p/\bM n p<=13194139533312:=λp hp=>by
  have hq:=eQ (VL.1 W p hp);exact⟨Bs n p 16384 268435456 s hq (by decide),tc s hq⟩
 rw[V];refine Dp func236 λC hP hN=>?_;refine Gz ?_;refine WP.loopN [] (l.length-1) (λi st=>st.t 3=.ptr 3 0/\st.h 3=some (.box [.pv (Z n.1),.pv (Z n.2.1),.pv (Z n.2.2)] true false)/\st.t 1=.pv (aP l)/\st.t 2=.pv (Z (-1))/\st.t 8=.pv (Z ((i+1:Nat):Int))/\st.t 7=.pv (Z (dF ff n p0 l (i+1)).2)) (by simp[dF,e,ff]) ?_;rintro i st hi ⟨g3,g,g1,g2,B,A⟩;obtain⟨m,X⟩:∃m,m=i+1:=⟨_,rfl⟩
 have E:i+1+1=m+1:=by omega
 rw[<-X]at B A;rw[E];by_cases d:m<l.length
 .have I:i64.wrap ((m:Int)+1)=((m+1:Nat):Int):=(aa (by omega) (by omega)).trans (by omega)
  have a:(m:Int)<(l.length:Int):=by omega
  have j:i<l.length-1:=by omega
  obtain⟨p,hp,F⟩:=u m;have k:=o m;generalize f:l[m]=v at *
  have z:l[m]?=some v:=by rw[an d,f]
  obtain⟨d1,R,S⟩:=b v (Is z);obtain⟨d2,T,U⟩:=b p (Is hp);have Y:=oD (bet:=ff) (n:=n) (p0:=p0) z;rw[Y,F];generalize G:(dF ff n p0 l m).2=q at *
  have r:∀h,l[q]'h=p:=λh=>by rw[an h]at hp;exact WE hp
  generalize bM n v=x at *;generalize bM n p=y at *;have J:i64.wrap x=x:=aa;have K:i64.wrap y=y:=aa;have L:i64.wrap (-x)=-x:=aa;have M:i64.wrap (-y)=-y:=aa;have N:i64.wrap (-1*x)=-x:=(aa (by omega) (by omega)).trans (by omega);have O:i64.wrap (-1*y)=-y:=(aa (by omega) (by omega)).trans (by omega);have P:i64.wrap (1*x)=x:=(aa (by omega) (by omega)).trans (by omega);have Q:i64.wrap (1*y)=y:=(aa (by omega) (by omega)).trans (by omega);by_cases H:y<x
  .have c:ff x y=true:=by simp only[ff,L4];omega
   rw[c];simp only[V8];exact GS (s7 g3 g g1 g2 B A d a I z f hp r k (s5 j J K L M N O P Q H))
  .have c:ff x y=false:=by simp only[ff,VY];omega
   rw[c];simp only[VP,VZ];refine GT (s7 g3 g g1 g2 B A d a I z f hp r k (s5 j J K L M N O P Q H)) ?_
   all_goals rw[G]
 .have D:m=l.length:=by omega
  have a:¬(m:Int)<(l.length:Int):=by omega
  subst D;exact Gy
theorem MF(h:∀w∈ws,0<=w):∀{i j:Nat},i<=j->bi ws i<=bi ws j:=λa=>iF h a
theorem IS{w:Int}:wB w=true↔0<=w/\w<=65536:=by
 simp only[wB,Wy,Xa,VY];omega
theorem Ks{l:List aq}(hp:ay l=true)(a:ws.length=l.length):eh l ws=true↔(∀w∈ws,0<=w/\w<=65536)/\1<=bi ws ws.length/\bi ws ws.length<=65536:=by
 simp only[eh,hp,a,XP,We,An,VL,IS,Wy,Xa,VY];rw[<-a];constructor
 all_goals rintro⟨b,c⟩;exact⟨b,by omega,by omega⟩
set_option maxRecDepth 4000 in
theorem OB(l:List aq)(ws:List Int)(hl:l.length<=9223372036854775807)(V:ws.length<=9223372036854775807):aH 225 (aF l) (zs ws) (gc l ws):=by
 have Y:=xi l hl;have z6:bR bB=V6 0 0 0 0 0 0:=rfl
 have o:eh l ws=false->gc l ws=.tup [V6 0 0 0 0 0 0,Z 0,B false]:=λhf=>by unfold gc;rw[hf];rfl
 cases hp:ay l with
 |false=>
  rw[hp]at Y;rw[o (by simp[eh,hp])];refine Dp func225 λC hP hN=>?_;exact Gy
 |true=>
 rw[hp]at Y;by_cases s:ws.length=l.length
 case neg=>
  have L:((ws.length:Int)!=(l.length:Int))=true:=by simp;omega
  have ad:¬(ws.length:Int)=(l.length:Int):=by omega
  rw[o (by simp[eh,s])];refine Dp func225 λC hP hN=>?_;exact Gy
 have L:((ws.length:Int)!=(l.length:Int))=false:=by simp[s]
 have n:=Ks hp s;have M:=hp;simp only[ay,An,L4]at M;obtain⟨⟨ar,a5⟩,R⟩:=M;have H:=VL.1 R;refine Dp func225 λC hP hN=>?_;refine Gz ?_;refine WP.loopN [] ws.length (λi st=>st.t 0=.pv (aF l)/\st.t 1=.pv (zs ws)/\st.t 4=.ptr 4 0/\st.h 4=some (.box (b6 bB) true false)/\st.t 7=.pv (Z (bi ws i))/\st.t 8=.pv (Z i)/\st.h 9=none/\(∀k w,k<i->ws[k]?=some w->0<=w/\w<=65536)/\0<=bi ws i/\bi ws i<=65536) (by simp[bi,bB]) ?_;rintro i st hi ⟨g0,g1,g4,b,q,g8,a,hq,t0,t1⟩;by_cases c:i<ws.length
 .have y:=aj c V
  have f:(i:Int)<(ws.length:Int):=by omega
  generalize j:ws[i]=w at *
  have r:ws[i]?=some w:=by rw[an c,j]
  have hT:bi ws (i+1)=bi ws i+w:=by simp only[bi,r,V5]
  have wS:i64.wrap (65536-bi ws i)=65536-bi ws i:=aa;have d:=n.1;have G:=MF (ws:=ws);by_cases h9:w<0
  .rw[o (by
    cases J:eh l ws with
    |false=>rfl
    |true=>have:=((n.1 J).1 w (Is r));omega)]
   exact Gy
  .by_cases h10:65536-bi ws i<w
   .rw[o (by
     cases J:eh l ws with
     |false=>rfl
     |true=>
      obtain⟨c1,c2,c3⟩:=n.1 J;have:=G (λw y=>(c1 w y).1) (show i+1<=ws.length by omega)
      omega)]
    exact Gy
   .have wT:i64.wrap (bi ws i+w)=bi ws i+w:=aa
    have U:∀k u,k<i+1->ws[k]?=some u->0<=u/\u<=65536:=λk u K N=>by
     by_cases e:k=i
     .subst e;rw[r]at N;injection N with N;subst N;omega
     .exact hq k u (by omega) N
    have t2:0<=bi ws i+w/\bi ws i+w<=65536:=by omega
    rw[hT];generalize bi ws i=T at *;refine GT (s7 g0 g1 g4 b q g8 a c f r j h9 wS h10 (gA wT y)) ?_
    all_goals exact⟨U,t2⟩
 .have F:i=ws.length:=by omega
  have f:¬(i:Int)<(ws.length:Int):=by omega
  have d:∀w∈ws,0<=w/\w<=65536:=λw y=>by
   obtain⟨k,K⟩:=Wt y;exact hq k w (by have:=(th.1 K).1;omega) K
  subst F;by_cases h1:bi ws ws.length<1
  .rw[o (by
    cases J:eh l ws with
    |false=>rfl
    |true=>have:=n.1 J;omega)]
   exact Gy
  .have Q:eh l ws=true:=n.2 ⟨d,by omega,by omega⟩
   have hR:gc l ws=.tup [bR (dH l ws ws.length),Z (bi ws ws.length),B true]:=by unfold gc;rw[Q];rfl
   rw[hR];have O:∀w∈ws,wB w=true:=λw y=>IS.2 (d w y);have D:=zx H O;have A:st.h 4=some (.box [.pv (Z 0),.pv (Z 0),.pv (Z 0),.pv (Z 0),.pv (Z 0),.pv (Z 0)] true false):=b;clear b n o hq z6;generalize bi ws ws.length=T at *;refine Gz ?_;refine WP.loopN [] l.length (λi st=>st.t 0=.pv (aF l)/\st.t 1=.pv (zs ws)/\st.t 4=.ptr 4 0/\st.h 4=some (.box [.pv (Z 0),.pv (Z 0),.pv (Z 0),.pv (Z 0),.pv (Z 0),.pv (Z 0)] true false)/\st.t 7=.pv (Z T)/\st.t 9=.ptr 9 0/\st.h 9=some (.box (b6 (dH l ws i)) true false)/\st.t 10=.pv (Z i)) (by simp[dH,bB,g0,g1,g4,A,q]) ?_;clear g0 g1 g4 A q g8 a f c hi;rintro i st hi ⟨g0,g1,g4,b,q,E,a,g⟩;by_cases c:i<l.length
   .have y:=aj c (by omega)
    have f:(i:Int)<(l.length:Int):=by omega
    have m:i<ws.length:=by omega
    generalize j:ws[i]=w at *
    have r:ws[i]?=some w:=by rw[an m,j]
    generalize z:l[i]=x at *
    have P:l[i]?=some x:=by rw[an c,z]
    have I:=d w (Is r);have v:=H x (Is P);rw[gE]at v
    have hS:dH l ws (i+1)=rj w (dH l ws i) x:=by simp only[dH,r,P]
    obtain⟨r1,r2,r3⟩:=D i;have W:=iS (w:=w) (x:=x.1) I v.1 r1;have X:=iS (w:=w) (x:=x.2.1) I v.2.1 r2;have a3:=iS (w:=w) (x:=x.2.2) I v.2.2 r3;clear D d O H;generalize dH l ws i=S at *;generalize dH l ws (i+1)=S' at *;subst hS;have d1:(dC w S.1 x.1).1=S.1.1+w*x.1.1:=rfl;have d2:(dC w S.1 x.1).2=S.1.2+w*x.1.2:=rfl;have d3:(dC w S.2.1 x.2.1).1=S.2.1.1+w*x.2.1.1:=rfl;have d4:(dC w S.2.1 x.2.1).2=S.2.1.2+w*x.2.1.2:=rfl;have d5:(dC w S.2.2 x.2.2).1=S.2.2.1+w*x.2.2.1:=rfl;have d6:(dC w S.2.2 x.2.2).2=S.2.2.2+w*x.2.2.2:=rfl;rw[d1,d2]at W;rw[d3,d4]at X;rw[d5,d6]at a3;have u1:i64.wrap (w*x.1.1)=w*x.1.1:=aa;have u2:i64.wrap (w*x.1.2)=w*x.1.2:=aa;have u3:i64.wrap (w*x.2.1.1)=w*x.2.1.1:=aa;have u4:i64.wrap (w*x.2.1.2)=w*x.2.1.2:=aa;have u5:i64.wrap (w*x.2.2.1)=w*x.2.2.1:=aa;have u6:i64.wrap (w*x.2.2.2)=w*x.2.2.2:=aa;have v1:i64.wrap (S.1.1+w*x.1.1)=S.1.1+w*x.1.1:=aa;have v2:i64.wrap (S.1.2+w*x.1.2)=S.1.2+w*x.1.2:=aa;have v3:i64.wrap (S.2.1.1+w*x.2.1.1)=S.2.1.1+w*x.2.1.1:=aa;have v4:i64.wrap (S.2.1.2+w*x.2.1.2)=S.2.1.2+w*x.2.1.2:=aa;have v5:i64.wrap (S.2.2.1+w*x.2.2.1)=S.2.2.1+w*x.2.2.1:=aa;have v6:i64.wrap (S.2.2.2+w*x.2.2.2)=S.2.2.2+w*x.2.2.2:=aa;clear W X a3 r1 r2 r3 d1 d2 d3 d4 d5 d6;refine Gz ?_;refine WP.loopN [] 3 (λk st=>st.t 0=.pv (aF l)/\st.t 1=.pv (zs ws)/\st.t 4=.ptr 4 0/\st.h 4=some (.box [.pv (Z 0),.pv (Z 0),.pv (Z 0),.pv (Z 0),.pv (Z 0),.pv (Z 0)] true false)/\st.t 7=.pv (Z T)/\st.t 9=.ptr 9 0/\st.h 9=some (.box (lC S x w k) true false)/\st.t 10=.pv (Z i)/\st.t 11=.pv (Z k)) (by simp[g0,g1,g4,b,q,E,a,g,lC]) ?_;clear g0 g1 g4 b q E a g;rintro k st K ⟨g0,g1,g4,b,q,E,a,g,p⟩;rcases eJ K with rfl|rfl|rfl|rfl
    all_goals (simp[lC,dC]at a p)
    .skip
     with_reducible repeat' (first|refine Sp.h ?_|((first|refine Wd ?_|refine Ss.h ?_|(refine Sb.h ?_ ?_ ?_<;>(try intro hgd)<;>try exact Xy))<;>simp -implicitDefEqProofs (maxSteps:=2000000) [hP,hN,g0,g1,g4,b,q,E,a,g,p,r,j,P,z,c,m,u1,u2,v1,v2,lC,dC]<;>try refine Ya ?_)|refine X2 ?_ ?_|(refine Xd ?_ ?_<;>intro hcd<;>try exact Xx))
    .skip
     with_reducible repeat' (first|refine Sp.h ?_|((first|refine Wd ?_|refine Ss.h ?_|(refine Sb.h ?_ ?_ ?_<;>(try intro hgd)<;>try exact Xy))<;>simp -implicitDefEqProofs (maxSteps:=2000000) [hP,hN,g0,g1,g4,b,q,E,a,g,p,r,j,P,z,c,m,u3,u4,v3,v4,lC,dC]<;>try refine Ya ?_)|refine X2 ?_ ?_|(refine Xd ?_ ?_<;>intro hcd<;>try exact Xx))
    .skip
     with_reducible repeat' (first|refine Sp.h ?_|((first|refine Wd ?_|refine Ss.h ?_|(refine Sb.h ?_ ?_ ?_<;>(try intro hgd)<;>try exact Xy))<;>simp -implicitDefEqProofs (maxSteps:=2000000) [hP,hN,g0,g1,g4,b,q,E,a,g,p,r,j,P,z,c,m,u5,u6,v5,v6,lC,dC]<;>try refine Ya ?_)|refine X2 ?_ ?_|(refine Xd ?_ ?_<;>intro hcd<;>try exact Xx))
    .skip
     with_reducible repeat' (first|refine Sp.h ?_|((first|refine Wd ?_|refine Ss.h ?_|(refine Sb.h ?_ ?_ ?_<;>(try intro hgd)<;>try exact Xy))<;>simp -implicitDefEqProofs (maxSteps:=2000000) [hP,hN,g0,g1,g4,b,q,E,a,g,p,c,y,rj,dC]<;>try refine Ya ?_)|refine X2 ?_ ?_|(refine Xd ?_ ?_<;>intro hcd<;>try exact Xx))
   .have F:i=l.length:=by omega
    have f:¬(i:Int)<(l.length:Int):=by omega
    subst F;rw[<-s]at a;exact Gy
theorem Bt(x:Int)(h1:-4611686018427387904<=x)(d:x<=4611686018427387904):bh 227 (Z x) (Z (max x (-x))):=by
 have e:i64.wrap (-x)=-x:=aa;have f:i64.wrap (0-x)=-x:=(aa (n:=0-x) (by omega) (by omega)).trans (by omega)
 have c:∀a b:Int,(if a<b then b else a)=max a b:=λa b=>by omega
 refine Dp func227 λC hP hN=>?_;exact Gy
theorem Kt(x y z r:Int):pg [x,y,z] r=if x<=r/\y<=r/\z<=r then r*r-x*x-y*y-z*z else -1:=by
 unfold pg
 have:[x,y,z].all (λx=>decide (x<=r))=decide (x<=r/\y<=r/\z<=r):=by simp[Bool.and_assoc]
 rw[this];simp[jx]
theorem Ku{u v:Iv}{T:Int}(a:1<=T/\T<=65536)(h1:-281474976710656<=u.1-v.2/\u.1-v.2<=281474976710656)(b:-281474976710656<=u.2-v.1/\u.2-v.1<=281474976710656):
 aQ prog 226 [.pv (Z (max (u.1-v.2) (max (-(u.1-v.2)) (max (u.2-v.1) (-(u.2-v.1)))))),.pv (Z T)] [] [] (.pv (Z (dw u v T)))/\0<=dw u v T:=by
 have hf:max (u.1-v.2) (max (-(u.1-v.2)) (max (u.2-v.1) (-(u.2-v.1))))=mF (u.1-v.2) (u.2-v.1):=by unfold mF;omega
 have c:=vh h1 b;have:=El (mF (u.1-v.2) (u.2-v.1)) T (by omega);rw[sC (by omega) (by omega) (by omega),F0 (by omega)]at this;rw[hf];exact⟨this,(xY c.1 (by omega) a.1 a.2).1⟩
set_option maxRecDepth 4000 in
theorem ST(left right:List Int)(a:List aq)(i:Int)(b:List aq)(j:Int)(h1:left.length<=9223372036854775807)(h2:right.length<=9223372036854775807)(h3:a.length<=9223372036854775807)(h4:b.length<=9223372036854775807):LO 161 (zs left) (zs right) (aF a) (Z i) (aF b) (Z j) (.tup [Z (lR left right a i b j),B (oC left right a i b j)]):=by
 have ca:=OB a left h3 h1;have Y:=OB b right h4 h2;have H:=Bw i;have M:=Bw j;have W:bR bB=V6 0 0 0 0 0 0:=rfl;have e:oC left right a i b j=(eh a left&&eh b right&&decide (bi left left.length=bi right right.length)&&bt i 0 1048576&&bt j 0 1048576):=rfl
 have hX:lR left right a i b j=if oC left right a i b j then pg (fa (dH a left left.length) (dH b right right.length) (bi left left.length)) (i+j)else 0:=rfl
 rw[hX]
 cases I:eh a left with
 |false=>
  rw[I]at e;simp only[Ww]at e;rw[e];simp only[VP,VZ];simp only[gc,I,VP,VZ,W]at ca;cases G:eh b right
  all_goals (simp only[gc,G,VP,VZ,V8,W]at Y)
  .skip
   refine Dp func161 λC hP hN=>?_;exact Gy
  .skip
   generalize dH b right right.length=V at *;generalize bi right right.length=X at *;refine Dp func161 λC hP hN=>?_;exact Gy
 |true=>
 simp only[gc,I,V8]at ca
 cases G:eh b right with
 |false=>
  rw[G]at e;simp only[Ww,Xi]at e;rw[e];simp only[VP,VZ];simp only[gc,G,VP,VZ,W]at Y;generalize dH a left left.length=U at *;generalize bi left left.length=T at *;refine Dp func161 λC hP hN=>?_;exact Gy
 |true=>
 simp only[gc,G,V8]at Y;have D:=vg I;have E:=vg G;have J:=DT I;rw[I,G]at e;simp only[We]at e;clear hX I G W;generalize dH a left left.length=U at *;generalize dH b right right.length=V at *;generalize bi left left.length=T at *;generalize bi right right.length=X at *;by_cases hT:T=X
 case neg=>
  have ba:(T !=X)=true:=by simp[hT]
  rw[WW hT]at e;simp only[Ww]at e;rw[e];simp only[VP,VZ];clear D E;refine Dp func161 λC hP hN=>?_;exact Gy
 subst hT;simp only[XP,We]at e
 cases o:bt i 0 1048576 with
 |false=>
  rw[o]at e H;simp only[Ww]at e;rw[e];simp only[VP,VZ];clear D E;refine Dp func161 λC hP hN=>?_;exact Gy
 |true=>
 cases F:bt j 0 1048576 with
 |false=>
  rw[F]at e M;rw[o]at H;simp only[Xi]at e;rw[e];simp only[VP,VZ];clear D E;refine Dp func161 λC hP hN=>?_;exact Gy
 |true=>
 rw[o,F]at e;rw[o]at H;rw[F]at M;simp only[Xf]at e;rw[e];simp only[V8];simp only[bt,An,L4]at o F;obtain⟨c,N⟩:∃c,c=i+j:=⟨_,rfl⟩;have p:i64.wrap (i+j)=c:=(aa (by omega) (by omega)).trans N.symm;rw[<-N];have bb:=mQ (x:=c) (m:=2097152) (by omega) (by omega);have a8:i64.wrap (c*c)=c*c:=aa;obtain⟨⟨⟨a1,a2⟩,a3,a4⟩,⟨⟨b1,b2⟩,b3,b4⟩,⟨c1,c2⟩,c3,c4⟩:=D;obtain⟨⟨⟨d1,d2⟩,d3,d4⟩,⟨⟨e1,e2⟩,e3,e4⟩,⟨f1,f2⟩,f3,f4⟩:=E;have k0:=Ku (u:=U.1) (v:=V.1) J (by omega) (by omega);have k1:=Ku (u:=U.2.1) (v:=V.2.1) J (by omega) (by omega);have k2:=Ku (u:=U.2.2) (v:=V.2.2) J (by omega) (by omega)
 have S:∀a b:Int,(if a<b then b else a)=max a b:=λa b=>by omega
 have Q:i64.wrap (U.1.1-V.1.2)=U.1.1-V.1.2:=aa;have R:i64.wrap (U.1.2-V.1.1)=U.1.2-V.1.1:=aa;have ar:i64.wrap (U.2.1.1-V.2.1.2)=U.2.1.1-V.2.1.2:=aa;have a5:i64.wrap (U.2.1.2-V.2.1.1)=U.2.1.2-V.2.1.1:=aa;have a6:i64.wrap (U.2.2.1-V.2.2.2)=U.2.2.1-V.2.2.2:=aa;have a7:i64.wrap (U.2.2.2-V.2.2.1)=U.2.2.2-V.2.2.1:=aa;have bq:=Bt (U.1.1-V.1.2) (by omega) (by omega);have bs:=Bt (U.1.2-V.1.1) (by omega) (by omega);have bH:=Bt (U.2.1.1-V.2.1.2) (by omega) (by omega);have b0:=Bt (U.2.1.2-V.2.1.1) (by omega) (by omega);have b5:=Bt (U.2.2.1-V.2.2.2) (by omega) (by omega);have b7:=Bt (U.2.2.2-V.2.2.1) (by omega) (by omega);clear a1 a2 a3 a4 b1 b2 b3 b4 c1 c2 c3 c4 d1 d2 d3 d4 e1 e2 e3 e4 f1 f2 f3 f4;have hg:fa U V T=[dw U.1 V.1 T,dw U.2.1 V.2.1 T,dw U.2.2 V.2.2 T]:=rfl;rw[hg,Kt];generalize dw U.1 V.1 T=x at *;generalize dw U.2.1 V.2.1 T=y at *;generalize dw U.2.2 V.2.2 T=z at *;obtain⟨k0,x0⟩:=k0;obtain⟨k1,y0⟩:=k1;obtain⟨k2,z0⟩:=k2
 have qx:x<=c->0<=x*x/\x*x<=4398046511104:=λh=>by have:=mQ (x:=x) (m:=2097152) x0 (by omega);omega
 have qy:y<=c->0<=y*y/\y*y<=4398046511104:=λh=>by have:=mQ (x:=y) (m:=2097152) y0 (by omega);omega
 have qz:z<=c->0<=z*z/\z*z<=4398046511104:=λh=>by have:=mQ (x:=z) (m:=2097152) z0 (by omega);omega
 refine Dp func161 λC hP hN=>?_;refine GT (gA p a8) ?_;refine WP.loopN [] 3 (λk st=>st.t 3=.pv (Z i)/\st.t 5=.pv (Z j)/\st.t 14=.ptr 14 0/\st.h 14=some (.box [.pv (Z U.1.1),.pv (Z U.1.2),.pv (Z U.2.1.1),.pv (Z U.2.1.2),.pv (Z U.2.2.1),.pv (Z U.2.2.2)] true false)/\st.t 17=.ptr 17 0/\st.h 17=some (.box [.pv (Z V.1.1),.pv (Z V.1.2),.pv (Z V.2.1.1),.pv (Z V.2.1.2),.pv (Z V.2.2.1),.pv (Z V.2.2.2)] true false)/\st.t 15=.pv (Z T)/\st.t 21=.pv (Z k)/\st.t 20=.pv (Z (if k=0 then c*c else if k=1 then c*c-x*x else if k=2 then c*c-x*x-y*y else c*c-x*x-y*y-z*z))/\(0<k->x<=c)/\(1<k->y<=c)/\(2<k->z<=c)) (by simp) ?_;rintro k st hk ⟨g3,g5,r,f,A,g,s,n,l,p0,p1,p2⟩;rcases eJ hk with rfl|rfl|rfl|rfl
 all_goals (simp at l n)
 .by_cases L:c<x
  .have d:(if x<=c/\y<=c/\z<=c then c*c-x*x-y*y-z*z else -1)=-1:=VM (by omega)
   rw[d];exact GS (s6 g3 g5 r f A g s l n S Q (be R p L))
  .have q:=qx (by omega)
   have O:i64.wrap (x*x)=x*x:=aa;have P:i64.wrap (c*c-x*x)=c*c-x*x:=aa;refine GT (s7 g3 g5 r f A g s l n S Q R p L (gA O P)) ?_
   all_goals omega
 .have K:=p0 (by omega)
  have q':=qx K;by_cases L:c<y
  .have d:(if x<=c/\y<=c/\z<=c then c*c-x*x-y*y-z*z else -1)=-1:=VM (by omega)
   rw[d];exact Gy
  .have q:=qy (by omega)
   have O:i64.wrap (y*y)=y*y:=aa;have P:i64.wrap (c*c-x*x-y*y)=c*c-x*x-y*y:=aa;refine GT (s7 g3 g5 r f A g s l n S ar a5 p L (gA O P)) ?_
   all_goals omega
 .have K:=p0 (by omega)
  have ad:=p1 (by omega);have q':=qx K;have bc:=qy ad;by_cases L:c<z
  .have d:(if x<=c/\y<=c/\z<=c then c*c-x*x-y*y-z*z else -1)=-1:=VM (by omega)
   rw[d];exact Gy
  .have q:=qz (by omega)
   have O:i64.wrap (z*z)=z*z:=aa;have P:i64.wrap (c*c-x*x-y*y-z*z)=c*c-x*x-y*y-z*z:=aa;refine GT (s7 g3 g5 r f A g s l n S a6 a7 p L (gA O P)) ?_
   all_goals omega
 .have d:(if x<=c/\y<=c/\z<=c then c*c-x*x-y*y-z*z else -1)=c*c-x*x-y*y-z*z:=VS ⟨p0 (by omega),p1 (by omega),p2 (by omega)⟩
  rw[d];exact Gy
theorem SU(left right:List Int)(a:List aq)(c:Int)(b:List aq)(d:Int)(h1:left.length<=9223372036854775807)(g:right.length<=9223372036854775807)(i:a.length<=9223372036854775807)(j:b.length<=9223372036854775807):LO 107 (zs left) (zs right) (aF a) (Z c) (aF b) (Z d) (B (oC left right a c b d&&decide (0<=lR left right a c b d))):=by
 have f:=ST left right a c b d h1 g i j;generalize lR left right a c b d=e at *;cases k:oC left right a c b d<;>rw[k]at f
 all_goals
  refine Dp func107 λC hP hN=>?_;exact Gy
theorem OC(a b:List Vc)(rho steps:Int)(ha:a.length<=9223372036854775807)(hb:b.length<=9223372036854775807):EG 164 (aP a) (aP b) (Z rho) (Z steps) (Lt (jD a b rho steps)):=by
 have ca:=Ov a ha;have cb:=Ov b hb
 have b0:rh a b rho steps=false->jD a b rho steps=(0,⟨[],[],(0,0,0),0⟩):=λh=>by simp[jD,h]
 have hd:rh a b rho steps=(fL a&&fL b&&bt rho 0 2097152&&bt steps 0 64):=rfl
 cases hA:fL a with
 |false=>
  rw[hA]at ca;rw[b0 (by rw[hd,hA];rfl)];refine Dp func164 λC hP hN=>?_;exact GS trivial
 |true=>
 rw[hA]at ca
 cases hB:fL b with
 |false=>
  rw[hB]at cb;rw[b0 (by rw[hd,hB,Xi];rfl)];refine Dp func164 λC hP hN=>?_;exact GS trivial
 |true=>
 rw[hB]at cb;by_cases b3:rho<0\/2097152<rho\/steps<0\/64<steps
 .have hf:rh a b rho steps=false:=by
   cases h:rh a b rho steps with
   |false=>rfl
   |true=>
    rw[hd]at h;simp only[bt,An,L4]at h;omega
  rw[b0 hf];rcases b3 with h|h|h|h
  all_goals
   refine Dp func164 λC hP hN=>?_;exact GS h
 have q1:¬rho<0:=by omega
 have q2:¬2097152<rho:=by omega
 have q3:¬steps<0:=by omega
 have q4:¬64<steps:=by omega
 have ia:=ki.1 hA;have ib:=ki.1 hB;obtain⟨M,ct⟩:∃M:Nat,steps=M:=⟨steps.toNat,by omega⟩;subst ct
 have hr:jD a b rho M=kT a b rho M (M+1) (td a b):=by
  have:rh a b rho M=true:=by
   rw[hd,hA,hB];simp[bt];omega
  simp[jD,this]
 rw[hr];obtain⟨R,hR⟩:∃R,R=kT a b rho M (M+1) (td a b):=⟨_,rfl⟩;rw[<-hR]
 have f1:(8:Int)*(a.length:Int)<=281474976710656:=by omega
 have f2:(8:Int)*(b.length:Int)<=281474976710656:=by omega
 have f3:(a.length:Int)<=9223372036854775807:=by omega
 have f4:(b.length:Int)<=9223372036854775807:=by omega
 have f5:0<a.length:=by omega
 have f6:0<b.length:=by omega
 refine Dp func164 λC hP hN=>?_;refine GT (s5 q1 q2 q3 q4 f1 f2 f3 f4 f5 f6) ?_;refine WP.loopN [10,11,12,16] M (λi st=>∃(s:NSt)(X Y:AV),NsOk a b s/\s.r=i/\kT a b rho M (M+1-i) s=R/\st.t 0=.pv (aP a)/\st.t 1=.pv (aP b)/\st.t 2=.pv (Z rho)/\st.t 3=.pv (Z M)/\st.t 8=.ptr 8 0/\st.h 8=some (.box [.pv (Z 0),.pv (Z 0),.pv (Z 0),.pv (Z 0),.pv (.val (.slice none 0 0)),.pv (.val (.slice none 0 0)),.pv (Z 0)] true false)/\st.t 9=.ptr 9 0/\st.h 10=none/\st.h 11=none/\st.h 12=none/\st.h 16=none/\st.h 9=some (.box [.pv (Z 0),.pv (Z s.n.1),.pv (Z s.n.2.1),.pv (Z s.n.2.2),X,Y,.pv (Z s.r)] true false)/\((X=.arr 47 a.length/\Y=.arr 50 b.length/\st.h 47=some (.row 2 1 (s.w.map Z) 0)/\st.h 50=some (.row 2 1 (s.v.map Z) 0))\/(X=.pv (zs s.w)/\Y=.pv (zs s.v)))) ?_ ?_
 .refine⟨td a b,.arr 47 a.length,.arr 50 b.length,DX ia.1 ib.1,rfl,hR.symm,?_⟩
  simp[td]
 rintro i st hi ⟨s,X,Y,hs,cf,c,g0,g1,g2,g3,T,D,U,h10,h11,A,B,l,N⟩
 have cr:M+1-i=(M-i)+1:=by omega
 rw[cr,kT]at c;obtain⟨S,Q,n0,r⟩:=s;have bs:=hs.w;have bq:=hs.v;have k:=hs.wl;have j:=hs.vl;simp only at bs bq k j cf l N;subst cf;have f:=vn (rho:=rho) (steps:=M) hA hB hs;have O:=DW hA hB hs;have c0:=Ow a S ia.2.1 k ia.2.2 bs;have c1:=Ow b Q ib.2.1 j ib.2.2 bq;have cw:=kh ia.2.2 bs a.length (by omega);have cx:=kh ib.2.2 bq b.length (by omega);have cM:=Kp (dr a S a.length) (dr b Q b.length) (jV cw (by decide)) (jV cx (by decide));have hT:bf (dr a S a.length) (dr b Q b.length)=eI a S b Q:=rfl;rw[hT]at cM;have cN:=SS (eI a S b Q) rho O ⟨by omega,by omega⟩;have ad:=IC O;have b1:=Oy (jy (eI a S b Q)) (jV ad (by decide));have V:=B2 (jy (eI a S b Q)) (jV ad (by decide));have cm:jy (eI a S b Q)=((eI a S b Q).1.tdiv 65536,(eI a S b Q).2.1.tdiv 65536,(eI a S b Q).2.2.tdiv 65536):=rfl;rw[pm]at c f;simp only at c f
 have xw:∀y:Int,-35184372088832<=y->y<=35184372088832->i64.wrap (y.tdiv 65536)=y.tdiv 65536:=λy p q=>by
  have e:=Int.natAbs_tdiv_le_natAbs y 65536;exact aa (by omega) (by omega)
 have x1:=xw _ O.1.1 O.1.2;have x2:=xw _ O.2.1.1 O.2.1.2;have x3:=xw _ O.2.2.1 O.2.2.2;clear xw hs;generalize dr a S a.length=S1 at *;generalize dr b Q b.length=S2 at *;generalize eI a S b Q=d at *
 cases hc:ph d rho with
 |true=>
  rw[hc]at cN c;simp only[V8]at c;rw[<-c];rcases N with⟨rfl,rfl,E,F⟩|⟨rfl,rfl⟩
  .skip
   exact GS (s7 g0 g1 g2 g3 T D U h10 h11 A B l E F (gA k j))
  .skip
   exact GS (s6 g0 g1 g2 g3 T D U h10 h11 A B (be l k j))
 |false=>
 rw[hc]at cN c f;simp only[VP,VZ]at c f
 have b5:bF (jy d)=bF ((d.1.tdiv 65536,d.2.1.tdiv 65536,d.2.2.tdiv 65536)):=by rw[<-cm]
 generalize c4:jy d=x at *;subst cm;generalize c2:bF (d.1.tdiv 65536,d.2.1.tdiv 65536,d.2.2.tdiv 65536)=n at *;clear b5
 cases b7:nz n with
 |false=>
  rw[b7]at b1 c;simp only[V8]at c;rw[<-c];rcases N with⟨rfl,rfl,E,F⟩|⟨rfl,rfl⟩
  .skip
   exact GS (s7 g0 g1 g2 g3 T D U h10 h11 A B l E F (f8 k j x1 x2 x3))
  .skip
   exact GS (s7 g0 g1 g2 g3 T D U h10 h11 A B l k j (be x1 x2 x3))
 |true=>
 rw[b7]at b1 c f;simp only[Bool.true_eq_false,VZ]at c f;have cz:=Oz n a V ia.1 ia.2.1 ia.2.2;have cH:=OA n b V ib.1 ib.2.1 ib.2.2;have cQ:=OU n;have hq:=vH n;have l1:=rf (bet:=fe) V ia.2.2;have l2:=rf (bet:=ff) V ib.2.2;have i1:=nT (bet:=fe) (n:=n) ia.1;have i2:=nT (bet:=ff) (n:=n) ib.1;obtain⟨p0,b9⟩:∃p0,a[0]?=some p0:=⟨_,an (by omega)⟩;obtain⟨p1,cd⟩:∃p1,b[0]?=some p1:=⟨_,an (by omega)⟩;obtain⟨G,o,ch⟩:=ql (bet:=fe) (n:=n) b9 a.length;obtain⟨pb,z,cj⟩:=ql (bet:=ff) (n:=n) cd b.length
 have b2:dp fe n a=dF fe n p0 a a.length:=by simp[dp,b9]
 have b4:dp ff n b=dF ff n p1 b b.length:=by simp[dp,cd]
 rw[<-b2]at o ch;rw[<-b4]at z cj;clear b2 b4;generalize dp fe n a=lo at *;generalize dp ff n b=L at *;generalize gb n=q at *;have c3:=bS (a:=q) (b:=rho) 32768 2097152 (by omega) (by omega) (by omega) (by omega);have e4:i64.wrap (lo.1-L.1)=lo.1-L.1:=aa;have e5:i64.wrap (q*rho)=q*rho:=aa;generalize H:q*rho=qr at *
 have I:∀h,a[lo.2]'h=G:=λh=>by rw[an h]at o;exact WE o
 have J:∀h,b[L.2]'h=pb:=λh=>by rw[an h]at z;exact WE z
 have sa:=eQ (VL.1 ia.2.2 G (Is o));have sb:=eQ (VL.1 ib.2.2 pb (Is z));have cp:=Bs n G 16384 268435456 (wU V) sa (by decide);have cq:=Bs n pb 16384 268435456 (wU V) sb (by decide);rw[<-ch]at cp;rw[<-cj]at cq;have cA:=Kp G pb (jV sa (by decide)) (jV sb (by decide));have cn:=sd sa sb;have ba:fy 536870912 (d.1.tdiv 65536,d.2.1.tdiv 65536,d.2.2.tdiv 65536):=ad;have bH:=mi (d.1.tdiv 65536,d.2.1.tdiv 65536,d.2.2.tdiv 65536) (bf G pb);rw[o,z]at c f;simp only[V5]at c f;have w1:i64.wrap lo.1=lo.1:=aa;have w2:i64.wrap L.1=L.1:=aa;by_cases g:qr<lo.1-L.1
 .rw[VS g]at c
  simp only at c;rw[<-c];rcases N with⟨rfl,rfl,E,F⟩|⟨rfl,rfl⟩
  .skip
   exact GS (s7 g0 g1 g2 g3 T D U h10 h11 A B l E F (s7 k j x1 x2 x3 o z I J i1 i2 e4 e5 H g))
  .skip
   exact GS (s7 g0 g1 g2 g3 T D U h10 h11 A B l k j (s6 x1 x2 x3 o z I J i1 i2 e4 e5 (gA H g)))
 rw[VM g]at c f;have cB:=Kp (d.1.tdiv 65536,d.2.1.tdiv 65536,d.2.2.tdiv 65536) (bf G pb) (jV ba (by decide)) (jV cn (by decide));have he:=sd ba cn;have cU:=Bs (d.1.tdiv 65536,d.2.1.tdiv 65536,d.2.2.tdiv 65536) (bf (d.1.tdiv 65536,d.2.1.tdiv 65536,d.2.2.tdiv 65536) (bf G pb)) 536870912 1073741824 ba he (by decide);have cV:=Bs (bf (d.1.tdiv 65536,d.2.1.tdiv 65536,d.2.2.tdiv 65536) (bf G pb)) (bf (d.1.tdiv 65536,d.2.1.tdiv 65536,d.2.2.tdiv 65536) (bf G pb)) 1073741824 1073741824 he he (by decide);obtain⟨r1,r2,r3⟩:=lS (m:=536870912) (n:=1073741824) ba he;obtain⟨t1,t2,t3⟩:=lS (m:=1073741824) (n:=1073741824) he he
 have hu:-1729382256910270464<=bM (d.1.tdiv 65536,d.2.1.tdiv 65536,d.2.2.tdiv 65536) (bf (d.1.tdiv 65536,d.2.1.tdiv 65536,d.2.2.tdiv 65536) (bf G pb))/\bM (d.1.tdiv 65536,d.2.1.tdiv 65536,d.2.2.tdiv 65536) (bf (d.1.tdiv 65536,d.2.1.tdiv 65536,d.2.2.tdiv 65536) (bf G pb))<=1729382256910270464:=by unfold bM;omega
 have hv:bM (bf (d.1.tdiv 65536,d.2.1.tdiv 65536,d.2.2.tdiv 65536) (bf G pb)) (bf (d.1.tdiv 65536,d.2.1.tdiv 65536,d.2.2.tdiv 65536) (bf G pb))<=3458764513820540928:=by unfold bM;omega
 have cu:=AE (bf (d.1.tdiv 65536,d.2.1.tdiv 65536,d.2.2.tdiv 65536) (bf G pb))
 have bc:lT (d.1.tdiv 65536,d.2.1.tdiv 65536,d.2.2.tdiv 65536) (bf G pb)=if bM (d.1.tdiv 65536,d.2.1.tdiv 65536,d.2.2.tdiv 65536) (bf (d.1.tdiv 65536,d.2.1.tdiv 65536,d.2.2.tdiv 65536) (bf G pb))<=0 then 0 else min 256 (bM (d.1.tdiv 65536,d.2.1.tdiv 65536,d.2.2.tdiv 65536) (bf (d.1.tdiv 65536,d.2.1.tdiv 65536,d.2.2.tdiv 65536) (bf G pb))/max 1 (bM (bf (d.1.tdiv 65536,d.2.1.tdiv 65536,d.2.2.tdiv 65536) (bf G pb)) (bf (d.1.tdiv 65536,d.2.1.tdiv 65536,d.2.2.tdiv 65536) (bf G pb))/256)):=rfl
 clear r1 r2 r3 t1 t2 t3 he;generalize lT (d.1.tdiv 65536,d.2.1.tdiv 65536,d.2.2.tdiv 65536) (bf G pb)=t at *;generalize bM (d.1.tdiv 65536,d.2.1.tdiv 65536,d.2.2.tdiv 65536) (bf (d.1.tdiv 65536,d.2.1.tdiv 65536,d.2.2.tdiv 65536) (bf G pb))=u at *;generalize bM (bf (d.1.tdiv 65536,d.2.1.tdiv 65536,d.2.2.tdiv 65536) (bf G pb)) (bf (d.1.tdiv 65536,d.2.1.tdiv 65536,d.2.2.tdiv 65536) (bf G pb))=v at *;generalize bf (d.1.tdiv 65536,d.2.1.tdiv 65536,d.2.2.tdiv 65536) (bf G pb)=e at *;generalize bf G pb=c5 at *;by_cases a7:r=M
 .rw[VS a7]at c
  simp only at c;rw[<-c];subst a7;rcases N with⟨rfl,rfl,E,F⟩|⟨rfl,rfl⟩
  .skip
   exact GS (s7 g0 g1 g2 g3 T D U h10 h11 A B l E F (s7 k j x1 x2 x3 o z I J i1 i2 e4 e5 H g))
  .skip
   exact GS (s7 g0 g1 g2 g3 T D U h10 h11 A B l k j (s6 x1 x2 x3 o z I J i1 i2 e4 e5 (gA H g)))
 rw[VM a7]at c f
 have W:¬(M:Int)<=(r:Int):=by omega
 have K:¬M<=r:=by omega
 by_cases P:u<=0
 .rw[VS P]at bc
  rw[VS bc]at c;simp only at c;rw[<-c];rcases N with⟨rfl,rfl,E,F⟩|⟨rfl,rfl⟩
  .skip
   exact GS (s7 g0 g1 g2 g3 T D U h10 h11 A B l E F (s7 k j x1 x2 x3 o z I J i1 i2 e4 e5 H (f7 g W K P)))
  .skip
   exact GS (s7 g0 g1 g2 g3 T D U h10 h11 A B l k j (s7 x1 x2 x3 o z I J i1 i2 e4 e5 H g W (gA K P)))
 rw[VM P]at bc;have a1:v.tdiv 256=v/256:=Wa cu;have a2:i64.wrap (v/256)=v/256:=aa
 have hm:1<=max 1 (v/256):=by omega
 generalize bb:max 1 (v/256)=m at *;have a3:u.tdiv m=u/m:=Wa (by omega);have h4:u/m<=u:=YG m (by omega);have h5:0<=u/m:=X3 (by omega) (by omega);have a4:i64.wrap (u/m)=u/m:=aa
 have a5:¬m=0:=by omega
 have a6:(m==0)=false:=by simp;omega
 have ar:=bc.symm;by_cases a8:t=0
 .rw[VS a8]at c
  simp only at c;rw[<-c];rw[a8]at ar;rcases N with⟨rfl,rfl,E,F⟩|⟨rfl,rfl⟩
  .skip
   exact GS (s7 g0 g1 g2 g3 T D U h10 h11 A B l E F (s7 k j x1 x2 x3 o z I J i1 i2 e4 e5 H (s6 g W K P a1 a2 bb a3 a4 a5 a6 ar)))
  .skip
   exact GS (s7 g0 g1 g2 g3 T D U h10 h11 A B l k j (s7 x1 x2 x3 o z I J i1 i2 e4 e5 H g W (s5 K P a1 a2 bb a3 a4 a5 a6 ar)))
 rw[VM a8]at c f;have b8:=f.2 _ rfl;simp only at c
 have cg:(t==0)=false:=by simp;omega
 have cP:=Ox S t lo.2 (by omega) bs (by omega) bH.1 bH.2;have cS:=Ox Q t L.2 (by omega) bq (by omega) bH.1 bH.2;have ck:i64.wrap ((r:Int)+1)=(r:Int)+1:=aa;rcases N with⟨rfl,rfl,E,F⟩|⟨rfl,rfl⟩
 .skip
  refine GT (s7 g0 g1 g2 g3 T D U h10 h11 A B l E F (s7 k j x1 x2 x3 o z I J i1 i2 e4 e5 H (s7 g W K P a1 a2 bb a3 a4 a5 a6 ar a8 cg ck))) ?_;refine⟨by omega,⟨kx S lo.2 t,kx Q L.2 t,n,r+1⟩,b8,by simp only,c,?_⟩;simp;exact⟨_,_,⟨rfl,rfl⟩,Or.inr ⟨rfl,rfl⟩⟩
 .skip
  refine GT (s7 g0 g1 g2 g3 T D U h10 h11 A B l k j (s7 x1 x2 x3 o z I J i1 i2 e4 e5 H g W (s6 K P a1 a2 bb a3 a4 a5 a6 ar a8 (gA cg ck)))) ?_;refine⟨by omega,⟨kx S lo.2 t,kx Q L.2 t,n,r+1⟩,b8,by simp only,c,?_⟩;simp;exact⟨_,_,⟨rfl,rfl⟩,Or.inr ⟨rfl,rfl⟩⟩
def Bu(v:Vc)(j:Nat):List AV:=[.pv (Z (if 0<j then v.1 else 0)),.pv (Z (if 1<j then v.2.1 else 0)),.pv (Z (if 2<j then v.2.2 else 0))]
theorem SV(a b:List aq)(ha:a.length<=9223372036854775807)(hb:b.length<=9223372036854775807):aH 268 (aF a) (aF b) (.tup [ao (kV a b),B (mj a b)]):=by
 have ca:=xi a ha;have cb:=xi b hb
 have hN:kV a b=if ay a&&ay b then bF (lA a b)else(0,0,0):=rfl
 have hM:mj a b=(ay a&&ay b&&nz (bF (lA a b))):=rfl;rw[hN,hM]
 cases K:ay a with
 |false=>
  rw[K]at ca;refine Dp func268 λC hP hN=>?_;exact Gy
 |true=>
 rw[K]at ca
 cases L:ay b with
 |false=>
  rw[L]at cb;refine Dp func268 λC hP hN=>?_;exact Gy
 |true=>
 rw[L]at cb;have c1:=Bv a ha;have c2:=Bv b hb;have ad:=FG K L;have c5:=Oy (lA a b) ad;have S:=(bZ K).2.1;have T:=(bZ L).2.1;have R:lA a b=((aC (aA a) a.length).1*b.length-(aC (aA b) b.length).1*a.length,(aC (aA a) a.length).2.1*b.length-(aC (aA b) b.length).2.1*a.length,(aC (aA a) a.length).2.2*b.length-(aC (aA b) b.length).2.2*a.length):=rfl;simp only[Xf,V8,We];have N:=gD K;have O:=gD L;have U:=lU (l:=a);have W:=lU (l:=b);generalize aA a=f at *;generalize aA b=g at *;generalize lA a b=V at *;generalize bF V=n at *;have wa:i64.wrap (a.length:Int)=(a.length:Int):=aa;have wb:i64.wrap (b.length:Int)=(b.length:Int):=aa;refine Dp func268 λC hP hN=>?_;refine Gz ?_;refine WP.loopN [] 3 (λk st=>st.t 0=.pv (aF a)/\st.t 1=.pv (aF b)/\st.t 4=.ptr 4 0/\st.h 4=some (.box [.pv (Z 0),.pv (Z 0),.pv (Z 0)] true false)/\st.t 5=.pv (B false)/\st.t 6=.ptr 6 0/\st.h 6=some (.box (Bu V k) true false)/\st.t 7=.pv (aP f)/\st.t 8=.pv (aP g)/\st.t 9=.pv (Z k)) ?_ ?_
 .simp[Bu]
 rintro k st hk ⟨g0,g1,g4,d,g5,o,c,q,r,m⟩
 have e:∀x:Int,-2147483648<=x/\x<=2147483648->∀n:Nat,n<=8->-17179869184<=x*n/\x*n<=17179869184:=λx j n hn=>by
  have:=bS (a:=x) (b:=(n:Int)) 2147483648 8 (by omega) (by omega) (by omega) (by omega);omega
 rcases eJ hk with rfl|rfl|rfl|rfl
 all_goals (simp[Bu]at c m)
 .skip
  have D:∀i:Nat,i<=8->-17179869184<=(aC f i).1*b.length/\(aC f i).1*b.length<=17179869184:=λi hi=>by
   have h:=jX U i;obtain⟨q1,q2,q3⟩:=h;exact e (aC f i).1 (by omega) _ T
  have E:∀i:Nat,i<=8->-17179869184<=(aC g i).1*a.length/\(aC g i).1*a.length<=17179869184:=λi hi=>by
   have h:=jX W i;obtain⟨q1,q2,q3⟩:=h;exact e (aC g i).1 (by omega) _ S
  skip
  refine GT (s5 g0 g1 g4 g5 d c o q r m) ?_;refine WP.loopN [] a.length (λi st=>st.t 0=.pv (aF a)/\st.t 1=.pv (aF b)/\st.t 4=.ptr 4 0/\st.h 4=some (.box [.pv (Z 0),.pv (Z 0),.pv (Z 0)] true false)/\st.t 5=.pv (B false)/\st.t 6=.ptr 6 0/\st.h 6=some (.box [.pv (Z ((aC f i).1*b.length)),.pv (Z 0),.pv (Z 0)] true false)/\st.t 7=.pv (aP f)/\st.t 8=.pv (aP g)/\st.t 9=.pv (Z 0)/\st.t 10=.pv (Z i)) ?_ ?_
  .simp[aC,g0,g1,g4,d,g5,o,c,q,r,m]
  clear g0 g1 g4 d g5 o c q r m;rintro i st hi ⟨g0,g1,g4,d,g5,o,c,q,r,m,v⟩;by_cases s:i<a.length
  .have u:i<f.length:=by omega
   have F:=aj s (by omega);obtain⟨p,j⟩:∃p,f[i]?=some p:=⟨_,an u⟩
   have G:∀h,f[i]'h=p:=λh=>by rw[an h]at j;exact WE j
   have A:=D (i+1) (by omega);have J:=D i (by omega);have hp:=eQ (VL.1 U p (Is j));obtain⟨p1,p2,p3⟩:=hp;have M:=e p.1 (by omega) _ T
   have hS:(aC f (i+1)).1*(b.length:Int)=(aC f i).1*b.length+p.1*b.length:=by
    rw[<-Int.add_mul];simp only[aC,j]
   rw[hS]at A|-;have P:i64.wrap (p.1*b.length)=p.1*b.length:=aa;generalize(aC f i).1*(b.length:Int)=y at *;have Q:i64.wrap (y+p.1*b.length)=y+p.1*b.length:=aa;exact GS (s7 g0 g1 g4 d g5 o c q r m v s u F (it j G P Q wb N O))
  have z:i=a.length:=by omega
  subst z;have X:=D a.length (by omega);generalize hy:(aC f a.length).1*(b.length:Int)=Y at *
  skip
  refine GT (s6 g0 g1 g4 g5 d c o q r m v (gA N O)) ?_;refine WP.loopN [] b.length (λi st=>st.t 0=.pv (aF a)/\st.t 1=.pv (aF b)/\st.t 4=.ptr 4 0/\st.h 4=some (.box [.pv (Z 0),.pv (Z 0),.pv (Z 0)] true false)/\st.t 5=.pv (B false)/\st.t 6=.ptr 6 0/\st.h 6=some (.box [.pv (Z (Y-(aC g i).1*a.length)),.pv (Z 0),.pv (Z 0)] true false)/\st.t 7=.pv (aP f)/\st.t 8=.pv (aP g)/\st.t 9=.pv (Z 0)/\st.t 11=.pv (Z i)) ?_ ?_
  .simp[aC,g0,g1,g4,d,g5,o,c,q,r,m]
  clear g0 g1 g4 d g5 o c q r m v;rintro i st hi ⟨g0,g1,g4,d,g5,o,c,q,r,m,H⟩;by_cases s:i<b.length
  .have u:i<g.length:=by omega
   have F:=aj s (by omega);obtain⟨p,j⟩:∃p,g[i]?=some p:=⟨_,an u⟩
   have G:∀h,g[i]'h=p:=λh=>by rw[an h]at j;exact WE j
   have A:=E (i+1) (by omega);have J:=E i (by omega);have hp:=eQ (VL.1 W p (Is j));obtain⟨p1,p2,p3⟩:=hp;have M:=e p.1 (by omega) _ S
   have hS:(aC g (i+1)).1*(a.length:Int)=(aC g i).1*a.length+p.1*a.length:=by
    rw[<-Int.add_mul];simp only[aC,j]
   rw[hS]at A|-;have P:i64.wrap (p.1*a.length)=p.1*a.length:=aa;generalize(aC g i).1*(a.length:Int)=y at *;have Q:i64.wrap (Y-y-p.1*a.length)=Y-(y+p.1*a.length):=(aa (by omega) (by omega)).trans (by omega);exact Gy
  have z:i=b.length:=by omega
  subst z
  have I:Y-(aC g b.length).1*(a.length:Int)=V.1:=by rw[R,<-hy]
  rw[I]at c
  skip
  with_reducible repeat' (first|refine Sp.h ?_|((first|refine Wd ?_|refine Ss.h ?_|(refine Sb.h ?_ ?_ ?_<;>(try intro hgd)<;>try exact Xy))<;>simp -implicitDefEqProofs (maxSteps:=2000000) [hP,hN,g0,g1,g4,g5,d,c,o,q,r,m,H,N,O,Bu]<;>try refine Ya ?_)|refine X2 ?_ ?_|(refine Xd ?_ ?_<;>intro hcd<;>try exact Xx))
 .skip
  have D:∀i:Nat,i<=8->-17179869184<=(aC f i).2.1*b.length/\(aC f i).2.1*b.length<=17179869184:=λi hi=>by
   have h:=jX U i;obtain⟨q1,q2,q3⟩:=h;exact e (aC f i).2.1 (by omega) _ T
  have E:∀i:Nat,i<=8->-17179869184<=(aC g i).2.1*a.length/\(aC g i).2.1*a.length<=17179869184:=λi hi=>by
   have h:=jX W i;obtain⟨q1,q2,q3⟩:=h;exact e (aC g i).2.1 (by omega) _ S
  skip
  refine GT (s5 g0 g1 g4 g5 d c o q r m) ?_;refine WP.loopN [] a.length (λi st=>st.t 0=.pv (aF a)/\st.t 1=.pv (aF b)/\st.t 4=.ptr 4 0/\st.h 4=some (.box [.pv (Z 0),.pv (Z 0),.pv (Z 0)] true false)/\st.t 5=.pv (B false)/\st.t 6=.ptr 6 0/\st.h 6=some (.box [.pv (Z V.1),.pv (Z ((aC f i).2.1*b.length)),.pv (Z 0)] true false)/\st.t 7=.pv (aP f)/\st.t 8=.pv (aP g)/\st.t 9=.pv (Z 1)/\st.t 10=.pv (Z i)) ?_ ?_
  .simp[aC,g0,g1,g4,d,g5,o,c,q,r,m]
  clear g0 g1 g4 d g5 o c q r m;rintro i st hi ⟨g0,g1,g4,d,g5,o,c,q,r,m,v⟩;by_cases s:i<a.length
  .have u:i<f.length:=by omega
   have F:=aj s (by omega);obtain⟨p,j⟩:∃p,f[i]?=some p:=⟨_,an u⟩
   have G:∀h,f[i]'h=p:=λh=>by rw[an h]at j;exact WE j
   have A:=D (i+1) (by omega);have J:=D i (by omega);have hp:=eQ (VL.1 U p (Is j));obtain⟨p1,p2,p3⟩:=hp;have M:=e p.2.1 (by omega) _ T
   have hS:(aC f (i+1)).2.1*(b.length:Int)=(aC f i).2.1*b.length+p.2.1*b.length:=by
    rw[<-Int.add_mul];simp only[aC,j]
   rw[hS]at A|-;have P:i64.wrap (p.2.1*b.length)=p.2.1*b.length:=aa;generalize(aC f i).2.1*(b.length:Int)=y at *;have Q:i64.wrap (y+p.2.1*b.length)=y+p.2.1*b.length:=aa;exact GS (s7 g0 g1 g4 d g5 o c q r m v s u F (it j G P Q wb N O))
  have z:i=a.length:=by omega
  subst z;have X:=D a.length (by omega);generalize hy:(aC f a.length).2.1*(b.length:Int)=Y at *
  skip
  refine GT (s6 g0 g1 g4 g5 d c o q r m v (gA N O)) ?_;refine WP.loopN [] b.length (λi st=>st.t 0=.pv (aF a)/\st.t 1=.pv (aF b)/\st.t 4=.ptr 4 0/\st.h 4=some (.box [.pv (Z 0),.pv (Z 0),.pv (Z 0)] true false)/\st.t 5=.pv (B false)/\st.t 6=.ptr 6 0/\st.h 6=some (.box [.pv (Z V.1),.pv (Z (Y-(aC g i).2.1*a.length)),.pv (Z 0)] true false)/\st.t 7=.pv (aP f)/\st.t 8=.pv (aP g)/\st.t 9=.pv (Z 1)/\st.t 11=.pv (Z i)) ?_ ?_
  .simp[aC,g0,g1,g4,d,g5,o,c,q,r,m]
  clear g0 g1 g4 d g5 o c q r m v;rintro i st hi ⟨g0,g1,g4,d,g5,o,c,q,r,m,H⟩;by_cases s:i<b.length
  .have u:i<g.length:=by omega
   have F:=aj s (by omega);obtain⟨p,j⟩:∃p,g[i]?=some p:=⟨_,an u⟩
   have G:∀h,g[i]'h=p:=λh=>by rw[an h]at j;exact WE j
   have A:=E (i+1) (by omega);have J:=E i (by omega);have hp:=eQ (VL.1 W p (Is j));obtain⟨p1,p2,p3⟩:=hp;have M:=e p.2.1 (by omega) _ S
   have hS:(aC g (i+1)).2.1*(a.length:Int)=(aC g i).2.1*a.length+p.2.1*a.length:=by
    rw[<-Int.add_mul];simp only[aC,j]
   rw[hS]at A|-;have P:i64.wrap (p.2.1*a.length)=p.2.1*a.length:=aa;generalize(aC g i).2.1*(a.length:Int)=y at *;have Q:i64.wrap (Y-y-p.2.1*a.length)=Y-(y+p.2.1*a.length):=(aa (by omega) (by omega)).trans (by omega);exact Gy
  have z:i=b.length:=by omega
  subst z
  have I:Y-(aC g b.length).2.1*(a.length:Int)=V.2.1:=by rw[R,<-hy]
  rw[I]at c
  skip
  with_reducible repeat' (first|refine Sp.h ?_|((first|refine Wd ?_|refine Ss.h ?_|(refine Sb.h ?_ ?_ ?_<;>(try intro hgd)<;>try exact Xy))<;>simp -implicitDefEqProofs (maxSteps:=2000000) [hP,hN,g0,g1,g4,g5,d,c,o,q,r,m,H,N,O,Bu]<;>try refine Ya ?_)|refine X2 ?_ ?_|(refine Xd ?_ ?_<;>intro hcd<;>try exact Xx))
 .skip
  have D:∀i:Nat,i<=8->-17179869184<=(aC f i).2.2*b.length/\(aC f i).2.2*b.length<=17179869184:=λi hi=>by
   have h:=jX U i;obtain⟨q1,q2,q3⟩:=h;exact e (aC f i).2.2 (by omega) _ T
  have E:∀i:Nat,i<=8->-17179869184<=(aC g i).2.2*a.length/\(aC g i).2.2*a.length<=17179869184:=λi hi=>by
   have h:=jX W i;obtain⟨q1,q2,q3⟩:=h;exact e (aC g i).2.2 (by omega) _ S
  skip
  refine GT (s5 g0 g1 g4 g5 d c o q r m) ?_;refine WP.loopN [] a.length (λi st=>st.t 0=.pv (aF a)/\st.t 1=.pv (aF b)/\st.t 4=.ptr 4 0/\st.h 4=some (.box [.pv (Z 0),.pv (Z 0),.pv (Z 0)] true false)/\st.t 5=.pv (B false)/\st.t 6=.ptr 6 0/\st.h 6=some (.box [.pv (Z V.1),.pv (Z V.2.1),.pv (Z ((aC f i).2.2*b.length))] true false)/\st.t 7=.pv (aP f)/\st.t 8=.pv (aP g)/\st.t 9=.pv (Z 2)/\st.t 10=.pv (Z i)) ?_ ?_
  .simp[aC,g0,g1,g4,d,g5,o,c,q,r,m]
  clear g0 g1 g4 d g5 o c q r m;rintro i st hi ⟨g0,g1,g4,d,g5,o,c,q,r,m,v⟩;by_cases s:i<a.length
  .have u:i<f.length:=by omega
   have F:=aj s (by omega);obtain⟨p,j⟩:∃p,f[i]?=some p:=⟨_,an u⟩
   have G:∀h,f[i]'h=p:=λh=>by rw[an h]at j;exact WE j
   have A:=D (i+1) (by omega);have J:=D i (by omega);have hp:=eQ (VL.1 U p (Is j));obtain⟨p1,p2,p3⟩:=hp;have M:=e p.2.2 (by omega) _ T
   have hS:(aC f (i+1)).2.2*(b.length:Int)=(aC f i).2.2*b.length+p.2.2*b.length:=by
    rw[<-Int.add_mul];simp only[aC,j]
   rw[hS]at A|-;have P:i64.wrap (p.2.2*b.length)=p.2.2*b.length:=aa;generalize(aC f i).2.2*(b.length:Int)=y at *;have Q:i64.wrap (y+p.2.2*b.length)=y+p.2.2*b.length:=aa;exact GS (s7 g0 g1 g4 d g5 o c q r m v s u F (it j G P Q wb N O))
  have z:i=a.length:=by omega
  subst z;have X:=D a.length (by omega);generalize hy:(aC f a.length).2.2*(b.length:Int)=Y at *
  skip
  refine GT (s6 g0 g1 g4 g5 d c o q r m v (gA N O)) ?_;refine WP.loopN [] b.length (λi st=>st.t 0=.pv (aF a)/\st.t 1=.pv (aF b)/\st.t 4=.ptr 4 0/\st.h 4=some (.box [.pv (Z 0),.pv (Z 0),.pv (Z 0)] true false)/\st.t 5=.pv (B false)/\st.t 6=.ptr 6 0/\st.h 6=some (.box [.pv (Z V.1),.pv (Z V.2.1),.pv (Z (Y-(aC g i).2.2*a.length))] true false)/\st.t 7=.pv (aP f)/\st.t 8=.pv (aP g)/\st.t 9=.pv (Z 2)/\st.t 11=.pv (Z i)) ?_ ?_
  .simp[aC,g0,g1,g4,d,g5,o,c,q,r,m]
  clear g0 g1 g4 d g5 o c q r m v;rintro i st hi ⟨g0,g1,g4,d,g5,o,c,q,r,m,H⟩;by_cases s:i<b.length
  .have u:i<g.length:=by omega
   have F:=aj s (by omega);obtain⟨p,j⟩:∃p,g[i]?=some p:=⟨_,an u⟩
   have G:∀h,g[i]'h=p:=λh=>by rw[an h]at j;exact WE j
   have A:=E (i+1) (by omega);have J:=E i (by omega);have hp:=eQ (VL.1 W p (Is j));obtain⟨p1,p2,p3⟩:=hp;have M:=e p.2.2 (by omega) _ S
   have hS:(aC g (i+1)).2.2*(a.length:Int)=(aC g i).2.2*a.length+p.2.2*a.length:=by
    rw[<-Int.add_mul];simp only[aC,j]
   rw[hS]at A|-;have P:i64.wrap (p.2.2*a.length)=p.2.2*a.length:=aa;generalize(aC g i).2.2*(a.length:Int)=y at *;have Q:i64.wrap (Y-y-p.2.2*a.length)=Y-(y+p.2.2*a.length):=(aa (by omega) (by omega)).trans (by omega);exact Gy
  have z:i=b.length:=by omega
  subst z
  have I:Y-(aC g b.length).2.2*(a.length:Int)=V.2.2:=by rw[R,<-hy]
  rw[I]at c
  skip
  with_reducible repeat' (first|refine Sp.h ?_|((first|refine Wd ?_|refine Ss.h ?_|(refine Sb.h ?_ ?_ ?_<;>(try intro hgd)<;>try exact Xy))<;>simp -implicitDefEqProofs (maxSteps:=2000000) [hP,hN,g0,g1,g4,g5,d,c,o,q,r,m,H,N,O,Bu]<;>try refine Ya ?_)|refine X2 ?_ ?_|(refine Xd ?_ ?_<;>intro hcd<;>try exact Xx))
 .skip
  exact GS (s5 g0 g1 g4 d g5 o c q r m)
theorem AK(h:n<=100000000000)(m:Nat)(a:m<=10):(n+m)*24<=140737488355328:=by omega
theorem MG{v:α}(h:l[k]?=some v):(l.take (k+1)).filter p=(l.take k).filter p++(if p v=true then[v]else[]):=by
 rw[Yb,h,XI];simp only[Option.toList_some,List.filter_cons,List.filter_nil]
theorem SW(a:List aq)(f:Int)(b:List aq)(g:Int)(c:List Vc)(N:a.length<=9223372036854775807)(O:b.length<=9223372036854775807)(hl:c.length<=100000000000):uw 229 (aF a) (Z f) (aF b) (Z g) (aP c) (aP (nc a f b g c)):=by
 have V:=xi a N;have W:=xi b O;have A:=Bw f;have B:=Bw g
 have Q:nc a f b g c=if vq a f b g then c.filter aR++((if mj a b then[kV a b]else[])++(kU++(if aR (m9 a f b g)then[m9 a f b g]else[])))else[]:=rfl
 have E:vq a f b g=(ay a&&ay b&&bt f 0 1048576&&bt g 0 1048576):=rfl;rw[Q,E]
 cases s:ay a with
 |false=>
  rw[s]at V;refine Dp func229 λC hP hN=>?_;exact Gy
 |true=>
 rw[s]at V
 cases u:ay b with
 |false=>
  rw[u]at W;refine Dp func229 λC hP hN=>?_;exact Gy
 |true=>
 rw[u]at W
 cases y:bt f 0 1048576 with
 |false=>
  rw[y]at A;refine Dp func229 λC hP hN=>?_;exact Gy
 |true=>
 rw[y]at A
 cases z:bt g 0 1048576 with
 |false=>
  rw[z]at B;refine Dp func229 λC hP hN=>?_;exact Gy
 |true=>
 rw[z]at B;simp only[Xf,V8];have c1:=Bv a N;have c2:=Bv b O;have a1:=(bZ s).2.1;have a2:=(bZ u).2.1;have ar:=gD s;have E:=gD u;simp only[bt,An,L4]at y z;have K:i64.wrap (f+g)=f+g:=aa;have c3:=OC (aA a) (aA b) (f+g) 64 (by omega) (by omega);have T:(jD (aA a) (aA b) (f+g) 64).2.n=m9 a f b g:=rfl;rw[<-T];generalize jD (aA a) (aA b) (f+g) 64=R at *;have X:=SV a b N O;have ad:=Tm;have q:kU.length=6:=rfl;have r:=Bi kU;generalize kU=AX at *;generalize aA a=xa at *;generalize aA b=xb at *;have D:=Bj R.2.n;rw[ug]at D;have F:∀i:Nat,((c.take i).filter aR).length<=100000000000:=λi=>XH (Yj _ _) (by rw[WD];omega);refine Dp func229 λC hP hN=>?_;refine sN [11] trivial ?_;refine WP.loopN [] c.length (λi st=>st.t 0=.pv (aF a)/\st.t 1=.pv (Z f)/\st.t 2=.pv (aF b)/\st.t 3=.pv (Z g)/\st.t 4=.pv (aP c)/\st.t 12=.pv (Z i)/\st.t 11=.arr 11 ((c.take i).filter aR).length/\st.h 11=some (.row 68 3 (((c.take i).filter aR).map ao) 0)/\st.h 13=none/\st.h 15=none) (by simp) ?_;rintro i st hi ⟨g0,g1,g2,g3,g4,o,l,e,j,k⟩;by_cases G:i<c.length
 .have a5:=aj G (by omega)
  generalize U:c[i]=v at *
  have hx:c[i]?=some v:=by rw[an G,U]
  have cv:=Bj v;rw[ug]at cv;have hs:=MG (p:=aR) hx;rw[hs];have d:=F i;generalize(c.take i).filter aR=P at *
  cases x:aR v with
  |true=>
   rw[x]at cv;simp only[V8]
   have I:(P.length+1)*24<=140737488355328:=by omega
   have J:P.length<=9223372036854775806:=by omega
   skip
   exact Gy
  |false=>
   rw[x]at cv;simp only[VP,VZ,X1];exact Gy
 .have S:i=c.length:=by omega
  subst S;rw[XW]at l e;have d:=F c.length;rw[XW]at d;generalize c.filter aR=P at *
  have I:(P.length+1)*24<=140737488355328:=by omega
  have J:P.length<=9223372036854775806:=by omega
  have z0:P.length<=9223372036854775799:=XH d (by decide);have L:P.length<=9223372036854775800:=XH d (by decide);have M:P.length<=9223372036854775801:=XH d (by decide);have k3:(P.length+1+1)*24<=140737488355328:=AK d 2 (by decide);have Y:(P.length+6)*24<=140737488355328:=AK d 6 (by decide);have k5:(P.length+6+1)*24<=140737488355328:=AK d 7 (by decide);have k6:(P.length+1+6)*24<=140737488355328:=AK d 7 (by decide);have k7:(P.length+1+6+1)*24<=140737488355328:=AK d 8 (by decide)
  cases H:mj a b with
  |true=>
   rw[H]at X;generalize kV a b=m at *;simp only[V8]
   cases x:aR R.2.n with
   |true=>
    rw[x]at D;simp only[V8]
    skip
    exact GS (s7 g0 g1 g2 g3 g4 o l e j k I J k6 k7 (go K q r z0 L M))
   |false=>
    rw[x]at D;simp only[VP,VZ];exact GS (s7 g0 g1 g2 g3 g4 o l e j k I J k6 k7 (go K q r z0 L M))
  |false=>
   rw[H]at X;generalize kV a b=m at *;simp only[VP,VZ]
   cases x:aR R.2.n with
   |true=>
    rw[x]at D;simp only[V8]
    skip
    exact GS (s7 g0 g1 g2 g3 g4 o l e j k I J Y k5 (go K q r z0 L M))
   |false=>
    rw[x]at D;simp only[VP,VZ];exact GS (s7 g0 g1 g2 g3 g4 o l e j k I J Y k5 (go K q r z0 L M))
theorem II(h:cZ js i j=0):j.lo<=j.hi:=by
 unfold cZ at h
 repeat' split at h
 all_goals (try (cases h;done))
 all_goals omega
theorem EW(h:aO js ms=0):∀(i:Nat) j,js[i]?=some j->j.lo<=j.hi:=by
 unfold aO at h;split at h
 .cases h
 .split at h
  .rename_i c;exact absurd h c
  .rename_i k
   intro i j b
   have a:jT js=0:=by simpa using k
   rw[qc]at a;by_cases d:cZ js i j=0
   .exact II d
   .exfalso
    cases hf:(js.mapIdx (cZ js)).find? (λe=>e !=0)with
    |none=>
     rw[W7]at hf
     have l:cZ js i j∈js.mapIdx (cZ js):=by
      rw[List.mem_mapIdx];obtain⟨f,g⟩:=th.1 b;exact⟨i,f,by rw[g]⟩
     exact hf _ l (by simpa using d)
    |some e=>
     rw[hf]at a;have:=XK hf;simp only at a;rw[a]at this;simp at this
def ui(js:List J)(n:Nat):Int:=((kZ js)[n]?).getD 0
theorem Kc(js:List J):ui js 0=-1:=by
 have h:=sx (js:=js) (k:=0) js.length (WJ _) (VU _) 0 (VU _)
 have:(kZ js)[0]?=some (-1):=by rw[kZ,h];rfl
 simp[ui,this]
theorem Kd(a:ss js)(h:js[n]?=some j):ui js (n+1)=if j.lo=j.hi then ui js (j.parent+1).toNat else(n:Int):=by
 have:=FS h (a n j h);simp[ui,this]
def po(js:List J)(l:Int)(k:Nat):Prop:=kX (gu js 11 l) k=true/\qi js k=true
theorem zo{xs:List Int}{x:Int}:kX xs x=true↔x∈xs:=by
 simp[kX]
theorem IJ(js:List J):gu js 11 (-1)=[]:=by simp[gu]
theorem B7(d:ss js)(e:js.length<=10)(h:js[n]?=some j)(k:Nat):po js n k↔po js j.parent k\/(k=n/\qi js n=true):=by
 have f:n<js.length:=(th.1 h).1;have b:=D6 d e (k:=n) (by omega) (by omega)
 have hp:tK js n=j.parent:=by simp[tK,h]
 rw[hp]at b;simp only[po,b,zo,V4,Wu];constructor
 .rintro⟨c|c,a⟩
  .exact .inl ⟨c,a⟩
  .have:k=n:=by omega
   subst this;exact .inr ⟨rfl,a⟩
 .rintro(⟨c,a⟩|⟨rfl,a⟩)
  .exact⟨.inl c,a⟩
  .exact⟨.inr rfl,a⟩
theorem N6(h:js[n]?=some j)(b:j.lo<=j.hi):qi js n=!decide (j.lo=j.hi):=by
 simp only[qi,h];by_cases a:j.lo=j.hi
 .simp[a]
 .simp[a];omega
theorem D7{js:List J}(e:ss js)(q:js.length<=10)(f:∀(i:Nat) j,js[i]?=some j->j.lo<=j.hi):∀(m n:Nat),n<=m->n<=js.length->(ui js n=-1/\∀k,¬po js ((n:Int)-1) k)\/(∃c:Nat,ui js n=c/\c<js.length/\po js ((n:Int)-1) c/\∀k,po js ((n:Int)-1) k↔po js c k)
 |m,0,_,_=>by
  left
  refine⟨Kc js,λk h=>?_⟩;have:=h.1;rw[show((0:Nat):Int)-1=-1 by omega,IJ]at this;cases this
 |0,n+1,h,_=>by omega
 |m+1,n+1,x,hn=>by
  have d:js[n]?=some (js[n]'(by omega)):=an _;generalize js[n]'(by omega)=j at d;have r:=e n j d;unfold Bm at r;have l:=Kd e d;have b:=N6 d (f n j d);rw[show((n+1:Nat):Int)-1=(n:Int) by omega];by_cases g:j.lo=j.hi
  .rw[VS g]at l
   simp only[g,XP,Xv]at b
   have a:∀k,po js n k↔po js j.parent k:=λk=>by
    rw[B7 e q d k,b];simp
   have ih:=D7 e q f m (j.parent+1).toNat (by omega) (by omega);rw[show(((j.parent+1).toNat:Nat):Int)-1=j.parent by omega,<-l]at ih;rcases ih with⟨o,p⟩|⟨c,o,p,s,u⟩
   .exact .inl ⟨o,λk v=>p k ((a k).1 v)⟩
   .exact .inr ⟨c,o,p,(a c).2 s,λk=>(a k).trans (u k)⟩
  .rw[VM g]at l
   simp only[g,decide_false,Yz]at b;exact .inr ⟨n,l,by omega,(B7 e q d n).2 (.inr ⟨rfl,b⟩),λk=>Xe⟩
theorem D8{js:List J}(d:ss js):∀(f:Nat)(l:Int),-1<=l->l<js.length->∀x∈gu js f l,0<=x/\x<=l
 |0,l,_,_,x,c=>by cases c
 |f+1,l,g,e,x,c=>by
  rw[gu]at c;split at c
  .cases c
  .obtain⟨j,_,hp,a,b⟩:=ya d (k:=l) (by omega) e
   rcases V4.1 c with c|c
   .have:=D8 d f (tK js l) (by omega) (by omega) x c;omega
   .rw[Wu]at c;omega
theorem FQ{a b:Int}:v9 js a b=true↔∀k,k<js.length->qi js k=true->(kX (gu js 11 a) k=kX (gu js 11 b) k):=by
 simp only[v9,qN,VL,Wf,WX,Wz];constructor
 .intro h k e d
  cases c:(kX (gu js 11 a) k !=kX (gu js 11 b) k)with
  |false=>simpa using c
  |true=>
   have:=h (k:Int) ⟨k,⟨e,c⟩,rfl⟩;rw[V7,d]at this;cases this
 .rintro h x ⟨k,⟨e,c⟩,rfl⟩
  cases d:qi js k with
  |false=>rw[show(Int.ofNat k).toNat=k from rfl,d];rfl
  |true=>
   have:=h k e d;simp only[IG,this,bne_self_eq_false]at c;cases c
theorem Lz(h:qi js k=true):k<js.length:=by
 unfold qi at h;split at h
 .rename_i j a;exact(th.1 a).1
 .cases h
theorem Ke(u:aO js ms=0){a b:Int}(y:eL js.length a=true)(z:eL js.length b=true):(ui js (a+1).toNat==ui js (b+1).toNat)=v9 js a b:=by
 obtain⟨j,v,_⟩:=tj u;have i:=EW u;simp only[eL,An,L4]at y z;have r:=D7 j v i _ (a+1).toNat (VU _) (by omega);have s:=D7 j v i _ (b+1).toNat (VU _) (by omega);rw[show(((a+1).toNat:Nat):Int)-1=a by omega]at r;rw[show(((b+1).toNat:Nat):Int)-1=b by omega]at s
 have e:(ui js (a+1).toNat==ui js (b+1).toNat)=true↔v9 js a b=true:=by
  rw[FQ,WK]
  have x:(∀k,k<js.length->qi js k=true->(kX (gu js 11 a) k=kX (gu js 11 b) k))↔∀k,po js a k↔po js b k:=by
   constructor
   .intro h k
    simp only[po];constructor
    .rintro⟨g,f⟩;rw[h k (Lz f) f]at g;exact⟨g,f⟩
    .rintro⟨g,f⟩;rw[<-h k (Lz f) f]at g;exact⟨g,f⟩
   .intro h k B A
    have:=h k;simp only[po,A,YF]at this;cases g:kX (gu js 11 a) k<;>cases f:kX (gu js 11 b) k<;>simp_all
  rw[x];rcases r with⟨n,l⟩|⟨c,n,l,a3,a4⟩<;>rcases s with⟨o,m⟩|⟨d,o,m,p,q⟩<;>rw[n,o]
  .exact⟨λ_ k=>⟨λh=>absurd h (l k),λh=>absurd h (m k)⟩,λ_=>rfl⟩
  .exact⟨λh=>by omega,λh=>absurd ((h d).2 p) (l d)⟩
  .exact⟨λh=>by omega,λh=>absurd ((h c).1 a3) (m c)⟩
  .constructor
   .intro h k
    have:c=d:=by omega
    subst this;rw[a4,q]
   .intro h
    have g:=(h c).1 a3;have f:=(h d).2 p;rw[q]at g;rw[a4]at f;have C:=D8 j 11 d (by omega) (by omega) c (zo.1 g.1);have D:=D8 j 11 c (by omega) (by omega) d (zo.1 f.1);omega
 cases g:(ui js (a+1).toNat==ui js (b+1).toNat)<;>cases f:v9 js a b<;>simp_all
theorem Kf(d:aY s=0){a b:Sh}(g:eL s.js.length a.link=true)(i:eL s.js.length b.link=true):CE s a b=(!(a.link==b.link)&& !v9 s.js a.link b.link&& !kz s a.link b.link):=by
 have j:aO s.js s.ms=0:=by
  unfold aY at d;split at d
  .rename_i h;exact absurd d h
  .rename_i h;simpa using h
 have e:=Ke j g i;have c:Bn (kZ s.js) a b=v9 s.js a.link b.link:=e;unfold CE;rw[c];by_cases f:a.link=b.link
 .have:v9 s.js a.link b.link=true:=by
   rw[FQ,f];exact λ_ _ _=>rfl
  rw[this];simp
 .have:(a.link==b.link)=false:=by simp[f]
  rw[this];simp
theorem RK(s:Sce)(hs:ScL s):bh 159 (eK s) (.sl ((dD s).map ri)):=by
 have cc:=IH s hs;have I:=λa b=>RJ s a b hs.sks;by_cases v:aY s=0
 case neg=>
  have U:(aY s !=0)=true:=by simp[v]
  have hf:dD s=[]:=by simp[dD,v]
  rw[hf];generalize aY s=r at *;refine Dp func159 λC hP hN=>?_;exact Gy
 have Y:aO s.js s.ms=0:=by
  unfold aY at v;split at v
  .rename_i h;exact absurd v h
  .rename_i h;simpa using h
 obtain⟨v1,v2,v3,v4,v5,T,v7⟩:=nU v;have H:=λa b=>RI s.js s.ms a b v2 hs.ms Y;have R:=λa b=>Kf v (a:=a) (b:=b)
 have hf:dD s=jY s s.shs.length:=by simp[dD,v]
 rw[hf];rw[v]at cc;have nL:=yd s;have iL:=yc s;refine Dp func159 λC hP hN=>?_;refine sN [3] trivial ?_;refine WP.loopN [] s.shs.length (λi st=>st.t 1=.ptr 1 0/\st.h 1=some (.box [.pv (.sl (s.js.map bu)),.pv (.sl (s.ms.map cE)),.pv (.sl (s.shs.map cD)),.pv (.sl (s.sks.map aN))] true false)/\st.t 4=.pv (Z i)/\st.t 3=.arr 3 (jY s i).length/\st.h 3=some (.row 200 2 ((jY s i).map ri) 0)) (by simp[jY]) ?_;rintro i st hi ⟨g1,g,g4,g3,d⟩;by_cases l:i<s.shs.length
 .have hw:=aj l (by omega)
  have j:(i:Int)<(s.shs.length:Int):=by omega
  generalize p:s.shs[i]=a at *
  have B:s.shs[i]?=some a:=by rw[an l,p]
  have F:=(T a (Is B)).1;have A:jY s (i+1)=jY s i++lB s i s.shs.length:=rfl;have ad:=nL i;have X:i*s.shs.length<=24*24:=Xg (by omega) (by omega);have J:=Bo s i (i+1) (VU _);refine Gz ?_;refine WP.loopN [] (s.shs.length-(i+1)) (λq st=>st.t 1=.ptr 1 0/\st.h 1=some (.box [.pv (.sl (s.js.map bu)),.pv (.sl (s.ms.map cE)),.pv (.sl (s.shs.map cD)),.pv (.sl (s.sks.map aN))] true false)/\st.t 4=.pv (Z i)/\st.t 5=.pv (Z ((i+1+q:Nat):Int))/\st.t 3=.arr 3 (jY s i++lB s i (i+1+q)).length/\st.h 3=some (.row 200 2 ((jY s i++lB s i (i+1+q)).map ri) 0)) (by simp[g1,g,g4,g3,d,J]) ?_;clear g1 g g4 g3 d;rintro q st hq ⟨g1,g,g4,g5,g3,d⟩;obtain⟨k,V⟩:∃k,k=i+1+q:=⟨_,rfl⟩
  have O:i+1+(q+1)=k+1:=by omega
  rw[<-V]at g5 g3 d;rw[O];have K:lB s i (k+1)=lB s i k++(if i<k/\gO s i k=true then[(i,k)]else[]):=rfl;have W:=iL i k;by_cases n:k<s.shs.length
  .have e:(k:Int)<(s.shs.length:Int):=by omega
   have y:i64.wrap ((k:Int)+1)=(k:Int)+1:=aa;generalize u:s.shs[k]=b at *
   have D:s.shs[k]?=some b:=by rw[an n,u]
   have G:=(T b (Is D)).1
   have o:gO s i k=(!(a.link==b.link)&& !v9 s.js a.link b.link&& !kz s a.link b.link):=by
    simp only[gO,B,D];exact R a b F G
   have cs:=I a.link b.link;have cg:=H a.link b.link F G
   have M:i<k:=by omega
   have S:(jY s i++lB s i k).length<=1000:=by simp only[V9];omega
   generalize z:jY s i++lB s i k=P at *
   have x:q<s.shs.length-(i+1):=by omega
   have L:jY s i++lB s i (k+1)=P++(if gO s i k=true then[(i,k)]else[]):=by
    rw[K,<-W3,z];simp[M]
   rw[L];generalize kz s a.link b.link=sk at *;generalize v9 s.js a.link b.link=rg at *;by_cases f:a.link=b.link
   .have c:gO s i k=false:=by rw[o,f];simp
    rw[c];exact GS (s7 g1 g g4 g5 g3 d n e y B p D u f (be l j x))
   .have m:(a.link !=b.link)=true:=by simp[f]
    have E:(a.link==b.link)=false:=by simp[f]
    rw[E]at o
    cases rg with
    |true=>
     have c:gO s i k=false:=by rw[o];rfl
     rw[c];exact GS (s7 g1 g g4 g5 g3 d n e y B p D u f (f7 m l j x))
    |false=>
     cases sk with
     |true=>
      have c:gO s i k=false:=by rw[o];rfl
      rw[c];exact GS (s7 g1 g g4 g5 g3 d n e y B p D u f (f7 m l j x))
     |false=>
      have c:gO s i k=true:=by rw[o];rfl
      rw[c];exact GS (s7 g1 g g4 g5 g3 d n e y B p D u f (go m l j x (show(P.length+1)*16<=140737488355328 by omega) (show P.length<=9223372036854775806 by omega)))
  .have Q:k=s.shs.length:=by omega
   have e:¬(k:Int)<(s.shs.length:Int):=by omega
   rw[Q,<-A]at g3 d;exact Gy
 .have N:i=s.shs.length:=by omega
  subst N;exact Gy
theorem Kv(h:l.findIdx? p=some i):∃v,l[i]?=some v/\i<l.length/\l.find? p=some v:=by
 rw[X8]at h;obtain⟨hi,a,b⟩:=h;refine⟨l[i],an hi,hi,tf (an hi) a λj x c e=>?_⟩;obtain⟨d,rfl⟩:=th.1 e;have:=b j c;simpa using this
theorem G7(h:l.findIdx? p=none):l.find? p=none:=by
 rw[List.findIdx?_eq_none_iff]at h;rw[W7];intro x a;rw[h x a];simp
theorem IT(a:List aq)(d:Int)(b:List aq)(e:Int)(c:List Vc):(nc a d b e c).length<=c.length+8:=by
 have g:nc a d b e c=if vq a d b e then c.filter aR++((if mj a b then[kV a b]else[])++(kU++(if aR (m9 a d b e)then[m9 a d b e]else[])))else[]:=rfl
 have hf:=Yj aR c;have f:kU.length=6:=rfl;rw[g];split
 .rw[V9,V9,V9,f]
  have i:(if mj a b then[kV a b]else([]:List Vc)).length<=1:=by split<;>simp
  have j:(if aR (m9 a d b e)then[m9 a d b e]else([]:List Vc)).length<=1:=by split<;>simp
  omega
 .simp
theorem SX(a:List aq)(e:Int)(b:List aq)(f:Int)(c:List Vc)(l:a.length<=9223372036854775807)(m:b.length<=9223372036854775807)(q:c.length<=100000000000):uw 163 (aF a) (Z e) (aF b) (Z f) (aP c) (.tup [ao (kW a e b f c).1,B (kW a e b f c).2]):=by
 have u:=SW a e b f c l m q;have o:=IT a e b f c
 have d:kW a e b f c=match(nc a e b f c).find? (λn=>jH n a e b f)with
  |some n=>(n,true)
  |none=>((0,0,0),false):=rfl
 have j:=Tl (nc a e b f c) a e b f (by omega) l m;generalize nc a e b f c=k at *
 cases g:k.findIdx? (λn=>jH n a e b f)with
 |none=>
  rw[G7 g]at d;rw[g]at j;simp only at d j;rw[d];refine Dp func163 λC hP hN=>?_;exact Gy
 |some i=>
  obtain⟨v,p,r,hf⟩:=Kv g;rw[hf]at d;rw[g]at j;simp only at d j
  have s:∀h,k[i]'h=v:=λh=>by rw[an h]at p;exact WE p
  rw[d];refine Dp func163 λC hP hN=>?_;exact Gy
abbrev LC(p:List aq)(r:Int):PV:=.agg [aF p,Z r]
def yL(SH:List Sh)(PT:List (List aq))(p:Nat×Nat):PV:=LC (dL PT p.1) (dx SH p.1)
def yM(SH:List Sh)(PT:List (List aq))(p:Nat×Nat):PV:=LC (dL PT p.2) (dx SH p.2)
abbrev En(s:Sce)(bx:List Iv):PV:=.sl ((dD s).map (yL s.shs (fO s bx)))
abbrev Eo(s:Sce)(bx:List Iv):PV:=.sl ((dD s).map (yM s.shs (fO s bx)))
theorem FZ{β:Type}(f:α->β){v:α}(h:l[k]?=some v):(l.take (k+1)).map f=(l.take k).map f++[f v]:=by
 rw[Yb,h,XZ];rfl
theorem IU{β:Type}(f:α->β)(h:k<=l.length):((l.take k).map f).length=k:=by
 rw[Wp,WD];omega
theorem SY(s:Sce)(bx:List Iv)(hs:ScL s)(q:bx.length<=9223372036854775807):aH 105 (eK s) (iv bx) (.tup (if gt s bx then[En s bx,Eo s bx,B true]else[.sl [],.sl [],B false])):=by
 have cc:=IH s hs;have D:=OT s.js s.ms bx hs.js q;have hd:gt s bx=(decide (aY s=0)&&kA s.js bx):=rfl;by_cases f:aY s=0
 case neg=>
  have g:(aY s !=0)=true:=by simp[f]
  rw[WW f,Ww]at hd;rw[hd];refine Dp func105 λC hP hN=>?_;exact Gy
 have g:(aY s !=0)=false:=by simp[f]
 rw[Wv f,We]at hd
 cases e:kA s.js bx with
 |false=>
  rw[e]at hd D;rw[hd];refine Dp func105 λC hP hN=>?_;exact Gy
 |true=>
 have X:=Te s bx hs f e;have Y:=RK s hs;rw[e]at hd D;have m:=GX hd;rw[hd];simp only[En,Eo,V8];have G:=m.few;generalize dD s=PR at *;generalize fO s bx=PT at *;obtain⟨js,ms,SH,sks⟩:=s;simp only at *;refine Dp func105 λC hP hN=>?_;refine sN [8,9] (gA f g) ?_;refine WP.loopN [] PR.length (λi st=>st.t 2=.ptr 2 0/\st.h 2=some (.box [.pv (.sl (js.map bu)),.pv (.sl (ms.map cE)),.pv (.sl (SH.map cD)),.pv (.sl (sks.map aN))] true false)/\st.t 7=.pv (.sl (PT.map aF))/\st.t 8=.arr 8 i/\st.h 8=some (.row 179 2 ((PR.take i).map (yL SH PT)) 0)/\st.t 9=.arr 9 i/\st.h 9=some (.row 179 2 ((PR.take i).map (yM SH PT)) 0)/\st.t 10=.pv (.sl (PR.map ri))/\st.t 11=.pv (Z i)) (by simp) ?_;rintro k st hi ⟨g2,M,g7,g8,n,g9,o,K,L⟩;by_cases c:k<PR.length
 .have N:=aj c (by omega)
  obtain⟨p,hp⟩:∃p,PR[k]?=some p:=⟨_,an c⟩;have E:=FZ (yL SH PT) hp;have F:=FZ (yM SH PT) hp;have zA:=IU (yL SH PT) (Nat.le_of_lt c);have zB:=IU (yM SH PT) (Nat.le_of_lt c);rw[E,F];generalize(PR.take k).map (yL SH PT)=V at *;generalize(PR.take k).map (yM SH PT)=W at *;clear E F;obtain⟨H,y⟩:=th.1 hp;obtain⟨i,j⟩:=p;have hpr:=m.prs _ (Is hp);simp only at hpr;have hl:=m.len;have Q:∀h,PR[k]'h=(i,j):=λ_=>y
  have T:i<PT.length:=by omega
  have U:j<PT.length:=by omega
  obtain⟨a,l⟩:∃x,PT[i]?=some x:=⟨_,an T⟩;obtain⟨b,d⟩:∃x,PT[j]?=some x:=⟨_,an U⟩;obtain⟨u,z⟩:∃x,SH[i]?=some x:=⟨_,an hpr.1⟩;obtain⟨v,A⟩:∃x,SH[j]?=some x:=⟨_,an hpr.2⟩
  have O:∀h,PT[i]'h=a:=λh=>by rw[an h]at l;exact WE l
  have P:∀h,PT[j]'h=b:=λh=>by rw[an h]at d;exact WE d
  have R:∀h,SH[i]'h=u:=λh=>by rw[an h]at z;exact WE z
  have S:∀h,SH[j]'h=v:=λh=>by rw[an h]at A;exact WE A
  have I:yL SH PT (i,j)=.agg [aF a,Z u.rad]:=by simp[yL,dL,dx,l,z]
  have J:yM SH PT (i,j)=.agg [aF b,Z v.rad]:=by simp[yM,dL,dx,d,A]
  rw[I,J];obtain⟨h1,h2⟩:=hpr
  have k1:(k+1)*32<=140737488355328:=by omega
  have k2:k<=9223372036854775806:=by omega
  skip
  exact Gy
 .have r:k=PR.length:=by omega
  subst r;rw[XW]at n o;exact Gy
theorem MH(a:List Vc)(i:Nat)(hi:i<a.length)(z:Option Value)(e n:Nat)(y:Option Value):lZ {size:=n,zero:=z,kind:=TK.slice e 3 24 y} (.pv (aP a)) (some (.pv (.val (.int .i64 (i:Int))))) (some (.pv (.val (.int .i64 ((i:Int)+1)))))=some (.pv (aP (ky a i))):=by
 have b:(0:Int)<=(i:Int):=by omega
 have c:(0:Int)<=(i:Int)+1:=by omega
 have d:((i:Int)).toNat=i:=by omega
 have f:((i:Int)+1).toNat=i+1:=by omega
 simp only[lZ,VS b,VS c,d,f,Wp];rw[VS ⟨by omega,by omega,by decide,Bi a⟩]
 congr 3
 rw[<-List.map_take,<-YE]
 congr 1
 unfold ky;rw[List.drop_take,show i+1-i=1 by omega]
theorem G8(h:¬i<hints.length):ky hints i=[]:=by
 unfold ky;rw[Ye (by omega)];rfl
theorem OD{p:Nat×Nat}(h:PR[i]?=some p):(PR.map (yL SH PT))[i]?=some (.agg [aF (dL PT p.1),Z (dx SH p.1)]):=by
 rw[VN,h];rfl
theorem OE{p:Nat×Nat}(h:PR[i]?=some p):(PR.map (yM SH PT))[i]?=some (.agg [aF (dL PT p.2),Z (dx SH p.2)]):=by
 rw[VN,h];rfl
def xg(a:Bool):Int:=if a then 1 else 0
def Qo(a:List PV)(kd:Int)(i:Nat)(h:Hp):Prop:=(i=0/\h 10=some (.box [.pv (Z kd),.pv (.val (.slice none 0 0)),.pv (Z 0),.pv (.val (.slice none 0 0)),.pv (.val (.slice none 0 0))] true false)/\h 71=none)\/(0<i/\h 10=some (.box [.pv (Z kd),.arr 71 i,.pv (Z 0),.pv (.val (.slice none 0 0)),.pv (.val (.slice none 0 0))] true false)/\h 71=some (.row 68 3 (a.take i) 0))
def Qp(SH:List Sh)(PR:List (Nat×Nat))(PT:List (List aq))(a:List Vc)(d:List PV)(b:Vd)(i:Nat)(h:Hp):Prop:=∃c,jz SH PR PT a (PR.length-i) i c=b/\Qo d (xg c) i h
theorem rl{c:List PV}{a:Vd}{h:Hp}(b:Bool)(h1:jz SH PR PT hints (PR.length-i) i b=a)(d:Qo c (xg b) i h):Qp SH PR PT hints c a i h:=⟨b,h1,d⟩
set_option maxRecDepth 20000 in
theorem SZ(s:Sce)(bx:List Iv)(b:List Vc)(hs:ScL s)(ba:bx.length<=9223372036854775807)(hh:b.length<=9223372036854775807):mW 111 (eK s) (iv bx) (aP b) (AH (bD s bx b)):=by
 have cp:=SY s bx hs ba
 have hd:bD s bx b=if gt s bx then jz s.shs (dD s) (fO s bx) b (dD s).length 0 true else⟨0,[],⟨0,[],[]⟩⟩:=rfl
 cases hp:gt s bx with
 |false=>
  rw[hp]at cp hd;simp only[VP,VZ]at cp hd;rw[hd];refine Dp func111 λC hP hN=>?_;exact GS trivial
 |true=>
 rw[hp]at cp hd;simp only[V8]at cp hd;have hb:=GX hp;have a5:=FI hp;rw[hd];simp only[En,Eo]at cp;generalize dD s=PR at *;generalize fO s bx=PT at *;generalize s.shs=SH at *;have bH:=hb.few;generalize a:jz SH PR PT b PR.length 0 true=a6 at *;generalize X:(dT SH PR PT b).map ao=V
 have b0:V.length=PR.length:=by rw[<-X];simp[dT]
 have a2:∀k p,PR[k]?=some p->V[k]?=some (ao (qM SH PT b k p).1):=λk q hk=>by rw[<-X,dT,VN,List.getElem?_mapIdx,hk];rfl
 have ad:=λ(i:Nat)(p:Nat×Nat)(h:PR[i]?=some p)=>OD (SH:=SH) (PT:=PT) h;have a1:=λ(i:Nat)(p:Nat×Nat)(h:PR[i]?=some p)=>OE (SH:=SH) (PT:=PT) h
 have l:(PR.map (yL SH PT)).length=PR.length:=by simp
 have m:(PR.map (yM SH PT)).length=PR.length:=by simp
 generalize PR.map (yL SH PT)=LA at *;generalize PR.map (yM SH PT)=LB at *;refine Dp func111 λC hP hN=>?_;refine GT (gA l m) ?_;refine WP.loopN [13,15] PR.length (λi st=>st.t 2=.pv (aP b)/\st.t 6=.ptr 6 0/\st.h 6=some (.box [.pv (Z 0),.pv (.val (.slice none 0 0)),.pv (Z 0),.pv (.val (.slice none 0 0)),.pv (.val (.slice none 0 0))] true false)/\st.t 7=.pv (.sl LA)/\st.t 8=.pv (.sl LB)/\st.t 10=.ptr 10 0/\st.t 11=.pv (Z i)/\st.h 13=none/\st.h 15=none/\Qp SH PR PT b V a6 i st.h) ?_ ?_
 .simp
  exact rl true a (.inl ⟨rfl,by simp[xg],by simp⟩)
 rintro i st hi ⟨g2,L,r,M,N,n,o,e,f,ap,a,U⟩;by_cases x:i<PR.length
 .have B:=aj x (by omega)
  have j:(i:Int)<(PR.length:Int):=by omega
  obtain⟨p,hp⟩:∃p,PR[i]?=some p:=⟨_,an x⟩;have P:=ad i p hp;have Q:=a1 i p hp
  have z:∀h,LA[i]'h=.agg [aF (dL PT p.1),Z (dx SH p.1)]:=λh=>by rw[an h]at P;exact WE P
  have A:∀h,LB[i]'h=.agg [aF (dL PT p.2),Z (dx SH p.2)]:=λh=>by rw[an h]at Q;exact WE Q
  have r1:=a5 p.1;have r2:=a5 p.2;have l1:=vr hb p.1;have l2:=vr hb p.2;have T:=SX (dL PT p.1) (dx SH p.1) (dL PT p.2) (dx SH p.2) (ky b i) (by omega) (by omega) (by simp[ky];omega);have bb:qM SH PT b i p=kW (dL PT p.1) (dx SH p.1) (dL PT p.2) (dx SH p.2) (ky b i):=rfl;rw[<-bb]at T;rw[show PR.length-i=(PR.length-i-1)+1 by omega]at a;simp only[jz,hp]at a;have a7:=a2 i p hp;generalize qM SH PT b i p=F at *
  have I:V.take (i+1)=V.take i++[ao F.1]:=by rw[Yb,a7];rfl
  have D:(V.take i).length=i:=by rw[WD];omega
  have E:i<=V.length:=by omega
  have c1:=Bv (dL PT p.1) (by omega);have c2:=Bv (dL PT p.2) (by omega);have z1:=oE l1;have z2:=oE l2;have c3:=OC (aA (dL PT p.1)) (aA (dL PT p.2)) (dx SH p.1+dx SH p.2) 64 (by omega) (by omega);have a8:qF SH PT p=jD (aA (dL PT p.1)) (aA (dL PT p.2)) (dx SH p.1+dx SH p.2) 64:=rfl;have bq:=wV (aA (dL PT p.1)) (aA (dL PT p.2)) (dx SH p.1+dx SH p.2) 64;rw[<-a8]at c3 bq;have Y:i64.wrap (dx SH p.1+dx SH p.2)=dx SH p.1+dx SH p.2:=aa;generalize qF SH PT p=K at *;have W:=SU K.2.w K.2.v (dL PT p.1) (dx SH p.1) (dL PT p.2) (dx SH p.2) (by omega) (by omega) (by omega) (by omega);have bs:sf SH PT K.2.w K.2.v p=(oC K.2.w K.2.v (dL PT p.1) (dx SH p.1) (dL PT p.2) (dx SH p.2)&&decide (0<=lR K.2.w K.2.v (dL PT p.1) (dx SH p.1) (dL PT p.2) (dx SH p.2))):=rfl;rw[<-bs]at W
  have R:(i+1)*24<=140737488355328:=by omega
  have S:i<=9223372036854775806:=by omega
  clear a2 X ad a1;by_cases u:i<b.length
  .have y:=MH b i u
   have J:(i:Int)<(b.length:Int):=by omega
   rcases U with⟨g,c,d⟩|⟨g,c,d⟩
   .have O:V.take i=[]:=by rw[g];rfl
    rw[O,List.nil_append]at I
    cases G:F.2 with
    |true=>
     rw[G]at T a;simp only[V8]at a;refine GT (s7 g2 L r M N n o e f c d u J x (s6 j B P z Q A l m y D E (gA R S))) ?_;rw[show PR.length-i-1=PR.length-(i+1) by omega]at a
     all_goals exact rl ap a (.inr ⟨by omega,by simp[g],by simp[I]⟩)
    |false=>
     rw[G]at T a;simp only[VP,VZ]at a
     cases H:sf SH PT K.2.w K.2.v p with
     |true=>
      rw[H]at W a;simp only[V8]at a;subst a;exact GS (s7 g2 L r M N n o e f c d u J x (s6 j B P z Q A l m y D E (be R S Y)))
     |false=>
      rw[H]at W a;simp only[VP,VZ]at a;rw[show PR.length-i-1=PR.length-(i+1) by omega]at a;refine GT (s7 g2 L r M N n o e f c d u J x (s6 j B P z Q A l m y D E (be R S Y))) ?_
      all_goals exact rl false a (.inr ⟨by omega,by simp[xg,g],by simp[I]⟩)
   .have O:0<i:=g
    cases G:F.2 with
    |true=>
     rw[G]at T a;simp only[V8]at a;refine GT (s7 g2 L r M N n o e f c d u J x (s6 j B P z Q A l m y D E (gA R S))) ?_;rw[show PR.length-i-1=PR.length-(i+1) by omega]at a
     all_goals exact rl ap a (.inr ⟨by omega,by simp[g],by simp[I]⟩)
    |false=>
     rw[G]at T a;simp only[VP,VZ]at a
     cases H:sf SH PT K.2.w K.2.v p with
     |true=>
      rw[H]at W a;simp only[V8]at a;subst a;exact GS (s7 g2 L r M N n o e f c d u J x (s6 j B P z Q A l m y D E (be R S Y)))
     |false=>
      rw[H]at W a;simp only[VP,VZ]at a;rw[show PR.length-i-1=PR.length-(i+1) by omega]at a;refine GT (s7 g2 L r M N n o e f c d u J x (s6 j B P z Q A l m y D E (be R S Y))) ?_
      all_goals exact rl false a (.inr ⟨by omega,by simp[xg,g],by simp[I]⟩)
  .have y:¬(i:Int)<(b.length:Int):=by omega
   rw[G8 u]at T;simp only[aP,Yu]at T;rcases U with⟨g,c,d⟩|⟨g,c,d⟩
   .have O:V.take i=[]:=by rw[g];rfl
    rw[O,List.nil_append]at I
    cases G:F.2 with
    |true=>
     rw[G]at T a;simp only[V8]at a;refine GT (s7 g2 L r M N n o e f c d u x j (s6 B P z Q A l m y D E R S)) ?_;rw[show PR.length-i-1=PR.length-(i+1) by omega]at a
     all_goals exact rl ap a (.inr ⟨by omega,by simp[g],by simp[I]⟩)
    |false=>
     rw[G]at T a;simp only[VP,VZ]at a
     cases H:sf SH PT K.2.w K.2.v p with
     |true=>
      rw[H]at W a;simp only[V8]at a;subst a;exact GS (s7 g2 L r M N n o e f c d u x j (s6 B P z Q A l m y D E R (gA S Y)))
     |false=>
      rw[H]at W a;simp only[VP,VZ]at a;rw[show PR.length-i-1=PR.length-(i+1) by omega]at a;refine GT (s7 g2 L r M N n o e f c d u x j (s6 B P z Q A l m y D E R (gA S Y))) ?_
      all_goals exact rl false a (.inr ⟨by omega,by simp[xg,g],by simp[I]⟩)
   .have O:0<i:=g
    cases G:F.2 with
    |true=>
     rw[G]at T a;simp only[V8]at a;refine GT (s7 g2 L r M N n o e f c d u x j (s6 B P z Q A l m y D E R S)) ?_;rw[show PR.length-i-1=PR.length-(i+1) by omega]at a
     all_goals exact rl ap a (.inr ⟨by omega,by simp[g],by simp[I]⟩)
    |false=>
     rw[G]at T a;simp only[VP,VZ]at a
     cases H:sf SH PT K.2.w K.2.v p with
     |true=>
      rw[H]at W a;simp only[V8]at a;subst a;exact GS (s7 g2 L r M N n o e f c d u x j (s6 B P z Q A l m y D E R (gA S Y)))
     |false=>
      rw[H]at W a;simp only[VP,VZ]at a;rw[show PR.length-i-1=PR.length-(i+1) by omega]at a;refine GT (s7 g2 L r M N n o e f c d u x j (s6 B P z Q A l m y D E R (gA S Y))) ?_
      all_goals exact rl false a (.inr ⟨by omega,by simp[xg,g],by simp[I]⟩)
 .have bc:i=PR.length:=by omega
  subst bc;rw[XU]at a;simp only[jz]at a
  have ar:(dT SH PR PT b).length=PR.length:=by simp[dT]
  rcases U with⟨g,c,d⟩|⟨g,c,d⟩
  .have O:dT SH PR PT b=[]:=Wq (by omega)
   rw[O]at a
   cases ap with
   |true=>
    simp only[V8]at a;subst a;simp only[xg,V8]at c;exact GS (s6 g2 L r M N n o c d e f (be l m g))
   |false=>
    simp only[VP,VZ]at a;subst a;simp only[xg,VP,VZ]at c;exact GS (s6 g2 L r M N n o c d e f (be l m g))
  .rw[Wg (by omega),<-X]at d
   cases ap with
   |true=>
    simp only[V8]at a;subst a;simp only[xg,V8]at c;exact GS (s6 g2 L r M N n o c d e f (be l m ar))
   |false=>
    simp only[VP,VZ]at a;subst a;simp only[xg,VP,VZ]at c;exact GS (s6 g2 L r M N n o c d e f (be l m ar))
theorem Mo(b:List (Int×Int)):(oX b (af js ms)&&decide (0<b.length))=gU js ms b:=by
 unfold gU af;by_cases c:aO js ms=0
 .have f:=qY c
  simp only[c,V8,XP,We];by_cases d:js.length=b.length
  .have l:dN dS b (js.map gX)=dN (λj x=>dS x (gX j)) js b:=by
    have e:dN dS b (js.map gX)=true↔dN (λj x=>dS x (gX j)) js b=true:=by
     rw[ny,ny];constructor
     .intro H i h a;have:=H i a (by simpa using h);simpa using this
     .intro H i h a;have:=H i (by simpa using a) h;simpa using this
    cases x:dN dS b (js.map gX)<;>cases y:dN (λj x=>dS x (gX j)) js b<;>simp_all
   simp only[oX,Wp,l]
   have m:decide (b.length=js.length)=true:=by simp[d]
   have n:decide (js.length=b.length)=true:=by simp[d]
   have o:decide (0<b.length)=true:=by simp;omega
   simp only[m,n,o,We,Xw]
  .have g:decide (b.length=js.length)=false:=by simp;omega
   have k:decide (js.length=b.length)=false:=by simp;omega
   simp[oX,g,k]
 .simp only[c,VZ,decide_false,Ww]
  unfold oX;cases b<;>simp
theorem Uw(js:List J)(ms:List Ms)(b:List (Int×Int))(e:js.length<=9223372036854775807)(f:ms.length<=9223372036854775807)(d:b.length<=9223372036854775807):aH 109 (gB js ms) (iv b) (B (gU js ms b)):=by
 have a:(af js ms).length<=9223372036854775807:=by unfold af;split<;>simp;omega
 have g:=P8 js ms e f;have c:=Q0 b (af js ms) d a;rw[Gx]at c;rw[<-Mo];generalize af js ms=u at *;generalize oX b u=v at *;refine Dp func109 λC hP hN=>?_;exact Gy
 all_goals simp_all
theorem NM(s:Sce)(t:Tr)(i:Int)(hs:ScL s)(F:t.cells.length<=9223372036854775807)(L:t.root.length<=9223372036854775807)(y:∀c∈t.cells,c.v.nor.length<=9223372036854775807):mW 49 (eK s) (eT t) (Z i) (.tup [eT (gJ s t i),B (km s t i)]):=by
 have q:=hs.js;have u:=hs.ms
 have f:(dt t i).length<=9223372036854775807:=by
  unfold dt;split
  .rename_i h
   simp only[eX,An,L4]at h;have:=(iT h.1.1 (c:=i) (by omega)).2.1;omega
  .simp
 have j:=Vh t i F;have K:=IH s hs;have z:=Uw s.js s.ms (dt t i) q u f
 cases hp:r6 s t i with
 |true=>
  have g:=hp;simp only[r6,An,L4]at hp;obtain⟨⟨d,a⟩,m⟩:=hp;have l:=a;simp only[eX,An,L4]at l;obtain⟨k,rfl⟩:∃k:Nat,i=k:=⟨i.toNat,by omega⟩
  have r:k<t.cells.length:=by omega
  obtain⟨c,p⟩:∃c,t.cells[k]?=some c:=⟨_,an r⟩;have G:∀h,t.cells[k]'h=c:=λh=>bP p h
  have x:eD t k=c.v:=by simp[eD,p]
  have I:=SZ s (dt t k) c.v.nor hs f (y c (Is p))
  have E:kf s t k=aV (bD s (dt t k) c.v.nor):=by rw[kf,V7,x]
  have o:gJ s t k=bX t k (aV (bD s (dt t k) c.v.nor)):=by rw[gJ,VS g,E]
  have n:km s t k=cO t k (aV (bD s (dt t k) c.v.nor)):=by rw[km,g,We,E]
  rw[o,n]
  have e:(aY s !=0)=false:=by simp[d]
  rw[a]at j;rw[m]at z;generalize bD s (dt t k) c.v.nor=V at *;generalize dt t (k:Int)=b at *;obtain⟨H,nl,⟨pr,A,D⟩⟩:=V;simp only[aV];have J:=Tw t k ⟨H,nl,pr,A,D⟩ F;refine Dp func49 λC hP hN=>?_;exact Gy
 |false=>
  have o:gJ s t i=t:=by rw[gJ,VM (by simp[hp])]
  have n:km s t i=false:=by rw[km,hp,Ww]
  rw[o,n];by_cases d:aY s=0
  .have e:(aY s !=0)=false:=by simp[d]
   cases a:eX t i with
   |false=>
    rw[a]at j;refine Dp func49 λC hP hN=>?_;exact Gy
   |true=>
    have m:gU s.js s.ms (dt t i)=false:=by simpa[r6,d,a]using hp
    rw[a]at j;rw[m]at z;refine Dp func49 λC hP hN=>?_;exact Gy
  .have e:(aY s !=0)=true:=by simp[d]
   refine Dp func49 λC hP hN=>?_;exact Gy
theorem Ux(s:Sce)(t:Tr)(i j:Int)(hs:ScL s)(A:TL t)(O:t.cells.length<=999990):EG 52 (eK s) (eT t) (Z i) (Z j) (.tup [eT (qf s t i j),B (wQ s t i j)]):=by
 have M:=A.c;have N:=A.r;have F:=Tv t i j (by omega);have y:=zk A O i j;have d:wQ s t i j=(dA t i j&&km s (cL t i j) t.cells.length&&km s (mP s t i j) (t.cells.length+1)):=rfl
 have hF:qf s t i j=if wQ s t i j then gJ s (mP s t i j) (t.cells.length+1)else t:=rfl
 cases E:dA t i j with
 |false=>
  rw[E,Ww,Ww]at d;rw[d,VM (by simp)]at hF;rw[E]at F;rw[d,hF];refine Dp func52 λC hP hN=>?_;exact Gy
 |true=>
 rw[E]at F d;have J:mP s t i j=gJ s (cL t i j) t.cells.length:=rfl;have D:=NM s (cL t i j) t.cells.length hs (by have:=y.c;omega) (by have:=y.r;omega) y.v;rw[<-J]at D;have g:TL (mP s t i j):=Iy y _;have G:=NM s (mP s t i j) (t.cells.length+1) hs (by have:=g.c;omega) (by have:=g.r;omega) g.v;clear J y g A;generalize P:cL t i j=u at *;generalize mP s t i j=l at *;have w0:i64.wrap ((t.cells.length:Int)+2)=(t.cells.length:Int)+2:=aa;have Q:i64.wrap ((t.cells.length:Int)+1)=(t.cells.length:Int)+1:=aa;have R:i64.wrap ((t.cells.length:Int)+1+1)=(t.cells.length:Int)+2:=aa;generalize hn:(t.cells.length:Int)=n at *;obtain⟨root,cells⟩:=t;simp only at *
 cases z:km s u n with
 |false=>
  rw[z,Xi,Ww]at d;rw[d,VM (by simp)]at hF;rw[z]at D;rw[d,hF];refine Dp func52 λC hP hN=>?_;refine Gz ?_;refine WP.loopN [] 1 (λk st=>st.t 4=.ptr 4 0/\st.h 4=some (.box [.pv (.sl (s.js.map bu)),.pv (.sl (s.ms.map cE)),.pv (.sl (s.shs.map cD)),.pv (.sl (s.sks.map aN))] true false)/\st.t 5=.ptr 5 0/\st.h 5=some (.box [.pv (iv root),.pv (.sl (cells.map bw))] true false)/\st.t 8=.ptr 8 0/\st.h 8=some (.box [.pv (.val (.slice none 0 0)),.pv (.val (.slice none 0 0))] true false)/\st.t 10=.pv (Z n)/\st.t 11=.ptr 11 0/\st.h 11=some (.box [.pv (iv u.root),.pv (.sl (u.cells.map bw))] true false)/\st.t 13=.pv (Z n)/\k=0) (by simp) ?_;rintro k st K ⟨g4,p,g5,q,H,x,m,o,b,e,a⟩;subst a
  have f:n<n+2:=by omega
  exact Gy
 |true=>
 rw[z,Xw,We]at d;rw[z]at D
 cases I:km s l (n+1)with
 |false=>
  rw[I]at d G;rw[d,VM (by simp)]at hF;rw[d,hF];refine Dp func52 λC hP hN=>?_;refine Gz ?_;refine WP.loopN [] 2 (λk st=>st.t 4=.ptr 4 0/\st.h 4=some (.box [.pv (.sl (s.js.map bu)),.pv (.sl (s.ms.map cE)),.pv (.sl (s.shs.map cD)),.pv (.sl (s.sks.map aN))] true false)/\st.t 5=.ptr 5 0/\st.h 5=some (.box [.pv (iv root),.pv (.sl (cells.map bw))] true false)/\st.t 8=.ptr 8 0/\st.h 8=some (.box [.pv (.val (.slice none 0 0)),.pv (.val (.slice none 0 0))] true false)/\st.t 10=.pv (Z n)/\st.t 11=.ptr 11 0/\((k=0/\st.h 11=some (.box [.pv (iv u.root),.pv (.sl (u.cells.map bw))] true false)/\st.t 13=.pv (Z n))\/(k=1/\st.h 11=some (.box [.pv (iv l.root),.pv (.sl (l.cells.map bw))] true false)/\st.t 13=.pv (Z (n+1))))) (by simp) ?_;rintro k st K ⟨g4,p,g5,q,H,x,m,o,⟨a,b,e⟩|⟨a,b,e⟩⟩
  .subst a
   have f:n<n+2:=by omega
   exact Gy
  .subst a
   have f:n+1<n+2:=by omega
   exact Gy
 |true=>
  rw[I]at d G;rw[d,VS rfl]at hF;rw[d,hF];generalize gJ s l (n+1)=L at *;refine Dp func52 λC hP hN=>?_;refine Gz ?_;refine WP.loopN [] 3 (λk st=>st.t 4=.ptr 4 0/\st.h 4=some (.box [.pv (.sl (s.js.map bu)),.pv (.sl (s.ms.map cE)),.pv (.sl (s.shs.map cD)),.pv (.sl (s.sks.map aN))] true false)/\st.t 5=.ptr 5 0/\st.h 5=some (.box [.pv (iv root),.pv (.sl (cells.map bw))] true false)/\st.t 8=.ptr 8 0/\st.h 8=some (.box [.pv (.val (.slice none 0 0)),.pv (.val (.slice none 0 0))] true false)/\st.t 10=.pv (Z n)/\st.t 11=.ptr 11 0/\((k=0/\st.h 11=some (.box [.pv (iv u.root),.pv (.sl (u.cells.map bw))] true false)/\st.t 13=.pv (Z n))\/(k=1/\st.h 11=some (.box [.pv (iv l.root),.pv (.sl (l.cells.map bw))] true false)/\st.t 13=.pv (Z (n+1)))\/(k=2/\st.h 11=some (.box [.pv (iv L.root),.pv (.sl (L.cells.map bw))] true false)/\st.t 13=.pv (Z (n+2))))) (by simp) ?_;rintro k st K ⟨g4,p,g5,q,H,x,m,o,⟨a,b,e⟩|⟨a,b,e⟩|⟨a,b,e⟩⟩
  .subst a
   have f:n<n+2:=by omega
   exact Gy
  .subst a
   have f:n+1<n+2:=by omega
   exact Gy
  .subst a
   exact Gy
theorem Uz(s:Sce)(p q:List Int)(w cells:Int)(hs:ScL s)(K:p.length<=9223372036854775807)(L:q.length<=9223372036854775807):uw 26 (eK s) (zs p) (zs q) (Z w) (Z cells) (.tup [eT (sZ s p q w cells).1,Z (sZ s p q w cells).2]):=by
 have cs:=IH s hs;have O:=P7 s.js s.ms p hs.js hs.ms;have P:=P7 s.js s.ms q hs.js hs.ms
 have hd:sZ s p q w cells=if vd s p q w cells then qg s p q w cells 2048 (sY s)else(⟨[],[]⟩,0):=rfl
 have hP:vd s p q w cells=(decide (aY s=0)&&bW s.js s.ms p&&bW s.js s.ms q&&decide (1<=w)&&decide (1<=cells)&&decide (cells<=2048)):=rfl;by_cases k:aY s=0
 case neg=>
  rw[WW k]at hP;simp only[Ww]at hP;rw[hP,VM (by simp)]at hd
  have D:(aY s !=0)=true:=by simp[k]
  rw[hd];refine Dp func26 λC hP hN=>?_;exact Gy
 have D:(aY s !=0)=false:=by simp[k]
 rw[Wv k,We]at hP
 cases R:bW s.js s.ms p with
 |false=>
  rw[R]at hP O;simp only[Ww]at hP;rw[hP,VM (by simp)]at hd;rw[hd];refine Dp func26 λC hP hN=>?_;exact Gy
 |true=>
 rw[R]at hP O;rw[We]at hP
 cases S:bW s.js s.ms q with
 |false=>
  rw[S]at hP P;simp only[Ww]at hP;rw[hP,VM (by simp)]at hd;rw[hd];refine Dp func26 λC hP hN=>?_;exact Gy
 |true=>
 rw[S]at hP P;rw[We]at hP;by_cases T:1<=w
 case neg=>
  rw[WW T]at hP;simp only[Ww]at hP;rw[hP,VM (by simp)]at hd
  have E:w<1:=by omega
  rw[hd];refine Dp func26 λC hP hN=>?_;exact Gy
 have E:¬w<1:=by omega
 rw[Wv T,We]at hP;by_cases U:1<=cells
 case neg=>
  rw[WW U]at hP;simp only[Ww]at hP;rw[hP,VM (by simp)]at hd
  have F:cells<1:=by omega
  rw[hd];refine Dp func26 λC hP hN=>?_;exact Gy
 have F:¬cells<1:=by omega
 rw[Wv U,We]at hP;by_cases h5:cells<=2048
 case neg=>
  rw[WW h5]at hP;rw[hP,VM (by simp)]at hd
  have G:2048<cells:=by omega
  rw[hd];refine Dp func26 λC hP hN=>?_;exact Gy
 have G:¬2048<cells:=by omega
 rw[Wv h5]at hP;rw[hP,VS rfl]at hd;have a8:i64.wrap (cells-2)=cells-2:=aa;have cl:=P8 s.js s.ms hs.js hs.ms;have cn:=Vb (af s.js s.ms);obtain⟨X,a5,J,g⟩:=Ir k;have cc:=NM s (im (af s.js s.ms)) 0 hs (by have:=g.c;omega) (by have:=g.r;omega) g.v;have x:gJ s (im (af s.js s.ms)) 0=sY s:=rfl;rw[x]at cc;have N:=ue (kg k);rw[N]at cn;generalize km s (im (af s.js s.ms)) 0=o1 at *;clear x J g;generalize im (af s.js s.ms)=t0 at *;generalize u:qg s p q w cells 2048 (sY s)=z at *;rw[hd];clear hd;generalize a2:sY s=d0 at *;have M:=λ(t:Tr)(a b:Int)(e:DeI s t)(hn:Nx t a b)(hl:t.cells.length+2<=2048)=>DJ k e hn hl;have cx:=λ(t:Tr)(e:DeI s t)=>Uy s.js s.ms t p q w hs.js hs.ms (by have:=e.tl.c;omega) (by have:=e.tl.r;omega) K L;have A:=λ(t:Tr)(e:DeI s t)(hc:t.cells.length<=999990)(i j:Int)=>Ux s t i j hs e.tl hc;have I:=λ(t:Tr)(a b:Int)(h:jw s.js s.ms t p q w=(a,b,3))=>JX h;have n:=λ(f:Nat)(t:Tr)=>DK (s:=s) (p:=p) (q:=q) (w:=w) (cells:=cells) (f:=f) (t:=t);have l:=λ(f:Nat)(t:Tr)=>DL (s:=s) (p:=p) (q:=q) (w:=w) (cells:=cells) (f:=f) (t:=t);have m:=λ(f:Nat)(t:Tr)=>DM (s:=s) (p:=p) (q:=q) (w:=w) (cells:=cells) (f:=f) (t:=t);obtain⟨js,ms,SH,sks⟩:=s;simp only at *;refine Dp func26 λC hP hN=>?_;refine Gz ?_;refine WP.loopN [] 1100 (λi st=>∃t,DeI ⟨js,ms,SH,sks⟩ t/\t.cells.length=1+2*i/\t.cells.length<=2048/\qg ⟨js,ms,SH,sks⟩ p q w cells (2048-i) t=z/\st.t 1=.pv (zs p)/\st.t 2=.pv (zs q)/\st.t 3=.pv (Z w)/\st.t 4=.pv (Z cells)/\st.t 5=.ptr 5 0/\st.h 5=some (.box [.pv (.sl (js.map bu)),.pv (.sl (ms.map cE)),.pv (.sl (SH.map cD)),.pv (.sl (sks.map aN))] true false)/\st.t 10=.ptr 10 0/\st.h 10=some (.box [.pv (.val (.slice none 0 0)),.pv (.val (.slice none 0 0))] true false)/\st.t 12=.ptr 12 0/\st.h 12=some (.box [.pv (iv t.root),.pv (.sl (t.cells.map bw))] true false)) ?_ ?_
 .refine⟨d0,X,by omega,by omega,u,?_⟩
  simp
 rintro i st hi ⟨t,e,a7,a6,d,g1,g2,g3,g4,g5,a1,ad,V,ar,W⟩;have c1:=cx t e;rw[show 2048-i=(2048-(i+1))+1 by omega]at d;by_cases o:(jw js ms t p q w).2.2=3
 .have B:((jw js ms t p q w).2.2 !=3)=false:=by simp[o]
  by_cases Q:cells-2<t.cells.length
  .rw[l _ t o Q]at d
   subst d;generalize jw js ms t p q w=y at *;exact Gy
  .rw[m _ t o Q]at d
   have H:=I t (jw js ms t p q w).1 (jw js ms t p q w).2.1 (by rw[<-o]);have Y:=A t e (by omega) (jw js ms t p q w).1 (jw js ms t p q w).2.1;obtain⟨r1,r2,r3⟩:=M t _ _ e H (by omega);rw[r1]at Y;generalize jw js ms t p q w=y at *;generalize qf ⟨js,ms,SH,sks⟩ t y.1 y.2.1=t' at *;refine Gz ?_
   all_goals exact⟨by omega,t',r2,by omega,by omega,(by rw[show 2047-i=2048-(i+1) by omega];exact d),rfl,rfl⟩
 .have B:((jw js ms t p q w).2.2 !=3)=true:=by simp[o]
  rw[n _ t o]at d;subst d;generalize jw js ms t p q w=y at *;exact Gy
def H7(hi:Int)(i:Nat):J:=⟨zf i,4+(i:Int).tmod 2,(i:Int)-1,0,0,0,0,hi,1,65536,65536,65536⟩
def rX(hi:Int)(k:Nat):List J:=(List.range k).map (H7 hi)
theorem JI(hi:Int)(k:Nat):(rX hi (k+1)).map bu=(rX hi k).map bu++[bu (H7 hi k)]:=by simp[rX,Xk]
theorem xT(hi:Int)(k:Nat):(rX hi k).length=k:=by simp[rX]
theorem Qf(n:Nat)(hi:Int)(y:0<n)(hn:n<=3):aH 20 (Z n) (Z hi) (gB (rX hi n) []):=by
 refine Dp func20 λC hP hN=>?_;refine Gz ?_
 refine WP.loopN [] n (λi st=>st.t 0=.pv (Z n)/\st.t 1=.pv (Z hi)/\st.t 4=.ptr 4 0/\st.h 4=some (.box [fJ,fJ] true false)/\st.t 5=.ptr 5 0/\st.t 6=.pv (Z i)/\
  ((i=0/\st.h 5=some (.box [fJ,fJ] true false)/\st.h 24=none)\/(0<i/\st.h 5=some (.box [.arr 24 i,fJ] true false)/\st.h 24=some (.row 81 12 ((rX hi i).map bu) 0)))) (by simp) ?_
 rintro i st s ⟨g0,g1,g4,g,g5,m,f⟩;by_cases k:i<n
 .have x:i64.wrap ((i:Int)+1)=(i:Int)+1:=by rw[IntKind.wrap_i64];omega
  have e:(i:Int)<(n:Int):=by omega
  have r:=JI hi i;have u:=Int.tmod_nonneg 2 (Int.natCast_nonneg i);have v:=XJ (i:Int) (b:=2) (by decide);have o:i64.wrap ((i:Int).tmod 2)=(i:Int).tmod 2:=aa;have p:i64.wrap (4+(i:Int).tmod 2)=4+(i:Int).tmod 2:=aa;have q:i64.wrap ((i:Int)-1)=(i:Int)-1:=aa;have l:=xT hi i;rcases f with⟨c,d,a⟩|⟨c,d,a⟩
  .subst c
   have cl:=Np 0 (by omega);rw[show((0:Nat):Int)=0 from rfl]at cl
   have z:i64.wrap 0=0:=by decide
   have A:i64.wrap 4=4:=by decide
   have v3:i64.wrap (-1)=-1:=by decide
   have v4:i64.wrap (0+1)=1:=by decide
   have B:i64.wrap (0-1)=-1:=by decide
   have D:Int.tmod 0 2=0:=by decide
   refine Gz ?_
   all_goals simp[rX,H7]
  .have cl:=Np i (by omega)
   refine GT (s7 g0 g1 g4 g g5 m d a k e x o p q (be l (show(i+1)*104<=140737488355328 by omega) (show i<=9223372036854775806 by omega))) ?_
   all_goals simp[r,H7]
 .have j:i=n:=by omega
  subst j;rcases f with⟨c,_⟩|⟨c,d,a⟩
  .omega
  have l:=xT hi i;exact Gy
def wM(l:List Int):Nat:=(1+nx l 0 2).toNat
def nA(l:List Int):Nat:=nn l 0
def rY(l:List Int):Nat:=nn l (nA l)
def JJ(l:List Int):Nat:=nn l (rY l)
def sS(l:List Int):Nat:=(nx l (rY l) 4).toNat
def Lj(l:List Int)(m:Nat):List Vc:=if nx l (nn l (nn l m)) 3=0 then[(nx l m 65,-9,0),(nx l m 65,80,0)]else[(nx l m 65,nx l (nn l m) 65,0)]
def Qg(l:List Int)(m:Nat):Nat:=nn l (nn l (nn l (nn l m)))
def Lk(l:List Int)(m:Nat):Sh:=⟨-1,2+nx l (nn l (nn l (nn l m))) 9,Lj l m⟩
def ga(l:List Int):Nat->Nat
 |0=>JJ l
 |i+1=>Qg l (ga l i)
theorem H8(l:List Int):∀i,ga l i<=3+4*i
 |0=>by
  have a:=br l 0;have b:=br l (nA l);have c:=br l (rY l);simp only[ga,JJ,rY,nA]at *;omega
 |i+1=>by
  have h:=H8 l i;have d:=br l (ga l i);have e:=br l (nn l (ga l i));have f:=br l (nn l (nn l (ga l i)));have g:=br l (nn l (nn l (nn l (ga l i))));simp only[ga,Qg];omega
def uY(l:List Int)(k:Nat):List Sh:=⟨(wM l:Int)-1,1+nx l (nA l) 4,[(0,0,0)]⟩::(List.range k).map λi=>Lk l (ga l i)
theorem H9(l:List Int)(k:Nat):(uY l (k+1)).map cD=(uY l k).map cD++[cD (Lk l (ga l k))]:=by simp[uY,Xk]
theorem Dt(l:List Int)(k:Nat):(uY l k).length=k+1:=by simp[uY]
def kc(l:List Int):Sce:=⟨rX 64 (wM l),[],uY l (sS l),[]⟩
theorem A7(l:List Int):0<wM l/\wM l<=2/\(wM l:Int)=1+nx l 0 2:=by
 have a:=cY l 0 (k:=2) (by decide) (by decide);unfold wM;omega
theorem NC(l:List Int):ScL (kc l):=by
 have b:=A7 l;have d:=cY l (rY l) (k:=4) (by decide) (by decide)
 have c:sS l<4:=by unfold sS;omega
 refine⟨?_,by simp[kc],?_,by simp[kc],?_⟩
 .simp only[kc,xT];omega
 .simp only[kc,Dt];omega
 .intro h a
  simp only[kc,uY,Wj,Wf]at a;rcases a with rfl|⟨i,_,rfl⟩
  .simp
  .simp only[Lk,Lj];split<;>simp
theorem d9(l:List Int):bh 9 (zs l) (eK (kc l)):=by
 have N:=A7 l;have O:=cY l (nA l) (k:=4) (by decide) (by decide);have P:=cY l (rY l) (k:=4) (by decide) (by decide)
 have J:nx l (rY l) 4=((sS l:Nat):Int):=by unfold sS;omega
 have K:sS l<4:=by unfold sS;omega
 have L:=br l 0;have M:=br l (nA l)
 have r:i64.wrap (1+nx l 0 2)=((wM l:Nat):Int):=by rw[IntKind.wrap_i64];omega
 have s:i64.wrap ((wM l:Int)-1)=(wM l:Int)-1:=aa;have u:i64.wrap (1+nx l (nA l) 4)=1+nx l (nA l) 4:=aa;have v:i64.wrap (nx l (nA l) 4)=nx l (nA l) 4:=aa;have Q:=Nn l;have D:=io l 0 2 (by decide) (by omega);have R:=Qf (wM l) 64 (by omega) (by omega);have E:=io l (nA l) 4 (by decide) (by unfold nA;omega);have F:=io l (rY l) 4 (by decide) (by unfold rY nA at *;omega);have G:nn l 0=nA l:=rfl;have H:nn l (nA l)=rY l:=rfl;have I:nn l (rY l)=JJ l:=rfl;rw[G]at D;rw[H]at E;rw[I]at F;refine Dp func9 λC hP hN=>?_;refine GT (go @j8.eq_1 J r s u v) ?_;refine WP.loopN [] (sS l) (λi st=>st.t 2=.ptr 2 0/\st.h 2=some (.box [fJ,fJ,fJ,fJ] true false)/\st.t 3=.ptr 10 0/\st.h 10=some (.box [.pv (zs l),.pv (Z (ga l i))] true false)/\st.t 5=.ptr 5 0/\st.h 5=some (.box [.pv (.sl ((rX 64 (wM l)).map bu)),.pv (.sl []),.arr 28 (i+1),fJ] true false)/\st.t 6=.pv (Z ((sS l:Int)-i))/\st.h 28=some (.row 70 3 ((uY l i).map cD) 0)) (by simp[ga,uY]) ?_;rintro i st hi ⟨g2,e,g3,a,g5,f,p,b⟩;have x:=Dt l i;by_cases m:i<sS l
 .have y:i64.wrap ((sS l:Int)-i-1)=(sS l:Int)-((i:Int)+1):=by rw[IntKind.wrap_i64];omega
  have j:(0:Int)<(sS l:Int)-i:=by omega
  have S:=H8 l i;have T:=br l (ga l i);have U:=br l (nn l (ga l i));have V:=br l (nn l (nn l (ga l i)));have d1:=io l (ga l i) 65 (by decide) (by omega);have d2:=io l (nn l (ga l i)) 65 (by decide) (by omega);have d3:=io l (nn l (nn l (ga l i))) 3 (by decide) (by omega);have d4:=io l (nn l (nn l (nn l (ga l i)))) 9 (by decide) (by omega);have W:=cY l (ga l i) (k:=65) (by decide) (by decide);have X:=cY l (nn l (ga l i)) (k:=65) (by decide) (by decide);have Y:=cY l (nn l (nn l (nn l (ga l i)))) (k:=9) (by decide) (by decide);have z:i64.wrap (nx l (ga l i) 65)=nx l (ga l i) 65:=aa;have A:i64.wrap (nx l (nn l (ga l i)) 65)=nx l (nn l (ga l i)) 65:=aa;have v4:i64.wrap (nx l (nn l (nn l (nn l (ga l i)))) 9)=nx l (nn l (nn l (nn l (ga l i)))) 9:=aa;have B:i64.wrap (2+nx l (nn l (nn l (nn l (ga l i)))) 9)=2+nx l (nn l (nn l (nn l (ga l i)))) 9:=aa;have o:=H9 l i;have hS:ga l (i+1)=nn l (nn l (nn l (nn l (ga l i)))):=rfl;have n:Lk l (ga l i)=⟨-1,2+nx l (nn l (nn l (nn l (ga l i)))) 9,Lj l (ga l i)⟩:=rfl
  have c:Lj l (ga l i)=if nx l (nn l (nn l (ga l i))) 3=0 then[(nx l (ga l i) 65,-9,0),(nx l (ga l i) 65,80,0)]else[(nx l (ga l i) 65,nx l (nn l (ga l i)) 65,0)]:=rfl
  by_cases g:nx l (nn l (nn l (ga l i))) 3=0
  .have d:(nx l (nn l (nn l (ga l i))) 3==0)=true:=by simp[g]
   rw[VS g]at c;rw[c]at n;rw[n]at o;refine GT (s7 @j8.eq_1 g2 e g3 a g5 f p b m y j @hS x (so z A v4 B g d (show(i+1+1)*40<=140737488355328 by omega) (show i<=9223372036854775805 by omega))) ?_
   all_goals simp[o]
  .have d:(nx l (nn l (nn l (ga l i))) 3==0)=false:=by simp[g]
   rw[VM g]at c;rw[c]at n;rw[n]at o;refine GT (s7 @j8.eq_1 g2 e g3 a g5 f p b m y j @hS x (so z A v4 B g d (show(i+1+1)*40<=140737488355328 by omega) (show i<=9223372036854775805 by omega))) ?_
   all_goals simp[o]
 .have q:i=sS l:=by omega
  subst q;refine GT (so g2 e g3 a g5 f p (gA b x)) ?_
  all_goals simp[kc]
def eP(shs:List Sh):Sce:=⟨rX 8 1,[],shs,[]⟩
abbrev FA:List Sh:=[⟨0,1,[(0,0,0)]⟩,⟨-1,1,[(4,0,0)]⟩]
def yH(shs:List Sh)(cells:Int):Spc×Int:=(oB (eP shs) [0] [8] 1 cells 60 (kQ (eP shs) 1)).getD (kQ (eP shs) 1,0)
def GJ(shs:List Sh)(cells:Int):Bool:=decide (aY (eP shs)=0)&&bW (eP shs).js (eP shs).ms [0]&&bW (eP shs).js (eP shs).ms [8]&&dy (af (eP shs).js (eP shs).ms)&&gU (eP shs).js (eP shs).ms (af (eP shs).js (eP shs).ms)&&aT (mN (af (eP shs).js (eP shs).ms) bm) &&
 cO (mN (af (eP shs).js (eP shs).ms) bm) 0 (aV (bD (eP shs) (af (eP shs).js (eP shs).ms) []))&&aT (mN (af (eP shs).js (eP shs).ms) (aV (bD (eP shs) (af (eP shs).js (eP shs).ms) [])))&&decide ((af (eP shs).js (eP shs).ms).length<=16)&&(oB (eP shs) [0] [8] 1 cells 60 (kQ (eP shs) 1)).isSome &&
 decide ((bD (eP shs) (af (eP shs).js (eP shs).ms) []).ns.length<=100)&&decide ((bD (eP shs) (af (eP shs).js (eP shs).ms) []).w.a.length<=100)&&decide ((bD (eP shs) (af (eP shs).js (eP shs).ms) []).w.b.length<=100)
set_option maxRecDepth 100000 in
theorem UA:GJ [] 9=true:=by kernel_rfl
set_option maxRecDepth 100000 in
theorem UB:GJ FA 40=true:=by kernel_rfl
set_option maxRecDepth 100000 in
theorem UC:(yH [] 9).2=1/\(yH [] 9).1.cells.length=1/\(yH FA 40).2=2:=by
 refine⟨by kernel_rfl,by kernel_rfl,by kernel_rfl⟩
theorem Ln(shs:List Sh)(cells:Int)(hs:ScL (eP shs))(g:1<=cells)(h5:cells<=2048)(a:GJ shs cells=true):uw 13 (eK (eP shs)) (zs [0]) (zs [8]) (Z 1) (Z cells) (.tup [.agg [iv (yH shs cells).1.root,.sl ((yH shs cells).1.cells.map bw)],Z (yH shs cells).2]):=by
 simp only[GJ,An,L4]at a;obtain⟨⟨⟨⟨⟨⟨⟨⟨⟨⟨⟨⟨i,m⟩,n⟩,o⟩,p⟩,q⟩,r⟩,s⟩,u⟩,d⟩,j⟩,k⟩,l⟩:=a;obtain⟨R,e⟩:=Wo.1 d
 have b:yH shs cells=R:=by unfold yH;rw[e];rfl
 rw[b];exact Qh (eP shs) [0] [8] 1 cells 60 R hs i m n (by omega) g h5 (by simp) (by simp) o p q r ⟨by simp only[aV];omega,by simp only[aV];omega,by simp only[aV];omega⟩ ⟨by show(af (eP shs).js (eP shs).ms).length<=_;omega,by simp,λc f=>by simp at f;subst f;simp[tx,bm,aD]⟩ s u e
theorem d7:Cn 7 (B true):=by
 have f:=Qf 1 8 (by omega) (by omega);have a:=Ln [] 9 ⟨by simp[eP,rX],by simp[eP],by simp[eP],by simp[eP],by simp[eP]⟩ (by omega) (by omega) UA;have b:=Ln FA 40 ⟨by simp[eP,rX],by simp[eP],by simp[eP,FA],by simp[eP],by simp[eP,FA]⟩ (by omega) (by omega) UB;obtain⟨f1,f2,f3⟩:=UC;rw[f1]at a;rw[f3]at b;simp only[eP,FA,eK,cD,aP,zs,W5,Yu]at a b;generalize yH [] 9=d at *;generalize c:(yH [⟨0,1,[(0,0,0)]⟩,⟨-1,1,[(4,0,0)]⟩] 40).1=e at *;generalize rX 8 1=J at *;refine Dp func7 λC hP hN=>?_;exact GS f2
theorem Ev{t:Tr}(h:oM 600 t)(i:Int):oM 600 (gJ s t i):=by
 unfold gJ;split
 .have a:=vt s (dt t i) (eD t i.toNat).nor
  exact IW h i ⟨by simp only[kf,aV];omega,by simp only[kf,aV];omega,by simp only[kf,aV];omega⟩
 .exact h
theorem PS{t:Tr}(h:oM 600 t)(i j:Int):oM 600 (qf s t i j)/\(qf s t i j).cells.length<=t.cells.length+2/\(qf s t i j).root=t.root:=by
 unfold qf;split
 .have a:=uf s (mP s t i j) ((t.cells.length:Int)+1)
  have b:=uf s (cL t i j) (t.cells.length:Int);have c:mP s t i j=gJ s (cL t i j) (t.cells.length:Int):=rfl;rw[c]at a|-;refine⟨Ev (Ev (KE h i j) _) _,?_⟩;rw[a.1,a.2,b.1,b.2];unfold cL;split
  .rw[mr];exact⟨VU _,rfl⟩
  .exact⟨by omega,rfl⟩
 .exact⟨h,by show t.cells.length<=_;omega,rfl⟩
theorem I3{s:Sce}{p q:List Int}{w cells:Int}:∀(f:Nat)(t:Tr),oM 600 t->oM 600 (qg s p q w cells f t).1/\(qg s p q w cells f t).1.cells.length<=t.cells.length+2*f/\(qg s p q w cells f t).1.root=t.root
 |0,t,h=>⟨h,VU _,rfl⟩
 |f+1,t,h=>by
  simp only[qg];split
  .split
   .exact⟨h,by show t.cells.length<=_;omega,rfl⟩
   .obtain⟨d,g,e⟩:=PS (s:=s) h (jw s.js s.ms t p q w).1 (jw s.js s.ms t p q w).2.1
    obtain⟨a,b,c⟩:=I3 (s:=s) (p:=p) (q:=q) (w:=w) (cells:=cells) f _ d;exact⟨a,by omega,c.trans e⟩
  .exact⟨h,by show t.cells.length<=_;omega,rfl⟩
theorem OW{p q:List Int}{w cells:Int}(i:s.js.length<=9223372036854775807):oM 600 (sZ s p q w cells).1/\(sZ s p q w cells).1.cells.length<=5000/\(sZ s p q w cells).1.root.length<=9223372036854775807:=by
 unfold sZ;split
 .have d:oM 600 (im (af s.js s.ms))/\(im (af s.js s.ms)).cells.length<=1/\(im (af s.js s.ms)).root.length<=9223372036854775807:=by
   unfold im;split
   .refine⟨λc a=>?_,by simp,?_⟩
    .simp at a;subst a;simp[aD,bm,tx]
    .simp only[af];split<;>simp;omega
   .exact⟨λc a=>by simp at a,by simp,by simp⟩
  have e:oM 600 (sY s):=Ev d.1 0;have b:=uf s (im (af s.js s.ms)) 0;have hd:sY s=gJ s (im (af s.js s.ms)) 0:=rfl;rw[<-hd]at b;obtain⟨f,j,g⟩:=I3 (s:=s) (p:=p) (q:=q) (w:=w) (cells:=cells) 2048 (sY s) e;exact⟨f,by omega,by rw[g,b.2];exact d.2.2⟩
 .exact⟨λc a=>by simp at a,by simp,by simp⟩
theorem LH(s:Sce)(p q:List Int)(w cells:Int)(hs:ScL s)(d:cells<=2040)(a:p.length<=9223372036854775807)(b:q.length<=9223372036854775807):uw 11 (eK s) (zs p) (zs q) (Z w) (Z cells) (B true):=by
 have e:=PQ s p q w cells hs d a b;have f:=Uz s p q w cells hs a b;obtain⟨j,k,z3⟩:=OW (s:=s) (p:=p) (q:=q) (w:=w) (cells:=cells) hs.js;have g:=KS (sZ s p q w cells).1 z3 (by omega) (λc d=>by have:=j c d;simp only[tx]at this;exact⟨by omega,by omega,by omega⟩);generalize(sZ s p q w cells).1=T at *;generalize(sZ s p q w cells).2=x at *
 have i:(x==x)=true:=by simp
 refine Dp func11 λC hP hN=>?_
 with_reducible repeat' (first|refine Sp.h ?_|((first|refine Ss.h ?_|refine Sc.h (e) ?_|refine Sc.h (f) ?_|refine Sc.h (g) ?_|(refine Sb.h ?_ ?_ ?_<;>(try intro hgd)<;>try exact Xy))<;>simp -implicitDefEqProofs (maxSteps:=2000000) [hP,hN,i])|refine X2 ?_ ?_|(refine Xd ?_ ?_<;>intro hcd<;>try exact Xx))
def zy(s:Sce):Bool:=decide ((s.js.length:Int)<=4)&&decide ((s.ms.length:Int)<=6)&&decide ((s.shs.length:Int)<=6)&&decide ((s.sks.length:Int)<=8)
theorem d6(s:Sce):bh 6 (eK s) (B (zy s)):=by
 unfold zy;obtain⟨js,ms,SH,sks⟩:=s;simp only;generalize e:decide ((js.length:Int)<=4)=a;generalize f:decide ((ms.length:Int)<=6)=b;generalize g:decide ((SH.length:Int)<=6)=c;generalize hd:decide ((sks.length:Int)<=8)=d;cases a<;>cases b<;>cases c
 all_goals
  refine Dp func6 λC hP hN=>?_
  with_reducible repeat' (first|refine Sp.h ?_|((first|refine Ss.h ?_|(refine Sb.h ?_ ?_ ?_<;>(try intro hgd)<;>try exact Xy))<;>simp -implicitDefEqProofs (maxSteps:=2000000) [hP,hN,e,f,g,hd])|refine X2 ?_ ?_|(refine Xd ?_ ?_<;>intro hcd<;>try exact Xx))
theorem F1(l:List Int):∀j∈(kc l).js,At j:=by
 intro j a;simp only[kc,rX,Wf]at a;obtain⟨i,_,rfl⟩:=a;unfold At;simp only[H7];omega
theorem d3(c:Sce)(p q:List Int)(width cells:Int)(l m o:List Int)(n:ScL c)(i:p.length<=9223372036854775807)(j:q.length<=9223372036854775807):aQ prog 3 [.pv (eK c),.pv (zs p),.pv (zs q),.pv (Z width),.pv (Z cells),.pv (zs l),.pv (zs m),.pv (zs o)] [] [] (.pv (B true)):=by
 have A:=d7;have e:=d6 c;generalize zy c=V at *
 cases V with
 |false=>
  refine Dp func3 λC hP hN=>?_
  with_reducible repeat' (first|refine Sp.h ?_|((first|refine Wd ?_|refine Ss.h ?_|refine Sc.h (A) ?_|refine Sc.h (e) ?_|(refine Sb.h ?_ ?_ ?_<;>(try intro hgd)<;>try exact Xy))<;>simp -implicitDefEqProofs (maxSteps:=2000000) [hP,hN]<;>try refine Ya ?_)|refine X2 ?_ ?_|(refine Xd ?_ ?_<;>intro hcd<;>try exact Xx))
 |true=>
 have hL:=N3 l;have f:=NC l;have N:=Fk l 0
 have O:(kc l).js.length<=10:=by have:=A7 l;simp only[kc,xT];omega
 have H:=d8 l;have I:=d9 l;have D:=Li m (nN l 0) (sQ l 0) (by omega) (HW l 0);have E:=Li o (nN l 0) (sQ l 0) (by omega) (HW l 0);have r:=Li m (kc l).js (kc l).ms (by omega) (F1 l);have z:=Li o (kc l).js (kc l).ms (by omega) (F1 l);have d:(tJ l).js=nN l 0:=rfl;have g:(tJ l).ms=sQ l 0:=rfl;rw[<-d,<-g]at D E;rw[<-d]at N;clear d g
 have Y:(j9 m (tJ l).js).length=(tJ l).js.length:=by simp[j9]
 have n2:(j9 o (tJ l).js).length=(tJ l).js.length:=by simp[j9]
 have n3:(j9 m (kc l).js).length=(kc l).js.length:=by simp[j9]
 have n4:(j9 o (kc l).js).length=(kc l).js.length:=by simp[j9]
 generalize tJ l=s at *;generalize kc l=t at *;generalize j9 m s.js=a at *;generalize j9 o s.js=b at *;generalize j9 m t.js=F at *;generalize j9 o t.js=G at *;have T:=Nf cells 30 (by decide);have U:=Nf cells 12 (by decide);have g1:=yy cells (k:=30) (by decide) (by decide);have g2:=yy cells (k:=12) (by decide) (by decide);generalize oo cells 30=x at *;generalize oo cells 12=y at *;have W:i64.wrap (1+x)=1+x:=aa;have X:i64.wrap (2*(1+x))=2*(1+x):=aa;have P:=LH c p q width y n (by omega) i j;have Q:=LH s a b (i64.wrap (1+tC .and .i64 width 65535)) (1+x) hL (by omega) (by omega) (by omega);have R:=LH t F G (i64.wrap (1+tC .and .i64 width 7)) (2*(1+x)) f (by omega) (by omega) (by omega);have S:=LH t p q width (1+x) f (by omega) i j;generalize J:tC .and .i64 width 65535=u at *;generalize K:tC .and .i64 width 7=v at *;generalize L:i64.wrap (1+u)=u' at *;generalize M:i64.wrap (1+v)=v' at *;refine Dp func3 λC hP hN=>?_
 with_reducible repeat' (first|refine Sp.h ?_|((first|refine Wd ?_|refine Ss.h ?_|refine Sc.h (A) ?_|refine Sc.h (e) ?_|refine Sc.h (H) ?_|refine Sc.h (I) ?_|refine Sc.h (D) ?_|refine Sc.h (E) ?_|refine Sc.h (r) ?_|refine Sc.h (z) ?_|refine Sc.h (T) ?_|refine Sc.h (U) ?_|refine Sc.h (P) ?_|refine Sc.h (Q) ?_|refine Sc.h (R) ?_|refine Sc.h (S) ?_|(refine Sb.h ?_ ?_ ?_<;>(try intro hgd)<;>try exact Xy))<;>simp -implicitDefEqProofs (maxSteps:=2000000) [hP,hN,W,X,J,K,L,M]<;>try refine Ya ?_)|refine X2 ?_ ?_|(refine Xd ?_ ?_<;>intro hcd<;>try exact Xx))
open Go.Proofs.YtdbgcnplnhmjgaaGreat
section
variable {H:Type}
theorem ut{t b:TypeId}{d:DataW H}{l:List PV}(a:prog.underlying t=some (.slice b))(hf:ua prog t d)(h:gn d=.sl l):gW d=[.sl l]:=by
 obtain⟨n,hf⟩:=hf
 cases n with
 |zero=>exact hf.elim
 |succ n=>
  simp only[iD,a]at hf;rcases hf with rfl|⟨c,sp,rfl,_⟩
  all_goals simp only[gn]at h;simp[gW,<-h]
theorem MK:lx H prog 68 ao (λ_=>True) (λ_=>1):=by
 intro d h;obtain⟨x,y,z,rfl⟩:=A8 (H:=H) Tryz.underlying68 Tryz.underlying2 (d:=d) h;exact⟨(x,y,z),by simp[gn,vX,gW,ip,eV],trivial,by simp[rZ]⟩
theorem ML:lx H prog 52 aP (λl=>l.length<=9223372036854775807) (λl=>l.length):=by
 intro d h;obtain⟨l,e,q,s⟩:=ke (H:=H) Tryz.underlying52 MK d h;have a:=ub (λ_:Int×Int×Int=>1) (λ_=>VU _) l;simp only at s;refine⟨l,e,q.1,?_⟩;simp only;omega
theorem KG:lx H prog 70 cD (λs=>s.pts.length<=9223372036854775807) (λs=>s.pts.length+1):=by
 intro d h;obtain⟨i,rfl,f,a⟩:=mg Tryz.underlying70 h;obtain⟨a0,g,b,rfl⟩:=GB f;obtain⟨k,rfl,_⟩:=gp (H:=H) Tryz.underlying3 (a 0 _ _ rfl rfl);obtain⟨r,rfl,_⟩:=gp (H:=H) Tryz.underlying2 (a 1 _ _ rfl rfl);have f1:ua prog 52 b:=a 2 _ _ rfl rfl;obtain⟨l,e,q,s⟩:=ML (H:=H) b f1;have c:=ut Tryz.underlying52 f1 e;refine⟨⟨k,r,l⟩,by simp[gn,vX,gW,c,ip,eV],q,?_⟩;simp only[rZ,sU]at *;omega
theorem MM:lx H prog 78 aN (λ_=>True) (λ_=>1):=by
 intro d h;obtain⟨f,rfl,e,c⟩:=mg Tryz.underlying78 h;obtain⟨a,b,rfl⟩:=NE e;obtain⟨x,rfl,_⟩:=gp (H:=H) Tryz.underlying3 (c 0 _ _ rfl rfl);obtain⟨y,rfl,_⟩:=gp (H:=H) Tryz.underlying3 (c 1 _ _ rfl rfl);exact⟨(x,y),by simp[gn,vX,gW,ip,eV],trivial,by simp[rZ]⟩
theorem KH:lx H prog 29 eK ScL (λs=>s.js.length+s.shs.length+s.sks.length):=by
 intro d h;obtain⟨z,rfl,r,a⟩:=mg Tryz.underlying29 h;obtain⟨a0,b,c,rfl⟩:=GB r;have f0:ua prog 25 a0:=a 0 _ _ rfl rfl;have f1:ua prog 26 b:=a 1 _ _ rfl rfl;have f2:ua prog 27 c:=a 2 _ _ rfl rfl;obtain⟨ws,rfl,y,i⟩:=mg Tryz.underlying25 f0;obtain⟨e,f,rfl⟩:=NE y;have g0:ua prog 22 e:=i 0 _ _ rfl rfl;have g1:ua prog 23 f:=i 1 _ _ rfl rfl;obtain⟨js,n,u,D⟩:=ke (H:=H) Tryz.underlying22 KF e g0;obtain⟨ms,o,v,E⟩:=ke (H:=H) Tryz.underlying23 MJ f g1;obtain⟨shs,p,g,F⟩:=ke (H:=H) Tryz.underlying26 KG b f1;obtain⟨sks,q,x,G⟩:=ke (H:=H) Tryz.underlying27 MM c f2;have j:=ut Tryz.underlying22 g0 n;have k:=ut Tryz.underlying23 g1 o;have l:=ut Tryz.underlying26 f1 p;have m:=ut Tryz.underlying27 f2 q;have A:=ub (λ_:J=>1) (λ_=>VU _) js;have B:=ub (λs:Sh=>s.pts.length+1) (λ_=>by omega) shs;have C:=ub (λ_:Int×Int=>1) (λ_=>VU _) sks;refine⟨⟨js,ms,shs,sks⟩,by simp[gn,vX,gW,j,k,l,m,ip,eV],⟨u.1,v.1,g.1,x.1,g.2⟩,?_⟩;simp only[rZ,sU]at *;omega
end
end Go.Ab
