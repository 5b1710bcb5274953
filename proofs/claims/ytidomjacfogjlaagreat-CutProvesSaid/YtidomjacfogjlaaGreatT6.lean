/- The contracts and facts that the laws of this seat need, in one text (AbC, Ab27, Ab37, Ab38, Ab39, AbH, AbQ, TrA, Tr3). -/
import Derived.Test.YtidomjacfogjlaaGreatT5
import Derived.TacticsIn
import Derived.RangeFuncRecord
import Derived.RangeFuncLeaves
import Derived.RangeFuncCalls
import Derived.RangeFuncSeq
import Derived.RecoverIn
set_option linter.all false
set_option maxRecDepth 10000
set_option maxHeartbeats 16000000
namespace Go.Ab
open IntKind (i64)
open Go.Proofs.Tryz
variable {a i j n:Nat}{far l:List Int}{r:List (Int×Int)}{v:Int}{α:Type}
theorem MemL.kill{C:Cx}{L:Nat->Loc}{st:St}{w:World}(ks:List Nat)(g:MemL C L st.h w):MemL C L (st.kill ks).h w/\∀b o,ak C L (st.kill ks).h b o->ak C L st.h b o:=by
 have c:∀k a,(st.kill ks).h k=some a->∃ab,st.h k=some ab/\fA ks ab=a/\a.live (L k)=ab.live (L k)/\∀o,a.frz o=ab.frz o:=by
  intro k a d;simp only[St.kill]at d;split at d
  .cases d
  .simp only[II]at d
   obtain⟨ab,f,rfl⟩:=d;exact⟨ab,f,rfl,by cases ab<;>rfl,λo=>by cases ab<;>rfl⟩
 have F:∀b o,ak C L (st.kill ks).h b o->ak C L st.h b o:=by
  rintro b o (T|⟨k,a,d,A,W,hf⟩)
  .exact .inl T
  .obtain⟨ab,f,_,U,V⟩:=c k a d
   exact .inr ⟨k,ab,f,U▸A,W,V o▸hf⟩
 have hp:Pres w (ak C L st.h) w (ak C L (st.kill ks).h):=Pres.sub F;refine⟨⟨g.ext,g.m0,?_,?_,?_⟩,F⟩
 .intro k a d
  obtain⟨ab,f,rfl,_,_⟩:=c k a d;have:=g.bl k ab f
  cases ab with
  |box S own y=>
   obtain⟨arr,ty,v,m⟩:=this;refine⟨arr,ty,v,by simpa using m.1,λi p u l E=>?_⟩;simp only[ZW,II]at l;obtain⟨q,hq,rfl⟩:=l;exact wY hp (m.2 i q u hq E)
  |row e sz xs y=>
   obtain⟨H,I,J,K,M⟩:=this;refine⟨H,I,J,K,λY=>?_⟩;obtain⟨r,s,arr,N,O,P⟩:=M Y;exact⟨r,s,arr,N,O,λi x j p hx X=>by obtain⟨u,E,Z⟩:=P i x j p hx X;exact⟨u,E,Z.mono hp⟩⟩
  |mp kd n es y=>exact this
 .intro k G r s D d z A B
  obtain⟨Q,d1,_,v,_⟩:=c k r d;obtain⟨R,d2,_,m,_⟩:=c G s z;exact g.sep k G Q R D d1 d2 (v▸A) (m▸B)
 .intro k a d
  obtain⟨ab,f,rfl,_,_⟩:=c k a d;have:=g.own k ab f
  cases ab with
  |box S own y=>cases own<;>exact this
  |row=>exact this
  |mp=>exact this
def col(x:Nat):Nat:=match Nat.ble 300 x with
 |true=>300
 |false=>x
theorem qk{m:Nat}(_:m=n)(a:Array Value):∀k,k<n->k<a.size+(n-a.size):=by intro k h;omega
theorem KY{P:Program}{g:FuncId}(h:dR P g:=by
 refine⟨by kernel_rfl,λargs w=>?_⟩;refine callsD_of_wpS hf rfl λe i f=>?_;apply wpS_seq;apply wpS_region;have a:=qk nt args;have b:=a 0 (by decide);have c:=a 1 (by decide);have d:=a 2 (by decide);simp[wpOpsS,go_sem,recoverD,f,nt,Exit.thenS,b,c,d];refine wpS_cond (t:=false) (by simp[Act.eval,b,c,d]) ?_;simp only[ZY,yAi];refine wpS_of_wp (wp_skip ?_);cases e
 simp_all[bodyPostS,results,rs]):dR P g:=h
theorem BJ{P:Program}{g:FuncId}(h:dR P g:=by
 refine⟨by kernel_rfl,λargs w=>?_⟩;refine callsD_of_wpS hf rfl λf j i=>?_;apply wpS_seq;apply wpS_region;have a:=qk nt args;have b:=a 0 (by decide);have c:=a 1 (by decide);have d:=a 2 (by decide);have e:=a 3 (by decide);simp[wpOpsS,go_sem,recoverD,i,nt,Exit.thenS,b,c,d,e];refine wpS_cond (t:=false) (by simp[Act.eval,b,c,d,e]) ?_;simp only[ZY,yAi];refine wpS_of_wp (wp_skip ?_);cases f
 simp_all[bodyPostS,results,rs]):dR P g:=h
open Go.Proofs
structure Verd where
 kind:Int
 nor:List (Int×Int×Int)
 pair:Int
 left:List Int
 right:List Int
structure Cel where
 joint:Int
 low:Int
 high:Int
 v:Verd
structure Tr where
 root:List (Int×Int)
 cells:List Cel
variable {c:Cel}{t:Tr}
abbrev aW(v:Int×Int×Int):PV:=.val (.agg #[.int .i64 v.1,.int .i64 v.2.1,.int .i64 v.2.2])
abbrev bA(l:List (Int×Int×Int)):PV:=.sl (l.map aW)
abbrev Tw(p:Int)(l r:List Int):PV:=.agg [Z p,zs l,zs r]
abbrev zC(v:Verd):PV:=.agg [Z v.kind,bA v.nor,Z v.pair,zs v.left,zs v.right]
abbrev bD(c:Cel):PV:=.agg [Z c.joint,Z c.low,Z c.high,Z c.v.kind,bA c.v.nor,Z c.v.pair,zs c.v.left,zs c.v.right]
abbrev eo(t:Tr):PV:=.agg [iv t.root,.sl (t.cells.map bD)]
def bC(c:Cel):Bool:=c.joint==-1&&c.low==-1&&c.high==-1
def kg(p:Int)(l r:List Int):Bool:=p==0&&(l.length:Int)==0&&(r.length:Int)==0
def dt(v:Verd):Bool:=if v.kind=0\/v.kind=1 then kg v.pair v.left v.right else if v.kind=2 then((v.nor.length:Int)==0)else false
def oF(v:Verd):Bool:=v.kind==0&&((v.nor.length:Int)==0)&&kg v.pair v.left v.right
theorem Hq(l:List α):((l.length:Int)==0)=decide (l.length=0):=by
 by_cases h:l.length=0
 .simp[h]
 .have:((l.length:Int)==0)=false:=by simp;intro a;exact h (by rw[a];rfl)
  rw[this];simp[h]
theorem X4(c:Cel):aV 172 (bD c) (B (bC c)):=by
 refine Dp func172 λC hP hN=>?_
 with_reducible repeat' (first|refine Sp.h ?_|((first|refine Ss.h ?_|(refine Sb.h ?_ ?_ ?_<;>(try intro hgd)<;>try exact Xy))<;>simp -implicitDefEqProofs [hP,hN])|refine X2 ?_ ?_|(refine Xd ?_ ?_<;>intro hcd<;>try exact Xx))
 all_goals (simp_all[bC])
theorem P3(c:Cel):aV 89 (bD c) (B (bC c)):=by
 refine Dp func89 λC hP hN=>?_
 with_reducible repeat' (first|refine Sp.h ?_|((first|refine Ss.h ?_|(refine Sb.h ?_ ?_ ?_<;>(try intro hgd)<;>try exact Xy))<;>simp -implicitDefEqProofs [hP,hN])|refine X2 ?_ ?_|(refine Xd ?_ ?_<;>intro hcd<;>try exact Xx))
 all_goals (simp_all[bC])
theorem Tx(p:Int)(l r:List Int):aV 231 (Tw p l r) (B (kg p l r)):=by
 refine Dp func231 λC hP hN=>?_
 with_reducible repeat' (first|refine Sp.h ?_|((first|refine Ss.h ?_|(refine Sb.h ?_ ?_ ?_<;>(try intro hgd)<;>try exact Xy))<;>simp -implicitDefEqProofs [hP,hN])|refine X2 ?_ ?_|(refine Xd ?_ ?_<;>intro hcd<;>try exact Xx))
 all_goals (simp_all[kg])
theorem Ty(p:Int)(l r:List Int):aV 165 (Tw p l r) (B (kg p l r)):=by
 refine Dp func165 λC hP hN=>?_
 with_reducible repeat' (first|refine Sp.h ?_|((first|refine Ss.h ?_|(refine Sb.h ?_ ?_ ?_<;>(try intro hgd)<;>try exact Xy))<;>simp -implicitDefEqProofs [hP,hN])|refine X2 ?_ ?_|(refine Xd ?_ ?_<;>intro hcd<;>try exact Xx))
 all_goals (simp_all[kg])
theorem X5(v:Verd):aV 173 (zC v) (B (dt v)):=by
 have a:=Tx v.pair v.left v.right;have b:=Hq v.nor;generalize c:kg v.pair v.left v.right=E at a;refine Dp func173 λC hP hN=>?_
 with_reducible repeat' (first|refine Sp.h ?_|((first|refine Ss.h ?_|refine Sc.h (a) ?_|(refine Sb.h ?_ ?_ ?_<;>(try intro hgd)<;>try exact Xy))<;>simp -implicitDefEqProofs [hP,hN])|refine X2 ?_ ?_|(refine Xd ?_ ?_<;>intro hcd<;>try exact Xx))
 all_goals (simp_all[dt])
theorem Vo(v:Verd):aV 91 (zC v) (B (dt v)):=by
 have a:=Ty v.pair v.left v.right;have b:=Hq v.nor;generalize c:kg v.pair v.left v.right=E at a;refine Dp func91 λC hP hN=>?_
 with_reducible repeat' (first|refine Sp.h ?_|((first|refine Ss.h ?_|refine Sc.h (a) ?_|(refine Sb.h ?_ ?_ ?_<;>(try intro hgd)<;>try exact Xy))<;>simp -implicitDefEqProofs [hP,hN])|refine X2 ?_ ?_|(refine Xd ?_ ?_<;>intro hcd<;>try exact Xx))
 all_goals (simp_all[dt])
theorem X6(v:Verd):aV 190 (zC v) (B (oF v)):=by
 have a:=Tx v.pair v.left v.right;generalize b:kg v.pair v.left v.right=E at a;refine Dp func190 λC hP hN=>?_
 with_reducible repeat' (first|refine Sp.h ?_|((first|refine Ss.h ?_|refine Sc.h (a) ?_|(refine Sb.h ?_ ?_ ?_<;>(try intro hgd)<;>try exact Xy))<;>simp -implicitDefEqProofs [hP,hN])|refine X2 ?_ ?_|(refine Xd ?_ ?_<;>intro hcd<;>try exact Xx))
 all_goals (simp_all[oF])
theorem X7(v:Verd):aV 131 (zC v) (B (oF v)):=by
 have a:=Ty v.pair v.left v.right;generalize b:kg v.pair v.left v.right=E at a;refine Dp func131 λC hP hN=>?_
 with_reducible repeat' (first|refine Sp.h ?_|((first|refine Ss.h ?_|refine Sc.h (a) ?_|(refine Sb.h ?_ ?_ ?_<;>(try intro hgd)<;>try exact Xy))<;>simp -implicitDefEqProofs [hP,hN])|refine X2 ?_ ?_|(refine Xd ?_ ?_<;>intro hcd<;>try exact Xx))
 all_goals (simp_all[oF])
def dQ(r:List (Int×Int)):Bool:=decide (1<=r.length)&&decide (r.length<=10)&&au vI r
theorem X8(r:List (Int×Int)):aV 189 (iv r) (B (dQ r)):=by
 by_cases k:r.length<1
 .have g:dQ r=false:=by simp[dQ];omega
  have b:(r.length:Int)<1:=by omega
  rw[g];refine Dp func189 λC hP hN=>?_;exact GS (gA b k)
 have b:¬(r.length:Int)<1:=by omega
 by_cases l:10<r.length
 .have g:dQ r=false:=by simp[dQ];omega
  have c:(10:Int)<r.length:=by omega
  rw[g];refine Dp func189 λC hP hN=>?_;exact GS (go b k l c)
 have c:¬(10:Int)<r.length:=by omega
 have g:dQ r=au vI r:=by
  unfold dQ
  have o:decide (1<=r.length)=true:=by simp;omega
  have p:decide (r.length<=10)=true:=by simp;omega
  rw[o,p];simp
 rw[g];refine Dp func189 λC hP hN=>?_;refine GT (go b k l c) ?_;refine WP.loopN [4] r.length (λi j=>j.t 13=.pv (iv r)/\j.t 14=.pv (Z r.length)/\j.t 15=.pv (Z i)/\j.h 4=none/\au vI (r.take i)=true) (by simp[au]) ?_;rintro i j hi ⟨d,e,f,n,hq⟩;by_cases a:i<r.length
 .have q:=ai a (by omega)
  have m:vI r[i]=false->au vI r=false:=pO a;have hS:vI r[i]=true->au vI (r.take (i+1))=true:=oQ a hq
  with_reducible repeat' (first|refine Sp.h ?_|((first|refine Ss.h ?_|refine Sc.h (jI _ _) ?_|(refine Sb.h ?_ ?_ ?_<;>(try intro hgd)<;>try exact Xy))<;>simp -implicitDefEqProofs [hP,hN,d,e,f,n,a,q])|refine X2 ?_ ?_|(refine Xd ?_ ?_<;>intro hcd<;>try exact Xx))
  all_goals first|(rw[m (by simpa using hcd)];done)|(simp[m (by simpa using hcd)];done)|(simpa using hS (by simpa using hcd))
 .skip
  refine GT (it d e f n a) ?_
  all_goals simp[oR a hq]
theorem bE{p:α->Bool}{xs:List α}:au p xs=true↔∀x∈xs,p x=true:=IV
abbrev Bx:=List (Int×Int)
variable {b:Bx}{y:Option Bx}
abbrev OL:=List (Option Bx)
variable {L L':OL}
def qp:Option Bx->PV
 |none=>.val (.slice none 0 0)
 |some b=>iv b
def i7(n i:Nat)(c:Cel):Bool:=decide ((i:Int)<c.low)&&decide (c.low<n)&&decide ((i:Int)<c.high)&&decide (c.high<n)&&decide (c.low≠c.high)&&oF c.v
def fD(n i:Nat)(c:Cel)(L:OL):Option OL:=
 match L[i]? with
 |some (some b)=>
  if bC c then(if dt c.v then some L else none)
  else if i7 n i c then
   if aY b c.joint then
    match L[c.low.toNat]?,L[c.high.toNat]? with
    |some none,some none=>some ((L.set c.low.toNat (some (br b c.joint))).set c.high.toNat (some (bv b c.joint)))
    |_,_=>none
   else none
  else none
 |_=>none
def mb(n:Nat):List Cel->Nat->OL->Option OL
 |[],_,L=>some L
 |c::a,i,L=>match fD n i c L with
  |some L'=>mb n a (i+1) L'
  |none=>none
def fE(t:Tr):OL:=some t.root::List.replicate (t.cells.length-1) none
def gi(t:Tr):Bool:=decide (1<=t.cells.length)&&decide (t.cells.length<=2048)&&dQ t.root
def cy(t:Tr):Option OL:=if gi t then mb t.cells.length t.cells 0 (fE t)else none
def am(t:Tr):Bool:=(cy t).isSome
def af(t:Tr):List Bx:=match cy t with
 |some L=>L.map λx=>x.getD []
 |none=>[]
theorem eX(h:fD n i c L=some L'):∃b,L[i]?=some (some b)/\
 ((bC c=true/\dt c.v=true/\L'=L)\/
  (bC c=false/\i7 n i c=true/\aY b c.joint=true/\L[c.low.toNat]?=some none/\L[c.high.toNat]?=some none/\
    L'=(L.set c.low.toNat (some (br b c.joint))).set c.high.toNat (some (bv b c.joint)))):=by
 unfold fD at h;split at h
 .rename_i b f
  refine⟨b,f,?_⟩;split at h
  .rename_i a
   split at h
   .rename_i hf
    injection h with h;exact .inl ⟨a,hf,h.symm⟩
   .cases h
  .rename_i a
   split at h
   .rename_i hi
    split at h
    .rename_i g
     split at h
     .rename_i d e
      injection h with h;exact .inr ⟨by simpa using a,hi,g,d,e,h.symm⟩
     .cases h
    .cases h
   .cases h
 .cases h
theorem dL:i7 n i c=true↔(i:Int)<c.low/\c.low<n/\(i:Int)<c.high/\c.high<n/\c.low≠c.high/\oF c.v=true:=by
 simp[i7,and_assoc]
theorem Hr{n:Nat}{P:Nat->OL->Prop}:∀(cs:List Cel)(i:Nat)(L L':OL),mb n cs i L=some L'->P i L->
 (∀k c L L',cs[k]?=some c->P (i+k) L->fD n (i+k) c L=some L'->P (i+k+1) L')->P (i+cs.length) L'
 |[],i,L,L',h,a,_=>by simp[mb]at h;subst h;exact a
 |c::cs,i,L,L',h,a,g=>by
  simp only[mb]at h;split at h
  .rename_i b l
   have m:=g 0 c L b rfl a l
   have:=Hr cs (i+1) b L' h m (λk d M j o hp f=>by
    have e:i+1+k=i+(k+1):=by omega
    rw[e]at hp f|-
    exact g (k+1) d M j (by simpa using o) hp f)
   have e:i+(c::cs).length=i+1+cs.length:=by simp;omega
   rw[e];exact this
  .cases h
theorem iM{P:Nat->OL->Prop}(h:cy t=some L)(d:P 0 (fE t))
 (hs:∀i c L L',t.cells[i]?=some c->P i L->fD t.cells.length i c L=some L'->P (i+1) L'):P t.cells.length L:=by
 unfold cy at h;split at h
 .have:=Hr t.cells 0 _ _ h d (λk c M b e hp a=>by
   rw[yA2]at hp a|-;exact hs k c M b e hp a)
  simpa using this
 .cases h
theorem gX(h:cy t=some L):gi t=true:=by
 unfold cy at h;split at h
 .assumption
 .cases h
theorem ba:gi t=true↔1<=t.cells.length/\t.cells.length<=2048/\1<=t.root.length/\t.root.length<=10/\au vI t.root=true:=by
 simp[gi,dQ,and_assoc]
structure BOk(t:Tr)(i:Nat)(L:OL):Prop where
 len:L.length=t.cells.length
 pre:∀j,j<i->∃b,L[j]?=some (some b)
 ok:∀(j:Nat) b,L[j]?=some (some b)->b.length=t.root.length/\au vI b=true
theorem ET{j:Int}(h:aY b j=true):(br b j).length=b.length/\(bv b j).length=b.length:=by
 unfold br bv;rw[h];simp only[yAn];unfold aY at h;split<;>simp_all
theorem bH{lo hi:Int}:al lo hi=true↔-2147483648<=lo/\lo<=hi/\hi<=2147483648:=by
 simp[al,and_assoc]
theorem DT{x:Int×Int}(h:al x.1 x.2=true):f7 x=(x.1+x.2)/2:=by
 unfold f7;have a:=bH.1 h;rw[h,yAb rfl,show wr (x.1+x.2)=x.1+x.2 from aa (by omega) (by omega),Int.fdiv_eq_ediv];simp
theorem kG{j:Int}:aY b j=true↔0<=j/\au vI b=true/\∃x,b[j.toNat]?=some x/\2<=x.2-x.1:=by
 unfold aY;constructor
 .intro h
  simp only[An,Is]at h;obtain⟨⟨e,a⟩,d⟩:=h;refine⟨e,a,?_⟩;split at d
  .rename_i x c
   refine⟨x,c,?_⟩;have f:=bH.1 (bE.1 a _ (In c));rw[Is,dG,yAb (bE.1 a _ (In c)),show wr (x.2-x.1)=x.2-x.1 from aa (by omega) (by omega)]at d;exact d
  .cases d
 .rintro⟨e,a,x,c,d⟩
  have f:=bH.1 (bE.1 a _ (In c))
  have g:dG x=x.2-x.1:=by
   rw[dG,yAb (bE.1 a _ (In c))];exact aa (by omega) (by omega)
  simp[e,a,c,g,d]
theorem ny{j:Int}(h:aY b j=true):∃x,b[j.toNat]?=some x/\al x.1 x.2=true/\2<=x.2-x.1/\br b j=b.set j.toNat (x.1,(x.1+x.2)/2)/\bv b j=b.set j.toNat ((x.1+x.2)/2,x.2):=by
 obtain⟨_,d,x,a,e⟩:=kG.1 h;have c:al x.1 x.2=true:=bE.1 d _ (In a);refine⟨x,a,c,e,?_,?_⟩
 .simp[br,h,a,DT c]
 .simp[bv,h,a,DT c]
theorem k9{j:Int}(h:aY b j=true):au vI (br b j)=true/\au vI (bv b j)=true:=by
 obtain⟨x,k,f,i,d,e⟩:=ny h;have a:=(kG.1 h).2.1;have g:=bH.1 f;rw[d,e];constructor<;>refine bE.2 λy c=>?_
 .rcases yAR c with h|rfl
  .exact bE.1 a _ h
  .exact bH.2 ⟨by omega,by simp only;omega,by simp only;omega⟩
 .rcases yAR c with h|rfl
  .exact bE.1 a _ h
  .exact bH.2 ⟨by simp only;omega,by simp only;omega,by omega⟩
theorem me(h:gi t=true):BOk t 0 (fE t):=by
 obtain⟨d,e,f,g,c⟩:=ba.1 h;refine⟨by simp[fE];omega,λj i=>by omega,λj b a=>?_⟩
 cases j with
 |zero=>simp[fE]at a;subst a;exact⟨rfl,c⟩
 |succ j=>simp[fE,yAx]at a
theorem Hs{z:Nat}{x:Option Bx}(e:a≠z)(d:a<L.length)(f:z<L.length):((L.set a x).set z y)[j]?=if j=z then some y else if j=a then some x else L[j]?:=by
 rw[yAe];by_cases b:z=j
 .subst b;simp[f]
 .rw[L4 b,L4 (λh=>b h.symm),yAe]
  by_cases c:a=j
  .subst c;simp[d]
  .rw[L4 c,L4 (λh=>c h.symm)]
theorem i8{x:Option Bx}(g:L.length=t.cells.length)(hi:i7 t.cells.length i c=true):((L.set c.low.toNat x).set c.high.toNat y)[j]?=if j=c.high.toNat then some y else if j=c.low.toNat then some x else L[j]?:=by
 obtain⟨a,b,d,e,f,_⟩:=dL.1 hi;exact Hs (by omega) (by omega) (by omega)
theorem mf(h:BOk t i L)(hs:fD t.cells.length i c L=some L'):BOk t (i+1) L':=by
 obtain⟨b,g,⟨_,_,rfl⟩|⟨_,hi,f,m,k,rfl⟩⟩:=eX hs
 .refine⟨h.len,λj l=>?_,h.ok⟩
  by_cases e:j=i
  .subst e;exact⟨b,g⟩
  .exact h.pre j (by omega)
 .have a:=h.ok i b g
  refine⟨by simpa using h.len,λj l=>?_,λj d hd=>?_⟩
  .rw[i8 h.len hi]
   split
   .exact⟨_,rfl⟩
   .split
    .exact⟨_,rfl⟩
    .by_cases e:j=i
     .subst e;exact⟨b,g⟩
     .exact h.pre j (by omega)
  .rw[i8 h.len hi]at hd
   split at hd
   .injection hd with hd;injection hd with hd;subst hd
    exact⟨by rw[(ET f).2];exact a.1,(k9 f).2⟩
   .split at hd
    .injection hd with hd;injection hd with hd;subst hd
     exact⟨by rw[(ET f).1];exact a.1,(k9 f).1⟩
    .exact h.ok j d hd
structure BInv(t:Tr)(i:Nat)(L:OL):Prop where
 bok:BOk t i L
 run:mb t.cells.length (t.cells.drop i) i L=cy t
theorem ye(h:gi t=true):BInv t 0 (fE t):=⟨me h,by simp[cy,h]⟩
theorem qa(h:BInv t i L)(a:i<t.cells.length)(hs:fD t.cells.length i t.cells[i] L=some L'):BInv t (i+1) L':=by
 refine⟨mf h.bok hs,?_⟩;rw[<-h.run,yCm a];simp only[mb,hs]
theorem yf(h:BInv t i L)(a:i<t.cells.length)(hs:fD t.cells.length i t.cells[i] L=none):cy t=none:=by
 rw[<-h.run,yCm a];simp only[mb,hs]
theorem yg(h:BInv t i L)(a:¬i<t.cells.length):cy t=some L:=by
 rw[<-h.run,yB2 (by omega)];rfl
theorem nP(h:cy t=some L):BOk t t.cells.length L:=
 iM h (me (gX h)) (λ_ _ _ _ _ hp a=>mf hp a)
theorem jF(h:cy t=some L):L=(af t).map some:=by
 have ok:=nP h;rw[af,h];simp only[List.map_map];apply yAK;intro j;by_cases c:j<L.length
 .obtain⟨b,a⟩:=ok.pre j (by rw[<-ok.len];exact c)
  simp[a]
 .simp[yAf (by omega:L.length<=j)]
theorem A3(h:cy t=some L):L.map qp=(af t).map iv:=by
 rw[jF h];simp[qp,Function.comp_def]
theorem ef(h:am t=true):(af t).length=t.cells.length:=by
 obtain⟨L,hL⟩:=yAy.1 h;have:=(nP hL).len;rw[jF hL]at this;simpa using this
theorem iN(a:(af t)[j]?=some b):b.length=t.root.length/\au vI b=true:=by
 cases hL:cy t with
 |none=>simp[af,hL]at a
 |some L=>
  have:=(nP hL).ok j b;rw[jF hL]at this;exact this (by simp[a])
theorem bP(h:am t=true):gi t=true:=by
 obtain⟨L,hL⟩:=yAy.1 h;exact gX hL
theorem tu(h:cy t=none):am t=false/\af t=[]:=by simp[am,af,h]
theorem iO{t:Tr}(a:L[i]?=some (some b))(d:bC c=true):fD n i c L=if dt c.v then some L else none:=by
 simp[fD,a,d]
theorem oG(d:L[i]?=some (some b))(f:bC c=false)(hi:i7 n i c=true)(e:aY b c.joint=true)(h1:L[c.low.toNat]?=some none)(a:L[c.high.toNat]?=some none):fD n i c L=some ((L.set c.low.toNat (some (br b c.joint))).set c.high.toNat (some (bv b c.joint))):=by
 simp[fD,d,f,hi,e,h1,a]
theorem mg(e:L[i]?=some (some b))(g:bC c=false)(h:i7 n i c=false\/aY b c.joint=false\/(∃d,L[c.low.toNat]?=some (some d))\/(∃d,L[c.high.toNat]?=some (some d))):fD n i c L=none:=by
 unfold fD;rw[e];simp only[g,ZY,yAi];split
 .rename_i hi
  split
  .rename_i f
   rcases h with h|h|⟨d,h⟩|⟨d,h⟩
   .rw[hi]at h;cases h
   .rw[f]at h;cases h
   .rw[h]
   .rw[h];split
    .rename_i j a;cases a
    .rfl
  .rfl
 .rfl
def bi:Verd:=⟨0,[],0,[],[]⟩
def bn(v:Verd):Cel:=⟨-1,-1,-1,v⟩
theorem Ht(h:bC c=true):c=bn c.v:=by
 cases c;simp[bC]at h;simp[bn,h]
theorem gY(v:Verd):bC (bn v)=true:=by simp[bC,bn]
theorem CJ:oF bi=true:=by simp[oF,bi,kg]
theorem CK:dt bi=true:=by simp[dt,bi,kg]
theorem kH(h:fD n i c L=some L')(g:L[j]?=some (some b)):L'[j]?=some (some b):=by
 obtain⟨d,hd,⟨_,_,rfl⟩|⟨_,hi,m,f,a,rfl⟩⟩:=eX h
 .exact g
 .have k:c.low.toNat≠j:=by intro e;rw[e,g]at f;cases f
  have l:c.high.toNat≠j:=by intro e;rw[e,g]at a;cases a
  rw[yAe,L4 l,yAe,L4 k];exact g
theorem EU{k:Nat}{S:OL}(B:L.length=n)(A:S.length=k)(h:fD n i c L=some L'):fD (n+k) i c (L++S)=some (L'++S):=by
 obtain⟨d,hd,⟨f,v,rfl⟩|⟨f,hi,x,e,b,rfl⟩⟩:=eX h
 .have a:i<L'.length:=(th.1 hd).1
  have:(L'++S)[i]?=some (some d):=by rw[ZX a];exact hd
  simp[fD,this,f,v]
 .have a:i<L.length:=(th.1 hd).1
  have j:c.low.toNat<L.length:=(th.1 e).1;have l:c.high.toNat<L.length:=(th.1 b).1
  have r:(L++S)[i]?=some (some d):=by rw[ZX a];exact hd
  have s:(L++S)[c.low.toNat]?=some none:=by rw[ZX j];exact e
  have u:(L++S)[c.high.toNat]?=some none:=by rw[ZX l];exact b
  have g:i7 (n+k) i c=true:=by
   obtain⟨m,y,o,z,p,q⟩:=dL.1 hi;exact dL.2 ⟨m,by omega,o,by omega,p,q⟩
  rw[oG r f g x s u,List.set_append_left _ _ j,List.set_append_left _ _ (by simpa using l)]
def fv(t:Tr)(i:Nat)(j:Int)(v:Verd):Tr:=⟨t.root,t.cells.set i ⟨j,t.cells.length,t.cells.length+1,bi⟩++[bn v,bn v]⟩
theorem kI(t:Tr)(i:Nat)(j:Int)(v:Verd):(fv t i j v).cells.length=t.cells.length+2:=by simp[fv]
theorem nQ{cs:List Cel}(a:cs[i]?=some c)(h:fD n i c L=some L'):mb n (cs.drop i) i L=mb n (cs.drop (i+1)) (i+1) L':=by
 obtain⟨b,a⟩:=th.1 a;rw[yCm b,a];simp only[mb,h]
theorem EV(h:cy t=some L)(g:t.cells[i]?=some c)(l:bC c=true):dt c.v=true:=by
 have hp:=iM (P:=λk _=>i<k->dt c.v=true) h (by intro h;omega) (λk d M n a hp m hi=>by
  by_cases e:k=i
  .subst e
   rw[g]at a;injection a with a;subst a;obtain⟨b,o,⟨_,j,_⟩|⟨f,_⟩⟩:=eX m
   .exact j
   .rw[l]at f;cases f
  .exact hp (by omega))
 exact hp (th.1 g).1
theorem Al(h:cy t=some L){j:Int}(C:t.cells[i]?=some c)(G:bC c=true)(hn:t.cells.length+2<=2048)(I:L[i]?=some (some b))(J:aY b j=true):
 cy (fv t i j c.v)=some (L++[some (br b j),some (bv b j)]):=by
 have u:=gX h;obtain⟨N,O,Q,R,K⟩:=ba.1 u;have f:i<t.cells.length:=(th.1 C).1;have n:=kI t i j c.v;have hf:=EV h C G;generalize x:fv t i j c.v=T at *
 have g:T.root=t.root:=by rw[<-x];rfl
 have r:∀k,k≠i->k<t.cells.length->T.cells[k]?=t.cells[k]?:=by
  intro k l E;rw[<-x];simp only[fv];rw[ZX (by simpa using E),yAe,L4 (λe=>l e.symm)]
 have A:T.cells[i]?=some ⟨j,t.cells.length,t.cells.length+1,bi⟩:=by
  rw[<-x];simp only[fv];rw[ZX (by simpa using f),yAe,yAb rfl,yAb f]
 have B:gi T=true:=ba.2 ⟨by omega,by omega,by rw[g];omega,by rw[g];omega,by rw[g];exact K⟩
 have hP:=iM (P:=λk M=>BOk t k M/\if k<=i then mb (t.cells.length+2) (T.cells.drop k) k (M++[none,none])=cy T
  else∃d,M[i]?=some (some d)/\(aY d j=true->mb (t.cells.length+2) (T.cells.drop k) k (M++[some (br d j),some (bv d j)])=cy T)) h (by
  refine⟨me u,?_⟩;simp only[yAT,yAn];rw[cy,yAb B,n,yCh]
  congr 1
  simp only[fE,g,n,List.cons_append]
  rw[show t.cells.length+2-1=(t.cells.length-1)+2 by omega,<-List.replicate_append_replicate];rfl) (by
  intro k e M y l hp s;obtain⟨a,hp⟩:=hp;refine⟨mf a s,?_⟩;have m:k<t.cells.length:=(th.1 l).1;rcases yBG k i with p|p|p
  .rw[yAb (by omega)]at hp|-
   rw[<-hp];exact(nQ (by rw[r k (by omega) m];exact l) (EU (k:=2) (S:=[none,none]) a.len rfl s)).symm
  .subst p
   rw[C]at l;injection l with l;subst l;rw[yAb (yAd _)]at hp;rw[L4 (by omega)];obtain⟨d,hd,⟨_,_,rfl⟩|⟨F,_⟩⟩:=eX s
   .refine⟨d,hd,λq=>?_⟩
    rw[<-hp];refine(nQ A ?_).symm
    have z:(y++[none,none])[k]?=some (some d):=by rw[ZX (by rw[a.len];exact f)];exact hd
    have D:i7 (t.cells.length+2) k ⟨j,t.cells.length,t.cells.length+1,bi⟩=true:=dL.2 ⟨by simp only;omega,by simp only;omega,by simp only;omega,by simp only;omega,by simp only;omega,CJ⟩
    have t1:((t.cells.length:Int)).toNat=y.length:=by rw[a.len];omega
    have t2:((t.cells.length:Int)+1).toNat=y.length+1:=by rw[a.len];omega
    rw[oG z (by simp[bC]) D q (by simp only;rw[t1];simp) (by simp only;rw[t2];simp)];simp only[t1,t2]
    congr 1
    rw[yBq _ _ (by omega),yBq _ _ (by omega)];simp
   .rw[G]at F;cases F
  .rw[L4 (by omega)]at hp|-
   obtain⟨d,hd,hp⟩:=hp;refine⟨d,kH s hd,λq=>?_⟩;rw[<-hp q]
   exact(nQ (by rw[r k (by omega) m];exact l) (EU (k:=2) (S:=[some (br d j),some (bv d j)]) a.len rfl s)).symm)
 obtain⟨a,hP⟩:=hP;rw[L4 (by omega)]at hP;obtain⟨d,hd,hP⟩:=hP;rw[I]at hd;injection hd with hd;injection hd with hd;subst hd;rw[<-hP J]
 have o:T.cells.drop t.cells.length=[bn c.v,bn c.v]:=by
  rw[<-x];simp only[fv];rw[List.drop_append_of_le_length (by simp),yB2 (by simp)];rfl
 rw[o]
 have z:(L++[some (br b j),some (bv b j)])[t.cells.length]?=some (some (br b j)):=by rw[<-a.len];simp
 have H:(L++[some (br b j),some (bv b j)])[t.cells.length+1]?=some (some (bv b j)):=by rw[<-a.len];simp
 simp only[mb];rw[iO (t:=t) z (gY _),yAb (show dt (bn c.v).v=true from hf)];simp only;rw[iO (t:=t) H (gY _),yAb (show dt (bn c.v).v=true from hf)]
def dS(t:Tr)(i:Nat)(v:Verd):Tr:=⟨t.root,t.cells.set i (bn v)⟩
theorem Hu(h:cy t=some L){v:Verd}(p:t.cells[i]?=some c)(r:bC c=true)(hf:dt v=true):cy (dS t i v)=some L:=by
 have n:=gX h;have f:i<t.cells.length:=(th.1 p).1
 have b:(dS t i v).cells.length=t.cells.length:=by simp[dS]
 generalize l:dS t i v=T at *
 have a:T.root=t.root:=by rw[<-l];rfl
 have m:gi T=true:=by
  obtain⟨x,y,z,A,s⟩:=ba.1 n;exact ba.2 ⟨by omega,by omega,by rw[a];omega,by rw[a];omega,by rw[a];exact s⟩
 have hP:=iM (P:=λk M=>mb t.cells.length (T.cells.drop k) k M=cy T) h (by
  rw[cy,yAb m,b,yCh]
  congr 1
  simp only[fE,a,b]) (by
  intro k e M u g hp q;rw[<-hp];by_cases j:k=i
  .subst j
   rw[p]at g;injection g with g;subst g;obtain⟨d,hd,⟨_,_,rfl⟩|⟨o,_⟩⟩:=eX q
   .refine(nQ (c:=bn v) (by rw[<-l];simp[dS,f]) ?_).symm
    rw[iO (t:=t) hd (gY _),yAb (show dt (bn v).v=true from hf)]
   .rw[r]at o;cases o
  .refine(nQ ?_ q).symm
   rw[<-l];simp only[dS]
   rw[yAe,L4 (λe=>j e.symm)];exact g)
 rw[<-hP,yB2 (by omega)];rfl
def bd(t:Tr)(i:Nat):Bool:=match t.cells[i]? with
 |some c=>bC c
 |none=>false
def cG(t:Tr)(i j:Int):Bool:=am t&&decide (0<=i)&&decide (i<t.cells.length)&&bd t i.toNat&&decide (t.cells.length+2<=2048)&&aY ((af t)[i.toNat]?.getD []) j
def er(t:Tr)(i:Nat):Verd:=match t.cells[i]? with
 |some c=>c.v
 |none=>bi
def bh(t:Tr)(i j:Int):Tr:=if cG t i j then fv t i.toNat j (er t i.toNat)else t
def di(t:Tr)(i:Int)(v:Verd):Bool:=am t&&decide (0<=i)&&decide (i<t.cells.length)&&bd t i.toNat&&decide ((er t i.toNat).kind=0)&&dt v
def dT(t:Tr)(i:Int)(v:Verd):Tr:=if di t i v then dS t i.toNat v else t
theorem yh(h:bd t i=true):∃c,t.cells[i]?=some c/\bC c=true/\er t i=c.v:=by
 unfold bd at h;split at h
 .rename_i c a
  exact⟨c,a,h,by simp[er,a]⟩
 .cases h
theorem Am(h:am t=true)(i j:Int):am (bh t i j)=true/\(bh t i j).root=t.root/\(bh t i j).cells.length<=t.cells.length+2:=by
 unfold bh;split
 .rename_i g
  simp only[cG,An,Is]at g;obtain⟨⟨⟨⟨⟨p,q⟩,r⟩,k⟩,l⟩,f⟩:=g;obtain⟨L,hL⟩:=yAy.1 h;obtain⟨c,m,n,o⟩:=yh k
  have e:i.toNat<t.cells.length:=by omega
  obtain⟨b,a⟩:=(nP hL).pre i.toNat e
  have d:(af t)[i.toNat]?=some b:=by
   have:=jF hL;rw[this]at a;simpa using a
  rw[d]at f;have:=Al hL m n l a f;rw[o];exact⟨by rw[am,this];rfl,rfl,by rw[kI];exact yAd _⟩
 .exact⟨h,rfl,by omega⟩
theorem yi(h:am t=true)(i:Int)(v:Verd):am (dT t i v)=true/\(dT t i v).root=t.root/\(dT t i v).cells.length=t.cells.length/\af (dT t i v)=af t:=by
 unfold dT;split
 .rename_i a
  simp only[di,An,Is]at a;obtain⟨⟨⟨⟨⟨g,j⟩,k⟩,b⟩,l⟩,d⟩:=a;obtain⟨L,hL⟩:=yAy.1 h;obtain⟨c,e,f,m⟩:=yh b;have:=Hu hL e f d;exact⟨by rw[am,this];rfl,rfl,by simp[dS],by simp[af,this,hL]⟩
 .exact⟨h,rfl,rfl,rfl⟩
def mX(k:Int):Verd:=if k=1\/k=2 then⟨2,[],0,[1],[1]⟩else if k=3 then⟨1,[(1,0,0)],0,[],[]⟩else bi
def gP(r:List (Int×Int)):Tr:=if dQ r then⟨r,[bn bi]⟩else⟨[],[]⟩
theorem MA(h:dQ r=true):cy ⟨r,[bn bi]⟩=some [some r]:=by
 have a:gi ⟨r,[bn bi]⟩=true:=by simp[gi,h]
 rw[cy,yAb a];simp only[fE,yA1,yBO,List.replicate,mb];rw[iO (t:=⟨r,[]⟩) (b:=r) rfl (gY _),yAb (show dt (bn bi).v=true from CK)]
theorem Q9(h:dQ r=false):cy ⟨r,[bn bi]⟩=none:=by
 have a:gi ⟨r,[bn bi]⟩=false:=by simp[gi,h]
 rw[cy,L4 (by simp[a])]
theorem yj(r:List (Int×Int)):am ⟨r,[bn bi]⟩=dQ r:=by
 cases h:dQ r with
 |true=>rw[am,MA h];rfl
 |false=>rw[am,Q9 h];rfl
def tv(l:List Int)(m:Nat):Int:=nx l m 5
def uL(l:List Int)(m:Nat)(x:Int×Int):Int:=if tv l m=0 then x.1 else if tv l m=1 then x.2 else if tv l m=2 then f7 x else x.1+nx l (nn l m) (x.2-x.1+1)
def yk(l:List Int)(m:Nat):Nat:=if tv l m=0 then nn l m else if tv l m=1 then nn l m else if tv l m=2 then nn l m else nn l (nn l m)
def gq(l:List Int):Nat->Nat
 |0=>0
 |i+1=>yk l (gq l i)
theorem Tz(l:List Int)(i:Nat):gq l i<=2*i:=by
 induction i with
 |zero=>simp[gq]
 |succ i ih=>
  have a:=aP l (gq l i);have b:=aP l (nn l (gq l i));simp only[gq,yk]
  repeat' split
  all_goals omega
def oM(b:List (Int×Int))(l:List Int):List Int:=b.mapIdx λi x=>uL l (gq l i) x
theorem rm(b:List (Int×Int))(l:List Int):(oM b l).length=b.length:=by simp[oM]
theorem OY{b:List (Int×Int)}(a:i<b.length):((oM b l).map Z).take i++[Z (uL l (gq l i) b[i])]=((oM b l).map Z).take (i+1):=by
 rw[yAP (by simpa[oM]using a)];simp[oM]
theorem Ra{m:Nat}{x:Int×Int}(h:al x.1 x.2=true):x.1<=uL l m x/\uL l m x<=x.2:=by
 have c:=bH.1 h;have b:=DT h;have a:=ar l (nn l m) (k:=x.2-x.1+1) (by omega) (by omega);unfold uL
 repeat' split
 all_goals omega
theorem Rb{b:List (Int×Int)}(h:au vI b=true)(hi:i<b.length):b[i].1<=(oM b l)[i]'(by rw[rm];exact hi)/\(oM b l)[i]'(by rw[rm];exact hi)<=b[i].2:=by
 simp only[oM,List.getElem_mapIdx];exact Ra (bE.1 h _ (yAq hi))
theorem A4{β:Type}{f:α->β->Bool}{xs:List α}{ys:List β}:ew f xs ys=true↔∀(i:Nat) x y,xs[i]?=some x->ys[i]?=some y->f x y=true:=by
 unfold ew;rw[IV];constructor
 .intro h i x y a b
  have:(List.zipWith f xs ys)[i]?=some (f x y):=by simp[List.getElem?_zipWith,a,b]
  exact h _ (In this)
 .intro h z c
  obtain⟨i,hi⟩:=yAD c;rw[List.getElem?_zipWith]at hi
  cases a:xs[i]? with
  |none=>simp[a]at hi
  |some x=>
   cases b:ys[i]? with
   |none=>simp[a,b]at hi
   |some y=>
    simp[a,b]at hi;rw[<-hi];exact h i x y a b
theorem dU{c:List Int}(g:au vI b=true):aR b c=true↔b.length=c.length/\∀(i:Nat) x y,b[i]?=some x->c[i]?=some y->x.1<=y/\y<=x.2:=by
 simp only[aR,An,Is,A4];constructor
 .rintro⟨f,d⟩
  refine⟨f,λi x y a e=>?_⟩;have:=d i x y a e;simp only[mJ,An,Is]at this;exact⟨this.1.2,this.2⟩
 .rintro⟨f,d⟩
  refine⟨f,λi x y a e=>?_⟩;simp only[mJ,An,Is];exact⟨⟨bE.1 g _ (In a),(d i x y a e).1⟩,(d i x y a e).2⟩
theorem nR{a:Bx}(g:au vI a=true)(j:au vI b=true):dH a b=true↔a.length=b.length/\∀(i:Nat) x y,a[i]?=some x->b[i]?=some y->x.1<=y.2/\y.1<=x.2:=by
 simp only[dH,An,Is,A4];constructor
 .rintro⟨e,f⟩
  refine⟨e,λi x y c d=>?_⟩;have:=f i x y c d;simp only[ig,An,Is]at this;omega
 .rintro⟨e,f⟩
  refine⟨e,λi x y c d=>?_⟩;have vx:al x.1 x.2=true:=bE.1 g _ (In c);have vy:al y.1 y.2=true:=bE.1 j _ (In d);simp only[ig,vx,vy,An,Is,true_and];have:=f i x y c d;have:=bH.1 vx;have:=bH.1 vy;omega
theorem Jb{c:List Int}(h:aR b c=true){y:Int}(a:c[i]?=some y):-2147483648<=y/\y<=2147483648:=by
 simp only[aR,An,Is,A4]at h;obtain⟨f,d⟩:=h;have e:=(th.1 a).1;have:=d i (b[i]'(by omega)) y (an _) a;simp only[mJ,An,Is]at this;have:=bH.1 this.1.1;omega
theorem TA(a:au vI b=true):aR b (oM b l)=true:=by
 refine(dU a).2 ⟨(rm b l).symm,λi x y d e=>?_⟩;obtain⟨hi,rfl⟩:=th.1 d;obtain⟨c,rfl⟩:=th.1 e;exact Rb a hi
def ao(t:Tr)(c:Int):Bx:=(af t)[c.toNat]?.getD []
theorem dF(b:am t=true){c:Int}(h:c.toNat<t.cells.length):(af t)[c.toNat]?=some (ao t c)/\(ao t c).length=t.root.length/\au vI (ao t c)=true:=by
 have a:c.toNat<(af t).length:=by rw[ef b];exact h
 have e:(af t)[c.toNat]?=some (ao t c):=by simp[ao,an a]
 exact⟨e,iN e⟩
def Hw(t:Tr)(chain:List Int)(j:Nat):Bool:=match chain[j]? with
 |some c=>decide (0<=c)&&decide (c<t.cells.length)&&bd t c.toNat&& !((chain.take j).contains c)&&(decide (j=0)||dH (ao t (chain[j-1]?.getD 0)) (ao t c))
 |none=>false
theorem Kt{chain:List Int}{c:Int}(a:chain[j]?=some c):Hw t chain j=true↔0<=c/\c<t.cells.length/\bd t c.toNat=true/\c∉chain.take j/\(j=0\/dH (ao t (chain[j-1]?.getD 0)) (ao t c)=true):=by
 simp[Hw,a,and_assoc]
structure ChOk(t:Tr)(chain p q:List Int):Prop where
 valid:am t=true
 hp:aR t.root p=true
 hq:aR t.root q=true
 ne:chain≠[]
 all:∀j,j<chain.length->Hw t chain j=true
namespace ChOk
variable {t:Tr} {chain p q:List Int}
theorem get(h:ChOk t chain p q)(a:j<chain.length):0<=chain[j]/\chain[j]<t.cells.length/\bd t chain[j].toNat=true/\chain[j]∉chain.take j/\(j=0\/dH (ao t (chain[j-1]?.getD 0)) (ao t chain[j])=true):=
 (Kt (an a)).1 (h.all j a)
theorem box(h:ChOk t chain p q)(a:j<chain.length):(af t)[chain[j].toNat]?=some (ao t chain[j])/\(ao t chain[j]).length=t.root.length/\au vI (ao t chain[j])=true:=by
 have:=h.get a;exact dF h.valid (by omega)
theorem touch(h:ChOk t chain p q)(a:j+1<chain.length):dH (ao t chain[j]) (ao t chain[j+1])=true:=by
 have:=(h.get a).2.2.2.2;rcases this with e|e
 .omega
 .rw[Nat.add_sub_cancel,an (by omega)]at e;exact e
end ChOk
structure BS where
 far:List Int
 q:List Nat
section
variable (n:Nat) (may has hasF:Nat->Bool) (tch:Nat->Nat->Bool)
def aK(far:List Int)(i:Nat):Int:=far[i]?.getD 0
def bI:Nat->BS
 |0=>⟨List.replicate n 0,[]⟩
 |i+1=>if may i&&has i then⟨(bI i).far.set i 1,(bI i).q++[i]⟩else bI i
def da(s:BS)(k:Nat):Nat:=s.q[k]?.getD 0
def Hx(s:BS)(k i:Nat):Bool:=(aK s.far i==0)&&may i&&tch i (da s k)
def uM(s:BS)(k i:Nat):BS:=⟨s.far.set i (aK s.far (da s k)+1),s.q++[i]⟩
def bJ(s:BS)(k:Nat):Nat->BS
 |0=>s
 |i+1=>if Hx may tch (bJ s k i) k i then uM (bJ s k i) k i else bJ s k i
def bK:Nat->BS
 |0=>bI n may has n
 |k+1=>if k<(bK k).q.length then bJ may tch (bK k) k n else bK k
structure BInv2(s:BS):Prop where
 len:s.far.length=n
 cnt:s.far.countP (λx=>x !=0)=s.q.length
 mem:∀j∈s.q,j<n/\1<=aK s.far j
 nn:∀i,0<=aK s.far i
 top:∀i,aK s.far i<=s.q.length
 may':∀i,1<=aK s.far i->may i=true
 back:∀i,1<=aK s.far i->(aK s.far i=1/\has i=true)\/∃p,p<n/\aK s.far p=aK s.far i-1/\1<=aK s.far p/\tch i p=true
variable {n may has hasF tch}
theorem mE(hi:i<far.length):aK (far.set i v) j=if j=i then v else aK far j:=by
 unfold aK;rw[yAe];by_cases h:i=j
 .subst h;simp[hi]
 .rw[L4 h,L4 (λe=>h e.symm)]
theorem BInv2.le{s:BS}(h:BInv2 n may has tch s):s.q.length<=n:=by
 rw[<-h.cnt,<-h.len];exact List.countP_le_length
theorem Rd(hi:i<far.length)(b:aK far i=0)(c:v≠0):(far.set i v).countP (λx=>x !=0)=far.countP (λx=>x !=0)+1:=by
 have a:far[i]=0:=by simpa[aK,an hi]using b
 rw[List.countP_set hi];simp[a,c]
theorem BInv2.put{s:BS}(h:BInv2 n may has tch s)(hi:i<n)(m:aK s.far i=0)(o:1<=v)(r:may i=true)(u:v<=s.q.length+1)
 (f:(v=1/\has i=true)\/∃p,p<n/\aK s.far p=v-1/\1<=aK s.far p/\tch i p=true):BInv2 n may has tch ⟨s.far.set i v,s.q++[i]⟩:=by
 have a:i<s.far.length:=by rw[h.len];exact hi
 refine⟨by simpa using h.len,?_,?_,?_,?_,?_,?_⟩
 .simp only[yAo,yA1];rw[Rd a m (by omega),h.cnt]
 .intro j c
  simp only[yAk,yAE]at c;simp only[mE a];rcases c with c|rfl
  .refine⟨(h.mem j c).1,?_⟩
   split
   .exact o
   .exact(h.mem j c).2
  .exact⟨hi,by simp[o]⟩
 .intro j;simp only[mE a];split
  .omega
  .exact h.nn j
 .intro j;simp only[mE a,yAo,yA1]
  have:=h.top j;split<;>omega
 .intro j;simp only[mE a];split
  .rename_i e;rw[e];exact λ_=>r
  .exact h.may' j
 .have b:∀p,1<=aK s.far p->p≠i:=λp hp e=>by rw[e,m]at hp;omega
  intro j;simp only[mE a];split
  .rename_i e;rw[e];intro _
   rcases f with f|⟨p,g,k,d,l⟩
   .exact .inl f
   .exact .inr ⟨p,g,by rw[L4 (b p d)];exact k,by rw[L4 (b p d)];exact d,l⟩
  .intro c
   rcases h.back j c with f|⟨p,g,k,d,l⟩
   .exact .inl f
   .exact .inr ⟨p,g,by rw[L4 (b p d)];exact k,by rw[L4 (b p d)];exact d,l⟩
theorem yl:∀i,i<=n->BInv2 n may has tch (bI n may has i)/\∀j,i<=j->aK (bI n may has i).far j=0
 |0,_=>by
  have b:∀j,aK (List.replicate n (0:Int)) j=0:=λj=>by simp only[aK,yAx];split<;>rfl
  refine⟨⟨by simp[bI],by simp[bI,List.countP_replicate],by simp[bI],λj=>by simp only[bI,b];omega,λj=>by simp only[bI,b];simp,λj a=>by simp only[bI,b]at a;omega,λj a=>by simp only[bI,b]at a;omega⟩,λj _=>by simp only[bI,b]⟩
 |i+1,hi=>by
  obtain⟨ih,d⟩:=yl i (by omega);simp only[bI];split
  .rename_i c
   simp only[An]at c;refine⟨ih.put (by omega) (d i (yAd _)) (by omega) c.1 (by omega) (.inl ⟨rfl,c.2⟩),λj a=>?_⟩;simp only[mE (show i<(bI n may has i).far.length by rw[ih.len];omega)];rw[L4 (by omega)];exact d j (by omega)
  .exact⟨ih,λj a=>d j (by omega)⟩
theorem CM{s:BS}{k:Nat}(hs:BInv2 n may has tch s)(d:k<s.q.length):∀i,i<=n->BInv2 n may has tch (bJ may tch s k i)/\s.q.length<=(bJ may tch s k i).q.length/\da (bJ may tch s k i) k=da s k
 |0,_=>⟨hs,yAd _,rfl⟩
 |i+1,hi=>by
  obtain⟨ih,e,c⟩:=CM hs d i (by omega);simp only[bJ];split
  .rename_i b
   simp only[Hx,An,yAU]at b
   have a:da (bJ may tch s k i) k∈(bJ may tch s k i).q:=by
    unfold da;rw[an (by omega:k<(bJ may tch s k i).q.length)];exact yAq _
   have hq:=ih.mem _ a;refine⟨ih.put (by omega) b.1.1 (by omega) b.1.2 (by have:=ih.top (da (bJ may tch s k i) k);omega) (.inr ⟨_,hq.1,by omega,hq.2,b.2⟩),by simp only[uM,yAo,yA1];omega,?_⟩;rw[<-c];simp only[uM,da];rw[ZX (by omega)]
  .exact⟨ih,e,c⟩
theorem CN:∀k,BInv2 n may has tch (bK n may has tch k)
 |0=>(yl n (yAd _)).1
 |k+1=>by
  have ih:=CN k;simp only[bK];split
  .rename_i a
   exact(CM ih a n (yAd _)).1
  .exact ih
theorem Jc{k:Nat}(h:¬k<(bK n may has tch k).q.length):∀m,bK n may has tch (k+m)=bK n may has tch k
 |0=>rfl
 |m+1=>by
  have ih:=Jc h m;rw[<-Nat.add_assoc];simp only[bK];rw[ih,L4 (by omega)]
def aS(far:List Int)(hasF:Nat->Bool):Nat->Int
 |0=>-1
 |i+1=>if decide (0<aK far i)&&hasF i&&(decide (aS far hasF i<0)||decide (aK far i<aK far (aS far hasF i).toNat))then(i:Int)else aS far hasF i
theorem Hy{far:List Int}:∀i,-1<=aS far hasF i/\aS far hasF i<i/\(0<=aS far hasF i->0<aK far (aS far hasF i).toNat/\hasF (aS far hasF i).toNat=true)
 |0=>by simp[aS]
 |i+1=>by
  have ih:=Hy (far:=far) i;simp only[aS];split
  .rename_i a
   simp only[An,Is]at a;refine⟨by omega,by omega,λ_=>?_⟩;rw[yAm];exact⟨a.1.1,a.1.2⟩
  .exact⟨ih.1,by omega,ih.2.2⟩
def nC(far:List Int)(tch:Nat->Nat->Bool)(at_ i:Nat):Bool:=(aK far i==aK far at_-1)&&tch i at_
def nS(n:Nat)(far:List Int)(tch:Nat->Nat->Bool)(at_:Nat):Nat->Int
 |0=>-1
 |m+1=>if nC far tch at_ (n-1-m)then((n-1-m:Nat):Int)else nS n far tch at_ m
theorem MB{far:List Int}{at_:Nat}:∀m,m<=n->(0<=nS n far tch at_ m->(nS n far tch at_ m).toNat<n/\nC far tch at_ (nS n far tch at_ m).toNat=true)/\(∀i,i<n->n-m<=i->nC far tch at_ i=true->0<=nS n far tch at_ m)/\-1<=nS n far tch at_ m
 |0,_=>by simp[nS];omega
 |m+1,f=>by
  have ih:=MB (far:=far) (at_:=at_) m (by omega);simp only[nS];split
  .rename_i b
   refine⟨λ_=>?_,λ_ _ _ _=>by omega,by omega⟩;rw[yAm];exact⟨by omega,b⟩
  .rename_i b
   refine⟨ih.1,λi c d a=>?_,ih.2.2⟩;by_cases e:i=n-1-m
   .rw[e]at a;exact absurd a b
   .exact ih.2.1 i c (by omega) a
def Hz(n:Nat)(far:List Int)(tch:Nat->Nat->Bool)(at_:Nat):Nat:=(nS n far tch at_ n).toNat
theorem HA{s:BS}(h:BInv2 n may has tch s)(b:∀i j,i<n->j<n->tch i j=tch j i)(l:a<n)(q:1<aK s.far a):nS n s.far tch a n=(Hz n s.far tch a:Int)/\Hz n s.far tch a<n/\aK s.far (Hz n s.far tch a)=aK s.far a-1/\tch (Hz n s.far tch a) a=true:=by
 have d:=MB (n:=n) (tch:=tch) (far:=s.far) (at_:=a) n (yAd _);rcases h.back a (by omega)with⟨e,_⟩|⟨p,f,m,r,o⟩
 .omega
 .have hp:nC s.far tch a p=true:=by
   simp only[nC,m,beq_self_eq_true,yAs];rw[b p a f l];exact o
  have g:=d.2.1 p f (by omega) hp;obtain⟨k,c⟩:=d.1 g;simp only[nC,An,yAU]at c;exact⟨by unfold Hz;omega,k,c.1,c.2⟩
def pS(n:Nat)(far:List Int)(tch:Nat->Nat->Bool)(a:Nat):Nat->Nat
 |0=>a
 |r+1=>Hz n far tch (pS n far tch a r)
theorem Fl{s:BS}(h:BInv2 n may has tch s)(b:∀i j,i<n->j<n->tch i j=tch j i){a:Nat}(c:a<n)(d:0<aK s.far a):∀r:Nat,(r:Int)<aK s.far a->pS n s.far tch a r<n/\aK s.far (pS n s.far tch a r)=aK s.far a-r
 |0,_=>⟨c,by simp[pS]⟩
 |r+1,g=>by
  obtain⟨e,f⟩:=Fl h b c d r (by omega);have:=HA h b e (by omega);simp only[pS];exact⟨this.2.1,by rw[this.2.2.1,f];omega⟩
theorem OZ{s:BS}(h:BInv2 n may has tch s)(b:∀i j,i<n->j<n->tch i j=tch j i)(d:a<n)(c:0<aK s.far a){r:Nat}(f:(r:Int)+1<aK s.far a):tch (pS n s.far tch a (r+1)) (pS n s.far tch a r)=true:=by
 obtain⟨e,g⟩:=Fl h b d c r (by omega);exact(HA h b e (by omega)).2.2.2
end
def pH(n:Nat)(may has hasF:Nat->Bool)(tch:Nat->Nat->Bool):Int:=aS (bK n may has tch n).far hasF n
def mh(n:Nat)(may has hasF:Nat->Bool)(tch:Nat->Nat->Bool):Bool:=decide (0<=pH n may has hasF tch)
def we(n:Nat)(may has hasF:Nat->Bool)(tch:Nat->Nat->Bool):List Nat:=if mh n may has hasF tch then(List.range (aK (bK n may has tch n).far (pH n may has hasF tch).toNat).toNat).map (pS n (bK n may has tch n).far tch (pH n may has hasF tch).toNat)else[]
theorem Ku{may has hasF:Nat->Bool}{tch:Nat->Nat->Bool}(c:∀i j,i<n->j<n->tch i j=tch j i)(h:mh n may has hasF tch=true):
 let l:=we n may has hasF tch
 0<l.length/\l.length<=n/\(∀(r:Nat) x,l[r]?=some x->x<n/\may x=true/\x∉l.take r)/\(∀(r:Nat) x y,l[r]?=some x->l[r+1]?=some y->tch x y=true)/\
  (∀x,l[0]?=some x->hasF x=true)/\(∀x,l[l.length-1]?=some x->has x=true):=by
 simp only[mh,Is]at h;have g:=CN (n:=n) (may:=may) (has:=has) (tch:=tch) n;have E:=Hy (hasF:=hasF) (far:=(bK n may has tch n).far) n
 have B:decide (0<=pH n may has hasF tch)=true:=by simpa using h
 simp only[we,mh,B,yAn];unfold pH at h|-;obtain⟨K,L,z⟩:=E;obtain⟨m,A⟩:=z h;generalize M:(aS (bK n may has tch n).far hasF n).toNat=a at *
 have u:a<n:=by omega
 have v:=g.top a;have G:=g.le;generalize bK n may has tch n=s at *;have hp:=Fl g c u m;have J:=λ{r:Nat}=>OZ (r:=r) g c u m
 have b:∀(r:Nat) x,((List.range (aK s.far a).toNat).map (pS n s.far tch a))[r]?=some x->(r:Int)<aK s.far a/\x=pS n s.far tch a r:=by
  intro r x d;rw[ZW,II]at d;obtain⟨y,k,rfl⟩:=d;obtain⟨e,f⟩:=th.1 k;simp at e f;exact⟨by omega,by rw[f]⟩
 refine⟨by simp;omega,by simp;omega,?_,?_,?_,?_⟩
 .intro r x d
  obtain⟨e,rfl⟩:=b r x d;obtain⟨f,o⟩:=hp r e;refine⟨f,g.may' _ (by omega),λH=>?_⟩;obtain⟨q,hq⟩:=yAD H;rw[yAw]at hq;split at hq
  .rename_i I
   obtain⟨C,D⟩:=b q _ hq;have:=(hp q C).2;rw[<-D,o]at this;omega
  .cases hq
 .intro r x y d k
  obtain⟨e,rfl⟩:=b r x d;obtain⟨f,rfl⟩:=b (r+1) y k;rw[c _ _ (hp r e).1 (hp (r+1) f).1];exact J (by omega)
 .intro x d
  obtain⟨e,rfl⟩:=b 0 x d;exact A
 .intro x d
  obtain⟨e,rfl⟩:=b _ x d;simp only[yAz,List.length_range]at e d|-;obtain⟨f,o⟩:=hp _ e;rcases g.back _ (show 1<=aK s.far (pS n s.far tch a ((aK s.far a).toNat-1)) by omega)with F|⟨p,N,O,P,Q⟩
  .exact F.2
  .omega
set_option maxRecDepth 100000 in
@[simp] theorem X9:dR prog 111:=by
 have hf:=func111;have nt:=ntmps111;have rs:=results111;exact KY
set_option maxRecDepth 100000 in
@[simp] theorem Yb:dR prog 213:=by
 have hf:=func213;have nt:=ntmps213;have rs:=results213;exact KY
set_option maxRecDepth 100000 in
@[simp] theorem Yc:dR prog 138:=by
 have hf:=func138;have nt:=ntmps138;have rs:=results138;exact BJ
set_option maxRecDepth 100000 in
@[simp] theorem Yd:dR prog 166:=by
 have hf:=func166;have nt:=ntmps166;have rs:=results166;exact BJ
set_option maxRecDepth 100000 in
@[simp] theorem Ye:dR prog 181:=by
 have hf:=func181;have nt:=ntmps181;have rs:=results181;exact BJ
set_option maxRecDepth 100000 in
@[simp] theorem Yf:dR prog 170:=by
 have hf:=func170;have nt:=ntmps170;have rs:=results170;exact BJ
theorem A2(h:1<=t.cells.length):(List.replicate t.cells.length (PV.val (.slice none 0 0))).set 0 (iv t.root)=(fE t).map qp:=by
 obtain⟨n,a⟩:∃n,t.cells.length=n+1:=⟨t.cells.length-1,by omega⟩;simp[fE,a,List.replicate_succ,qp]
theorem dD:qp none=.val (.slice none 0 0):=rfl
theorem dE(b:Bx):qp (some b)=iv b:=rfl
theorem aJ{L:List α}{x:α}(h:L[i]?=some x)(a:i<L.length):L[i]=x:=(th.1 h).2
theorem set_row{z:Nat}{x y:Bx}:((L.map qp).set a (iv x)).set z (iv y)=((L.set a (some x)).set z (some y)).map qp:=by
 simp[yBv,qp]
theorem Ak(h:i7 n i c=false):c.low<=i\/(n:Int)<=c.low\/c.high<=i\/(n:Int)<=c.high\/(c.low==c.high)=true\/oF c.v=false:=by
 cases a:oF c.v with
 |false=>exact .inr (.inr (.inr (.inr (.inr rfl))))
 |true=>
  have:¬((i:Int)<c.low/\c.low<n/\(i:Int)<c.high/\c.high<n/\c.low≠c.high/\oF c.v=true):=by rw[<-dL,h];simp
  simp only[a,and_true]at this;simp only[yAU];omega
theorem X3(t:Tr)(hl:t.cells.length<=9223372036854775807):aV 112 (eo t) (.tup [.sl ((af t).map iv),B (am t)]):=by
 have cv:=X8 t.root
 cases T:gi t with
 |false=>
  have ax:=tu (t:=t) (by simp[cy,T]);rw[ax.1,ax.2];by_cases h1:t.cells.length<1
  .have N:(t.cells.length:Int)<1:=by omega
   refine Dp func112 λC hP hN=>?_;exact Gy
  have N:¬(t.cells.length:Int)<1:=by omega
  by_cases h2:2048<t.cells.length
  .have O:(2048:Int)<t.cells.length:=by omega
   refine Dp func112 λC hP hN=>?_;exact Gy
  have O:¬(2048:Int)<t.cells.length:=by omega
  have h3:dQ t.root=false:=by
   cases h:dQ t.root with
   |false=>rfl
   |true=>simp[gi,h]at T;omega
  rw[h3]at cv;refine Dp func112 λC hP hN=>?_;exact Gy
 |true=>
  obtain⟨z1,z2,z3,z4,z5⟩:=ba.1 T
  have h1:¬t.cells.length<1:=by omega
  have h2:¬2048<t.cells.length:=by omega
  have N:¬(t.cells.length:Int)<1:=by omega
  have O:¬(2048:Int)<t.cells.length:=by omega
  have h3:dQ t.root=true:=by simp only[gi,An]at T;exact T.2
  have Y:=A2 z1;rw[h3]at cv;refine Dp func112 λC hP hN=>?_;refine GT (zAb N h1 h2 O Y (show(24:Int)*t.cells.length<=281474976710656 by omega) (show(t.cells.length:Int)<=9223372036854775807 by omega) (show 0<t.cells.length by omega)) ?_;refine WP.loopN [7] t.cells.length (λi M=>∃L,BInv t i L/\M.t 4=.pv (Z t.cells.length)/\M.t 5=.arr 27 t.cells.length/\M.t 33=.pv (.sl (t.cells.map bD))/\M.t 34=.pv (Z t.cells.length)/\M.t 35=.pv (Z i)/\M.h 7=none/\M.h 27=some (.row 30 1 (L.map qp) 0)) (by exact⟨fE t,ye T,by simp[Y]⟩) ?_;rintro i M hi ⟨L,I,F,G,g,j,k,m,e⟩;have l:=I.bok.len;by_cases a:i<t.cells.length
  .have J:=ai a hl
   have R:i<L.length:=by omega
   generalize y:t.cells[i]=c at *
   have q:t.cells[i]?=some c:=by rw[an a,y]
   have u:fD t.cells.length i c L=none->am t=false/\af t=[]:=λh=>tu (yf I a (by rw[y];exact h));have cl:=X4 c;have cf:=X5 c.v;have V:=X6 c.v
   cases f:L[i]? with
   |none=>rw[an R]at f;cases f
   |some x=>
   cases x with
   |none=>
    have o:=aJ f R;obtain⟨z,A⟩:=u (by simp[fD,f]);rw[z,A];exact GS (zAe F G g j k m e a J f o @dD @dE q (gA y l))
   |some b=>
   have o:=aJ f R;obtain⟨W,a2⟩:=I.bok.ok i b f
   have p:b≠[]:=by intro h;rw[h]at W;simp at W;omega
   have r:b.isEmpty=false:=by simp[p]
   cases n:bC c with
   |true=>
    rw[n]at cl
    cases hf:dt c.v with
    |true=>
     rw[hf]at cf;have S:=qa (L':=L) I a (by rw[y,iO (t:=t) f n,hf];rfl);refine GT (zAe F G g j k m e a J f o @dD @dE q (go y l r p)) ?_
     all_goals exact⟨L,S,rfl⟩
    |false=>
     rw[hf]at cf;obtain⟨z,A⟩:=u (by rw[iO (t:=t) f n,hf];rfl);rw[z,A];exact GS (zAe F G g j k m e a J f o @dD @dE q (go y l r p))
   |false=>
    rw[n]at cl
    cases s:i7 t.cells.length i c with
    |false=>
     obtain⟨z,A⟩:=u (mg f n (.inl s));rw[z,A];rcases Ak s with h|h|h|h|h|h
     all_goals try rw[h]at V
     all_goals
      exact GS (zAe F G g j k m e a J f o @dD @dE q (it y l r p h))
    |true=>
     obtain⟨i1,i2,i3,i4,i5,i6⟩:=dL.1 s;rw[i6]at V;have U:=RK b c.joint (by omega)
     have j1:¬c.low<=i:=by omega
     have j2:¬(t.cells.length:Int)<=c.low:=by omega
     have j3:¬c.high<=i:=by omega
     have j4:¬(t.cells.length:Int)<=c.high:=by omega
     have k1:c.low.toNat<t.cells.length:=by omega
     have k2:c.high.toNat<t.cells.length:=by omega
     have k3:0<=c.low:=by omega
     have k4:0<=c.high:=by omega
     have k5:c.low.toNat<L.length:=by omega
     have k6:c.high.toNat<L.length:=by omega
     cases hh:aY b c.joint with
     |false=>
      obtain⟨z,A⟩:=u (mg f n (.inr (.inl hh)));rw[z,A];rw[hh]at U;exact GS (zAe F G g j k m e a J f o @dD @dE q (zAb y l r p j1 j2 j3 (gA j4 i5)))
     |true=>
     rw[hh]at U
     cases H:L[c.low.toNat]? with
     |none=>rw[an k5]at H;cases H
     |some xa=>
     have P:=aJ H k5
     cases xa with
     |some d=>
      obtain⟨z,A⟩:=u (mg f n (.inr (.inr (.inl ⟨d,H⟩))));rw[z,A];obtain⟨E,_⟩:=I.bok.ok _ d H
      have D:d≠[]:=by intro h;rw[h]at E;simp at E;omega
      have Q:d.isEmpty=false:=by simp[D]
      with_reducible repeat' (first|refine Sp.h ?_|((first|refine Wd ?_|refine Ss.h ?_|refine Sc.h (cl) ?_|refine Sc.h (V) ?_|refine Sc.h (U) ?_|(refine Sb.h ?_ ?_ ?_<;>(try intro hgd)<;>try exact Xy))<;>simp -implicitDefEqProofs (maxSteps:=2000000) [hP,hN,F,G,g,j,k,m,e,a,J,f,o,dD,dE,q,y,l,r,p,j1,j2,j3,j4,i5,k1,k2,k3,k4,H,P,Q,D]<;>try refine Ya ?_)|refine X2 ?_ ?_|(refine Xd ?_ ?_<;>intro hcd<;>try exact Xx))
     |none=>
     cases K:L[c.high.toNat]? with
     |none=>rw[an k6]at K;cases K
     |some xz=>
     have a1:=aJ K k6
     cases xz with
     |some d=>
      obtain⟨z,A⟩:=u (mg f n (.inr (.inr (.inr ⟨d,K⟩))));rw[z,A];obtain⟨E,_⟩:=I.bok.ok _ d K
      have D:d≠[]:=by intro h;rw[h]at E;simp at E;omega
      have Q:d.isEmpty=false:=by simp[D]
      with_reducible repeat' (first|refine Sp.h ?_|((first|refine Wd ?_|refine Ss.h ?_|refine Sc.h (cl) ?_|refine Sc.h (V) ?_|refine Sc.h (U) ?_|(refine Sb.h ?_ ?_ ?_<;>(try intro hgd)<;>try exact Xy))<;>simp -implicitDefEqProofs (maxSteps:=2000000) [hP,hN,F,G,g,j,k,m,e,a,J,f,o,dD,dE,q,y,l,r,p,j1,j2,j3,j4,i5,k1,k2,k3,k4,H,P,K,a1,Q,D]<;>try refine Ya ?_)|refine X2 ?_ ?_|(refine Xd ?_ ?_<;>intro hcd<;>try exact Xx))
     |none=>
      have S:=qa I a (by rw[y];exact oG f n s hh H K)
      with_reducible repeat' (first|refine Sp.h ?_|((first|refine Wd ?_|refine Ss.h ?_|refine Sc.h (cl) ?_|refine Sc.h (V) ?_|refine Sc.h (U) ?_|(refine Sb.h ?_ ?_ ?_<;>(try intro hgd)<;>try exact Xy))<;>simp -implicitDefEqProofs (maxSteps:=2000000) [hP,hN,F,G,g,j,k,m,e,a,J,f,o,dD,dE,q,y,l,r,p,j1,j2,j3,j4,i5,k1,k2,k3,k4,H,P,K,a1]<;>try refine Ya ?_)|refine X2 ?_ ?_|(refine Xd ?_ ?_<;>intro hcd<;>try exact Xx))
      all_goals exact⟨_,S,set_row⟩
  .have X:=yg I a
   have ad:=A3 X
   have ay:am t=true:=by simp[am,X]
   rw[ay,<-ad];exact GS (zAb F G g j k m e (gA a l))
end Go.Ab
