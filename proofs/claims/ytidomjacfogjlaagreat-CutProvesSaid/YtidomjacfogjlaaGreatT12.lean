/- The contracts and facts that the laws of this seat need, in one text (Xr5, Xp3, Vr1, Sd1, KL1, KL2, PlR, KL5, Xl1, Sk1, Sn1, Sm1, Sm2, Sm3, Sm4, Xp4, Cs1, Sm5, Cs2, Ab34, Cs3, Cs4, Cs5, Tk1, Xl2). -/
import Derived.Test.YtidomjacfogjlaaGreatT11
set_option linter.all false
set_option maxRecDepth 10000
set_option maxHeartbeats 16000000
namespace Go.Ab
open IntKind (i64)
open Go.Proofs.Tryz
open Go.Proofs
variable {C:List (List Int)}{K:Nat->Bool}{R:Tr->List Bool->List Int->List Bool}{V op:List Bool}{a i j k m n:Nat}{b:Bx}{js:List J}{ms:List Ms}{p q:List Int}{s:Sce}{t:Tr}{w:Int}
def jX(js:List J)(n:Nat)(l:List Int):List (List Int):=(List.range n).map λi=>ie (jf l (2*js.length) i) js
theorem tz(js:List J)(n:Nat)(l:List Int):(jX js n l).length=n:=by simp[jX]
theorem Kz{l:List Int}(hi:i<n):((jX js n l).map zs).take i++[zs (ie (jf l (2*js.length) i) js)]=((jX js n l).map zs).take (i+1):=by
 have h:i<((jX js n l).map zs).length:=by simp[jX,hi]
 rw[yAP h];simp[jX]
theorem ZD(js:List J)(ms:List Ms)(n:Nat)(l:List Int)(hb:js.length<=100)(hn:n<=100)(hj:∀j∈js,wu j):jQ 21 (gH js ms) (Z n) (zs l) (.sl ((jX js n l).map zs)):=by
 have cf:=Ih l
 have u:i64.wrap (2*(js.length:Int))=((2*js.length:Nat):Int):=by rw[show 2*(js.length:Int)=((2*js.length:Nat):Int) by omega];exact aa (by omega) (by omega)
 have G:=λ(m:List Int)=>K1 m js ms (by omega) hj;refine Dp func21 λC hP hN=>?_
 with_reducible repeat' (first|refine Sp.h ?_|((first|refine Wh [8] ?_|refine Ss.h ?_|refine Sc.h (cf) ?_|(refine Sb.h ?_ ?_ ?_<;>(try intro hgd)<;>try exact Xy))<;>simp -implicitDefEqProofs (maxSteps:=2000000) [hP,hN,fV])|refine X2 ?_ ?_|(refine Xd ?_ ?_<;>intro hcd<;>try exact Xx))
 refine WP.loopN [10] n (λi st=>st.t 1=.pv (Z n)/\st.t 3=.ptr 3 0/\st.h 3=some (.box [.pv (.sl (js.map bj)),.pv (.sl (ms.map bN))] true false)/\st.t 7=.ptr 13 0/\st.t 8=.arr 8 i/\st.t 9=.pv (Z i)/\st.h 13=some (.box [.pv (zs l),.pv (Z (lY l (i*(2*js.length))))] true false)/\st.h 8=some (.row 49 1 (((jX js n l).map zs).take i) 0)/\st.h 10=none) (by simp[lY]) ?_;rintro i st hi ⟨B,g3,A,D,E,F,a,b,f⟩
 have S:min i (jX js n l).length=i:=by rw[tz];omega
 by_cases e:i<n
 .have hw:=ai e (by omega)
  have hs:=Kz (js:=js) (l:=l) e
  have q:(jf l (2*js.length) i).length=2*js.length:=by simp[jf]
  have ci:=G (jf l (2*js.length) i)
  have r:(i:Int)<n:=by omega
  with_reducible repeat' (first|refine Sp.h ?_|((first|refine Wh [10] ?_|refine Ss.h ?_|(refine Sb.h ?_ ?_ ?_<;>(try intro hgd)<;>try exact Xy))<;>simp -implicitDefEqProofs (maxSteps:=2000000) [hP,hN,B,g3,A,D,E,F,a,b,f,e,r])|refine X2 ?_ ?_|(refine Xd ?_ ?_<;>intro hcd<;>try exact Xx))
  refine WP.loopN [] (2*js.length) (λk st=>st.t 1=.pv (Z n)/\st.t 3=.ptr 3 0/\st.h 3=some (.box [.pv (.sl (js.map bj)),.pv (.sl (ms.map bN))] true false)/\st.t 7=.ptr 13 0/\st.t 8=.arr 8 i/\st.t 9=.pv (Z i)/\st.t 10=.arr 10 k/\st.t 11=.pv (Z k)/\st.h 13=some (.box [.pv (zs l),.pv (Z (lY l (i*(2*js.length)+k)))] true false)/\st.h 8=some (.row 49 1 (((jX js n l).map zs).take i) 0)/\st.h 10=some (.row 3 1 (((jf l (2*js.length) i).map Z).take k) 0)) (by simp[B,g3,A,D,E,F,a,b]) ?_;clear B g3 A D E F a b f;rintro k ad hk ⟨V,W,y,X,Y,y9,v,x,d,z,c⟩
  have R:min k (jf l (2*js.length) i).length=k:=by omega
  have T:=Li l (i*(2*js.length)+k);have N:i*(2*js.length)<=100*200:=yBk (by omega) (by omega);by_cases o:k<2*js.length
  .have Q:=ai o (by omega)
   have cn:=fX l (lY l (i*(2*js.length)+k)) 1048576 (by decide) (by omega);have P:lY l (i*(2*js.length)+(k+1))=nn l (lY l (i*(2*js.length)+k)):=rfl
   have K:k<(jf l (2*js.length) i).length:=by omega
   have O:((jf l (2*js.length) i).map Z).take k++[Z (nx l (lY l (i*(2*js.length)+k)) 1048576)]=((jf l (2*js.length) i).map Z).take (k+1):=by
    rw[yAP (by simpa using K)];simp[jf]
   have g:(k:Int)<((2*js.length:Nat):Int):=by omega
   generalize lY l (i*(2*js.length)+k)=pos at *;generalize lY l (i*(2*js.length)+(k+1))=U at *
   with_reducible repeat' (first|refine Sp.h ?_|((first|refine Ss.h ?_|refine Sc.h (cn) ?_|(refine Sb.h ?_ ?_ ?_<;>(try intro hgd)<;>try exact Xy))<;>simp -implicitDefEqProofs (maxSteps:=2000000) [hP,hN,fV,V,W,y,X,Y,y9,v,x,d,z,c,u,o,g,Q,R,show(k+1)*8<=140737488355328 by omega,show k+1<=9223372036854775807 by omega])|refine X2 ?_ ?_|(refine Xd ?_ ?_<;>intro hcd<;>try exact Xx))
   all_goals exact⟨by rw[P],O⟩
  .have I:k=2*js.length:=by omega
   subst I;have p:((jf l (2*js.length) i).map Z).take (2*js.length)=(jf l (2*js.length) i).map Z:=yAu (by simp[q]);rw[p]at c
   have g:¬((2*js.length:Nat):Int)<((2*js.length:Nat):Int):=by omega
   have s:(i+1)*(2*js.length)=i*(2*js.length)+2*js.length:=by rw[yAM];omega
   rw[<-s]at d;generalize ie (jf l (2*js.length) i) js=pt at *;generalize jf l (2*js.length) i=M at *
   with_reducible repeat' (first|refine Sp.h ?_|((first|refine Ss.h ?_|refine Sc.h (ci) ?_|(refine Sb.h ?_ ?_ ?_<;>(try intro hgd)<;>try exact Xy))<;>simp -implicitDefEqProofs (maxSteps:=2000000) [hP,hN,V,W,y,X,Y,y9,v,x,d,z,c,u,o,g,q,hw,S,show(i+1)*24<=140737488355328 by omega,show i+1<=9223372036854775807 by omega])|refine X2 ?_ ?_|(refine Xd ?_ ?_<;>intro hcd<;>try exact Xx))
   all_goals exact hs
 .have H:i=n:=by omega
  subst H;have p:((jX js i l).map zs).take i=(jX js i l).map zs:=yAu (by simp[tz]);rw[p]at b;have L:=tz js i l
  with_reducible repeat' (first|refine Sp.h ?_|((first|refine Ss.h ?_|(refine Sb.h ?_ ?_ ?_<;>(try intro hgd)<;>try exact Xy))<;>simp -implicitDefEqProofs (maxSteps:=2000000) [hP,hN,B,g3,A,D,E,F,a,b,e,L])|refine X2 ?_ ?_|(refine Xd ?_ ?_<;>intro hcd<;>try exact Xx))
theorem A7(h:Rch t.cells.length (jM t) (lh t) (mL t p) i):jM t i=true/\i<t.cells.length:=by
 cases h with
 |base h=>simp only[mL,An]at h;exact⟨h.2.1,h.1⟩
 |step _ a b _=>exact⟨b,a⟩
theorem MJ(d:am t=true)(hi:i<t.cells.length)(e:k<t.cells.length)(h:lh t i k=true):lh t k i=true:=by
 have a:=(dF d (c:=(i:Int)) (by simpa using hi)).2.2;have b:=(dF d (c:=(k:Int)) (by simpa using e)).2.2;unfold lh at h|-;rw[nR a b]at h;rw[nR b a];exact⟨h.1.symm,λj x y f g=>(h.2 j y x g f).symm⟩
theorem Pb(d:am t=true)(h:Rch t.cells.length (jM t) (lh t) (mL t p) i):Rch t.cells.length (jM t) (lh t) (mL t q) i->∃j,mL t p j/\Rch t.cells.length (jM t) (lh t) (mL t q) j:=by
 induction h with
 |base h=>exact λa=>⟨_,h,a⟩
 |@step i k h b e c ih=>
  intro a;obtain⟨o,hi⟩:=A7 h;exact ih (.step a hi o (MJ d hi b c))
theorem A8{U:List Bool}(a:jO t p U):ni t U q=true↔∀i,Rch t.cells.length (jM t) (lh t) (mL t p) i->j7 t q i=false:=by
 constructor
 .intro h i c
  have hi:=(A7 c).2;have b:=(a.iff i hi).2 c;have:=IV.1 h i (yAJ.2 hi);unfold fq at b;simpa[b]using this
 .intro h
  refine AE λi hi d=>?_;exact h i ((a.iff i hi).1 d)
theorem EY(g:am t=true){U:List Bool}(d:jO t p U)(e:jO t q V)(h:ni t V p=true):ni t U q=true:=by
 rw[A8 d];intro i c
 cases f:j7 t q i with
 |false=>rfl
 |true=>
  obtain⟨o,hi⟩:=A7 c;obtain⟨j,b,a⟩:=Pb (q:=q) g c (.base ⟨hi,by rw[o,f];rfl⟩);have:=(A8 e).1 h j a;simp only[mL,An]at b;rw[b.2.2]at this;cases this
theorem Pd{U:List Bool}(a:jO t p U)(b:jO t q V):f8 t p q U=f8 t q p V:=by
 unfold f8
 cases c:am t with
 |false=>rfl
 |true=>
  have e:ni t U q=ni t V p:=by
   rw[Bool.eq_iff_iff];exact⟨EY c b a,EY c a b⟩
  rw[e];cases aR t.root p<;>cases aR t.root q<;>rfl
theorem Rk{U:List Bool}(a:jO t p U)(b:jO t q V):jK s t p q U=jK s t q p V:=by
 unfold jK om;rw[Pd a b]
def yp(s:Sce)(t:Tr):Prop:=∀k:Nat,k<t.cells.length->(er t k).kind=2->dO s (ao t (k:Int)) ⟨(er t k).pair,(er t k).left,(er t k).right⟩=true
theorem O1{hs:List Vc}(h:(eD s b hs).kind=2):dO s b (eD s b hs).w=true:=by
 rcases DH s b hs with⟨w,a,c⟩|⟨ns,a,c⟩|⟨ns,a,c⟩
 .rw[a];exact c
 .rw[a]at h;cases h
 .rw[a]at h;cases h
theorem Re{V:Verd}(a:k<t.cells.length):er (dS t k V) m=if m=k then V else er t m:=by
 unfold er dS;simp only;by_cases e:m=k
 .subst e;rw[List.getElem?_set_self a];simp[bn]
 .rw[List.getElem?_set_ne (λh=>e h.symm),L4 e]
theorem O2{u:Tr}(h:af u=af t)(i:Int):ao u i=ao t i:=by simp[ao,h]
theorem HB(d:az s=0)(c:DeI s t)(q:bd t k=true)(a:k<t.cells.length)(r:(er t k).kind=0)(n:yp s t):yp s (eS s t (k:Int)):=by
 obtain⟨_,i,_⟩:=uq d c q a r;obtain⟨j,g⟩:=xY c.valid a
 have f:mo s.js s.ms (gj t (k:Int))=true:=by
  rw[g];exact IG (kA d) (by rw[<-c.root];exact Ez c.valid a)
 have hp:oo s t (k:Int)=true:=by simp[oo,d,j,f]
 have l:eS s t (k:Int)=dT t (k:Int) (lm s t (k:Int)):=by rw[eS,yAb hp]
 have p:af (eS s t (k:Int))=af t:=by rw[l];exact(yi c.valid (k:Int) (lm s t (k:Int))).2.2.2
 intro m v b;rw[O2 p]
 have u:(eS s t (k:Int)).cells.length=t.cells.length:=by rw[i];simp[dS]
 rw[i,Re a]at b|-;by_cases e:m=k
 .subst e
  rw[yAb rfl]at b|-
  have o:lm s t (m:Int)=kS (eD s (ao t (m:Int)) (er t m).nor):=by simp[lm,g]
  rw[o]at b|-;exact O1 b
 .rw[L4 e]at b|-
  exact n m (by omega) b
theorem UH{a b:Int}(q:az s=0)(f:DeI s t)(hn:Nx t a b)(K:t.cells.length+2<=2048)(z:yp s t):yp s (rS s t a b):=by
 obtain⟨k,j,rfl,rfl,l,U,p,T⟩:=hn.ex;have B:(af t)[k]?=some (ao t (k:Int)):=(dF f.valid (c:=(k:Int)) (by simpa using l)).1;have S:=ef f.valid
 have o:cG t (k:Int) (j:Int)=true:=by
  simp only[cG,f.valid,yAm,U,B,yAl,T,yBz,yAs,An,Is];exact⟨⟨by omega,by omega⟩,K⟩
 have r:bh t (k:Int) (j:Int)=fv t k (j:Int) (er t k):=by rw[bh,yAb o,yAm]
 obtain⟨Y,_,_⟩:=Mg f.valid o;obtain⟨Z,v2,v3⟩:=Am f.valid (k:Int) (j:Int);have g:DeI s (bh t (k:Int) (j:Int)):=⟨Z,by rw[v2];exact f.root,AG f.tl (by omega) _ _⟩
 have I:(bh t (k:Int) (j:Int)).cells[t.cells.length]?=some (bn (er t k)):=by
  rw[r];simp only[fv];rw[yAa (by simp)];simp
 have J:(bh t (k:Int) (j:Int)).cells[t.cells.length+1]?=some (bn (er t k)):=by
  rw[r];simp only[fv];rw[yAa (by simp)];simp
 have D:(bh t (k:Int) (j:Int)).cells.length=t.cells.length+2:=by rw[r,kI]
 have v:∀(x:Tr)(i:Nat) V,x.cells[i]?=some (bn V)->bd x i=true/\er x i=V:=λx i V h=>⟨by simp only[bd,h];exact gY V,by simp[er,h,bn]⟩
 have A:yp s (bh t (k:Int) (j:Int)):=by
  intro m hm d;by_cases n:m<t.cells.length
  .have W:er (bh t (k:Int) (j:Int)) m=if m=k then bi else er t m:=by
    rw[r];unfold er fv;simp only;rw[ZX (by simpa using n)];by_cases e:m=k
    .subst e;rw[List.getElem?_set_self l];simp
    .rw[List.getElem?_set_ne (λh=>e h.symm),L4 e]
   have R:ao (bh t (k:Int) (j:Int)) (m:Int)=ao t (m:Int):=by
    simp only[ao,Y,yAm];rw[ZX (by omega)]
   rw[W]at d|-;rw[R];by_cases e:m=k
   .rw[yAb e]at d;cases d
   .rw[L4 e]at d|-;exact z m n d
  .have:m=t.cells.length\/m=t.cells.length+1:=by omega
   rcases this with rfl|rfl
   .rw[(v _ _ _ I).2,p]at d;cases d
   .rw[(v _ _ _ J).2,p]at d;cases d
 have C:pR s t (k:Int) (j:Int)=eS s (bh t (k:Int) (j:Int)) (t.cells.length:Int):=rfl;have Q:vF s t (k:Int) (j:Int)=true:=(Gu q f hn K).1
 have P:rS s t (k:Int) (j:Int)=eS s (pR s t (k:Int) (j:Int)) ((t.cells.length:Int)+1):=by rw[rS,yAb Q]
 rw[P];generalize bh t (k:Int) (j:Int)=u at *;obtain⟨M,N⟩:=v u t.cells.length _ I;obtain⟨_,y,H⟩:=uq q g M (by omega) (by rw[N];exact p);have F:=HB q g M (by omega) (by rw[N];exact p) A;rw[<-C]at y H F;generalize pR s t (k:Int) (j:Int)=E at *
 have O:E.cells[t.cells.length+1]?=some (bn (er t k)):=by
  rw[y];simp only[dS];rw[yAe,L4 (by omega)];exact J
 have L:E.cells.length=t.cells.length+2:=by rw[y];simp[dS,D]
 obtain⟨X,y2⟩:=v E (t.cells.length+1) _ O;have G:=HB q H X (by omega) (by rw[y2];exact p) F;rw[Int.natCast_add,Int.natCast_one]at G;exact G
theorem TD(c:az s=0):yp s (ur s):=by
 obtain⟨_,_,b,j⟩:=Gv c;have i:=GB (kA c);have g:DeI s (gP (aC s.js s.ms)):=⟨by rw[b,yj];exact i,by rw[b],j⟩
 have a:bd (gP (aC s.js s.ms)) 0=true/\(er (gP (aC s.js s.ms)) 0).kind=0:=by
  rw[b];exact⟨gY _,rfl⟩
 have f:yp s (gP (aC s.js s.ms)):=λk d e=>by
  rw[b]at d e;simp at d;subst d;simp[er,bn,bi]at e
 exact HB c g a.1 (by rw[b];simp) a.2 f
theorem MD{s:Sce}{p q:List Int}{w cells:Int}(d:az s=0)(i:cells<=2040):∀(f:Nat)(t:Tr),DeI s t->yp s t->t.cells.length<=2040->DeI s (j9 s p q w cells f t).1/\yp s (j9 s p q w cells f t).1/\(j9 s p q w cells f t).1.cells.length<=2040/\((j9 s p q w cells f t).2=1->(gD s.js s.ms (j9 s p q w cells f t).1 p q w).2.2=1)
 |0,t,a,b,c=>⟨a,b,c,λh=>by simp[j9]at h⟩
 |f+1,t,a,b,c=>by
  simp only[j9];split
  .rename_i g
   split
   .exact⟨a,b,c,λh=>by simp at h⟩
   .rename_i k
    have e:Nx t (gD s.js s.ms t p q w).1 (gD s.js s.ms t p q w).2.1:=Gt (js:=s.js) (ms:=s.ms) (p:=p) (q:=q) (w:=w) (by rw[<-g]);obtain⟨_,j,l⟩:=Gu d a e (by omega);exact MD d i f _ j (UH d a e (by omega) b) (by omega)
  .exact⟨a,b,c,λh=>h⟩
theorem ME{cells:Int}(c:az s=0)(h1:bb s.js s.ms p=true)(e:bb s.js s.ms q=true)(f:1<=w)(g:1<=cells)(i:cells<=2040):DeI s (mU s p q w cells).1/\yp s (mU s p q w cells).1:=by
 have hP:Cb s p q w cells=true:=by
  simp only[Cb,An,Is];exact⟨⟨⟨⟨⟨c,h1⟩,e⟩,f⟩,g⟩,by omega⟩
 unfold mU;rw[yAb hP];obtain⟨d,j,_⟩:=Gv c;obtain⟨a,b,_⟩:=MD (p:=p) (q:=q) (w:=w) c i 2048 (ur s) d (TD c) (by omega);exact⟨a,b⟩
theorem xZ(l:List Int)(b:aD js ms=0)(d:∀j∈js,wu j):bb js ms (ie l js)=true:=by
 simp only[bb,b,ie,List.length_mapIdx,yBJ,yAs];rw[kw];intro i hi c;have a:=d js[i] (yAq _);unfold wu at a;simp only[List.getElem_mapIdx,ud,An,Is,JL];have f:=ar l (nn l (qq l i)) (k:=js[i].hi-js[i].lo+1) (by omega) (by omega);have e:wr (js[i].lo+nx l (nn l (qq l i)) (js[i].hi-js[i].lo+1))=js[i].lo+nx l (nn l (qq l i)) (js[i].hi-js[i].lo+1):=aa;split
 .omega
 .split
  .omega
  .rw[e];omega
theorem gv.trans{a b c:List Iv}(h:gv a b)(g:gv b c):gv a c:=by
 refine⟨h.1.trans g.1,λk x z d i=>?_⟩;have f:k<a.length:=(th.1 d).1;have e:b[k]?=some (b[k]'(by rw[<-h.1];exact f)):=an _;exact(h.2 k x _ d e).trans (g.2 k _ z e i)
theorem gv.valid{a b:List Iv}(h:gv a b):∀x∈a,al x.1 x.2=true:=λx e=>by
 obtain⟨k,d⟩:=yAD e;have c:k<a.length:=(th.1 d).1;exact(h.2 k x _ d (an (by rw[<-h.1];exact c))).vx
theorem OM(h:i<3):ja (rI i)=true:=by
 have:i=0\/i=1\/i=2:=by omega
 rcases this with rfl|rfl|rfl<;>decide +kernel
theorem To(h:i<3)(a:k<i):lx (rI k) (rI i)=false:=by
 have:(i=1/\k=0)\/(i=2/\k=0)\/(i=2/\k=1):=by omega
 rcases this with⟨rfl,rfl⟩|⟨rfl,rfl⟩|⟨rfl,rfl⟩<;>decide +kernel
theorem CD(l:List Int)(n:Nat):0<=jz l n/\jz l n<=5:=by
 unfold jz F5
 repeat' split
 all_goals omega
theorem H5(l:List Int)(n i:Nat):(dP l n i).lo<=(dP l n i).hi/\-dv (dP l n i).kind<=(dP l n i).lo/\(dP l n i).hi<=dv (dP l n i).kind:=by
 have x:=ar l (je l n i) (k:=3) (by decide) (by decide);have m:=ar l (je l n i) (k:=5) (by decide) (by decide);have o:=ar l (nn l (je l n i)) (k:=4) (by decide) (by decide);have q:=ar l (nn l (nn l (je l n i))) (k:=3) (by decide) (by decide);have z:=CD l n;have ok:=F7 l n i;simp only[dP]at ok|-;refine⟨by have:=ok.1.2.1;exact this,?_⟩;unfold Ii Ij dv;generalize jz l n=e at *;generalize nx l (je l n i) 3=a at *;generalize nx l (je l n i) 5=b at *;generalize nx l (nn l (je l n i)) 4=c at *;generalize nx l (nn l (nn l (je l n i))) 3=d at *
 have r:∀b:Int,0<=b->b<5->-32768<=wr ((wr (wr (-b)*65536)).tdiv 8):=by
  intro b p y
  have:b=0\/b=1\/b=2\/b=3\/b=4:=by omega
  rcases this with rfl|rfl|rfl|rfl|rfl<;>decide
 have u:∀c:Int,0<=c->c<4->0<=wr ((wr (wr (1+c)*65536)).tdiv 8)/\wr ((wr (wr (1+c)*65536)).tdiv 8)<=32768:=by
  intro c p q
  have:c=0\/c=1\/c=2\/c=3:=by omega
  rcases this with rfl|rfl|rfl|rfl<;>decide
 have s:=r b m.1 m.2;have v:=u c o.1 o.2
 have hd:e=0\/e=1\/e=2\/e=3\/e=4\/e=5:=by omega
 have g:wr (wr (-a)*65536)=-a*65536:=by rw[aa (n:=-a) (by omega) (by omega),aa (by omega) (by omega)]
 have j:wr (c*32768)=c*32768:=aa;have f:wr (wr ((wr (wr (1+c)*65536)).tdiv 8)+d)=wr ((wr (wr (1+c)*65536)).tdiv 8)+d:=aa;rcases hd with rfl|rfl|rfl|rfl|rfl|rfl
 .simp
 .simp only[f];simp;omega
 .simp only[f];simp;omega
 .simp only[f];simp;omega
 .simp only[g,j];simp;omega
 .simp only[g,j];simp;omega
theorem Mh(l:List Int)(n i:Nat)(h:i<3)(js:List J)(hd:rL js i (rI i)=false):bS js i (dP l n i)=0:=by
 have p:=CD l n;obtain⟨q,r,s⟩:=H5 l n i;have g:=ar l n (k:=4) (by decide) (by decide);have j:=ar l (nn l n) (k:=3) (by decide) (by decide);have m:=ar l (sC l n) (k:=5) (by decide) (by decide);have o:=ar l (nn l (sC l n)) (k:=3) (by decide) (by decide);have b:wr (1+nx l n 4)=1+nx l n 4:=aa;have c:wr (65536+nx l (nn l n) 3)=65536+nx l (nn l n) 3:=aa
 have d:wr (wr (nx l (sC l n) 5-2)*32768)=(nx l (sC l n) 5-2)*32768:=by rw[aa (n:=nx l (sC l n) 5-2) (by omega) (by omega),aa (by omega) (by omega)]
 have e:wr (wr (nx l (nn l (sC l n)) 3-1)*32768)=(nx l (nn l (sC l n)) 3-1)*32768:=by rw[aa (n:=nx l (nn l (sC l n)) 3-1) (by omega) (by omega),aa (by omega) (by omega)]
 have f:wr ((i:Int)-1)=(i:Int)-1:=aa
 have hp:¬((dP l n i).parent< -1\/(i:Int)<=(dP l n i).parent):=by
  simp only[dP,f];split<;>omega
 have a:fB (dP l n i).ox (dP l n i).oy (dP l n i).oz 4194304=true:=by
  simp only[dP,d,e,fB,gR,An,Is]
  repeat' split
  all_goals omega
 rw[bS,L4 (by simp[dP,OM h,hd]),L4 (by show¬(jz l n<0\/6<jz l n);omega),L4 hp,L4 (by simp[a]),L4 (by omega),L4];simp only[dP,b,c,bw];simp;omega
theorem Ah(l:List Int)(h:i<(im l 0).length):(im l 0)[i]=dP l (rJ l (nn l 0) i) i:=by simp[im,zV]
theorem ON(l:List Int):aD (im l 0) (nI l 0)=0:=by
 have e:=yU l 0
 have hf:iT (im l 0)=0:=by
  refine vB (λk x j=>?_);have d:=(th.1 j);have f:=d.1;rw[<-d.2,Ah l d.1];refine Mh l _ k (by omega) _ (K4 (λm y c o=>?_));have b:=(th.1 o);rw[<-b.2,Ah l b.1];exact To (by omega) c
 have g:(nI l 0).length<=2:=by
  have:=ar l (rM l 0) (k:=3) (by decide) (by decide);rw[nI,yT,rK];omega
 have a:((nI l 0).any λm=>!fL (im l 0).length m)=false:=by
  rw[yBH];intro m c;simp only[nI,zW,yAt]at c;obtain⟨i,_,rfl⟩:=c
  have A:(rN l 0:Int)=((im l 0).length:Int):=by rw[im,oS]
  generalize nH l (nn l (rM l 0)) i=st;have s:=ar l st (k:=(rN l 0:Int)) (by omega) (by omega);have u:=ar l (nn l st) (k:=9000) (by decide) (by decide);have v:=ar l (nn l (nn l st)) (k:=7) (by decide) (by decide);have z:=ar l (nn l (nn l (nn l st))) (k:=5) (by decide) (by decide);have p:wr (1+nx l (nn l st) 9000)=1+nx l (nn l st) 9000:=aa
  have q:wr (wr (nx l (nn l (nn l st)) 7-3)*32768)=(nx l (nn l (nn l st)) 7-3)*32768:=by rw[aa (n:=nx l (nn l (nn l st)) 7-3) (by omega) (by omega),aa (by omega) (by omega)]
  have r:wr (wr (nx l (nn l (nn l (nn l st))) 5-2)*32768)=(nx l (nn l (nn l (nn l st))) 5-2)*32768:=by rw[aa (n:=nx l (nn l (nn l (nn l st))) 5-2) (by omega) (by omega),aa (by omega) (by omega)]
  have:fL (im l 0).length (yS l st (rN l 0))=true:=by
   simp only[fL,yS,p,q,r,bw,fB,gR,An,Is];omega
  simp[this]
 unfold aD;rw[L4 (by omega),hf,L4 (by simp),a];simp;omega
theorem PX{c:Int}(a:0<=c)(b:c<5):1<=wr ((wr (wr (1+c)*65536)).tdiv 8)/\wr ((wr (wr (1+c)*65536)).tdiv 8)<=1048576:=by
 have:c=0\/c=1\/c=2\/c=3\/c=4:=by omega
 rcases this with rfl|rfl|rfl|rfl|rfl<;>decide
theorem IR{c k:Int}(a:-20<=c-k)(b:c-k<=20):wr (wr (c-k)*32768)=(c-k)*32768:=by
 rw[aa (n:=c-k) (by omega) (by omega),aa (by omega) (by omega)]
theorem GX{l:List Int}{c:Vc}(h1:-655360<=c.1/\c.1<=655360)(r:-655360<=c.2.1/\c.2.1<=655360)(s:-655360<=c.2.2/\c.2.2<=655360):∀p∈xI l n c,aG 4194304 p=true:=by
 intro p hp
 have hN:∀v:Vc,(-1310720<=v.1/\v.1<=1310720)->(-1310720<=v.2.1/\v.2.1<=1310720)->(-1310720<=v.2.2/\v.2.2<=1310720)->aG 4194304 v=true:=λv a b d=>by
  rw[dJ,bM,bM,bM];omega
 rcases yAv.1 hp with rfl|hp
 .exact hN _ (by omega) (by omega) (by omega)
 .obtain⟨i,_,rfl⟩:=yAt.1 hp
  generalize qA l (nn l n) i=m;have j:=ar l m (k:=7) (by decide) (by decide);have o:=ar l (nn l m) (k:=5) (by decide) (by decide);have q:=ar l (nn l (nn l m)) (k:=5) (by decide) (by decide);have e:=IR (c:=nx l m 7) (k:=3) (by omega) (by omega);have f:=IR (c:=nx l (nn l m) 5) (k:=2) (by omega) (by omega);have g:=IR (c:=nx l (nn l (nn l m)) 5) (k:=2) (by omega) (by omega);refine hN _ ?_ ?_ ?_<;>simp only[PP,e,f,g]<;>rw[aa (by omega) (by omega)]<;>omega
theorem vZ{h:Sh}(h1:cJ n h.link=true)(a:1<=h.rad)(b:h.rad<=1048576)(c:1<=h.pts.length)(d:h.pts.length<=8)(e:∀p∈h.pts,aG 4194304 p=true):cW n h=0:=by
 unfold cW;rw[yAb (by simp only[An,Is];exact⟨⟨⟨⟨h1,a⟩,b⟩,c⟩,d⟩),yAb (IV.2 e)]
theorem GY(l:List Int)(n:Nat)(c:Vc):1<=(xI l n c).length:=by simp[xI,Ci]
theorem GZ(l:List Int)(n m:Nat):∀i,i<=m->∀h∈(gS l n i).1,cW m h=0
 |0,_,h,a=>by cases a
 |i+1,hi,h,a=>by
  simp only[gS]at a;split at a
  .rcases yAk.1 a with a|a
   .exact GZ l n m i (by omega) h a
   .rw[yAE]at a
    subst a;generalize nn l (gS l n i).2=q;have f:=ar l q (k:=3) (by decide) (by decide);have g:=ar l (nn l q) (k:=4) (by decide) (by decide);have d:wr (nx l (nn l q) 4*32768)=nx l (nn l q) 4*32768:=aa;have b:=PX (c:=nx l q 3) (by omega) (by omega);have e:=zf l (nn l (nn l q)) (wr (nx l (nn l q) 4*32768),0,0);refine vZ (by show cJ m (i:Int)=true;simp only[cJ,An,Is];omega) b.1 b.2 (GY _ _ _) (by show(xI _ _ _).length<=8;omega) (GX ?_ ?_ ?_)
    .simp only[d];omega
    .simp
    .simp
  .exact GZ l n m i (by omega) h a
theorem LU(l:List Int)(xs:List Sh)(n m:Nat)(d:∀h∈xs,cW m h=0):∀i,∀h∈(jC l xs n i).1,cW m h=0
 |0,h,a=>d h a
 |i+1,h,a=>by
  simp only[jC]at a;rcases yAk.1 a with a|a
  .exact LU l xs n m d i h a
  .rw[yAE]at a
   subst a;generalize(jC l xs n i).2=q;have j:=ar l q (k:=19) (by decide) (by decide);have o:=ar l (nn l q) (k:=19) (by decide) (by decide);have p:=ar l (nn l (nn l q)) (k:=5) (by decide) (by decide);have r:=ar l (nn l (nn l (nn l q))) (k:=4) (by decide) (by decide);have b:=PX (c:=nx l (nn l (nn l (nn l q))) 4) (by omega) (by omega);have e:=IR (c:=nx l q 19) (k:=9) (by omega) (by omega);have f:=IR (c:=nx l (nn l q) 19) (k:=9) (by omega) (by omega);have g:=IR (c:=nx l (nn l (nn l q)) 5) (k:=2) (by omega) (by omega)
   refine vZ (by show cJ m (-1)=true;simp only[cJ,An,Is];omega) b.1 b.2 (GY _ _ _) (by
    show(xI _ _ _).length<=8;have:=zf l (nn l (nn l (nn l (nn l q)))) (wr (wr (nx l q 19-9)*32768),wr (wr (nx l (nn l q) 19-9)*32768),wr (wr (nx l (nn l (nn l q)) 5-2)*32768))
    omega) (GX ?_ ?_ ?_)
   .simp only[e];omega
   .simp only[f];omega
   .simp only[g];omega
theorem Oc(l:List Int):az (nq l)=0:=by
 have c:=ON l;have n:=yU l 0
 have hN:(rN l 0:Int)=((im l 0).length:Int):=by rw[im,oS]
 have f:=(Cj l (vw l 0) (rN l 0)).2;have g:=(Ck l (mA l).1 (nn l (mA l).2) (s9 l (mA l).2)).2;have e:=ar l (mA l).2 (k:=3) (by decide) (by decide)
 have i:s9 l (mA l).2<=3:=by unfold s9;omega
 have j:(mA l).1.length<=3:=by unfold mA;omega
 have o:(nq l).shs.length<=24:=by show(mB l).1.length<=24;unfold mB;omega
 have hf:gl (nq l).js.length (nq l).shs=0:=by
  refine oB λk x d=>?_;refine LU l _ _ _ ?_ _ x (In d);intro h b;refine GZ l _ _ (rN l 0) ?_ h b;show rN l 0<=(im l 0).length;omega
 have a:(nq l).sks.length<=1/\(nq l).sks.all (jb (nq l).js.length)=true:=by
  show(if nx l (mB l).2 5=1 then[((-1:Int),nx l (nn l (mB l).2) (rN l 0))]else[]).length<=1/\(if nx l (mB l).2 5=1 then[((-1:Int),nx l (nn l (mB l).2) (rN l 0))]else[]).all (jb (im l 0).length)=true;split
  .have m:=ar l (nn l (mB l).2) (k:=(rN l 0:Int)) (by omega) (by omega)
   refine⟨by simp,?_⟩;simp only[List.all_cons,List.all_nil,jb,cJ,yBz,An,Is];omega
  .simp
 unfold az;rw[show aD (nq l).js (nq l).ms=0 from c,hf,L4 (by simp),L4 (by omega),L4 (by simp),L4 (by omega),yAb a.2]
def gw(p:List Int)(C:List (List Int))(q:List Int):List (List Int):=p::(C++[q])
theorem Fm(p:List Int)(C:List (List Int))(q:List Int):aQ (gw p C q) 0=p/\aQ (gw p C q) ((gw p C q).length-1)=q/\(gw p C q).length=C.length+2:=by
 have e:(gw p C q).length=C.length+2:=by simp[gw]
 refine⟨rfl,?_,e⟩;rw[e];simp[aQ,gw]
theorem MF(hp:bb js ms p=true)(hq:bb js ms q=true)(hC:∀x∈C,bb js ms x=true):∀x∈gw p C q,bb js ms x=true:=λx a=>by
 simp only[gw,yAv,yAk,yAB,yAZ]at a;rcases a with rfl|a|rfl
 .exact hp
 .exact hC x a
 .exact hq
theorem HC{U:List Bool}{D:Nat}(d:jO t p U)(i:C.length<=100)(a:∀x∈gw p C q,bb s.js s.ms x=true)(f:jK s t p q U=true):qU s (gw p C q) D=false:=by
 obtain⟨b,c,g⟩:=Fm p C q
 cases e:qU s (gw p C q) D with
 |false=>rfl
 |true=>exact(O6 d f b c (by omega) (by omega) a (Pi e)).elim
theorem Kx(h:ma 600 t)(f:t.cells.length<=1000000)(g:t.root.length<=1000000):TW t/\∀c∈t.cells,c.v.nor.length<=1000000/\c.v.left.length<=1000000/\c.v.right.length<=1000000:=by
 refine⟨⟨f,g,λc a=>?_⟩,λc a=>?_⟩
 .obtain⟨b,d,e⟩:=h c a
  omega
 .obtain⟨b,d,e⟩:=h c a
  exact⟨by omega,by omega,by omega⟩
theorem TE{y:Nat}(h:y<3):(1+y)*24<=140737488355328/\1+y<=9223372036854775807/\(1+y+1)*24<=140737488355328/\1+y+1<=9223372036854775807:=by omega
theorem d5(l m o line:List Int)(n width:Int):MC 5 (zs l) (zs m) (zs o) (zs line) (Z n) (Z width) (B true):=by
 have S:=U9;have T:=Zk l;have hL:=Sz l;have N:=Oc l;have hj:=yU l 0;have c:=RO l 0;have K:=K1 m (im l 0) (nI l 0) (by omega) c;have L:=K1 o (im l 0) (nI l 0) (by omega) c;obtain⟨y,hy,ad⟩:=Me (i:=n) (n:=3) (by decide) (by decide);have M:=Pw n 3 (by decide);rw[show lQ n 3=(y:Int) from hy]at M;have cC:=ZD (im l 0) (nI l 0) y line (by omega) (by omega) c;have v:(nq l).js=im l 0:=rfl;have H:(nq l).ms=nI l 0:=rfl;rw[<-v,<-H]at K L cC;rw[<-v]at hj c;clear v H;generalize nq l=s at *;have O:=kA N;have j:=xZ m O c;have r:=xZ o O c
 have G:∀x∈jX s.js y line,bb s.js s.ms x=true:=λx hx=>by
  simp only[jX,yAt]at hx;obtain⟨i,_,rfl⟩:=hx;exact xZ _ O c
 have ay:(ie m s.js).length=s.js.length:=by simp[ie]
 have a1:(ie o s.js).length=s.js.length:=by simp[ie]
 have g:=tz s.js y line;generalize ie m s.js=a at *;generalize ie o s.js=b at *;generalize jX s.js y line=C at *;have R:=Pw width 5000 (by decide);have r1:=zX width (k:=5000) (by decide) (by decide);generalize lQ width 5000=w at *;have w1:i64.wrap (1+w)=1+w:=aa;have J:=Vb s a b (1+w) 60 hL (by omega) (by omega);have d:=(ME N j r (by omega:(1:Int)<=1+w) (by omega:(1:Int)<=60) (by omega)).1.root;obtain⟨E,ax,_⟩:=Mj (s:=s) (p:=a) (q:=b) (w:=1+w) (cells:=60) hL.js;generalize mU s a b (1+w) 60=D at *;obtain⟨t,st⟩:=D;simp only at J E ax d;obtain⟨W,_⟩:=Kx E (by omega) (by rw[d];simp only[aC];split<;>simp<;>omega);clear d E;obtain⟨U,P⟩:=BX t a;obtain⟨V,X⟩:=BX t b;have k1:=Il s t a b U hL W P;have Q:=Il s t b a V hL W X;rw[<-Rk P X]at Q;have u:=MF j r G;obtain⟨w0,w2,w3⟩:=Fm a C b;have Y:=HC (D:=5) P (by omega) u;have F:=Vt s (gw a C b) 5 hL N (by omega) (by omega) u (by decide);rw[show(gw a C b).map zs=zs a::(C.map zs++[zs b]) by simp[gw]]at F;generalize Gb s t a b U=n1 at *;generalize Gb s t b a V=n2 at *;generalize jK s t a b U=o1 at *
 have f:∃A B:List PV,DY s (gw a C b) 5=.agg [.sl A,.sl B]:=by unfold DY;split<;>exact⟨_,_,rfl⟩
 obtain⟨A1,B1,f⟩:=f;rw[f]at F;clear f;generalize KB s (gw a C b) 5=I at *;generalize qU s (gw a C b) 5=e at *;clear P X u j r G c N O W;obtain⟨js,ms,SH,sks⟩:=s;simp only at *;obtain⟨z1,z2,z3,z4⟩:=TE ad;have z:y+1=1+y:=Nat.add_comm _ _
 cases o1 with
 |false=>
  cases e with
  |false=>
   refine Dp func5 λC hP hN=>?_
   with_reducible repeat' (first|refine Sp.h ?_|((first|refine Wh [63] ?_|refine Wi [63] ?_|refine Ss.h ?_|refine Sc.h (S) ?_|refine Sc.h (T) ?_|refine Sc.h (K) ?_|refine Sc.h (L) ?_|refine Sc.h (R) ?_|refine Sc.h (J) ?_|refine Sc.h (k1) ?_|refine Sc.h (Q) ?_|refine Sc.h (M) ?_|refine Sc.h (cC) ?_|refine Sc.h (F) ?_|(refine Sb.h ?_ ?_ ?_<;>(try intro hgd)<;>try exact Xy))<;>simp -implicitDefEqProofs (maxSteps:=2000000) [hP,hN,w1,g,z,z1,z2,z3,z4]<;>try refine Ya ?_)|refine X2 ?_ ?_|(refine Xd ?_ ?_<;>intro hcd<;>try exact Xx))
  |true=>
   refine Dp func5 λC hP hN=>?_
   with_reducible repeat' (first|refine Sp.h ?_|((first|refine Wh [63] ?_|refine Wi [63] ?_|refine Ss.h ?_|refine Sc.h (S) ?_|refine Sc.h (T) ?_|refine Sc.h (K) ?_|refine Sc.h (L) ?_|refine Sc.h (R) ?_|refine Sc.h (J) ?_|refine Sc.h (k1) ?_|refine Sc.h (Q) ?_|refine Sc.h (M) ?_|refine Sc.h (cC) ?_|refine Sc.h (F) ?_|(refine Sb.h ?_ ?_ ?_<;>(try intro hgd)<;>try exact Xy))<;>simp -implicitDefEqProofs (maxSteps:=2000000) [hP,hN,w1,g,z,z1,z2,z3,z4]<;>try refine Ya ?_)|refine X2 ?_ ?_|(refine Xd ?_ ?_<;>intro hcd<;>try exact Xx))
 |true=>
  have he:=Y rfl;subst he;refine Dp func5 λC hP hN=>?_
  with_reducible repeat' (first|refine Sp.h ?_|((first|refine Wh [63] ?_|refine Wi [63] ?_|refine Ss.h ?_|refine Sc.h (S) ?_|refine Sc.h (T) ?_|refine Sc.h (K) ?_|refine Sc.h (L) ?_|refine Sc.h (R) ?_|refine Sc.h (J) ?_|refine Sc.h (k1) ?_|refine Sc.h (Q) ?_|refine Sc.h (M) ?_|refine Sc.h (cC) ?_|refine Sc.h (F) ?_|(refine Sb.h ?_ ?_ ?_<;>(try intro hgd)<;>try exact Xy))<;>simp -implicitDefEqProofs (maxSteps:=2000000) [hP,hN,w1,g,z,z1,z2,z3,z4]<;>try refine Ya ?_)|refine X2 ?_ ?_|(refine Xd ?_ ?_<;>intro hcd<;>try exact Xx))
structure KidsP(cs:List Cel):Prop where
 rng:∀(i:Nat) c,cs[i]?=some c->bC c=false->0<=c.low/\c.low<cs.length/\0<=c.high/\c.high<cs.length/\c.low≠c.high
 dif:∀(i j:Nat) c d,cs[i]?=some c->cs[j]?=some d->bC c=false->bC d=false->i≠j->c.low≠d.low/\c.low≠d.high/\c.high≠d.low/\c.high≠d.high
theorem I7(A:am t=true){c d:Cel}(y:t.cells[i]?=some c)(hd:t.cells[j]?=some d)(r:bC c=false)(v:bC d=false)(D:i<j):c.low≠d.low/\c.low≠d.high/\c.high≠d.low/\c.high≠d.high:=by
 obtain⟨L,hL⟩:=yAy.1 A;have x:=(th.1 hd).1;obtain⟨hi,_⟩:=pI A y r;have F:=dL.1 hi
 have hP:=iM (P:=λk M=>BOk t k M/\(i<k->(∃a,M[c.low.toNat]?=some (some a))/\∃b,M[c.high.toNat]?=some (some b))/\(j<k->c.low≠d.low/\c.low≠d.high/\c.high≠d.low/\c.high≠d.high)) hL ⟨me (gX hL),by omega,by omega⟩ (by
  rintro k e M H g ⟨m,hp,hq⟩ s;refine⟨mf m s,λE=>?_,λG=>?_⟩
  .by_cases u:k=i
   .subst u
    rw[y]at g;injection g with g;subst g;obtain⟨b,l,⟨q,_⟩|⟨_,f,C,o,n,rfl⟩⟩:=eX s
    .rw[r]at q;cases q
    .exact⟨⟨_,by rw[i8 m.len f,L4 (by omega),yAb rfl]⟩,⟨_,by rw[i8 m.len f,yAb rfl]⟩⟩
   .obtain⟨⟨a,p⟩,b,l⟩:=hp (by omega)
    exact⟨⟨a,kH s p⟩,b,kH s l⟩
  .by_cases u:k=j
   .subst u
    rw[hd]at g;injection g with g;subst g;obtain⟨⟨a,p⟩,b,l⟩:=hp (by omega);obtain⟨I,B,⟨q,_⟩|⟨_,f,C,o,n,rfl⟩⟩:=eX s
    .rw[v]at q;cases q
    .have z:=dL.1 f
     refine⟨λe=>?_,λe=>?_,λe=>?_,λe=>?_⟩
     .rw[e,o]at p;cases p
     .rw[e,n]at p;cases p
     .rw[e,o]at l;cases l
     .rw[e,n]at l;cases l
   .exact hq (by omega))
 exact hP.2.2 x
theorem Kr(m:am t=true):KidsP t.cells:=by
 refine⟨λi c g k=>?_,λi j c d g hd k n l=>?_⟩
 .have h:=dL.1 (pI m g k).1
  omega
 .rcases Nat.lt_or_gt_of_ne l with h|h
  .exact I7 m g hd k n h
  .obtain⟨a,b,e,f⟩:=I7 m hd g n k h
   exact⟨a.symm,e.symm,b.symm,f.symm⟩
structure TS(X:Type) where
 n:Nat
 leaf:Nat->Bool
 lo:Nat->Nat
 hi:Nat->Nat
 has:Nat->X->Prop
structure TS.Ok{X:Type}(T:TS X):Prop where
 pos:0<T.n
 lo_lt:∀i,i<T.n->T.leaf i=false->i<T.lo i/\T.lo i<T.n
 hi_lt:∀i,i<T.n->T.leaf i=false->i<T.hi i/\T.hi i<T.n
 par:∀j,0<j->j<T.n->∃i,i<T.n/\T.leaf i=false/\(j=T.lo i\/j=T.hi i)
 has_lo:∀i x,i<T.n->T.leaf i=false->T.has (T.lo i) x->T.has i x
 has_hi:∀i x,i<T.n->T.leaf i=false->T.has (T.hi i) x->T.has i x
 has_or:∀i x,i<T.n->T.leaf i=false->T.has i x->T.has (T.lo i) x\/T.has (T.hi i) x
 face:∀i,i<T.n->T.leaf i=false->∃x,T.has (T.lo i) x/\T.has (T.hi i) x
section
variable {X:Type}
inductive Rc(T:TS X)(O:Nat->Prop)(p:X):Nat->Prop
 |base {i:Nat} (hi:i<T.n) (ho:O i) (hp:T.has i p):Rc T O p i
 |step {i k:Nat} (h:Rc T O p i) (hk:k<T.n) (ho:O k) (x:X) (h1:T.has i x) (h2:T.has k x):Rc T O p k
inductive Cn(T:TS X)(O:Nat->Prop):Nat->Nat->Prop
 |refl {a:Nat}:Cn T O a a
 |step {a b c:Nat} (h:Cn T O a b) (hc:c<T.n) (ho:O c) (x:X) (h1:T.has b x) (h2:T.has c x):Cn T O a c
inductive Und(T:TS X):Nat->Nat->Prop
 |rfl {i:Nat}:Und T i i
 |lo {i j:Nat} (hl:T.leaf i=false) (h:Und T (T.lo i) j):Und T i j
 |hi {i j:Nat} (hl:T.leaf i=false) (h:Und T (T.hi i) j):Und T i j
def Mt(T:TS X)(O:Nat->Prop)(p:X)(i:Nat):Prop:=T.has i p\/∃k x,Rc T O p k/\T.has i x/\T.has k x
variable {T:TS X} {O O':Nat->Prop} {p q:X}
theorem Rc.lt(h:Rc T O p k):k<T.n:=by cases h<;>assumption
theorem Rc.opn(h:Rc T O p k):O k:=by cases h<;>assumption
theorem Rc.mono(b:∀k,O k->O' k)(h:Rc T O p k):Rc T O' p k:=by
 induction h with
 |base hi a hp=>exact .base hi (b _ a) hp
 |step _ e a x c d ih=>exact .step ih e (b _ a) x c d
theorem Mt.mono(d:∀k,O k->O' k)(h:Mt T O p i):Mt T O' p i:=by
 rcases h with h|⟨k,x,a,b,c⟩
 .exact .inl h
 .exact .inr ⟨k,x,a.mono d,b,c⟩
theorem Cn.rc{b:Nat}(e:Rc T O p a)(h:Cn T O a b):Rc T O p b:=by
 induction h with
 |refl=>exact e
 |step _ f g x c d ih=>exact .step ih f g x c d
theorem Cn.trans{b c:Nat}(h:Cn T O a b)(h':Cn T O b c):Cn T O a c:=by
 induction h' with
 |refl=>exact h
 |step _ f g x d e ih=>exact .step ih f g x d e
theorem Rc.back(h:Rc T O q k)(hp:Rc T O p k):∃s,Rc T O p s/\T.has s q:=by
 induction h with
 |base hi c hq=>exact⟨_,hp,hq⟩
 |@step i k h d c x a b ih=>exact ih (.step hp h.lt h.opn x b a)
theorem Tu(h:∀k,Rc T O p k->¬T.has k q):∀k,Rc T O p k->¬Rc T O q k:=λk hp hq=>by
 obtain⟨s,a,b⟩:=hq.back hp;exact h s a b
theorem Q6(h:∀k,Rc T O p k->¬Rc T O q k):∀k,Rc T O p k->¬T.has k q:=λk hp hq=>h k hp (.base hp.lt hp.opn hq)
theorem OT(h:∀k,Rc T O p k->¬Rc T O q k):∀k,Rc T O q k->¬Rc T O p k:=λk a b=>h k b a
theorem DR(d:∀k,O' k↔O k\/k=i)(e:¬Mt T O q i)(h:Rc T O' q k):Rc T O q k:=by
 induction h with
 |base hi a hp=>
  rcases(d _).1 a with a|rfl
  .exact .base hi a hp
  .exact absurd (.inl hp) e
 |@step j k _ f a x b c ih=>
  rcases(d _).1 a with a|rfl
  .exact .step ih f a x b c
  .exact absurd (.inr ⟨j,x,ih,c,b⟩) e
theorem Hn(b:∀k,O' k↔O k\/k=i)(hi:¬O i)(l:¬Mt T O q i)(hd:∀k,Rc T O p k->¬Rc T O q k)(h:Rc T O' p k):¬Rc T O q k:=by
 induction h with
 |base c a hp=>
  rcases(b _).1 a with a|rfl
  .exact hd _ (.base c a hp)
  .exact λh=>hi h.opn
 |@step j k g m a x e f ih=>
  rcases(b _).1 a with a|rfl
  .intro hq
   rcases(b _).1 g.opn with d|rfl
   .exact ih (.step hq g.lt d x f e)
   .exact l (.inr ⟨k,x,hq,e,f⟩)
  .exact λh=>hi h.opn
theorem Q7(a:∀k,O' k↔O k\/k=i)(hi:¬O i)(d:¬(Mt T O p i/\Mt T O q i))(hd:∀k,Rc T O p k->¬Rc T O q k):∀k,Rc T O' p k->¬Rc T O' q k:=by
 by_cases hq:Mt T O q i
 .have hp:¬Mt T O p i:=λh=>d ⟨h,hq⟩
  exact λk b c=>Hn a hi hp (OT hd) c (DR a hp b)
 .exact λk b c=>Hn a hi hq hd b (DR a hq c)
theorem Und.lt(b:T.Ok)(h:Und T i j):i<T.n->j<T.n:=by
 induction h with
 |rfl=>exact id
 |lo a _ ih=>exact λhi=>ih (b.lo_lt _ hi a).2
 |hi a _ ih=>exact λhi=>ih (b.hi_lt _ hi a).2
theorem Und.has(b:T.Ok){x:X}(h:Und T i j):i<T.n->T.has j x->T.has i x:=by
 induction h with
 |rfl=>exact λ_=>id
 |lo a _ ih=>exact λhi c=>b.has_lo _ x hi a (ih (b.lo_lt _ hi a).2 c)
 |hi a _ ih=>exact λhi c=>b.has_hi _ x hi a (ih (b.hi_lt _ hi a).2 c)
theorem Und.snoc(h:Und T a i)(b:T.leaf i=false):Und T a (T.lo i)/\Und T a (T.hi i):=by
 induction h with
 |rfl=>exact⟨.lo b .rfl,.hi b .rfl⟩
 |lo c _ ih=>exact⟨.lo c (ih b).1,.lo c (ih b).2⟩
 |hi c _ ih=>exact⟨.hi c (ih b).1,.hi c (ih b).2⟩
theorem DS(e:T.Ok){x:X}:∀(d i:Nat),T.n-i=d->i<T.n->T.has i x->∃j,Und T i j/\T.leaf j=true/\j<T.n/\T.has j x:=by
 intro d
 induction d using Nat.strongRecOn with
 |ind d ih=>
  intro i hd hi f
  cases c:T.leaf i with
  |true=>exact⟨i,.rfl,c,hi,f⟩
  |false=>
   have g:=e.lo_lt i hi c;have k:=e.hi_lt i hi c;rcases e.has_or i x hi c f with h|h
   .obtain⟨j,a,b⟩:=ih _ (by omega) (T.lo i) rfl g.2 h
    exact⟨j,.lo c a,b⟩
   .obtain⟨j,a,b⟩:=ih _ (by omega) (T.hi i) rfl k.2 h
    exact⟨j,.hi c a,b⟩
def Ho(T:TS X)(op B:Nat->Bool):Prop:=∀i,i<T.n->B i=if T.leaf i=true then op i else(B (T.lo i)&&B (T.hi i))
variable {op B:Nat->Bool}
theorem qS(e:T.Ok)(c:Ho T op B)(h:Und T i j):i<T.n->B i=true->T.leaf j=true->op j=true:=by
 induction h with
 |rfl=>intro hi a b;rw[c _ hi,yAb b]at a;exact a
 |@lo i j b _ ih=>
  intro hi a d;rw[c _ hi,L4 (by rw[b];decide),An]at a;exact ih (e.lo_lt _ hi b).2 a.1 d
 |@hi i j b _ ih=>
  intro hi a d;rw[c _ hi,L4 (by rw[b];decide),An]at a;exact ih (e.hi_lt _ hi b).2 a.2 d
theorem CI(l:T.Ok)(z:Ho T op B):∀(d i:Nat),T.n-i=d->i<T.n->B i=true->∀j p,Und T i j->T.leaf j=true->Und T i p->T.leaf p=true->Cn T (λk=>op k=true) j p:=by
 intro d
 induction d using Nat.strongRecOn with
 |ind d ih=>
  intro i hd hi o j p g m c e
  cases f:T.leaf i with
  |true=>
   have J:j=i:=by cases g with
    |rfl=>rfl
    |lo h=>rw[f]at h;cases h
    |hi h=>rw[f]at h;cases h
   have K:p=i:=by cases c with
    |rfl=>rfl
    |lo h=>rw[f]at h;cases h
    |hi h=>rw[f]at h;cases h
   subst J;subst K;exact .refl
  |false=>
   have v:=l.lo_lt i hi f;have y:=l.hi_lt i hi f;rw[z _ hi,L4 (by rw[f];decide),An]at o;obtain⟨x,A,C⟩:=l.face i hi f;obtain⟨a,q,r,H,F⟩:=DS l _ (T.lo i) rfl v.2 A;obtain⟨b,s,u,I,G⟩:=DS l _ (T.hi i) rfl y.2 C;have L:=qS l z q v.2 o.1 r;have M:=qS l z s y.2 o.2 u;have E:=ih _ (by omega) (T.lo i) rfl v.2 o.1;have D:=ih _ (by omega) (T.hi i) rfl y.2 o.2
   cases g with
   |rfl=>rw[f]at m;cases m
   |lo _ g=>
    cases c with
    |rfl=>rw[f]at e;cases e
    |lo _ c=>exact E _ _ g m c e
    |hi _ c=>exact(Cn.step (E _ _ g m q r) I M x F G).trans (D _ _ s u c e)
   |hi _ g=>
    cases c with
    |rfl=>rw[f]at e;cases e
    |lo _ c=>exact(Cn.step (D _ _ g m s u) H L x G F).trans (E _ _ q r c e)
    |hi _ c=>exact D _ _ g m c e
def ZA(T:TS X)(B K:Nat->Bool):Prop:=∀j,j<T.n->(K j=true↔j=0\/∃i,i<T.n/\K i=true/\T.leaf i=false/\B i=false/\(j=T.lo i\/j=T.hi i))
variable {K:Nat->Bool}
structure Mrg(T U:TS X)(B K:Nat->Bool)(num:Nat->Nat)(oU:Nat->Prop):Prop where
 lt:∀i,i<T.n->K i=true->num i<U.n
 onto:∀m,m<U.n->∃i,i<T.n/\K i=true/\num i=m
 has:∀i x,i<T.n->K i=true->(U.has (num i) x↔T.has i x)
 opn:∀i,i<T.n->K i=true->(oU (num i)↔B i=true)
variable {U:TS X} {num:Nat->Nat} {oU:Nat->Prop}
theorem OU(c:T.Ok)(r:Ho T op B)(e:Mrg T U B K num oU)(h:Rc U oU p m):∀a,a<T.n->K a=true->num a=m->∀j,Und T a j->T.leaf j=true->Rc T (λk=>op k=true) p j:=by
 induction h with
 |base hi z hp=>
  rintro a b o rfl j y C;have l:=(e.opn a b o).1 z;obtain⟨M,f,g,u,v⟩:=DS c _ a rfl b ((e.has a p b o).1 hp);exact(CI c r _ a rfl b l _ _ f g y C).rc (.base u (qS c r f b l g) v)
 |@step i k L J z x G H ih=>
  rintro a b o rfl j y C;have l:=(e.opn a b o).1 z;obtain⟨s,d,q,I⟩:=e.onto i L.lt;subst I;obtain⟨N,D,E,O,F⟩:=DS c _ s rfl d ((e.has s x d q).1 G);obtain⟨M,f,g,u,v⟩:=DS c _ a rfl b ((e.has a x b o).1 H);have A:=ih s d q rfl N D E;exact(CI c r _ a rfl b l _ _ f g y C).rc (.step A u (qS c r f b l g) x F v)
theorem Q8(d:T.Ok)(n:Ho T op B)(b:Mrg T U B K num oU)(h:∀k,Rc T (λk=>op k=true) p k->¬T.has k q):∀m,Rc U oU p m->¬U.has m q:=by
 intro m f hq;obtain⟨a,c,e,rfl⟩:=b.onto m f.lt;obtain⟨j,g,i,o,l⟩:=DS d _ a rfl c ((b.has a q c e).1 hq);exact h j (OU d n b f a c e rfl j g i) l
end
def bp(t:Tr)(i:Nat):Cel:=(t.cells[i]?).getD (bn bi)
theorem jq(h:i<t.cells.length):t.cells[i]?=some (bp t i):=by simp[bp,an h]
theorem iY(h:i<t.cells.length):bd t i=bC (bp t i):=by rw[bd,jq h]
def mG(t:Tr):TS (List Int):=⟨t.cells.length,bd t,λi=>(bp t i).low.toNat,λi=>(bp t i).high.toNat,λi x=>aR (ao t (i:Int)) x=true⟩
theorem Mk{j:Int}(h:aY b j=true)(hq:aR (br b j) q=true):aR b q=true:=by
 obtain⟨x,g,p,o,c,n⟩:=ny h;have f:=(kG.1 h).2.1;obtain⟨m,r⟩:=k9 h;obtain⟨l,m1⟩:=(dU m).1 hq;have d:=(th.1 g).1;refine(dU f).2 ⟨by rw[c]at l;simpa using l,λi y z a k=>?_⟩;by_cases e:i=j.toNat
 .subst e
  rw[g]at a;injection a with a;subst a;have:=m1 _ (x.1,(x.1+x.2)/2) z (by rw[c];simp[d]) k;simp only at this;omega
 .exact m1 i y z (by rw[c,yAe,L4 (λh=>e h.symm)];exact a) k
theorem Ml{j:Int}(h:aY b j=true)(hq:aR (bv b j) q=true):aR b q=true:=by
 obtain⟨x,g,p,o,n,c⟩:=ny h;have f:=(kG.1 h).2.1;obtain⟨r,m⟩:=k9 h;obtain⟨l,m1⟩:=(dU m).1 hq;have d:=(th.1 g).1;refine(dU f).2 ⟨by rw[c]at l;simpa using l,λi y z a k=>?_⟩;by_cases e:i=j.toNat
 .subst e
  rw[g]at a;injection a with a;subst a;have:=m1 _ ((x.1+x.2)/2,x.2) z (by rw[c];simp[d]) k;simp only at this;omega
 .exact m1 i y z (by rw[c,yAe,L4 (λh=>e h.symm)];exact a) k
theorem QZ{j:Int}(h:aY b j=true)(hq:aR b q=true):aR (br b j) q=true\/aR (bv b j) q=true:=by
 obtain⟨c,x,_,_,d,e⟩:=Kw h hq;rcases yB3 c x.2 with a|a
 .exact .inl (d a)
 .exact .inr (e a)
theorem Mm{j:Int}(h:aY b j=true):∃q,aR (br b j) q=true/\aR (bv b j) q=true:=by
 obtain⟨x,m,r,p,k,l⟩:=ny h;have g:=(kG.1 h).2.1;obtain⟨n,o⟩:=k9 h;have f:=(th.1 m).1;have d:∀(i:Nat) y,b[i]?=some y->y.1<=y.2:=λi y a=>(bH.1 (bE.1 g y (In a))).2.1;refine⟨(b.map (·.1)).set j.toNat ((x.1+x.2)/2),(dU n).2 ⟨by rw[k];simp,λi y z a c=>?_⟩,(dU o).2 ⟨by rw[l];simp,λi y z a c=>?_⟩⟩
 .rw[k]at a
  by_cases e:j.toNat=i
  .subst e
   simp[f]at a c;subst a;subst c;exact⟨by simp only;omega,yCc _⟩
  .rw[yAe,L4 e]at a c
   rw[ZW,a]at c;simp only[yAQ,Z9]at c;subst c;exact⟨yCc _,d i y a⟩
 .rw[l]at a
  by_cases e:j.toNat=i
  .subst e
   simp[f]at a c;subst a;subst c;exact⟨yCc _,by simp only;omega⟩
  .rw[yAe,L4 e]at a c
   rw[ZW,a]at c;simp only[yAQ,Z9]at c;subst c;exact⟨yCc _,d i y a⟩
theorem Tp(v:am t=true)(d:0<j)(s:j<t.cells.length):∃i,i<t.cells.length/\bC (bp t i)=false/\(j=(bp t i).low.toNat\/j=(bp t i).high.toNat):=by
 obtain⟨L,hL⟩:=yAy.1 v
 have hP:=iM (P:=λk M=>BOk t k M/\∀j b,0<j->M[j]?=some (some b)->∃i,i<t.cells.length/\bC (bp t i)=false/\(j=(bp t i).low.toNat\/j=(bp t i).high.toNat)) hL ⟨me (gX hL),λj b d a=>by
  cases j with
  |zero=>omega
  |succ j=>simp[fE,yAx]at a⟩ (by
  rintro k e M x n ⟨f,hp⟩ p;refine⟨mf f p,λj b d a=>?_⟩;obtain⟨y,q,⟨_,_,rfl⟩|⟨o,m,z,u,r,rfl⟩⟩:=eX p
  .exact hp j b d a
  .have c:bp t k=e:=by simp[bp,n]
   rw[i8 f.len m]at a;have g:=(th.1 n).1;split at a
   .rename_i l;exact⟨k,g,by rw[c];exact o,.inr (by rw[c];exact l)⟩
   .split at a
    .rename_i l;exact⟨k,g,by rw[c];exact o,.inl (by rw[c];exact l)⟩
    .exact hp j b d a)
 obtain⟨b,a⟩:=hP.1.pre j s;exact hP.2 j b d a
theorem gh(f:am t=true)(hi:i<t.cells.length)(a:bd t i=false):
 aY (ao t (i:Int)) (bp t i).joint=true/\ao t (((bp t i).low.toNat:Nat):Int)=br (ao t (i:Int)) (bp t i).joint/\ao t (((bp t i).high.toNat:Nat):Int)=bv (ao t (i:Int)) (bp t i).joint/\
 i<(bp t i).low.toNat/\(bp t i).low.toNat<t.cells.length/\i<(bp t i).high.toNat/\(bp t i).high.toNat<t.cells.length/\(bp t i).low.toNat≠(bp t i).high.toNat:=by
 rw[iY hi]at a;obtain⟨b,c,d,e⟩:=pI f (jq hi) a;obtain⟨g,j,k,l,m,_⟩:=dL.1 b;rw[Int.toNat_of_nonneg (show 0<=(bp t i).low by omega),Int.toNat_of_nonneg (show 0<=(bp t i).high by omega)];exact⟨c,d,e,by omega,by omega,by omega,by omega,by omega⟩
theorem Tq(f:am t=true):(mG t).Ok:=by
 have n:=ba.1 (bP f);refine⟨n.1,λi hi d=>?_,λi hi d=>?_,λj g m=>?_,λi x hi d e=>?_,λi x hi d e=>?_,λi x hi d e=>?_,λi hi d=>?_⟩
 .obtain⟨_,_,_,a,b,_⟩:=gh f hi d;exact⟨a,b⟩
 .obtain⟨_,_,_,_,_,a,b,_⟩:=gh f hi d;exact⟨a,b⟩
 .obtain⟨i,hi,d,h⟩:=Tp f g m
  exact⟨i,hi,by show bd t i=false;rw[iY hi];exact d,h⟩
 .obtain⟨a,b,c,_⟩:=gh f hi d
  have e:aR (ao t (((bp t i).low.toNat:Nat):Int)) x=true:=e;rw[b]at e;exact Mk a e
 .obtain⟨a,b,c,_⟩:=gh f hi d
  have e:aR (ao t (((bp t i).high.toNat:Nat):Int)) x=true:=e;rw[c]at e;exact Ml a e
 .obtain⟨a,b,c,_⟩:=gh f hi d
  rcases QZ a e with h|h
  .left;show aR (ao t (((bp t i).low.toNat:Nat):Int)) x=true;rw[b];exact h
  .right;show aR (ao t (((bp t i).high.toNat:Nat):Int)) x=true;rw[c];exact h
 .obtain⟨a,b,c,_⟩:=gh f hi d
  obtain⟨x,k,l⟩:=Mm a;refine⟨x,?_,?_⟩
  .show aR (ao t (((bp t i).low.toNat:Nat):Int)) x=true;rw[b];exact k
  .show aR (ao t (((bp t i).high.toNat:Nat):Int)) x=true;rw[c];exact l
theorem Mn(a:am t=true)(hi:i<t.cells.length):(ao t (i:Int)).length=t.root.length/\au vI (ao t (i:Int))=true:=by
 have b:=ef a;refine iN (j:=i) ?_;simp[ao,an (show i<(af t).length by omega)]
theorem uH(k:am t=true)(hi:i<t.cells.length)(r:j<t.cells.length):lh t i j=true↔∃x,aR (ao t (i:Int)) x=true/\aR (ao t (j:Int)) x=true:=by
 obtain⟨D,l⟩:=Mn k hi;obtain⟨E,m⟩:=Mn k r;unfold lh;generalize ao t (i:Int)=a at *;generalize ao t (j:Int)=b at *;rw[nR l m];have s:∀(i:Nat) y,a[i]?=some y->y.1<=y.2:=λi y d=>(bH.1 (bE.1 l y (In d))).2.1;have A:∀(i:Nat) y,b[i]?=some y->y.1<=y.2:=λi y d=>(bH.1 (bE.1 m y (In d))).2.1;constructor
 .rintro⟨_,h⟩
  have q:∀(i:Nat) x y z,a[i]?=some x->b[i]?=some y->((List.range a.length).map λi=>max ((a[i]?.getD (0,0)).1) ((b[i]?.getD (0,0)).1))[i]?=some z->z=max x.1 y.1:=by
   intro i x y z c d g;have f:=(th.1 c).1;rw[ZW,List.getElem?_range f,yAQ,c,d]at g;injection g with g;exact g.symm
  refine⟨(List.range a.length).map λi=>max ((a[i]?.getD (0,0)).1) ((b[i]?.getD (0,0)).1),(dU l).2 ⟨by simp,λi x z c g=>?_⟩,(dU m).2 ⟨by simp;omega,λi y z d g=>?_⟩⟩
  .have f:=(th.1 c).1
   have d:b[i]?=some (b[i]'(by omega)):=an _;have e:=q i x _ z c d g;have n:=h i x _ c d;have o:=s i x c;omega
  .have f:=(th.1 d).1
   have c:a[i]?=some (a[i]'(by omega)):=an _;have e:=q i _ y z c d g;have n:=h i _ y c d;have o:=A i y d;omega
 .rintro⟨x,n,o⟩
  obtain⟨F,m1⟩:=(dU l).1 n;obtain⟨G,m2⟩:=(dU m).1 o;refine⟨by omega,λi u v p k=>?_⟩;have f:=(th.1 p).1;have c:x[i]?=some (x[i]'(by omega)):=an _;have B:=m1 i u _ p c;have C:=m2 i v _ k c;omega
theorem CF(f:am t=true):Rch t.cells.length (cY op) (oI (af t)) (λi=>i<t.cells.length/\sB (af t) op p i=true) k↔Rc (mG t) (λi=>cY op i=true) p k:=by
 constructor
 .intro h
  induction h with
  |base g=>
   obtain⟨b,a⟩:=g;simp only[sB,An]at a;exact .base b a.1 (by show aR (ao t _) p=true;rw[<-kM];exact a.2)
  |@step i k _ c d e ih=>
   have e:dH (gn (af t) i) (gn (af t) k)=true:=e;rw[kM,kM]at e;obtain⟨x,b,a⟩:=(uH f ih.lt c).1 e;exact .step ih c d x b a
 .intro h
  induction h with
  |base hi d hp=>
   refine .base ⟨hi,?_⟩;simp only[sB,An];exact⟨d,by rw[kM];exact hp⟩
  |@step i k h c d x b a ih=>
   refine .step ih c d ?_;show dH (gn (af t) i) (gn (af t) k)=true;rw[kM,kM];exact(uH f h.lt c).2 ⟨x,b,a⟩
def ya(t:Tr)(op:List Bool)(p:List Int)(U:List Bool):Prop:=IsR t.cells.length (cY op) (oI (af t)) (λi=>i<t.cells.length/\sB (af t) op p i=true) U
theorem uI(c:am t=true){U:List Bool}(h:ya t op p U)(k:Nat):fq U k↔Rc (mG t) (λi=>cY op i=true) p k:=by
 rw[<-CF c];by_cases b:k<t.cells.length
 .exact h.iff k b
 .exact⟨λa=>absurd (uk h.len a) b,λa=>absurd ((CF c).1 a).lt b⟩
theorem nN{U:List Bool}(h:ya t op p U):U.length=t.cells.length:=h.len
theorem UE{U:List Bool}(h:jO t p U):ya t (t.cells.map cK) p U:=by
 have:=Gm h;rw[yAz]at this;exact this
theorem Mo(d:am t=true){U:List Bool}(e:jO t p U):ni t U q=true↔∀k,Rc (mG t) (λi=>cY (t.cells.map cK) i=true) p k->¬aR (ao t (k:Int)) q=true:=by
 have b:=UE e;constructor
 .intro h k c hq
  have a:=(uI d b k).2 c;have:=IC a c.lt hq;rw[h]at this;cases this
 .intro h
  refine AE λi hi a=>?_;have:=h i ((uI d b i).1 a)
  cases f:j7 t q i with
  |false=>rfl
  |true=>exact absurd f this
theorem rl(hi:i<op.length)(k:Nat):cY (op.set i true) k=true↔cY op k=true\/k=i:=by
 unfold cY;rw[yAe];by_cases e:i=k
 .subst e;simp[hi]
 .rw[L4 e]
  constructor
  .exact .inl
  .rintro(h|rfl)
   .exact h
   .exact absurd rfl e
def AZ(t:Tr)(i:Nat):Bool:=gt (bp t i)
def Ai(col:Nat->Bool)(mt:List Bool->Nat->Bool)(op0:List Bool):Nat->List Bool
 |0=>op0
 |i+1=>if(col i&& !(mt (Ai col mt op0 i) i))=true then(Ai col mt op0 i).set i true else Ai col mt op0 i
theorem zv(col:Nat->Bool)(mt:List Bool->Nat->Bool)(op0:List Bool):∀i,(Ai col mt op0 i).length=op0.length
 |0=>rfl
 |i+1=>by
  rw[Ai];split
  .rw[yBp];exact zv col mt op0 i
  .exact zv col mt op0 i
theorem I8{col:Nat->Bool}{mt:List Bool->Nat->Bool}{op0:List Bool}:∀{i:Nat}(k:Nat),i<=op0.length->(cY (Ai col mt op0 i) k=true↔cY op0 k=true\/(k<i/\col k=true/\mt (Ai col mt op0 k) k=false))
 |0,k,_=>by simp[Ai]
 |i+1,k,hi=>by
  have ih:=I8 (col:=col) (mt:=mt) (op0:=op0) (i:=i) k (by omega);rw[Ai];split
  .rename_i h
   simp only[An,yAI]at h;rw[rl (by rw[zv];omega),ih];constructor
   .rintro((a|⟨a,b⟩)|rfl)
    .exact .inl a
    .exact .inr ⟨by omega,b⟩
    .exact .inr ⟨by omega,h⟩
   .rintro(a|⟨a,b⟩)
    .exact .inl (.inl a)
    .by_cases e:k=i
     .exact .inr e
     .exact .inl (.inr ⟨by omega,b⟩)
  .rename_i h
   rw[ih];constructor
   .rintro(a|⟨a,b⟩)
    .exact .inl a
    .exact .inr ⟨by omega,b⟩
   .rintro(a|⟨a,b,c⟩)
    .exact .inl a
    .by_cases e:k=i
     .subst e;exact absurd (by simp[b,c]) h
     .exact .inr ⟨by omega,b,c⟩
def tn(a:List Bx)(i:Nat)(U:List Bool)(q:List Int):Bool:=aR (gn a i) q||(List.range U.length).any λk=>cY U k&&dH (gn a i) (gn a k)
theorem Mp{U:List Bool}:cY U k=true↔fq U k:=by
 unfold cY fq
 cases U[k]? with
 |none=>simp
 |some b=>simp
theorem zw(c:am t=true){U:List Bool}(g:ya t op p U)(hi:i<t.cells.length):tn (af t) i U p=true↔Mt (mG t) (λk=>cY op k=true) p i:=by
 have l:=nN g;simp only[tn,yAV,yBQ,yAJ,An,kM];constructor
 .rintro(h|⟨k,d,e,f⟩)
  .exact .inl h
  .obtain⟨x,a,b⟩:=(uH c hi (by omega)).1 f
   exact .inr ⟨k,x,(uI c g k).1 (Mp.1 e),a,b⟩
 .rintro(h|⟨k,x,d,e,f⟩)
  .exact .inl h
  .have j:=d.lt
   have j:k<t.cells.length:=j;exact .inr ⟨k,by omega,Mp.2 ((uI c g k).2 d),(uH c hi j).2 ⟨x,e,f⟩⟩
def Hj(t:Tr)(R:List Bool->List Int->List Bool)(p q:List Int)(op:List Bool)(i:Nat):Bool:=tn (af t) i (R op p) p&&tn (af t) i (R op q) q
def iZ(t:Tr)(R:List Bool->List Int->List Bool)(p q:List Int)(i:Nat):List Bool:=Ai (AZ t) (Hj t R p q) (t.cells.map cK) i
abbrev OO(op:List Bool):Nat->Prop:=λk=>cY op k=true
theorem X1(h:cY (t.cells.map cK) k=true):k<t.cells.length/\bd t k=true/\AZ t k=false:=by
 unfold cY at h;rw[ZW]at h;by_cases a:k<t.cells.length
 .rw[jq a]at h
  simp only[yAQ,yAl,cK,An,yAI]at h;exact⟨a,by rw[iY a];exact h.1,h.2⟩
 .rw[yAf (by omega)]at h
  simp at h
section
variable {t:Tr} {R:List Bool->List Int->List Bool} {p q:List Int}
theorem zx(i:Nat):(iZ t R p q i).length=t.cells.length:=by rw[iZ,zv,yAz]
theorem I9(k:Nat)(hi:i<=t.cells.length):cY (iZ t R p q i) k=true↔cY (t.cells.map cK) k=true\/(k<i/\AZ t k=true/\Hj t R p q (iZ t R p q k) k=false):=I8 k (by rw[yAz];exact hi)
theorem Q0(l:am t=true)(g:∀op x,op.length=t.cells.length->ya t op x (R op x))(m:∀k,Rc (mG t) (OO (t.cells.map cK)) p k->¬Rc (mG t) (OO (t.cells.map cK)) q k):∀i,i<=t.cells.length->∀k,Rc (mG t) (OO (iZ t R p q i)) p k->¬Rc (mG t) (OO (iZ t R p q i)) q k:=by
 intro i
 induction i with
 |zero=>intro _;exact m
 |succ i ih=>
  intro hi;have ih:=ih (by omega)
  have f:iZ t R p q (i+1)=if(AZ t i&& !(Hj t R p q (iZ t R p q i) i))=true then(iZ t R p q i).set i true else iZ t R p q i:=rfl
  rw[f];split
  .rename_i h
   simp only[An,yAI]at h;have c:=zx (t:=t) (R:=R) (p:=p) (q:=q) i
   have e:¬cY (iZ t R p q i) i=true:=λd=>by
    rcases(I9 i (by omega)).1 d with d|d
    .have:=(X1 d).2.2;rw[h.1]at this;cases this
    .omega
   refine Q7 (T:=mG t) (O:=OO (iZ t R p q i)) (λk=>rl (by omega) k) e ?_ ih;rintro⟨a,b⟩
   have j:Hj t R p q (iZ t R p q i) i=true:=by
    rw[Hj,(zw l (g _ p c) (by omega)).2 a,(zw l (g _ q c) (by omega)).2 b];rfl
   rw[h.2]at j;cases j
  .exact ih
end
def qo(t:Tr)(op:List Bool):Nat->Nat->Bool
 |0,_=>false
 |f+1,i=>if bd t i=true then cY op i else(qo t op f (bp t i).low.toNat&&qo t op f (bp t i).high.toNat)
def ab(t:Tr)(op:List Bool)(i:Nat):Bool:=qo t op (t.cells.length-i) i
theorem OP(g:am t=true)(op:List Bool):∀(f i:Nat),i<t.cells.length->t.cells.length-i<=f->qo t op (f+1) i=qo t op f i:=by
 intro f
 induction f with
 |zero=>intro i j k;omega
 |succ f ih=>
  intro i hi hf;show(if bd t i=true then cY op i else(qo t op (f+1) (bp t i).low.toNat&&qo t op (f+1) (bp t i).high.toNat))=(if bd t i=true then cY op i else(qo t op f (bp t i).low.toNat&&qo t op f (bp t i).high.toNat))
  cases e:bd t i with
  |true=>rfl
  |false=>
   obtain⟨_,_,_,a,b,c,d,_⟩:=gh g hi e;rw[ih _ b (by omega),ih _ d (by omega)]
theorem DN{t:Tr}(a:am t=true)(op:List Bool){i:Nat}(hi:i<t.cells.length):∀d,qo t op (t.cells.length-i+d) i=ab t op i
 |0=>rfl
 |d+1=>by rw[<-Nat.add_assoc,OP a op _ i hi (by omega)];exact DN a op hi d
theorem Mq(e:am t=true)(op:List Bool):Ho (mG t) (cY op) (ab t op):=by
 intro i hi;have hi:i<t.cells.length:=hi;obtain⟨g,k⟩:∃g,t.cells.length-i=g+1:=⟨t.cells.length-i-1,by omega⟩;show qo t op (t.cells.length-i) i=_;rw[k,qo];show(if bd t i=true then _ else _)=(if bd t i=true then _ else _)
 cases l:bd t i with
 |true=>rfl
 |false=>
  obtain⟨_,_,_,a,b,c,d,_⟩:=gh e hi l;have f:=DN e op b (g-(t.cells.length-(bp t i).low.toNat));have j:=DN e op d (g-(t.cells.length-(bp t i).high.toNat));rw[show t.cells.length-(bp t i).low.toNat+(g-(t.cells.length-(bp t i).low.toNat))=g by omega]at f;rw[show t.cells.length-(bp t i).high.toNat+(g-(t.cells.length-(bp t i).high.toNat))=g by omega]at j;rw[L4 (by decide),L4 (by decide),f,j];rfl
theorem Mr(a:am t=true)(op:List Bool)(hi:i<t.cells.length):ab t op i=if bd t i=true then cY op i else(ab t op (bp t i).low.toNat&&ab t op (bp t i).high.toNat):=Mq a op i hi
def kR(t:Tr)(op:List Bool):Nat->List Bool
 |0=>(List.replicate t.cells.length false).set 0 true
 |i+1=>if(cY (kR t op i) i&&(!bd t i&& !ab t op i))=true then((kR t op i).set (bp t i).low.toNat true).set (bp t i).high.toNat true else kR t op i
def kp(t:Tr)(op:List Bool)(i:Nat):Bool:=cY (kR t op t.cells.length) i
theorem uJ(t:Tr)(op:List Bool):∀i,(kR t op i).length=t.cells.length
 |0=>by simp[kR]
 |i+1=>by
  rw[kR];split
  .rw[yBp,yBp];exact uJ t op i
  .exact uJ t op i
theorem zy{t:Tr}(p:am t=true)(op:List Bool):∀(i:Nat),i<=t.cells.length->∀j,j<t.cells.length->(cY (kR t op i) j=true↔j=0\/∃k,k<i/\cY (kR t op k) k=true/\bd t k=false/\ab t op k=false/\(j=(bp t k).low.toNat\/j=(bp t k).high.toNat))
 |0,_,j,g=>by
  simp only[kR,cY,yAe,List.length_replicate];by_cases e:0=j
  .subst e;simp[g]
  .rw[L4 e];simp[g];omega
 |i+1,hi,j,g=>by
  have ih:=zy p op i (by omega) j g;rw[kR];split
  .rename_i h
   simp only[An,yAI]at h;obtain⟨n,l,o⟩:=h;obtain⟨_,_,_,a,b,c,d,_⟩:=gh p (show i<t.cells.length by omega) l;rw[rl (by rw[yBp,uJ];exact d),rl (by rw[uJ];exact b),ih];constructor
   .rintro(((h|⟨k,m,h⟩)|h)|h)
    .exact .inl h
    .exact .inr ⟨k,by omega,h⟩
    .exact .inr ⟨i,by omega,n,l,o,.inl h⟩
    .exact .inr ⟨i,by omega,n,l,o,.inr h⟩
   .rintro(h|⟨k,m,h⟩)
    .exact .inl (.inl (.inl h))
    .by_cases e:k=i
     .subst e
      rcases h.2.2.2 with h|h
      .exact .inl (.inr h)
      .exact .inr h
     .exact .inl (.inl (.inr ⟨k,by omega,h⟩))
  .rename_i h
   rw[ih];constructor
   .rintro(f|⟨k,m,f⟩)
    .exact .inl f
    .exact .inr ⟨k,by omega,f⟩
   .rintro(f|⟨k,m,f⟩)
    .exact .inl f
    .by_cases e:k=i
     .subst e
      exact absurd (by simp[f.1,f.2.1,f.2.2.1]) h
     .exact .inr ⟨k,by omega,f⟩
theorem Hk(f:am t=true)(op:List Bool)(hi:i<t.cells.length):cY (kR t op i) i=kp t op i:=by
 rw[Bool.eq_iff_iff,kp,zy f op i (by omega) i hi,zy f op t.cells.length (yAd _) i hi];constructor
 .rintro(h|⟨k,j,h⟩)
  .exact .inl h
  .exact .inr ⟨k,by omega,h⟩
 .rintro(h|⟨k,j,l,g,m,e⟩)
  .exact .inl h
  .obtain⟨_,_,_,a,b,c,d,_⟩:=gh f j g
   exact .inr ⟨k,by rcases e with e|e<;>omega,l,g,m,e⟩
theorem Mu(d:am t=true)(op:List Bool):ZA (mG t) (ab t op) (kp t op):=by
 intro j e;rw[kp,zy d op t.cells.length (yAd _) j e];constructor
 .rintro(h|⟨k,a,b,c⟩)
  .exact .inl h
  .exact .inr ⟨k,a,by rw[<-Hk d op a];exact b,c⟩
 .rintro(h|⟨k,a,b,c⟩)
  .exact .inl h
  .exact .inr ⟨k,a,by rw[Hk d op a];exact b,c⟩
def yb(K:Nat->Bool)(n:Nat):List Nat:=(List.range n).filter K
def bZ(K:Nat->Bool)(i:Nat):Nat:=(yb K i).length
theorem A0(K:Nat->Bool)(n:Nat):yb K (n+1)=if K n=true then yb K n++[n]else yb K n:=by
 simp only[yb,yBo,yBD];cases h:K n<;>simp[h]
theorem nw(K:Nat->Bool)(n:Nat):bZ K (n+1)=if K n=true then bZ K n+1 else bZ K n:=by
 unfold bZ;rw[A0];split<;>simp
theorem OQ(h:i<=j):bZ K i<=bZ K j:=by
 induction h with
 |refl=>exact yAd _
 |step _ ih=>rw[nw];split<;>omega
theorem yc(K:Nat->Bool)(i:Nat):bZ K i<=i:=by
 have:=yB7 K (List.range i);simpa[bZ,yb]using this
theorem oE(h:i<j)(a:K i=true):bZ K i<bZ K j:=by
 have:=OQ (K:=K) (show i+1<=j from h);rw[nw,yAb a]at this;omega
theorem DO(hi:K i=true)(b:K j=true)(h:bZ K i=bZ K j):i=j:=by
 rcases yBG i j with a|a|a
 .have:=oE a hi;omega
 .exact a
 .have:=oE a b;omega
theorem Hl{K:Nat->Bool}{i:Nat}(a:K i=true):∀{n:Nat},i<n->(yb K n)[bZ K i]?=some i
 |0,h=>by omega
 |n+1,h=>by
  rw[A0];by_cases e:i=n
  .subst e;rw[yAb a];exact List.getElem?_concat_length
  .have ih:=Hl a (n:=n) (by omega)
   split
   .rw[ZX (th.1 ih).1];exact ih
   .exact ih
theorem wc(h:m<bZ K n):∃i,i<n/\K i=true/\bZ K i=m:=by
 induction n with
 |zero=>simp[bZ,yb]at h
 |succ n ih=>
  rw[nw]at h;split at h
  .rename_i c
   by_cases e:m=bZ K n
   .exact⟨n,by omega,c,e.symm⟩
   .obtain⟨i,a,b⟩:=ih (by omega);exact⟨i,by omega,b⟩
  .obtain⟨i,a,b⟩:=ih h;exact⟨i,by omega,b⟩
def gW(t:Tr)(op:List Bool)(i:Nat):Cel:=if ab t op i=true then bn bi else if bd t i=true then bp t i else⟨(bp t i).joint,(bZ (kp t op) (bp t i).low.toNat:Nat),(bZ (kp t op) (bp t i).high.toNat:Nat),bi⟩
def nO(t:Tr)(op:List Bool)(n:Nat):List Cel:=(yb (kp t op) n).map (gW t op)
def eZ(t:Tr)(op:List Bool):Tr:=⟨t.root,nO t op t.cells.length⟩
theorem DP(t:Tr)(op:List Bool)(n:Nat):(nO t op n).length=bZ (kp t op) n:=by simp[nO,bZ]
theorem OR(t:Tr)(op:List Bool)(n:Nat):nO t op (n+1)=if kp t op n=true then nO t op n++[gW t op n]else nO t op n:=by
 unfold nO;rw[A0];split<;>simp
theorem DQ(hi:i<t.cells.length)(a:kp t op i=true):(eZ t op).cells[bZ (kp t op) i]?=some (gW t op i):=by
 show(nO t op t.cells.length)[_]?=_;rw[nO,ZW,Hl a hi];rfl
theorem CG(hi:i<t.cells.length):bC (gW t op i)=(ab t op i||bd t i):=by
 unfold gW
 cases b:ab t op i with
 |true=>simp[gY]
 |false=>
  rw[L4 (by decide)]
  cases a:bd t i with
  |true=>rw[yAb rfl,<-iY hi,a];rfl
  |false=>
   rw[L4 (by decide)];simp[bC]
section
variable {t:Tr} {op:List Bool}
theorem Q1(a:am t=true):kp t op 0=true:=(Mu a op 0 (Tq a).pos).2 (.inl rfl)
theorem Mv(n:am t=true)(hi:i<t.cells.length)(r:bd t i=false):kp t op (bp t i).low.toNat=(kp t op i&& !ab t op i)/\kp t op (bp t i).high.toNat=(kp t op i&& !ab t op i):=by
 obtain⟨_,_,_,a,b,c,d,e⟩:=gh n hi r;have m:=Kr n
 have key:∀j,(j=(bp t i).low.toNat\/j=(bp t i).high.toNat)->kp t op j=(kp t op i&& !ab t op i):=by
  intro j p
  have q:i<j/\j<t.cells.length:=by rcases p with rfl|rfl<;>omega
  rw[Bool.eq_iff_iff,Mu n op j q.2];simp only[An,yAI];constructor
  .rintro(h|⟨k,l,o,f,u,g⟩)
   .omega
   .have l:k<t.cells.length:=l
    have f:bd t k=false:=f;have g:j=(bp t k).low.toNat\/j=(bp t k).high.toNat:=g;by_cases s:k=i
    .subst s;exact⟨o,u⟩
    .obtain⟨d1,d2,d3,d4⟩:=m.dif k i _ _ (jq l) (jq hi) (by rw[<-iY l];exact f) (by rw[<-iY hi];exact r) s
     obtain⟨_,_,_,v,x,y,z,A⟩:=gh n l f;exfalso;rcases p with rfl|rfl<;>rcases g with g|g<;>omega
  .rintro⟨o,f⟩
   exact .inr ⟨i,hi,o,r,f,p⟩
 exact⟨key _ (.inl rfl),key _ (.inr rfl)⟩
def yd(K:Nat->Bool)(n:Nat)(M:OL):OL:=(yb K n).map λi=>(M[i]?).getD none
theorem mW{M:OL}{o:Option Bx}(hi:i<n)(a:K i=true)(h:M[i]?=some o):(yd K n M)[bZ K i]?=some o:=by
 rw[yd,ZW,Hl a hi,yAQ,h];rfl
theorem uK(K:Nat->Bool)(n:Nat)(M:OL):(yd K n M).length=bZ K n:=by simp[yd,bZ]
theorem Mw{M M':OL}(h:∀i,i<n->K i=true->M[i]?=M'[i]?):yd K n M=yd K n M':=by
 unfold yd;refine List.map_congr_left λi hi=>?_;simp only[yb,yA5,yAJ]at hi;rw[h i hi.1 hi.2]
theorem Aj(hv:am t=true)(hf:∀i,i<t.cells.length->bd t i=true->dt (bp t i).v=true){L:OL}(hL:cy t=some L):cy (eZ t op)=some (yd (kp t op) t.cells.length L):=by
 have U:=gX hL;obtain⟨z1,z2,z3,z4,z5⟩:=ba.1 U;have q:(eZ t op).cells.length=bZ (kp t op) t.cells.length:=DP t op _;have h0:=Q1 (op:=op) hv
 have bk:0<bZ (kp t op) t.cells.length:=by
  have:=oE (K:=kp t op) (show 0<t.cells.length by omega) h0;omega
 have bq:=yc (kp t op) t.cells.length;have Z:gi (eZ t op)=true:=ba.2 ⟨by omega,by omega,z3,z4,z5⟩;have H:∀i,i<t.cells.length->bd t i=false->_:=λi hi s=>Mv (op:=op) hv hi s;have T:∀i,i<t.cells.length->bd t i=false->_:=λi hi s=>gh hv hi s;have a5:=λi(hi:i<t.cells.length)(N:kp t op i=true)=>DQ (t:=t) (op:=op) hi N
 have a6:∀e:Cel,∀k,ab t op k=false->bd t k=false->bp t k=e->gW t op k=⟨e.joint,(bZ (kp t op) e.low.toNat:Nat),(bZ (kp t op) e.high.toNat:Nat),bi⟩:=λe k h1 h2 h3=>by rw[gW,L4 (by rw[h1];decide),L4 (by rw[h2];decide),h3]
 generalize kp t op=K at *
 have hP:=iM (P:=λk M=>BOk t k M/\mb (bZ K t.cells.length) ((eZ t op).cells.drop (bZ K k)) (bZ K k) (yd K t.cells.length M)=cy (eZ t op)) hL ⟨me U,by
  rw[cy,yAb Z,q];have W:bZ K 0=0:=rfl;rw[W,yCh]
  congr 1
  apply yAK;intro m;by_cases O:m<bZ K t.cells.length
  .obtain⟨i,hi,N,rfl⟩:=wc O
   by_cases e:i=0
   .subst e
    rw[mW (o:=some t.root) hi N (by simp[fE])];simp[fE,W,eZ]
   .have hb:(fE t)[i]?=some none:=by
     obtain⟨i',rfl⟩:∃i',i=i'+1:=⟨i-1,by omega⟩;simp[fE,yAx];omega
    rw[mW hi N hb];have a7:=oE (show 0<i by omega) h0;rw[W]at a7;obtain⟨m',a2⟩:∃m',bZ K i=m'+1:=⟨bZ K i-1,by omega⟩;rw[a2]at O|-;simp[fE,yAx,q];omega
  .rw[yAf (by rw[uK];omega),yAf (by simp[fE,q];omega)]⟩ (by
  rintro k e M M' N ⟨E,hp⟩ O;refine⟨mf E O,?_⟩;rw[<-hp];have n:=(th.1 N).1
  have C:bp t k=e:=by simp[bp,N]
  have F:bd t k=bC e:=by rw[iY n,C]
  obtain⟨b,hb,B⟩:=eX O
  have same:(bC e=true\/K k=false\/ab t op k=true)->yd K t.cells.length M'=yd K t.cells.length M:=by
   intro G;rcases B with⟨_,_,rfl⟩|⟨s,J,_,_,_,rfl⟩
   .rfl
   .refine Mw λi hi f=>?_
    have D:bd t k=false:=by rw[F];exact s
    obtain⟨z,A⟩:=H k n D
    have a8:(K k&& !ab t op k)=false:=by
     rcases G with G|G|G
     .rw[s]at G;cases G
     .rw[G];rfl
     .rw[G];simp
    rw[a8,C]at z A;rw[i8 E.len J,L4 (by rintro rfl;rw[f]at A;cases A),L4 (by rintro rfl;rw[f]at z;cases z)]
  cases g:K k with
  |false=>
   rw[same (.inr (.inl g)),nw,L4 (by rw[g];decide)]
  |true=>
   rw[nw,yAb g];have Q:=mW n g hb;have I:=a5 k n g;refine(nQ I ?_).symm;have p:=CG (op:=op) n
   cases r:ab t op k with
   |true=>
    rw[same (.inr (.inr r))]
    have u:gW t op k=bn bi:=by rw[gW,yAb r]
    rw[u,iO (t:=t) Q (gY _),yAb (show dt (bn bi).v=true from CK)]
   |false=>
    rw[r,Bool.false_or,F]at p;rcases B with⟨s,ad,R⟩|⟨s,J,hh,a1,ax,R⟩
    .rw[same (.inl s)]
     have u:gW t op k=e:=by rw[gW,L4 (by rw[r];decide),yAb (by rw[F];exact s),C]
     rw[u,iO (t:=t) Q s,yAb ad]
    .have D:bd t k=false:=by rw[F];exact s
     obtain⟨_,_,_,a,V,c,d,ne⟩:=T k n D;obtain⟨z,A⟩:=H k n D;rw[g,r]at z A;rw[C]at a V c d ne z A;have z:K e.low.toNat=true:=z;have A:K e.high.toNat=true:=A;have u:gW t op k=⟨e.joint,(bZ K e.low.toNat:Nat),(bZ K e.high.toNat:Nat),bi⟩:=a6 e k r D C;have n1:=oE a g;have n2:=oE V z;have n3:=oE c g;have n4:=oE d A;have n5:bZ K e.low.toNat≠bZ K e.high.toNat:=λh=>ne (DO z A h);rw[u];rw[u,s]at p;have ay:i7 (bZ K t.cells.length) (bZ K k) ⟨e.joint,(bZ K e.low.toNat:Nat),(bZ K e.high.toNat:Nat),bi⟩=true:=dL.2 ⟨by simp only;omega,by simp only;omega,by simp only;omega,by simp only;omega,by simp only;omega,CJ⟩;rw[oG Q p ay hh (by simp only[yAm];exact mW V z a1) (by simp only[yAm];exact mW d A ax)]
     congr 1
     simp only[yAm];subst R;apply yAK;intro m;by_cases O:m<bZ K t.cells.length
     .obtain⟨i,hi,f,rfl⟩:=wc O
      rw[Hs n5 (by rw[uK];exact n2) (by rw[uK];exact n4)];have l:=i8 (x:=some (br b e.joint)) (y:=some (bv b e.joint)) (j:=i) E.len J;by_cases X:i=e.high.toNat
      .subst X
       rw[yAb rfl]at l;rw[yAb rfl,mW hi f l]
      .rw[L4 X]at l
       rw[L4 (λh=>X (DO f A h))];by_cases Y:i=e.low.toNat
       .subst Y
        rw[yAb rfl]at l;rw[yAb rfl,mW hi f l]
       .rw[L4 Y]at l
        rw[L4 (λh=>Y (DO f z h))];have S:M[i]?=some (M[i]'(by rw[E.len];exact hi)):=an _;rw[mW hi f (l.trans S),mW hi f S]
     .rw[yAf (by rw[yBp,yBp,uK];omega),yAf (by rw[uK];omega)])
 rw[<-hP.2,yB2 (by rw[q];exact yAd _)];rfl
theorem CH(b:am t=true):∀i,i<t.cells.length->bd t i=true->dt (bp t i).v=true:=by
 obtain⟨L,hL⟩:=yAy.1 b;intro i hi a;exact EV hL (jq hi) (by rw[<-iY hi];exact a)
theorem H6(a:am t=true):am (eZ t op)=true:=by
 obtain⟨L,hL⟩:=yAy.1 a;rw[am,Aj a (CH a) hL];rfl
theorem EP(a:am t=true)(hi:i<t.cells.length)(d:kp t op i=true):ao (eZ t op) ((bZ (kp t op) i:Nat):Int)=ao t (i:Int):=by
 obtain⟨L,hL⟩:=yAy.1 a;obtain⟨b,c⟩:=(nP hL).pre i hi;rw[mi hL c];exact mi (Aj a (CH a) hL) (mW hi d c)
theorem tp(t:Tr)(op:List Bool):(eZ t op).cells.length=bZ (kp t op) t.cells.length:=DP t op _
theorem Ts(j:am t=true)(f:∀k,k<t.cells.length->bd t k=true->cY op k=false->cK (bp t k)=false):Mrg (mG t) (mG (eZ t op)) (ab t op) (kp t op) (bZ (kp t op)) (OO ((eZ t op).cells.map cK)):=by
 refine⟨λi hi b=>?_,λm d=>?_,λi x hi b=>?_,λi hi b=>?_⟩
 .show _<(eZ t op).cells.length
  rw[tp];exact oE hi b
 .have d:m<(eZ t op).cells.length:=d
  rw[tp]at d;exact wc d
 .show aR (ao (eZ t op) _) x=true↔aR (ao t _) x=true
  rw[EP j hi b]
 .show cY ((eZ t op).cells.map cK) (bZ (kp t op) i)=true↔_
  have e:cY ((eZ t op).cells.map cK) (bZ (kp t op) i)=cK (gW t op i):=by
   unfold cY;rw[ZW,DQ hi b];rfl
  rw[e];have g:=Mr j op hi
  cases a:ab t op i with
  |true=>rw[gW,yAb a];decide
  |false=>
   rw[gW,L4 (by rw[a];decide)]
   cases c:bd t i with
   |true=>
    rw[a,yAb c]at g;rw[yAb rfl,f i hi c g.symm]
   |false=>
    rw[L4 (by decide)];have:=CG (op:=op) hi;rw[a,c,gW,L4 (by rw[a];decide),L4 (by rw[c];decide)]at this;simp only[cK,this,Bool.false_or,yAG]
end
def zz(R:Tr->List Bool->List Int->List Bool):Prop:=∀t op x,op.length=t.cells.length->ya t op x (R t op x)
theorem OS:∃R,zz R:=by
 refine⟨λt op x=>Classical.choose (Gf t.cells.length (cY op) (oI (af t)) (λi=>i<t.cells.length/\sB (af t) op x i=true)),λt op x _=>?_⟩;exact Classical.choose_spec (Gf t.cells.length (cY op) (oI (af t)) (λi=>i<t.cells.length/\sB (af t) op x i=true))
def mN(R:Tr->List Bool->List Int->List Bool)(t:Tr)(p q:List Int):List Bool:=iZ t (R t) p q t.cells.length
def lr(R:Tr->List Bool->List Int->List Bool)(t:Tr)(p q:List Int):Tr:=eZ t (mN R t p q)
section
variable {R:Tr->List Bool->List Int->List Bool} {t:Tr} {p q:List Int} {U:List Bool}
theorem tr(h:f8 t p q U=true):am t=true/\aR t.root p=true/\aR t.root q=true/\ni t U q=true:=by
 simp only[f8,An]at h;exact⟨h.1.1.1,h.1.1.2,h.1.2,h.2⟩
theorem Tt(b:k<t.cells.length)(d:bd t k=true)(h:cY (mN R t p q) k=false):cK (bp t k)=false:=by
 cases c:cK (bp t k)with
 |false=>rfl
 |true=>
  have a:cY (t.cells.map cK) k=true:=by unfold cY;rw[ZW,jq b];exact c
  have:=(I9 (R:=R t) (p:=p) (q:=q) k (yAd t.cells.length)).2 (.inl a);have h:cY (iZ t (R t) p q t.cells.length) k=false:=h;rw[h]at this;cases this
theorem Q2(d:am t=true):Mrg (mG t) (mG (lr R t p q)) (ab t (mN R t p q)) (kp t (mN R t p q)) (bZ (kp t (mN R t p q))) (OO ((lr R t p q).cells.map cK)):=Ts d λ_ a b c=>Tt a b c
theorem Q3(c:zz R)(d:jO t p U)(hs:f8 t p q U=true):∀k,Rc (mG t) (OO (mN R t p q)) p k->¬Rc (mG t) (OO (mN R t p q)) q k:=by
 obtain⟨a,_,_,b⟩:=tr hs;exact Q0 a (λop x h=>c t op x h) (Tu ((Mo a d).1 b)) _ (yAd _)
theorem Q4(f:zz R)(g:jO t p U)(hs:f8 t p q U=true)(i:jO (lr R t p q) p V):f8 (lr R t p q) p q V=true:=by
 obtain⟨b,d,e,j⟩:=tr hs;have a:am (lr R t p q)=true:=H6 b;have c:ni (lr R t p q) V q=true:=(Mo a i).2 (Q8 (Tq b) (Mq b _) (Q2 b) (Q6 (Q3 f g hs)));simp only[f8,An];exact⟨⟨⟨a,d⟩,e⟩,c⟩
theorem Q5:(lr R t p q).cells.length<=t.cells.length:=by
 show(eZ _ _).cells.length<=_;rw[tp];exact yc _ _
end
theorem TM:nA t.cells op 3 i=jM t i:=by
 unfold nA jM
 cases h:t.cells[i]? with
 |none=>rfl
 |some c=>
  simp only[sj,cK,gt];cases a:bC c<;>simp[bne]
theorem Rl(h:Rch t.cells.length (jM t) (lh t) (mL t p) i):∃j,mL t p j/\Pth t.cells.length (nA t.cells op 3) (oH (af t)) j i:=by
 induction h with
 |base h=>
  have a:=h;simp only[mL,An]at a;exact⟨_,h,.nil a.1 (by rw[TM];exact a.2.1)⟩
 |step _ c d e ih=>
  obtain⟨j,b,hp⟩:=ih;refine⟨j,b,hp.snoc c (by rw[TM];exact d) ?_⟩;simpa[lh,oH,ao,kh]using e
theorem TN(h:(gD js ms t p q w).2.2=2):am t=true/\aR t.root p=true/\aR t.root q=true/\jV t (jU js ms w t) p q 3=false:=by
 have a:∀c,(oX js ms t (jU js ms w t) c).2.2≠2:=by
  intro c;unfold oX;split<;>simp
 unfold gD at h;split at h
 .rename_i b
  simp only[Ca,An,Is]at b;refine⟨b.2,b.1.1.2,b.1.2,?_⟩;unfold GA at h;split at h
  .simp at h
  .split at h
   .assumption
   .split at h
    .exact absurd h (a _)
    .split at h
     .simp at h
     .exact absurd h (a _)
 .simp at h
theorem Ky{U:List Bool}(c:jO t p U)(h:(gD js ms t p q w).2.2=2):f8 t p q U=true:=by
 obtain⟨k,hp,hq,d⟩:=TN h
 have g:ni t U q=true:=by
  rw[A8 c];intro i f
  cases e:j7 t q i with
  |false=>rfl
  |true=>
   obtain⟨j,b,a⟩:=Rl (op:=jU js ms w t) f;simp only[mL,An]at b
   have:jV t (jU js ms w t) p q 3=true:=by
    unfold jV;rw[NP];exact⟨j,i,by simpa[mO,j7,ao,kh]using b.2.2,by simpa[mO,j7,ao,kh]using e,a⟩
   rw[d]at this;cases this
 simp only[f8,k,hp,hq,g,yBj]
theorem Jf{s:Sce}{p q:List Int}{w cells:Int}:∀(f:Nat)(t:Tr),(j9 s p q w cells f t).2=2->(gD s.js s.ms (j9 s p q w cells f t).1 p q w).2.2=2
 |0,t,h=>by simp[j9]at h
 |f+1,t,h=>by
  simp only[j9]at h|-;split
  .rename_i a
   rw[yAb a]at h;split
   .rename_i b;rw[yAb b]at h;simp at h
   .rename_i b;rw[L4 b]at h;exact Jf f _ h
  .rename_i a;rw[L4 a]at h;exact h
theorem Rm{cells:Int}(h:(mU s p q w cells).2=2):(gD s.js s.ms (mU s p q w cells).1 p q w).2.2=2:=by
 unfold mU at h|-;split
 .rename_i a;rw[yAb a]at h;exact Jf _ _ h
 .rename_i a;rw[L4 a]at h;simp at h
theorem MK{cells:Int}{U:List Bool}(f:az s=0)(e:DeI s (mU s p q w cells).1)(hC:yp s (mU s p q w cells).1)(g:jO (mU s p q w cells).1 p U)(h:(mU s p q w cells).2=2):jK s (mU s p q w cells).1 p q U=true:=by
 have k:=Ky g (Rm h);have j:=e.root;have l:=e.valid;generalize(mU s p q w cells).1=t at *
 have b:kx s t=true:=Df λi hi d=>by
  unfold jh at d;split at d
  .rename_i c a
   simp only[gt,An,yAU]at d;have:=hC i hi (by simp[er,a,d.2]);simp only[er,a]at this;unfold iU;rw[a];exact this
  .cases d
 simp only[jK,om,f,l,k,b,j,ym,yBJ,yBj]
theorem TP{U:List Bool}(z:zz R)(A:jO t p U)(v:jK s t p q U=true)(B:jO (lr R t p q) p V):jK s (lr R t p q) p q V=true:=by
 simp only[jK,om,An,Is]at v;obtain⟨⟨⟨⟨x,E⟩,C⟩,D⟩,c⟩:=v;have g:=Q4 z A D B;have r:=(tr g).1
 have d:kx s (lr R t p q)=true:=Df λm o b=>by
  unfold lr at o b|-;generalize mN R t p q=op at *;rw[tp]at o;obtain⟨i,hi,e,rfl⟩:=wc o;have a:=DQ (op:=op) hi e;have l:=EP (op:=op) E hi e;unfold jh at b;rw[a]at b;simp only at b
  have f:bd t i=true/\gW t op i=bp t i:=by
   unfold gW at b|-;split at b
   .simp[gt,bn,bi]at b
   .split at b
    .rename_i y u;rw[L4 y,yAb u];exact⟨u,rfl⟩
    .simp[gt,bi]at b
  have j:t.cells[i]?=some (bp t i):=jq hi
  have n:jh t i=true:=by
   unfold jh;rw[j];simp only;rw[<-f.2];exact b
  have k:iU s t i=true:=by
   rw[kx,IV]at c;have:=c i (yAJ.2 hi);rw[n]at this;simpa using this
  unfold iU at k|-;rw[j]at k;rw[a];simp only at k|-;rw[f.2,l];exact k
 simp only[jK,om,x,r,g,d,yBJ,yBz,yAs];exact C
theorem AB(V:List Bool):(V.map B).all jG=true:=by
 rw[IV];intro x a;obtain⟨b,_,rfl⟩:=yAt.1 a;rfl
theorem Wf(t:Tr)(v:am t=true):aO prog 65 [.pv (eo t)] [] [] (.srow [.sl ((af t).map iv)] 4 1 ((t.cells.map cK).map B)):=by
 have A:=bP v;obtain⟨E,F,G,H,I⟩:=ba.1 A;have y:=PI t v;refine Dp func65 λC hP hN=>?_
 with_reducible repeat' (first|refine Sp.h ?_|((first|refine Wd ?_|refine Ss.h ?_|refine Sc.h (y) ?_|(refine Sb.h ?_ ?_ ?_<;>(try intro hgd)<;>try exact Xy))<;>simp -implicitDefEqProofs (maxSteps:=2000000) [hP,hN,show(1:Int)*t.cells.length<=281474976710656 by omega,show(t.cells.length:Int)<=281474976710656 by omega,show(t.cells.length:Int)<=9223372036854775807 by omega,show 0<t.cells.length by omega]<;>try refine Ya ?_)|refine X2 ?_ ?_|(refine Xd ?_ ?_<;>intro hcd<;>try exact Xx))
 refine WP.loopN [5] t.cells.length (λi st=>st.t 2=.ptr 2 0/\st.t 3=.ptr 3 0/\st.t 14=.pv (.sl (t.cells.map bD))/\st.t 15=.pv (Z t.cells.length)/\st.t 16=.pv (Z i)/\st.h 5=none/\st.h 3=some (.box [.pv (.sl ((af t).map iv)),.arr 11 t.cells.length] true false)/\st.h 2=some (.box [.pv (.val (.slice none 0 0)),.pv (.val (.slice none 0 0))] true false)/\st.h 11=some (.row 4 1 ((rR t i).map B) 0)) (by simp[Gk]) ?_;rintro i st hi ⟨r,g3,g,j,k,n,m,l,a⟩;have p:=Iz hi;by_cases b:i<t.cells.length
 .have x:=ai b (by omega)
  generalize s:t.cells[i]=c at *
  have o:t.cells[i]?=some c:=by rw[an b,s]
  have cl:=AD c;have cc:=Iy c;have f:=Gl b o;have e:cK c=(bC c&& !(gt c)):=rfl;generalize rR t i=U at *;generalize rR t (i+1)=D at *
  have q:i<U.length:=by omega
  cases d:bC c with
  |false=>
   rw[d]at cl;rw[d,yAG]at e;rw[e]at f
   with_reducible repeat' (first|refine Sp.h ?_|((first|refine Wd ?_|refine Ss.h ?_|refine Sc.h (cl) ?_|(refine Sb.h ?_ ?_ ?_<;>(try intro hgd)<;>try exact Xy))<;>simp -implicitDefEqProofs (maxSteps:=2000000) [hP,hN,r,g3,g,j,k,n,m,l,a,b,x,o,s,p,q]<;>try refine Ya ?_)|refine X2 ?_ ?_|(refine Xd ?_ ?_<;>intro hcd<;>try exact Xx))
   all_goals simp[<-f,yBv]
  |true=>
   rw[d]at cl;rw[d,yAs]at e;rw[e]at f;generalize gt c=z at *
   with_reducible repeat' (first|refine Sp.h ?_|((first|refine Wd ?_|refine Ss.h ?_|refine Sc.h (cl) ?_|refine Sc.h (cc) ?_|(refine Sb.h ?_ ?_ ?_<;>(try intro hgd)<;>try exact Xy))<;>simp -implicitDefEqProofs (maxSteps:=2000000) [hP,hN,r,g3,g,j,k,n,m,l,a,b,x,o,s,p,q]<;>try refine Ya ?_)|refine X2 ?_ ?_|(refine Xd ?_ ?_<;>intro hcd<;>try exact Xx))
   all_goals simp[<-f,yBv]
 .have u:i=t.cells.length:=by omega
  subst u;rw[IA]at a
  with_reducible repeat' (first|refine Sp.h ?_|((first|refine Wd ?_|refine Ss.h ?_|(refine Sb.h ?_ ?_ ?_<;>(try intro hgd)<;>try exact Xy))<;>simp -implicitDefEqProofs (maxSteps:=2000000) [hP,hN,r,g3,g,j,k,n,m,l,a,b]<;>try refine Ya ?_)|refine X2 ?_ ?_|(refine Xd ?_ ?_<;>intro hcd<;>try exact Xx))
theorem Wg(a:List Bx)(op:List Bool)(q:List Int)(V:List Bool)(hb:a.length=op.length)(h1:1<=op.length)(hn:op.length<=2048)(N:∀b∈a,b.length<=9223372036854775807)(Q:IsR op.length (cY op) (oI a) (λi=>i<op.length/\sB a op q i=true) V):aO prog 116 [.pv (kZ a op),.pv (zs q)] [] [] (.nrow 4 1 (V.map B)):=by
 obtain⟨n,u⟩:∃n,op.length=n:=⟨_,rfl⟩;have O:=It op.length (cY op) (oI a) (sB a op q);have R:=BW (sB a op q) op.length;have J:=JU a op _ _ V _ hb hn N (by omega) O Q;rw[u]at Q hn hb h1 R J O;refine Dp func116 λC hP hN=>?_
 with_reducible repeat' (first|refine Sp.h ?_|((first|refine Wh [6] ?_|refine Ss.h ?_|(refine Sb.h ?_ ?_ ?_<;>(try intro hgd)<;>try exact Xy))<;>simp -implicitDefEqProofs (maxSteps:=2000000) [hP,hN,u,show(1:Int)*n<=281474976710656 by omega,show(n:Int)<=281474976710656 by omega,show(n:Int)<=9223372036854775807 by omega])|refine X2 ?_ ?_|(refine Xd ?_ ?_<;>intro hcd<;>try exact Xx))
 refine WP.loopN [] n (λi st=>st.t 1=.pv (zs q)/\st.t 2=.ptr 2 0/\st.t 5=.arr 12 n/\st.t 6=.arr 6 (fF (sB a op q) i).length/\st.t 14=.pv (.sl (op.map B))/\st.t 15=.pv (Z n)/\st.t 16=.pv (Z i)/\st.h 2=some (.box [.pv (.sl (a.map iv)),.pv (.sl (op.map B))] true false)/\st.h 12=some (.row 4 1 ((fU n (sB a op q) i).map B) 0)/\st.h 6=some (.row 3 1 ((fF (sB a op q) i).map zN) 0)) (by simp[Ir,fF]) ?_;rintro i st hi ⟨H,I,D,E,m,o,p,d,c,e⟩;have x:=Gg n (sB a op q) i;have ad:=BW (sB a op q) i;by_cases g:i<n
 .have Y:=ai g (by omega)
  have r:i<op.length:=by omega
  have l:=oW r;have f:=aJ l r
  have A:i<a.length:=by omega
  have z:=rj A;have G:=aJ z A;have P:=Ay (gn a i) q (N _ (In z));have X:sB a op q i=(cY op i&&aR (gn a i) q):=rfl;have k:=PC (n:=n) (s:=sB a op q) (i:=i);have j:=PD (s:=sB a op q) (i:=i);have y:=Ld (n:=n) (s:=sB a op q) g;have v:=Le (s:=sB a op q) (i:=i);rw[X]at k j y v;generalize fU n (sB a op q) i=U at *;generalize fU n (sB a op q) (i+1)=U' at *;generalize fF (sB a op q) i=F at *;generalize fF (sB a op q) (i+1)=F' at *
  have T:i<U.length:=by omega
  cases ho:cY op i with
  |false=>
   rw[ho]at l f k j;have K:=k (by simp);have L:=j (by simp);subst K;subst L
   with_reducible repeat' (first|refine Sp.h ?_|((first|refine Ss.h ?_|(refine Sb.h ?_ ?_ ?_<;>(try intro hgd)<;>try exact Xy))<;>simp -implicitDefEqProofs (maxSteps:=2000000) [hP,hN,H,I,D,E,m,o,p,d,c,e,g,Y,u,l,f,r])|refine X2 ?_ ?_|(refine Xd ?_ ?_<;>intro hcd<;>try exact Xx))
  |true=>
  rw[ho]at l f k j y v
  cases hh:aR (gn a i) q with
  |false=>
   rw[hh]at P k j;have K:=k (by simp);have L:=j (by simp);subst K;subst L
   with_reducible repeat' (first|refine Sp.h ?_|((first|refine Ss.h ?_|refine Sc.h (P) ?_|(refine Sb.h ?_ ?_ ?_<;>(try intro hgd)<;>try exact Xy))<;>simp -implicitDefEqProofs (maxSteps:=2000000) [hP,hN,H,I,D,E,m,o,p,d,c,e,g,Y,u,l,f,r,A,z,G])|refine X2 ?_ ?_|(refine Xd ?_ ?_<;>intro hcd<;>try exact Xx))
  |true=>
   rw[hh]at P y v;have K:=y rfl;have L:=v rfl
   with_reducible repeat' (first|refine Sp.h ?_|((first|refine Ss.h ?_|refine Sc.h (P) ?_|(refine Sb.h ?_ ?_ ?_<;>(try intro hgd)<;>try exact Xy))<;>simp -implicitDefEqProofs (maxSteps:=2000000) [hP,hN,H,I,D,E,m,o,p,d,c,e,g,Y,u,l,f,r,A,z,G,x,T,show(F.length+1)*8<=140737488355328 by omega,show F.length+1<=9223372036854775807 by omega])|refine X2 ?_ ?_|(refine Xd ?_ ?_<;>intro hcd<;>try exact Xx))
   all_goals simp[L,<-K,yBv]
 .have S:i=n:=by omega
  subst S
  have W:fU i (sB a op q) i≠[]:=by intro h;rw[h]at x;simp at x;omega
  generalize fU i (sB a op q) i=U at *;generalize fF (sB a op q) i=F at *
  with_reducible repeat' (first|refine Sp.h ?_|((refine WP.hand (hn:=[]) (pre:=[_,_,_]) rfl rfl rfl rfl ?_);simp -implicitDefEqProofs (maxSteps:=2000000) [hP,hN,H,I,D,E,m,o,p,d,c,e,g])|((first|refine Ss.h ?_|(refine Sb.h ?_ ?_ ?_<;>(try intro hgd)<;>try exact Xy))<;>simp -implicitDefEqProofs (maxSteps:=2000000) [hP,hN,H,I,D,E,m,o,p,d,c,e,g])|refine X2 ?_ ?_|(refine Xd ?_ ?_<;>intro hcd<;>try exact Xx))
  refine⟨127,kZ a op,[],12,6,4,1,3,1,U.map B,V.map B,F.map zN,by simp,by simp[d],by simp[D,x],by simp[E],by simp[c],by simp[e],by decide,by simp[W],by rw[hP];exact J,by rw[hN];decide,?_⟩;simp -implicitDefEqProofs (maxSteps:=2000000) [hP,hN,H,I,D,E,d,c,e];have M:=Q.len
  with_reducible repeat' (first|refine Sp.h ?_|((first|refine Ss.h ?_|(refine Sb.h ?_ ?_ ?_<;>(try intro hgd)<;>try exact Xy))<;>simp -implicitDefEqProofs (maxSteps:=2000000) [hP,hN,H,I,D,E,d,c,e,M])|refine X2 ?_ ?_|(refine Xd ?_ ?_<;>intro hcd<;>try exact Xx))
  all_goals exact⟨AB V,12,by simp[M],rfl⟩
theorem R3(a:List Bx)(op U:List Bool)(i:Nat)(q:List Int)(hi:i<a.length)(Q:U.length=a.length)(hn:a.length<=2048)(A:∀b∈a,b.length<=9223372036854775807):yn 126 (kZ a op) (Z i) (.sl (U.map B)) (zs q) (B (tn a i U q)):=by
 have d:=rj hi;have f:=aJ d hi;have E:=Ay (gn a i) q (A _ (In d));unfold tn
 cases O:aR (gn a i) q with
 |true=>
  rw[O]at E;rw[Bool.true_or];refine Dp func126 λC hP hN=>?_
  with_reducible repeat' (first|refine Sp.h ?_|((first|refine Wd ?_|refine Ss.h ?_|refine Sc.h (E) ?_|(refine Sb.h ?_ ?_ ?_<;>(try intro hgd)<;>try exact Xy))<;>simp -implicitDefEqProofs (maxSteps:=2000000) [hP,hN,hi,d,f]<;>try refine Ya ?_)|refine X2 ?_ ?_|(refine Xd ?_ ?_<;>intro hcd<;>try exact Xx))
 |false=>
  rw[O]at E;rw[Bool.false_or];obtain⟨p,hp⟩:∃p,p=λk=>cY U k&&dH (gn a i) (gn a k):=⟨_,rfl⟩;rw[<-hp];obtain⟨r,L⟩:∃r,(List.range U.length).any p=r:=⟨_,rfl⟩;rw[L];refine Dp func126 λC hP hN=>?_
  with_reducible repeat' (first|refine Sp.h ?_|((first|refine Wd ?_|refine Ss.h ?_|refine Sc.h (E) ?_|(refine Sb.h ?_ ?_ ?_<;>(try intro hgd)<;>try exact Xy))<;>simp -implicitDefEqProofs (maxSteps:=2000000) [hP,hN,hi,d,f]<;>try refine Ya ?_)|refine X2 ?_ ?_|(refine Xd ?_ ?_<;>intro hcd<;>try exact Xx))
  refine WP.loopN [] U.length (λk st=>st.t 4=.ptr 4 0/\st.h 4=some (.box [.pv (.sl (a.map iv)),.pv (.sl (op.map B))] true false)/\st.t 1=.pv (Z i)/\st.t 18=.pv (.sl (U.map B))/\st.t 19=.pv (Z U.length)/\st.t 20=.pv (Z k)/\∀j,j<k->p j=false) (by simp) ?_;rintro k st R ⟨H,D,G,m,n,o,hq⟩;by_cases c:k<U.length
  .have N:=ai c (by omega)
   have v:=oW c;have g:=aJ v c
   have s:k<a.length:=by omega
   have z:=rj s;have y:=aJ z s;have F:=RP (gn a i) (gn a k) (A _ (In d))
   have K:p k=(cY U k&&dH (gn a i) (gn a k)):=by rw[hp]
   have l:p k=true->r=true:=λh=>by rw[<-L];exact yBQ.2 ⟨k,yAJ.2 c,h⟩
   have x:p k=false->∀j,j<k+1->p j=false:=λh j P=>by
    by_cases e:j=k
    .subst e;exact h
    .exact hq j (by omega)
   rw[K]at l x;generalize cY U k=u at *
   cases u with
   |false=>
    have J:=x rfl
    with_reducible repeat' (first|refine Sp.h ?_|((first|refine Wd ?_|refine Ss.h ?_|(refine Sb.h ?_ ?_ ?_<;>(try intro hgd)<;>try exact Xy))<;>simp -implicitDefEqProofs (maxSteps:=2000000) [hP,hN,H,D,G,m,n,o,c,N,v,g]<;>try refine Ya ?_)|refine X2 ?_ ?_|(refine Xd ?_ ?_<;>intro hcd<;>try exact Xx))
    all_goals exact J
   |true=>
    rw[yAs]at l x
    cases I:dH (gn a i) (gn a k)with
    |true=>
     rw[I]at F;rw[l I]
     with_reducible repeat' (first|refine Sp.h ?_|((first|refine Wd ?_|refine Ss.h ?_|refine Sc.h (F) ?_|(refine Sb.h ?_ ?_ ?_<;>(try intro hgd)<;>try exact Xy))<;>simp -implicitDefEqProofs (maxSteps:=2000000) [hP,hN,H,D,G,m,n,o,c,N,v,g,hi,d,f,s,z,y]<;>try refine Ya ?_)|refine X2 ?_ ?_|(refine Xd ?_ ?_<;>intro hcd<;>try exact Xx))
    |false=>
     rw[I]at F;have J:=x I
     with_reducible repeat' (first|refine Sp.h ?_|((first|refine Wd ?_|refine Ss.h ?_|refine Sc.h (F) ?_|(refine Sb.h ?_ ?_ ?_<;>(try intro hgd)<;>try exact Xy))<;>simp -implicitDefEqProofs (maxSteps:=2000000) [hP,hN,H,D,G,m,n,o,c,N,v,g,hi,d,f,s,z,y]<;>try refine Ya ?_)|refine X2 ?_ ?_|(refine Xd ?_ ?_<;>intro hcd<;>try exact Xx))
     all_goals exact J
  .have M:r=false:=by
    rw[<-L,yBH];intro j P;rw[hq j (by have:=yAJ.1 P;omega)];decide
   rw[M]
   with_reducible repeat' (first|refine Sp.h ?_|((first|refine Wd ?_|refine Ss.h ?_|(refine Sb.h ?_ ?_ ?_<;>(try intro hgd)<;>try exact Xy))<;>simp -implicitDefEqProofs (maxSteps:=2000000) [hP,hN,H,D,G,m,n,o,c]<;>try refine Ya ?_)|refine X2 ?_ ?_|(refine Xd ?_ ?_<;>intro hcd<;>try exact Xx))
section
variable {t:Tr} {op U:List Bool} {p:List Int} {i:Nat}
theorem EQ(c:am t=true)(g:op.length=t.cells.length)(a:ya t op p U)(hi:i<t.cells.length)(e:tn (af t) i U p=false):ya t (op.set i true) p U:=by
 have b:¬Mt (mG t) (OO op) p i:=λh=>by
  have:=(zw c a hi).2 h;rw[e]at this;cases this
 have d:∀k,OO (op.set i true) k↔OO op k\/k=i:=λk=>rl (by omega) k;refine⟨nN a,λk f=>?_⟩;rw[uI c a k,CF c];exact⟨λh=>h.mono λk h=>(d k).2 (.inl h),λh=>DR (T:=mG t) d b h⟩
theorem Ja(j:am t=true)(B:op.length=t.cells.length)(q:ya t op p U)(hi:i<t.cells.length)(z:tn (af t) i U p=true):FI t.cells.length (cY (op.set i true)) (oI (af t)) (λk=>k<t.cells.length/\sB (af t) (op.set i true) p k=true) (U.set i true) [i]:=by
 have r:=nN q;have y:=(zw j q hi).1 z;have e:∀k,OO (op.set i true) k↔OO op k\/k=i:=λk=>rl (by omega) k;have mono:∀k,OO op k->OO (op.set i true) k:=λk h=>(e k).2 (.inl h)
 have s:Rc (mG t) (OO (op.set i true)) p i:=by
  rcases y with l|⟨k,x,a,b,c⟩
  .exact .base hi ((e i).2 (.inr rfl)) l
  .exact .step (a.mono mono) hi ((e i).2 (.inr rfl)) x c b
 have mk:∀k,fq (U.set i true) k↔k=i\/Rc (mG t) (OO op) p k:=λk=>by
  rw[rh (by omega),uI j q k]
 refine⟨by rw[yBp,r],λk d=>?_,λk d=>?_,λk d=>?_,λk d=>?_⟩
 .obtain⟨l,n⟩:=d
  simp only[sB,An]at n;rw[mk];rcases(e k).1 n.1 with o|rfl
  .refine .inr (.base l o ?_)
   show aR (ao t (k:Int)) p=true;rw[<-kM];exact n.2
  .exact .inl rfl
 .rw[CF j]
  rcases(mk k).1 d with rfl|h
  .exact s
  .exact h.mono mono
 .rw[yAE]at d;subst d
  exact(mk k).2 (.inl rfl)
 .rcases(mk k).1 d with rfl|h
  .exact .inl (by simp)
  .refine .inr λm f A g=>?_
   rw[mk];rcases(e m).1 A with o|rfl
   .have g:dH (gn (af t) k) (gn (af t) m)=true:=g
    rw[kM,kM]at g;obtain⟨x,u,v⟩:=(uH j h.lt f).1 g;exact .inr (.step h f o x u v)
   .exact .inl rfl
theorem Hm(h:ya t op p U)(h':ya t op p V):U=V:=BV h h'
end
set_option maxRecDepth 20000 in
theorem rQ(R:Tr->List Bool->List Int->List Bool)(hR:zz R)(t:Tr)(p q:List Int)(hv:am t=true):
 MQ prog 66 [.agg [.pv (.sl ((af t).map iv)),.arr 2000000 t.cells.length],.pv (eo t),.pv (zs p),.pv (zs q)] [(2000000,.row 4 1 ((t.cells.map cK).map B) 0)] [(2000000,.row 4 1 ((mN R t p q).map B) 0)] (.tup []):=by
 have hz:=ba.1 (bP hv);have Y:=ef hv;have U:=Ep hv;have cj:(mN R t p q).length=t.cells.length:=zx _;refine P9 func66 rfl (by kernel_rfl) (by simp[f66]) ?_ ?_
 .constructor
  .rfl
  .simp
  .intro k b h;simp at h;obtain⟨rfl,rfl⟩:=h;rfl
  .intro k b h;simp at h;obtain⟨rfl,rfl⟩:=h;rfl
  .intro k b b' h h'
   have e1:=fG h;have e2:=fG h';simp at e1 e2;obtain⟨rfl,rfl⟩:=e1;obtain⟨_,rfl⟩:=e2;simp[Bc,cj]
 intro C hP hN;simp only[f66]at hN|-;have I:(t.cells.map cK).length=t.cells.length:=yAz ..;have a1:=λ(x:List Int)=>Wg (af t) (t.cells.map cK) x (R t (t.cells.map cK) x) (by rw[Y,I]) (by rw[I];omega) (by rw[I];omega) (λb X=>by have:=U b X;omega) (by have:=hR t (t.cells.map cK) x I;rw[I];exact this);have cf:=a1 p;have cg:=a1 q;have bk:∀op x,op.length=t.cells.length->(R t op x).length=t.cells.length:=λop x h=>nN (hR t op x h);have a7:=bk (t.cells.map cK) p I;have a5:=bk (t.cells.map cK) q I;have ch:iZ t (R t) p q 0=t.cells.map cK:=rfl;have b7:mN R t p q=iZ t (R t) p q t.cells.length:=rfl;rw[b7];obtain⟨n,hn⟩:∃n,t.cells.length=n:=⟨_,rfl⟩;rw[hn]at hz Y I bk a7 a5|-;generalize t.cells.map cK=cp at *
 with_reducible repeat' (first|refine Sp.h ?_|((first|refine Wd ?_|refine Ss.h ?_|refine Sc.h (cf) ?_|refine Sc.h (cg) ?_|(refine Sb.h ?_ ?_ ?_<;>(try intro hgd)<;>try exact Xy))<;>simp -implicitDefEqProofs (maxSteps:=2000000) [hP,hN,Rs,bG,hn,I,a7,a5]<;>try refine Ya ?_)|refine X2 ?_ ?_|(refine Xd ?_ ?_<;>intro hcd<;>try exact Xx))
 refine WP.loopN [11] n (λi st=>st.t 4=.ptr 4 0/\st.h 4=some (.box [.pv (.sl ((af t).map iv)),.arr 2000000 n] true false)/\st.t 5=.ptr 5 0/\st.h 5=some (.box [.pv (iv t.root),.pv (.sl (t.cells.map bD))] true false)/\st.t 2=.pv (zs p)/\st.t 3=.pv (zs q)/\st.t 21=.pv (.sl (t.cells.map bD))/\st.t 22=.pv (Z n)/\st.t 8=.arr 16 n/\st.t 9=.arr 19 n/\st.t 23=.pv (Z i)/\st.h 11=none/\st.h 56=none/\st.h 65=none/\st.h 2000000=some (.row 4 1 ((iZ t (R t) p q i).map B) 0)/\st.h 16=some (.row 4 1 ((R t (iZ t (R t) p q i) p).map B) 0)/\st.h 19=some (.row 4 1 ((R t (iZ t (R t) p q i) q).map B) 0)) (by simp[ch,hn,a7,a5]) ?_;rintro i st hi ⟨Q,L,S,O,P,g3,s,u,M,N,v,m,o,r,f,l,j⟩;have d:=zx (t:=t) (R:=R t) (p:=p) (q:=q) i;rw[hn]at d;have a8:=hR t (iZ t (R t) p q i) p (by rw[d,hn]);have a6:=hR t (iZ t (R t) p q i) q (by rw[d,hn])
 have G:iZ t (R t) p q (i+1)=if(AZ t i&& !(Hj t (R t) p q (iZ t (R t) p q i) i))=true then(iZ t (R t) p q i).set i true else iZ t (R t) p q i:=rfl
 have b8:Hj t (R t) p q (iZ t (R t) p q i) i=(tn (af t) i (R t (iZ t (R t) p q i) p) p&&tn (af t) i (R t (iZ t (R t) p q i) q) q):=rfl;rw[b8]at G;clear b8;by_cases z:i<n
 .have hw:=ai z (by omega)
  have F:=jq (t:=t) (i:=i) (by omega);have H:∀h,t.cells[i]'h=bp t i:=λh=>aJ F h
  have e:i<t.cells.length:=by omega
  have ay:AZ t i=gt (bp t i):=rfl;have cc:=Iy (bp t i);rw[<-ay]at cc;generalize bp t i=c at *;clear ay;generalize iZ t (R t) p q (i+1)=cn at *;generalize iZ t (R t) p q i=op at *;have E:=nN a8;have D:=nN a6
  cases b3:AZ t i with
  |false=>
   rw[b3]at cc G;rw[yAG,L4 (by decide)]at G;subst G
   with_reducible repeat' (first|refine Sp.h ?_|((first|refine Wd ?_|refine Ss.h ?_|refine Sc.h (cc) ?_|(refine Sb.h ?_ ?_ ?_<;>(try intro hgd)<;>try exact Xy))<;>simp -implicitDefEqProofs (maxSteps:=2000000) [hP,hN,Q,L,S,O,P,g3,s,u,M,N,v,m,o,r,f,l,j,z,e,hw,F,H,hn]<;>try refine Ya ?_)|refine X2 ?_ ?_|(refine Xd ?_ ?_<;>intro hcd<;>try exact Xx))
   all_goals skip
  |true=>
   rw[b3]at cc G;rw[yAs]at G;have V:=R3 (af t) op (R t op p) i p (by omega) (by omega) (by omega) (λb X=>by have:=U b X;omega);have W:=R3 (af t) op (R t op q) i q (by omega) (by omega) (by omega) (λb X=>by have:=U b X;omega);have kn:=EQ hv (by rw[d,hn]) a8 e;have kf:=EQ hv (by rw[d,hn]) a6 e;have fn:=Ja hv (by rw[d,hn]) a8 e;have ff:=Ja hv (by rw[d,hn]) a6 e
   have a:(op.set i true).length=n:=by rw[yBp,d]
   have bq:=hR t (op.set i true) p (by rw[a,hn]);have bs:=hR t (op.set i true) q (by rw[a,hn]);have b1:=λ(h:tn (af t) i (R t op p) p=true)=>JU (af t) (op.set i true) _ _ (R t (op.set i true) p) [i] (by rw[Y,a]) (by rw[a];omega) (λb X=>by have:=U b X;omega) (by simp) (by rw[a,<-hn];exact fn h) (by rw[a,<-hn];exact bq);have b2:=λ(h:tn (af t) i (R t op q) q=true)=>JU (af t) (op.set i true) _ _ (R t (op.set i true) q) [i] (by rw[Y,a]) (by rw[a];omega) (λb X=>by have:=U b X;omega) (by simp) (by rw[a,<-hn];exact ff h) (by rw[a,<-hn];exact bs);have eN:=λh=>Hm (kn h) bq;have eF:=λh=>Hm (kf h) bs;generalize tn (af t) i (R t op p) p=m1 at *;generalize tn (af t) i (R t op q) q=m2 at *;have ad:=nN bq;have ax:=nN bs;rw[hn]at ad ax E D
   have A:i<op.length:=by omega
   by_cases b0:m1=true/\m2=true
   .obtain⟨e1,e2⟩:=b0
    subst e1;subst e2;rw[show(!(true&&true))=false from rfl,L4 (by decide)]at G;subst G
    with_reducible repeat' (first|refine Sp.h ?_|((first|refine Wd ?_|refine Ss.h ?_|refine Sc.h (cc) ?_|refine Sc.h (V) ?_|refine Sc.h (W) ?_|(refine Sb.h ?_ ?_ ?_<;>(try intro hgd)<;>try exact Xy))<;>simp -implicitDefEqProofs (maxSteps:=2000000) [hP,hN,Q,L,S,O,P,g3,s,u,M,N,v,m,o,r,f,l,j,z,e,hw,F,H,hn,d,E,D]<;>try refine Ya ?_)|refine X2 ?_ ?_|(refine Xd ?_ ?_<;>intro hcd<;>try exact Xx))
    all_goals skip
   .have ca:cn=op.set i true:=by rw[G,yAb (by cases m1<;>cases m2<;>simp_all)]
    subst ca;clear G;generalize b9:op.set i true=K at *;generalize R t K p=V1 at *;generalize R t K q=V2 at *;generalize R t op p=N1 at *;generalize R t op q=N2 at *
    have g:(op.map B).set i (B true)=K.map B:=by rw[<-b9,yBv]
    cases m1 with
    |true=>
     have cm:m2=false:=by cases m2<;>simp_all
     subst cm;have e2:=eF rfl;subst e2;have a2:=b1 rfl
     have Af:i<N1.length:=by omega
     have J:(N1.map B).set i (B true)=(N1.set i true).map B:=by rw[yBv]
     have y:(N1.set i true).length=n:=by rw[yBp,E]
     have T:N1.set i true≠[]:=by intro h;rw[h]at y;simp at y;omega
     generalize N1.set i true=cb at *
     with_reducible repeat' (first|refine Sp.h ?_|((refine WP.handL (hn:=[56]) (pre:=[_,_,_,_]) rfl rfl rfl rfl ?_);simp -implicitDefEqProofs (maxSteps:=2000000) [hP,hN,Q,L,S,O,P,g3,s,u,M,N,v,m,o,r,f,l,j,z,e,hw,F,H,hn,d,E,D,A,g,Af,J])|((first|refine Wd ?_|refine Ss.h ?_|refine Sc.h (cc) ?_|refine Sc.h (V) ?_|refine Sc.h (W) ?_|(refine Sb.h ?_ ?_ ?_<;>(try intro hgd)<;>try exact Xy))<;>simp -implicitDefEqProofs (maxSteps:=2000000) [hP,hN,Q,L,S,O,P,g3,s,u,M,N,v,m,o,r,f,l,j,z,e,hw,F,H,hn,d,E,D,A,g,Af,J]<;>try refine Ya ?_)|refine X2 ?_ ?_|(refine Xd ?_ ?_<;>intro hcd<;>try exact Xx))
     refine⟨127,kZ (af t) K,[(2000000,.row 4 1 (K.map B) n)],16,56,4,1,3,1,cb.map B,V1.map B,[i].map zN,by simp,by simp[L,f,a],by simp[M,y],by simp,by simp[l],by simp,by simp[l],by simp,AB _,by decide,by simp[T],by rw[hP];exact a2,by rw[hN];decide,?_⟩;simp -implicitDefEqProofs (maxSteps:=2000000) [hP,hN,Q,L,S,O,P,g3,s,u,M,N,v,m,o,r,f,l,j]
     with_reducible repeat' (first|refine Sp.h ?_|((first|refine Wd ?_|refine Ss.h ?_|(refine Sb.h ?_ ?_ ?_<;>(try intro hgd)<;>try exact Xy))<;>simp -implicitDefEqProofs (maxSteps:=2000000) [hP,hN,Q,L,S,O,P,g3,s,u,M,N,v,m,o,r,f,l,j,z,e,hw,F,H,hn,d,E,D,A,g,Af,J,ad]<;>try refine Ya ?_)|refine X2 ?_ ?_|(refine Xd ?_ ?_<;>intro hcd<;>try exact Xx))
     all_goals skip
    |false=>
     have e1:=eN rfl;subst e1
     cases m2 with
     |true=>
      have a2:=b2 rfl
      have Af:i<N2.length:=by omega
      have J:(N2.map B).set i (B true)=(N2.set i true).map B:=by rw[yBv]
      have y:(N2.set i true).length=n:=by rw[yBp,D]
      have T:N2.set i true≠[]:=by intro h;rw[h]at y;simp at y;omega
      generalize N2.set i true=cd at *
      with_reducible repeat' (first|refine Sp.h ?_|((refine WP.handL (hn:=[65]) (pre:=[_,_,_,_]) rfl rfl rfl rfl ?_);simp -implicitDefEqProofs (maxSteps:=2000000) [hP,hN,Q,L,S,O,P,g3,s,u,M,N,v,m,o,r,f,l,j,z,e,hw,F,H,hn,d,E,D,A,g,Af,J])|((first|refine Wd ?_|refine Ss.h ?_|refine Sc.h (cc) ?_|refine Sc.h (V) ?_|refine Sc.h (W) ?_|(refine Sb.h ?_ ?_ ?_<;>(try intro hgd)<;>try exact Xy))<;>simp -implicitDefEqProofs (maxSteps:=2000000) [hP,hN,Q,L,S,O,P,g3,s,u,M,N,v,m,o,r,f,l,j,z,e,hw,F,H,hn,d,E,D,A,g,Af,J]<;>try refine Ya ?_)|refine X2 ?_ ?_|(refine Xd ?_ ?_<;>intro hcd<;>try exact Xx))
      refine⟨127,kZ (af t) K,[(2000000,.row 4 1 (K.map B) n)],19,65,4,1,3,1,cd.map B,V2.map B,[i].map zN,by simp,by simp[L,f,a],by simp[N,y],by simp,by simp[j],by simp,by simp[j],by simp,AB _,by decide,by simp[T],by rw[hP];exact a2,by rw[hN];decide,?_⟩;simp -implicitDefEqProofs (maxSteps:=2000000) [hP,hN,Q,L,S,O,P,g3,s,u,M,N,v,m,o,r,f,l,j]
      with_reducible repeat' (first|refine Sp.h ?_|((first|refine Wd ?_|refine Ss.h ?_|(refine Sb.h ?_ ?_ ?_<;>(try intro hgd)<;>try exact Xy))<;>simp -implicitDefEqProofs (maxSteps:=2000000) [hP,hN,Q,L,S,O,P,g3,s,u,M,N,v,m,o,r,f,l,j,z,e,hw,F,H,hn,d,E,D,A,g,Af,J,ax]<;>try refine Ya ?_)|refine X2 ?_ ?_|(refine Xd ?_ ?_<;>intro hcd<;>try exact Xx))
      all_goals skip
     |false=>
      have e2:=eF rfl;subst e2
      with_reducible repeat' (first|refine Sp.h ?_|((first|refine Wd ?_|refine Ss.h ?_|refine Sc.h (cc) ?_|refine Sc.h (V) ?_|refine Sc.h (W) ?_|(refine Sb.h ?_ ?_ ?_<;>(try intro hgd)<;>try exact Xy))<;>simp -implicitDefEqProofs (maxSteps:=2000000) [hP,hN,Q,L,S,O,P,g3,s,u,M,N,v,m,o,r,f,l,j,z,e,hw,F,H,hn,d,E,D,A,g]<;>try refine Ya ?_)|refine X2 ?_ ?_|(refine Xd ?_ ?_<;>intro hcd<;>try exact Xx))
      all_goals skip
 .have ck:i=n:=by omega
  subst ck
  with_reducible repeat' (first|refine Sp.h ?_|((first|refine Wd ?_|refine Ss.h ?_|(refine Sb.h ?_ ?_ ?_<;>(try intro hgd)<;>try exact Xy))<;>simp -implicitDefEqProofs (maxSteps:=2000000) [hP,hN,Q,L,S,O,P,g3,s,u,M,N,v,m,o,r,f,l,j,z]<;>try refine Ya ?_)|refine X2 ?_ ?_|(refine Xd ?_ ?_<;>intro hcd<;>try exact Xx))
  all_goals exact⟨rfl,⟨_,rfl,_,rfl⟩,by intro kb h;simp only[yAv,yAB,yAZ]at h;subst h;simp[f]⟩
section
variable {C:Cx} {Q:Exit->St->Prop} {st:St}
def Ud(C:Cx)(hn:List Nat)(c:Array Oper)(Q:St->Prop)(t:TypeId)(x y:Operand)(d:Nat)(post:List Oper)(st:St):Prop:=
 ∃e a b z g i m f,st.ev x=.pv (.val (.int g 0))/\st.ev y=.pv (.val (.int i ((m:Nat):Int)))/\ag C.P t=some f/\f.kind=.slice e a b (some z)/\0<a/\z.cells.size=a/\(b:Int)*m<=281474976710656/\(m:Int)<=9223372036854775807/\st.h d=none/\d<2000000/\d<C.N/\
  fW C.P hn C.N c Q post (st.put (some d) (.arr d 0) [(d,.row e a [] 0)])
theorem WP.make0{hn:List Nat}{id:Nat}{c:Array Oper}{pre post:List Oper}{o:Oper}{t:TypeId}{x y:Operand}{d:Nat}(k:c.toList=pre++o::post)(O:o.op=.makeSlice t x y)(hd:o.dst=some d)(hg:o.guard=none)
 (hq:fW C.P hn C.N c (Ud C hn c (Q .normal) t x y d post) pre st):WP C (.region id c false) Q st:=by
 intro a w hs;refine wp_region_list ?_;rw[k];refine iC (λa7 v f V S=>?_) hs hq;obtain⟨e,sz,b,z,k1,k2,m,ti,ax,a2,Y,J,W,a8,A,B,F,j,D,i⟩:=S;obtain⟨L,hm,hN,E,X⟩:=V;refine wpList_step (λK hK=>?_);rw[kT hg,yAb rfl];have r:=dM X x;rw[ax]at r
 have ay:v.eval x=.int k1 0:=by
  cases r with
  |pv T=>exact aX T
 have s:=dM X y;rw[a2]at s
 have a5:v.eval y=.int k2 (m:Nat):=by
  cases s with
  |pv T=>exact aX T
 obtain⟨q,u,hj,H,G,I⟩:=dK Y J;subst H;subst G;have M:=run_make (P:=C.P) f t e u z q hj I k1 k2 0 (m:Nat) (yCc _) (by omega) A B
 have n:(execOp v.eval o).run C.P f=.ok (.value (.slice (some ⟨f.heap.size,0,none⟩) 0 m)) (f.alloc (.cells (madeCells z.cells ((m:Int).toNat*u.size)) e)):=by
  unfold execOp;rw[O];simp only[ay,a5];simp[M]
 unfold Oper.wp;rw[n];refine hK _ _ ?_;have Z:Ext (λ_=>False) f (f.alloc (.cells (madeCells z.cells ((m:Int).toNat*u.size)) e)):=Ext.alloc _ f _
 have g:=kY (e:=e) (sz:=u.size) (xs:=[]) (l:=⟨f.heap.size,m,false⟩) hm Z F j (λ_=>yAd _) (by
  refine⟨W,yAd _,(λx Z=>by cases Z),(λh=>by cases h),λ_=>⟨yAT _,by simp only[maxLen];omega,_,jH f _,by simp[size_madeCells],?_⟩⟩;intro a x b p ad
  simp at ad)
 refine iJ (λa6 a' w' U R=>⟨a6,U,R⟩) (st:=a7.put (some d) (.arr d 0) [(d,.row e u.size [] 0)]) ?_ i;rw[hd];refine gQ.put hm hN E X (by simp[lu];exact⟨D,j⟩) g.1 ?_;exact g.2
end
theorem Pz(xs:List (Int))(c:xs.length<=16777216):aV 202 (.sl (xs.map Z)) (.sl (xs.map Z)):=by
 by_cases b:xs=[]
 .subst b
  refine Dp func202 λC hP hN=>?_
  with_reducible repeat' (first|refine Sp.h ?_|((first|refine Wh [5] ?_|refine Ss.h ?_|(refine Sb.h ?_ ?_ ?_<;>(try intro hgd)<;>try exact Xy))<;>simp -implicitDefEqProofs (maxSteps:=2000000) [hP,hN])|refine X2 ?_ ?_|(refine Xd ?_ ?_<;>intro hcd<;>try exact Xx))
 .have a:xs.isEmpty=false:=by simp[b]
  refine Dp func202 λC hP hN=>?_
  with_reducible repeat' (first|refine Sp.h ?_|((first|refine Wh [5] ?_|refine Ss.h ?_|(refine Sb.h ?_ ?_ ?_<;>(try intro hgd)<;>try exact Xy))<;>simp -implicitDefEqProofs (maxSteps:=2000000) [hP,hN,b,a,show xs.length*8<=140737488355328 by omega,show xs.length<=9223372036854775807 by omega])|refine X2 ?_ ?_|(refine Xd ?_ ?_<;>intro hcd<;>try exact Xx))
theorem PA(xs:List (Int×Int))(c:xs.length<=16777216):aV 125 (.sl (xs.map aA)) (.sl (xs.map aA)):=by
 by_cases b:xs=[]
 .subst b
  refine Dp func125 λC hP hN=>?_
  with_reducible repeat' (first|refine Sp.h ?_|((first|refine Wh [5] ?_|refine Ss.h ?_|(refine Sb.h ?_ ?_ ?_<;>(try intro hgd)<;>try exact Xy))<;>simp -implicitDefEqProofs (maxSteps:=2000000) [hP,hN])|refine X2 ?_ ?_|(refine Xd ?_ ?_<;>intro hcd<;>try exact Xx))
 .have a:xs.isEmpty=false:=by simp[b]
  refine Dp func125 λC hP hN=>?_
  with_reducible repeat' (first|refine Sp.h ?_|((first|refine Wh [5] ?_|refine Ss.h ?_|(refine Sb.h ?_ ?_ ?_<;>(try intro hgd)<;>try exact Xy))<;>simp -implicitDefEqProofs (maxSteps:=2000000) [hP,hN,b,a,show xs.length*16<=140737488355328 by omega,show xs.length<=9223372036854775807 by omega])|refine X2 ?_ ?_|(refine Xd ?_ ?_<;>intro hcd<;>try exact Xx))
theorem Uk(xs:List (Int×Int×Int))(c:xs.length<=16777216):aV 201 (.sl (xs.map aW)) (.sl (xs.map aW)):=by
 by_cases b:xs=[]
 .subst b
  refine Dp func201 λC hP hN=>?_
  with_reducible repeat' (first|refine Sp.h ?_|((first|refine Wh [5] ?_|refine Ss.h ?_|(refine Sb.h ?_ ?_ ?_<;>(try intro hgd)<;>try exact Xy))<;>simp -implicitDefEqProofs (maxSteps:=2000000) [hP,hN])|refine X2 ?_ ?_|(refine Xd ?_ ?_<;>intro hcd<;>try exact Xx))
 .have a:xs.isEmpty=false:=by simp[b]
  refine Dp func201 λC hP hN=>?_
  with_reducible repeat' (first|refine Sp.h ?_|((first|refine Wh [5] ?_|refine Ss.h ?_|(refine Sb.h ?_ ?_ ?_<;>(try intro hgd)<;>try exact Xy))<;>simp -implicitDefEqProofs (maxSteps:=2000000) [hP,hN,b,a,show xs.length*24<=140737488355328 by omega,show xs.length<=9223372036854775807 by omega])|refine X2 ?_ ?_|(refine Xd ?_ ?_<;>intro hcd<;>try exact Xx))
def PB(c:Cel):Prop:=c.v.nor.length<=1000000/\c.v.left.length<=1000000/\c.v.right.length<=1000000
theorem R4(c:Cel)(a:PB c):aV 124 (bD c) (bD c):=by
 have b:=Uk c.v.nor (by have:=a.1;omega);have d:=Pz c.v.left (by have:=a.2.1;omega);have e:=Pz c.v.right (by have:=a.2.2;omega);refine Dp func124 λC hP hN=>?_
 with_reducible repeat' (first|refine Sp.h ?_|((first|refine Ss.h ?_|refine Sc.h (b) ?_|refine Sc.h (d) ?_|refine Sc.h (e) ?_|(refine Sb.h ?_ ?_ ?_<;>(try intro hgd)<;>try exact Xy))<;>simp -implicitDefEqProofs (maxSteps:=2000000) [hP,hN])|refine X2 ?_ ?_|(refine Xd ?_ ?_<;>intro hcd<;>try exact Xx))
theorem Io:∃a z,ag prog 31=some a/\a.kind=TK.slice 80 8 112 (some z)/\z.cells.size=8:=⟨_,_,Yi,rfl,rfl⟩
theorem Y5(t:Tr)(E:t.root.length<=1000000)(D:t.cells.length<=1000000)(x:∀c∈t.cells,PB c):aV 64 (eo t) (eo t):=by
 have v:=PA t.root (by omega);refine Dp func64 λC hP hN=>?_;obtain⟨B,z,m,n,o⟩:=Io
 with_reducible repeat' (first|refine Sp.h ?_|((refine WP.make0 (hn:=[]) (pre:=[_,_,_]) (post:=[_]) rfl rfl rfl rfl ?_);simp -implicitDefEqProofs (maxSteps:=2000000) [hP,hN])|((first|refine Ss.h ?_|(refine Sb.h ?_ ?_ ?_<;>(try intro hgd)<;>try exact Xy))<;>simp -implicitDefEqProofs (maxSteps:=2000000) [hP,hN])|refine X2 ?_ ?_|(refine Xd ?_ ?_<;>intro hcd<;>try exact Xx))
 refine⟨80,8,112,z,.i64,.i64,t.cells.length,B,by simp,by simp,by rw[hP];exact m,n,by decide,o,by omega,by omega,by simp,by decide,by rw[hN];decide,?_⟩;simp -implicitDefEqProofs (maxSteps:=2000000) [hP,hN]
 with_reducible repeat' (first|refine Sp.h ?_|((first|refine Ss.h ?_|(refine Sb.h ?_ ?_ ?_<;>(try intro hgd)<;>try exact Xy))<;>simp -implicitDefEqProofs (maxSteps:=2000000) [hP,hN])|refine X2 ?_ ?_|(refine Xd ?_ ?_<;>intro hcd<;>try exact Xx))
 refine WP.loopN [5] t.cells.length (λi st=>st.t 1=.ptr 1 0/\st.h 1=some (.box [.pv (iv t.root),.pv (.sl (t.cells.map bD))] true false)/\st.t 2=.ptr 2 0/\st.h 2=some (.box [.pv (.val (.slice none 0 0)),.pv (.val (.slice none 0 0))] true false)/\st.t 3=.arr 9 i/\st.t 11=.pv (.sl (t.cells.map bD))/\st.t 12=.pv (Z t.cells.length)/\st.t 13=.pv (Z i)/\st.h 5=none/\st.h 9=some (.row 80 8 ((t.cells.take i).map bD) 0)) (by simp) ?_;rintro i st hi ⟨s,p,u,q,g3,d,e,f,r,g⟩
 have b:((t.cells.take i).map bD).length=i:=by simp;omega
 by_cases a:i<t.cells.length
 .have y:=ai a (by omega)
  have j:t.cells[i]?=some t.cells[i]:=an a;have cc:=R4 t.cells[i] (x _ (yAq a))
  have l:(t.cells.take (i+1)).map bD=(t.cells.take i).map bD++[bD t.cells[i]]:=by rw[yAP a,yBS];rfl
  rw[l];generalize(t.cells.take i).map bD=L at *;generalize A:t.cells[i]=c at *
  with_reducible repeat' (first|refine Sp.h ?_|((first|refine Ss.h ?_|refine Sc.h (cc) ?_|(refine Sb.h ?_ ?_ ?_<;>(try intro hgd)<;>try exact Xy))<;>simp -implicitDefEqProofs (maxSteps:=2000000) [hP,hN,s,p,u,q,g3,d,e,f,r,g,a,y,j,A,b,show(i+1)*112<=140737488355328 by omega,show i+1<=9223372036854775807 by omega,show i<=9223372036854775806 by omega])|refine X2 ?_ ?_|(refine Xd ?_ ?_<;>intro hcd<;>try exact Xx))
  all_goals trace_state
 .have k:i=t.cells.length:=by omega
  subst k;rw[yBP]at g b
  with_reducible repeat' (first|refine Sp.h ?_|((first|refine Ss.h ?_|refine Sc.h (v) ?_|(refine Sb.h ?_ ?_ ?_<;>(try intro hgd)<;>try exact Xy))<;>simp -implicitDefEqProofs (maxSteps:=2000000) [hP,hN,s,p,u,q,g3,d,e,f,r,g,a,b])|refine X2 ?_ ?_|(refine Xd ?_ ?_<;>intro hcd<;>try exact Xx))
def qw(t:Tr)(op:List Bool)(n i:Nat):List Bool:=(List.range n).map λk=>decide (i<=k)&&ab t op k
theorem Dg(t:Tr)(op:List Bool)(n i:Nat):(qw t op n i).length=n:=by simp[qw]
theorem Lb(h:i<=k)(a:k<n):(qw t op n i)[k]?=some (ab t op k):=by simp[qw,a,h]
theorem NB(t:Tr)(op:List Bool)(n:Nat):List.replicate n false=qw t op n n:=by
 unfold qw;apply yAK;intro k;by_cases a:k<n
 .simp[a];intro h;omega
 .simp[a]
theorem Qt(hi:i<n):(qw t op n (i+1)).set i (ab t op i)=qw t op n i:=by
 apply yAK;intro k;rw[yAe,Dg];by_cases a:k<n
 .by_cases e:i=k
  .subst e;simp[qw,a]
  .simp[qw,a,e,show(i+1<=k↔i<=k) by omega]
 .by_cases e:i=k
  .subst e;exact absurd hi a
  .simp[qw,a,e]
def nJ(K:Nat->Bool)(n i:Nat):List Int:=(List.range n).map λk=>if k<i/\K k=true then((bZ K k:Nat):Int)else 0
theorem Ip(K:Nat->Bool)(n i:Nat):(nJ K n i).length=n:=by simp[nJ]
theorem NC(K:Nat->Bool)(n:Nat):List.replicate n (0:Int)=nJ K n 0:=by simp[nJ,List.map_const']
theorem R5(h:K i=false):nJ K n (i+1)=nJ K n i:=by
 unfold nJ;refine List.map_congr_left λk _=>?_;by_cases e:k=i
 .subst e;simp[h]
 .simp[show(k<i+1↔k<i) by omega]
theorem Qu(hi:i<n)(h:K i=true):(nJ K n i).set i ((bZ K i:Nat):Int)=nJ K n (i+1):=by
 apply yAK;intro k;rw[yAe,Ip];by_cases a:k<n
 .by_cases e:i=k
  .subst e;simp[nJ,a,h]
  .simp[nJ,a,e,show(k<i+1↔k<i) by omega]
 .by_cases e:i=k
  .subst e;exact absurd hi a
  .simp[nJ,a,e]
theorem R6(a:k<n)(h:K k=true):(nJ K n n)[k]?=some ((bZ K k:Nat):Int):=by simp[nJ,a,h]
theorem ND(t:Tr)(op:List Bool):kR t op 0=(List.replicate t.cells.length false).set 0 true:=rfl
set_option maxRecDepth 20000 in
theorem Y6(t:Tr)(op:List Bool)(hv:am t=true)(dA:op.length=t.cells.length)(ez:∀c∈t.cells,PB c):aL 67 (eo t) (.sl (op.map B)) (eo (eZ t op)):=by
 have hz:=ba.1 (bP hv);have c1:=PA t.root (by omega);have cD:=ND t op;have eN:eo (eZ t op)=.agg [iv t.root,.sl ((nO t op t.cells.length).map bD)]:=rfl;rw[eN];have cV:=λi(h:i<t.cells.length)=>Hk hv op h;have cN:=λi(h:i<t.cells.length)=>Mr hv op h;have b3:=λi(h:i<t.cells.length)(hl:bd t i=false)=>gh hv h hl;have eB:=λi(h:i<t.cells.length)(hl:bd t i=false)=>Mv (op:=op) hv h hl;obtain⟨n,hn⟩:∃n,t.cells.length=n:=⟨_,rfl⟩
 have dB:0<n:=by omega
 have e8:n<=2048:=by omega
 rw[hn]at dA|-;rw[hn]at cV cN cD;have w1:i64.wrap ((n:Int)-1)=(n:Int)-1:=aa;refine Dp func67 λC hP hN=>?_
 with_reducible repeat' (first|refine Sp.h ?_|((first|refine Wh [21] ?_|refine Wi [21] ?_|refine Ss.h ?_|(refine Sb.h ?_ ?_ ?_<;>(try intro hgd)<;>try exact Xy))<;>simp -implicitDefEqProofs (maxSteps:=2000000) [hP,hN,hn,dA,w1,show(n:Int)<=281474976710656 by omega,show(n:Int)<=9223372036854775807 by omega]<;>try refine Ya ?_)|refine X2 ?_ ?_|(refine Xd ?_ ?_<;>intro hcd<;>try exact Xx))
 have et:List.replicate n (B false)=(qw t op n n).map B:=by rw[<-NB,List.map_replicate]
 rw[et];refine WP.loopN [8] n (λc st=>st.t 2=.ptr 2 0/\st.h 2=some (.box [.pv (iv t.root),.pv (.sl (t.cells.map bD))] true false)/\st.t 4=.ptr 4 0/\st.h 4=some (.box [.pv (.val (.slice none 0 0)),.pv (.val (.slice none 0 0))] true false)/\st.t 1=.pv (.sl (op.map B))/\st.t 5=.pv (Z n)/\st.t 6=.arr 21 n/\st.t 7=.pv (Z ((n:Int)-1-c))/\st.h 8=none/\st.h 21=some (.row 4 1 ((qw t op n (n-c)).map B) 0)/\st.h 58=none/\st.h 60=none/\st.h 13=none/\st.h 16=none/\st.h 102=none) (by simp) ?_;rintro c st hc ⟨Q,N,R,O,g1,g5,S,g7,b8,g,m,o,F,l,e⟩;by_cases D:c<n
 .obtain⟨i,e7⟩:∃i,i=n-1-c:=⟨_,rfl⟩
  have hi:i<n:=by omega
  rw[show(n:Int)-1-c=(i:Int) by omega]at g7;rw[show n-c=i+1 by omega]at g;have ck:=Qt (t:=t) (op:=op) hi;have cz:=Dg t op n (i+1);have cL:=λk(h1:i+1<=k)(h2:k<n)=>Lb (t:=t) (op:=op) h1 h2
  have b1:(n:Int)-1-((c:Int)+1)=(i:Int)-1:=by omega
  have a1:n-(c+1)=i:=by omega
  have cB:i64.wrap ((i:Int)-1)=(i:Int)-1:=aa
  have cm:0<=(i:Int):=by omega
  have f:i<t.cells.length:=by omega
  have r:=jq f;have H:∀h,t.cells[i]'h=bp t i:=λh=>aJ r h;have cl:=AD (bp t i);rw[<-iY f]at cl;have Y:=cN i hi;have ax:=b3 i f;generalize cx:qw t op n i=r2 at *;generalize qw t op n (i+1)=r1 at *;generalize cO:bp t i=cc at *
  have cp:i<r1.length:=by omega
  cases hl:bd t i with
  |true=>
   rw[hl]at cl Y;rw[yAb rfl]at Y
   have cq:i<op.length:=by omega
   have ho:=oW cq;have ds:=aJ ho cq;rw[<-Y]at ho ds
   have G:(r1.map B).set i (B (ab t op i))=r2.map B:=by rw[<-ck,yBv]
   with_reducible repeat' (first|refine Sp.h ?_|((first|refine Wd ?_|refine Ss.h ?_|refine Sc.h (cl) ?_|(refine Sb.h ?_ ?_ ?_<;>(try intro hgd)<;>try exact Xy))<;>simp -implicitDefEqProofs (maxSteps:=2000000) [hP,hN,Q,N,R,O,g1,g5,S,g7,b8,g,m,o,F,l,e,D,hi,f,hn,r,H,cq,ho,ds,cz,cp,cm,cB,b1,a1,cx,G]<;>try refine Ya ?_)|refine X2 ?_ ?_|(refine Xd ?_ ?_<;>intro hcd<;>try exact Xx))
   all_goals skip
  |false=>
   rw[hl]at cl Y;rw[L4 (by decide)]at Y;obtain⟨_,_,_,a,b,c9,d,_⟩:=ax hl;have e1:=cL _ a (by omega);have e2:=cL _ c9 (by omega);obtain⟨jo,lo,hg,v0⟩:=cc;simp only at a b c9 d e1 e2 Y;obtain⟨x,rfl⟩:∃x:Nat,lo=x:=⟨lo.toNat,by omega⟩;obtain⟨y,rfl⟩:∃y:Nat,hg=y:=⟨hg.toNat,by omega⟩;simp only[yAm]at a b c9 d e1 e2 Y
   have hx:x<r1.length:=by omega
   have hy:y<r1.length:=by omega
   have ec:x<n:=by omega
   have ei:y<n:=by omega
   have cd:=aJ e1 hx;have cf:=aJ e2 hy
   have G:(r1.map B).set i (B (ab t op i))=r2.map B:=by rw[<-ck,yBv]
   rw[Y]at G;generalize ab t op x=bx at *;generalize ab t op y=e6 at *
   cases bx with
   |true=>
    rw[yAs]at G
    with_reducible repeat' (first|refine Sp.h ?_|((first|refine Wd ?_|refine Ss.h ?_|refine Sc.h (cl) ?_|(refine Sb.h ?_ ?_ ?_<;>(try intro hgd)<;>try exact Xy))<;>simp -implicitDefEqProofs (maxSteps:=2000000) [hP,hN,Q,N,R,O,g1,g5,S,g7,b8,g,m,o,F,l,e,D,hi,f,hn,r,H,cz,cp,hx,hy,ec,ei,e1,e2,cd,cf,cm,cB,b1,a1,cx,G]<;>try refine Ya ?_)|refine X2 ?_ ?_|(refine Xd ?_ ?_<;>intro hcd<;>try exact Xx))
    all_goals skip
   |false=>
    rw[yAG]at G
    with_reducible repeat' (first|refine Sp.h ?_|((first|refine Wd ?_|refine Ss.h ?_|refine Sc.h (cl) ?_|(refine Sb.h ?_ ?_ ?_<;>(try intro hgd)<;>try exact Xy))<;>simp -implicitDefEqProofs (maxSteps:=2000000) [hP,hN,Q,N,R,O,g1,g5,S,g7,b8,g,m,o,F,l,e,D,hi,f,hn,r,H,cz,cp,hx,hy,ec,ei,e1,e2,cd,cf,cm,cB,b1,a1,cx,G]<;>try refine Ya ?_)|refine X2 ?_ ?_|(refine Xd ?_ ?_<;>intro hcd<;>try exact Xx))
    all_goals skip
 .have cP:c=n:=by omega
  have c7:¬0<=(n:Int)-1-c:=by omega
  have cr:(n:Int)-1-c<0:=by omega
  rw[show n-c=0 by omega]at g;clear hc D
  have c0:(List.replicate n (B false)).set 0 (B true)=(kR t op 0).map B:=by rw[cD,yBv,List.map_replicate]
  with_reducible repeat' (first|refine Sp.h ?_|((first|refine Wh [58,60] ?_|refine Wi [58,60] ?_|refine Ss.h ?_|(refine Sb.h ?_ ?_ ?_<;>(try intro hgd)<;>try exact Xy))<;>simp -implicitDefEqProofs (maxSteps:=2000000) [hP,hN,Q,N,R,O,g1,g5,S,g7,b8,g,m,o,F,l,e,c7,cr,hn,dB,show(n:Int)*8<=281474976710656 by omega,show 8*(n:Int)<=281474976710656 by omega,show(n:Int)<=281474976710656 by omega,show(n:Int)<=9223372036854775807 by omega]<;>try refine Ya ?_)|refine X2 ?_ ?_|(refine Xd ?_ ?_<;>intro hcd<;>try exact Xx))
  have dd:List.replicate n (Z 0)=(nJ (kp t op) n 0).map Z:=by rw[<-NC,List.map_replicate]
  have cg:=λi=>uJ t op i;rw[hn]at cg
  have c2:=λi=>show kR t op (i+1)=if(cY (kR t op i) i&&(!bd t i&& !ab t op i))=true then((kR t op i).set (bp t i).low.toNat true).set (bp t i).high.toNat true else kR t op i from rfl
  have c4:bZ (kp t op) 0=0:=rfl;have b0:=Dg t op n 0;have cM:=λk(h:k<n)=>Lb (t:=t) (op:=op) (yAT k) h;generalize qw t op n 0=bk at *
  try rw[c0]
  try rw[dd]
  refine WP.loopN [13] n (λi st=>st.t 2=.ptr 2 0/\st.h 2=some (.box [.pv (iv t.root),.pv (.sl (t.cells.map bD))] true false)/\st.t 4=.ptr 4 0/\st.h 4=some (.box [.pv (.val (.slice none 0 0)),.pv (.val (.slice none 0 0))] true false)/\st.t 6=.arr 21 n/\st.t 9=.arr 58 n/\st.t 10=.arr 60 n/\st.t 11=.pv (Z (bZ (kp t op) i))/\st.t 64=.pv (.sl (t.cells.map bD))/\st.t 65=.pv (Z n)/\st.t 66=.pv (Z i)/\st.h 21=some (.row 4 1 (bk.map B) 0)/\st.h 58=some (.row 3 1 ((nJ (kp t op) n i).map Z) 0)/\st.h 60=some (.row 4 1 ((kR t op i).map B) 0)/\st.h 13=none/\st.h 16=none/\st.h 102=none) (by simp[Q,N,R,O,S,g,l,e,c4,c0,dd,hn]) ?_;clear Q N R O g1 g5 S g7 b8 g m o F l e st;rintro i st hi ⟨Q,N,R,O,S,g9,s,P,T,U,rQ,g,m,o,F,l,e⟩;have ca:=Ip (kp t op) n i;have a5:=cg i;by_cases D:i<n
  .have hw:=ai D (by omega)
   have f:i<t.cells.length:=by omega
   have r:=jq f;have H:∀h,t.cells[i]'h=bp t i:=λh=>aJ r h;have cl:=AD (bp t i);rw[<-iY f]at cl;have hK:=cV i D
   have a7:i<(kR t op i).length:=by omega
   have A:=oW a7;have p:=aJ A a7;rw[hK]at A p;have q:=c2 i;rw[hK]at q;have cu:=R5 (K:=kp t op) (n:=n) (i:=i);have cw:=Qu (K:=kp t op) D;have J:=nw (kp t op) i;have c8:=yc (kp t op) i
   have ad:i<bk.length:=by omega
   have M:=cM i D;have E:=aJ M ad;have ax:=b3 i f
   have b5:i<(nJ (kp t op) n i).length:=by omega
   have cv:i64.wrap ((bZ (kp t op) i:Int)+1)=((bZ (kp t op) i+1:Nat):Int):=by rw[IntKind.wrap_i64];omega
   generalize kR t op (i+1)=k2 at *;generalize kR t op i=k1 at *;generalize nJ (kp t op) n (i+1)=n2 at *;generalize nJ (kp t op) n i=n1 at *;generalize bZ (kp t op) (i+1)=m2 at *;generalize bZ (kp t op) i=m1 at *;generalize cO:bp t i=cc at *
   cases a8:kp t op i with
   |false=>
    rw[a8]at A p q J;rw[yAG,L4 (by decide)]at q;rw[L4 (by decide)]at J;have cu:=cu a8;subst q;subst J;subst cu
    with_reducible repeat' (first|refine Sp.h ?_|((first|refine Wd ?_|refine Ss.h ?_|(refine Sb.h ?_ ?_ ?_<;>(try intro hgd)<;>try exact Xy))<;>simp -implicitDefEqProofs (maxSteps:=2000000) [hP,hN,Q,N,R,O,S,g9,s,P,T,U,rQ,g,m,o,F,l,e,D,f,hw,hn,r,H,a7,A,p,a5,ca]<;>try refine Ya ?_)|refine X2 ?_ ?_|(refine Xd ?_ ?_<;>intro hcd<;>try exact Xx))
    all_goals skip
   |true=>
    rw[a8]at A p q J;rw[yAs]at q;rw[yAb rfl]at J;have cw:=cw a8
    have cb:(n1.map Z).set i (Z (m1:Int))=n2.map Z:=by rw[<-cw,yBv]
    subst J
    cases hl:bd t i with
    |true=>
     rw[hl]at cl q;simp only[yBy,yAG,ZY,yAi]at q;subst q
     with_reducible repeat' (first|refine Sp.h ?_|((first|refine Wd ?_|refine Ss.h ?_|refine Sc.h (cl) ?_|(refine Sb.h ?_ ?_ ?_<;>(try intro hgd)<;>try exact Xy))<;>simp -implicitDefEqProofs (maxSteps:=2000000) [hP,hN,Q,N,R,O,S,g9,s,P,T,U,rQ,g,m,o,F,l,e,D,f,hw,hn,r,H,a7,A,p,a5,ca,b5,cb,cv]<;>try refine Ya ?_)|refine X2 ?_ ?_|(refine Xd ?_ ?_<;>intro hcd<;>try exact Xx))
     all_goals skip
    |false=>
     rw[hl]at cl q;rw[yCk,yAs]at q;obtain⟨_,_,_,a,b,c9,d,_⟩:=ax hl;obtain⟨jo,lo,hg,v0⟩:=cc;simp only at a b c9 d q;obtain⟨x,rfl⟩:∃x:Nat,lo=x:=⟨lo.toNat,by omega⟩;obtain⟨y,rfl⟩:∃y:Nat,hg=y:=⟨hg.toNat,by omega⟩;simp only[yAm]at a b c9 d q
     cases hb:ab t op i with
     |true=>
      rw[hb]at q M E;rw[yBy,L4 (by decide)]at q;subst q
      with_reducible repeat' (first|refine Sp.h ?_|((first|refine Wd ?_|refine Ss.h ?_|refine Sc.h (cl) ?_|(refine Sb.h ?_ ?_ ?_<;>(try intro hgd)<;>try exact Xy))<;>simp -implicitDefEqProofs (maxSteps:=2000000) [hP,hN,Q,N,R,O,S,g9,s,P,T,U,rQ,g,m,o,F,l,e,D,f,hw,hn,r,H,a7,A,p,a5,ca,b5,cb,cv,ad,M,E,b0]<;>try refine Ya ?_)|refine X2 ?_ ?_|(refine Xd ?_ ?_<;>intro hcd<;>try exact Xx))
      all_goals skip
     |false=>
      rw[hb]at q M E;rw[yCk,yAb rfl]at q
      have ea:((k1.map B).set x (B true)).set y (B true)=k2.map B:=by rw[q,yBv,yBv]
      have ch:x<n:=by omega
      have cj:y<n:=by omega
      with_reducible repeat' (first|refine Sp.h ?_|((first|refine Wd ?_|refine Ss.h ?_|refine Sc.h (cl) ?_|(refine Sb.h ?_ ?_ ?_<;>(try intro hgd)<;>try exact Xy))<;>simp -implicitDefEqProofs (maxSteps:=2000000) [hP,hN,Q,N,R,O,S,g9,s,P,T,U,rQ,g,m,o,F,l,e,D,f,hw,hn,r,H,a7,A,p,a5,ca,b5,cb,cv,ad,M,E,b0,ch,cj,ea]<;>try refine Ya ?_)|refine X2 ?_ ?_|(refine Xd ?_ ?_<;>intro hcd<;>try exact Xx))
      all_goals skip
  .have b3:i=n:=by omega
   subst b3;have cQ:=λk(h:k<i)=>oW (op:=kR t op i) (i:=k) (by rw[cg i];exact h)
   have a8:=λk=>show cY (kR t op i) k=kp t op k by rw[kp,hn]
   simp only[a8]at cQ;have c5:=λk(h:k<i)(h2:kp t op k=true)=>R6 h h2;have c8:=yc (kp t op) i;have eF:nO t op 0=[]:=rfl;have eW:=OR t op;have c3:=DP t op;have ct:=λk=>yc (kp t op) k;obtain⟨cn,cP⟩:∃cn,bZ (kp t op) i=cn:=⟨_,rfl⟩;rw[cP]at P
   with_reducible repeat' (first|refine Sp.h ?_|((refine WP.make0 (hn:=[]) (pre:=[_]) (post:=[_]) rfl rfl rfl rfl ?_);simp -implicitDefEqProofs (maxSteps:=2000000) [hP,hN,Q,N,R,O,S,g9,s,P,T,U,rQ,g,m,o,F,l,e,D,hn])|((first|refine Wd ?_|refine Ss.h ?_|(refine Sb.h ?_ ?_ ?_<;>(try intro hgd)<;>try exact Xy))<;>simp -implicitDefEqProofs (maxSteps:=2000000) [hP,hN,Q,N,R,O,S,g9,s,P,T,U,rQ,g,m,o,F,l,e,D,hn]<;>try refine Ya ?_)|refine X2 ?_ ?_|(refine Xd ?_ ?_<;>intro hcd<;>try exact Xx))
   obtain⟨ti,z,e0,e3,e4⟩:=Io;refine⟨80,8,112,z,.i64,.i64,cn,ti,by simp,by simp[P],by rw[hP];exact e0,e3,by decide,e4,by omega,by omega,by simp[e],by decide,by rw[hN];decide,?_⟩;simp -implicitDefEqProofs (maxSteps:=2000000) [hP,hN,Q,N,R,O,S,g9,s,P,T,U,rQ,g,m,o,F,l,e]
   with_reducible repeat' (first|refine Sp.h ?_|((first|refine Wd ?_|refine Ss.h ?_|(refine Sb.h ?_ ?_ ?_<;>(try intro hgd)<;>try exact Xy))<;>simp -implicitDefEqProofs (maxSteps:=2000000) [hP,hN,Q,N,R,O,S,g9,s,P,T,U,rQ,g,m,o,F,l,e,D,hn]<;>try refine Ya ?_)|refine X2 ?_ ?_|(refine Xd ?_ ?_<;>intro hcd<;>try exact Xx))
   have a2:=cg i;generalize kR t op i=kf at *;generalize nJ (kp t op) i i=nf at *;refine WP.loopN [16] i (λj st=>st.t 2=.ptr 2 0/\st.h 2=some (.box [.pv (iv t.root),.pv (.sl (t.cells.map bD))] true false)/\st.t 4=.ptr 4 0/\st.h 4=some (.box [.pv (.val (.slice none 0 0)),.pv (.val (.slice none 0 0))] true false)/\st.t 6=.arr 21 i/\st.t 9=.arr 58 i/\st.t 10=.arr 60 i/\st.t 14=.arr 102 (bZ (kp t op) j)/\st.t 104=.pv (.sl (t.cells.map bD))/\st.t 105=.pv (Z i)/\st.t 106=.pv (Z j)/\st.h 21=some (.row 4 1 (bk.map B) 0)/\st.h 58=some (.row 3 1 (nf.map Z) 0)/\st.h 60=some (.row 4 1 (kf.map B) 0)/\st.h 102=some (.row 80 8 ((nO t op j).map bD) 0)/\st.h 16=none) (by simp[Q,N,R,O,S,g9,s,g,m,o,l,eF,c4,hn]) ?_;clear Q N R O S g9 s P T U rQ g m o F l e st;rintro j st hj ⟨Q,N,R,O,S,g9,s,bq,V,W,X,g,m,o,e,l⟩;by_cases ay:j<i
   .have hw:=ai ay (by omega)
    have f:j<t.cells.length:=by omega
    have r:=jq f;have H:∀h,t.cells[j]'h=bp t j:=λh=>aJ r h;have cl:=AD (bp t j);have ek:=R4 (bp t j) (ez _ (In r));rw[<-iY f]at cl
    have b7:j<kf.length:=by omega
    have A:=cQ j ay;have p:=aJ A b7
    have ad:j<bk.length:=by omega
    have M:=cM j ay;have E:=aJ M ad;have ax:=b3 j f;have cU:=eB j f;have a6:=eW j;have ep:=c3 j;have J:=nw (kp t op) j;have e5:=ct j
    have bs:((nO t op j).map bD).length=bZ (kp t op) j:=by rw[yAz,ep]
    have I:gW t op j=if ab t op j=true then bn bi else if bd t j=true then bp t j else⟨(bp t j).joint,(bZ (kp t op) (bp t j).low.toNat:Nat),(bZ (kp t op) (bp t j).high.toNat:Nat),bi⟩:=rfl
    generalize bZ (kp t op) (j+1)=m2 at *;generalize nO t op (j+1)=M2 at *;generalize cO:bp t j=cc at *;generalize gW t op j=mc at *
    have el:(nO t op j++[mc]).map bD=(nO t op j).map bD++[bD mc]:=by rw[yBS];rfl
    generalize nO t op j=M1 at *
    have e9:bZ (kp t op) j<=2048:=by omega
    cases b9:kp t op j with
    |false=>
     rw[b9]at A p a6 J;rw[L4 (by decide)]at a6 J;subst a6;subst J
     with_reducible repeat' (first|refine Sp.h ?_|((first|refine Wd ?_|refine Ss.h ?_|(refine Sb.h ?_ ?_ ?_<;>(try intro hgd)<;>try exact Xy))<;>simp -implicitDefEqProofs (maxSteps:=2000000) [hP,hN,Q,N,R,O,S,g9,s,bq,V,W,X,g,m,o,e,l,ay,f,hw,hn,r,H,b7,A,p,a2]<;>try refine Ya ?_)|refine X2 ?_ ?_|(refine Xd ?_ ?_<;>intro hcd<;>try exact Xx))
     all_goals skip
    |true=>
     rw[b9]at A p a6 J;rw[yAb rfl]at a6 J;rw[a6,el];subst J;generalize M1.map bD=L at *
     cases hb:ab t op j with
     |true=>
      rw[hb]at M E I;rw[yAb rfl]at I;rw[I,show bD (bn bi)=.agg [Z (-1),Z (-1),Z (-1),Z 0,.sl [],Z 0,.sl [],.sl []] from rfl];generalize bZ (kp t op) j=m1 at *
      with_reducible repeat' (first|refine Sp.h ?_|((first|refine Wd ?_|refine Ss.h ?_|(refine Sb.h ?_ ?_ ?_<;>(try intro hgd)<;>try exact Xy))<;>simp -implicitDefEqProofs (maxSteps:=2000000) [hP,hN,Q,N,R,O,S,g9,s,bq,V,W,X,g,m,o,e,l,ay,f,hw,hn,r,H,b7,A,p,a2,ad,M,E,b0,bs,show(m1+1)*112<=140737488355328 by omega,show m1+1<=9223372036854775807 by omega,show m1<=9223372036854775806 by omega]<;>try refine Ya ?_)|refine X2 ?_ ?_|(refine Xd ?_ ?_<;>intro hcd<;>try exact Xx))
      all_goals skip
     |false=>
      rw[hb]at M E I;rw[L4 (by decide)]at I
      cases hl:bd t j with
      |true=>
       rw[hl]at cl I;rw[yAb rfl]at I;rw[I];generalize bZ (kp t op) j=m1 at *
       with_reducible repeat' (first|refine Sp.h ?_|((first|refine Wd ?_|refine Ss.h ?_|refine Sc.h (cl) ?_|refine Sc.h (ek) ?_|(refine Sb.h ?_ ?_ ?_<;>(try intro hgd)<;>try exact Xy))<;>simp -implicitDefEqProofs (maxSteps:=2000000) [hP,hN,Q,N,R,O,S,g9,s,bq,V,W,X,g,m,o,e,l,ay,f,hw,hn,r,H,b7,A,p,a2,ad,M,E,b0,bs,show(m1+1)*112<=140737488355328 by omega,show m1+1<=9223372036854775807 by omega,show m1<=9223372036854775806 by omega]<;>try refine Ya ?_)|refine X2 ?_ ?_|(refine Xd ?_ ?_<;>intro hcd<;>try exact Xx))
       all_goals skip
      |false=>
       rw[hl]at cl I;rw[L4 (by decide)]at I;obtain⟨_,_,_,a,b,c9,d,_⟩:=ax hl;obtain⟨k1,k2⟩:=cU hl;obtain⟨jo,lo,hg,v0⟩:=cc;simp only at a b c9 d I k1 k2;obtain⟨x,rfl⟩:∃x:Nat,lo=x:=⟨lo.toNat,by omega⟩;obtain⟨y,rfl⟩:∃y:Nat,hg=y:=⟨hg.toNat,by omega⟩;simp only[yAm]at a b c9 d I k1 k2;rw[b9,hb]at k1 k2;have e1:=c5 x (by omega) k1;have e2:=c5 y (by omega) k2
       have ch:x<nf.length:=by omega
       have cj:y<nf.length:=by omega
       have eb:x<i:=by omega
       have ee:y<i:=by omega
       have cd:=aJ e1 ch;have cf:=aJ e2 cj;rw[I,show∀(u v:Nat),bD ⟨jo,(u:Int),(v:Int),bi⟩=.agg [Z jo,Z (u:Int),Z (v:Int),Z 0,.sl [],Z 0,.sl [],.sl []] from λ_ _=>rfl];generalize bZ (kp t op) x=fb at *;generalize bZ (kp t op) y=ff at *;generalize bZ (kp t op) j=m1 at *
       with_reducible repeat' (first|refine Sp.h ?_|((first|refine Wd ?_|refine Ss.h ?_|refine Sc.h (cl) ?_|(refine Sb.h ?_ ?_ ?_<;>(try intro hgd)<;>try exact Xy))<;>simp -implicitDefEqProofs (maxSteps:=2000000) [hP,hN,Q,N,R,O,S,g9,s,bq,V,W,X,g,m,o,e,l,ay,f,hw,hn,r,H,b7,A,p,a2,ad,M,E,b0,bs,ch,cj,eb,ee,e1,e2,cd,cf,ca,show(m1+1)*112<=140737488355328 by omega,show m1+1<=9223372036854775807 by omega,show m1<=9223372036854775806 by omega]<;>try refine Ya ?_)|refine X2 ?_ ?_|(refine Xd ?_ ?_<;>intro hcd<;>try exact Xx))
       all_goals skip
   .have eA:j=i:=by omega
    subst eA
    have bs:((nO t op j).map bD).length=bZ (kp t op) j:=by rw[yAz,c3]
    generalize(nO t op j).map bD=L at *
    with_reducible repeat' (first|refine Sp.h ?_|((first|refine Wd ?_|refine Ss.h ?_|refine Sc.h (c1) ?_|(refine Sb.h ?_ ?_ ?_<;>(try intro hgd)<;>try exact Xy))<;>simp -implicitDefEqProofs (maxSteps:=2000000) [hP,hN,Q,N,R,O,S,g9,s,bq,V,W,X,g,m,o,e,l,ay,bs]<;>try refine Ya ?_)|refine X2 ?_ ?_|(refine Xd ?_ ?_<;>intro hcd<;>try exact Xx))
    all_goals skip
def NE(R:Tr->List Bool->List Int->List Bool)(t:Tr)(p q:List Int)(U:List Bool):Tr:=if f8 t p q U=true then lr R t p q else t
set_option maxRecDepth 20000 in
theorem Y7(R:Tr->List Bool->List Int->List Bool)(k:zz R)(t:Tr)(p q:List Int)(U:List Bool)(l:jO t p U)(o:t.cells.length<=1000000)(r:t.root.length<=1000000)(b:∀c∈t.cells,PB c):jQ 25 (eo t) (zs p) (zs q) (eo (NE R t p q U)):=by
 have e:=PJ t p q U (by omega) (by omega) l;unfold NE
 cases g:f8 t p q U with
 |false=>
  rw[g]at e;have f:=Y5 t r o b;refine Dp func25 λC hP hN=>?_
  with_reducible repeat' (first|refine Sp.h ?_|((first|refine Ss.h ?_|refine Sc.h (e) ?_|refine Sc.h (f) ?_|(refine Sb.h ?_ ?_ ?_<;>(try intro hgd)<;>try exact Xy))<;>simp -implicitDefEqProofs (maxSteps:=2000000) [hP,hN])|refine X2 ?_ ?_|(refine Xd ?_ ?_<;>intro hcd<;>try exact Xx))
 |true=>
  rw[g]at e;rw[yAb rfl];obtain⟨i,_,_,_⟩:=tr g;have f:=Wf t i;have n:=rQ R k t p q i;have d:(mN R t p q).length=t.cells.length:=zx _;have j:=Y6 t (mN R t p q) i d b;have m:eZ t (mN R t p q)=lr R t p q:=rfl;rw[m]at j;generalize lr R t p q=u at *;generalize mN R t p q=F at *;have a:(t.cells.map cK).length=t.cells.length:=yAz ..;generalize t.cells.map cK=s at *;refine Dp func25 λC hP hN=>?_
  with_reducible repeat' (first|refine Sp.h ?_|((refine WP.share (hn:=[]) (pre:=[_,_,_,_]) (post:=[]) rfl rfl rfl ?_);simp -implicitDefEqProofs (maxSteps:=2000000) [hP,hN,a])|((first|refine Ss.h ?_|refine Sc.h (e) ?_|refine Sc.h (f) ?_|(refine Sb.h ?_ ?_ ?_<;>(try intro hgd)<;>try exact Xy))<;>simp -implicitDefEqProofs (maxSteps:=2000000) [hP,hN,a])|refine X2 ?_ ?_|(refine Xd ?_ ?_<;>intro hcd<;>try exact Xx))
  simp only[KD,hP];refine⟨_,_,_,_,_,λ_=>16,rfl,n,rfl,?_⟩;refine⟨by simp[Jn,qE,a],by simp[Pl,ro],by simp,by intro v h;simp only[yAv,yAB,yAZ]at h;subst h;simp[mH],by rw[hN];rfl,?_⟩;simp -implicitDefEqProofs (maxSteps:=2000000) [hP,hN,lD,mH,fW,a]
  with_reducible repeat' (first|refine Sp.h ?_|((first|refine Ss.h ?_|refine Sc.h (j) ?_|(refine Sb.h ?_ ?_ ?_<;>(try intro hgd)<;>try exact Xy))<;>simp -implicitDefEqProofs (maxSteps:=2000000) [hP,hN,d,a])|refine X2 ?_ ?_|(refine Xd ?_ ?_<;>intro hcd<;>try exact Xx))
theorem OV(l:List Int):az (fa l)=0:=by
 have m:=yY l;have e:=ar l (qh l) (k:=4) (by decide) (by decide)
 have n:qv l<4:=by unfold qv;omega
 have g:aD (fa l).js (fa l).ms=0:=by
  show aD (wv 64 (qu l)) []=0
  have:qu l=1\/qu l=2:=by omega
  rcases this with h|h<;>rw[h]<;>decide +kernel
 have j:¬24<(fa l).shs.length:=by simp only[fa,AA];omega
 have hf:gl (fa l).js.length (fa l).shs=0:=by
  refine oB λk x e=>?_;have d:=In e
  have f:(fa l).js.length=qu l:=by simp only[fa,ug]
  rw[f];simp only[fa,tJ,yAv,yAt]at d;rcases d with rfl|⟨i,_,rfl⟩
  .have a:=ar l (mK l) (k:=4) (by decide) (by decide)
   refine vZ ?_ (by simp only;omega) (by simp only;omega) (by simp) (by simp) (λp hp=>?_)
   .simp only[cJ,An,Is];omega
   .simp only[yAE]at hp
    subst hp
    decide
  .have a:=ar l (nn l (nn l (nn l (eJ l i)))) (k:=9) (by decide) (by decide)
   have b:=ar l (eJ l i) (k:=65) (by decide) (by decide);have c:=ar l (nn l (eJ l i)) (k:=65) (by decide) (by decide);refine vZ ?_ (by simp only[BR];omega) (by simp only[BR];omega) ?_ ?_ (λp hp=>?_)
   .show cJ (qu l) (-1)=true
    simp only[cJ,An,Is];omega
   .simp only[BR,Ga];split<;>simp
   .simp only[BR,Ga];split<;>simp
   .simp only[BR,Ga]at hp
    rw[dJ];split at hp
    .simp only[yAv,yAB,yAZ]at hp
     rcases hp with rfl|rfl
     all_goals simp only[bM];omega
    .simp only[yAE]at hp
     subst hp;simp only[bM];omega
 unfold az;rw[L4 (by simp[g]),L4 j,L4 (by simp[hf]),L4 (by simp[fa]),yAb (by simp[fa])]
theorem TF{x:List Int}(b:aD js ms=0)(d:au vI (aC js ms)=true)(f:aR (aC js ms) x=true):bb js ms x=true:=by
 have k:aC js ms=js.map ic:=by simp[aC,b]
 rw[k]at f d;obtain⟨g,j⟩:=(dU d).1 f;rw[yAz]at g
 have e:js.length=x.length:=by omega
 simp only[bb,b,e,yBJ,yAs];rw[kw];intro i hi a;have c:=j i (ic js[i]) x[i] (by rw[ZW,an hi];rfl) (an a);simp only[ic]at c;simp only[ud,An,Is];omega
theorem TG(h:ma n t):ma n (lr R t p q):=by
 intro c a;have a:c∈nO t (mN R t p q) t.cells.length:=a;obtain⟨i,hi,rfl⟩:=yAt.1 a;unfold gW;split
 .exact si n
 .split
  .unfold bp
   cases b:t.cells[i]? with
   |none=>exact si n
   |some c=>exact h c (In b)
  .exact si n
theorem Rf{y:Nat}(h:y<4):(1+y)*24<=140737488355328/\1+y<=9223372036854775807/\(1+y+1)*24<=140737488355328/\1+y+1<=9223372036854775807:=by omega
theorem MG{U:List Bool}{K:List (List Int)}(l:jO t p U)(z:K.length<=100)(c:∀x∈gw p K q,bb s.js s.ms x=true)(f:jK s t p q U=true):∃r,gV t (gw p K q)=some r/\r.2.2<t.cells.length/\iU s t r.2.2=true:=by
 obtain⟨j,k,v⟩:=Fm p K q;simp only[jK,om,An,Is]at f;obtain⟨⟨⟨⟨y,g⟩,e⟩,m⟩,a⟩:=f;rw[ym,Is]at e;have u:=(ba.1 (bP g)).2.2.2.2
 have d:gB t (gw p K q)=true:=by
  simp only[gB,g,yAs,An,Is];refine⟨⟨by omega,by omega⟩,bE.2 λx n=>?_⟩;have:=Dj (by rw[<-e];exact u) (c x n);rw[e];exact this
 obtain⟨r,b⟩:=Eo l m d j k;obtain⟨_,i,o,_⟩:=B6 b;refine⟨r,b,i,?_⟩;rw[kx,IV]at a;have:=a r.2.2 (yAJ.2 i);rw[o]at this;simpa using this
theorem d6(l m o line:List Int)(n:Int):Ao 6 (zs l) (zs m) (zs o) (zs line) (Z n) (B true):=by
 have ca:=U9;have ct:=Y3 l;have hL:=RZ l;have Y:=OV l;have z:=QY l
 have b7:(fa l).js.length<=10:=by have:=yY l;simp only[fa,ug];omega
 have cm:=K1 m (fa l).js (fa l).ms (by omega) z;have co:=K1 o (fa l).js (fa l).ms (by omega) z;obtain⟨y,hy,b4⟩:=Me (i:=n) (n:=4) (by decide) (by decide);have cr:=Pw n 4 (by decide);rw[show lQ n 4=(y:Int) from hy]at cr;have hR:=kA Y;have Q:=xZ m hR z;have S:=xZ o hR z
 have b8:(ie m (fa l).js).length=(fa l).js.length:=by simp[ie]
 have b9:(ie o (fa l).js).length=(fa l).js.length:=by simp[ie]
 generalize fa l=s at *;generalize ie m s.js=a at *;generalize ie o s.js=b at *;have cD:=Vb s a b 1 200 hL (by omega) (by omega);have hS:=ME Y Q S (by omega:(1:Int)<=1) (by omega:(1:Int)<=200) (by omega);obtain⟨H,a7,_⟩:=Mj (s:=s) (p:=a) (q:=b) (w:=1) (cells:=200) hL.js;have J:=λU P h=>MK (U:=U) Y hS.1 hS.2 P h;have d:=hS.1.root;have e:=hS.1.valid;clear hS;generalize mU s a b 1 200=D at *;obtain⟨t,status⟩:=D;simp only at cD H a7 J d e;by_cases L:status=2
 case neg=>
  have G:(status !=2)=true:=by simp[L]
  clear J e d H a7 hL;refine Dp func6 λC hP hN=>?_
  with_reducible repeat' (first|refine Sp.h ?_|((first|refine Wd ?_|refine Ss.h ?_|refine Sc.h (ca) ?_|refine Sc.h (ct) ?_|refine Sc.h (cm) ?_|refine Sc.h (co) ?_|refine Sc.h (cD) ?_|(refine Sb.h ?_ ?_ ?_<;>(try intro hgd)<;>try exact Xy))<;>simp -implicitDefEqProofs (maxSteps:=2000000) [hP,hN,L,G]<;>try refine Ya ?_)|refine X2 ?_ ?_|(refine Xd ?_ ?_<;>intro hcd<;>try exact Xx))
 have G:(status !=2)=false:=by simp[L]
 have F:=(ba.1 (bP e)).2.2.2.2
 have cb:t.root.length<=10:=by
  rw[d];simp only[aC];split<;>simp<;>omega
 obtain⟨U,P⟩:=BX t a;have j:=J U P L;obtain⟨a5,a2⟩:=Kx H (by omega) (by omega);have k1:=Il s t a b U hL a5 P;rw[j]at k1;obtain⟨R,ay⟩:=OS;have cs:=Y7 R ay t a b U P (by omega) (by omega) a2
 have N:f8 t a b U=true:=by
  simp only[jK,om,An,Is]at j;exact j.1.2
 unfold NE at cs;rw[N,yAb rfl]at cs;obtain⟨V,hV⟩:=BX (lr R t a b) a;have f:=TP ay P j hV;have cd:=Q5 (R:=R) (t:=t) (p:=a) (q:=b);have M:(lr R t a b).root=t.root:=rfl;have X:=TG (R:=R) (p:=a) (q:=b) H;clear N j J H a2;generalize lr R t a b=u at *;obtain⟨a6,_⟩:=Kx X (by omega) (by rw[M];omega);have k2:=Il s u a b V hL a6 hV
 have hN:Gb s u a b V=(io u.cells:Int):=by rw[Gb,yAb f]
 have k:=f;rw[f,hN]at k2;have cz:=Va u (by omega);have cL:=Za t.root y line (by omega) (by omega) F;have a8:=sI t.root y line
 have ad:∀x∈jB t.root y line,bb s.js s.ms x=true:=λx hx=>by
  have h:=Lj F x hx;rw[d]at h F;exact TF hR F h
 generalize jB t.root y line=K at *;have g:=MF Q S ad
 have b0:∀x∈gw a K b,x.length<=9223372036854775807:=λx hx=>by
  have:=g x hx;simp only[bb,An,Is]at this;omega
 obtain⟨w0,w2,w3⟩:=Fm a K b;have T:=HC (D:=4) hV (by omega) g f;obtain⟨r,bs,A,E⟩:=MG hV (by omega) g f;have cM:=U3 u (gw a K b) (by omega) (by rw[M];omega) (by omega);rw[bs]at cM;have cB:=Vt s (gw a K b) 4 hL Y (by omega) (by omega) g (by decide);rw[show(gw a K b).map zs=zs a::(K.map zs++[zs b]) by simp[gw]]at cB cM;rw[T]at cB;obtain⟨r1,⟨f1,f2⟩,O⟩:=r;simp only at A E
 have W:am u=true:=by
  simp only[jK,om,An,Is]at k;exact k.1.1.1.2
 obtain⟨b1,b2⟩:=xY W A;have cO:=Vs u (O:Int) (by omega);rw[b1,b2]at cO;obtain⟨c,hc⟩:∃c,u.cells[O]?=some c:=⟨_,an A⟩;have bk:∀h,u.cells[O]'h=c:=λh=>aJ hc h;have a1:=(dF W (c:=(O:Int)) (by simpa using A)).2.1;obtain⟨v1,v2,v3⟩:=X c (In hc);have cC:=Zy s (ao u (O:Int)) ⟨c.v.pair,c.v.left,c.v.right⟩ hL (by rw[a1,M];omega) (by simp only;omega) (by simp only;omega)
 have hh:dO s (ao u (O:Int)) ⟨c.v.pair,c.v.left,c.v.right⟩=true:=by
  unfold iU at E;rw[hc]at E;exact E
 rw[hh]at cC;generalize Gb s t a b U=n1 at *
 have ax:DY s (gw a K b) 4=.agg [.sl [],.sl []]:=by unfold DY;rw[T];rfl
 rw[ax]at cB;generalize KB s (gw a K b) 4=I at *;generalize ao u (O:Int)=bx at *;generalize io u.cells=sz at *;clear P hV g Q S ad z Y hR a5 a6 f k T E hh b0 w0 w2 w3 ax W b1 b2 a1 X F e hN;obtain⟨z1,z2,z3,z4⟩:=Rf b4;have b3:y+1=1+y:=Nat.add_comm _ _
 have bq:¬u.cells.length<=O:=by omega
 obtain⟨js,ms,SH,sks⟩:=s;obtain⟨rt,b5⟩:=u;simp only at *;subst M;refine Dp func6 λC hP hN=>?_
 with_reducible repeat' (first|refine Sp.h ?_|((first|refine Wh [70] ?_|refine Wi [70] ?_|refine Ss.h ?_|refine Sc.h (ca) ?_|refine Sc.h (ct) ?_|refine Sc.h (cm) ?_|refine Sc.h (co) ?_|refine Sc.h (cD) ?_|refine Sc.h (cs) ?_|refine Sc.h (k1) ?_|refine Sc.h (k2) ?_|refine Sc.h (cr) ?_|refine Sc.h (cL) ?_|refine Sc.h (cM) ?_|refine Sc.h (cz) ?_|refine Sc.h (cO) ?_|refine Sc.h (cB) ?_|refine Sc.h (cC) ?_|(refine Sb.h ?_ ?_ ?_<;>(try intro hgd)<;>try exact Xy))<;>simp -implicitDefEqProofs (maxSteps:=2000000) [hP,hN,G,a8,b3,z1,z2,z3,z4,A,bq,hc,bk]<;>try refine Ya ?_)|refine X2 ?_ ?_|(refine Xd ?_ ?_<;>intro hcd<;>try exact Xx))
end Go.Ab
