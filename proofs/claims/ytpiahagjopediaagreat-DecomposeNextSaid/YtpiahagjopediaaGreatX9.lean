/- The contracts and facts that the laws of this seat need, in one text (K5d, K5e, K5f, K5g, K12, Ab28, Ab30, Ab31, K12b, K12c, K13, K13b, K13c, Tv, K13d, DeP, DcM, Dc8, K13e, K14, K14b, Dc10, Dc11, AbX). -/
import Derived.Test.YtpiahagjopediaaGreatX8
set_option linter.all false
set_option maxHeartbeats 16000000
namespace Go.Ab
open Go.Proofs
variable {P:Program}{a b l:List aH}{bx:List Iv}{c x y:Code}{cc:Bool}{hn:List Nat}{i id:Nat}{js:List J}{ms:List Ms}{o:Oper}{ops:Array Oper}{post pre:List Oper}{s:Sce}{t:Tr}{w:Int}{α:Type}{p:α->Bool}{xs:List α}
def DM(i:Nat)(j:J):Prop:=(0<=j.kind∧j.kind<=6)∧-1<=j.parent∧j.parent<(i:Int)
def DN(js:List J):Prop:=∀i j,js[i]?=some j->DM i j
theorem EW{j:J}(h:dv js i j=0):DM i j:=by
 unfold dv at h
 repeat' split at h
 all_goals (try (cases h;done))
 all_goals (try omega)
 refine⟨by omega,by omega,by omega⟩
theorem EX(h:bF js ms=0):DN js∧js.length<=10∧1<=js.length:=by
 unfold bF at h;split at h
 .cases h
 .rename_i hl
  split at h
  .rename_i hne;exact absurd h hne
  .rename_i he
   refine⟨λi j hij=>?_,by omega,by omega⟩;have hlt:=(List.getElem?_eq_some_iff.1 hij).1
   have he':jg js=0:=by simpa using he
   rw[tx]at he';by_cases hz:dv js i j=0
   .exact EW hz
   .exfalso
    cases hf:(js.mapIdx (dv js)).find? (λe=>e !=0)with
    |none=>
     rw[List.find?_eq_none]at hf
     have hm:dv js i j∈js.mapIdx (dv js):=by
      rw[List.mem_mapIdx];obtain⟨h1,h2⟩:=List.getElem?_eq_some_iff.1 hij;exact⟨i,h1,by rw[h2]⟩
     exact hf _ hm (by simpa using hz)
    |some e=>
     rw[hf]at he';have:=List.find?_some hf;simp only at he';rw[he']at this;simp at this
theorem qg(h:eu s=0):DN s.js∧s.js.length<=10∧1<=s.js.length∧s.shs.length<=24∧s.sks.length<=64∧(∀x∈s.shs,jH s.js.length x.link=true∧jh x=true)∧∀p∈s.sks,qf s.js.length p=true:=by
 unfold eu at h;split at h
 .rename_i hne;exact absurd h hne
 .rename_i h0
  have h0:bF s.js s.ms=0:=by simpa using h0
  split at h
  .cases h
  .rename_i h1
   split at h
   .rename_i hne;exact absurd h hne
   .rename_i h2
    have h2:iT s.js.length s.shs=0:=by simpa using h2
    split at h
    .cases h
    .rename_i h3
     split at h
     .rename_i h4
      obtain⟨a1,a2,a3⟩:=EX h0;refine⟨a1,a2,a3,by omega,by omega,λx hx=>?_,λp hp=>List.all_eq_true.1 h4 p hp⟩
      have hz:fw s.js.length x=0:=by
       by_cases hz:fw s.js.length x=0
       .exact hz
       .exfalso
        unfold iT at h2
        cases hf:(s.shs.map (fw s.js.length)).find? (λe=>e !=0)with
        |none=>
         rw[List.find?_eq_none]at hf;exact hf _ (List.mem_map.2 ⟨x,hx,rfl⟩) (by simpa using hz)
        |some e=>
         rw[hf]at h2;have:=List.find?_some hf;simp only at h2;rw[h2]at this;simp at this
      unfold fw at hz;split at hz
      .rename_i hc
       split at hz
       .rename_i hn
        simp only[Bool.and_eq_true,decide_eq_true_eq]at hc;obtain⟨⟨⟨⟨c0,c1⟩,c2⟩,c3⟩,c4⟩:=hc;refine⟨c0,?_⟩;simp only[jh,Bool.and_eq_true,decide_eq_true_eq];exact⟨⟨⟨⟨c1,c2⟩,c3⟩,c4⟩,hn⟩
       .cases hz
      .cases hz
     .cases h
theorem Mq(a b c d:Int):al Tryz.prog (Op.equal 119 (.agg #[.int .i64 a,.int .i64 b]) (.agg #[.int .i64 c,.int .i64 d]))=some (a==c&&b==d):=by
 have hf:(Tryz.prog.fieldsOf 119).toList=[(Tryz.prog.fieldsOf 119)[0]!,(Tryz.prog.fieldsOf 119)[1]!]:=by kernel_rfl
 show al Tryz.prog (Op.equalIn (9999+1) 119 _ _)=_;rw[y8 9999 119 _ _ (by kernel_rfl) (by kernel_rfl),hf]
 have h:=uo (P:=Tryz.prog) (d:=9999) (xs:=#[.int .i64 a,.int .i64 b]) (ys:=#[.int .i64 c,.int .i64 d]) (f:=(Tryz.prog.fieldsOf 119)[0]!) (fs:=[(Tryz.prog.fieldsOf 119)[1]!]) (a:=.int .i64 a) (b:=.int .i64 c) (by decide +kernel) (by kernel_rfl) (by kernel_rfl) (tn 9998 _ .i64 .i64 a c (by kernel_rfl))
  (uo (by decide +kernel) (a:=.int .i64 b) (b:=.int .i64 d) (by kernel_rfl) (by kernel_rfl) (tn 9998 _ .i64 .i64 b d (by kernel_rfl)) Eo)
 rw[h];simp
def DO(x y:AV)(fb:Option dm):Option dm:=match uw x,uw y with
 |some (a,b),some (c,d)=>some (.pv (.val (.bool (a==c&&b==d))),[])
 |_,_=>fb
@[simp] theorem J8(a b c d:Int)(fb:Option dm):DO (.pv (.val (.agg #[.int .i64 a,.int .i64 b]))) (.pv (.val (.agg #[.int .i64 c,.int .i64 d]))) fb=some (.pv (.val (.bool (a==c&&b==d))),[]):=rfl
@[simp] theorem Pq{dst:Option Nat}{ty:TypeId}{pos:String}{aft:Array Edge}{g:Option (Nat×Bool)}{ρ:Operand->AV}(x y:Operand):
 bz Tryz.prog ⟨dst,.binOp .eql 119 x y 119,ty,pos,aft,g⟩ ρ=DO (ρ x) (ρ y) (mF Tryz.prog ⟨dst,.binOp .eql 119 x y 119,ty,pos,aft,g⟩ ρ):=by
 unfold DO;split
 .rename_i a b c d hx hy
  exact Dg rfl (oa hx) (oa hy) (by kernel_rfl) (Mq a b c d)
 .rfl
def CG(a b:Int)(p:Int×Int):Bool:=(p.1==a&&p.2==b)||(p.1==b&&p.2==a)
def oM(s:Sce)(a b:Int):Bool:=s.sks.any (CG a b)
theorem Mr{v:α}(h:xs[i]?=some v)(hp:p v=true):xs.any p=true:=List.any_eq_true.2 ⟨v,List.mem_of_getElem? h,hp⟩
theorem Mt(hq:∀k x,k<i->xs[k]?=some x->p x=false)(h:¬i<xs.length):xs.any p=false:=by
 rw[List.any_eq_false];intro x hx;obtain⟨k,hk⟩:=List.getElem?_of_mem hx;simp[hq k x (by have:=(List.getElem?_eq_some_iff.1 hk).1;omega) hk]
theorem Mu{v:α}(hv:xs[i]?=some v)(hq:∀k x,k<i->xs[k]?=some x->p x=false)(hp:p v=false):∀k x,k<i+1->xs[k]?=some x->p x=false:=by
 intro k x hk hx;by_cases e:k=i
 .subst e;rw[hv]at hx;injection hx with hx;subst hx;exact hp
 .exact hq k x (by omega) hx
theorem Mv(s:Sce)(a b:Int)(hl:s.sks.length<=9223372036854775807):aa Tryz.prog 169 [.pv (jG s),.pv (Z a),.pv (Z b)] [] [] (.pv (B (oM s a b))):=by
 have hsk:oM s a b=s.sks.any (CG a b):=rfl;rw[hsk];refine Dp Tryz.func169 ?_;intro C hP hN;simp only[Tryz.f169]at hN|-;refine Gz ?_;refine WP.loopN [8] s.sks.length (λi st=>st.t 1=.pv (Z a)∧st.t 2=.pv (Z b)∧st.t 10=.pv (.sl (s.sks.map aU))∧st.t 11=.pv (Z s.sks.length)∧st.t 12=.pv (Z i)∧st.h 8=none∧∀k x,k<i->s.sks[k]?=some x->CG a b x=false) (by simp) ?_;rintro i st hi ⟨g1,g2,g10,g11,g12,hb8,hq⟩;by_cases hlt:i<s.sks.length
 .have hw:=au hlt hl
  generalize hxe:s.sks[i]=v at *
  have hx:s.sks[i]?=some v:=by rw[List.getElem?_eq_getElem hlt,hxe]
  have hst:=Mu (p:=CG a b) hx hq;have hY:=Mr (p:=CG a b) hx;have hp:CG a b v=((v.1==a&&v.2==b)||(v.1==b&&v.2==a)):=rfl
  cases c1:(v.1==a&&v.2==b)with
  |true=>
   rw[c1,Bool.true_or]at hp;have hy:=hY hp;exact Gy
  |false=>
   rw[c1,Bool.false_or]at hp
   cases c2:(v.1==b&&v.2==a)with
   |true=>
    rw[c2]at hp;have hy:=hY hp;exact Gy
   |false=>
    rw[c2]at hp;have hst':=hst hp;refine Gz ?_
    all_goals exact λk a b=>hst' k (a,b)
 .have hn:=Mt hq hlt
  exact Gy
def Mw(L:List Int)(i:Nat)(j:J):Int:=if j.lo=j.hi then(L[(j.parent+1).toNat]?).getD 0 else(i:Int)
def nO(js:List J):Nat->List Int
 |0=>[-1]
 |i+1=>match js[i]? with
  |some j=>nO js i++[Mw (nO js i) i j]
  |none=>nO js i
def li(js:List J):List Int:=nO js js.length
theorem pE{js:List J}:∀i,i<=js.length->(nO js i).length=i+1
 |0,_=>rfl
 |i+1,h=>by
  have hlt:i<js.length:=by omega
  have ih:=pE (js:=js) i (by omega);simp only[nO,List.getElem?_eq_getElem hlt,List.length_append,ih,List.length_singleton]
theorem sv{js:List J}{k:Nat}:∀i,k<=i->i<=js.length->∀q,q<=k->(nO js i)[q]?=(nO js k)[q]?
 |0,h1,h2,q,hq=>by have:k=0:=by omega
                   subst this;rfl
 |i+1,h1,h2,q,hq=>by
  by_cases e:k=i+1
  .subst e;rfl
  .have hlt:i<js.length:=by omega
   rw[<-sv i (by omega) (by omega) q hq];simp only[nO,List.getElem?_eq_getElem hlt];rw[List.getElem?_append_left (by rw[pE i (by omega)];omega)]
theorem HL{j:J}(hj:js[i]?=some j)(hk:DM i j):(li js)[i+1]?=some (if j.lo=j.hi then((li js)[(j.parent+1).toNat]?).getD 0 else(i:Int)):=by
 have hlt:=(List.getElem?_eq_some_iff.1 hj).1;obtain⟨_,hp1,hp2⟩:=hk;have e1:(li js)[i+1]?=(nO js (i+1))[i+1]?:=sv js.length (k:=i+1) (by omega) (Nat.le_refl _) _ (Nat.le_refl _);have e2:(li js)[(j.parent+1).toNat]?=(nO js i)[(j.parent+1).toNat]?:=sv js.length (k:=i) (by omega) (Nat.le_refl _) _ (by omega);rw[e1,e2];have hlen:=pE (js:=js) i (by omega);simp only[nO,hj];rw[List.getElem?_append_right (by omega),hlen,Nat.sub_self];rfl
theorem Mx(js:List J)(ms:List Ms)(hj:DN js)(hl:js.length<=10):aa Tryz.prog 168 [.pv (ja js ms)] [] [] (.pv (zs (li js))):=by
 have hlen:(li js).length=js.length+1:=pE _ (Nat.le_refl _);have h00:(li js)[0]?=some (-1):=sv js.length (k:=0) (by omega) (Nat.le_refl _) 0 (Nat.le_refl _);have hat:=λi j(h:js[i]?=some j)=>HL h (hj i j h);generalize li js=CL at *;have w1:IntKind.i64.wrap ((js.length:Int)+1)=((js.length+1:Nat):Int):=(ab (by omega) (by omega)).trans (by omega);refine Dp Tryz.func168 ?_;intro C hP hN;simp only[Tryz.f168]at hN|-;refine GT (gA w1 (gA (show(8:Int)*((js.length:Int)+1)<=281474976710656 by omega) (gA (show(js.length:Int)+1<=9223372036854775807 by omega) (show(0:Int)<=(js.length:Int)+1 by omega)))) ?_;refine WP.loopN [5] js.length (λi st=>∃R:List Int,st.t 3=.arr 10 (js.length+1)∧st.t 14=.pv (.sl (js.map cW))∧st.t 15=.pv (Z js.length)∧st.t 16=.pv (Z i)∧st.h 5=none∧st.h 10=some (.row 3 1 (R.map Z) 0)∧R.length=js.length+1∧∀k,k<=i->R[k]?=CL[k]?) ?_ ?_
 .refine⟨(List.replicate (js.length+1) 0).set 0 (-1),?_⟩
  simp[h00,List.map_set,List.map_replicate]
 rintro i st hi ⟨R,g3,g14,g15,g16,hb5,hb10,hRl,hR⟩;by_cases hlt:i<js.length
 .have hw:=au hlt (by omega)
  generalize hxe:js[i]=j at *
  have hx:js[i]?=some j:=by rw[List.getElem?_eq_getElem hlt,hxe]
  have ha:=hat i j hx;obtain⟨_,hp1,hp2⟩:=hj i j hx;obtain⟨p,hp⟩:∃p:Nat,j.parent+1=p:=⟨(j.parent+1).toNat,by omega⟩;have wp:IntKind.i64.wrap (j.parent+1)=(p:Int):=(ab (by omega) (by omega)).trans hp
  have hpi:p<=i:=by omega
  have hpR:p<R.length:=by omega
  have hi1:i+1<R.length:=by omega
  have hRp:R[p]?=some R[p]:=List.getElem?_eq_getElem hpR;have hRi:R[i+1]?=some R[i+1]:=List.getElem?_eq_getElem hi1
  have hti:((i:Int)+1).toNat=i+1:=by omega
  have hge:(0:Int)<=(i:Int)+1:=by omega
  rw[hp]at ha
  have hpc:CL[p]?=some R[p]:=by rw[<-hR p hpi];exact hRp
  rw[Int.toNat_natCast,hpc,Option.getD_some]at ha;generalize R[p]=rp at *
  have key:∀x,CL[i+1]?=some x->∀k,k<=i+1->(R.set (i+1) x)[k]?=CL[k]?:=by
   intro x hxx k hk;rw[List.getElem?_set];by_cases e:i+1=k
   .subst e;rw[if_pos rfl,if_pos hi1,hxx]
   .rw[if_neg e];exact hR k (by omega)
  have hsp:((R.map Z).set (i+1) (Z (i:Int)))[p]?=some (Z rp):=by rw[List.getElem?_set,if_neg (by omega),List.getElem?_map,hRp];rfl
  have hgp:∀h,((R.map Z).set (i+1) (Z (i:Int)))[p]'h=Z rp:=λh=>by
   have:=List.getElem?_eq_getElem h;rw[hsp]at this;injection this with this;exact this.symm
  by_cases he:j.lo=j.hi
  .rw[if_pos he]at ha
   have he':(j.lo==j.hi)=true:=by simp[he]
   with_reducible repeat' (first|refine Sp.h ?_|((first|refine Ss.h ?_|(refine Sb.h ?_ ?_ ?_<;>(try intro hgd)<;>try exact Xy))<;>simp -implicitDefEqProofs (maxSteps:=2000000) [hP,hN,g3,g14,g15,g16,hb5,hb10,hlt,hw,hx,hxe,hRl,hi1,hpi,wp,he,hRi,hti,hge,hRp,hsp,hgp,show p<js.length+1 by omega])|refine X2 ?_ ?_|(refine Xd ?_ ?_<;>intro hcd<;>try exact Xx))
   all_goals exact⟨R.set (i+1) rp,by simp[List.map_set],by simp[hRl],key _ ha⟩
  .rw[if_neg he]at ha
   have he':(j.lo==j.hi)=false:=by simp[he]
   refine Gz ?_
   all_goals exact⟨R.set (i+1) (i:Int),by simp[List.map_set],by simp[hRl],key _ ha⟩
 .have hin:i=js.length:=by omega
  subst hin
  have hRC:R=CL:=by
   apply List.ext_getElem?;intro k;by_cases hk:k<=js.length
   .exact hR k hk
   .rw[List.getElem?_eq_none (by omega),List.getElem?_eq_none (by omega)]
  subst hRC;exact Gy
def rm(h:Sh):Nat:=(h.link+1).toNat
def Bs(CL:List Int)(a b:Sh):Bool:=(CL[rm a]?).getD 0==(CL[rm b]?).getD 0
def G5(s:Sce)(a b:Sh):Bool:=!Bs (li s.js) a b&& !oM s a.link b.link
def j5(s:Sce)(i q:Nat):Bool:=match s.shs[i]?,s.shs[q]? with
 |some a,some b=>G5 s a b
 |_,_=>false
def nV(s:Sce)(i:Nat):Nat->List (Nat×Nat)
 |0=>[]
 |k+1=>nV s i k++(if i<k∧j5 s i k=true then[(i,k)]else[])
def mz(s:Sce):Nat->List (Nat×Nat)
 |0=>[]
 |i+1=>mz s i++nV s i s.shs.length
def gq(s:Sce):List (Nat×Nat):=if eu s=0 then mz s s.shs.length else[]
abbrev xH(p:Nat×Nat):PV:=.val (.agg #[.int .i64 (p.1:Int),.int .i64 (p.2:Int)])
theorem CH(s:Sce)(i:Nat):∀k,k<=i+1->nV s i k=[]
 |0,_=>rfl
 |k+1,h=>by
  have:¬i<k:=by omega
  simp[nV,CH s i k (by omega),this]
theorem yE(s:Sce)(i:Nat):∀k,(nV s i k).length<=k
 |0=>Nat.le_refl _
 |k+1=>by
  have:=yE s i k;simp only[nV,List.length_append];split<;>simp<;>omega
theorem yF(s:Sce):∀i,(mz s i).length<=i*s.shs.length
 |0=>by simp[mz]
 |i+1=>by
  have:=yF s i;have:=yE s i s.shs.length;simp only[mz,List.length_append,Nat.add_mul];omega
theorem F8{h:Sh}(hk:jH s.js.length h.link=true):∃x,(li s.js)[rm h]?=some x∧rm h<(li s.js).length∧h.link+1=(rm h:Int)∧h.link<s.js.length:=by
 simp only[jH,Bool.and_eq_true,decide_eq_true_eq]at hk;have hl:(li s.js).length=s.js.length+1:=pE _ (Nat.le_refl _)
 have hlt:rm h<(li s.js).length:=by unfold rm;omega
 exact⟨_,List.getElem?_eq_getElem hlt,hlt,by unfold rm;omega,hk.2⟩
theorem My(s:Sce)(hs:ScL s):aa Tryz.prog 132 [.pv (jG s)] [] [] (.pv (.sl ((gq s).map xH))):=by
 have cc:=EV s hs;by_cases h0:eu s=0
 case neg=>
  have hf:gq s=[]:=by simp[gq,h0]
  have h0':(eu s !=0)=true:=by simp[h0]
  rw[hf];generalize eu s=r at *;refine Dp Tryz.func132 ?_;intro C hP hN;simp only[Tryz.f132]at hN|-;exact Gy
 have hf:gq s=mz s s.shs.length:=by simp[gq,h0]
 rw[hf];rw[h0]at cc;obtain⟨v1,v2,v3,v4,v5,v6,v7⟩:=qg h0;have cr:=Mx s.js s.ms v1 v2;have csk:=λa b=>Mv s a b hs.sks;have hcl:=λh(hh:h∈s.shs)=>F8 (s:=s) (v6 h hh).1;have hpb:∀a b:Sh,G5 s a b=(!Bs (li s.js) a b&& !oM s a.link b.link):=λ_ _=>rfl;generalize li s.js=CL at *;have nL:=yF s;have iL:=yE s;refine Dp Tryz.func132 ?_;intro C hP hN;simp only[Tryz.f132]at hN|-;refine Ko [4] trivial ?_;refine WP.loopN [6,8] s.shs.length (λi st=>st.t 1=.ptr 1 0∧st.h 1=some (.box [.pv (.sl (s.js.map cW)),.pv (.sl (s.ms.map fc)),.pv (.sl (s.shs.map eL)),.pv (.sl (s.sks.map aU))] true false)∧st.t 3=.pv (zs CL)∧st.t 17=.pv (.sl (s.shs.map eL))∧st.t 18=.pv (Z s.shs.length)∧st.t 19=.pv (Z i)∧st.h 6=none∧st.h 8=none∧st.t 4=.arr 4 (mz s i).length∧st.h 4=some (.row 187 2 ((mz s i).map xH) 0)) (by simp[mz]) ?_;rintro i st hi ⟨g1,hb1,g3,g17,g18,g19,hb6,hb8,g4,hb4⟩;by_cases hlt:i<s.shs.length
 .have hw:=au hlt (by omega)
  generalize hxe:s.shs[i]=a at *
  have hx:s.shs[i]?=some a:=by rw[List.getElem?_eq_getElem hlt,hxe]
  obtain⟨xa,ha1,ha2,ha3,ha4⟩:=hcl a (List.mem_of_getElem? hx)
  have hga:∀h,CL[rm a]'h=xa:=λh=>by have:=List.getElem?_eq_getElem h;rw[ha1]at this;injection this with this;exact this.symm
  have hsucc:mz s (i+1)=mz s i++nV s i s.shs.length:=rfl;have nLi:=nL i;have hnn:i*s.shs.length<=24*24:=Nat.mul_le_mul (by omega) (by omega);have hwa:IntKind.i64.wrap (a.link+1)=(rm a:Int):=(ab (by omega) (by omega)).trans ha3;have hap:a.link+1=(rm a:Int):=ha3;refine Gz ?_;refine WP.loopN [8] (s.shs.length-(i+1)) (λq st=>st.t 1=.ptr 1 0∧st.h 1=some (.box [.pv (.sl (s.js.map cW)),.pv (.sl (s.ms.map fc)),.pv (.sl (s.shs.map eL)),.pv (.sl (s.sks.map aU))] true false)∧st.t 3=.pv (zs CL)∧st.t 17=.pv (.sl (s.shs.map eL))∧st.t 18=.pv (Z s.shs.length)∧st.t 19=.pv (Z i)∧st.t 5=.pv (Z i)∧st.t 6=.ptr 6 0∧st.h 6=some (.box [.pv (Z a.link),.pv (Z a.rad),.pv (bQ a.pts)] true false)∧st.h 8=none∧st.t 7=.pv (Z ((i+1+q:Nat):Int))∧st.t 4=.arr 4 (mz s i++nV s i (i+1+q)).length∧st.h 4=some (.row 187 2 ((mz s i++nV s i (i+1+q)).map xH) 0)) (by simp[g1,hb1,g3,g17,g18,g19,hb6,hb8,g4,hb4,CH]) ?_;clear g1 hb1 g3 g17 g18 g19 hb6 hb8 g4 hb4;rintro q st hq ⟨g1,hb1,g3,g17,g18,g19,g5,g6,hb6,hb8,g7,g4,hb4⟩;obtain⟨k,hk⟩:∃k,k=i+1+q:=⟨_,rfl⟩
  have hk2:i+1+(q+1)=k+1:=by omega
  rw[<-hk]at g7 g4 hb4;rw[hk2];have hIk:nV s i (k+1)=nV s i k++(if i<k∧j5 s i k=true then[(i,k)]else[]):=rfl;have hlk:=iL i k;by_cases hkl:k<s.shs.length
  .have hkl':(k:Int)<(s.shs.length:Int):=by omega
   have hwk:IntKind.i64.wrap ((k:Int)+1)=(k:Int)+1:=ab;generalize hye:s.shs[k]=b at *
   have hy:s.shs[k]?=some b:=by rw[List.getElem?_eq_getElem hkl,hye]
   obtain⟨xb,hc1,hc2,hc3,hc4⟩:=hcl b (List.mem_of_getElem? hy)
   have hgb:∀h,CL[rm b]'h=xb:=λh=>by have:=List.getElem?_eq_getElem h;rw[hc1]at this;injection this with this;exact this.symm
   have hwb:IntKind.i64.wrap (b.link+1)=(rm b:Int):=(ab (by omega) (by omega)).trans hc3
   have hpa:j5 s i k=(!Bs CL a b&& !oM s a.link b.link):=by simp only[j5,hx,hy,hpb]
   have hrg:Bs CL a b=(xa==xb):=by simp only[Bs,ha1,hc1,Option.getD_some]
   rw[hrg]at hpa;have cs:=csk a.link b.link
   have hik:i<k:=by omega
   have hlen:(mz s i++nV s i k).length<=1000:=by simp only[List.length_append];omega
   generalize hPdef:mz s i++nV s i k=P at *
   have hq2:q<s.shs.length-(i+1):=by omega
   have hPs:mz s i++nV s i (k+1)=P++(if j5 s i k=true then[(i,k)]else[]):=by
    rw[hIk,<-List.append_assoc,hPdef];simp[hik]
   rw[hPs];generalize oM s a.link b.link=sk at *
   cases hxx:(xa==xb)with
   |true=>
    rw[hxx]at hpa
    have hpa':j5 s i k=false:=by rw[hpa];rfl
    rw[hpa']
    with_reducible repeat' (first|refine Sp.h ?_|((first|refine Wd ?_|refine Ss.h ?_|refine Sc.h (cs) ?_|(refine Sb.h ?_ ?_ ?_<;>(try intro hgd)<;>try exact Xy))<;>simp -implicitDefEqProofs (maxSteps:=2000000) [hP,hN,g1,hb1,g3,g17,g18,g19,g5,g6,hb6,hb8,g7,g4,hb4,hkl,hkl',hwk,hy,hye,hwa,hwb,ha1,ha2,hc1,hc2,hga,hgb,hxx,hq2]<;>try refine Ya ?_)|refine X2 ?_ ?_|(refine Xd ?_ ?_<;>intro hcd<;>try exact Xx))
   |false=>
    rw[hxx]at hpa
    cases sk with
    |true=>
     have hpa':j5 s i k=false:=by rw[hpa];rfl
     rw[hpa']
     with_reducible repeat' (first|refine Sp.h ?_|((first|refine Wd ?_|refine Ss.h ?_|refine Sc.h (cs) ?_|(refine Sb.h ?_ ?_ ?_<;>(try intro hgd)<;>try exact Xy))<;>simp -implicitDefEqProofs (maxSteps:=2000000) [hP,hN,g1,hb1,g3,g17,g18,g19,g5,g6,hb6,hb8,g7,g4,hb4,hkl,hkl',hwk,hy,hye,hwa,hwb,ha1,ha2,hc1,hc2,hga,hgb,hxx,hq2]<;>try refine Ya ?_)|refine X2 ?_ ?_|(refine Xd ?_ ?_<;>intro hcd<;>try exact Xx))
    |false=>
     have hpa':j5 s i k=true:=by rw[hpa];rfl
     rw[hpa']
     with_reducible repeat' (first|refine Sp.h ?_|((first|refine Wd ?_|refine Ss.h ?_|refine Sc.h (cs) ?_|(refine Sb.h ?_ ?_ ?_<;>(try intro hgd)<;>try exact Xy))<;>simp -implicitDefEqProofs (maxSteps:=2000000) [hP,hN,g1,hb1,g3,g17,g18,g19,g5,g6,hb6,hb8,g7,g4,hb4,hkl,hkl',hwk,hy,hye,hwa,hwb,ha1,ha2,hc1,hc2,hga,hgb,hxx,hq2,show(P.length+1)*16<=140737488355328 by omega,show P.length<=9223372036854775806 by omega]<;>try refine Ya ?_)|refine X2 ?_ ?_|(refine Xd ?_ ?_<;>intro hcd<;>try exact Xx))
  .have hkn:k=s.shs.length:=by omega
   have hkl':¬(k:Int)<(s.shs.length:Int):=by omega
   rw[hkn,<-hsucc]at g4 hb4;exact Gy
 .have hin:i=s.shs.length:=by omega
  subst hin;exact Gy
theorem Mz(x:Int×Int):aa Tryz.prog 197 [.pv (aU x)] [] [] (.pv (B (!aC x.1 x.2))):=by
 refine Dp Tryz.func197 ?_;intro C hP hN;simp only[Tryz.f197]at hN|-;have q1:=@iD;exact GS trivial
 all_goals (first|(simp_all;done)|((try simp_all)<;>(try omega)<;>grind))
def pF(js:List J)(bx:List Iv):Bool:=decide (bx.length=js.length)&&bi vI bx
theorem MA(js:List J)(ms:List Ms)(bx:List Iv)(hl:js.length<=9223372036854775807)(hl2:bx.length<=9223372036854775807):aa Tryz.prog 170 [.pv (ja js ms),.pv (iv bx)] [] [] (.pv (B (pF js bx))):=by
 have cc:=Iq 197 (λx=>!aC x.1 x.2) bx hl2 Mz;have ha:(bx.any λx=>!aC x.1 x.2)=!bi vI bx:=Cm vI bx;rw[ha]at cc;have hd:pF js bx=(decide (bx.length=js.length)&&bi vI bx):=rfl;rw[hd];generalize bi vI bx=c at *;by_cases h:bx.length=js.length
 .have h':((bx.length:Int)==(js.length:Int))=true:=by simp[h]
  cases c
  .skip
   refine Dp Tryz.func170 ?_;intro C hP hN;simp only[Tryz.f170]at hN|-;exact Gy
  .skip
   refine Dp Tryz.func170 ?_;intro C hP hN;simp only[Tryz.f170]at hN|-;exact Gy
 .have h':((bx.length:Int)==(js.length:Int))=false:=by simp;omega
  refine Dp Tryz.func170 ?_;intro C hP hN;simp only[Tryz.f170]at hN|-;exact Gy
def zP:mw:=((((0,0),(0,0),(0,0)),((0,0),(0,0),(0,0)),((0,0),(0,0),(0,0))),((0,0),(0,0),(0,0)))
def DP(L:List mw)(j:J)(v:Iv):mw:=if j.parent=-1 then pC j v else uC ((L[j.parent.toNat]?).getD zP) (pC j v)
def iU(js:List J)(bx:List Iv):Nat->List mw
 |0=>[]
 |i+1=>match js[i]?,bx[i]? with
  |some j,some v=>iU js bx i++[DP (iU js bx i) j v]
  |_,_=>iU js bx i
def j6(js:List J)(bx:List Iv):List mw:=iU js bx js.length
theorem mc{js:List J}{bx:List Iv}(hb:bx.length=js.length):∀i,i<=js.length->(iU js bx i).length=i
 |0,_=>rfl
 |i+1,h=>by
  have hlt:i<js.length:=by omega
  have hlb:i<bx.length:=by omega
  have ih:=mc hb i (by omega);simp only[iU,List.getElem?_eq_getElem hlt,List.getElem?_eq_getElem hlb,List.length_append,ih,List.length_singleton]
theorem sw{js:List J}{bx:List Iv}(hb:bx.length=js.length){k:Nat}:∀i,k<=i->i<=js.length->∀q,q<k->(iU js bx i)[q]?=(iU js bx k)[q]?
 |0,h1,h2,q,hq=>by omega
 |i+1,h1,h2,q,hq=>by
  by_cases e:k=i+1
  .subst e;rfl
  .have hlt:i<js.length:=by omega
   have hlb:i<bx.length:=by omega
   rw[<-sw hb i (by omega) (by omega) q hq];simp only[iU,List.getElem?_eq_getElem hlt,List.getElem?_eq_getElem hlb];rw[List.getElem?_append_left (by rw[mc hb i (by omega)];omega)]
theorem F9(hb:bx.length=js.length){j:J}{v:Iv}(hj:js[i]?=some j)(hv:bx[i]?=some v)(hk:DM i j):(j6 js bx)[i]?=some (if j.parent=-1 then pC j v else uC (((j6 js bx)[j.parent.toNat]?).getD zP) (pC j v)):=by
 have hlt:=(List.getElem?_eq_some_iff.1 hj).1;obtain⟨_,hp1,hp2⟩:=hk;have e1:(j6 js bx)[i]?=(iU js bx (i+1))[i]?:=sw hb js.length (k:=i+1) (by omega) (Nat.le_refl _) _ (by omega);rw[e1];have hlen:=mc hb i (by omega);simp only[iU,hj,hv];rw[List.getElem?_append_right (by omega),hlen,Nat.sub_self];show some (DP (iU js bx i) j v)=_;unfold DP;by_cases he:j.parent=-1
 .rw[if_pos he,if_pos he]
 .rw[if_neg he,if_neg he]
  have e2:(j6 js bx)[j.parent.toNat]?=(iU js bx i)[j.parent.toNat]?:=sw hb js.length (k:=i) (by omega) (Nat.le_refl _) _ (by omega);rw[e2]
theorem HM:dY zP=.val (.agg #[.int .i64 0,.int .i64 0,.int .i64 0,.int .i64 0,.int .i64 0,.int .i64 0,.int .i64 0,.int .i64 0,.int .i64 0,.int .i64 0,.int .i64 0,.int .i64 0,.int .i64 0,.int .i64 0,.int .i64 0,.int .i64 0,.int .i64 0,.int .i64 0,.int .i64 0,.int .i64 0,.int .i64 0,.int .i64 0,.int .i64 0,.int .i64 0]):=rfl
theorem HN:dG bT=.val (.agg #[.int .i64 0,.int .i64 0,.int .i64 0,.int .i64 0,.int .i64 0,.int .i64 0]):=rfl
theorem pG{R:List PV}{k:Nat}{x:PV}(h:R[k]?=some x):∀hk,R[k]'hk=x:=λhk=>by
 have:=List.getElem?_eq_getElem hk;rw[h]at this;injection this with this;exact this.symm
set_option maxRecDepth 4000 in
theorem MB(js:List J)(ms:List Ms)(bx:List Iv)(hj:DN js)(hl:js.length<=10)(hb:bx.length=js.length):aa Tryz.prog 171 [.pv (ja js ms),.pv (iv bx)] [] [] (.pv (.sl ((j6 js bx).map dY))):=by
 have hLl:(j6 js bx).length=js.length:=mc hb _ (Nat.le_refl _);have hat:=λi j v(h1:js[i]?=some j)(h2:bx[i]?=some v)=>F9 hb h1 h2 (hj i j h1);generalize j6 js bx=LL at *;generalize hLM:LL.map dY=LM at *
 have hML:LM.length=js.length:=by rw[<-hLM];simpa using hLl
 have hMk:∀k p,LL[k]?=some p->LM[k]?=some (dY p):=λk p h=>by rw[<-hLM,List.getElem?_map,h];rfl
 refine Dp Tryz.func171 ?_;intro C hP hN;simp only[Tryz.f171]at hN|-;refine GT (gA (show(192:Int)*(js.length:Int)<=281474976710656 by omega) (show(js.length:Int)<=9223372036854775807 by omega)) ?_;refine WP.loopN [7] js.length (λi st=>∃R:List PV,st.t 1=.pv (iv bx)∧st.t 5=.arr 11 js.length∧st.t 13=.pv (.sl (js.map cW))∧st.t 14=.pv (Z js.length)∧st.t 15=.pv (Z i)∧st.h 7=none∧st.h 11=some (.row 231 24 R 0)∧R.length=js.length∧(∀k,i<=k->k<js.length->R[k]?=some (dY zP))∧∀k,k<i->R[k]?=LM[k]?) ?_ ?_
 .refine⟨List.replicate js.length (dY zP),?_⟩
  rw[HM];simp
  try (intro k hk;first|exact hk|simp[List.getElem?_replicate,hk])
 rintro i st hi ⟨R,g1,g5,g13,g14,g15,hb7,hb11,hRl,hRz,hR⟩;by_cases hlt:i<js.length
 .have hw:=au hlt (by omega)
  generalize hxe:js[i]=j at *
  have hx:js[i]?=some j:=by rw[List.getElem?_eq_getElem hlt,hxe]
  have hltb:i<bx.length:=by omega
  generalize hve:bx[i]=v at *
  have hv:bx[i]?=some v:=by rw[List.getElem?_eq_getElem hltb,hve]
  obtain⟨⟨hk0,hk6⟩,hp1,hp2⟩:=hj i j hx;have cj:=Mo (a:=v.1) (b:=v.2) j hk0 hk6;have ha:=hat i j v hx hv;have hRi:=hRz i (Nat.le_refl _) hlt;have hgi:=pG hRi
  have hiR:i<R.length:=by omega
  generalize hq:pC j (v.1,v.2)=q at *
  have key:∀x,LL[i]?=some x->(∀k,i+1<=k->k<js.length->(R.set i (dY x))[k]?=some (dY zP))∧∀k,k<i+1->(R.set i (dY x))[k]?=LM[k]?:=by
   intro x hxx;refine⟨λk h1 h2=>?_,λk h1=>?_⟩
   .rw[List.getElem?_set,if_neg (by omega)];exact hRz k (by omega) h2
   .rw[List.getElem?_set]
    by_cases e:i=k
    .subst e;rw[if_pos rfl,if_pos hiR,hMk i x hxx]
    .rw[if_neg e];exact hR k (by omega)
  have hs1:(R.set i (dY q))[i]?=some (dY q):=by rw[List.getElem?_set,if_pos rfl,if_pos hiR]
  have hs2:=pG hs1;have hs3:∀y,(R.set i (dY q)).set i y=R.set i y:=λy=>List.set_set ..;by_cases he:j.parent=-1
  .rw[if_pos he]at ha
   obtain⟨k1,k2⟩:=key q ha
   have he':(j.parent==-1)=true:=by simp[he]
   have he2:(j.parent != -1)=false:=by simp[he]
   refine GT (gA g1 (gA g5 (gA g13 (gA g14 (gA g15 (gA hb7 (gA hb11 (gA hRl (gA hlt (gA hltb (gA hw (gA hx (gA hxe (gA hv (gA hve (gA hRi (gA hgi (gA he' he2)))))))))))))))))) ?_
   all_goals first|exact⟨_,rfl,by simp[hRl],k1,k2⟩|exact⟨k1,k2⟩|exact⟨by simp[hRl],k1,k2⟩|exact k2
  .rw[if_neg he]at ha
   obtain⟨p,hp⟩:∃p:Nat,j.parent=p:=⟨j.parent.toNat,by omega⟩
   have he':(j.parent==-1)=false:=by simp[he]
   have he2:(j.parent != -1)=true:=by simp[he]
   have hp0:(0:Int)<=j.parent:=by omega
   have hpt:j.parent.toNat=p:=by omega
   have hpi:p<i:=by omega
   have hpl:p<LL.length:=by omega
   have hLp:LL[p]?=some LL[p]:=List.getElem?_eq_getElem hpl;rw[hpt,hLp,Option.getD_some]at ha;have hRp:=(hR p hpi).trans (hMk p _ hLp);generalize LL[p]=pp at *;obtain⟨k1,k2⟩:=key _ ha
   have ht1:(R.set i (dY q))[p]?=some (dY pp):=by rw[List.getElem?_set,if_neg (by omega)];exact hRp
   have ht2:=pG ht1
   have hpj:p<js.length:=by omega
   have q1:=@tN;refine GT (gA g1 (gA g5 (gA g13 (gA g14 (gA g15 (gA hb7 (gA hb11 (gA hRl (gA hlt (gA hltb (gA hw (gA hx (gA hxe (gA hv (gA hve (gA hRi (gA hgi (gA hp0 (gA hpt (gA he' (gA he2 (gA hs1 (gA hs2 (gA hs3 (gA ht1 (gA ht2 hpj)))))))))))))))))))))))))) ?_
   all_goals first|exact⟨_,rfl,by simp[hRl],k1,k2⟩|exact⟨k1,k2⟩|exact⟨by simp[hRl],k1,k2⟩|exact k2
 .have hin:i=js.length:=by omega
  subst hin
  have hRC:R=LM:=by
   apply List.ext_getElem?;intro k;by_cases hk:k<js.length
   .exact hR k hk
   .rw[List.getElem?_eq_none (by omega),List.getElem?_eq_none (by omega)]
  subst hRC;exact Gy
def kO(h:Sh)(p:mw):List aH:=h.pts.map λq=>mb p (fv q)
set_option maxRecDepth 4000 in
theorem MC(h:Sh)(p:mw)(hs:jh h=true):aa Tryz.prog 173 [.pv (eL h),.pv (dY p)] [] [] (.pv (bR (kO h p))):=by
 have hlen:1<=h.pts.length∧h.pts.length<=8:=by
  simp only[jh,Bool.and_eq_true,decide_eq_true_eq]at hs;obtain⟨⟨⟨_,b3⟩,b4⟩,_⟩:=hs;exact⟨b3,b4⟩
 have cc:=Mp h (by omega);rw[hs]at cc;have hpl:kO h p=h.pts.map λq=>mb p (fv q):=rfl;rw[hpl];generalize hLM:(h.pts.map λq=>mb p (fv q)).map dG=LM
 have hML:LM.length=h.pts.length:=by rw[<-hLM];simp
 have hMk:∀k q,h.pts[k]?=some q->LM[k]?=some (dG (mb p (fv q))):=λk q hk=>by rw[<-hLM,List.getElem?_map,List.getElem?_map,hk];rfl
 refine Dp Tryz.func173 ?_;intro C hP hN;simp only[Tryz.f173]at hN|-;refine GT (gA (show(48:Int)*(h.pts.length:Int)<=281474976710656 by omega) (show(h.pts.length:Int)<=9223372036854775807 by omega)) ?_;refine WP.loopN [7] h.pts.length (λi st=>∃R:List PV,st.t 3=.ptr 3 0∧st.h 3=some (.box [.pv (Z p.1.1.1.1),.pv (Z p.1.1.1.2),.pv (Z p.1.1.2.1.1),.pv (Z p.1.1.2.1.2),.pv (Z p.1.1.2.2.1),.pv (Z p.1.1.2.2.2),.pv (Z p.1.2.1.1.1),.pv (Z p.1.2.1.1.2),.pv (Z p.1.2.1.2.1.1),.pv (Z p.1.2.1.2.1.2),.pv (Z p.1.2.1.2.2.1),.pv (Z p.1.2.1.2.2.2),.pv (Z p.1.2.2.1.1),.pv (Z p.1.2.2.1.2),.pv (Z p.1.2.2.2.1.1),.pv (Z p.1.2.2.2.1.2),.pv (Z p.1.2.2.2.2.1),.pv (Z p.1.2.2.2.2.2),.pv (Z p.2.1.1),.pv (Z p.2.1.2),.pv (Z p.2.2.1.1),.pv (Z p.2.2.1.2),.pv (Z p.2.2.2.1),.pv (Z p.2.2.2.2)] true false)∧st.t 5=.arr 14 h.pts.length∧st.t 16=.pv (bQ h.pts)∧st.t 17=.pv (Z h.pts.length)∧st.t 18=.pv (Z i)∧st.h 7=none∧st.h 14=some (.row 204 6 R 0)∧R.length=h.pts.length∧(∀k,i<=k->k<h.pts.length->R[k]?=some (dG bT))∧∀k,k<i->R[k]?=LM[k]?) ?_ ?_
 .refine⟨List.replicate h.pts.length (dG bT),?_⟩
  rw[HN];simp
  try (intro k hk;first|exact hk|simp[List.getElem?_replicate,hk])
 rintro i st hi ⟨R,g3,hb3,g5,g16,g17,g18,hb7,hb14,hRl,hRz,hR⟩;by_cases hlt:i<h.pts.length
 .have hw:=au hlt (by omega)
  generalize hxe:h.pts[i]=q at *
  have hx:h.pts[i]?=some q:=by rw[List.getElem?_eq_getElem hlt,hxe]
  have hRi:=hRz i (Nat.le_refl _) hlt;have hgi:=pG hRi
  have hiR:i<R.length:=by omega
  have cp:=F4 q.1 q.2.1 q.2.2;have hpq:fv (q.1,q.2.1,q.2.2)=fv q:=rfl;rw[hpq]at cp
  have k1:∀y k,i+1<=k->k<h.pts.length->(R.set i y)[k]?=some (dG bT):=λy k h1 h2=>by
   rw[List.getElem?_set,if_neg (by omega)];exact hRz k (by omega) h2
  have k2:∀k,k<i+1->(R.set i (dG (mb p (fv q))))[k]?=LM[k]?:=λk h1=>by
   rw[List.getElem?_set];by_cases e:i=k
   .subst e;rw[if_pos rfl,if_pos hiR,hMk i q hx]
   .rw[if_neg e];exact hR k (by omega)
  clear hMk hLM;generalize fv q=pq at *
  with_reducible repeat' (first|refine Sp.h ?_|((first|refine Wd ?_|refine Ss.h ?_|refine Sc.h (cp) ?_|refine Sc.h (Mb) ?_|(refine Sb.h ?_ ?_ ?_<;>(try intro hgd)<;>try exact Xy))<;>simp -implicitDefEqProofs (maxSteps:=2000000) [hP,hN,g3,hb3,g5,g16,g17,g18,hb7,hb14,hRl,hlt,hw,hx,hxe,hRi,hgi]<;>try refine Ya ?_)|refine X2 ?_ ?_|(refine Xd ?_ ?_<;>intro hcd<;>try exact Xx))
  all_goals first|exact⟨_,rfl,by simp[hRl],k1 _,k2⟩|exact⟨k1 _,k2⟩|exact⟨by simp[hRl],k1 _,k2⟩|exact k2
 .have hin:i=h.pts.length:=by omega
  subst hin
  have hRC:R=LM:=by
   apply List.ext_getElem?;intro k;by_cases hk:k<h.pts.length
   .exact hR k hk
   .rw[List.getElem?_eq_none (by omega),List.getElem?_eq_none (by omega)]
  subst hRC;exact Gy
  all_goals (rw[<-hLM];simp)
def md(LL:List mw)(h:Sh):mw:=if h.link=-1 then kN else(LL[h.link.toNat]?).getD zP
def kw(s:Sce)(bx:List Iv):List (List aH):=s.shs.map λh=>kO h (md (j6 s.js bx) h)
theorem DQ:pF js bx=true↔bx.length=js.length∧bi vI bx=true:=by simp[pF]
set_option maxRecDepth 4000 in
theorem MD(s:Sce)(bx:List Iv)(hs:ScL s)(h0:eu s=0)(hbx:pF s.js bx=true):aa Tryz.prog 133 [.pv (jG s),.pv (iv bx)] [] [] (.pv (.sl ((kw s bx).map bR))):=by
 have cc:=EV s hs;rw[h0]at cc;obtain⟨v1,v2,v3,v4,v5,v6,v7⟩:=qg h0;have hbl:=(DQ.1 hbx).1;have cb:=MA s.js s.ms bx hs.js (by omega);rw[hbx]at cb;have cl:=MB s.js s.ms bx v1 v2 hbl;have hLl:(j6 s.js bx).length=s.js.length:=mc hbl _ (Nat.le_refl _);have hpL:kw s bx=s.shs.map λh=>kO h (md (j6 s.js bx) h):=rfl;rw[hpL];generalize j6 s.js bx=LL at *;generalize hLM:(s.shs.map λh=>kO h (md LL h)).map bR=LM
 have hML:LM.length=s.shs.length:=by rw[<-hLM];simp
 have hMk:∀k h,s.shs[k]?=some h->LM[k]?=some (bR (kO h (md LL h))):=λk q hk=>by rw[<-hLM,List.getElem?_map,List.getElem?_map,hk];rfl
 refine Dp Tryz.func133 ?_;intro C hP hN;simp only[Tryz.f133]at hN|-;refine GT (gA (show(24:Int)*(s.shs.length:Int)<=281474976710656 by omega) (show(s.shs.length:Int)<=9223372036854775807 by omega)) ?_;refine WP.loopN [8,9] s.shs.length (λi st=>∃R:List PV,st.t 5=.pv (.sl (LL.map dY))∧st.t 6=.arr 27 s.shs.length∧st.t 29=.pv (.sl (s.shs.map eL))∧st.t 30=.pv (Z s.shs.length)∧st.t 31=.pv (Z i)∧st.h 8=none∧st.h 9=none∧st.h 27=some (.row 143 1 R 0)∧R.length=s.shs.length∧(∀k,i<=k->k<s.shs.length->R[k]?=some (.val (.slice none 0 0)))∧∀k,k<i->R[k]?=LM[k]?) ?_ ?_
 .refine⟨List.replicate s.shs.length (.val (.slice none 0 0)),?_⟩
  simp
  try (intro k hk;first|exact hk|simp[List.getElem?_replicate,hk])
 rintro i st hi ⟨R,g5,g6,g29,g30,g31,hb8,hb9,hb27,hRl,hRz,hR⟩;by_cases hlt:i<s.shs.length
 .have hw:=au hlt (by omega)
  generalize hxe:s.shs[i]=h at *
  have hx:s.shs[i]?=some h:=by rw[List.getElem?_eq_getElem hlt,hxe]
  have hm:=List.mem_of_getElem? hx;obtain⟨hl1,hsb⟩:=v6 h hm;simp only[jH,Bool.and_eq_true,decide_eq_true_eq]at hl1;have hRi:=hRz i (Nat.le_refl _) hlt;have hgi:=pG hRi
  have hiR:i<R.length:=by omega
  have cp:=λp=>MC h p hsb
  have k1:∀y k,i+1<=k->k<s.shs.length->(R.set i y)[k]?=some (.val (.slice none 0 0)):=λy k h1 h2=>by
   rw[List.getElem?_set,if_neg (by omega)];exact hRz k (by omega) h2
  have k2:∀k,k<i+1->(R.set i (bR (kO h (md LL h))))[k]?=LM[k]?:=λk h1=>by
   rw[List.getElem?_set];by_cases e:i=k
   .subst e;rw[if_pos rfl,if_pos hiR,hMk i h hx]
   .rw[if_neg e];exact hR k (by omega)
  clear hMk hLM hpL;by_cases he:h.link=-1
  .have he1:(h.link==-1)=true:=by simp[he]
   have he2:(h.link != -1)=false:=by simp[he]
   have hpo:md LL h=kN:=by simp[md,he]
   rw[hpo]at k2;have cps:=cp kN;generalize kO h kN=pl at *;have q1:=@F5;refine GT (gA g5 (gA g6 (gA g29 (gA g30 (gA g31 (gA hb8 (gA hb9 (gA hb27 (gA hRl (gA hlt (gA hw (gA hx (gA hxe (gA hRi (gA hgi (gA he1 he2)))))))))))))))) ?_
   all_goals first|exact⟨_,rfl,by simp[hRl],k1 _,k2⟩|exact⟨k1 _,k2⟩|exact⟨by simp[hRl],k1 _,k2⟩|exact k2
  .have he1:(h.link==-1)=false:=by simp[he]
   have he2:(h.link != -1)=true:=by simp[he]
   have hp0:(0:Int)<=h.link:=by omega
   obtain⟨p,hp⟩:∃p:Nat,h.link.toNat=p:=⟨_,rfl⟩
   have hpl:p<LL.length:=by omega
   have hLp:LL[p]?=some LL[p]:=List.getElem?_eq_getElem hpl
   have hpo:md LL h=LL[p]:=by simp only[md,if_neg he,hp,hLp,Option.getD_some]
   have hgp:∀hh,LL[p]'hh=LL[p]:=λ_=>rfl;rw[hpo]at k2;generalize hpp:LL[p]=pp at *;have cps:=cp pp;generalize kO h pp=pl at *;have q1:=@F5;refine GT (gA g5 (gA g6 (gA g29 (gA g30 (gA g31 (gA hb8 (gA hb9 (gA hb27 (gA hRl (gA hlt (gA hw (gA hx (gA hxe (gA hRi (gA hgi (gA he1 (gA he2 (gA hp0 (gA hp (gA hpl (gA hLp hpp))))))))))))))))))))) ?_
   all_goals first|exact⟨_,rfl,by simp[hRl],k1 _,k2⟩|exact⟨k1 _,k2⟩|exact⟨by simp[hRl],k1 _,k2⟩|exact k2
 .have hin:i=s.shs.length:=by omega
  subst hin
  have hRC:R=LM:=by
   apply List.ext_getElem?;intro k;by_cases hk:k<s.shs.length
   .exact hR k hk
   .rw[List.getElem?_eq_none (by omega),List.getElem?_eq_none (by omega)]
  subst hRC;exact Gy
  all_goals (rw[<-hLM];simp)
def qh(v:aH)(k:Nat):Vc:=(if 0<k then pD v.1 else 0,if 1<k then pD v.2.1 else 0,if 2<k then pD v.2.2 else 0)
theorem CI(l:List aH)(hl:l.length<=9223372036854775807):aa Tryz.prog 91 [.pv (bR l)] [] [] (.pv (bQ (aX l))):=by
 have cp:=su l hl
 cases hp:aV l with
 |false=>
  have hc:aX l=[]:=by simp[aX,hp]
  rw[hc];rw[hp]at cp;refine Dp Tryz.func91 ?_;intro C hP hN;simp only[Tryz.f91]at hN|-;exact Gy
 |true=>
 have hc:aX l=l.map uD:=by simp[aX,hp]
 rw[hc];rw[hp]at cp;simp only[aV,Bool.and_eq_true,decide_eq_true_eq]at hp;obtain⟨⟨hp1,hp2⟩,hp3⟩:=hp;generalize hLM:(l.map uD).map aR=LM
 have hML:LM.length=l.length:=by rw[<-hLM];simp
 have hMk:∀k h,l[k]?=some h->LM[k]?=some (aR (uD h)):=λk q hk=>by rw[<-hLM,List.getElem?_map,List.getElem?_map,hk];rfl
 refine Dp Tryz.func91 ?_;intro C hP hN;simp only[Tryz.f91]at hN|-;refine GT (gA (show(24:Int)*(l.length:Int)<=281474976710656 by omega) (show(l.length:Int)<=9223372036854775807 by omega)) ?_;refine WP.loopN [5,7] l.length (λi st=>∃R:List PV,st.t 3=.arr 13 l.length∧st.t 14=.pv (bR l)∧st.t 15=.pv (Z l.length)∧st.t 16=.pv (Z i)∧st.h 5=none∧st.h 7=none∧st.h 13=some (.row 50 3 R 0)∧R.length=l.length∧(∀k,i<=k->k<l.length->R[k]?=some (mJ 0 0 0))∧∀k,k<i->R[k]?=LM[k]?) ?_ ?_
 .refine⟨List.replicate l.length (mJ 0 0 0),?_⟩
  simp
  try (intro k hk;first|exact hk|simp[List.getElem?_replicate,hk])
 rintro i st hi ⟨R,g3,g14,g15,g16,hb5,hb7,hb13,hRl,hRz,hR⟩;by_cases hlt:i<l.length
 .have hw:=au hlt (by omega)
  generalize hxe:l[i]=v at *
  have hx:l[i]?=some v:=by rw[List.getElem?_eq_getElem hlt,hxe]
  have hRi:=hRz i (Nat.le_refl _) hlt;have hMi:=hMk i v hx;clear hMk;refine Gz ?_;refine WP.loopN [7] 3 (λk st=>∃R':List PV,st.t 3=.arr 13 l.length∧st.t 4=.pv (Z i)∧st.t 14=.pv (bR l)∧st.t 15=.pv (Z l.length)∧st.t 16=.pv (Z i)∧st.t 21=.pv (dG v)∧st.t 22=.pv (Z k)∧st.h 7=none∧st.h 13=some (.row 50 3 R' 0)∧R'.length=l.length∧R'[i]?=some (mJ (qh v k).1 (qh v k).2.1 (qh v k).2.2)∧∀q,q≠i->R'[q]?=R[q]?) ?_ ?_
  .refine⟨R,?_⟩
   simp[g3,g14,g15,g16,hb5,hb7,hb13,hRl,hRi,qh]
  clear g3 g14 g15 g16 hb5 hb7 hb13;rintro k st hk ⟨R',g3,g4,g14,g15,g16,g21,g22,hb7,hb13,hR'l,hR'i,hR'⟩;have hgi:=pG hR'i
  have hiR':i<R'.length:=by omega
  have hset:∀y,(R'.set i y)[i]?=some y:=λy=>by rw[List.getElem?_set,if_pos rfl,if_pos hiR']
  have hoth:∀y q,q≠i->(R'.set i y)[q]?=R[q]?:=λy q hq=>by rw[List.getElem?_set,if_neg (λe=>hq e.symm)];exact hR' q hq
  rcases cM hk with rfl|rfl|rfl|rfl
  all_goals (simp[qh]at hR'i hgi g22)
  .skip
   with_reducible repeat' (first|refine Sp.h ?_|((first|refine Wd ?_|refine Ss.h ?_|refine Sc.h (F7) ?_|(refine Sb.h ?_ ?_ ?_<;>(try intro hgd)<;>try exact Xy))<;>simp -implicitDefEqProofs (maxSteps:=2000000) [hP,hN,g3,g4,g14,g15,g16,g21,g22,hb7,hb13,hR'l,hR'i,hgi,hlt,qh,hset]<;>try refine Ya ?_)|refine X2 ?_ ?_|(refine Xd ?_ ?_<;>intro hcd<;>try exact Xx))
   all_goals first|exact⟨_,rfl,by simp[hR'l],hset _,hoth _⟩|exact⟨by simp[hR'l],hset _,hoth _⟩|exact⟨hset _,hoth _⟩|exact λq hq=>hoth _ q hq
  .skip
   with_reducible repeat' (first|refine Sp.h ?_|((first|refine Wd ?_|refine Ss.h ?_|refine Sc.h (F7) ?_|(refine Sb.h ?_ ?_ ?_<;>(try intro hgd)<;>try exact Xy))<;>simp -implicitDefEqProofs (maxSteps:=2000000) [hP,hN,g3,g4,g14,g15,g16,g21,g22,hb7,hb13,hR'l,hR'i,hgi,hlt,qh,hset]<;>try refine Ya ?_)|refine X2 ?_ ?_|(refine Xd ?_ ?_<;>intro hcd<;>try exact Xx))
   all_goals first|exact⟨_,rfl,by simp[hR'l],hset _,hoth _⟩|exact⟨by simp[hR'l],hset _,hoth _⟩|exact⟨hset _,hoth _⟩|exact λq hq=>hoth _ q hq
  .skip
   with_reducible repeat' (first|refine Sp.h ?_|((first|refine Wd ?_|refine Ss.h ?_|refine Sc.h (F7) ?_|(refine Sb.h ?_ ?_ ?_<;>(try intro hgd)<;>try exact Xy))<;>simp -implicitDefEqProofs (maxSteps:=2000000) [hP,hN,g3,g4,g14,g15,g16,g21,g22,hb7,hb13,hR'l,hR'i,hgi,hlt,qh,hset]<;>try refine Ya ?_)|refine X2 ?_ ?_|(refine Xd ?_ ?_<;>intro hcd<;>try exact Xx))
   all_goals first|exact⟨_,rfl,by simp[hR'l],hset _,hoth _⟩|exact⟨by simp[hR'l],hset _,hoth _⟩|exact⟨hset _,hoth _⟩|exact λq hq=>hoth _ q hq
  .have k1:∀k,i+1<=k->k<l.length->R'[k]?=some (mJ 0 0 0):=λk h1 h2=>by rw[hR' k (by omega)];exact hRz k (by omega) h2
   have k2:∀k,k<i+1->R'[k]?=LM[k]?:=λk h1=>by
    by_cases e:k=i
    .subst e;rw[hMi,hR'i];rfl
    .rw[hR' k e];exact hR k (by omega)
   refine Gz ?_
   all_goals first|exact⟨_,rfl,hR'l,k1,k2⟩|exact⟨hR'l,k1,k2⟩|exact⟨k1,k2⟩|exact k2
 .have hin:i=l.length:=by omega
  subst hin
  have hRC:R=LM:=by
   apply List.ext_getElem?;intro k;by_cases hk:k<l.length
   .exact hR k hk
   .rw[List.getElem?_eq_none (by omega),List.getElem?_eq_none (by omega)]
  subst hRC;exact Gy
  all_goals (rw[<-hLM];simp)
set_option maxRecDepth 100000 in
@[simp] theorem LN:dp Tryz.prog 134:=by
 have hf:=Tryz.func134;have nt:=Tryz.ntmps134;have rs:=Tryz.results134;exact wY
set_option maxRecDepth 100000 in
@[simp] theorem LO:dp Tryz.prog 206:=by
 have hf:=Tryz.func206;have nt:=Tryz.ntmps206;have rs:=Tryz.results206;exact wY
def dr(l:List Vc):Nat->Vc
 |0=>(0,0,0)
 |i+1=>match l[i]? with
  |some p=>((dr l i).1+p.1,(dr l i).2.1+p.2.1,(dr l i).2.2+p.2.2)
  |none=>dr l i
theorem tF{l:List Vc}(hl:l.all (bg 268435456)=true):∀i:Nat,eX ((i:Int)*268435456) (dr l i)
 |0=>by simp[dr,eX]
 |i+1=>by
  obtain⟨i1,i2,i3⟩:=tF hl i;simp only[dr];split
  .rename_i p hp
   obtain⟨a,b,c⟩:=im (List.all_eq_true.1 hl p (List.mem_of_getElem? hp));exact⟨⟨by simp only;omega,by simp only;omega⟩,⟨by simp only;omega,by simp only;omega⟩,⟨by simp only;omega,by simp only;omega⟩⟩
  .exact⟨⟨by omega,by omega⟩,⟨by omega,by omega⟩,⟨by omega,by omega⟩⟩
def si(s p:Vc)(j:Nat):List AV:=[.pv (Z (if 0<j then s.1+p.1 else s.1)),.pv (Z (if 1<j then s.2.1+p.2.1 else s.2.1)),.pv (Z (if 2<j then s.2.2+p.2.2 else s.2.2))]
theorem I0(l:List Vc)(h8:l.length<=8)(hl:l.all (bg 268435456)=true):aa Tryz.prog 207 [.pv (bQ l)] [] [] (.pv (aR (dr l l.length))):=by
 refine Dp Tryz.func207 ?_;intro C hP hN;simp only[Tryz.f207]at hN|-;refine Gz ?_;refine WP.loopN [5] l.length (λi st=>st.t 2=.ptr 2 0∧st.h 2=some (.box [.pv (Z 0),.pv (Z 0),.pv (Z 0)] true false)∧st.t 3=.ptr 3 0∧st.h 3=some (.box [.pv (Z (dr l i).1),.pv (Z (dr l i).2.1),.pv (Z (dr l i).2.2)] true false)∧st.t 7=.pv (bQ l)∧st.t 8=.pv (Z l.length)∧st.t 9=.pv (Z i)∧st.h 5=none) (by simp[dr]) ?_;rintro i st hi ⟨g2,hb2,g3,hb3,g7,g8,g9,hb5⟩;by_cases hlt:i<l.length
 .have hwr:=au hlt (by omega)
  generalize hxe:l[i]=p at *
  have hx:l[i]?=some p:=by rw[List.getElem?_eq_getElem hlt,hxe]
  have r1:=tF hl (i+1);have hp:=im (List.all_eq_true.1 hl p (List.mem_of_getElem? hx))
  have hS:dr l (i+1)=((dr l i).1+p.1,(dr l i).2.1+p.2.1,(dr l i).2.2+p.2.2):=by simp only[dr,hx]
  generalize dr l i=S at *;generalize dr l (i+1)=S' at *;subst hS;obtain⟨q1,q2,q3⟩:=r1;simp only at q1 q2 q3;have v1:IntKind.i64.wrap (S.1+p.1)=S.1+p.1:=ab;have v2:IntKind.i64.wrap (S.2.1+p.2.1)=S.2.1+p.2.1:=ab;have v3:IntKind.i64.wrap (S.2.2+p.2.2)=S.2.2+p.2.2:=ab;clear q1 q2 q3 hp;have hbeg:[AV.pv (Z S.1),AV.pv (Z S.2.1),AV.pv (Z S.2.2)]=si S p 0:=rfl;rw[hbeg]at hb3;refine Gz ?_;refine WP.loopN [] 3 (λj st=>st.t 2=.ptr 2 0∧st.h 2=some (.box [.pv (Z 0),.pv (Z 0),.pv (Z 0)] true false)∧st.t 3=.ptr 3 0∧st.h 3=some (.box (si S p j) true false)∧st.t 5=.ptr 5 0∧st.h 5=some (.box [.pv (Z p.1),.pv (Z p.2.1),.pv (Z p.2.2)] true false)∧st.t 7=.pv (bQ l)∧st.t 8=.pv (Z l.length)∧st.t 9=.pv (Z i)∧st.t 13=.pv (Z j)) (by simp[g2,hb2,g3,g7,g8,g9,hb3,si]) ?_;clear g2 hb2 g3 g7 g8 g9 hb3 hb5;rintro j st hj ⟨g2,hb2,g3,hb3,g5,hb5,g7,g8,g9,g13⟩;rcases cM hj with rfl|rfl|rfl|rfl
  all_goals (simp[si]at hb3 g13)
  .skip
   with_reducible repeat' (first|refine Sp.h ?_|((first|refine Wd ?_|refine Ss.h ?_|(refine Sb.h ?_ ?_ ?_<;>(try intro hgd)<;>try exact Xy))<;>simp -implicitDefEqProofs (maxSteps:=2000000) [hP,hN,g2,hb2,g3,hb3,g5,hb5,g7,g8,g9,g13,v1,si]<;>try refine Ya ?_)|refine X2 ?_ ?_|(refine Xd ?_ ?_<;>intro hcd<;>try exact Xx))
  .skip
   with_reducible repeat' (first|refine Sp.h ?_|((first|refine Wd ?_|refine Ss.h ?_|(refine Sb.h ?_ ?_ ?_<;>(try intro hgd)<;>try exact Xy))<;>simp -implicitDefEqProofs (maxSteps:=2000000) [hP,hN,g2,hb2,g3,hb3,g5,hb5,g7,g8,g9,g13,v2,si]<;>try refine Ya ?_)|refine X2 ?_ ?_|(refine Xd ?_ ?_<;>intro hcd<;>try exact Xx))
  .skip
   with_reducible repeat' (first|refine Sp.h ?_|((first|refine Wd ?_|refine Ss.h ?_|(refine Sb.h ?_ ?_ ?_<;>(try intro hgd)<;>try exact Xy))<;>simp -implicitDefEqProofs (maxSteps:=2000000) [hP,hN,g2,hb2,g3,hb3,g5,hb5,g7,g8,g9,g13,v3,si]<;>try refine Ya ?_)|refine X2 ?_ ?_|(refine Xd ?_ ?_<;>intro hcd<;>try exact Xx))
  .skip
   exact Gy
 .have hin:i=l.length:=by omega
  subst hin;exact Gy
abbrev qc:List Vc:=[(1,0,0),(-1,0,0),(0,1,0),(0,-1,0),(0,0,1),(0,0,-1)]
theorem LP:aa Tryz.prog 178 [] [] [] (.pv (bQ qc)):=by
 refine Dp Tryz.func178 ?_;intro C hP hN;simp only[Tryz.f178]at hN|-;exact Gy
theorem pm:(aX l).all (bg 268435456)=true:=by
 unfold aX;split
 .rename_i h
  have hp:=(dH h).1;rw[List.all_eq_true]at hp|-;intro x hx;obtain⟨v,hv,rfl⟩:=List.mem_map.1 hx;have h1:=hp v hv;rw[gH]at h1;obtain⟨a,b,c⟩:=h1
  have hm:∀x:Iv,fK x=true->fe (pD x) 268435456=true:=λx hx=>by
   rw[iE]at hx;rw[bf];unfold pD;split<;>omega
  rw[dl];exact⟨hm _ a,hm _ b,hm _ c⟩
 .rfl
theorem jv(h:aV l=true):(aX l).length=l.length:=by simp[aX,h]
def ol(a b:List aH):Vc:=((dr (aX a) a.length).1*b.length-(dr (aX b) b.length).1*a.length,(dr (aX a) a.length).2.1*b.length-(dr (aX b) b.length).2.1*a.length,(dr (aX a) a.length).2.2*b.length-(dr (aX b) b.length).2.2*a.length)
def qd(a b:List aH):Vc:=if aV a&&aV b then bM (ol a b)else(0,0,0)
def sj(a b:List aH):Bool:=aV a&&aV b&&nz (bM (ol a b))
theorem DC(h:aV l=true):eX 2147483648 (dr (aX l) l.length):=by
 have h1:=tF (pm (l:=l)) l.length;have h2:=(dH h).2.1;exact oh h1 (by omega)
theorem HH(ha:aV a=true)(hb:aV b=true):eX 1099511627776 (ol a b):=by
 obtain⟨s1,s2,s3⟩:=DC ha;obtain⟨t1,t2,t3⟩:=DC hb;have h2:=(dH ha).2.1;have h3:=(dH hb).2.1
 have e:∀x:Int,-2147483648<=x∧x<=2147483648->∀n:Nat,n<=8->-17179869184<=x*n∧x*n<=17179869184:=λx hx n hn=>by
  have:=dq (a:=x) (b:=(n:Int)) 2147483648 8 (by omega) (by omega) (by omega) (by omega);omega
 have a1:=e _ s1 _ h3;have a2:=e _ s2 _ h3;have a3:=e _ s3 _ h3;have b1:=e _ t1 _ h2;have b2:=e _ t2 _ h2;have b3:=e _ t3 _ h2;unfold ol;exact⟨by simp only;omega,by simp only;omega,by simp only;omega⟩
def CD(v:Vc)(j:Nat):List AV:=[.pv (Z (if 0<j then v.1 else 0)),.pv (Z (if 1<j then v.2.1 else 0)),.pv (Z (if 2<j then v.2.2 else 0))]
theorem LQ(a b:List aH)(ha:a.length<=9223372036854775807)(hb:b.length<=9223372036854775807):aa Tryz.prog 177 [.pv (bR a),.pv (bR b)] [] [] (.pv (.tup [aR (qd a b),B (sj a b)])):=by
 have ca:=su a ha;have cb:=su b hb
 have hN:qd a b=if aV a&&aV b then bM (ol a b)else(0,0,0):=rfl
 have hM:sj a b=(aV a&&aV b&&nz (bM (ol a b))):=rfl;rw[hN,hM]
 cases hpa:aV a with
 |false=>
  rw[hpa]at ca;refine Dp Tryz.func177 ?_;intro C hP hN;simp only[Tryz.f177]at hN|-;exact Gy
 |true=>
 rw[hpa]at ca
 cases hpb:aV b with
 |false=>
  rw[hpb]at cb;refine Dp Tryz.func177 ?_;intro C hP hN;simp only[Tryz.f177]at hN|-;exact Gy
 |true=>
 rw[hpb]at cb;have c1:=CI a ha;have c2:=CI b hb;have c3:=I0 (aX a) (by rw[jv hpa];exact(dH hpa).2.1) pm;have c4:=I0 (aX b) (by rw[jv hpb];exact(dH hpb).2.1) pm;rw[jv hpa]at c3;rw[jv hpb]at c4;have hms:=HH hpa hpb;have c5:=Je (ol a b) hms;obtain⟨s1,s2,s3⟩:=DC hpa;obtain⟨t1,t2,t3⟩:=DC hpb;have h2:=(dH hpa).2.1;have h3:=(dH hpb).2.1;have hmv:ol a b=((dr (aX a) a.length).1*b.length-(dr (aX b) b.length).1*a.length,(dr (aX a) a.length).2.1*b.length-(dr (aX b) b.length).2.1*a.length,(dr (aX a) a.length).2.2*b.length-(dr (aX b) b.length).2.2*a.length):=rfl;simp only[Bool.and_self,if_true,Bool.true_and]
 have e:∀x:Int,-2147483648<=x∧x<=2147483648->∀n:Nat,n<=8->-17179869184<=x*n∧x*n<=17179869184:=λx hx n hn=>by
  have:=dq (a:=x) (b:=(n:Int)) 2147483648 8 (by omega) (by omega) (by omega) (by omega);omega
 generalize dr (aX a) a.length=S at *;generalize dr (aX b) b.length=T at *;generalize ol a b=V at *;have f1:=e _ s1 _ h3;have f2:=e _ s2 _ h3;have f3:=e _ s3 _ h3;have k1:=e _ t1 _ h2;have k2:=e _ t2 _ h2;have k3:=e _ t3 _ h2;clear e
 have V1:S.1*b.length-T.1*a.length=V.1:=by rw[hmv]
 have V2:S.2.1*b.length-T.2.1*a.length=V.2.1:=by rw[hmv]
 have V3:S.2.2*b.length-T.2.2*a.length=V.2.2:=by rw[hmv]
 clear hmv;have m01:IntKind.i64.wrap (S.1*b.length)=S.1*b.length:=ab;have m02:IntKind.i64.wrap (T.1*a.length)=T.1*a.length:=ab;have w0:IntKind.i64.wrap (S.1*b.length-T.1*a.length)=V.1:=(ab (by omega) (by omega)).trans V1;have m11:IntKind.i64.wrap (S.2.1*b.length)=S.2.1*b.length:=ab;have m12:IntKind.i64.wrap (T.2.1*a.length)=T.2.1*a.length:=ab;have w1:IntKind.i64.wrap (S.2.1*b.length-T.2.1*a.length)=V.2.1:=(ab (by omega) (by omega)).trans V2;have m21:IntKind.i64.wrap (S.2.2*b.length)=S.2.2*b.length:=ab;have m22:IntKind.i64.wrap (T.2.2*a.length)=T.2.2*a.length:=ab;have w2:IntKind.i64.wrap (S.2.2*b.length-T.2.2*a.length)=V.2.2:=(ab (by omega) (by omega)).trans V3;generalize bM V=n at *;have wa:IntKind.i64.wrap (a.length:Int)=(a.length:Int):=ab;have wb:IntKind.i64.wrap (b.length:Int)=(b.length:Int):=ab;refine Dp Tryz.func177 ?_;intro C hP hN;simp only[Tryz.f177]at hN|-;refine Gz ?_;refine WP.loopN [] 3 (λk st=>st.t 0=.pv (bR a)∧st.t 1=.pv (bR b)∧st.t 4=.ptr 4 0∧st.h 4=some (.box [.pv (Z 0),.pv (Z 0),.pv (Z 0)] true false)∧st.t 5=.ptr 5 0∧st.h 5=some (.box [.pv (B false)] true false)∧st.t 6=.ptr 6 0∧st.h 6=some (.box [.pv (Z S.1),.pv (Z S.2.1),.pv (Z S.2.2)] true false)∧st.t 7=.ptr 7 0∧st.h 7=some (.box [.pv (Z T.1),.pv (Z T.2.1),.pv (Z T.2.2)] true false)∧st.t 8=.ptr 8 0∧st.h 8=some (.box (CD V k) true false)∧st.t 26=.pv (Z k)) (by simp[CD]) ?_;rintro k st hk ⟨g0,g1,g4,hb4,g5,hb5,g6,hb6,g7,hb7,g8,hb8,g26⟩;rcases cM hk with rfl|rfl|rfl|rfl
 all_goals (simp[CD]at hb8 g26)
 .skip
  with_reducible repeat' (first|refine Sp.h ?_|((first|refine Wd ?_|refine Ss.h ?_|(refine Sb.h ?_ ?_ ?_<;>(try intro hgd)<;>try exact Xy))<;>simp -implicitDefEqProofs (maxSteps:=2000000) [hP,hN,g6,hb6,g7,hb7,g8,hb8,g0,g1,g4,g5,hb4,hb5,g26,m01,m02,w0,wa,wb,CD]<;>try refine Ya ?_)|refine X2 ?_ ?_|(refine Xd ?_ ?_<;>intro hcd<;>try exact Xx))
 .skip
  with_reducible repeat' (first|refine Sp.h ?_|((first|refine Wd ?_|refine Ss.h ?_|(refine Sb.h ?_ ?_ ?_<;>(try intro hgd)<;>try exact Xy))<;>simp -implicitDefEqProofs (maxSteps:=2000000) [hP,hN,g6,hb6,g7,hb7,g8,hb8,g0,g1,g4,g5,hb4,hb5,g26,m11,m12,w1,wa,wb,CD]<;>try refine Ya ?_)|refine X2 ?_ ?_|(refine Xd ?_ ?_<;>intro hcd<;>try exact Xx))
 .skip
  with_reducible repeat' (first|refine Sp.h ?_|((first|refine Wd ?_|refine Ss.h ?_|(refine Sb.h ?_ ?_ ?_<;>(try intro hgd)<;>try exact Xy))<;>simp -implicitDefEqProofs (maxSteps:=2000000) [hP,hN,g6,hb6,g7,hb7,g8,hb8,g0,g1,g4,g5,hb4,hb5,g26,m21,m22,w2,wa,wb,CD]<;>try refine Ya ?_)|refine X2 ?_ ?_|(refine Xd ?_ ?_<;>intro hcd<;>try exact Xx))
 .skip
  exact Gy
structure YEnv(P:Program) where
 N:Nat
 l:Nat
 xs:List PV
 J:Bool->Nat->(Nat->Nat->Prop)->World->Prop
 bd:∀s i M W,J s i M W->∀b o,M b o->b<W.heap.size
 gr:∀s i M W W',J s i M W->Ext (λ_=>False) W W'->J s i M W'
 yl:∀m i x M W v1,xs[i]?=some x->J false i M W->Rep W M x v1->YieldAt Fence.wide m P l #[v1] W λe W'=>∃(b:Bool)(M':Nat->Nat->Prop),e=.returned (.bool b)∧J (!b) (if b=true then i+1 else i) M' W'∧Pres W M W' M'
abbrev QY:=Exit->(Nat->AV)->Nat->Bool->Prop
def Gs(E:YEnv P)(Q:QY):Exit->Act->World->Prop:=λe a' w'=>∃t' i' s' M',E.J s' i' M' w'∧dL E.N M' t' a' w'∧a'.defers=[]∧Q e t' i' s'
def bp(E:YEnv P)(c:Code)(Q:QY)(t:Nat->AV)(i:Nat)(s:Bool):Prop:=
 ∀n a w M,E.J s i M w->dL E.N M t a w->a.defers=[]->c.wpIn Fence.wide n P (Gs E Q) a w
section
variable {P:Program} {E:YEnv P} {Q:QY} {t:Nat->AV} {i:Nat} {s:Bool}
theorem bp.walk(h:∀C:Cx,C.P=P->C.N=E.N->af Fence.wide C c (λe st'=>Q e (bk st'.t) i s) ⟨t,λ_=>none⟩):bp E c Q t i s:=by
 intro n a w M hJ hH hd;refine wpIn_mono (hH.step (E.bd _ _ _ _ hJ) h) ?_;rintro e a' w' ⟨st',hq,hH',hx,hd'⟩;exact⟨_,i,s,M,E.gr _ _ _ _ _ hJ hx,hH',by rw[hd'];exact hd,hq⟩
theorem bp.mono{Q':QY}(h:bp E c Q t i s)(hq:∀e t i s,Q e t i s->Q' e t i s):bp E c Q' t i s:=
 λn a w M hJ hH hd=>wpIn_mono (h n a w M hJ hH hd) λ_ _ _ ⟨t',i',s',M',h1,h2,h3,h4⟩=>⟨t',i',s',M',h1,h2,h3,hq _ _ _ _ h4⟩
theorem bp.sub{t':Nat->AV}(h:bp E c Q t' i s)(ht:∀m,t' m=.undef∨t' m=t m):bp E c Q t i s:=
 λn a w M hJ hH hd=>h n a w M hJ (hH.sub ht) hd
def Gt{P:Program}(E:YEnv P)(y:Code)(Q:QY):QY
 |.normal,t,i,s=>bp E y Q t i s
 |e,t,i,s=>Q e t i s
theorem bp.seq(h:bp E x (Gt E y Q) t i s):bp E (.seq x y) Q t i s:=by
 intro n a w M hJ hH hd;refine wpIn_seq (wpIn_mono (h n a w M hJ hH hd) ?_);rintro e a' w' ⟨t',i',s',M',h1,h2,h3,h4⟩
 cases e with
 |normal=>exact h4 n a' w' M' h1 h2 h3
 |_=>exact⟨t',i',s',M',h1,h2,h3,h4⟩
theorem bp.skip(h:Q .normal t i s):bp E .skip Q t i s:=λ_ _ _ M hJ hH hd=>wpIn_skip ⟨t,i,s,M,hJ,hH,hd,h⟩
theorem bp.ret(h:Q .ret t i s):bp E .ret Q t i s:=λ_ _ _ M hJ hH hd=>wpIn_ret ⟨t,i,s,M,hJ,hH,hd,h⟩
theorem bp.exit(h:Q (.exit id) t i s):bp E (.exit id) Q t i s:=λ_ _ _ M hJ hH hd=>wpIn_exit ⟨t,i,s,M,hJ,hH,hd,h⟩
theorem bp.cond{m:Nat}{b:Bool}(hc:t m=.pv (.val (.bool b)))(ht:b=true->bp E x Q t i s)(hf:b=false->bp E y Q t i s):bp E (.cond (.tmp m) x y) Q t i s:=by
 intro n a w M hJ hH hd
 have hc':a.eval (.tmp m)=.bool b:=by
  rcases hH.2 m with e|⟨p,e,hr⟩
  .rw[hc]at e;cases e
  .rw[hc]at e;injection e with e;subst e;exact aJ hr
 exact wpIn_cond_split hc' (λe=>ht e n a w M hJ hH hd) (λe=>hf e n a w M hJ hH hd)
def wk(id:Nat)(Q:QY):QY
 |.exit j,t,i,s=>if j=id then Q .normal t i s else Q (.exit j) t i s
 |e,t,i,s=>Q e t i s
theorem bp.block(h:bp E c (wk id Q) t i s):bp E (.block id c) Q t i s:=by
 intro n a w M hJ hH hd;refine wpIn_block (wpIn_mono (h n a w M hJ hH hd) ?_);rintro e a' w' ⟨t',i',s',M',h1,h2,h3,h4⟩
 cases e with
 |exit j=>
  simp only[wk,Exit.inBlock]at h4|-;split
  .rename_i e;rw[if_pos e]at h4;exact⟨t',i',s',M',h1,h2,h3,h4⟩
  .rename_i e;rw[if_neg e]at h4;exact⟨t',i',s',M',h1,h2,h3,h4⟩
 |_=>exact⟨t',i',s',M',h1,h2,h3,h4⟩
theorem bp.loopN(K:Nat)(I:Nat->(Nat->AV)->Nat->Bool->Prop)(h₀:I 0 t i s)
 (round:∀k t i s,k<=K->I k t i s->bp E c (λe t i s=>match e with|.normal=>k<K∧I (k+1) t i s|e=>Q e t i s) t i s):bp E (.loop c) Q t i s:=by
 classical
 intro n a w M hJ hH hd
 let In:Nat->Act->World->Prop:=λk a w=>∃t i s M,I k t i s∧E.J s i M w∧dL E.N M t a w∧a.defers=[]
 have hmax:∀a w,(∃k,k<=K∧In k a w)->∃k,k<=K∧In k a w∧∀j,j<=K->In j a w->j<=k:=by
  intro a w ⟨k0,h1,h2⟩
  have:∀d k,K-k<=d->k<=K->In k a w->∃k,k<=K∧In k a w∧∀j,j<=K->In j a w->j<=k:=by
   intro d
   induction d with
   |zero=>intro k hd hk hI;exact⟨k,hk,hI,λj hj _=>by omega⟩
   |succ d ih=>
    intro k hd hk hI;by_cases h:∃j,j<=K∧In j a w∧k<j
    .obtain⟨j,hj,hIj,hij⟩:=h;exact ih j (by omega) hj hIj
    .exact⟨k,hk,hI,λj hj hIj=>Nat.le_of_not_lt (λhlt=>h ⟨j,hj,hIj,hlt⟩)⟩
  exact this K k0 (by omega) h1 h2
 refine wpIn_loop (λa w=>∃k,k<=K∧In k a w) (λa w=>K-(if h:∃k,k<=K∧In k a w∧∀j,j<=K->In j a w->j<=k then h.choose else 0)) ⟨0,Nat.zero_le _,t,i,s,M,h₀,hJ,hH,hd⟩ ?_;intro a1 w1 hex;have hm:=hmax a1 w1 hex;have hs:=hm.choose_spec;obtain⟨t1,i1,s1,M1,g1,g2,g3,g4⟩:=hs.2.1;refine wpIn_mono (round _ t1 i1 s1 hs.1 g1 n a1 w1 M1 g2 g3 g4) ?_;rintro e a2 w2 ⟨t2,i2,s2,M2,q1,q2,q3,q4⟩
 cases e with
 |normal=>
  obtain⟨hlt,hI⟩:=q4;have hin:In (hm.choose+1) a2 w2:=⟨t2,i2,s2,M2,hI,q1,q2,q3⟩;refine⟨⟨_,hlt,hin⟩,?_⟩;have hm2:=hmax a2 w2 ⟨_,hlt,hin⟩;have h1:=hm2.choose_spec.2.2 _ hlt hin;show K-(if h:∃k,k<=K∧In k a2 w2∧∀j,j<=K->In j a2 w2->j<=k then h.choose else 0)<K-(if h:∃k,k<=K∧In k a1 w1∧∀j,j<=K->In j a1 w1->j<=k then h.choose else 0);rw[dif_pos hm2,dif_pos hm];omega
 |_=>exact⟨t2,i2,s2,M2,q1,q2,q3,q4⟩
end
theorem uI{n l:Nat}{rest:List Oper}{c:Call}{f x:Operand}{Q:Exit->Act->World->Prop}{a:Act}{w:World}{R:Ending->World->Prop}(hw:Region.wanted o (yielded ops a.tmps)=true)(ho:o.op=.call c)(hc:c.callee=.value f)(hargs:c.args=#[x])
 (hf:a.eval f=.func (.yield l) #[] #[])(hy:YieldAt Fence.wide (n-1) P l #[a.eval x] w R)
 (hnext:∀e w',R e w'->∃v,e=.returned v∧wpListIn Fence.wide n P ops Q rest (a.put o.dst v) w'):wpListIn Fence.wide n P ops Q (o::rest) a w:=by
 obtain⟨fn,tmps,assign,body,hr,hround⟩:=hy;unfold wpListIn;rw[if_pos hw];refine⟨λ_ _=>trivial,?_⟩;show o.uponIn Fence.wide n P a _ Q ((o.semAt none a.eval).run P w);rw[Oper.semAt_none]
 have hrun:(execOp a.eval o).run P w=.ok (.round l fn tmps assign body) w:=by
  generalize a.eval=ρ at hf hr;unfold execOp;rw[ho];obtain⟨cal,ar,at_⟩:=c;simp only at hc hargs;subst hc;subst hargs;simp[resolve,hf,invoke,go_sem,hr]
 rw[hrun];refine⟨λh=>(by cases h),hround.mono ?_⟩;intro e w' he;obtain⟨v,rfl,h⟩:=hnext e w' he;exact h
section
variable {P:Program} {E:YEnv P} {Q:QY} {t:Nat->AV} {i:Nat}
theorem bp.yield{d f x:Nat}{c:Call}(hops:ops.toList=pre++o::post)(hnd:oF ops=true)(ho:o.op=.call c)(hc:c.callee=.value (.tmp f))(hargs:c.args=#[.tmp x])(hd:o.dst=some d)(hdN:d<E.N)
 (hpre:cU P hn E.N ops (λst'=>st'.t f=.pv (.val (.func (.yield E.l) #[] #[]))∧en ops (bk st'.t) o.guard=some true∧∃q,st'.t x=.pv q∧E.xs[i]?=some q∧
   ∀b,cU P hn E.N ops (λst''=>Q .normal (bk st''.t) (if b=true then i+1 else i) (!b)) post ⟨ah (bk st'.t) d (.pv (.val (.bool b))),λ_=>none⟩) pre ⟨t,λ_=>none⟩):bp E (.region id ops false) Q t i false:=by
 intro n a w M hJ hH hdd;refine wpIn_region_list ?_;rw[hops];refine dk _ ?_;have hmem:∀o'∈pre++o::post,∀c,o'.op≠.defer c:=λo' ho'=>kj hnd (by rw[hops];exact ho');refine hH.list (E.bd _ _ _ _ hJ) (λo' ho'=>hmem o' (List.mem_append_left _ ho')) hpre ?_;rintro st' a' w' ⟨h1,h2,q,h3,h4,h5⟩ hH' hx hd';have hJ':=E.gr _ _ _ _ _ hJ hx;have hM':=E.bd _ _ _ _ hJ'
 have ef:a'.eval (.tmp f)=.func (.yield E.l) #[] #[]:=by
  rcases hH'.2 f with e|⟨p,e,hr⟩
  .simp only[bk,h1]at e;cases e
  .simp only[bk,h1]at e;injection e with e;subst e;exact aJ hr
 have ex:Rep w' M q (a'.eval (.tmp x)):=by
  rcases hH'.2 x with e|⟨p,e,hr⟩
  .simp only[bk,h3]at e;cases e
  .simp only[bk,h3]at e;injection e with e;subst e;exact hr
 refine uI ?_ ho hc hargs ef (E.yl (n-1) i q M w' _ h4 hJ' ex) ?_
 .exact dB (hH'.sim (P:=P) hM').2.2 h2
 rintro e w2 ⟨b,M2,rfl,hJ2,hp2⟩;refine⟨_,rfl,?_⟩
 have hH2:dL E.N M2 (ah (bk st'.t) d (.pv (.val (.bool b)))) (a'.put o.dst (.bool b)) w2:=by
  have hb:=hH'.mono hp2;rw[hd]
  have hd':d<a'.tmps.size:=by rw[hb.1];exact hdN
  refine⟨by simpa[Act.put]using hb.1,λm=>?_⟩;rw[oW hd'];simp only[ah];split
  .exact .inr ⟨_,rfl,.val _⟩
  .exact hb.2 m
 refine hH2.list (E.bd _ _ _ _ hJ2) (λo' ho'=>hmem o' (List.mem_append_right _ (List.mem_cons_of_mem _ ho'))) (h5 b) ?_;intro st3 a3 w3 hq3 hH3 hx3 hd3;exact⟨_,_,_,M2,E.gr _ _ _ _ _ hJ2 hx3,hH3,by rw[hd3,i9,hd'];exact hdd,hq3⟩
end
def tI(l:Nat)(caps:List PV):Nat->AV
 |0=>.pv (.val (.func (.yield l) #[] #[]))
 |k+1=>match caps[k]? with
  |some p=>.pv p
  |none=>.undef
theorem Fa{gf:FuncId}{fn:Func}{caps xs:List PV}(hf:P.funcs[gf]?=some fn)(hb:fn.body=some c)(hcall:bZ P gf=true)(hres:fn.results=#[])(hlen:caps.length+1<=fn.ntmps)
 (h:∀E:YEnv P,E.N=fn.ntmps->E.xs=xs->bp E c (λe _ i s=>(e=.normal∨e=.ret)∧(if s=true then i<xs.length else i=xs.length)) (tI E.l caps) 0 false):zI P gf caps xs:=by
 refine⟨hcall,λn l lb W M J Jx hJb hJg hXb hXg hY h0 hcap=>?_⟩
 have e1:∀(s:Bool) i M W,(if s=true then Jx i M W else J i M W)->∀b o,M b o->b<W.heap.size:=by
  intro s i M W hj
  cases s with
  |true=>exact hXb i M W hj
  |false=>exact hJb i M W hj
 have e2:∀(s:Bool) i M W W',(if s=true then Jx i M W else J i M W)->Ext (λ_=>False) W W'->(if s=true then Jx i M W' else J i M W'):=by
  intro s i M W W' hj hx
  cases s with
  |true=>exact hXg i M W W' hj hx
  |false=>exact hJg i M W W' hj hx
 have e3:∀m i x M W v1,xs[i]?=some x->(if false=true then Jx i M W else J i M W)->Rep W M x v1->YieldAt Fence.wide m P l #[v1] W λe W'=>∃(b:Bool)(M':Nat->Nat->Prop),e=.returned (.bool b)∧(if(!b)=true then Jx (if b=true then i+1 else i) M' W' else J (if b=true then i+1 else i) M' W')∧Pres W M W' M':=by
  intro m i x M W v1 hx hj hr;obtain⟨fn',tmps,assign,body,h1,h2⟩:=hY m i x M W v1 hx hj hr;refine⟨fn',tmps,assign,body,h1,h2.mono ?_⟩;rintro e W' ⟨b,M',rfl,h3,h4⟩;refine⟨b,M',rfl,?_,h4⟩
  cases b with
  |true=>exact h3
  |false=>exact h3
 let E:YEnv P:={N:=fn.ntmps,l:=l,xs:=xs,J:=λs i M W=>if s=true then Jx i M W else J i M W,bd:=e1,gr:=e2,yl:=e3}
 have hl:=hcap.1;refine(callsIn_of_wp_marks hf hb trivial ?_ rfl)
 have hH:dL fn.ntmps M (tI l caps) {tmps:=((#[Value.func (.yield l) #[] #[]]:Array Value)++lb.toArray)++Array.replicate (fn.ntmps-((#[Value.func (.yield l) #[] #[]]:Array Value)++lb.toArray).size) undef,defers:=[]} W:=by
  refine⟨by simp;omega,λm=>?_⟩
  cases m with
  |zero=>
   have hg:(((#[Value.func (.yield l) #[] #[]]:Array Value)++lb.toArray)++Array.replicate (fn.ntmps-((#[Value.func (.yield l) #[] #[]]:Array Value)++lb.toArray).size) undef).getD 0 undef=.func (.yield l) #[] #[]:=by
    rw[Array.getD_eq_getD_getElem?,Array.getElem?_append_left (by simp),Array.getElem?_append_left (by simp)];rfl
   refine .inr ⟨_,rfl,?_⟩;simp only[hg];exact .val _
  |succ k=>
   simp only[tI]
   cases hk:caps[k]? with
   |none=>exact .inl rfl
   |some p=>
    have hlt:k<lb.length:=by rw[<-hl];exact(List.getElem?_eq_some_iff.1 hk).1
    have hr:=hcap.2 k p lb[k] hk (List.getElem?_eq_getElem hlt);refine .inr ⟨p,rfl,?_⟩
    have hg:(((#[Value.func (.yield l) #[] #[]]:Array Value)++lb.toArray)++Array.replicate (fn.ntmps-((#[Value.func (.yield l) #[] #[]]:Array Value)++lb.toArray).size) undef).getD (k+1) undef=lb[k]:=by
     rw[Array.getD_eq_getD_getElem?,Array.getElem?_append_left (by simp;omega),Array.getElem?_append_right (by simp)];simp[hlt]
    simp only[hg];exact hr
 refine wpIn_mono (h E rfl rfl n _ W M h0 hH rfl) ?_;rintro e a' w' ⟨t',i',s',M',h1,h2,h3,h4,h5⟩
 have hfin:((∃M',J xs.length M' w')∨∃i M',i<xs.length∧Jx i M' w'):=by
  cases s' with
  |true=>exact .inr ⟨i',M',h5,h1⟩
  |false=>
   simp only[Bool.false_eq_true,if_false]at h5;subst h5;exact .inl ⟨M',h1⟩
 have hrn:(results fn a'.tmps).run P w'=.ok (.tuple #[]) w':=by
  unfold results;rw[hres];simp[go_sem]
 rcases h4 with rfl|rfl
 .show LeavesInM Fence.wide n P fn a'.tmps _ a'.defers .returning w'
  rw[h3];exact⟨_,hrn,⟨_,rfl⟩,hfin⟩
 .show LeavesInM Fence.wide n P fn a'.tmps _ a'.defers .returning w'
  rw[h3];exact⟨_,hrn,⟨_,rfl⟩,hfin⟩
section
variable {P:Program} {E:YEnv P} {Q:QY} {C:Cx} {st:St} {i:Nat} {s:Bool}
def bE{P:Program}(E:YEnv P)(C:Cx)(c:Code)(Q:QY)(st:St)(i:Nat)(s:Bool):Prop:=
 C.P=P->C.N=E.N->(∀b,¬C.S b)->E.J s i C.M0 C.w0->∀n L a w,fI C L st a w->a.defers=[]->c.wpIn Fence.wide n P (Gs E Q) a w
theorem Gv{C:Cx}(h:∀b,¬C.S b){w w':World}(hx:Ext C.S w w'):Ext (λ_=>False) w w':=by
 have e:C.S=λ_=>False:=funext λb=>propext ⟨λhb=>(h b hb).elim,False.elim⟩;rw[e]at hx;exact hx
theorem bp.blocks{t:Nat->AV}(h:∀C:Cx,C.P=P->C.N=E.N->bE E C c Q ⟨t,λ_=>none⟩ i s):bp E c Q t i s:=by
 intro n a w M hJ hH hd;exact h {P:=P,N:=E.N,M0:=M,S:=λ_=>False,pb:=λ_=>none,w0:=w} rfl rfl rfl rfl (λ_ h=>h) hJ n _ a w (hH.sim (E.bd _ _ _ _ hJ)) hd
theorem bE.drop(h:bp E c Q (bk st.t) i s):bE E C c Q st i s:=by
 intro hP hN hS hJ n L a w hs hd;have hH:=oG hs;rw[hN]at hH;exact h n a w C.M0 (E.gr _ _ _ _ _ hJ (Gv hS hs.1.ext)) hH hd
def JK{P:Program}(E:YEnv P)(C:Cx)(y:Code)(Q:QY)(i:Nat)(s:Bool):Exit->St->Prop
 |.normal,st=>bE E C y Q st i s
 |e,st=>Q e (bk st.t) i s
theorem bE.seq(h:af Fence.wide C x (JK E C y Q i s) st):bE E C (.seq x y) Q st i s:=by
 intro hP hN hS hJ n L a w hs hd;subst hP;refine wpIn_seq (wpIn_mono (h n L a w hs) ?_);rintro e a' w' ⟨st',L',hs',_,hd',hq⟩
 have hdd:a'.defers=[]:=by rw[hd'];exact hd
 have hH:=oG hs';rw[hN]at hH
 cases e with
 |normal=>exact hq rfl hN hS hJ n L' a' w' hs' hdd
 |_=>exact⟨_,i,s,C.M0,E.gr _ _ _ _ _ hJ (Gv hS hs'.1.ext),hH,hdd,hq⟩
theorem bE.walk(h:af Fence.wide C c (λe st'=>Q e (bk st'.t) i s) st):bE E C c Q st i s:=by
 intro hP hN hS hJ n L a w hs hd;subst hP;refine wpIn_mono (h n L a w hs) ?_;rintro e a' w' ⟨st',L',hs',_,hd',hq⟩;have hH:=oG hs';rw[hN]at hH;exact⟨_,i,s,C.M0,E.gr _ _ _ _ _ hJ (Gv hS hs'.1.ext),hH,by rw[hd'];exact hd,hq⟩
theorem bE.cond{m:Nat}{b:Bool}(hc:st.t m=.pv (.val (.bool b)))(ht:b=true->bE E C x Q st i s)(hf:b=false->bE E C y Q st i s):bE E C (.cond (.tmp m) x y) Q st i s:=by
 intro hP hN hS hJ n L a w hs hd
 have hc':a.eval (.tmp m)=.bool b:=by
  have h:=hs.2.2 m;rw[hc]at h
  cases h with
  |pv hr=>exact aJ hr
 exact wpIn_cond_split hc' (λe=>ht e hP hN hS hJ n L a w hs hd) (λe=>hf e hP hN hS hJ n L a w hs hd)
theorem bE.seqY(h:bE E C x (Gt E y Q) st i s):bE E C (.seq x y) Q st i s:=by
 intro hP hN hS hJ n L a w hs hd;refine wpIn_seq (wpIn_mono (h hP hN hS hJ n L a w hs hd) ?_);rintro e a' w' ⟨t',i',s',M',h1,h2,h3,h4⟩
 cases e with
 |normal=>exact h4 n a' w' M' h1 h2 h3
 |_=>exact⟨t',i',s',M',h1,h2,h3,h4⟩
theorem bE.block(h:bE E C c (wk id Q) st i s):bE E C (.block id c) Q st i s:=by
 intro hP hN hS hJ n L a w hs hd;refine wpIn_block (wpIn_mono (h hP hN hS hJ n L a w hs hd) ?_);rintro e a' w' ⟨t',i',s',M',h1,h2,h3,h4⟩
 cases e with
 |exit j=>
  simp only[wk]at h4;show(if j=id then _ else _);split
  .rename_i e;rw[if_pos e]at h4;exact⟨t',i',s',M',h1,h2,h3,h4⟩
  .rename_i e;rw[if_neg e]at h4;exact⟨t',i',s',M',h1,h2,h3,h4⟩
 |_=>exact⟨t',i',s',M',h1,h2,h3,h4⟩
theorem bE.yield{d f x:Nat}{c:Call}(hops:ops.toList=pre++o::post)(hnd:oF ops=true)(ho:o.op=.call c)(hc:c.callee=.value (.tmp f))(hargs:c.args=#[.tmp x])(hd:o.dst=some d)(hdN:d<E.N)
 (hpre:cU P hn E.N ops (λst'=>st'.t f=.pv (.val (.func (.yield E.l) #[] #[]))∧en ops (bk st'.t) o.guard=some true∧∃q,st'.t x=.pv q∧E.xs[i]?=some q∧
   ∀b,cU P hn E.N ops (λst''=>Q .normal (bk st''.t) (if b=true then i+1 else i) (!b)) post ⟨ah (bk st'.t) d (.pv (.val (.bool b))),λ_=>none⟩) pre st):bE E C (.region id ops false) Q st i false:=by
 intro hP hN hS hJ n L a w hs hdd;subst hP;rw[<-hN]at hpre;refine wpIn_region_list ?_;rw[hops];refine dk _ ?_;have hmem:∀o'∈pre++o::post,∀c,o'.op≠.defer c:=λo' ho'=>kj hnd (by rw[hops];exact ho');refine gw eV (λst' L' a' w' hs' _ hd' hq=>?_) (λo' ho'=>hmem o' (List.mem_append_left _ ho')) hs (aG.refl hs.1) rfl hpre;obtain⟨h1,h2,q,h3,h4,h5⟩:=hq;have hH':=oG hs';have hJ':=E.gr _ _ _ _ _ hJ (Gv hS hs'.1.ext);have hM':=E.bd _ _ _ _ hJ'
 have ef:a'.eval (.tmp f)=.func (.yield E.l) #[] #[]:=by
  rcases hH'.2 f with e|⟨p,e,hr⟩
  .simp only[bk,h1]at e;cases e
  .simp only[bk,h1]at e;injection e with e;subst e;exact aJ hr
 have ex:Rep w' C.M0 q (a'.eval (.tmp x)):=by
  rcases hH'.2 x with e|⟨p,e,hr⟩
  .simp only[bk,h3]at e;cases e
  .simp only[bk,h3]at e;injection e with e;subst e;exact hr
 refine uI ?_ ho hc hargs ef (E.yl (n-1) i q C.M0 w' _ h4 hJ' ex) ?_
 .exact dB (hH'.sim (P:=C.P) hM').2.2 h2
 rintro e w2 ⟨b,M2,rfl,hJ2,hp2⟩;refine⟨_,rfl,?_⟩
 have hH2:dL E.N M2 (ah (bk st'.t) d (.pv (.val (.bool b)))) (a'.put o.dst (.bool b)) w2:=by
  have hb:=hH'.mono hp2;rw[hd]
  have hd':d<a'.tmps.size:=by rw[hb.1,hN];exact hdN
  refine⟨by simpa[Act.put,hN]using hb.1,λm=>?_⟩;rw[oW hd'];simp only[ah];split
  .exact .inr ⟨_,rfl,.val _⟩
  .exact hb.2 m
 refine hH2.list (E.bd _ _ _ _ hJ2) (λo' ho'=>hmem o' (List.mem_append_right _ (List.mem_cons_of_mem _ ho'))) (by rw[hN]at h5;exact h5 b) ?_;intro st3 a3 w3 hq3 hH3 hx3 hd3;exact⟨_,_,_,M2,E.gr _ _ _ _ _ hJ2 hx3,hH3,by rw[hd3,i9,hd'];exact hdd,hq3⟩
end
def sO(C:Cx)(ds:List Deferred)(st:St)(a:Act)(w:World):Prop:=∃L,MemL C L st.h w∧a.tmps.size=C.N∧a.defers=ds∧∀n,RepA w (ag C L st.h) L st.h (st.t n) (a.tmps.getD n undef)
theorem sO.put{C:Cx}{ds:List Deferred}{L:Nat->Loc}{st:St}{a:Act}{w:World}(hm:MemL C L st.h w)(hN:a.tmps.size=C.N)(hdf:a.defers=ds)(ht:∀n,RepA w (ag C L st.h) L st.h (st.t n) (a.tmps.getD n undef))
 {d:Option Nat}(hd:bX C.N d=true){v:AV}{W:List (Nat×Blk)}{u:Value}{w':World}{L':Nat->Loc}(hA:aG C L st.h w L' (ai st.h W) w')(hv:RepA w' (ag C L' (ai st.h W)) L' (ai st.h W) v u):
 sO C ds (st.put d v W) (a.put d u) w':=by
 obtain⟨h1,h2,h3⟩:=fI.put (a:=a) ⟨hm,hN,ht⟩ hd hA hv;exact⟨L',h1,h2,(i9 _ _ _).trans hdf,h3⟩
section
variable {C:Cx} {hn:List Nat} {ops:Array Oper} {fs:List Ef} {st:St} {ds:List Deferred}
theorem D1(hslot:iQ ops=true)(hlen:fs.length=ops.size)(hstep:∀(i:Nat) o f,ops[i]?=some o->fs[i]?=some f->lR C.P hn C.N ops o (run (fs.take i) st) f)
 (hkey:iw (iP ops.toList []) (fs.map λf=>(f.W.map (·.1),f.K))=true){Q':Exit->Act->World->Prop}(hQ:∀a w,sO C ds (run fs st) a w->Q' .normal a w):
 ∀(fuel:Nat)(listed:Array Bool)(a:Act)(w:World),listed.size=ops.size->((List.range ops.size).filter λj=>!aK listed j).length<=fuel->(∀i j,lP ops i j->aK listed j=true->aK listed i=true)->
  sO C ds (dV fs ops.size st (aK listed)) a w->wpAny C.P .any ops Q' fuel listed a w:=by
 have hall:∀listed:Array Bool,Region.ready .any ops listed=[]->listed.size=ops.size->∀j,j<ops.size->aK listed j=true:=by
  intro listed hr hsz j
  induction j using Nat.strongRecOn with
  |_ j ih=>
   intro hj
   cases hl:aK listed j with
   |true=>rfl
   |false=>
    have:j∈Region.ready .any ops listed:=ki.2 ⟨hj,hl,λq hq=>by
     have hqj:=n9 hslot hq;have:=ih q hqj (by omega);unfold aK at this;rw[Array.getD_eq_getD_getElem?]at this|-;rw[Array.getElem?_eq_getElem (by omega)]at this|-
     simpa using this⟩
    rw[hr]at this;cases this
 have hend:∀(listed:Array Bool) a w,Region.ready .any ops listed=[]->listed.size=ops.size->sO C ds (dV fs ops.size st (aK listed)) a w->Q' .normal a w:=by
  intro listed a w hr hsz hsim;apply hQ;have hl:=hall listed hr hsz
  have:dV fs ops.size st (aK listed)=run fs st:=by
   have ht:run fs st=run (fs.take ops.size) st:=by rw[List.take_of_length_le (by omega)]
   rw[ht]
   have h1:(dV fs ops.size st (aK listed)).t=(run (fs.take ops.size) st).t:=by
    funext r;rw[lS fs st _ (by omega)];exact dx (λj hj _=>hl j hj)
   have h2:(dV fs ops.size st (aK listed)).h=(run (fs.take ops.size) st).h:=by
    funext r;rw[lT fs st _ (by omega)];exact dx (λj hj _=>hl j hj)
   cases hA:dV fs ops.size st (aK listed);cases hB:run (fs.take ops.size) st;rw[hA,hB]at h1 h2;simp at h1 h2;rw[h1,h2]
  rw[<-this];exact hsim
 intro fuel
 induction fuel with
 |zero=>
  intro listed a w hsz hcnt hcl hsim
  have hemp:Region.ready .any ops listed=[]:=by
   cases hr:Region.ready .any ops listed with
   |nil=>rfl
   |cons i r=>
    have hi:i∈Region.ready .any ops listed:=by rw[hr];simp
    obtain⟨h1,h2,_⟩:=ki.1 hi;have:i∈(List.range ops.size).filter λj=>!aK listed j:=List.mem_filter.2 ⟨List.mem_range.2 h1,by simp[h2]⟩;have hnil:((List.range ops.size).filter λj=>!aK listed j)=[]:=List.eq_nil_of_length_eq_zero (by omega);rw[hnil]at this;cases this
  exact⟨hemp,hend listed a w hemp hsz hsim⟩
 |succ fuel ih=>
  intro listed a w hsz hcnt hcl hsim;refine⟨λhr=>hend listed a w hr hsz hsim,λi hi=>?_⟩;obtain⟨hin,hli,hdir⟩:=ki.1 hi;have ho:ops[i]?=some ops[i]:=Array.getElem?_eq_getElem hin;have hf:fs[i]?=some (fs[i]'(by omega)):=List.getElem?_eq_getElem _;generalize ops[i]=o at ho;generalize fs[i]'(by omega)=f at hf;obtain⟨hdst,hfd,hcase⟩:=hstep i o f ho hf
  have hbefore:∀q,Pre ops q i->aK listed q=true:=by
   intro q hq
   have hd:∀q,lP ops q i->aK listed q=true:=by
    intro q hq;have hqi:=n9 hslot hq;have:=hdir q hq;unfold aK;rw[Array.getD_eq_getD_getElem?]at this|-;rw[Array.getElem?_eq_getElem (by omega)]at this|-;simpa using this
   cases hq with
   |one h=>exact hd q h
   |step h h'=>exact n7 hcl h (hd _ h')
  have hafter:∀q,Pre ops i q->aK listed q=false:=by
   intro q hq
   cases hlq:aK listed q with
   |false=>rfl
   |true=>rw[n7 hcl hq hlq]at hli;cases hli
  have hdj:∀j r,(pU fs r j).isSome=true->∃oj fj,ops[j]?=some oj∧fs[j]?=some fj∧oj.dst=some r:=by
   intro j r hj;unfold pU at hj;split at hj
   .rename_i fj hfj
    split at hj
    .rename_i hd
     have hjn:j<ops.size:=by rw[<-hlen];exact(List.getElem?_eq_some_iff.1 hfj).1
     have hoj:ops[j]?=some ops[j]:=Array.getElem?_eq_getElem hjn;obtain⟨_,h2,_⟩:=hstep j _ fj hoj hfj;exact⟨_,fj,hoj,hfj,by rw[<-h2];exact hd⟩
    .cases hj
   .cases hj
  have hkj:∀j k,(pV fs k j).isSome=true->∃fj,fs[j]?=some fj∧k∈fj.W.map (·.1):=by
   intro j k hj;unfold pV at hj;split at hj
   .rename_i fj hfj;exact⟨fj,hfj,tl hj⟩
   .cases hj
  have haccat:∀(j:Nat)(fj:Ef),fs[j]?=some fj->(fs.map λf=>(f.W.map (·.1),f.K))[j]?=some (fj.W.map (·.1),fj.K):=λj fj h=>by simp[h]
  have hagT:∀r∈np ops o,(dV fs ops.size st (aK listed)).t r=(run (fs.take i) st).t r:=by
   intro r hr;rw[lS fs st i (by omega),<-n5 (n:=ops.size) (by omega)];refine dx (λj hj hw=>?_);obtain⟨oj,fj,hoj,hfj,hd⟩:=hdj j r hw;rcases Nat.lt_trichotomy j i with hlt|rfl|hgt
   .rw[hbefore j (kh hslot hlt hoj ho (by simp[jU,hd,hr]))];simp[hlt]
   .rw[hli];simp
   .rw[hafter j (kh hslot hgt ho hoj (by simp[jU,hd,hr]))]
    have:¬j<i:=by omega
    simp[this]
  have hagH:∀k∈f.K,(dV fs ops.size st (aK listed)).h k=(run (fs.take i) st).h k:=by
   intro k hk;rw[lT fs st i (by omega),<-n5 (n:=ops.size) (by omega)];refine dx (λj hj hw=>?_);obtain⟨fj,hfj,hd⟩:=hkj j k hw;rcases Nat.lt_trichotomy j i with hlt|rfl|hgt
   .rw[hbefore j (ln hkey hlt (haccat j fj hfj) (haccat i f hf) ⟨k,.inl ⟨hd,hk⟩⟩)];simp[hlt]
   .rw[hli];simp
   .rw[hafter j (ln hkey hgt (haccat i f hf) (haccat j fj hfj) ⟨k,.inr ⟨hd,hk⟩⟩)]
    have:¬j<i:=by omega
    simp[this]
  have hWK:∀k,k∈f.W.map (·.1)->k∈f.K:=by
   intro k hk;obtain⟨kb,hkb,rfl⟩:=List.mem_map.1 hk;rcases hcase with⟨_,_,_,hall⟩|⟨_,_,hW,_⟩
   .have:=List.all_eq_true.1 hall kb hkb;simpa using this
   .rw[hW]at hkb;cases hkb
  have kD:dV fs ops.size st (aK (listed.setIfInBounds i true))=(dV fs ops.size st (aK listed)).put f.d f.v f.W:=by
   have hls:∀j,j<ops.size->aK (listed.setIfInBounds i true) j=(aK listed j||j==i):=by
    intro j hj;unfold aK;by_cases e:j=i
    .subst e;simp[Array.getD_eq_getD_getElem?,hsz,hj]
    .have h1:(j==i)=false:=by simpa using e
     rw[h1,Bool.or_false,Array.getD_eq_getD_getElem?,Array.getD_eq_getD_getElem?,Array.getElem?_setIfInBounds_ne (by omega)]
   have h1:(dV fs ops.size st (aK (listed.setIfInBounds i true))).t=((dV fs ops.size st (aK listed)).put f.d f.v f.W).t:=by
    funext r
    show gv ops.size (pU fs r) (st.t r) (aK (listed.setIfInBounds i true))=_;rw[dx (λj hj _=>hls j hj),mY hin ?_]
    .have hw:pU fs r i=if f.d=some r then some f.v else none:=by simp[pU,hf]
     rw[hw]
     cases hd:f.d with
     |none=>simp[St.put,dV]
     |some d=>
      simp only[St.put,ah,Option.some.injEq];by_cases e:d=r
      .subst e;simp
      .rw[if_neg e,if_neg (λh=>e h.symm)];rfl
    .intro hwi j hij hj hwj
     obtain⟨oi,fi,hoi,hfi,hdi⟩:=hdj i r hwi;obtain⟨oj,fj,hoj,hfj,hd⟩:=hdj j r hwj;rw[ho]at hoi;injection hoi with hoi;subst hoi;exact hafter j (kh hslot hij ho hoj (by simp[jU,hdi,hd]))
   have h2:(dV fs ops.size st (aK (listed.setIfInBounds i true))).h=((dV fs ops.size st (aK listed)).put f.d f.v f.W).h:=by
    funext k
    show gv ops.size (pV fs k) (st.h k) (aK (listed.setIfInBounds i true))=_;rw[dx (λj hj _=>hls j hj),mY hin ?_]
    .have hw:pV fs k i=dJ f.W k:=by simp[pV,hf]
     rw[hw];simp only[St.put];exact(mZ k f.W (dV fs ops.size st (aK listed)).h).symm
    .intro hwi j hij hj hwj
     obtain⟨fi,hfi,hdi⟩:=hkj i k hwi;obtain⟨fj,hfj,hd⟩:=hkj j k hwj;rw[hf]at hfi;injection hfi with hfi;subst hfi;exact hafter j (ln hkey hij (haccat i f hf) (haccat j fj hfj) ⟨k,.inr ⟨hd,hWK k hdi⟩⟩)
   cases hA:dV fs ops.size st (aK (listed.setIfInBounds i true));cases hB:(dV fs ops.size st (aK listed)).put f.d f.v f.W;rw[hA,hB]at h1 h2;simp at h1 h2;rw[h1,h2]
  have hnext:∀a' w',sO C ds ((dV fs ops.size st (aK listed)).put f.d f.v f.W) a' w'->wpAny C.P .any ops Q' fuel (listed.setIfInBounds i true) a' w':=by
   intro a' w' hs';refine ih (listed.setIfInBounds i true) a' w' (by simp[hsz]) ?_ ?_ (by rw[kD];exact hs')
   .have hle:((List.range ops.size).filter λj=>!aK (listed.setIfInBounds i true) j).length<((List.range ops.size).filter λj=>!aK listed j).length:=by
     have heq:((List.range ops.size).filter λj=>!aK (listed.setIfInBounds i true) j)=((List.range ops.size).filter λj=>!aK listed j).filter λj=>!(j==i):=by
      rw[List.filter_filter];refine List.filter_congr (λj hj=>?_);have hj':=List.mem_range.1 hj;unfold aK;by_cases e:j=i
      .subst e;simp[Array.getD_eq_getD_getElem?,hsz,hj']
      .have h1:(j==i)=false:=by simpa using e
       rw[h1,Array.getD_eq_getD_getElem?,Array.getD_eq_getD_getElem?,Array.getElem?_setIfInBounds_ne (by omega)];simp
     rw[heq];refine List.length_filter_lt_length_iff_exists.2 ⟨i,List.mem_filter.2 ⟨List.mem_range.2 hin,by simp[hli]⟩,by simp⟩
    omega
   .intro q j hd hj
    have hset:∀m,aK (listed.setIfInBounds i true) m=true↔(aK listed m=true∨m=i):=by
     intro m;unfold aK;by_cases e:m=i
     .subst e;simp[Array.getD_eq_getD_getElem?,hsz,hin]
     .rw[Array.getD_eq_getD_getElem?,Array.getD_eq_getD_getElem?,Array.getElem?_setIfInBounds_ne (by omega)];simp[e]
    rw[hset]at hj|-;rcases hj with hj|rfl
    .exact .inl (hcl q j hd hj)
    .exact .inl (hbefore q (.one hd))
  obtain⟨L,hm,hN,hdf,ht⟩:=hsim
  have hgd:en ops (dV fs ops.size st (aK listed)).t o.guard=en ops (run (fs.take i) st).t o.guard:=by
   unfold en;split
   .rfl
   .rename_i j want hg
    split
    .rename_i d hd
     rw[hagT d (by simp[np,hg,hd])]
    .rfl
  unfold wpOp;rw[ho];simp only;rcases hcase with⟨hg,hK,hev,hallk⟩|⟨hg,hv,hW,_⟩
  .rw[dB ht (hgd.trans hg)]
   rw[if_pos rfl];refine .inl ?_
   have hops:∀x∈o.op.operands,(run (fs.take i) st).ev x=(dV fs ops.size st (aK listed)).ev x:=by
    intro x hx
    cases x with
    |tmp t=>
     refine(hagT t ?_).symm;simp only[np,AC,List.mem_append,List.mem_filterMap];exact .inl ⟨.tmp t,by simpa using hx,rfl⟩
    |_=>rfl
   have hres:bu f.K (run (fs.take i) st).h=bu f.K (dV fs ops.size st (aK listed)).h:=by
    funext k
    unfold bu;split
    .rename_i hk;exact(hagH k (by simpa using hk)).symm
    .rfl
   rw[hres]at hev;refine kg.congr hops hev C L _ w a rfl hm ?_ ?_ (λx _=>cD ht x) _ _ (λu w' L' hA hv=>?_)
   .intro k b hk;unfold bu at hk;split at hk
    .exact hk
    .cases hk
   .intro d hd
    unfold bu;rw[if_pos (hK d hd)];refine⟨rfl,?_⟩;have hd9:=hdst;rw[hd]at hd9;simp only[bX,Bool.and_eq_true,decide_eq_true_eq]at hd9;exact hd9.2
   .refine hnext _ _ ?_
    rw[hfd];exact sO.put hm hN hdf ht hdst hA hv
  .rw[dB ht (hgd.trans hg)]
   simp only[Bool.false_eq_true,if_false];refine hnext _ _ ?_;rw[hfd,hv,hW];exact sO.put hm hN hdf ht hdst (W:=[]) (aG.refl hm) (.pv (.val _))
variable {P:Program} {E:YEnv P} {Q:QY} {i:Nat} {s:Bool}
theorem bE.draw(hmx:P.follows .mixedOrders=true)(hslot:iQ ops=true)
 (h:jB P hn E.N ops (λacc st=>iw (iP ops.toList []) acc=true∧bE E C y Q st i s) ops.toList [] st):bE E C (.seq (.region id ops true) y) Q st i s:=by
 intro hP hN hS hJ n L a w hs hd;subst hP;rw[<-hN]at h;obtain⟨fs,h1,h2,h3,h4⟩:=qV h;refine wpIn_seq (wpIn_wide.2 ?_);refine wp_region_any hmx (D1 (ds:=[]) (fs:=fs) (st:=st) hslot (by rw[h1];simp) (λi o f ho hf=>h2 i o f (by simpa using ho) hf) (by simpa using h3) (λa w hs=>?_) _ _ _ _ (by simp) ?_ ?_ ?_)
 .obtain⟨L',hm',hN',hdd,ht'⟩:=hs
  exact h4 rfl hN hS hJ n L' a w ⟨hm',hN',ht'⟩ hdd
 .refine Nat.le_trans (List.length_filter_le _ _) (by simp)
 .intro i j hd hj
  have hjn:j<ops.size:=by obtain⟨o,ho,_⟩:=hd;exact(Array.getElem?_eq_some_iff.1 ho).1
  unfold aK at hj;rw[Array.getD_eq_getD_getElem?,Array.getElem?_replicate,if_pos hjn]at hj;cases hj
 .have:dV fs ops.size st (aK (Array.replicate ops.size false))=st:=by
   have hf:∀j,j<ops.size->aK (Array.replicate ops.size false) j=false:=by
    intro j hj;unfold aK;rw[Array.getD_eq_getD_getElem?,Array.getElem?_replicate,if_pos hj];rfl
   have hz:∀{V:Type}(wr:Nat->Option V)(x0:V),gv ops.size wr x0 (aK (Array.replicate ops.size false))=x0:=by
    intro V wr x0;rw[dx (ls':=λ_=>false) (λj hj _=>hf j hj)]
    have:∀n,gv n wr x0 (λ_=>false)=x0:=by
     intro n;induction n with
     |zero=>rfl
     |succ n ih=>rw[iZ];simp[ih]
    exact this _
   cases st;unfold dV;simp[hz]
  rw[this];have hg:=hs.1.grow (Ext.drew (λ_=>False) w);exact⟨L,hg.1,hs.2.1,hd,λn=>(hs.2.2 n).mono hg.2 (KC.refl _ _)⟩
end
abbrev pn(a:List aH)(ra:Int)(b:List aH)(rb:Int)(hints:List Vc):List PV:=[.rptr (bR a) 0,.rptr (bR b) 0,.rptr (Z ra) 0,.rptr (Z rb) 0,.rptr (bQ hints) 0]
theorem LR(a:List aH)(ra:Int)(b:List aH)(rb:Int)(hints:List Vc):aa Tryz.prog 135 [.pv (bR a),.pv (Z ra),.pv (bR b),.pv (Z rb),.pv (bQ hints)] [] [] (.pv (.fn (.func 174) [] (pn a ra b rb hints))):=by
 refine Dp Tryz.func135 ?_;intro C hP hN;simp only[Tryz.f135]at hN|-;exact Gy
def zV(a:List aH)(ra:Int)(b:List aH)(rb:Int):Bool:=aV a&&aV b&&cJ ra 0 1048576&&cJ rb 0 1048576
def xA(a:List aH)(ra:Int)(b:List aH)(rb:Int):Vc:=(m8 (aX a) (aX b) (ra+rb) 64).2.n
def xD(a:List aH)(ra:Int)(b:List aH)(rb:Int)(hints:List Vc):List Vc:=
 if zV a ra b rb then hints.filter bS++((if sj a b then[qd a b]else[])++(qc++(if bS (xA a ra b rb)then[xA a ra b rb]else[])))else[]
theorem B1{l:List α}{k:Nat}{v:α}(hv:l[k]?=some v):(l.filter p)=(l.take k).filter p++(if p v then[v]else[])++(l.drop (k+1)).filter p:=by
 obtain⟨h,hv⟩:=List.getElem?_eq_some_iff.1 hv
 have e:l=l.take k++v::l.drop (k+1):=by rw[<-hv,List.getElem_cons_drop];exact(List.take_append_drop k l).symm
 conv=>lhs;rw[e]
 rw[List.filter_append,List.filter_cons];split<;>simp
structure CandT(l:Nat)(a:List aH)(ra:Int)(b:List aH)(rb:Int)(hints:List Vc)(t:Nat->AV):Prop where
 g0:t 0=.pv (.val (.func (.yield l) #[] #[]))
 g1:t 1=.pv (.rptr (bR a) 0)
 g2:t 2=.pv (.rptr (bR b) 0)
 g3:t 3=.pv (.rptr (Z ra) 0)
 g4:t 4=.pv (.rptr (Z rb) 0)
 g5:t 5=.pv (.rptr (bQ hints) 0)
def xE(E:YEnv P)(a:List aH)(ra:Int)(b:List aH)(rb:Int)(hints:List Vc)(n:Nat):QY:=λe t i s=>match e with
 |.normal=>s=false∧i=n∧CandT E.l a ra b rb hints t
 |.ret=>s=true∧i<E.xs.length
 |_=>False
theorem LS(a:List aH)(ra:Int)(b:List aH)(rb:Int)(hints:List Vc)(ha:a.length<=9223372036854775807)(hb:b.length<=9223372036854775807)(hl:hints.length<=9223372036854775807):zI Tryz.prog 174 (pn a ra b rb hints) ((xD a ra b rb hints).map aR):=by
 refine Fa (c:=(Tryz.f174.body).getD .skip) Tryz.func174 rfl (by kernel_rfl) rfl (by simp[Tryz.f174]) ?_;intro E hEN hxs;simp only[Tryz.f174,Option.getD_some]at hEN|-;rw[<-hxs];have hG:CandT E.l a ra b rb hints (tI E.l (pn a ra b rb hints)):=⟨rfl,rfl,rfl,rfl,rfl,rfl⟩;generalize tI E.l (pn a ra b rb hints)=t at *;obtain⟨g0,g1,g2,g3,g4,g5⟩:=hG;have hF:=eV;have ca:=su a ha;have cb:=su b hb;have cra:=Jb ra;have crb:=Jb rb
 have hcl:xD a ra b rb hints=if zV a ra b rb then hints.filter bS++((if sj a b then[qd a b]else[])++(qc++(if bS (xA a ra b rb)then[xA a ra b rb]else[])))else[]:=rfl
 have hcb:zV a ra b rb=(aV a&&aV b&&cJ ra 0 1048576&&cJ rb 0 1048576):=rfl
 cases hok:zV a ra b rb with
 |false=>
  rw[hok]at hcl hcb;simp only[Bool.false_eq_true,if_false]at hcl
  have hx0:E.xs.length=0:=by rw[hxs,hcl];rfl
  refine bp.seq ?_;refine bp.walk λC hP hN=>?_;rw[hEN]at hN;cases hpa:aV a
  .rw[hpa]at ca
   repeat' (first
    |with_reducible refine af.seq ?_
    |(with_reducible ((first|refine af.region hF (hn:=[]) (by kernel_rfl) ?_|refine bh (ca) ?_|refine bh (cb) ?_|refine bh (cra) ?_|refine bh (crb) ?_|refine af.cond' ?_);simp -implicitDefEqProofs (maxSteps:=2000000) [hP,hN,g0,g1,g2,g3,g4,g5]))
    |(with_reducible refine aO (by simp[g0,g1,g2,g3,g4,g5]) (λhgd=>?_) (λhgd=>?_)<;>first|(exfalso;simp at hgd;done)|(exfalso;simp at hgd;omega)|simp -implicitDefEqProofs (maxSteps:=2000000) [hP,hN,g0,g1,g2,g3,g4,g5])
    |with_reducible refine aE ?_ ?_
    |(with_reducible refine av (λhcd=>?_) (λhcd=>?_)<;>(try (exfalso;clear hP hN;simp_all;done))<;>(try (exfalso;simp at *;omega)))
    |with_reducible refine af.block ?_
    |(with_reducible ((first|refine af.skip ?_|refine af.exit ?_|refine af.ret ?_);simp[g0,g1,g2,g3,g4,g5])))
   all_goals exact⟨.inr rfl,by simp[hx0]⟩
  rw[hpa]at ca hcb;cases hpb:aV b
  .rw[hpb]at cb
   repeat' (first
    |with_reducible refine af.seq ?_
    |(with_reducible ((first|refine af.region hF (hn:=[]) (by kernel_rfl) ?_|refine bh (ca) ?_|refine bh (cb) ?_|refine bh (cra) ?_|refine bh (crb) ?_|refine af.cond' ?_);simp -implicitDefEqProofs (maxSteps:=2000000) [hP,hN,g0,g1,g2,g3,g4,g5]))
    |(with_reducible refine aO (by simp[g0,g1,g2,g3,g4,g5]) (λhgd=>?_) (λhgd=>?_)<;>first|(exfalso;simp at hgd;done)|(exfalso;simp at hgd;omega)|simp -implicitDefEqProofs (maxSteps:=2000000) [hP,hN,g0,g1,g2,g3,g4,g5])
    |with_reducible refine aE ?_ ?_
    |(with_reducible refine av (λhcd=>?_) (λhcd=>?_)<;>(try (exfalso;clear hP hN;simp_all;done))<;>(try (exfalso;simp at *;omega)))
    |with_reducible refine af.block ?_
    |(with_reducible ((first|refine af.skip ?_|refine af.exit ?_|refine af.ret ?_);simp[g0,g1,g2,g3,g4,g5])))
   all_goals exact⟨.inr rfl,by simp[hx0]⟩
  rw[hpb]at cb hcb;cases hra:cJ ra 0 1048576
  .rw[hra]at cra
   repeat' (first
    |with_reducible refine af.seq ?_
    |(with_reducible ((first|refine af.region hF (hn:=[]) (by kernel_rfl) ?_|refine bh (ca) ?_|refine bh (cb) ?_|refine bh (cra) ?_|refine bh (crb) ?_|refine af.cond' ?_);simp -implicitDefEqProofs (maxSteps:=2000000) [hP,hN,g0,g1,g2,g3,g4,g5]))
    |(with_reducible refine aO (by simp[g0,g1,g2,g3,g4,g5]) (λhgd=>?_) (λhgd=>?_)<;>first|(exfalso;simp at hgd;done)|(exfalso;simp at hgd;omega)|simp -implicitDefEqProofs (maxSteps:=2000000) [hP,hN,g0,g1,g2,g3,g4,g5])
    |with_reducible refine aE ?_ ?_
    |(with_reducible refine av (λhcd=>?_) (λhcd=>?_)<;>(try (exfalso;clear hP hN;simp_all;done))<;>(try (exfalso;simp at *;omega)))
    |with_reducible refine af.block ?_
    |(with_reducible ((first|refine af.skip ?_|refine af.exit ?_|refine af.ret ?_);simp[g0,g1,g2,g3,g4,g5])))
   all_goals exact⟨.inr rfl,by simp[hx0]⟩
  rw[hra]at cra hcb
  have hrb:cJ rb 0 1048576=false:=by simpa using hcb.symm
  rw[hrb]at crb
  repeat' (first
   |with_reducible refine af.seq ?_
   |(with_reducible ((first|refine af.region hF (hn:=[]) (by kernel_rfl) ?_|refine bh (ca) ?_|refine bh (cb) ?_|refine bh (cra) ?_|refine bh (crb) ?_|refine af.cond' ?_);simp -implicitDefEqProofs (maxSteps:=2000000) [hP,hN,g0,g1,g2,g3,g4,g5]))
   |(with_reducible refine aO (by simp[g0,g1,g2,g3,g4,g5]) (λhgd=>?_) (λhgd=>?_)<;>first|(exfalso;simp at hgd;done)|(exfalso;simp at hgd;omega)|simp -implicitDefEqProofs (maxSteps:=2000000) [hP,hN,g0,g1,g2,g3,g4,g5])
   |with_reducible refine aE ?_ ?_
   |(with_reducible refine av (λhcd=>?_) (λhcd=>?_)<;>(try (exfalso;clear hP hN;simp_all;done))<;>(try (exfalso;simp at *;omega)))
   |with_reducible refine af.block ?_
   |(with_reducible ((first|refine af.skip ?_|refine af.exit ?_|refine af.ret ?_);simp[g0,g1,g2,g3,g4,g5])))
  all_goals exact⟨.inr rfl,by simp[hx0]⟩
 |true=>
 have hk:=hok;rw[hcb]at hk;simp only[Bool.and_eq_true]at hk;obtain⟨⟨⟨hpa,hpb⟩,hra⟩,hrb⟩:=hk;rw[hpa]at ca;rw[hpb]at cb;rw[hra]at cra;rw[hrb]at crb;rw[hok]at hcl;simp only[if_true]at hcl;rw[hcl]at hxs;clear hcl hcb;refine bp.seq (bp.mono (Q:=xE E a ra b rb hints 0) ?_ ?_)
 .refine bp.walk λC hP hN=>?_
  rw[hEN]at hN
  repeat' (first
   |with_reducible refine af.seq ?_
   |(with_reducible ((first|refine af.region hF (hn:=[]) (by kernel_rfl) ?_|refine bh (ca) ?_|refine bh (cb) ?_|refine bh (cra) ?_|refine bh (crb) ?_|refine af.cond' ?_);simp -implicitDefEqProofs (maxSteps:=2000000) [hP,hN,g0,g1,g2,g3,g4,g5]))
   |(with_reducible refine aO (by simp[g0,g1,g2,g3,g4,g5]) (λhgd=>?_) (λhgd=>?_)<;>first|(exfalso;simp at hgd;done)|(exfalso;simp at hgd;omega)|simp -implicitDefEqProofs (maxSteps:=2000000) [hP,hN,g0,g1,g2,g3,g4,g5])
   |with_reducible refine aE ?_ ?_
   |(with_reducible refine av (λhcd=>?_) (λhcd=>?_)<;>(try (exfalso;clear hP hN;simp_all;done))<;>(try (exfalso;simp at *;omega)))
   |with_reducible refine af.block ?_
   |(with_reducible ((first|refine af.skip ?_|refine af.exit ?_|refine af.ret ?_);simp[g0,g1,g2,g3,g4,g5])))
  all_goals exact⟨rfl,rfl,by constructor<;>simp[bk,ah,g0,g1,g2,g3,g4,g5]⟩
 clear g0 g1 g2 g3 g4 g5;rintro e t i s h
 cases e with
 |ret=>exact⟨.inr rfl,by obtain⟨rfl,h⟩:=h;exact h⟩
 |normal=>
  obtain⟨rfl,rfl,hG⟩:=h;show bp E _ _ _ _ _;refine bp.seq (bp.mono (Q:=xE E a ra b rb hints (hints.filter bS).length) ?_ ?_)
  .obtain⟨g0,g1,g2,g3,g4,g5⟩:=hG
   refine bp.seq ?_;refine bp.walk λC hP hN=>?_;rw[hEN]at hN
   repeat' (first
    |with_reducible refine af.seq ?_
    |(with_reducible ((first|refine af.region hF (hn:=[]) (by kernel_rfl) ?_|refine af.cond' ?_);simp -implicitDefEqProofs (maxSteps:=2000000) [hP,hN,g0,g1,g2,g3,g4,g5]))
    |(with_reducible refine aO (by simp[g0,g1,g2,g3,g4,g5]) (λhgd=>?_) (λhgd=>?_)<;>first|(exfalso;simp at hgd;done)|(exfalso;simp at hgd;omega)|simp -implicitDefEqProofs (maxSteps:=2000000) [hP,hN,g0,g1,g2,g3,g4,g5])
    |with_reducible refine aE ?_ ?_
    |(with_reducible refine av (λhcd=>?_) (λhcd=>?_)<;>(try (exfalso;clear hP hN;simp_all;done))<;>(try (exfalso;simp at *;omega)))
    |with_reducible refine af.block ?_
    |(with_reducible ((first|refine af.skip ?_|refine af.exit ?_|refine af.ret ?_);simp[g0,g1,g2,g3,g4,g5])))
   show bp E _ _ _ _ _;refine bp.block ?_;refine bp.loopN hints.length (λk t i s=>s=false∧i=((hints.take k).filter bS).length∧CandT E.l a ra b rb hints t∧t 32=.pv (bQ hints)∧t 33=.pv (Z hints.length)∧t 34=.pv (Z k)) ?_ ?_
   .refine⟨rfl,rfl,?_,?_⟩
    .constructor<;>simp[bk,ah,g0,g1,g2,g3,g4,g5]
    .simp[bk,ah]
   clear g0 g1 g2 g3 g4 g5;rintro k t i s hk ⟨rfl,rfl,⟨g0,g1,g2,g3,g4,g5⟩,g32,g33,g34⟩;refine bp.blocks λC hP hN=>?_;rw[hEN]at hN;by_cases hlt:k<hints.length
   .have hwr:=au hlt hl
    generalize hxe:hints[k]=v at *
    have hx:hints[k]?=some v:=by rw[List.getElem?_eq_getElem hlt,hxe]
    have cu:=Bu v;have hft:=B1 (p:=bS) hx
    have htk:hints.take (k+1)=hints.take k++[v]:=by rw[List.take_add_one,hx];rfl
    refine bE.seq ?_
    repeat' (first
     |with_reducible refine af.seq ?_
     |(with_reducible ((first|refine af.region hF (hn:=[]) (by kernel_rfl) ?_|refine af.cond' ?_);simp -implicitDefEqProofs (maxSteps:=2000000) [hP,hN,g0,g1,g2,g3,g4,g5,g32,g33,g34,hlt]))
     |(with_reducible refine aO (by simp[g0,g1,g2,g3,g4,g5,g32,g33,g34,hlt]) (λhgd=>?_) (λhgd=>?_)<;>first|(exfalso;simp at hgd;done)|(exfalso;simp at hgd;omega)|simp -implicitDefEqProofs (maxSteps:=2000000) [hP,hN,g0,g1,g2,g3,g4,g5,g32,g33,g34,hlt])
     |with_reducible refine aE ?_ ?_
     |(with_reducible refine av (λhcd=>?_) (λhcd=>?_)<;>(try (exfalso;clear hP hN;simp_all;done))<;>(try (exfalso;simp at *;omega)))
     |with_reducible refine af.block ?_
     |(with_reducible ((first|refine af.skip ?_|refine af.exit ?_|refine af.ret ?_);simp[g0,g1,g2,g3,g4,g5,g32,g33,g34,hlt])))
    show bE E C _ _ _ _ _;refine bE.seq ?_
    repeat' (first
     |with_reducible refine af.seq ?_
     |(with_reducible ((first|refine af.region hF (hn:=[]) (by kernel_rfl) ?_|refine af.cond' ?_);simp -implicitDefEqProofs (maxSteps:=2000000) [hP,hN,g0,g1,g2,g3,g4,g5,g32,g33,g34,hlt]))
     |(with_reducible refine aO (by simp[g0,g1,g2,g3,g4,g5,g32,g33,g34,hlt]) (λhgd=>?_) (λhgd=>?_)<;>first|(exfalso;simp at hgd;done)|(exfalso;simp at hgd;omega)|simp -implicitDefEqProofs (maxSteps:=2000000) [hP,hN,g0,g1,g2,g3,g4,g5,g32,g33,g34,hlt])
     |with_reducible refine aE ?_ ?_
     |(with_reducible refine av (λhcd=>?_) (λhcd=>?_)<;>(try (exfalso;clear hP hN;simp_all;done))<;>(try (exfalso;simp at *;omega)))
     |with_reducible refine af.block ?_
     |(with_reducible ((first|refine af.skip ?_|refine af.exit ?_|refine af.ret ?_);simp[g0,g1,g2,g3,g4,g5,g32,g33,g34,hlt])))
    refine af.skip ?_;show bE E C _ _ _ _ _;refine bE.seqY (bE.block ?_);refine bE.seq ?_
    repeat' (first
     |with_reducible refine af.seq ?_
     |(with_reducible ((first|refine af.region hF (hn:=[]) (by kernel_rfl) ?_|refine af.cond' ?_);simp -implicitDefEqProofs (maxSteps:=2000000) [hP,hN,g0,g1,g2,g3,g4,g5,g32,g33,g34,hlt,hx,hxe]))
     |(with_reducible refine aO (by simp[g0,g1,g2,g3,g4,g5,g32,g33,g34,hlt,hx,hxe]) (λhgd=>?_) (λhgd=>?_)<;>first|(exfalso;simp at hgd;done)|(exfalso;simp at hgd;omega)|simp -implicitDefEqProofs (maxSteps:=2000000) [hP,hN,g0,g1,g2,g3,g4,g5,g32,g33,g34,hlt,hx,hxe])
     |with_reducible refine aE ?_ ?_
     |(with_reducible refine av (λhcd=>?_) (λhcd=>?_)<;>(try (exfalso;clear hP hN;simp_all;done))<;>(try (exfalso;simp at *;omega)))
     |with_reducible refine af.block ?_
     |(with_reducible ((first|refine af.skip ?_|refine af.exit ?_|refine af.ret ?_);simp[g0,g1,g2,g3,g4,g5,g32,g33,g34,hlt,hx,hxe])))
    show bE E C _ _ _ _ _
    cases hu:bS v with
    |true=>
     rw[hu]at cu
     have hi:E.xs[((hints.take k).filter bS).length]?=some (aR v):=by
      rw[hxs,hft,hu];simp
     refine bE.seqY (bE.yield (hn:=[]) (d:=43) (f:=41) (x:=42) (pre:=[_,_,_,_,_]) (post:=[_,_]) rfl (by kernel_rfl) rfl rfl rfl rfl (by rw[hEN];decide) ?_);rw[hEN];simp -implicitDefEqProofs (maxSteps:=2000000) [g0,g1,g2,g3,g4,g5,g32,g33,g34,hlt,hx,hxe];refine bh cu ?_;simp -implicitDefEqProofs (maxSteps:=2000000) [g0,g1,g2,g3,g4,g5,g32,g33,g34,hlt,hx,hxe,bk];refine⟨by simp[en,bk,ah],hi,?_,?_⟩
     .show bp E _ _ _ _ _
      refine bp.cond (b:=true) (by simp[bk,ah]) (λ_=>bp.ret ?_) (λh=>by cases h);exact⟨rfl,(List.getElem?_eq_some_iff.1 hi).1⟩
     .show bp E _ _ _ _ _
      refine bp.cond (b:=false) (by simp[bk,ah]) (λh=>by cases h) (λ_=>bp.skip ?_);show bp E _ _ _ _ _;clear hP hN;refine bp.walk λC hP hN=>?_;rw[hEN]at hN
      repeat' (first
       |with_reducible refine af.seq ?_
       |(with_reducible ((first|refine af.region hF (hn:=[]) (by kernel_rfl) ?_|refine af.cond' ?_);simp -implicitDefEqProofs (maxSteps:=2000000) [hP,hN,g0,g1,g2,g3,g4,g5,g32,g33,g34,hlt,hx,hxe,hwr,bk]))
       |(with_reducible refine aO (by simp[g0,g1,g2,g3,g4,g5,g32,g33,g34,hlt,hx,hxe,hwr,bk]) (λhgd=>?_) (λhgd=>?_)<;>first|(exfalso;simp at hgd;done)|(exfalso;simp at hgd;omega)|simp -implicitDefEqProofs (maxSteps:=2000000) [hP,hN,g0,g1,g2,g3,g4,g5,g32,g33,g34,hlt,hx,hxe,hwr,bk])
       |with_reducible refine aE ?_ ?_
       |(with_reducible refine av (λhcd=>?_) (λhcd=>?_)<;>(try (exfalso;clear hP hN;simp_all;done))<;>(try (exfalso;simp at *;omega)))
       |with_reducible refine af.block ?_
       |(with_reducible ((first|refine af.skip ?_|refine af.exit ?_|refine af.ret ?_);simp[g0,g1,g2,g3,g4,g5,g32,g33,g34,hlt,hx,hxe,hwr,bk])))
      repeat' (refine And.intro ?_ ?_)
      all_goals first|rfl|(rw[htk,List.filter_append];simp[hu];done)|(simp[hu,htk,bk,ah,g32,g33,hwr];done)|(constructor<;>simp[bk,ah,g0,g1,g2,g3,g4,g5])
    |false=>
     rw[hu]at cu;refine bE.walk ?_
     repeat' (first
      |with_reducible refine af.seq ?_
      |(with_reducible ((first|refine af.region hF (hn:=[]) (by kernel_rfl) ?_|refine bh (cu) ?_|refine af.cond' ?_);simp -implicitDefEqProofs (maxSteps:=2000000) [hP,hN,g0,g1,g2,g3,g4,g5,g32,g33,g34,hlt,hx,hxe]))
      |(with_reducible refine aO (by simp[g0,g1,g2,g3,g4,g5,g32,g33,g34,hlt,hx,hxe]) (λhgd=>?_) (λhgd=>?_)<;>first|(exfalso;simp at hgd;done)|(exfalso;simp at hgd;omega)|simp -implicitDefEqProofs (maxSteps:=2000000) [hP,hN,g0,g1,g2,g3,g4,g5,g32,g33,g34,hlt,hx,hxe])
      |with_reducible refine aE ?_ ?_
      |(with_reducible refine av (λhcd=>?_) (λhcd=>?_)<;>(try (exfalso;clear hP hN;simp_all;done))<;>(try (exfalso;simp at *;omega)))
      |with_reducible refine af.block ?_
      |(with_reducible ((first|refine af.skip ?_|refine af.exit ?_|refine af.ret ?_);simp[g0,g1,g2,g3,g4,g5,g32,g33,g34,hlt,hx,hxe])))
     show bp E _ _ _ _ _;clear hP hN;refine bp.walk λC hP hN=>?_;rw[hEN]at hN
     repeat' (first
      |with_reducible refine af.seq ?_
      |(with_reducible ((first|refine af.region hF (hn:=[]) (by kernel_rfl) ?_|refine af.cond' ?_);simp -implicitDefEqProofs (maxSteps:=2000000) [hP,hN,g0,g1,g2,g3,g4,g5,g32,g33,g34,hlt,hx,hxe,hwr,bk]))
      |(with_reducible refine aO (by simp[g0,g1,g2,g3,g4,g5,g32,g33,g34,hlt,hx,hxe,hwr,bk]) (λhgd=>?_) (λhgd=>?_)<;>first|(exfalso;simp at hgd;done)|(exfalso;simp at hgd;omega)|simp -implicitDefEqProofs (maxSteps:=2000000) [hP,hN,g0,g1,g2,g3,g4,g5,g32,g33,g34,hlt,hx,hxe,hwr,bk])
      |with_reducible refine aE ?_ ?_
      |(with_reducible refine av (λhcd=>?_) (λhcd=>?_)<;>(try (exfalso;clear hP hN;simp_all;done))<;>(try (exfalso;simp at *;omega)))
      |with_reducible refine af.block ?_
      |(with_reducible ((first|refine af.skip ?_|refine af.exit ?_|refine af.ret ?_);simp[g0,g1,g2,g3,g4,g5,g32,g33,g34,hlt,hx,hxe,hwr,bk])))
     repeat' (refine And.intro ?_ ?_)
     all_goals first|rfl|(rw[htk,List.filter_append];simp[hu];done)|(simp[hu,htk,bk,ah,g32,g33,hwr];done)|(constructor<;>simp[bk,ah,g0,g1,g2,g3,g4,g5])
   .have hin:k=hints.length:=by omega
    subst hin;refine bE.walk ?_
    repeat' (first
     |with_reducible refine af.seq ?_
     |(with_reducible ((first|refine af.region hF (hn:=[]) (by kernel_rfl) ?_|refine af.cond' ?_);simp -implicitDefEqProofs (maxSteps:=2000000) [hP,hN,g0,g1,g2,g3,g4,g5,g32,g33,g34]))
     |(with_reducible refine aO (by simp[g0,g1,g2,g3,g4,g5,g32,g33,g34]) (λhgd=>?_) (λhgd=>?_)<;>first|(exfalso;simp at hgd;done)|(exfalso;simp at hgd;omega)|simp -implicitDefEqProofs (maxSteps:=2000000) [hP,hN,g0,g1,g2,g3,g4,g5,g32,g33,g34])
     |with_reducible refine aE ?_ ?_
     |(with_reducible refine av (λhcd=>?_) (λhcd=>?_)<;>(try (exfalso;clear hP hN;simp_all;done))<;>(try (exfalso;simp at *;omega)))
     |with_reducible refine af.block ?_
     |(with_reducible ((first|refine af.skip ?_|refine af.exit ?_|refine af.ret ?_);simp[g0,g1,g2,g3,g4,g5,g32,g33,g34])))
    exact⟨rfl,rfl,by constructor<;>simp[bk,ah,g0,g1,g2,g3,g4,g5]⟩
  clear hG;rintro e t i s h
  cases e with
  |ret=>exact⟨.inr rfl,by obtain⟨rfl,h⟩:=h;exact h⟩
  |normal=>
   obtain⟨rfl,rfl,hG⟩:=h;show bp E _ _ _ _ _;generalize hn1:(hints.filter bS).length=n1 at *;refine bp.seq (bp.mono (Q:=xE E a ra b rb hints (n1+(if sj a b then[qd a b]else[]).length)) ?_ ?_)
   .obtain⟨g0,g1,g2,g3,g4,g5⟩:=hG
    refine bp.blocks λC hP hN=>?_;rw[hEN]at hN;have cm:=LQ a b ha hb;refine bE.seq ?_
    cases hmb:sj a b with
    |false=>
     rw[hmb]at cm
     repeat' (first
      |with_reducible refine af.seq ?_
      |(with_reducible ((first|refine af.region hF (hn:=[]) (by kernel_rfl) ?_|refine bh (cm) ?_|refine af.cond' ?_);simp -implicitDefEqProofs (maxSteps:=2000000) [hP,hN,g0,g1,g2,g3,g4,g5]))
      |(with_reducible refine aO (by simp[g0,g1,g2,g3,g4,g5]) (λhgd=>?_) (λhgd=>?_)<;>first|(exfalso;simp at hgd;done)|(exfalso;simp at hgd;omega)|simp -implicitDefEqProofs (maxSteps:=2000000) [hP,hN,g0,g1,g2,g3,g4,g5])
      |with_reducible refine aE ?_ ?_
      |(with_reducible refine av (λhcd=>?_) (λhcd=>?_)<;>(try (exfalso;clear hP hN;simp_all;done))<;>(try (exfalso;simp at *;omega)))
      |with_reducible refine af.block ?_
      |(with_reducible ((first|refine af.skip ?_|refine af.exit ?_|refine af.ret ?_);simp[g0,g1,g2,g3,g4,g5])))
     show bE E C _ _ _ _ _;refine bE.walk ?_
     repeat' (first
      |with_reducible refine af.seq ?_
      |(with_reducible ((first|refine af.region hF (hn:=[]) (by kernel_rfl) ?_|refine af.cond' ?_);simp -implicitDefEqProofs (maxSteps:=2000000) [hP,hN,g0,g1,g2,g3,g4,g5]))
      |(with_reducible refine aO (by simp[g0,g1,g2,g3,g4,g5]) (λhgd=>?_) (λhgd=>?_)<;>first|(exfalso;simp at hgd;done)|(exfalso;simp at hgd;omega)|simp -implicitDefEqProofs (maxSteps:=2000000) [hP,hN,g0,g1,g2,g3,g4,g5])
      |with_reducible refine aE ?_ ?_
      |(with_reducible refine av (λhcd=>?_) (λhcd=>?_)<;>(try (exfalso;clear hP hN;simp_all;done))<;>(try (exfalso;simp at *;omega)))
      |with_reducible refine af.block ?_
      |(with_reducible ((first|refine af.skip ?_|refine af.exit ?_|refine af.ret ?_);simp[g0,g1,g2,g3,g4,g5])))
     exact⟨rfl,by simp,by constructor<;>simp[bk,ah,g0,g1,g2,g3,g4,g5]⟩
    |true=>
     rw[hmb]at cm
     have hi:E.xs[n1]?=some (aR (qd a b)):=by rw[hxs,hmb,<-hn1];simp
     generalize qd a b=v at *
     repeat' (first
      |with_reducible refine af.seq ?_
      |(with_reducible ((first|refine af.region hF (hn:=[]) (by kernel_rfl) ?_|refine bh (cm) ?_|refine af.cond' ?_);simp -implicitDefEqProofs (maxSteps:=2000000) [hP,hN,g0,g1,g2,g3,g4,g5]))
      |(with_reducible refine aO (by simp[g0,g1,g2,g3,g4,g5]) (λhgd=>?_) (λhgd=>?_)<;>first|(exfalso;simp at hgd;done)|(exfalso;simp at hgd;omega)|simp -implicitDefEqProofs (maxSteps:=2000000) [hP,hN,g0,g1,g2,g3,g4,g5])
      |with_reducible refine aE ?_ ?_
      |(with_reducible refine av (λhcd=>?_) (λhcd=>?_)<;>(try (exfalso;clear hP hN;simp_all;done))<;>(try (exfalso;simp at *;omega)))
      |with_reducible refine af.block ?_
      |(with_reducible ((first|refine af.skip ?_|refine af.exit ?_|refine af.ret ?_);simp[g0,g1,g2,g3,g4,g5])))
     show bE E C _ _ _ _ _;refine bE.seqY (bE.yield (hn:=[]) (d:=57) (f:=55) (x:=56) (pre:=[_,_,_,_]) (post:=[_,_]) rfl (by kernel_rfl) rfl rfl rfl rfl (by rw[hEN];decide) ?_);rw[hEN];simp -implicitDefEqProofs (maxSteps:=2000000) [g0,g1,g2,g3,g4,g5,bk];refine⟨by simp[en,bk,ah],hi,?_,?_⟩
     .show bp E _ _ _ _ _
      refine bp.cond (b:=true) (by simp[bk,ah]) (λ_=>bp.ret ?_) (λh=>by cases h);exact⟨rfl,(List.getElem?_eq_some_iff.1 hi).1⟩
     .show bp E _ _ _ _ _
      refine bp.cond (b:=false) (by simp[bk,ah]) (λh=>by cases h) (λ_=>bp.skip ?_);exact⟨rfl,rfl,by constructor<;>simp[bk,ah,g0,g1,g2,g3,g4,g5]⟩
   clear hG;rintro e t i s h
   cases e with
   |ret=>exact⟨.inr rfl,by obtain⟨rfl,h⟩:=h;exact h⟩
   |normal=>
    obtain⟨rfl,rfl,hG⟩:=h;show bp E _ _ _ _ _;generalize hml:(if sj a b then[qd a b]else[])=ml at *;generalize hn2:n1+ml.length=n2 at *;refine bp.seq (bp.mono (Q:=xE E a ra b rb hints (n2+6)) ?_ ?_)
    .obtain⟨g0,g1,g2,g3,g4,g5⟩:=hG
     have cax:=LP;refine bp.seq ?_;refine bp.walk λC hP hN=>?_;rw[hEN]at hN
     repeat' (first
      |with_reducible refine af.seq ?_
      |(with_reducible ((first|refine af.region hF (hn:=[]) (by kernel_rfl) ?_|refine bh (cax) ?_|refine af.cond' ?_);simp -implicitDefEqProofs (maxSteps:=2000000) [hP,hN,g0,g1,g2,g3,g4,g5]))
      |(with_reducible refine aO (by simp[g0,g1,g2,g3,g4,g5]) (λhgd=>?_) (λhgd=>?_)<;>first|(exfalso;simp at hgd;done)|(exfalso;simp at hgd;omega)|simp -implicitDefEqProofs (maxSteps:=2000000) [hP,hN,g0,g1,g2,g3,g4,g5])
      |with_reducible refine aE ?_ ?_
      |(with_reducible refine av (λhcd=>?_) (λhcd=>?_)<;>(try (exfalso;clear hP hN;simp_all;done))<;>(try (exfalso;simp at *;omega)))
      |with_reducible refine af.block ?_
      |(with_reducible ((first|refine af.skip ?_|refine af.exit ?_|refine af.ret ?_);simp[g0,g1,g2,g3,g4,g5])))
     show bp E _ _ _ _ _;refine bp.block ?_;refine bp.loopN 6 (λk t i s=>s=false∧i=n2+k∧CandT E.l a ra b rb hints t∧t 60=.pv (bQ qc)∧t 61=.pv (Z 6)∧t 62=.pv (Z k)) ?_ ?_
     .refine⟨rfl,rfl,?_,?_⟩
      .constructor<;>simp[bk,ah,g0,g1,g2,g3,g4,g5]
      .simp[bk,ah]
     clear g0 g1 g2 g3 g4 g5;rintro k t i s hk ⟨rfl,rfl,⟨g0,g1,g2,g3,g4,g5⟩,g60,g61,g62⟩;refine bp.blocks λC hP hN=>?_;rw[hEN]at hN;by_cases hlt:k<6
     .have hwr:IntKind.i64.wrap ((k:Int)+1)=(k:Int)+1:=ab
      have hltI:(k:Int)<6:=by omega
      have hltL:k<qc.length:=hlt;generalize hxe:qc[k]=v at *
      have hx:qc[k]?=some v:=by rw[List.getElem?_eq_getElem hltL,hxe]
      have hi:E.xs[n2+k]?=some (aR v):=by
       rw[hxs,<-hn2,<-hn1,List.getElem?_map,List.getElem?_append_right (by omega),List.getElem?_append_right (by omega),show(hints.filter bS).length+ml.length+k-(hints.filter bS).length-ml.length=k by omega,List.getElem?_append_left hltL,hx];rfl
      generalize qc=AX at *;refine bE.seq ?_
      repeat' (first
       |with_reducible refine af.seq ?_
       |(with_reducible ((first|refine af.region hF (hn:=[]) (by kernel_rfl) ?_|refine af.cond' ?_);simp -implicitDefEqProofs (maxSteps:=2000000) [hP,hN,g0,g1,g2,g3,g4,g5,g60,g61,g62,hlt,hltI]))
       |(with_reducible refine aO (by simp[g0,g1,g2,g3,g4,g5,g60,g61,g62,hlt,hltI]) (λhgd=>?_) (λhgd=>?_)<;>first|(exfalso;simp at hgd;done)|(exfalso;simp at hgd;omega)|simp -implicitDefEqProofs (maxSteps:=2000000) [hP,hN,g0,g1,g2,g3,g4,g5,g60,g61,g62,hlt,hltI])
       |with_reducible refine aE ?_ ?_
       |(with_reducible refine av (λhcd=>?_) (λhcd=>?_)<;>(try (exfalso;clear hP hN;simp_all;done))<;>(try (exfalso;simp at *;omega)))
       |with_reducible refine af.block ?_
       |(with_reducible ((first|refine af.skip ?_|refine af.exit ?_|refine af.ret ?_);simp[g0,g1,g2,g3,g4,g5,g60,g61,g62,hlt,hltI])))
      show bE E C _ _ _ _ _;refine bE.seq ?_
      repeat' (first
       |with_reducible refine af.seq ?_
       |(with_reducible ((first|refine af.region hF (hn:=[]) (by kernel_rfl) ?_|refine af.cond' ?_);simp -implicitDefEqProofs (maxSteps:=2000000) [hP,hN,g0,g1,g2,g3,g4,g5,g60,g61,g62,hlt,hltI]))
       |(with_reducible refine aO (by simp[g0,g1,g2,g3,g4,g5,g60,g61,g62,hlt,hltI]) (λhgd=>?_) (λhgd=>?_)<;>first|(exfalso;simp at hgd;done)|(exfalso;simp at hgd;omega)|simp -implicitDefEqProofs (maxSteps:=2000000) [hP,hN,g0,g1,g2,g3,g4,g5,g60,g61,g62,hlt,hltI])
       |with_reducible refine aE ?_ ?_
       |(with_reducible refine av (λhcd=>?_) (λhcd=>?_)<;>(try (exfalso;clear hP hN;simp_all;done))<;>(try (exfalso;simp at *;omega)))
       |with_reducible refine af.block ?_
       |(with_reducible ((first|refine af.skip ?_|refine af.exit ?_|refine af.ret ?_);simp[g0,g1,g2,g3,g4,g5,g60,g61,g62,hlt,hltI])))
      refine af.skip ?_;show bE E C _ _ _ _ _;refine bE.seqY (bE.block ?_);refine bE.seq ?_
      repeat' (first
       |with_reducible refine af.seq ?_
       |(with_reducible ((first|refine af.region hF (hn:=[]) (by kernel_rfl) ?_|refine af.cond' ?_);simp -implicitDefEqProofs (maxSteps:=2000000) [hP,hN,g0,g1,g2,g3,g4,g5,g60,g61,g62,hlt,hltI,hltL,hx,hxe]))
       |(with_reducible refine aO (by simp[g0,g1,g2,g3,g4,g5,g60,g61,g62,hlt,hltI,hltL,hx,hxe]) (λhgd=>?_) (λhgd=>?_)<;>first|(exfalso;simp at hgd;done)|(exfalso;simp at hgd;omega)|simp -implicitDefEqProofs (maxSteps:=2000000) [hP,hN,g0,g1,g2,g3,g4,g5,g60,g61,g62,hlt,hltI,hltL,hx,hxe])
       |with_reducible refine aE ?_ ?_
       |(with_reducible refine av (λhcd=>?_) (λhcd=>?_)<;>(try (exfalso;clear hP hN;simp_all;done))<;>(try (exfalso;simp at *;omega)))
       |with_reducible refine af.block ?_
       |(with_reducible ((first|refine af.skip ?_|refine af.exit ?_|refine af.ret ?_);simp[g0,g1,g2,g3,g4,g5,g60,g61,g62,hlt,hltI,hltL,hx,hxe])))
      show bE E C _ _ _ _ _;refine bE.seqY (bE.yield (hn:=[]) (d:=68) (f:=66) (x:=67) (pre:=[_,_]) (post:=[_]) rfl (by kernel_rfl) rfl rfl rfl rfl (by rw[hEN];decide) ?_);rw[hEN];simp -implicitDefEqProofs (maxSteps:=2000000) [g0,g1,g2,g3,g4,g5,g60,g61,g62,hltL,hx,hxe,bk];refine⟨by simp[en,bk,ah],hi,?_,?_⟩
      .show bp E _ _ _ _ _
       refine bp.cond (b:=true) (by simp[bk,ah]) (λ_=>bp.ret ?_) (λh=>by cases h);exact⟨rfl,(List.getElem?_eq_some_iff.1 hi).1⟩
      .show bp E _ _ _ _ _
       refine bp.cond (b:=false) (by simp[bk,ah]) (λh=>by cases h) (λ_=>bp.skip ?_);show bp E _ _ _ _ _;clear hP hN;refine bp.walk λC hP hN=>?_;rw[hEN]at hN
       repeat' (first
        |with_reducible refine af.seq ?_
        |(with_reducible ((first|refine af.region hF (hn:=[]) (by kernel_rfl) ?_|refine af.cond' ?_);simp -implicitDefEqProofs (maxSteps:=2000000) [hP,hN,g0,g1,g2,g3,g4,g5,g60,g61,g62,hwr,bk]))
        |(with_reducible refine aO (by simp[g0,g1,g2,g3,g4,g5,g60,g61,g62,hwr,bk]) (λhgd=>?_) (λhgd=>?_)<;>first|(exfalso;simp at hgd;done)|(exfalso;simp at hgd;omega)|simp -implicitDefEqProofs (maxSteps:=2000000) [hP,hN,g0,g1,g2,g3,g4,g5,g60,g61,g62,hwr,bk])
        |with_reducible refine aE ?_ ?_
        |(with_reducible refine av (λhcd=>?_) (λhcd=>?_)<;>(try (exfalso;clear hP hN;simp_all;done))<;>(try (exfalso;simp at *;omega)))
        |with_reducible refine af.block ?_
        |(with_reducible ((first|refine af.skip ?_|refine af.exit ?_|refine af.ret ?_);simp[g0,g1,g2,g3,g4,g5,g60,g61,g62,hwr,bk])))
       repeat' (refine And.intro ?_ ?_)
       all_goals first|rfl|(simp[bk,ah,g60,g61,hwr];done)|(constructor<;>simp[bk,ah,g0,g1,g2,g3,g4,g5])
     .have hin:k=6:=by omega
      subst hin;refine bE.walk ?_
      repeat' (first
       |with_reducible refine af.seq ?_
       |(with_reducible ((first|refine af.region hF (hn:=[]) (by kernel_rfl) ?_|refine af.cond' ?_);simp -implicitDefEqProofs (maxSteps:=2000000) [hP,hN,g0,g1,g2,g3,g4,g5,g60,g61,g62]))
       |(with_reducible refine aO (by simp[g0,g1,g2,g3,g4,g5,g60,g61,g62]) (λhgd=>?_) (λhgd=>?_)<;>first|(exfalso;simp at hgd;done)|(exfalso;simp at hgd;omega)|simp -implicitDefEqProofs (maxSteps:=2000000) [hP,hN,g0,g1,g2,g3,g4,g5,g60,g61,g62])
       |with_reducible refine aE ?_ ?_
       |(with_reducible refine av (λhcd=>?_) (λhcd=>?_)<;>(try (exfalso;clear hP hN;simp_all;done))<;>(try (exfalso;simp at *;omega)))
       |with_reducible refine af.block ?_
       |(with_reducible ((first|refine af.skip ?_|refine af.exit ?_|refine af.ret ?_);simp[g0,g1,g2,g3,g4,g5,g60,g61,g62])))
      exact⟨rfl,rfl,by constructor<;>simp[bk,ah,g0,g1,g2,g3,g4,g5]⟩
    clear hG;rintro e t i s h
    cases e with
    |ret=>exact⟨.inr rfl,by obtain⟨rfl,h⟩:=h;exact h⟩
    |normal=>
     obtain⟨rfl,rfl,⟨g0,g1,g2,g3,g4,g5⟩⟩:=h;show bp E _ _ _ _ _;refine bp.blocks λC hP hN=>?_;rw[hEN]at hN;have c1:=CI a ha;have c2:=CI b hb;have hla:=(dH hpa).2.1;have hlb:=(dH hpb).2.1;have hca:=jv hpa;have hcb:=jv hpb;simp only[cJ,Bool.and_eq_true,decide_eq_true_eq]at hra hrb;have hw:IntKind.i64.wrap (ra+rb)=ra+rb:=ab;have c3:=Kz (aX a) (aX b) (ra+rb) 64 (by omega) (by omega);have hnn:(m8 (aX a) (aX b) (ra+rb) 64).2.n=xA a ra b rb:=rfl;generalize m8 (aX a) (aX b) (ra+rb) 64=R at *;rw[<-hnn]at hxs;refine bE.draw (hn:=[]) (by kernel_rfl) (by kernel_rfl) ?_;rw[hEN];simp -implicitDefEqProofs (maxSteps:=2000000) [g0,g1,g2,g3,g4,g5];refine rV c1 ?_;simp -implicitDefEqProofs (maxSteps:=2000000) [g0,g1,g2,g3,g4,g5];refine rV c2 ?_;simp -implicitDefEqProofs (maxSteps:=2000000) [g0,g1,g2,g3,g4,g5,hw];refine rV c3 ?_;simp -implicitDefEqProofs (maxSteps:=2000000) [g0,g1,g2,g3,g4,g5,hw];refine⟨by kernel_rfl,?_⟩;have cu:=Bu R.2.n;refine bE.seq ?_
     cases hu:bS R.2.n with
     |false=>
      rw[hu]at cu
      have hL:n2+6=E.xs.length:=by
       rw[hxs,hu,List.length_map,List.length_append,List.length_append,List.length_append,hn1];simp only[Bool.false_eq_true,if_false,List.length_cons,List.length_nil];omega
      repeat' (first
       |with_reducible refine af.seq ?_
       |(with_reducible ((first|refine af.region hF (hn:=[]) (by kernel_rfl) ?_|refine bh (cu) ?_|refine af.cond' ?_);simp -implicitDefEqProofs (maxSteps:=2000000) [hP,hN,g0,g1,g2,g3,g4,g5]))
       |(with_reducible refine aO (by simp[g0,g1,g2,g3,g4,g5]) (λhgd=>?_) (λhgd=>?_)<;>first|(exfalso;simp at hgd;done)|(exfalso;simp at hgd;omega)|simp -implicitDefEqProofs (maxSteps:=2000000) [hP,hN,g0,g1,g2,g3,g4,g5])
       |with_reducible refine aE ?_ ?_
       |(with_reducible refine av (λhcd=>?_) (λhcd=>?_)<;>(try (exfalso;clear hP hN;simp_all;done))<;>(try (exfalso;simp at *;omega)))
       |with_reducible refine af.block ?_
       |(with_reducible ((first|refine af.skip ?_|refine af.exit ?_|refine af.ret ?_);simp[g0,g1,g2,g3,g4,g5])))
      show bE E C _ _ _ _ _;refine bE.walk ?_
      repeat' (first
       |with_reducible refine af.seq ?_
       |(with_reducible ((first|refine af.region hF (hn:=[]) (by kernel_rfl) ?_|refine af.cond' ?_);simp -implicitDefEqProofs (maxSteps:=2000000) [hP,hN,g0,g1,g2,g3,g4,g5]))
       |(with_reducible refine aO (by simp[g0,g1,g2,g3,g4,g5]) (λhgd=>?_) (λhgd=>?_)<;>first|(exfalso;simp at hgd;done)|(exfalso;simp at hgd;omega)|simp -implicitDefEqProofs (maxSteps:=2000000) [hP,hN,g0,g1,g2,g3,g4,g5])
       |with_reducible refine aE ?_ ?_
       |(with_reducible refine av (λhcd=>?_) (λhcd=>?_)<;>(try (exfalso;clear hP hN;simp_all;done))<;>(try (exfalso;simp at *;omega)))
       |with_reducible refine af.block ?_
       |(with_reducible ((first|refine af.skip ?_|refine af.exit ?_|refine af.ret ?_);simp[g0,g1,g2,g3,g4,g5])))
      all_goals exact hL
     |true=>
      rw[hu]at cu
      have hL:n2+6+1=E.xs.length:=by
       rw[hxs,hu,List.length_map,List.length_append,List.length_append,List.length_append,hn1];simp only[if_true,List.length_cons,List.length_nil];omega
      have hi:E.xs[n2+6]?=some (aR R.2.n):=by
       rw[hxs,hu,<-hn2,<-hn1,List.getElem?_map,List.getElem?_append_right (by omega),List.getElem?_append_right (by omega),show(hints.filter bS).length+ml.length+6-(hints.filter bS).length-ml.length=6 by omega,List.getElem?_append_right (by decide)];rfl
      repeat' (first
       |with_reducible refine af.seq ?_
       |(with_reducible ((first|refine af.region hF (hn:=[]) (by kernel_rfl) ?_|refine bh (cu) ?_|refine af.cond' ?_);simp -implicitDefEqProofs (maxSteps:=2000000) [hP,hN,g0,g1,g2,g3,g4,g5]))
       |(with_reducible refine aO (by simp[g0,g1,g2,g3,g4,g5]) (λhgd=>?_) (λhgd=>?_)<;>first|(exfalso;simp at hgd;done)|(exfalso;simp at hgd;omega)|simp -implicitDefEqProofs (maxSteps:=2000000) [hP,hN,g0,g1,g2,g3,g4,g5])
       |with_reducible refine aE ?_ ?_
       |(with_reducible refine av (λhcd=>?_) (λhcd=>?_)<;>(try (exfalso;clear hP hN;simp_all;done))<;>(try (exfalso;simp at *;omega)))
       |with_reducible refine af.block ?_
       |(with_reducible ((first|refine af.skip ?_|refine af.exit ?_|refine af.ret ?_);simp[g0,g1,g2,g3,g4,g5])))
      show bE E C _ _ _ _ _;refine bE.cond (m:=81) (b:=true) (by simp) (λ_=>?_) (λh=>by cases h);refine bE.yield (hn:=[]) (d:=85) (f:=82) (x:=84) (pre:=[_,_,_]) (post:=[]) rfl (by kernel_rfl) rfl rfl rfl rfl (by rw[hEN];decide) ?_;rw[hEN];simp -implicitDefEqProofs (maxSteps:=2000000) [g0,g1,g2,g3,g4,g5,bk];exact⟨rfl,hi,by omega,hL⟩
    |_=>exact h.elim
   |_=>exact h.elim
  |_=>exact h.elim
 |_=>exact h.elim
set_option maxRecDepth 100000 in
theorem DD:uq Tryz.prog 134:=by
 refine⟨by kernel_rfl,λn args w=>?_⟩;refine callsDIn_of_wpSIn Tryz.func134 rfl trivial λc₀ cs hu=>?_;apply wpSIn_seq;apply wpSIn_region
 have hk:∀k,k<Tryz.f134.ntmps->k<args.size+(Tryz.f134.ntmps-args.size):=by intro k h;omega
 rw[Tryz.ntmps134]at hk;have h0:=hk 0 (by decide);have h1:=hk 1 (by decide);have h2:=hk 2 (by decide);have h3:=hk 3 (by decide);simp[wpOpsSIn,go_sem,recoverD,hu,Tryz.ntmps134,Exit.thenS,h0,h1,h2,h3];refine wpSIn_cond (t:=false) (by simp[Act.eval,h0,h1,h2,h3]) ?_;simp only[Bool.false_eq_true,if_false];refine wpSIn_of_wpIn rfl (wpIn_skip ?_);cases c₀
 simp_all[bodyPostS,results,Tryz.results134]
def qe(a:List aH)(ra:Int)(b:List aH)(rb:Int)(hints:List Vc):Vc×Bool:=match(xD a ra b rb hints).find? (λn=>qH n a ra b rb)with
 |some n=>(n,true)
 |none=>((0,0,0),false)
theorem ES{l:List α}(h:∀j x,j<l.length->l[j]?=some x->p x=false):l.find? p=none:=by
 rw[List.find?_eq_none];intro x hx;obtain⟨j,hj,rfl⟩:=List.mem_iff_getElem.1 hx;rw[h j _ hj (List.getElem?_eq_getElem hj)];simp
theorem zq{α:Type}{p:α->Bool}:∀{l:List α}{i:Nat}{v:α},l[i]?=some v->p v=true->(∀j x,j<i->l[j]?=some x->p x=false)->l.find? p=some v
 |[],i,v,h,_,_=>by simp at h
 |y::l,0,v,h,hp,_=>by simp at h;subst h;simp[hp]
 |y::l,i+1,v,h,hp,hq=>by
  have h0:=hq 0 y (by omega) rfl;rw[List.find?_cons,h0];exact zq (by simpa using h) hp λj x hj hx=>hq (j+1) x (by omega) (by simpa using hx)
abbrev DE:List Nat:=[5,6,7,8,10,11]
abbrev J1(a:List aH)(ra:Int)(b:List aH)(rb:Int):Nat->List PV:=λk=>if k=5 then[bR a]else if k=6 then[Z ra]else if k=7 then[bR b]else if k=8 then[Z rb]else if k=10 then[Z 0,Z 0,Z 0]else[B false]
structure FindI(a:List aH)(ra:Int)(b:List aH)(rb:Int)(n:Vc)(k:Bool)(h:Hp):Prop where
 h5:h 5=some (.box [.pv (bR a)] false false)
 h6:h 6=some (.box [.pv (Z ra)] false false)
 h7:h 7=some (.box [.pv (bR b)] false false)
 h8:h 8=some (.box [.pv (Z rb)] false false)
 h10:h 10=some (.box [.pv (Z n.1),.pv (Z n.2.1),.pv (Z n.2.2)] false false)
 h11:h 11=some (.box [.pv (B k)] false false)
theorem FindI.all{ra:Int}{rb:Int}{n:Vc}{k:Bool}{h:Hp}(H:FindI a ra b rb n k h){j:Nat}(hj:j∈DE):∃cs,h j=some (.box cs false false):=by
 simp only[List.mem_cons,List.not_mem_nil,or_false]at hj;rcases hj with rfl|rfl|rfl|rfl|rfl|rfl
 .exact⟨_,H.h5⟩
 .exact⟨_,H.h6⟩
 .exact⟨_,H.h7⟩
 .exact⟨_,H.h8⟩
 .exact⟨_,H.h10⟩
 .exact⟨_,H.h11⟩
def G1(a:List aH)(ra:Int)(b:List aH)(rb:Int)(CL:List Vc)(i:Nat):Prop:=∀j x,j<i->CL[j]?=some x->qH x a ra b rb=false
def J2(a:List aH)(ra:Int)(b:List aH)(rb:Int)(CL:List Vc)(i:Nat)(h:Hp):Prop:=∃n,CL[i]?=some n∧qH n a ra b rb=true∧FindI a ra b rb n true h∧G1 a ra b rb CL i
set_option maxRecDepth 100000 in
theorem Ol(a:List aH)(ra:Int)(b:List aH)(rb:Int)(hints:List Vc)(ha:a.length<=9223372036854775807)(hb:b.length<=9223372036854775807)(hl:hints.length<=9223372036854775807):aa Tryz.prog 89 [.pv (bR a),.pv (Z ra),.pv (bR b),.pv (Z rb),.pv (bQ hints)] [] [] (.pv (.tup [aR (qe a ra b rb hints).1,B (qe a ra b rb hints).2])):=by
 have hfr:qe a ra b rb hints=match(xD a ra b rb hints).find? (λn=>qH n a ra b rb)with
  |some n=>(n,true)
  |none=>((0,0,0),false):=rfl
 have hit:=LS a ra b rb hints ha hb hl;generalize xD a ra b rb hints=CL at *;refine yq (args:=[bR a,Z ra,bR b,Z rb,bQ hints]) Tryz.func89 rfl (by kernel_rfl) (by simp[Tryz.f89]) ?_;intro C hP hN hCS;simp only[Tryz.f89]at hN|-;have hF:=eV;refine kL.seq hCS ?_
 repeat' (first
  |with_reducible refine af.seq ?_
  |(with_reducible ((first|refine af.region hF (hn:=[]) (by kernel_rfl) ?_|refine af.cond' ?_);simp -implicitDefEqProofs (maxSteps:=2000000) [hP,hN]))
  |(with_reducible refine aO (by simp) (λhgd=>?_) (λhgd=>?_)<;>first|(exfalso;simp at hgd;done)|(exfalso;simp at hgd;omega)|simp -implicitDefEqProofs (maxSteps:=2000000) [hP,hN])
  |with_reducible refine aE ?_ ?_
  |(with_reducible refine av (λhcd=>?_) (λhcd=>?_)<;>(try (exfalso;clear hP hN;simp_all;done))<;>(try (exfalso;simp at *;omega)))
  |with_reducible refine af.block ?_
  |(with_reducible ((first|refine af.skip ?_|refine af.exit ?_|refine af.ret ?_);simp)))
 refine kL.defer (pre:=[_]) (hn:=[]) (g:=134) rfl (λo ho c' hc'=>by simp at ho;subst ho;cases hc') rfl rfl rfl rfl rfl (by rw[hP];exact DD) ?_;simp -implicitDefEqProofs [hP,hN];refine kL.rangeS (kd:=[12]) hCS (gf:=174) (caps:=pn a ra b rb hints) (xs:=CL.map aR) (by rw[hP];exact hit) (by rw[hN];decide) (ks:=DE) (hin:=J1 a ra b rb) (t:=λm=>if m∈DE then .ptr m 0 else .undef) ?_ (λi h=>FindI a ra b rb (0,0,0) false h∧h 12=none∧G1 a ra b rb CL i) (λi h=>J2 a ra b rb CL i h) ?_ ?_ ?_ ?_ (by kernel_rfl) (hn:=[]) ?_ ?_
 .skip
  repeat' (first
   |with_reducible refine af.seq ?_
   |(with_reducible ((first|refine af.region hF (hn:=[]) (by kernel_rfl) ?_|refine bh (LR a ra b rb hints) ?_|refine af.cond' ?_);simp -implicitDefEqProofs (maxSteps:=2000000) [hP,hN]))
   |(with_reducible refine aO (by simp) (λhgd=>?_) (λhgd=>?_)<;>first|(exfalso;simp at hgd;done)|(exfalso;simp at hgd;omega)|simp -implicitDefEqProofs (maxSteps:=2000000) [hP,hN])
   |with_reducible refine aE ?_ ?_
   |(with_reducible refine av (λhcd=>?_) (λhcd=>?_)<;>(try (exfalso;clear hP hN;simp_all;done))<;>(try (exfalso;simp at *;omega)))
   |with_reducible refine af.block ?_
   |(with_reducible ((first|refine af.skip ?_|refine af.exit ?_|refine af.ret ?_);simp)))
  refine⟨⟨rfl,rfl,rfl,rfl,rfl,rfl⟩,λm=>?_⟩;by_cases hm:m=5∨m=6∨m=7∨m=8∨m=10∨m=11
  .rcases hm with rfl|rfl|rfl|rfl|rfl|rfl<;>simp
  .simp only[if_neg hm];simp
   omega
 .refine⟨by constructor<;>rfl,rfl,λj x hj=>by omega⟩
 .rintro i h k hk ⟨hi,_⟩
  exact hi.all hk
 .rintro i h k hk ⟨n,_,_,hi,_⟩
  exact hi.all hk
 .intro C1 C2 l i x h hP1 hN1 hP2 hN2 hx ⟨hI,q12,hq⟩
  rw[List.getElem?_map,Option.map_eq_some_iff]at hx;obtain⟨v,hx,rfl⟩:=hx;have hF:=rX l;have hP0:=hP;have hN0:=hN;clear hP hN;have hP:=hP1.trans hP0;have hN:=hN1.trans hN0;have hPb:=hP2.trans hP0;have hNb:=hN2.trans hN0;obtain⟨q5,q6,q7,q8,q10,q11⟩:=hI;have cs:=MU v a ra b rb ha hb
  cases hsp:qH v a ra b rb with
  |true=>
   rw[hsp]at cs
   repeat' (first
    |with_reducible refine af.seq ?_
    |(with_reducible ((first|refine af.region hF (hn:=[]) (by kernel_rfl) ?_|refine bh (cs) ?_|refine af.cond' ?_);simp -implicitDefEqProofs (maxSteps:=2000000) [hP,hN,hPb,hNb,kS,q5,q6,q7,q8,q10,q11,q12]))
    |(with_reducible refine aO (by simp[hPb,hNb,kS,q5,q6,q7,q8,q10,q11,q12]) (λhgd=>?_) (λhgd=>?_)<;>first|(exfalso;simp at hgd;done)|(exfalso;simp at hgd;omega)|simp -implicitDefEqProofs (maxSteps:=2000000) [hP,hN,hPb,hNb,kS,q5,q6,q7,q8,q10,q11,q12])
    |with_reducible refine aE ?_ ?_
    |(with_reducible refine av (λhcd=>?_) (λhcd=>?_)<;>(try (exfalso;clear hP hN;simp_all;done))<;>(try (exfalso;simp at *;omega)))
    |with_reducible refine af.block ?_
    |(with_reducible ((first|refine af.skip ?_|refine af.exit ?_|refine af.ret ?_);simp[hPb,hNb,kS,q5,q6,q7,q8,q10,q11,q12])))
   exact⟨v,hx,hsp,by constructor<;>simp[q5,q6,q7,q8,q10,q11],hq⟩
  |false=>
   rw[hsp]at cs
   repeat' (first
    |with_reducible refine af.seq ?_
    |(with_reducible ((first|refine af.region hF (hn:=[]) (by kernel_rfl) ?_|refine bh (cs) ?_|refine af.cond' ?_);simp -implicitDefEqProofs (maxSteps:=2000000) [hP,hN,hPb,hNb,kS,q5,q6,q7,q8,q10,q11,q12]))
    |(with_reducible refine aO (by simp[hPb,hNb,kS,q5,q6,q7,q8,q10,q11,q12]) (λhgd=>?_) (λhgd=>?_)<;>first|(exfalso;simp at hgd;done)|(exfalso;simp at hgd;omega)|simp -implicitDefEqProofs (maxSteps:=2000000) [hP,hN,hPb,hNb,kS,q5,q6,q7,q8,q10,q11,q12])
    |with_reducible refine aE ?_ ?_
    |(with_reducible refine av (λhcd=>?_) (λhcd=>?_)<;>(try (exfalso;clear hP hN;simp_all;done))<;>(try (exfalso;simp at *;omega)))
    |with_reducible refine af.block ?_
    |(with_reducible ((first|refine af.skip ?_|refine af.exit ?_|refine af.ret ?_);simp[hPb,hNb,kS,q5,q6,q7,q8,q10,q11,q12])))
   refine⟨by constructor<;>simp[St.kill,bm,aq,q5,q6,q7,q8,q10,q11],by simp[St.kill],λj x hj hx'=>?_⟩;by_cases e:j=i
   .subst e;rw[hx]at hx';injection hx' with hx';subst hx';exact hsp
   .exact hq j x (by omega) hx'
 .rintro h ⟨⟨q5,q6,q7,q8,q10,q11⟩,q12,hq⟩
  rw[List.length_map]at hq;have hn:CL.find? (λn=>qH n a ra b rb)=none:=ES hq;rw[hn]at hfr;rw[hfr];simp -implicitDefEqProofs [hP,hN,q5,q6,q7,q8,q10,q11]
 .rintro i h hi ⟨n,hn1,hn2,⟨q5,q6,q7,q8,q10,q11⟩,hq⟩
  rw[zq hn1 hn2 hq]at hfr;rw[hfr];simp -implicitDefEqProofs [hP,hN,q5,q6,q7,q8,q10,q11]
abbrev DF(SH:List Sh)(PR:List (Nat×Nat))(PT:List (List aH)):PV:=.agg [.sl (SH.map eL),.sl (PR.map xH),.sl (PT.map bR)]
abbrev J3(a b:List aH)(ra rb:Int):PV:=.agg [bR a,bR b,Z ra,Z rb]
def gi(PT:List (List aH))(i:Nat):List aH:=(PT[i]?).getD []
def fF(SH:List Sh)(i:Nat):Int:=((SH[i]?).map Sh.rad).getD 0
structure BdOk(SH:List Sh)(PR:List (Nat×Nat))(PT:List (List aH)):Prop where
 len:PT.length=SH.length
 prs:∀p∈PR,p.1<SH.length∧p.2<SH.length
 GO:SH.length<=24
 few:PR.length<=576
 pts:∀l∈PT,l.length<=8
theorem Om(SH:List Sh)(PR:List (Nat×Nat))(PT:List (List aH))(hb:BdOk SH PR PT)(k:Nat)(p:Nat×Nat)(hp:PR[k]?=some p):aa Tryz.prog 88 [.pv (DF SH PR PT),.pv (Z k)] [] [] (.pv (J3 (gi PT p.1) (gi PT p.2) (fF SH p.1) (fF SH p.2))):=by
 obtain⟨hlt,hpe⟩:=List.getElem?_eq_some_iff.1 hp;obtain⟨i,j⟩:=p;have hpr:=hb.prs _ (List.mem_of_getElem? hp);simp only at hpr;have hl:=hb.len;have hxk:∀h,PR[k]'h=(i,j):=λ_=>hpe
 have i1:i<PT.length:=by omega
 have j1:j<PT.length:=by omega
 obtain⟨a,ha⟩:∃x,PT[i]?=some x:=⟨_,List.getElem?_eq_getElem i1⟩;obtain⟨b,hb'⟩:∃x,PT[j]?=some x:=⟨_,List.getElem?_eq_getElem j1⟩;obtain⟨u,hu⟩:∃x,SH[i]?=some x:=⟨_,List.getElem?_eq_getElem hpr.1⟩;obtain⟨v,hv⟩:∃x,SH[j]?=some x:=⟨_,List.getElem?_eq_getElem hpr.2⟩
 have hxa:∀h,PT[i]'h=a:=λh=>by rw[List.getElem?_eq_getElem h]at ha;exact Option.some.inj ha
 have hxb:∀h,PT[j]'h=b:=λh=>by rw[List.getElem?_eq_getElem h]at hb';exact Option.some.inj hb'
 have hxu:∀h,SH[i]'h=u:=λh=>by rw[List.getElem?_eq_getElem h]at hu;exact Option.some.inj hu
 have hxv:∀h,SH[j]'h=v:=λh=>by rw[List.getElem?_eq_getElem h]at hv;exact Option.some.inj hv
 have e1:gi PT i=a:=by simp[gi,ha]
 have e2:gi PT j=b:=by simp[gi,hb']
 have e3:fF SH i=u.rad:=by simp[fF,hu]
 have e4:fF SH j=v.rad:=by simp[fF,hv]
 rw[e1,e2,e3,e4];obtain⟨h1,h2⟩:=hpr;refine Dp Tryz.func88 ?_;intro C hP hN;simp only[Tryz.f88]at hN|-;exact Gy
def ku(s:Sce)(bx:List Iv):Bool:=decide (eu s=0)&&pF s.js bx
theorem DG{p:Nat×Nat}(h:p∈gq s):p.1<p.2∧p.2<s.shs.length∧j5 s p.1 p.2=true:=by
 have hI:∀i k,k<=s.shs.length->p∈nV s i k->p.1<p.2∧p.2<s.shs.length∧j5 s p.1 p.2=true:=by
  intro i k
  induction k with
  |zero=>intro _ h;cases h
  |succ k ih=>
   intro hk h;rw[nV,List.mem_append]at h;rcases h with h|h
   .exact ih (by omega) h
   .split at h
    .rename_i hc
     rw[List.mem_singleton]at h;subst h;exact⟨hc.1,by omega,hc.2⟩
    .cases h
 have hN:∀i,p∈mz s i->p.1<p.2∧p.2<s.shs.length∧j5 s p.1 p.2=true:=by
  intro i
  induction i with
  |zero=>intro h;cases h
  |succ i ih=>
   intro h;rw[mz,List.mem_append]at h;rcases h with h|h
   .exact ih h
   .exact hI i _ (Nat.le_refl _) h
 unfold gq at h;split at h
 .exact hN _ h
 .cases h
theorem LT(h:ku s bx=true):BdOk s.shs (gq s) (kw s bx):=by
 simp only[ku,Bool.and_eq_true,decide_eq_true_eq]at h;obtain⟨v1,v2,v3,v4,v5,v6,v7⟩:=qg h.1;have hl:=yF s s.shs.length;have hm:s.shs.length*s.shs.length<=24*24:=Nat.mul_le_mul v4 v4;refine⟨by simp[kw],λp hp=>?_,v4,?_,λl hl=>?_⟩
 .have:=DG hp;omega
 .unfold gq;rw[if_pos h.1];omega
 .obtain⟨x,hx,rfl⟩:=List.mem_map.1 hl
  have:=(v6 x hx).2;simp only[jh,Bool.and_eq_true,decide_eq_true_eq]at this;simp only[kO,List.length_map];omega
def G2(bx:List Iv)(i:Nat):Prop:=∀k x,k<i->bx[k]?=some x->vI x=true
theorem On(s:Sce)(bx:List Iv)(hs:ScL s)(hbl:bx.length<=9223372036854775807):aa Tryz.prog 87 [.pv (jG s),.pv (iv bx)] [] [] (.pv (.tup (if ku s bx then[DF s.shs (gq s) (kw s bx),B true]else[DF [] [] [],B false]))):=by
 have hd:ku s bx=(decide (eu s=0)&&(decide (bx.length=s.js.length)&&bx.all vI)):=rfl;have cc:=EV s hs;have hjl:=hs.js;by_cases h0:eu s=0
 case neg=>
  have h0':(eu s !=0)=true:=by simp[h0]
  rw[decide_eq_false h0,Bool.false_and]at hd;rw[hd];refine Dp Tryz.func87 ?_;intro C hP hN;simp only[Tryz.f87]at hN|-;exact Gy
 have h0':(eu s !=0)=false:=by simp[h0]
 by_cases h1:bx.length=s.js.length
 case neg=>
  have h1':((bx.length:Int)!=(s.js.length:Int))=true:=by simp;omega
  have h1'':¬(bx.length:Int)=(s.js.length:Int):=by omega
  rw[decide_eq_false h1,Bool.false_and,Bool.and_false]at hd;rw[hd];refine Dp Tryz.func87 ?_;intro C hP hN;simp only[Tryz.f87]at hN|-;exact Gy
 have h1':((bx.length:Int)!=(s.js.length:Int))=false:=by simp[h1]
 have hI:pF s.js bx=bx.all vI:=by
  show(decide (bx.length=s.js.length)&&bx.all vI)=_;rw[decide_eq_true h1,Bool.true_and]
 rw[decide_eq_true h0,decide_eq_true h1,Bool.true_and,Bool.true_and]at hd;rw[hd];have cP:=MD s bx hs h0;rw[hI]at cP;have cR:=My s hs;generalize kw s bx=PT at *;generalize gq s=PR at *;refine Dp Tryz.func87 ?_;intro C hP hN;simp only[Tryz.f87]at hN|-;refine Gz ?_;refine WP.loopN [7] bx.length (λi st=>st.t 1=.pv (iv bx)∧st.t 2=.ptr 2 0∧st.h 2=some (.box [.pv (.sl (s.js.map cW)),.pv (.sl (s.ms.map fc)),.pv (.sl (s.shs.map eL)),.pv (.sl (s.sks.map aU))] true false)∧st.t 4=.ptr 4 0∧st.h 4=some (.box [.pv (.val (.slice none 0 0)),.pv (.val (.slice none 0 0)),.pv (.val (.slice none 0 0))] true false)∧st.t 21=.pv (iv bx)∧st.t 22=.pv (Z bx.length)∧st.t 23=.pv (Z i)∧st.h 7=none∧G2 bx i) ?_ ?_
 .simp[h1]
  exact λk x hk=>by omega
 rintro i st hi ⟨g1,g2,hb2,g4,hb4,g21,g22,g23,hb7,hq⟩;by_cases hlt:i<bx.length
 .have hwr:=au hlt hbl
  generalize hxe:bx[i]=v at *
  have hx:bx[i]?=some v:=by rw[List.getElem?_eq_getElem hlt,hxe]
  have cv:=iD v.1 v.2;have hvI:vI v=aC v.1 v.2:=rfl;have hst:=tO (p:=vI) hx hq
  cases hvb:aC v.1 v.2 with
  |true=>
   rw[hvb]at cv;have hst':G2 bx (i+1):=hst hvb;refine GT (gA g1 (gA g2 (gA hb2 (gA g4 (gA hb4 (gA g21 (gA g22 (gA g23 (gA hb7 (gA hlt (gA hx (gA hxe hwr)))))))))))) ?_
   all_goals exact hst'
  |false=>
   rw[hvb]at cv
   have hall:bx.all vI=false:=by
    cases h:bx.all vI with
    |false=>rfl
    |true=>rw[List.all_eq_true]at h;have:=h v (List.mem_of_getElem? hx);rw[hvI,hvb]at this;cases this
   rw[hall];exact Gy
 .have hin:i=bx.length:=by omega
  subst hin;have hall:bx.all vI=true:=vT hq hlt;have cP:=cP hall;rw[hall];exact Gy
def F1(SH:List Sh)(PT:List (List aH))(x y:List Int)(p:Nat×Nat):Bool:=tD x y (gi PT p.1) (fF SH p.1) (gi PT p.2) (fF SH p.2)&&decide (0<=rg x y (gi PT p.1) (fF SH p.1) (gi PT p.2) (fF SH p.2))
structure Wit where
 pair:Int
 a:List Int
 b:List Int
abbrev J4(w:Wit):PV:=.agg [Z w.pair,zs w.a,zs w.b]
set_option maxRecDepth 100000 in
@[simp] theorem Nt:dp Tryz.prog 86:=by
 have hf:=Tryz.func86;have nt:=Tryz.ntmps86;have rs:=Tryz.results86;exact GL
@[simp] theorem Pi:qQ Tryz.prog 158=true:=by kernel_rfl
@[simp] theorem Pj:qQ Tryz.prog 156=true:=by kernel_rfl
structure Vd where
 kind:Int
 ns:List Vc
 w:Wit
abbrev zW(v:Vd):PV:=.agg [Z v.kind,bQ v.ns,Z v.w.pair,zs v.w.a,zs v.w.b]
abbrev J5(ns:List Vc):PV:=.ifc 158 (.agg [bQ ns])
abbrev J6(w:Wit):PV:=.ifc 156 (J4 w)
theorem vS(ns:List Vc):aa Tryz.prog 93 [.pv (J5 ns)] [] [] (.pv (zW ⟨1,ns,⟨0,[],[]⟩⟩)):=by
 refine Dp Tryz.func93 ?_;intro C hP hN;simp only[Tryz.f93]at hN|-;exact Gy
theorem vC(w:Wit):aa Tryz.prog 93 [.pv (J6 w)] [] [] (.pv (zW ⟨2,[],w⟩)):=by
 refine Dp Tryz.func93 ?_;intro C hP hN;simp only[Tryz.f93]at hN|-;exact Gy
def dN(v:Vd):Verd:=⟨v.kind,v.ns,v.w.pair,v.w.a,v.w.b⟩
def ri(hints:List Vc)(k:Nat):List Vc:=(hints.drop k).take 1
def zt(SH:List Sh)(PT:List (List aH))(hints:List Vc)(k:Nat)(p:Nat×Nat):Vc×Bool:=qe (gi PT p.1) (fF SH p.1) (gi PT p.2) (fF SH p.2) (ri hints k)
def yz(SH:List Sh)(PT:List (List aH))(p:Nat×Nat):Int×NSt:=m8 (aX (gi PT p.1)) (aX (gi PT p.2)) (fF SH p.1+fF SH p.2) 64
def jw(SH:List Sh)(PR:List (Nat×Nat))(PT:List (List aH))(hints:List Vc):List Vc:=PR.mapIdx λk p=>(zt SH PT hints k p).1
def tG(SH:List Sh)(PR:List (Nat×Nat))(PT:List (List aH))(hints:List Vc):Nat->Nat->Bool->Vd
 |0,_,ap=>if ap then⟨1,jw SH PR PT hints,⟨0,[],[]⟩⟩else⟨0,jw SH PR PT hints,⟨0,[],[]⟩⟩
 |f+1,k,ap=>match PR[k]? with
  |some p=>if(zt SH PT hints k p).2=true then tG SH PR PT hints f (k+1) ap
   else if F1 SH PT (yz SH PT p).2.w (yz SH PT p).2.v p=true then⟨2,[],⟨k,(yz SH PT p).2.w,(yz SH PT p).2.v⟩⟩
   else tG SH PR PT hints f (k+1) false
  |none=>if ap then⟨1,jw SH PR PT hints,⟨0,[],[]⟩⟩else⟨0,jw SH PR PT hints,⟨0,[],[]⟩⟩
def eS(s:Sce)(bx:List Iv)(hints:List Vc):Vd:=if ku s bx then tG s.shs (gq s) (kw s bx) hints (gq s).length 0 true else⟨0,[],⟨0,[],[]⟩⟩
theorem HI(h:ku s bx=true)(i:Nat):0<=fF s.shs i∧fF s.shs i<=1048576:=by
 simp only[ku,Bool.and_eq_true,decide_eq_true_eq]at h;obtain⟨_,_,_,_,_,v6,_⟩:=qg h.1;unfold fF
 cases hx:s.shs[i]? with
 |none=>simp
 |some u=>
  have:=(v6 u (List.mem_of_getElem? hx)).2;simp only[jh,Bool.and_eq_true,decide_eq_true_eq]at this;simp only[Option.map_some,Option.getD_some];omega
theorem tH(h:l.length<=8):(aX l).length<=8:=by unfold aX;split<;>simp<;>omega
theorem Bj{SH:List Sh}{PR:List (Nat×Nat)}{PT:List (List aH)}(hb:BdOk SH PR PT)(i:Nat):(gi PT i).length<=8:=by
 unfold gi
 cases h:PT[i]? with
 |none=>simp
 |some l=>exact hb.pts l (List.mem_of_getElem? h)
theorem HJ{ra:Int}{rb:Int}{h:List Vc}(hf:(qe a ra b rb h).2=false):(qe a ra b rb h).1=(0,0,0):=by
 unfold qe at hf|-;split
 .rename_i n e;rw[e]at hf;cases hf
 .rfl
theorem ET(a b:List Vc)(rho st:Int):(m8 a b rho st).2.w.length<=8∧(m8 a b rho st).2.v.length<=8:=by
 unfold m8;split
 .rename_i h
  simp only[zU,Bool.and_eq_true]at h;have ia:=j0.1 h.1.1.1;have ib:=j0.1 h.1.1.2;have:=sh (rho:=rho) (steps:=st.toNat) h.1.1.1 h.1.1.2 (st.toNat+1) (uZ a b) (ER ia.1 ib.1);rw[this.wl,this.vl];exact⟨ia.2.1,ib.2.1⟩
 .simp
theorem HK(l:List Vc):(l.map aR).all (lI 3)=true:=by
 rw[List.all_eq_true];intro x hx;obtain⟨v,_,rfl⟩:=List.mem_map.1 hx;rfl
theorem Bk(hints:List Vc)(i:Nat)(z:Option Value)(e n:Nat)(y:Option Value):lj {size:=n,zero:=z,kind:=TK.slice e 3 24 y} (.pv (bQ hints)) (some (.pv (.val (.int .i64 (if hints.length<i then(hints.length:Int)else(i:Int)))))) (some (.pv (.val (.int .i64 (min ((i:Int)+1) (hints.length:Int))))))=some (.pv (bQ (ri hints i))):=by
 have h1:0<=(if hints.length<i then(hints.length:Int)else(i:Int)):=by split<;>omega
 have h2:0<=min ((i:Int)+1) (hints.length:Int):=by omega
 have h3:(if hints.length<i then(hints.length:Int)else(i:Int)).toNat=min i hints.length:=by split<;>omega
 have h4:(min ((i:Int)+1) (hints.length:Int)).toNat=min (i+1) hints.length:=by omega
 simp only[lj,if_pos h1,if_pos h2,h3,h4,List.length_map];rw[if_pos ⟨by omega,by omega,by decide,HK hints⟩]
 congr 3
 rw[<-List.map_take,<-List.map_drop]
 congr 1
 unfold ri;by_cases h:i<hints.length
 .rw[show min i hints.length=i by omega,show min (i+1) hints.length=i+1 by omega,List.drop_take,show i+1-i=1 by omega]
 .rw[show min i hints.length=hints.length by omega,show min (i+1) hints.length=hints.length by omega,List.take_length,List.drop_length,List.drop_eq_nil_of_le (by omega)];rfl
theorem KA(s:Sce)(bx:List Iv)(hints:List Vc)(hs:ScL s)(hbl:bx.length<=9223372036854775807)(hh:hints.length<=9223372036854775807):aa Tryz.prog 38 [.pv (jG s),.pv (iv bx),.pv (bQ hints)] [] [] (.pv (zW (eS s bx hints))):=by
 have cp:=On s bx hs hbl
 have hd:eS s bx hints=if ku s bx then tG s.shs (gq s) (kw s bx) hints (gq s).length 0 true else⟨0,[],⟨0,[],[]⟩⟩:=rfl
 cases hp:ku s bx with
 |false=>
  rw[hp]at cp hd;simp only[Bool.false_eq_true,if_false]at hd;rw[hd];refine Dp Tryz.func38 ?_;intro C hP hN;simp only[Tryz.f38]at hN|-;exact Gy
 |true=>
 rw[hp]at cp hd;simp only[if_true]at hd;have hb:=LT hp;have hrd:=HI hp;rw[hd];generalize gq s=PR at *;generalize kw s bx=PT at *;generalize s.shs=SH at *;have hfew:=hb.few;generalize hgo:tG SH PR PT hints PR.length 0 true=RES at *;generalize hLM:(jw SH PR PT hints).map aR=LM
 have hML:LM.length=PR.length:=by rw[<-hLM];simp[jw]
 have hMk:∀k p,PR[k]?=some p->LM[k]?=some (aR (zt SH PT hints k p).1):=λk q hk=>by rw[<-hLM,jw,List.getElem?_map,List.getElem?_mapIdx,hk];rfl
 refine Dp Tryz.func38 ?_;intro C hP hN;simp only[Tryz.f38]at hN|-;refine GT (gA (show(24:Int)*(PR.length:Int)<=281474976710656 by omega) (show(PR.length:Int)<=9223372036854775807 by omega)) ?_;refine WP.loopN [12,14,16] PR.length (λi st=>∃R:List PV,∃ap:Bool,tG SH PR PT hints (PR.length-i) i ap=RES∧st.t 2=.pv (bQ hints)∧st.t 6=.ptr 6 0∧st.h 6=some (.box [.pv (Z 0),.pv (.val (.slice none 0 0)),.pv (Z 0),.pv (.val (.slice none 0 0)),.pv (.val (.slice none 0 0))] true false)∧st.t 7=.ptr 7 0∧st.h 7=some (.box [.pv (.sl (SH.map eL)),.pv (.sl (PR.map xH)),.pv (.sl (PT.map bR))] true false)∧st.t 9=.arr 30 PR.length∧st.t 10=.pv (B ap)∧st.t 33=.pv (Z PR.length)∧st.t 34=.pv (Z i)∧st.h 12=none∧st.h 14=none∧st.h 16=none∧st.h 30=some (.row 50 3 R 0)∧R.length=PR.length∧(∀k,i<=k->k<PR.length->R[k]?=some (mJ 0 0 0))∧∀k,k<i->R[k]?=LM[k]?) ?_ ?_
 .refine⟨List.replicate PR.length (mJ 0 0 0),true,hgo,?_⟩
  simp
  try (intro k hk;first|exact hk|simp[List.getElem?_replicate,hk])
 rintro i st hi ⟨R,ap,hgo,g2,g6,hb6,g7,hb7,g9,g10,g33,g34,hb12,hb14,hb16,hb30,hRl,hRz,hR⟩;by_cases hlt:i<PR.length
 .have hwr:=au hlt (by omega)
  obtain⟨p,hp⟩:∃p,PR[i]?=some p:=⟨_,List.getElem?_eq_getElem hlt⟩;have hRi:=hRz i (Nat.le_refl _) hlt;have hgi:=pG hRi
  have hiR:i<R.length:=by omega
  have cc:=Om SH PR PT hb i p hp;have r1:=hrd p.1;have r2:=hrd p.2;have l1:=Bj hb p.1;have l2:=Bj hb p.2;have cf:=Ol (gi PT p.1) (fF SH p.1) (gi PT p.2) (fF SH p.2) (ri hints i) (by omega) (by omega) (by simp[ri];omega);have hfd:zt SH PT hints i p=qe (gi PT p.1) (fF SH p.1) (gi PT p.2) (fF SH p.2) (ri hints i):=rfl;rw[<-hfd]at cf;rw[show PR.length-i=(PR.length-i-1)+1 by omega]at hgo;simp only[tG,hp]at hgo;have hMi:=hMk i p hp
  have k2:∀k,k<i+1->(R.set i (aR (zt SH PT hints i p).1))[k]?=LM[k]?:=λk h1=>by
   rw[List.getElem?_set];by_cases e:i=k
   .subst e;rw[if_pos rfl,if_pos hiR,hMi]
   .rw[if_neg e];exact hR k (by omega)
  have k1:∀y k,i+1<=k->k<PR.length->(R.set i y)[k]?=some (mJ 0 0 0):=λy k h1 h2=>by
   rw[List.getElem?_set,if_neg (by omega)];exact hRz k (by omega) h2
  have k2':(zt SH PT hints i p).2=false->∀k,k<i+1->R[k]?=LM[k]?:=λhf k h1=>by
   by_cases e:k=i
   .subst e;rw[hRi,hMi]
    have:(zt SH PT hints k p).1=(0,0,0):=HJ hf;rw[this]
   .exact hR k (by omega)
  have k1':∀k,i+1<=k->k<PR.length->R[k]?=some (mJ 0 0 0):=λk h1 h2=>hRz k (by omega) h2;generalize zt SH PT hints i p=F at *;clear hMk hLM hML
  cases hF2:F.2 with
  |true=>
   rw[hF2]at cf hgo;simp only[if_true]at hgo;refine GT (gA g2 (gA g6 (gA hb6 (gA g7 (gA hb7 (gA g9 (gA g10 (gA g33 (gA g34 (gA hb12 (gA hb14 (gA hb16 (gA hb30 (gA hRl (gA hlt (gA hwr (gA hRi (gA hgi @Bk)))))))))))))))))) ?_;rw[show PR.length-i-1=PR.length-(i+1) by omega]at hgo;refine⟨R.set i (aR F.1),?_⟩;cases ap
   .exact .inl ⟨hgo,rfl,rfl,by simp[hRl],k1 _,k2⟩
   .exact .inr ⟨hgo,rfl,rfl,by simp[hRl],k1 _,k2⟩
  |false=>
   rw[hF2]at cf hgo;simp only[Bool.false_eq_true,if_false]at hgo;have k2':=k2' hF2;have c1:=CI (gi PT p.1) (by omega);have c2:=CI (gi PT p.2) (by omega);have z1:=tH l1;have z2:=tH l2;have c3:=Kz (aX (gi PT p.1)) (aX (gi PT p.2)) (fF SH p.1+fF SH p.2) 64 (by omega) (by omega);have hNd:yz SH PT p=m8 (aX (gi PT p.1)) (aX (gi PT p.2)) (fF SH p.1+fF SH p.2) 64:=rfl;have hln:=ET (aX (gi PT p.1)) (aX (gi PT p.2)) (fF SH p.1+fF SH p.2) 64;rw[<-hNd]at c3 hln;have hw:IntKind.i64.wrap (fF SH p.1+fF SH p.2)=fF SH p.1+fF SH p.2:=ab;generalize yz SH PT p=NN at *;have co:=Ok NN.2.w NN.2.v (gi PT p.1) (fF SH p.1) (gi PT p.2) (fF SH p.2) (by omega) (by omega) (by omega) (by omega);have hod:F1 SH PT NN.2.w NN.2.v p=(tD NN.2.w NN.2.v (gi PT p.1) (fF SH p.1) (gi PT p.2) (fF SH p.2)&&decide (0<=rg NN.2.w NN.2.v (gi PT p.1) (fF SH p.1) (gi PT p.2) (fF SH p.2))):=rfl;rw[<-hod]at co
   cases hov:F1 SH PT NN.2.w NN.2.v p with
   |true=>
    rw[hov]at co hgo;simp only[if_true]at hgo;subst hgo;have cv:=vC ⟨i,NN.2.w,NN.2.v⟩;exact GS (gA g2 (gA g6 (gA hb6 (gA g7 (gA hb7 (gA g9 (gA g10 (gA g33 (gA g34 (gA hb12 (gA hb14 (gA hb16 (gA hb30 (gA hRl (gA hlt (gA hwr (gA hRi (gA hgi (gA @Bk hw)))))))))))))))))))
   |false=>
    rw[hov]at co hgo;simp only[Bool.false_eq_true,if_false]at hgo;rw[show PR.length-i-1=PR.length-(i+1) by omega]at hgo;refine GT (gA g2 (gA g6 (gA hb6 (gA g7 (gA hb7 (gA g9 (gA g10 (gA g33 (gA g34 (gA hb12 (gA hb14 (gA hb16 (gA hb30 (gA hRl (gA hlt (gA hwr (gA hRi (gA hgi (gA @Bk hw))))))))))))))))))) ?_;exact⟨hgo,k1',k2'⟩
 .have hin:i=PR.length:=by omega
  subst hin
  have hRC:R=LM:=by
   apply List.ext_getElem?;intro k;by_cases hk:k<PR.length
   .exact hR k hk
   .rw[List.getElem?_eq_none (by omega),List.getElem?_eq_none (by omega)]
  subst hRC;rw[Nat.sub_self]at hgo;simp only[tG]at hgo;have cv:=vS (jw SH PR PT hints)
  have hBL:(jw SH PR PT hints).length=PR.length:=by simp[jw]
  cases ap with
  |true=>
   simp only[if_true]at hgo;subst hgo;rw[<-hLM]at hb30;exact GS (gA g2 (gA g6 (gA hb6 (gA g7 (gA hb7 (gA g9 (gA g10 (gA g33 (gA g34 (gA hb12 (gA hb14 (gA hb16 (gA hb30 (gA hML hBL))))))))))))))
  |false=>
   simp only[Bool.false_eq_true,if_false]at hgo;subst hgo;rw[<-hLM]at hb30;exact Gy
theorem Ba(js:List J)(b:Bx):∀i,(fX js b i).1=-1∨∃j:Nat,(fX js b i).1=(j:Int)∧j<i∧∃x,b[j]?=some x∧2<=cV x
 |0=>.inl rfl
 |i+1=>by
  have ih:=Ba js b i;have up:(∃j:Nat,(fX js b i).1=(j:Int)∧j<i∧∃x,b[j]?=some x∧2<=cV x)->∃j:Nat,(fX js b i).1=(j:Int)∧j<i+1∧∃x,b[j]?=some x∧2<=cV x:=λ⟨j,h1,h2,h3⟩=>⟨j,h1,by omega,h3⟩;simp only[fX];split
  .rename_i jj x h1 h2
   split
   .rename_i h;exact .inr ⟨i,rfl,by omega,x,h2,h.1⟩
   .exact ih.imp id up
  .exact ih.imp id up
theorem EO{x:Int×Int}(h:aC x.1 x.2=true):cV x=x.2-x.1:=by
 have:=ej.1 h;rw[cV,h];simp only[if_true];exact ab (by omega) (by omega)
theorem Bb(js:List J)(ms:List Ms)(b:Bx):iS js ms b=-1∨∃j:Nat,iS js ms b=(j:Int)∧j<b.length∧b.length=js.length∧bi vI b=true∧∃x,b[j]?=some x∧2<=x.2-x.1:=by
 unfold iS;split
 .rename_i h
  simp only[pX,Bool.and_eq_true,decide_eq_true_eq]at h;rcases Ba js b js.length with e|⟨j,h1,h2,x,h3,h4⟩
  .exact .inl e
  .have hv:aC x.1 x.2=true:=ey.1 h.1.2 _ (List.mem_of_getElem? h3)
   rw[EO hv]at h4;exact .inr ⟨j,h1,by omega,h.1.1,h.1.2,x,h3,h4⟩
 .exact .inl rfl
def kY(js:List J)(ms:List Ms)(w:Int)(b:Bx):Bool:=decide (0<=iS js ms b)&&match b[(iS js ms b).toNat]? with
 |some x=>decide (w<x.2-x.1)
 |none=>false
def gh(js:List J)(ms:List Ms)(w:Int)(t:Tr):List Bool:=(ao t).map (kY js ms w)
def p9(t:Tr)(op:List Bool)(p q:List Int)(sort:Int):Bool:=bU t.cells.length (mu t.cells op sort) (aw (ao t) q) (aw (ao t) p) (eA (ao t))
def pg(t:Tr)(op:List Bool)(p q:List Int)(sort:Int):List Nat:=dQ t.cells.length (mu t.cells op sort) (aw (ao t) q) (aw (ao t) p) (eA (ao t))
def qq(js:List J)(ms:List Ms)(t:Tr)(p q:List Int)(w:Int):Bool:=decide (bF js ms=0)&&decide (t.root.length=js.length)&&decide (1<=w)&&jz t.root p&&jz t.root q
def ky(t:Tr)(op:List Bool)(k:Nat):Bool:=decide ((zy t k).kind=0)&&(op[k]?.getD false)
def jx(js:List J)(ms:List Ms)(t:Tr)(op:List Bool)(c:List Nat):Int×Int×Int:=match c.find? (ky t op)with
 |some k=>((k:Int),iS js ms (dU t (k:Int)),3)
 |none=>(-1,-1,0)
def og(js:List J)(ms:List Ms)(t:Tr)(op:List Bool)(p q:List Int):Int×Int×Int:=
 if p9 t op p q 0=true then(-1,-1,1)else if p9 t op p q 3=false then(-1,-1,2)
 else if p9 t op p q 1=true then jx js ms t op (pg t op p q 1)else if p9 t op p q 2=true then(-1,-1,5)else jx js ms t op (pg t op p q 3)
def rC(js:List J)(ms:List Ms)(t:Tr)(p q:List Int)(w:Int):Int×Int×Int:=if qq js ms t p q w&&ay t then og js ms t (gh js ms w t) p q else(-1,-1,0)
section
variable {n:Nat} {may may' has:Nat->Bool} {tch:Nat->Nat->Bool} (h:∀i,i<n->may i=may' i)
include h
theorem ED:∀i,i<=n->bI n may has i=bI n may' has i
 |0,_=>rfl
 |i+1,hi=>by simp only[bI];rw[ED i (by omega),h i (by omega)]
theorem EE(s:BS)(k:Nat):∀i,i<=n->bJ may tch s k i=bJ may' tch s k i
 |0,_=>rfl
 |i+1,hi=>by
  simp only[bJ]
  have e:vd may tch (bJ may' tch s k i) k i=vd may' tch (bJ may' tch s k i) k i:=by unfold vd;rw[h i (by omega)]
  rw[EE s k i (by omega),e]
theorem A3:∀k,bK n may has tch k=bK n may' has tch k
 |0=>by simp only[bK];exact ED h n (Nat.le_refl _)
 |k+1=>by simp only[bK];rw[A3 k,EE h _ _ n (Nat.le_refl _)]
theorem FN{hasF:Nat->Bool}:bU n may has hasF tch=bU n may' has hasF tch∧dQ n may has hasF tch=dQ n may' has hasF tch:=by
 have e1:kA n may has hasF tch=kA n may' has hasF tch:=by unfold kA;rw[A3 h]
 have e2:bU n may has hasF tch=bU n may' has hasF tch:=by unfold bU;rw[e1]
 refine⟨e2,?_⟩;unfold dQ;rw[e1,e2,A3 h]
end
theorem IL{jn:List Int}{op:List Bool}{f:Int->Int->Bool}{sort:Int}(hv:ay t=true)(hf:∀i,i<t.cells.length->∀k:Int,f k ((jn[i]?).getD 0)=mP k sort (op[i]?.getD false))(i:Nat)(hi:i<t.cells.length):aZ {iF cc t with jn:=jn} f i=mu t.cells op sort i:=by
 have hc:t.cells[i]?=some t.cells[i]:=List.getElem?_eq_getElem hi;have e1:bo {iF cc t with jn:=jn} i=t.cells[i]:=Cu hc;have e2:iB {iF cc t with jn:=jn} i=(jn[i]?).getD 0:=rfl;unfold aZ mu;rw[e1,e2,hc,BA hv hc,hf i hi]
theorem HR(k j:Int)(o:Bool)(h:(j != -1)=o):qC k j=mP k 1 o:=by unfold qC;rw[h];rfl
theorem HZ(k j:Int)(o:Bool)(h:(j != -1)=o):vE k j=mP k 2 o:=by
 have:(j==-1)=!o:=by rw[<-h];simp[bne]
 unfold vE;rw[this];rfl
def qD(js:List J)(ms:List Ms)(w:Int)(b:Bx):Int:=if kY js ms w b then iS js ms b else -1
def d7(js:List J)(ms:List Ms)(w:Int)(t:Tr):List Int:=(ao t).map (qD js ms w)
theorem zz{b:Bx}:(qD js ms w b != -1)=kY js ms w b:=by
 unfold qD
 cases h:kY js ms w b with
 |false=>simp
 |true=>
  have:0<=iS js ms b:=by
   unfold kY at h;simp only[Bool.and_eq_true,decide_eq_true_eq]at h;exact h.1
  simp;omega
theorem mr(hv:ay t=true)(hi:i<t.cells.length):(d7 js ms w t)[i]?=some (qD js ms w (ff (ao t) i))∧(gh js ms w t)[i]?=some (kY js ms w (ff (ao t) i)):=by
 have hb:(ao t)[i]?=some (ff (ao t) i):=by
  have:=eN hv;simp[ff,List.getElem?_eq_getElem (by omega:i<(ao t).length)]
 simp[d7,gh,hb]
theorem rD{α:Type}{p q:α->Bool}:∀{l:List α},(∀x∈l,p x=q x)->l.find? p=l.find? q
 |[],_=>rfl
 |a::l,h=>by
  simp only[List.find?_cons];rw[h a (by simp),rD λx hx=>h x (by simp[hx])]
theorem zK(hv:ay t=true){c:List Nat}(hc:∀k∈c,k<t.cells.length):nu {iF cc t with jn:=d7 js ms w t} c=jx js ms t (gh js ms w t) c:=by
 have hp:∀k∈c,zg {iF cc t with jn:=d7 js ms w t} k=ky t (gh js ms w t) k:=by
  intro k hk;have hi:=hc k hk;obtain⟨a1,a2⟩:=mr (js:=js) (ms:=ms) (w:=w) hv hi;have hcl:t.cells[k]?=some t.cells[k]:=List.getElem?_eq_getElem hi;have e1:bo {iF cc t with jn:=d7 js ms w t} k=t.cells[k]:=Cu hcl
  have e2:iB {iF cc t with jn:=d7 js ms w t} k=qD js ms w (ff (ao t) k):=by unfold iB;simp only[a1];rfl
  have:=zz (js:=js) (ms:=ms) (w:=w) (b:=ff (ao t) k);unfold zg ky zy
  have e4:∀x:Int,decide (x≠-1)=(x != -1):=λx=>by by_cases h:x=-1<;>simp[h]
  rw[e1,e2,hcl,a2,Option.getD_some,<-this,e4]
 unfold nu jx;rw[rD hp]
 cases h:c.find? (ky t (gh js ms w t))with
 |none=>rfl
 |some k=>
  have hk:=List.mem_of_find?_eq_some h;have hi:=hc k hk;obtain⟨a1,a2⟩:=mr (js:=js) (ms:=ms) (w:=w) hv hi;have hq:=List.find?_some h;unfold ky at hq;rw[a2,Option.getD_some,Bool.and_eq_true]at hq
  have e2:iB {iF cc t with jn:=d7 js ms w t} k=qD js ms w (ff (ao t) k):=by unfold iB;simp only[a1];rfl
  have e3:qD js ms w (ff (ao t) k)=iS js ms (dU t (k:Int)):=by
   unfold qD;rw[if_pos hq.2];rfl
  simp only[e2,e3]
theorem FU{p q:List Int}(hv:ay t=true):rd {iF cc t with jn:=d7 js ms w t} t.cells.length p q (eA (ao t))=og js ms t (gh js ms w t) p q:=by
 have hop:∀i,i<t.cells.length->((((d7 js ms w t)[i]?).getD 0 != -1)=((gh js ms w t)[i]?).getD false):=by
  intro i hi;obtain⟨a1,a2⟩:=mr (js:=js) (ms:=ms) (w:=w) hv hi;rw[a1,a2];exact zz
 have m0:=FN (has:=aw (ao t) q) (tch:=eA (ao t)) (hasF:=aw (ao t) p) (IL (cc:=cc) (jn:=d7 js ms w t) (op:=gh js ms w t) (f:=qB) (sort:=0) hv λi _ k=>rfl);have m3:=FN (has:=aw (ao t) q) (tch:=eA (ao t)) (hasF:=aw (ao t) p) (IL (cc:=cc) (jn:=d7 js ms w t) (op:=gh js ms w t) (f:=mK) (sort:=3) hv λi _ k=>rfl);have m1:=FN (has:=aw (ao t) q) (tch:=eA (ao t)) (hasF:=aw (ao t) p) (IL (cc:=cc) (jn:=d7 js ms w t) (op:=gh js ms w t) (f:=qC) (sort:=1) hv λi hi k=>HR _ _ _ (hop i hi));have m2:=FN (has:=aw (ao t) q) (tch:=eA (ao t)) (hasF:=aw (ao t) p) (IL (cc:=cc) (jn:=d7 js ms w t) (op:=gh js ms w t) (f:=vE) (sort:=2) hv λi hi k=>HZ _ _ _ (hop i hi));have hb:(({iF cc t with jn:=d7 js ms w t}:Spc)).bx=ao t:=rfl;have l1:=Cs (n:=t.cells.length) (may:=mu t.cells (gh js ms w t) 1) (has:=aw (ao t) q) (hasF:=aw (ao t) p) (xL hv);have l3:=Cs (n:=t.cells.length) (may:=mu t.cells (gh js ms w t) 3) (has:=aw (ao t) q) (hasF:=aw (ao t) p) (xL hv);unfold rd og p9 pg;rw[hb,m0.1,m3.1,m1.1,m2.1,m1.2,m3.2,zK hv l1.2,zK hv l3.2]
theorem IK{b:Bx}(h:iS js ms b=-1):kY js ms w b=false:=by simp[kY,h]
theorem HB{b:Bx}{j:Nat}{x:Int×Int}(h:iS js ms b=(j:Int))(hx:b[j]?=some x):kY js ms w b=decide (w<x.2-x.1):=by
 have hj:(0:Int)<=(j:Int):=by omega
 unfold kY;rw[h,Int.toNat_natCast,hx,decide_eq_true hj,Bool.true_and]
theorem Kx(js:List J)(ms:List Ms)(b:Bx)(w:Int)(hjl:js.length<=9223372036854775807)(hml:ms.length<=9223372036854775807)(hbl:b.length<=9223372036854775807):aa Tryz.prog 35 [.pv (ja js ms),.pv (iv b),.pv (Z w)] [] [] (.pv (Z (qD js ms w b))):=by
 have cw:=NG js ms b hjl hml hbl;rcases Bb js ms b with hj|⟨j,hj,hjl2,_,hv,x,hx,hw2⟩
 .have e:qD js ms w b=-1:=by unfold qD;rw[IK hj];rfl
  rw[e];rw[hj]at cw;refine Dp Tryz.func35 ?_;intro C hP hN;simp only[Tryz.f35]at hN|-;exact Gy
 .have e:qD js ms w b=if w<x.2-x.1 then(j:Int)else -1:=by
   unfold qD;rw[HB hj hx,hj];by_cases h:w<x.2-x.1<;>simp[h]
  rw[e];rw[hj]at cw;have hxe:∀h,b[j]'h=x:=λh=>fy hx h;have hvx:=ej.1 (ey.1 hv _ (List.mem_of_getElem? hx));have hwx:IntKind.i64.wrap (x.2-x.1)=x.2-x.1:=ab
  have hj1:¬(j:Int)=-1:=by omega
  by_cases h:w<x.2-x.1
  .have h':¬x.2-x.1<=w:=by omega
   rw[if_pos h];refine Dp Tryz.func35 ?_;intro C hP hN;simp only[Tryz.f35]at hN|-;exact Gy
  .have h':x.2-x.1<=w:=by omega
   rw[if_neg h];refine Dp Tryz.func35 ?_;intro C hP hN;simp only[Tryz.f35]at hN|-;exact Gy
theorem NW(t:Tr)(v:Verd)(ht:TSm t)(hvv:CQ 16777216 v)(hyes:cX t 0 v=true):kC Tryz.prog 73 ([da t,Z 0,k7 v].map .pv) iX (λr h'=>r=.tup [.agg ([iv t.root].map .pv++[.arr 291 ((dE t 0 v).cells.map aW).length]),.pv (B true)]∧h'=eh 91 8 ((dE t 0 v).cells.map aW)):=by
 have hT:dE t 0 v=eI t 0 v:=by unfold dE;rw[if_pos hyes];rfl
 have hparts:=hyes;simp only[cX,Bool.and_eq_true,decide_eq_true_eq]at hparts;obtain⟨⟨⟨⟨⟨hv,_⟩,h0⟩,hlf⟩,h3⟩,hf⟩:=hparts
 have hlt:0<t.cells.length:=by omega
 have hl:=ht.cells;have cb:=Jw t (by omega);rw[hv]at cb
 have hne:t.cells≠[]:=by intro e;rw[e]at hlt;simp at hlt
 have cc:=Gr t ht hne;generalize hc:t.cells[0]=c at *
 have hci:t.cells[0]?=some c:=by rw[List.getElem?_eq_getElem hlt,hc]
 have hlf:cO c=true:=by simpa[dZ,hci]using hlf
 have h3:c.v.kind=0:=by simpa[zy,hci]using h3
 have cl:=Gg c;have cf:=Ju v;have cv:=JD v hvv;rw[hlf]at cl;rw[hf]at cf
 have h3':(c.v.kind !=0)=false:=by simp[h3]
 have hcl:=wh hlf
 have q1:c.joint=-1:=by rw[hcl];rfl
 have q2:c.low=-1:=by rw[hcl];rfl
 have q3:c.high=-1:=by rw[hcl];rfl
 clear hcl
 have hlen:((eI t 0 v).cells.map aW).length=t.cells.length:=by simp[eI]
 rw[hT,hlen]
 have hrow:(t.cells.map aW).set 0 (aW (aP v))=(eI t 0 v).cells.map aW:=by simp[eI,List.map_set]
 clear hyes ht hvv hl
 have hlt2:¬(t.cells.length:Int)<=0:=by omega
 refine B8 Tryz.func73 vi ?_;intro C hP hN;simp only[Tryz.f73]at hN|-
 with_reducible iterate 7 any_goals (first|refine Sp.h ?_|((first|refine Wd ?_|refine Ss.h ?_|refine Sc.h (cc) ?_|(refine Sb.h ?_ ?_ ?_<;>(try intro hgd)<;>try exact Xy))<;>simp -implicitDefEqProofs (maxSteps:=2000000) [hP,hN,pO,iX,hlt,hci,hc,h3']<;>try refine Yc ?_)|refine X2 ?_ ?_|(refine Xd ?_ ?_<;>intro hcd<;>try exact Xx))
 refine D6 10 291 (e:=91) (sz:=8) (fz:=0) (xs:=t.cells.map aW) (by simp[ah,iX]) (by simp[ah,iX]) (by omega) (by omega) ?_
 refine WP.of_st (P:=λst=>st.t 1=.pv (Z 0)∧st.t 3=.ptr 3 0∧st.t 5=.ptr 5 0∧st.t 6=.ptr 6 0∧st.t 7=.ptr 7 0∧st.h 3=some (.box [.pv (iv t.root),.pv (.sl (t.cells.map aW))] true false)∧st.h 5=some (.box [.pv (Z v.kind),.pv (bQ v.nor),.pv (Z v.pair),.pv (zs v.left),.pv (zs v.right)] true false)∧st.h 6=some (.box [.pv (iv t.root),.arr 291 t.cells.length] true false)∧st.h 7=some (.box [.pv (B false)] true false)∧st.h 291=some (.row 91 8 (t.cells.map aW) 0)∧∀k,290<=k->k≠291->st.h k=none)
  ⟨⟨by simp[aY,aN,ah],by simp[aY,aN,rk,ah],by simp[aY,aN,rk,ah],by simp[aY,aN,rk,ah],by simp[aY,aN,rk,ah],by simp[aL,bN,aY,aN,rk,ah],by simp[aL,bN,aY,aN,rk,ah],by simp[aL,bN,aY,aN,rk,ah],by simp[aL,bN,aY,aN,rk,ah],by simp[aL,bN,ah],λk h1 h2=>?_⟩,?_⟩
 .simp[aL,ah,iX,h2,show¬k=3 by omega,show¬k=5 by omega,show¬k=6 by omega,show¬k=7 by omega,show¬k=10 by omega]
 rintro st ⟨g1,g3,g5,g6,g7,b3,b5,b6,b7,b291,bhi⟩
 with_reducible repeat' (first|refine Sp.h ?_|((first|refine Wd ?_|refine Ss.h ?_|refine Sc.h (cb) ?_|refine Sc.h (cl) ?_|refine Sc.h (cf) ?_|refine Sc.h (cv) ?_|(refine Sb.h ?_ ?_ ?_<;>(try intro hgd)<;>try exact Xy))<;>simp -implicitDefEqProofs (maxSteps:=2000000) [hP,hN,g1,g3,g5,g6,g7,b3,b5,b6,b7,b291,hlt,hlt2,hne,hci,hc,h3']<;>try refine Yc ?_)|refine X2 ?_ ?_|(refine Xd ?_ ?_<;>intro hcd<;>try exact Xx))
 have hk:291≠6:=by omega
 refine qL (H:=eh 91 8 ((eI t 0 v).cells.map aW)) (r:=.tup [.agg [.pv (iv t.root),.arr 291 t.cells.length],.pv (B true)]) (by simp[kK,jr,g6,g7]) rfl (λk hk=>?_) ⟨λk b hb=>?_,λk b o hb=>?_,λk b hb=>?_,λk cs o f hb=>?_⟩ ⟨rfl,rfl⟩ (λk cs f hk=>by cases hk)
 .simp only[inK,Bool.and_eq_true,decide_eq_true_eq]at hk
  by_cases e:k=291
  .subst e
   simp only[eh,if_true,<-hrow];simp[ah,q1,q2,q3,aP]
  .simp[eh,ah,e,show¬k=6 by omega,show¬k=7 by omega]
   exact bhi k hk.1 e
 .obtain⟨rfl,_⟩:=eB hb;rfl
 .obtain⟨_,rfl⟩:=eB hb;simp[Blk.frz]
 .obtain⟨_,rfl⟩:=eB hb;rfl
 .obtain⟨_,h9⟩:=eB hb;cases h9
set_option maxRecDepth 100000 in
@[simp] theorem Np:dp Tryz.prog 69:=by
 have hf:=Tryz.func69;have nt:=Tryz.ntmps69;have rs:=Tryz.results69;exact wY
theorem NY(sc:Sce)(t:Tr)(c:Cel)(hs:ScL sc)(ht:TSm t)(h0:eu sc=0)(hb:iK t 0=true)(hi:lq sc.js sc.ms (fP t 0)=true)(hc:t.cells[0]?=some c)(hbl:(fP t 0).length<=9223372036854775807)(hnl:c.v.nor.length<=9223372036854775807)
 (hvv:CQ 16777216 (dN (eS sc (fP t 0) c.v.nor)))(hyes:cX t 0 (dN (eS sc (fP t 0) c.v.nor))=true):
 kC Tryz.prog 33 ([jG sc,da t,Z 0].map .pv) iX (λr h'=>r=.tup [.agg ([iv t.root].map .pv++[.arr 291 ((dE t 0 (dN (eS sc (fP t 0) c.v.nor))).cells.map aW).length]),.pv (B true)]∧h'=eh 91 8 ((dE t 0 (dN (eS sc (fP t 0) c.v.nor))).cells.map aW)):=by
 have cS:=NW t _ ht hvv hyes;have cs:=EV sc hs;have ci:=NF sc.js sc.ms (fP t 0) hs.js hs.ms;have co:=OX t 0 (by have:=ht.cells;omega);have cB:=KA sc (fP t 0) c.v.nor hs hbl hnl;rw[h0]at cs;rw[hi]at ci;rw[hb]at co;have hlt:0<t.cells.length:=(List.getElem?_eq_some_iff.1 hc).1;have hc':∀h,t.cells[0]'h=c:=λh=>fy hc h
 have hYl:((dE t 0 (dN (eS sc (fP t 0) c.v.nor))).cells.map aW).length=t.cells.length:=by
  unfold dE;rw[if_pos hyes];simp[eI]
 have hlt2:¬(t.cells.length:Int)<=0:=by omega
 have hne:t.cells≠[]:=by intro e;rw[e]at hlt;simp at hlt
 have henc:k7 (dN (eS sc (fP t 0) c.v.nor))=zW (eS sc (fP t 0) c.v.nor):=rfl;rw[henc]at cS;clear henc hyes hvv hi hbl hnl ht;generalize(dE t 0 (dN (eS sc (fP t 0) c.v.nor))).cells.map aW=Y at *;generalize eS sc (fP t 0) c.v.nor=V at *;generalize fP t 0=bx at *;refine B8 Tryz.func33 vi ?_;intro C hP hN;simp only[Tryz.f33]at hN|-
 with_reducible repeat' (first|refine Sp.h ?_|((with_unfolding_all refine WP.drawX (hn:=[]) 12 rfl (by rw[hP];kernel_rfl) (by kernel_rfl) ?_);simp -implicitDefEqProofs (maxSteps:=2000000) [hP,hN,pO,iX,hlt,hlt2,hne,hc,hc'])|((first|refine Wd ?_|refine Ss.h ?_|refine Sc.h (cs) ?_|refine Sc.h (ci) ?_|refine Sc.h (co) ?_|refine Sc.h (cB) ?_|(refine Sb.h ?_ ?_ ?_<;>(try intro hgd)<;>try exact Xy))<;>simp -implicitDefEqProofs (maxSteps:=2000000) [hP,hN,pO,iX,hlt,hlt2,hne,hc,hc']<;>try refine Yc ?_)|refine X2 ?_ ?_|(refine Xd ?_ ?_<;>intro hcd<;>try exact Xx))
 refine⟨_,D5 (f:=.func 73) (xs:=[.tmp 33,.tmp 34,.tmp 44]) (g:=73) (d:=45) rfl rfl rfl (by simp[bX]) (by simp[ah,iX]) rfl (by simp[St.ev]) cS,?_⟩;simp -implicitDefEqProofs (maxSteps:=2000000) [hP,hN,hlt,hc,hc',iX];refine Ya ?_;refine D6 45 291 (e:=91) (sz:=8) (fz:=0) (xs:=Y) (by simp[ah,iX]) (by simp[ah,iX]) (by omega) (by omega) ?_
 refine WP.of_st (P:=λst=>st.t 6=.ptr 6 0∧st.t 7=.ptr 7 0∧st.h 6=some (.box [.pv (iv t.root),.arr 291 Y.length] true false)∧st.h 7=some (.box [.pv (B true)] true false)∧st.h 291=some (.row 91 8 Y 0)∧∀k,290<=k->k≠291->st.h k=none)
  ⟨⟨by simp[aY,aN,rk,ah],by simp[aY,aN,rk,ah],by simp[aL,bN,aY,aN,rk,ah],by simp[aL,bN,aY,aN,rk,ah],by simp[aL,bN,ah],λk h1 h2=>?_⟩,?_⟩
 .simp[aL,ah,iX,h2,show¬k=3 by omega,show¬k=4 by omega,show¬k=6 by omega,show¬k=7 by omega,show¬k=45 by omega]
 rintro st ⟨g6,g7,b6,b7,b291,bhi⟩
 with_reducible repeat' (first|refine Sp.h ?_|((first|refine Wd ?_|refine Ss.h ?_|(refine Sb.h ?_ ?_ ?_<;>(try intro hgd)<;>try exact Xy))<;>simp -implicitDefEqProofs (maxSteps:=2000000) [hP,hN,g6,g7,b6,b7,b291]<;>try refine Yc ?_)|refine X2 ?_ ?_|(refine Xd ?_ ?_<;>intro hcd<;>try exact Xx))
 rw[hYl];refine qL (H:=eh 91 8 Y) (r:=.tup [.agg [.pv (iv t.root),.arr 291 t.cells.length],.pv (B true)]) (by simp[kK,jr,g6,g7,b6,b7,hYl]) rfl (λk hk=>?_) ⟨λk b hb=>?_,λk b o hb=>?_,λk b hb=>?_,λk cs o f hb=>?_⟩ ⟨rfl,rfl⟩ (λk cs f hk=>by cases hk)
 .simp only[inK,Bool.and_eq_true,decide_eq_true_eq]at hk
  by_cases e:k=291
  .subst e;simp[eh,b291]
  .simp[eh,e]
   exact bhi k hk.1 e
 .obtain⟨rfl,_⟩:=eB hb;rfl
 .obtain⟨_,rfl⟩:=eB hb;simp[Blk.frz]
 .obtain⟨_,rfl⟩:=eB hb;rfl
 .obtain⟨_,h9⟩:=eB hb;cases h9
end Go.Ab
